/-
  The tables that the calculus asks of this seat's program: types, fields, functions. Conditions: none. Written by a program (wip/tools/tab.py).
-/
import Derived.Test.YtacndicgpkeobaaGreatDoorShArr
import Derived.Test.YtacndicgpkeobaaGreatDoorRows
namespace Go.Proofs.YtacndicgpkeobaaGreatDoor

def tyC (P : Program) (t : Nat) : Option (Bool × Nat × Nat × List Value) := match P.underlying t, P.info? t with
  | some d, some i => i.zero.map fun z => (isAggD d, i.size, i.bytes, z.cells.toList)
  | _, _ => none
theorem tyC_F {P : Program} {t : Nat} {r : Bool × Nat × Nat × List Value} (h : tyC P t = some r) : tyF P t r := by
  unfold tyC at h
  split at h
  · rename_i d i hd hi
    cases hz : i.zero with
    | none => rw [hz] at h; cases h
    | some z =>
      rw [hz] at h
      simp only [Option.map_some, Option.some.injEq] at h
      subst h
      exact ⟨d, i, z, hd, hi, rfl, rfl, rfl, hz, rfl⟩
  · cases h
def flC (P : Program) (s : Nat) : Option Nat := match P.underlying (s / 100) with
  | some (.struct fs) => match fs[s % 100]? with
    | some f => match P.info? f.type with
      | some j => match Nat.beq j.size 0 with
        | false => some f.offset
        | true => none
      | none => none
    | none => none
  | _ => none
theorem flC_F {P : Program} {s off : Nat} (h : flC P s = some off) : flF P s off := by
  unfold flC at h
  split at h
  · rename_i fs hfs
    split at h
    · rename_i f hf
      split at h
      · rename_i j hj
        split at h
        · rename_i hb
          injection h with h
          refine ⟨fs, f, j, hfs, hf, hj, fun h0 => ?_, h⟩
          rw [h0] at hb
          cases hb
        · cases h
      · cases h
    · cases h
  · cases h
def elC (P : Program) (t : Nat) : Option (Nat × Nat × Bool) := match P.underlying t with
  | some (.slice e) => some (e, 0, false)
  | some (.array n e) => some (e, n, true)
  | _ => none
theorem elC_F {P : Program} {t : Nat} {r : Nat × Nat × Bool} (h : elC P t = some r) : elF P t r := by
  unfold elC at h
  split at h
  · rename_i e he
    injection h with h
    subst h
    exact .inl ⟨rfl, he⟩
  · rename_i n e he
    injection h with h
    subst h
    exact .inr ⟨rfl, he⟩
  · cases h
def bdC (P : Program) (t : Nat) : Option (List (Nat × Option Nat)) := match P.underlying t with
  | some (.struct fs) => some (fs.toList.map fun f => (f.offset, (P.info? f.type).map (·.size)))
  | _ => none
theorem bdC_F {P : Program} {t : Nat} {r : List (Nat × Nat)} (h : bdC P t = some (r.map fun x => (x.1, some x.2))) : bdF P t r := by
  unfold bdC at h
  split at h
  · rename_i fs hfs
    injection h with h
    exact ⟨fs, hfs, h⟩
  · cases h
def kdC (P : Program) (t : Nat) : Option IntKind := match P.underlying t with
  | some (.int k) => some k
  | _ => none
theorem kdC_F {P : Program} {t : Nat} {k : IntKind} (h : kdC P t = some k) : kdF P t k := by
  unfold kdC at h
  split at h
  · rename_i k' hk
    injection h with h
    subst h
    exact hk
  · cases h
def enC (P : Program) (f : Nat) : Bool := match P.funcs[f]? with
  | some fn => !(fn.name == "runtime.NumGoroutine") && fn.body.isSome
  | none => false
theorem enC_F {P : Program} {f : Nat} (h : enC P f = true) : Enters P f := by
  unfold enC at h
  split at h
  · rename_i fn hfn
    simp only [Bool.and_eq_true, Bool.not_eq_true'] at h
    obtain ⟨c, hc⟩ := Option.isSome_iff_exists.1 h.2
    exact enters_of hfn h.1 hc
  · cases h
theorem map_all {α β : Type} {f g : α → β} : ∀ {l : List α}, l.map f = l.map g → ∀ p ∈ l, f p = g p
  | [], _, p, hp => by cases hp
  | x :: t, h, p, hp => by
    simp only [List.map_cons, List.cons.injEq] at h
    rcases List.mem_cons.1 hp with rfl | hp
    · exact h.1
    · exact map_all h.2 p hp

def tbTy : List (Nat × (Bool × Nat × Nat × List Value)) := [
  (1, (false, 1, 8, [.nilFunc])),
  (2, (false, 1, 8, [.int .i64 0])),
  (3, (false, 1, 8, [.int .i64 0])),
  (4, (false, 1, 1, [.bool false])),
  (5, (false, 1, 1, [.int .u8 0])),
  (6, (false, 1, 1, [.int .u8 0])),
  (7, (true, 4, 24, [.int .i64 0, .int .i64 0, .bool false, .int .u8 0])),
  (8, (true, 4, 24, [.int .i64 0, .int .i64 0, .bool false, .int .u8 0])),
  (9, (false, 1, 16, [.string ⟨#[]⟩])),
  (10, (false, 1, 16, [.string ⟨#[]⟩])),
  (11, (false, 1, 16, [.string ⟨#[]⟩])),
  (12, (false, 1, 8, [.int .u64 0])),
  (13, (true, 2, 24, [.string ⟨#[]⟩, .int .u64 0])),
  (14, (true, 2, 24, [.string ⟨#[]⟩, .int .u64 0])),
  (15, (false, 1, 8, [.pointer none])),
  (16, (false, 1, 8, [.pointer none])),
  (17, (false, 1, 8, [.pointer none])),
  (18, (true, 1, 8, [.pointer none])),
  (19, (true, 1, 8, [.pointer none])),
  (20, (false, 1, 16, [.nilIface])),
  (21, (false, 1, 4, [.int .i32 0])),
  (22, (false, 1, 24, [.slice none 0 0])),
  (23, (false, 1, 24, [.slice none 0 0])),
  (24, (false, 1, 24, [.slice none 0 0])),
  (25, (true, 7, 56, [.int .i64 0, .int .i64 0, .int .i64 0, .int .i64 0, .int .i64 0, .int .i64 0, .int .i64 0])),
  (26, (true, 7, 56, [.int .i64 0, .int .i64 0, .int .i64 0, .int .i64 0, .int .i64 0, .int .i64 0, .int .i64 0])),
  (27, (true, 12, 144, [.slice none 0 0, .slice none 0 0, .int .i64 0, .int .i64 0, .slice none 0 0, .int .i64 0, .int .i64 0, .int .i64 0, .int .i64 0, .int .i64 0, .int .i64 0, .int .i64 0])),
  (28, (true, 12, 144, [.slice none 0 0, .slice none 0 0, .int .i64 0, .int .i64 0, .slice none 0 0, .int .i64 0, .int .i64 0, .int .i64 0, .int .i64 0, .int .i64 0, .int .i64 0, .int .i64 0])),
  (29, (true, 2, 16, [.int .i64 0, .int .i64 0])),
  (30, (true, 2, 16, [.int .i64 0, .int .i64 0])),
  (31, (false, 1, 24, [.slice none 0 0])),
  (32, (false, 1, 8, [.nilFunc])),
  (33, (false, 1, 8, [.nilFunc])),
  (34, (false, 1, 8, [.int .i64 0])),
  (36, (false, 1, 8, [.nilFunc])),
  (37, (false, 1, 8, [.nilFunc])),
  (38, (false, 1, 24, [.slice none 0 0])),
  (40, (false, 1, 8, [.nilFunc])),
  (41, (false, 1, 8, [.nilFunc])),
  (43, (false, 1, 8, [.nilFunc])),
  (44, (false, 1, 8, [.nilFunc])),
  (45, (false, 1, 8, [.nilFunc])),
  (46, (false, 1, 8, [.nilFunc])),
  (47, (false, 1, 8, [.nilFunc])),
  (48, (false, 1, 8, [.nilFunc])),
  (50, (false, 1, 8, [.nilFunc])),
  (51, (false, 1, 8, [.nilFunc])),
  (52, (false, 1, 8, [.nilFunc])),
  (53, (false, 1, 8, [.nilFunc])),
  (55, (false, 1, 8, [.nilFunc])),
  (56, (false, 1, 8, [.nilFunc])),
  (57, (false, 1, 8, [.nilFunc])),
  (59, (false, 1, 8, [.nilFunc])),
  (60, (false, 1, 8, [.nilFunc])),
  (61, (false, 1, 24, [.slice none 0 0])),
  (62, (true, 2, 16, [.int .i64 0, .int .i64 0])),
  (63, (true, 2, 16, [.int .i64 0, .int .i64 0])),
  (64, (true, 9, 88, [.slice none 0 0, .int .i64 0, .int .i64 0, .int .i64 0, .int .i64 0, .int .i64 0, .int .i64 0, .int .i64 0, .int .i64 0])),
  (65, (true, 9, 88, [.slice none 0 0, .int .i64 0, .int .i64 0, .int .i64 0, .int .i64 0, .int .i64 0, .int .i64 0, .int .i64 0, .int .i64 0])),
  (66, (false, 1, 8, [.nilFunc])),
  (67, (false, 1, 8, [.nilFunc])),
  (68, (false, 1, 8, [.nilFunc])),
  (69, (false, 1, 8, [.nilFunc])),
  (70, (false, 1, 8, [.nilFunc])),
  (72, (false, 1, 8, [.nilFunc])),
  (73, (false, 1, 8, [.nilFunc])),
  (74, (false, 1, 8, [.nilFunc])),
  (76, (false, 1, 8, [.nilFunc])),
  (77, (false, 1, 8, [.nilFunc])),
  (78, (false, 1, 24, [.slice none 0 0])),
  (79, (true, 2, 48, [.slice none 0 0, .slice none 0 0])),
  (80, (true, 2, 48, [.slice none 0 0, .slice none 0 0])),
  (81, (false, 1, 8, [.nilFunc])),
  (83, (false, 1, 8, [.nilFunc])),
  (85, (false, 1, 8, [.nilFunc])),
  (86, (false, 1, 8, [.nilFunc])),
  (87, (false, 1, 8, [.nilFunc])),
  (88, (false, 1, 8, [.nilFunc])),
  (89, (false, 1, 8, [.nilFunc])),
  (90, (false, 1, 8, [.nilFunc])),
  (91, (false, 1, 8, [.nilFunc])),
  (93, (false, 1, 8, [.nilFunc])),
  (94, (false, 1, 8, [.nilFunc])),
  (96, (false, 1, 8, [.nilFunc])),
  (97, (false, 1, 8, [.nilFunc])),
  (98, (false, 1, 8, [.nilFunc])),
  (99, (true, 12, 144, [.slice none 0 0, .slice none 0 0, .int .i64 0, .int .i64 0, .slice none 0 0, .int .i64 0, .int .i64 0, .int .i64 0, .int .i64 0, .int .i64 0, .int .i64 0, .int .i64 0])),
  (100, (true, 12, 144, [.slice none 0 0, .slice none 0 0, .int .i64 0, .int .i64 0, .slice none 0 0, .int .i64 0, .int .i64 0, .int .i64 0, .int .i64 0, .int .i64 0, .int .i64 0, .int .i64 0])),
  (102, (false, 1, 8, [.nilFunc])),
  (103, (false, 1, 8, [.nilFunc])),
  (104, (false, 1, 8, [.nilFunc])),
  (105, (false, 1, 8, [.nilFunc])),
  (106, (false, 1, 8, [.nilFunc])),
  (107, (false, 1, 8, [.nilFunc])),
  (108, (false, 1, 8, [.nilFunc])),
  (109, (true, 2, 16, [.int .i64 0, .int .i64 0])),
  (110, (true, 2, 16, [.int .i64 0, .int .i64 0])),
  (111, (true, 3, 24, [.int .i64 0, .int .i64 0, .int .i64 0])),
  (112, (true, 3, 24, [.int .i64 0, .int .i64 0, .int .i64 0])),
  (113, (false, 1, 8, [.nilFunc])),
  (114, (false, 1, 8, [.nilFunc])),
  (115, (false, 1, 8, [.nilFunc])),
  (116, (true, 3, 24, [.int .i64 0, .int .i64 0, .int .i64 0])),
  (117, (true, 3, 24, [.int .i64 0, .int .i64 0, .int .i64 0])),
  (118, (false, 1, 8, [.nilFunc])),
  (119, (true, 4, 32, [.int .i64 0, .int .i64 0, .int .i64 0, .int .i64 0])),
  (120, (true, 4, 32, [.int .i64 0, .int .i64 0, .int .i64 0, .int .i64 0])),
  (121, (true, 2, 16, [.int .i64 0, .int .i64 0])),
  (122, (true, 2, 16, [.int .i64 0, .int .i64 0])),
  (124, (false, 1, 8, [.nilFunc])),
  (126, (false, 1, 8, [.nilFunc])),
  (127, (false, 1, 8, [.nilFunc])),
  (128, (false, 1, 8, [.nilFunc])),
  (129, (true, 5, 40, [.int .i64 0, .int .i64 0, .int .i64 0, .int .i64 0, .int .i64 0])),
  (130, (true, 5, 40, [.int .i64 0, .int .i64 0, .int .i64 0, .int .i64 0, .int .i64 0])),
  (131, (false, 1, 8, [.nilFunc])),
  (132, (false, 1, 8, [.nilFunc])),
  (133, (true, 4, 32, [.int .i64 0, .int .i64 0, .int .i64 0, .int .i64 0])),
  (134, (true, 4, 32, [.int .i64 0, .int .i64 0, .int .i64 0, .int .i64 0])),
  (135, (false, 1, 8, [.pointer none])),
  (136, (false, 1, 24, [.slice none 0 0])),
  (137, (true, 2, 32, [.pointer none, .slice none 0 0])),
  (138, (true, 2, 32, [.pointer none, .slice none 0 0])),
  (139, (false, 1, 16, [.nilIface])),
  (140, (false, 1, 16, [.nilIface])),
  (142, (false, 1, 8, [.nilFunc])),
  (143, (true, 4, 32, [.int .i64 0, .int .i64 0, .int .i64 0, .int .i64 0])),
  (144, (false, 1, 8, [.nilFunc])),
  (145, (false, 1, 8, [.nilFunc])),
  (146, (false, 1, 8, [.nilFunc])),
  (147, (false, 1, 8, [.nilFunc])),
  (148, (false, 1, 8, [.nilFunc])),
  (149, (false, 1, 8, [.nilFunc])),
  (150, (false, 1, 8, [.nilFunc])),
  (151, (false, 1, 8, [.nilFunc])),
  (153, (false, 1, 8, [.nilFunc])),
  (154, (false, 1, 24, [.slice none 0 0])),
  (155, (false, 1, 8, [.nilFunc])),
  (157, (false, 1, 8, [.nilFunc])),
  (158, (false, 1, 8, [.nilFunc])),
  (159, (false, 1, 24, [.slice none 0 0])),
  (160, (true, 4, 72, [.string ⟨#[]⟩, .int .i64 0, .slice none 0 0, .slice none 0 0])),
  (161, (true, 4, 72, [.string ⟨#[]⟩, .int .i64 0, .slice none 0 0, .slice none 0 0])),
  (162, (false, 1, 8, [.nilFunc])),
  (163, (false, 1, 8, [.nilFunc])),
  (164, (false, 1, 8, [.nilFunc])),
  (166, (false, 1, 8, [.nilFunc])),
  (167, (false, 1, 8, [.nilFunc])),
  (168, (false, 1, 24, [.slice none 0 0])),
  (169, (false, 1, 8, [.nilFunc])),
  (170, (false, 1, 8, [.pointer none])),
  (171, (false, 1, 24, [.slice none 0 0])),
  (172, (true, 2, 40, [.string ⟨#[]⟩, .slice none 0 0])),
  (173, (true, 2, 40, [.string ⟨#[]⟩, .slice none 0 0])),
  (174, (true, 2, 16, [.int .i64 0, .int .i64 0])),
  (175, (true, 2, 16, [.int .i64 0, .int .i64 0])),
  (176, (false, 1, 8, [.nilFunc])),
  (177, (false, 1, 8, [.pointer none])),
  (178, (false, 1, 8, [.nilFunc])),
  (179, (false, 1, 8, [.nilFunc])),
  (180, (false, 1, 8, [.nilFunc])),
  (181, (false, 1, 8, [.nilFunc])),
  (183, (false, 1, 8, [.nilFunc])),
  (185, (false, 1, 8, [.nilFunc])),
  (186, (false, 1, 8, [.nilFunc])),
  (187, (false, 1, 8, [.nilFunc])),
  (188, (false, 1, 8, [.nilFunc])),
  (189, (false, 1, 8, [.nilFunc])),
  (190, (false, 1, 8, [.nilFunc])),
  (191, (false, 1, 8, [.nilFunc])),
  (193, (false, 1, 8, [.nilFunc])),
  (194, (false, 1, 8, [.nilFunc])),
  (195, (false, 1, 8, [.nilFunc])),
  (196, (false, 1, 8, [.nilFunc])),
  (197, (false, 1, 8, [.nilFunc])),
  (198, (true, 7, 56, [.int .i64 0, .int .i64 0, .int .i64 0, .int .i64 0, .int .i64 0, .int .i64 0, .int .i64 0])),
  (199, (true, 7, 56, [.int .i64 0, .int .i64 0, .int .i64 0, .int .i64 0, .int .i64 0, .int .i64 0, .int .i64 0])),
  (200, (false, 1, 8, [.nilFunc])),
  (201, (false, 1, 8, [.nilFunc])),
  (202, (false, 1, 8, [.nilFunc])),
  (203, (false, 1, 8, [.nilFunc])),
  (204, (false, 1, 8, [.nilFunc])),
  (205, (false, 1, 8, [.nilFunc])),
  (206, (false, 1, 8, [.nilFunc])),
  (207, (true, 8, 96, [.slice none 0 0, .slice none 0 0, .int .i64 0, .int .i64 0, .int .i64 0, .int .i64 0, .int .i64 0, .int .i64 0])),
  (208, (true, 8, 96, [.slice none 0 0, .slice none 0 0, .int .i64 0, .int .i64 0, .int .i64 0, .int .i64 0, .int .i64 0, .int .i64 0])),
  (209, (false, 1, 8, [.nilFunc])),
  (211, (false, 1, 8, [.nilFunc])),
  (212, (false, 1, 24, [.slice none 0 0])),
  (213, (false, 1, 24, [.slice none 0 0])),
  (214, (false, 1, 8, [.nilFunc])),
  (215, (false, 1, 8, [.nilFunc])),
  (216, (false, 1, 8, [.nilFunc])),
  (217, (false, 1, 8, [.nilFunc])),
  (218, (false, 1, 8, [.nilFunc])),
  (219, (false, 1, 8, [.nilFunc])),
  (220, (false, 1, 8, [.pointer none])),
  (221, (false, 1, 8, [.nilFunc])),
  (223, (false, 1, 8, [.nilFunc])),
  (224, (false, 1, 8, [.nilFunc])),
  (225, (false, 1, 8, [.pointer none])),
  (226, (true, 4, 32, [.pointer none, .pointer none, .pointer none, .pointer none])),
  (227, (false, 1, 8, [.nilFunc])),
  (228, (false, 1, 8, [.nilFunc])),
  (229, (false, 1, 24, [.slice none 0 0])),
  (230, (false, 1, 8, [.nilFunc])),
  (231, (true, 9, 72, [.int .i64 0, .int .i64 0, .int .i64 0, .int .i64 0, .int .i64 0, .int .i64 0, .int .i64 0, .int .i64 0, .int .i64 0])),
  (232, (true, 9, 72, [.int .i64 0, .int .i64 0, .int .i64 0, .int .i64 0, .int .i64 0, .int .i64 0, .int .i64 0, .int .i64 0, .int .i64 0])),
  (233, (false, 1, 8, [.nilFunc])),
  (235, (false, 1, 8, [.nilFunc])),
  (236, (false, 1, 8, [.nilFunc])),
  (237, (false, 1, 8, [.nilFunc])),
  (238, (false, 1, 8, [.nilFunc])),
  (239, (true, 3, 24, [.int .i64 0, .int .i64 0, .int .i64 0])),
  (240, (true, 3, 24, [.int .i64 0, .int .i64 0, .int .i64 0])),
  (241, (false, 1, 8, [.nilFunc])),
  (242, (false, 1, 8, [.nilFunc])),
  (243, (false, 1, 8, [.nilFunc])),
  (244, (true, 3, 3, [.bool false, .bool false, .bool false])),
  (245, (false, 1, 8, [.nilFunc])),
  (246, (false, 1, 8, [.nilFunc])),
  (247, (false, 1, 8, [.nilFunc])),
  (248, (true, 2, 16, [.int .i64 0, .int .i64 0])),
  (249, (false, 1, 8, [.nilFunc])),
  (250, (false, 1, 8, [.nilFunc])),
  (251, (false, 1, 24, [.slice none 0 0])),
  (252, (false, 1, 8, [.nilFunc])),
  (253, (false, 1, 8, [.nilFunc])),
  (254, (false, 1, 8, [.nilFunc])),
  (255, (false, 1, 24, [.slice none 0 0])),
  (256, (false, 1, 8, [.nilFunc])),
  (257, (false, 1, 8, [.nilFunc])),
  (258, (true, 3, 24, [.int .i64 0, .int .i64 0, .int .i64 0])),
  (259, (true, 3, 24, [.int .i64 0, .int .i64 0, .int .i64 0])),
  (260, (false, 1, 8, [.nilFunc])),
  (261, (false, 1, 8, [.nilFunc])),
  (262, (false, 1, 8, [.nilFunc])),
  (263, (false, 1, 8, [.nilFunc])),
  (264, (false, 1, 8, [.nilFunc])),
  (265, (false, 1, 8, [.nilFunc])),
  (266, (false, 1, 8, [.nilFunc])),
  (267, (true, 3, 24, [.int .i64 0, .int .i64 0, .int .i64 0])),
  (268, (true, 3, 24, [.int .i64 0, .int .i64 0, .int .i64 0])),
  (269, (true, 5, 56, [.int .i64 0, .int .i64 0, .int .i64 0, .slice none 0 0, .int .i64 0])),
  (270, (true, 5, 56, [.int .i64 0, .int .i64 0, .int .i64 0, .slice none 0 0, .int .i64 0])),
  (272, (false, 1, 8, [.nilFunc])),
  (273, (false, 1, 8, [.nilFunc])),
  (274, (false, 1, 8, [.nilFunc])),
  (275, (false, 1, 8, [.nilFunc])),
  (276, (false, 1, 8, [.nilFunc])),
  (277, (false, 1, 8, [.nilFunc])),
  (278, (false, 1, 8, [.nilFunc])),
  (279, (false, 1, 8, [.nilFunc])),
  (280, (false, 1, 8, [.nilFunc])),
  (281, (false, 1, 8, [.nilFunc])),
  (282, (false, 1, 8, [.int .u64 0])),
  (283, (false, 1, 8, [.nilFunc])),
  (284, (false, 1, 8, [.nilFunc])),
  (285, (false, 1, 8, [.nilFunc])),
  (286, (false, 1, 8, [.nilFunc])),
  (287, (false, 1, 8, [.nilFunc])),
  (288, (true, 8, 96, [.slice none 0 0, .slice none 0 0, .int .i64 0, .int .i64 0, .int .i64 0, .int .i64 0, .int .i64 0, .int .i64 0])),
  (289, (true, 8, 96, [.slice none 0 0, .slice none 0 0, .int .i64 0, .int .i64 0, .int .i64 0, .int .i64 0, .int .i64 0, .int .i64 0])),
  (290, (false, 1, 8, [.nilFunc])),
  (291, (false, 1, 8, [.nilFunc])),
  (292, (false, 1, 8, [.nilFunc])),
  (293, (false, 1, 8, [.nilFunc])),
  (294, (false, 1, 8, [.nilFunc])),
  (295, (false, 1, 8, [.nilFunc])),
  (296, (false, 1, 24, [.slice none 0 0])),
  (297, (false, 1, 8, [.nilFunc])),
  (298, (true, 5, 40, [.int .i64 0, .int .i64 0, .int .i64 0, .int .i64 0, .int .i64 0])),
  (299, (true, 5, 40, [.int .i64 0, .int .i64 0, .int .i64 0, .int .i64 0, .int .i64 0])),
  (300, (false, 1, 8, [.nilFunc])),
  (301, (true, 24, 24, [.int .u8 0, .int .u8 0, .int .u8 0, .int .u8 0, .int .u8 0, .int .u8 0, .int .u8 0, .int .u8 0, .int .u8 0, .int .u8 0, .int .u8 0, .int .u8 0, .int .u8 0, .int .u8 0, .int .u8 0, .int .u8 0, .int .u8 0, .int .u8 0, .int .u8 0, .int .u8 0, .int .u8 0, .int .u8 0, .int .u8 0, .int .u8 0])),
  (302, (false, 1, 8, [.int .u64 0])),
  (303, (false, 1, 8, [.nilFunc])),
  (304, (false, 1, 8, [.nilFunc])),
  (306, (false, 1, 8, [.nilFunc])),
  (307, (false, 1, 8, [.nilFunc])),
  (308, (false, 1, 8, [.nilFunc])),
  (309, (false, 1, 8, [.nilFunc])),
  (310, (false, 1, 8, [.int .i64 0])),
  (312, (false, 1, 8, [.nilFunc])),
  (313, (false, 1, 8, [.pointer none])),
  (314, (false, 1, 8, [.nilFunc])),
  (315, (false, 1, 8, [.nilFunc])),
  (316, (false, 1, 8, [.nilFunc])),
  (317, (false, 1, 8, [.nilFunc])),
  (318, (false, 1, 8, [.nilFunc])),
  (319, (false, 1, 8, [.nilFunc])),
  (320, (false, 1, 8, [.nilFunc])),
  (321, (false, 1, 8, [.nilFunc])),
  (322, (false, 1, 8, [.nilFunc])),
  (323, (false, 1, 8, [.nilFunc])),
  (324, (false, 1, 8, [.nilFunc])),
  (325, (true, 20, 160, [.int .u64 0, .int .u64 0, .int .u64 0, .int .u64 0, .int .u64 0, .int .u64 0, .int .u64 0, .int .u64 0, .int .u64 0, .int .u64 0, .int .u64 0, .int .u64 0, .int .u64 0, .int .u64 0, .int .u64 0, .int .u64 0, .int .u64 0, .int .u64 0, .int .u64 0, .int .u64 0])),
  (326, (false, 1, 4, [.int .u32 0])),
  (328, (false, 1, 8, [.nilFunc])),
  (329, (false, 1, 8, [.nilFunc])),
  (331, (false, 1, 8, [.nilFunc])),
  (333, (false, 1, 8, [.nilFunc])),
  (334, (false, 1, 8, [.nilFunc])),
  (335, (true, 3, 48, [.string ⟨#[]⟩, .string ⟨#[]⟩, .nilIface])),
  (336, (true, 3, 48, [.string ⟨#[]⟩, .string ⟨#[]⟩, .nilIface])),
  (337, (false, 1, 8, [.nilFunc])),
  (338, (true, 3, 24, [.int .i64 0, .int .i64 0, .int .i64 0])),
  (339, (false, 1, 8, [.nilFunc])),
  (340, (false, 1, 8, [.nilFunc])),
  (341, (false, 1, 8, [.nilFunc])),
  (342, (false, 1, 8, [.pointer none])),
  (343, (true, 1, 16, [.string ⟨#[]⟩])),
  (344, (true, 1, 16, [.string ⟨#[]⟩])),
  (345, (true, 32, 32, [.int .u8 0, .int .u8 0, .int .u8 0, .int .u8 0, .int .u8 0, .int .u8 0, .int .u8 0, .int .u8 0, .int .u8 0, .int .u8 0, .int .u8 0, .int .u8 0, .int .u8 0, .int .u8 0, .int .u8 0, .int .u8 0, .int .u8 0, .int .u8 0, .int .u8 0, .int .u8 0, .int .u8 0, .int .u8 0, .int .u8 0, .int .u8 0, .int .u8 0, .int .u8 0, .int .u8 0, .int .u8 0, .int .u8 0, .int .u8 0, .int .u8 0, .int .u8 0])),
  (348, (true, 2, 2, [.int .u8 0, .int .u8 0])),
  (349, (true, 2, 2, [.int .u8 0, .int .u8 0])),
  (350, (true, 32, 32, [.int .u8 0, .int .u8 0, .int .u8 0, .int .u8 0, .int .u8 0, .int .u8 0, .int .u8 0, .int .u8 0, .int .u8 0, .int .u8 0, .int .u8 0, .int .u8 0, .int .u8 0, .int .u8 0, .int .u8 0, .int .u8 0, .int .u8 0, .int .u8 0, .int .u8 0, .int .u8 0, .int .u8 0, .int .u8 0, .int .u8 0, .int .u8 0, .int .u8 0, .int .u8 0, .int .u8 0, .int .u8 0, .int .u8 0, .int .u8 0, .int .u8 0, .int .u8 0])),
  (352, (false, 1, 8, [.nilFunc])),
  (353, (true, 4, 40, [.pointer none, .pointer none, .pointer none, .string ⟨#[]⟩])),
  (354, (true, 4, 40, [.pointer none, .pointer none, .pointer none, .string ⟨#[]⟩])),
  (355, (true, 0, 0, [])),
  (356, (true, 0, 0, [])),
  (357, (true, 0, 0, [])),
  (358, (false, 1, 1, [.int .u8 0])),
  (359, (false, 1, 1, [.int .u8 0])),
  (360, (false, 1, 8, [.nilFunc])),
  (361, (false, 1, 4, [.int .i32 0])),
  (362, (false, 1, 4, [.int .i32 0])),
  (363, (true, 11, 48, [.int .u64 0, .int .u64 0, .int .u32 0, .int .u8 0, .int .u8 0, .int .u8 0, .int .u8 0, .nilFunc, .pointer none, .int .i32 0, .int .i32 0])),
  (364, (true, 11, 48, [.int .u64 0, .int .u64 0, .int .u32 0, .int .u8 0, .int .u8 0, .int .u8 0, .int .u8 0, .nilFunc, .pointer none, .int .i32 0, .int .i32 0]))]
def tbFl : List (Nat × Nat) := [(700, 0), (701, 1), (702, 2), (703, 3), (800, 0), (801, 1), (802, 2), (803, 3), (1300, 0), (1301, 1), (1400, 0), (1401, 1), (1800, 0), (1900, 0), (2500, 0), (2501, 1), (2502, 2), (2503, 3), (2504, 4), (2505, 5), (2506, 6), (2600, 0), (2601, 1), (2602, 2), (2603, 3), (2604, 4), (2605, 5), (2606, 6), (2700, 0), (2701, 1), (2702, 2), (2703, 3), (2704, 4), (2705, 5), (2800, 0), (2801, 1), (2802, 2), (2803, 3), (2804, 4), (2805, 5), (2900, 0), (2901, 1), (3000, 0), (3001, 1), (6200, 0), (6201, 1), (6300, 0), (6301, 1), (6400, 0), (6401, 1), (6402, 3), (6403, 4), (6404, 5), (6405, 6), (6406, 7), (6407, 8), (6500, 0), (6501, 1), (6502, 3), (6503, 4), (6504, 5), (6505, 6), (6506, 7), (6507, 8), (7900, 0), (7901, 1), (8000, 0), (8001, 1), (9900, 0), (10000, 0), (10900, 0), (10901, 1), (11000, 0), (11001, 1), (11100, 0), (11101, 2), (11200, 0), (11201, 2), (11600, 0), (11601, 1), (11602, 2), (11700, 0), (11701, 1), (11702, 2), (11900, 0), (11901, 1), (11902, 2), (11903, 3), (12000, 0), (12001, 1), (12002, 2), (12003, 3), (12100, 0), (12101, 1), (12200, 0), (12201, 1), (12900, 0), (12901, 1), (12902, 2), (12903, 3), (13000, 0), (13001, 1), (13002, 2), (13003, 3), (13300, 0), (13301, 2), (13400, 0), (13401, 2), (13700, 0), (13701, 1), (13800, 0), (13801, 1), (16000, 0), (16001, 1), (16002, 2), (16003, 3), (16100, 0), (16101, 1), (16102, 2), (16103, 3), (17200, 0), (17201, 1), (17300, 0), (17301, 1), (17400, 0), (17401, 1), (17500, 0), (17501, 1), (19800, 0), (19900, 0), (20700, 0), (20701, 1), (20702, 2), (20703, 7), (20800, 0), (20801, 1), (20802, 2), (20803, 7), (23100, 0), (23101, 3), (23102, 4), (23103, 5), (23104, 6), (23105, 7), (23200, 0), (23201, 3), (23202, 4), (23203, 5), (23204, 6), (23205, 7), (23900, 0), (23901, 1), (23902, 2), (24000, 0), (24001, 1), (24002, 2), (25800, 0), (25801, 1), (25900, 0), (25901, 1), (26700, 0), (26701, 1), (26800, 0), (26801, 1), (26900, 0), (26901, 3), (26902, 4), (27000, 0), (27001, 3), (27002, 4), (28800, 0), (28900, 0), (29800, 0), (29801, 1), (29802, 2), (29803, 3), (29900, 0), (29901, 1), (29902, 2), (29903, 3), (33500, 0), (33501, 1), (33502, 2), (33600, 0), (33601, 1), (33602, 2), (34300, 0), (34400, 0), (34800, 0), (34801, 1), (34900, 0), (34901, 1), (35300, 0), (35301, 1), (35302, 2), (35303, 3), (35400, 0), (35401, 1), (35402, 2), (35403, 3), (36300, 0), (36301, 1), (36302, 2), (36303, 3), (36304, 4), (36305, 5), (36306, 6), (36307, 7), (36308, 8), (36309, 9), (36310, 10), (36400, 0), (36401, 1), (36402, 2), (36403, 3), (36404, 4), (36405, 5), (36406, 6), (36407, 7), (36408, 8), (36409, 9), (36410, 10)]
def tbEl : List (Nat × (Nat × Nat × Bool)) := [(22, (120, 0, false)), (23, (134, 0, false)), (24, (112, 0, false)), (31, (30, 0, false)), (38, (3, 0, false)), (61, (175, 0, false)), (78, (117, 0, false)), (136, (5, 0, false)), (143, (3, 4, true)), (154, (9, 0, false)), (159, (110, 0, false)), (168, (173, 0, false)), (171, (225, 0, false)), (212, (122, 0, false)), (213, (122, 0, false)), (226, (225, 4, true)), (229, (232, 0, false)), (244, (4, 3, true)), (248, (3, 2, true)), (251, (34, 0, false)), (255, (259, 0, false)), (296, (268, 0, false)), (301, (5, 24, true)), (325, (302, 20, true)), (338, (3, 3, true)), (345, (5, 32, true)), (350, (349, 16, true)), (355, (16, 0, true))]
def tbBd : List (Nat × List (Nat × Nat)) := [(7, [(0, 1), (1, 1), (2, 1), (3, 1)]), (8, [(0, 1), (1, 1), (2, 1), (3, 1)]), (13, [(0, 1), (1, 1)]), (14, [(0, 1), (1, 1)]), (18, [(0, 1)]), (19, [(0, 1)]), (25, [(0, 1), (1, 1), (2, 1), (3, 1), (4, 1), (5, 1), (6, 1)]), (26, [(0, 1), (1, 1), (2, 1), (3, 1), (4, 1), (5, 1), (6, 1)]), (27, [(0, 1), (1, 1), (2, 1), (3, 1), (4, 1), (5, 7)]), (28, [(0, 1), (1, 1), (2, 1), (3, 1), (4, 1), (5, 7)]), (29, [(0, 1), (1, 1)]), (30, [(0, 1), (1, 1)]), (62, [(0, 1), (1, 1)]), (63, [(0, 1), (1, 1)]), (64, [(0, 1), (1, 2), (3, 1), (4, 1), (5, 1), (6, 1), (7, 1), (8, 1)]), (65, [(0, 1), (1, 2), (3, 1), (4, 1), (5, 1), (6, 1), (7, 1), (8, 1)]), (79, [(0, 1), (1, 1)]), (80, [(0, 1), (1, 1)]), (99, [(0, 12)]), (100, [(0, 12)]), (109, [(0, 1), (1, 1)]), (110, [(0, 1), (1, 1)]), (111, [(0, 2), (2, 1)]), (112, [(0, 2), (2, 1)]), (116, [(0, 1), (1, 1), (2, 1)]), (117, [(0, 1), (1, 1), (2, 1)]), (119, [(0, 1), (1, 1), (2, 1), (3, 1)]), (120, [(0, 1), (1, 1), (2, 1), (3, 1)]), (121, [(0, 1), (1, 1)]), (122, [(0, 1), (1, 1)]), (129, [(0, 1), (1, 1), (2, 1), (3, 2)]), (130, [(0, 1), (1, 1), (2, 1), (3, 2)]), (133, [(0, 2), (2, 2)]), (134, [(0, 2), (2, 2)]), (137, [(0, 1), (1, 1)]), (138, [(0, 1), (1, 1)]), (160, [(0, 1), (1, 1), (2, 1), (3, 1)]), (161, [(0, 1), (1, 1), (2, 1), (3, 1)]), (172, [(0, 1), (1, 1)]), (173, [(0, 1), (1, 1)]), (174, [(0, 1), (1, 1)]), (175, [(0, 1), (1, 1)]), (198, [(0, 7)]), (199, [(0, 7)]), (207, [(0, 1), (1, 1), (2, 5), (7, 1)]), (208, [(0, 1), (1, 1), (2, 5), (7, 1)]), (231, [(0, 3), (3, 1), (4, 1), (5, 1), (6, 1), (7, 2)]), (232, [(0, 3), (3, 1), (4, 1), (5, 1), (6, 1), (7, 2)]), (239, [(0, 1), (1, 1), (2, 1)]), (240, [(0, 1), (1, 1), (2, 1)]), (258, [(0, 1), (1, 2)]), (259, [(0, 1), (1, 2)]), (267, [(0, 1), (1, 2)]), (268, [(0, 1), (1, 2)]), (269, [(0, 3), (3, 1), (4, 1)]), (270, [(0, 3), (3, 1), (4, 1)]), (288, [(0, 8)]), (289, [(0, 8)]), (298, [(0, 1), (1, 1), (2, 1), (3, 2)]), (299, [(0, 1), (1, 1), (2, 1), (3, 2)]), (335, [(0, 1), (1, 1), (2, 1)]), (336, [(0, 1), (1, 1), (2, 1)]), (343, [(0, 1)]), (344, [(0, 1)]), (348, [(0, 1), (1, 1)]), (349, [(0, 1), (1, 1)]), (353, [(0, 1), (1, 1), (2, 1), (3, 1)]), (354, [(0, 1), (1, 1), (2, 1), (3, 1)]), (356, [(0, 0)]), (357, [(0, 0)]), (363, [(0, 1), (1, 1), (2, 1), (3, 1), (4, 1), (5, 1), (6, 1), (7, 1), (8, 1), (9, 1), (10, 1)]), (364, [(0, 1), (1, 1), (2, 1), (3, 1), (4, 1), (5, 1), (6, 1), (7, 1), (8, 1), (9, 1), (10, 1)])]
def tbKd : List (Nat × IntKind) := [(2, .i64), (3, .i64), (5, .u8), (6, .u8), (12, .u64), (21, .i32), (34, .i64), (282, .u64), (302, .u64), (310, .i64), (326, .u32), (358, .u8), (359, .u8), (361, .i32), (362, .i32)]
def tbEn : List (Nat × Unit) := [(3, ()), (4, ()), (5, ()), (6, ()), (7, ()), (8, ()), (9, ()), (10, ()), (11, ()), (12, ()), (13, ()), (14, ()), (15, ()), (16, ()), (17, ()), (18, ()), (19, ()), (20, ()), (21, ()), (22, ()), (23, ()), (24, ()), (25, ()), (26, ()), (27, ()), (28, ()), (29, ()), (30, ()), (31, ()), (32, ()), (33, ()), (34, ()), (35, ()), (36, ()), (37, ()), (38, ()), (39, ()), (40, ()), (41, ()), (42, ()), (43, ()), (44, ()), (45, ()), (46, ()), (47, ()), (48, ()), (49, ()), (50, ()), (51, ()), (52, ()), (53, ()), (54, ()), (55, ()), (56, ()), (57, ()), (58, ()), (59, ()), (60, ()), (61, ()), (62, ()), (63, ()), (64, ()), (65, ()), (66, ()), (67, ()), (68, ()), (69, ()), (70, ()), (71, ()), (72, ()), (73, ()), (74, ()), (75, ()), (76, ()), (77, ()), (78, ()), (79, ()), (80, ()), (81, ()), (82, ()), (83, ()), (84, ()), (85, ()), (86, ()), (87, ()), (88, ()), (89, ()), (90, ()), (91, ()), (92, ()), (93, ()), (94, ()), (95, ()), (96, ()), (97, ()), (98, ()), (99, ()), (100, ()), (101, ()), (102, ()), (103, ()), (104, ()), (105, ()), (106, ()), (107, ()), (108, ()), (109, ()), (110, ()), (111, ()), (112, ()), (113, ()), (114, ()), (115, ()), (116, ()), (117, ()), (118, ()), (119, ()), (120, ()), (121, ()), (122, ()), (123, ()), (124, ()), (125, ()), (126, ()), (127, ()), (128, ()), (129, ()), (130, ()), (131, ()), (132, ()), (133, ()), (134, ()), (135, ()), (136, ()), (137, ()), (138, ()), (139, ()), (140, ()), (141, ()), (142, ()), (143, ()), (144, ()), (145, ()), (146, ()), (147, ()), (148, ()), (149, ()), (150, ()), (151, ()), (152, ()), (153, ()), (154, ()), (155, ()), (156, ()), (157, ()), (158, ()), (159, ()), (160, ()), (161, ()), (162, ()), (163, ()), (164, ()), (165, ()), (166, ()), (167, ()), (168, ()), (169, ()), (170, ()), (171, ()), (172, ()), (173, ()), (174, ()), (175, ()), (176, ()), (177, ()), (178, ()), (179, ()), (180, ()), (181, ()), (182, ()), (184, ()), (185, ()), (186, ()), (187, ()), (188, ()), (189, ()), (190, ()), (191, ()), (192, ()), (193, ()), (194, ()), (195, ()), (196, ()), (197, ()), (198, ()), (199, ()), (200, ()), (201, ()), (202, ()), (203, ()), (204, ()), (205, ()), (206, ()), (207, ()), (208, ()), (209, ()), (210, ()), (211, ()), (212, ()), (213, ()), (214, ()), (215, ()), (216, ()), (217, ()), (218, ()), (219, ()), (220, ()), (222, ()), (223, ()), (224, ()), (225, ()), (226, ()), (227, ()), (228, ()), (229, ()), (230, ()), (231, ()), (232, ()), (233, ()), (234, ()), (235, ()), (236, ()), (237, ()), (238, ()), (239, ()), (240, ()), (241, ()), (242, ()), (243, ()), (244, ()), (245, ()), (246, ()), (247, ()), (248, ()), (249, ()), (250, ()), (251, ()), (252, ()), (253, ()), (255, ()), (256, ()), (261, ()), (262, ()), (263, ()), (264, ()), (265, ()), (272, ()), (273, ())]
theorem tbTy_ok : tbTy.map (fun p => tyC Tryz.prog p.1) = tbTy.map (fun p => some p.2) := by kernel_rfl
theorem tbFl_ok : tbFl.map (fun p => flC Tryz.prog p.1) = tbFl.map (fun p => some p.2) := by kernel_rfl
theorem tbEl_ok : tbEl.map (fun p => elC Tryz.prog p.1) = tbEl.map (fun p => some p.2) := by kernel_rfl
theorem tbBd_ok : tbBd.map (fun p => bdC Tryz.prog p.1) = tbBd.map (fun p => some (p.2.map fun x => (x.1, some x.2))) := by kernel_rfl
theorem tbKd_ok : tbKd.map (fun p => kdC Tryz.prog p.1) = tbKd.map (fun p => some p.2) := by kernel_rfl
theorem tbEn_ok : tbEn.map (fun p => enC Tryz.prog p.1) = tbEn.map (fun _ => true) := by kernel_rfl
def tb : Tab Tryz.prog where
  ty := tbTy
  fl := tbFl
  el := tbEl
  bd := tbBd
  kd := tbKd
  en := tbEn
  ty_ok := fun p hp => tyC_F (map_all tbTy_ok p hp)
  fl_ok := fun p hp => flC_F (map_all tbFl_ok p hp)
  el_ok := fun p hp => elC_F (map_all tbEl_ok p hp)
  bd_ok := fun p hp => bdC_F (map_all tbBd_ok p hp)
  kd_ok := fun p hp => kdC_F (map_all tbKd_ok p hp)
  en_ok := fun p hp => enC_F (map_all tbEn_ok p hp)
theorem mixed : Tryz.prog.follows .mixedOrders = true := by kernel_rfl
end Go.Proofs.YtacndicgpkeobaaGreatDoor
