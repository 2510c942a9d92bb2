/-
  The tables that the calculus asks of this seat's program: types, fields, functions. Conditions: none. Written by a program (wip/tools/tab.py).
-/
import Derived.Test.YthilaakeimfedaaGreatDoorShUse
import Derived.Test.YthilaakeimfedaaGreatDoorRows
namespace Go.Proofs.YthilaakeimfedaaGreatDoor

def tyC (P : Program) (t : Nat) : Option (Bool × Nat × Nat × List Value) := match P.underlying t, P.info? t with
  | some d, some i => i.zero.map fun z => (isAggD d, i.size, i.bytes, z.cells.toList)
  | _, _ => none
theorem tyC_F {P : Program} {t : Nat} {r : Bool × Nat × Nat × List Value} (h : tyC P t = some r) : tyF P t r := by
  unfold tyC at h
  split at h
  · rename_i d i hd hi
    cases hz : i.zero with
    | none => rw [hz] at h; cases h
    | some z =>
      rw [hz] at h
      simp only [Option.map_some, Option.some.injEq] at h
      subst h
      exact ⟨d, i, z, hd, hi, rfl, rfl, rfl, hz, rfl⟩
  · cases h
def flC (P : Program) (s : Nat) : Option Nat := match P.underlying (s / 100) with
  | some (.struct fs) => match fs[s % 100]? with
    | some f => match P.info? f.type with
      | some j => match Nat.beq j.size 0 with
        | false => some f.offset
        | true => none
      | none => none
    | none => none
  | _ => none
theorem flC_F {P : Program} {s off : Nat} (h : flC P s = some off) : flF P s off := by
  unfold flC at h
  split at h
  · rename_i fs hfs
    split at h
    · rename_i f hf
      split at h
      · rename_i j hj
        split at h
        · rename_i hb
          injection h with h
          refine ⟨fs, f, j, hfs, hf, hj, fun h0 => ?_, h⟩
          rw [h0] at hb
          cases hb
        · cases h
      · cases h
    · cases h
  · cases h
def elC (P : Program) (t : Nat) : Option (Nat × Nat × Bool) := match P.underlying t with
  | some (.slice e) => some (e, 0, false)
  | some (.array n e) => some (e, n, true)
  | _ => none
theorem elC_F {P : Program} {t : Nat} {r : Nat × Nat × Bool} (h : elC P t = some r) : elF P t r := by
  unfold elC at h
  split at h
  · rename_i e he
    injection h with h
    subst h
    exact .inl ⟨rfl, he⟩
  · rename_i n e he
    injection h with h
    subst h
    exact .inr ⟨rfl, he⟩
  · cases h
def bdC (P : Program) (t : Nat) : Option (List (Nat × Option Nat)) := match P.underlying t with
  | some (.struct fs) => some (fs.toList.map fun f => (f.offset, (P.info? f.type).map (·.size)))
  | _ => none
theorem bdC_F {P : Program} {t : Nat} {r : List (Nat × Nat)} (h : bdC P t = some (r.map fun x => (x.1, some x.2))) : bdF P t r := by
  unfold bdC at h
  split at h
  · rename_i fs hfs
    injection h with h
    exact ⟨fs, hfs, h⟩
  · cases h
def kdC (P : Program) (t : Nat) : Option IntKind := match P.underlying t with
  | some (.int k) => some k
  | _ => none
theorem kdC_F {P : Program} {t : Nat} {k : IntKind} (h : kdC P t = some k) : kdF P t k := by
  unfold kdC at h
  split at h
  · rename_i k' hk
    injection h with h
    subst h
    exact hk
  · cases h
def enC (P : Program) (f : Nat) : Bool := match P.funcs[f]? with
  | some fn => !(fn.name == "runtime.NumGoroutine") && fn.body.isSome
  | none => false
theorem enC_F {P : Program} {f : Nat} (h : enC P f = true) : Enters P f := by
  unfold enC at h
  split at h
  · rename_i fn hfn
    simp only [Bool.and_eq_true, Bool.not_eq_true'] at h
    obtain ⟨c, hc⟩ := Option.isSome_iff_exists.1 h.2
    exact enters_of hfn h.1 hc
  · cases h
theorem map_all {α β : Type} {f g : α → β} : ∀ {l : List α}, l.map f = l.map g → ∀ p ∈ l, f p = g p
  | [], _, p, hp => by cases hp
  | x :: t, h, p, hp => by
    simp only [List.map_cons, List.cons.injEq] at h
    rcases List.mem_cons.1 hp with rfl | hp
    · exact h.1
    · exact map_all h.2 p hp

def tbTy : List (Nat × (Bool × Nat × Nat × List Value)) := [
  (1, (false, 1, 8, [.nilFunc])),
  (2, (false, 1, 8, [.int .i64 0])),
  (3, (false, 1, 8, [.int .i64 0])),
  (4, (false, 1, 1, [.bool false])),
  (5, (false, 1, 1, [.int .u8 0])),
  (6, (false, 1, 1, [.int .u8 0])),
  (7, (true, 4, 24, [.int .i64 0, .int .i64 0, .bool false, .int .u8 0])),
  (8, (true, 4, 24, [.int .i64 0, .int .i64 0, .bool false, .int .u8 0])),
  (9, (false, 1, 16, [.string ⟨#[]⟩])),
  (10, (false, 1, 16, [.string ⟨#[]⟩])),
  (11, (false, 1, 16, [.string ⟨#[]⟩])),
  (12, (false, 1, 8, [.int .u64 0])),
  (13, (true, 2, 24, [.string ⟨#[]⟩, .int .u64 0])),
  (14, (true, 2, 24, [.string ⟨#[]⟩, .int .u64 0])),
  (15, (false, 1, 8, [.pointer none])),
  (16, (false, 1, 8, [.pointer none])),
  (17, (false, 1, 8, [.pointer none])),
  (18, (true, 1, 8, [.pointer none])),
  (19, (true, 1, 8, [.pointer none])),
  (20, (false, 1, 16, [.nilIface])),
  (21, (false, 1, 4, [.int .i32 0])),
  (22, (false, 1, 24, [.slice none 0 0])),
  (23, (false, 1, 24, [.slice none 0 0])),
  (24, (false, 1, 24, [.slice none 0 0])),
  (25, (true, 7, 56, [.int .i64 0, .int .i64 0, .int .i64 0, .int .i64 0, .int .i64 0, .int .i64 0, .int .i64 0])),
  (26, (true, 7, 56, [.int .i64 0, .int .i64 0, .int .i64 0, .int .i64 0, .int .i64 0, .int .i64 0, .int .i64 0])),
  (27, (true, 12, 144, [.slice none 0 0, .slice none 0 0, .int .i64 0, .int .i64 0, .slice none 0 0, .int .i64 0, .int .i64 0, .int .i64 0, .int .i64 0, .int .i64 0, .int .i64 0, .int .i64 0])),
  (28, (true, 12, 144, [.slice none 0 0, .slice none 0 0, .int .i64 0, .int .i64 0, .slice none 0 0, .int .i64 0, .int .i64 0, .int .i64 0, .int .i64 0, .int .i64 0, .int .i64 0, .int .i64 0])),
  (29, (false, 1, 8, [.nilFunc])),
  (30, (false, 1, 8, [.nilFunc])),
  (31, (false, 1, 8, [.int .i64 0])),
  (33, (false, 1, 8, [.nilFunc])),
  (34, (false, 1, 8, [.nilFunc])),
  (35, (false, 1, 8, [.nilFunc])),
  (37, (false, 1, 8, [.nilFunc])),
  (38, (false, 1, 8, [.nilFunc])),
  (39, (false, 1, 8, [.nilFunc])),
  (40, (false, 1, 8, [.nilFunc])),
  (41, (false, 1, 8, [.nilFunc])),
  (42, (false, 1, 8, [.nilFunc])),
  (43, (false, 1, 8, [.nilFunc])),
  (44, (false, 1, 8, [.nilFunc])),
  (45, (false, 1, 8, [.nilFunc])),
  (46, (false, 1, 8, [.nilFunc])),
  (47, (false, 1, 8, [.nilFunc])),
  (48, (false, 1, 8, [.nilFunc])),
  (49, (false, 1, 8, [.nilFunc])),
  (50, (true, 3, 24, [.int .i64 0, .int .i64 0, .int .i64 0])),
  (51, (true, 3, 24, [.int .i64 0, .int .i64 0, .int .i64 0])),
  (52, (true, 2, 16, [.int .i64 0, .int .i64 0])),
  (53, (true, 2, 16, [.int .i64 0, .int .i64 0])),
  (54, (true, 5, 40, [.int .i64 0, .int .i64 0, .int .i64 0, .int .i64 0, .int .i64 0])),
  (55, (true, 5, 40, [.int .i64 0, .int .i64 0, .int .i64 0, .int .i64 0, .int .i64 0])),
  (56, (true, 8, 96, [.slice none 0 0, .slice none 0 0, .int .i64 0, .int .i64 0, .int .i64 0, .int .i64 0, .int .i64 0, .int .i64 0])),
  (57, (true, 8, 96, [.slice none 0 0, .slice none 0 0, .int .i64 0, .int .i64 0, .int .i64 0, .int .i64 0, .int .i64 0, .int .i64 0])),
  (59, (false, 1, 8, [.nilFunc])),
  (61, (false, 1, 8, [.nilFunc])),
  (62, (false, 1, 8, [.nilFunc])),
  (63, (false, 1, 8, [.nilFunc])),
  (64, (false, 1, 8, [.nilFunc])),
  (65, (true, 4, 32, [.int .i64 0, .int .i64 0, .int .i64 0, .int .i64 0])),
  (66, (true, 4, 32, [.int .i64 0, .int .i64 0, .int .i64 0, .int .i64 0])),
  (67, (false, 1, 8, [.nilFunc])),
  (68, (false, 1, 8, [.nilFunc])),
  (69, (false, 1, 8, [.nilFunc])),
  (70, (false, 1, 8, [.nilFunc])),
  (71, (false, 1, 24, [.slice none 0 0])),
  (72, (false, 1, 24, [.slice none 0 0])),
  (73, (true, 2, 48, [.slice none 0 0, .slice none 0 0])),
  (74, (true, 2, 48, [.slice none 0 0, .slice none 0 0])),
  (75, (false, 1, 8, [.nilFunc])),
  (76, (false, 1, 8, [.nilFunc])),
  (77, (false, 1, 8, [.nilFunc])),
  (78, (false, 1, 8, [.nilFunc])),
  (80, (false, 1, 8, [.nilFunc])),
  (82, (false, 1, 8, [.nilFunc])),
  (83, (false, 1, 8, [.nilFunc])),
  (84, (false, 1, 8, [.nilFunc])),
  (85, (true, 2, 16, [.int .i64 0, .int .i64 0])),
  (86, (true, 2, 16, [.int .i64 0, .int .i64 0])),
  (87, (false, 1, 24, [.slice none 0 0])),
  (88, (false, 1, 8, [.nilFunc])),
  (90, (false, 1, 8, [.nilFunc])),
  (92, (false, 1, 8, [.nilFunc])),
  (93, (false, 1, 8, [.nilFunc])),
  (94, (false, 1, 8, [.nilFunc])),
  (95, (false, 1, 8, [.nilFunc])),
  (96, (false, 1, 24, [.slice none 0 0])),
  (98, (false, 1, 8, [.nilFunc])),
  (99, (false, 1, 24, [.slice none 0 0])),
  (101, (false, 1, 8, [.nilFunc])),
  (102, (false, 1, 8, [.nilFunc])),
  (103, (false, 1, 8, [.nilFunc])),
  (104, (true, 2, 16, [.int .i64 0, .int .i64 0])),
  (105, (true, 2, 16, [.int .i64 0, .int .i64 0])),
  (107, (false, 1, 8, [.nilFunc])),
  (108, (false, 1, 8, [.nilFunc])),
  (109, (true, 3, 24, [.int .i64 0, .int .i64 0, .int .i64 0])),
  (110, (false, 1, 8, [.nilFunc])),
  (112, (false, 1, 8, [.nilFunc])),
  (113, (false, 1, 8, [.nilFunc])),
  (114, (true, 2, 16, [.int .i64 0, .int .i64 0])),
  (115, (false, 1, 8, [.nilFunc])),
  (116, (false, 1, 24, [.slice none 0 0])),
  (117, (true, 4, 72, [.string ⟨#[]⟩, .int .i64 0, .slice none 0 0, .slice none 0 0])),
  (118, (true, 4, 72, [.string ⟨#[]⟩, .int .i64 0, .slice none 0 0, .slice none 0 0])),
  (119, (false, 1, 8, [.nilFunc])),
  (120, (false, 1, 8, [.nilFunc])),
  (121, (false, 1, 8, [.nilFunc])),
  (122, (false, 1, 8, [.nilFunc])),
  (123, (false, 1, 8, [.nilFunc])),
  (124, (false, 1, 8, [.nilFunc])),
  (126, (false, 1, 8, [.nilFunc])),
  (128, (false, 1, 8, [.nilFunc])),
  (130, (false, 1, 8, [.nilFunc])),
  (131, (false, 1, 8, [.nilFunc])),
  (132, (false, 1, 8, [.nilFunc])),
  (133, (false, 1, 8, [.nilFunc])),
  (134, (false, 1, 8, [.nilFunc])),
  (135, (false, 1, 8, [.nilFunc])),
  (136, (true, 2, 16, [.int .i64 0, .int .i64 0])),
  (137, (true, 2, 16, [.int .i64 0, .int .i64 0])),
  (138, (true, 4, 32, [.int .i64 0, .int .i64 0, .int .i64 0, .int .i64 0])),
  (139, (true, 4, 32, [.int .i64 0, .int .i64 0, .int .i64 0, .int .i64 0])),
  (140, (false, 1, 8, [.nilFunc])),
  (141, (false, 1, 8, [.nilFunc])),
  (142, (false, 1, 8, [.nilFunc])),
  (143, (true, 3, 24, [.int .i64 0, .int .i64 0, .int .i64 0])),
  (144, (true, 3, 24, [.int .i64 0, .int .i64 0, .int .i64 0])),
  (145, (false, 1, 8, [.nilFunc])),
  (146, (false, 1, 24, [.slice none 0 0])),
  (148, (false, 1, 8, [.nilFunc])),
  (149, (false, 1, 24, [.slice none 0 0])),
  (151, (false, 1, 8, [.nilFunc])),
  (153, (false, 1, 8, [.nilFunc])),
  (154, (false, 1, 8, [.nilFunc])),
  (155, (true, 12, 144, [.slice none 0 0, .slice none 0 0, .int .i64 0, .int .i64 0, .slice none 0 0, .int .i64 0, .int .i64 0, .int .i64 0, .int .i64 0, .int .i64 0, .int .i64 0, .int .i64 0])),
  (156, (true, 12, 144, [.slice none 0 0, .slice none 0 0, .int .i64 0, .int .i64 0, .slice none 0 0, .int .i64 0, .int .i64 0, .int .i64 0, .int .i64 0, .int .i64 0, .int .i64 0, .int .i64 0])),
  (158, (false, 1, 8, [.nilFunc])),
  (159, (false, 1, 8, [.nilFunc])),
  (160, (false, 1, 8, [.nilFunc])),
  (161, (false, 1, 8, [.nilFunc])),
  (162, (false, 1, 8, [.nilFunc])),
  (163, (false, 1, 8, [.nilFunc])),
  (164, (false, 1, 8, [.nilFunc])),
  (165, (false, 1, 8, [.nilFunc])),
  (166, (false, 1, 8, [.nilFunc])),
  (167, (false, 1, 8, [.nilFunc])),
  (168, (false, 1, 8, [.nilFunc])),
  (169, (false, 1, 8, [.nilFunc])),
  (170, (false, 1, 8, [.nilFunc])),
  (171, (true, 7, 56, [.int .i64 0, .int .i64 0, .int .i64 0, .int .i64 0, .int .i64 0, .int .i64 0, .int .i64 0])),
  (172, (true, 7, 56, [.int .i64 0, .int .i64 0, .int .i64 0, .int .i64 0, .int .i64 0, .int .i64 0, .int .i64 0])),
  (173, (false, 1, 8, [.nilFunc])),
  (174, (false, 1, 8, [.nilFunc])),
  (175, (false, 1, 8, [.nilFunc])),
  (176, (false, 1, 8, [.nilFunc])),
  (177, (false, 1, 8, [.nilFunc])),
  (178, (false, 1, 8, [.nilFunc])),
  (179, (false, 1, 8, [.nilFunc])),
  (180, (false, 1, 8, [.nilFunc])),
  (181, (false, 1, 8, [.nilFunc])),
  (182, (false, 1, 8, [.nilFunc])),
  (183, (false, 1, 8, [.nilFunc])),
  (184, (false, 1, 8, [.nilFunc])),
  (185, (false, 1, 8, [.nilFunc])),
  (186, (false, 1, 8, [.nilFunc])),
  (187, (false, 1, 8, [.nilFunc])),
  (188, (true, 8, 96, [.slice none 0 0, .slice none 0 0, .int .i64 0, .int .i64 0, .int .i64 0, .int .i64 0, .int .i64 0, .int .i64 0])),
  (189, (true, 8, 96, [.slice none 0 0, .slice none 0 0, .int .i64 0, .int .i64 0, .int .i64 0, .int .i64 0, .int .i64 0, .int .i64 0])),
  (190, (false, 1, 8, [.nilFunc])),
  (191, (false, 1, 8, [.nilFunc])),
  (192, (false, 1, 8, [.nilFunc])),
  (193, (false, 1, 8, [.nilFunc])),
  (194, (false, 1, 8, [.nilFunc])),
  (196, (false, 1, 8, [.nilFunc])),
  (197, (false, 1, 8, [.nilFunc])),
  (198, (false, 1, 8, [.nilFunc])),
  (199, (false, 1, 8, [.nilFunc])),
  (200, (false, 1, 8, [.nilFunc])),
  (202, (false, 1, 8, [.nilFunc])),
  (203, (false, 1, 24, [.slice none 0 0])),
  (204, (false, 1, 8, [.nilFunc])),
  (205, (true, 4, 32, [.int .i64 0, .int .i64 0, .int .i64 0, .int .i64 0])),
  (207, (false, 1, 8, [.nilFunc])),
  (208, (false, 1, 8, [.pointer none])),
  (209, (false, 1, 24, [.slice none 0 0])),
  (210, (true, 2, 32, [.pointer none, .slice none 0 0])),
  (211, (true, 2, 32, [.pointer none, .slice none 0 0])),
  (212, (false, 1, 16, [.nilIface])),
  (213, (false, 1, 16, [.nilIface])),
  (215, (false, 1, 8, [.nilFunc])),
  (216, (false, 1, 8, [.nilFunc])),
  (217, (false, 1, 8, [.nilFunc])),
  (218, (false, 1, 8, [.nilFunc])),
  (219, (false, 1, 8, [.nilFunc])),
  (220, (false, 1, 8, [.nilFunc])),
  (221, (false, 1, 8, [.nilFunc])),
  (222, (false, 1, 8, [.nilFunc])),
  (223, (false, 1, 8, [.nilFunc])),
  (224, (false, 1, 24, [.slice none 0 0])),
  (225, (false, 1, 24, [.slice none 0 0])),
  (226, (false, 1, 8, [.nilFunc])),
  (227, (false, 1, 8, [.nilFunc])),
  (228, (false, 1, 8, [.nilFunc])),
  (229, (true, 2, 48, [.slice none 0 0, .slice none 0 0])),
  (230, (false, 1, 8, [.nilFunc])),
  (231, (false, 1, 8, [.nilFunc])),
  (232, (false, 1, 8, [.nilFunc])),
  (233, (false, 1, 8, [.nilFunc])),
  (234, (false, 1, 8, [.nilFunc])),
  (236, (false, 1, 8, [.nilFunc])),
  (237, (false, 1, 8, [.nilFunc])),
  (238, (false, 1, 8, [.nilFunc])),
  (239, (false, 1, 8, [.nilFunc])),
  (240, (false, 1, 24, [.slice none 0 0])),
  (241, (false, 1, 8, [.nilFunc])),
  (242, (false, 1, 8, [.nilFunc])),
  (243, (false, 1, 24, [.slice none 0 0])),
  (244, (false, 1, 8, [.nilFunc])),
  (245, (false, 1, 24, [.slice none 0 0])),
  (246, (false, 1, 8, [.nilFunc])),
  (247, (false, 1, 8, [.nilFunc])),
  (248, (true, 3, 24, [.int .i64 0, .int .i64 0, .int .i64 0])),
  (249, (true, 3, 24, [.int .i64 0, .int .i64 0, .int .i64 0])),
  (250, (false, 1, 8, [.nilFunc])),
  (251, (false, 1, 8, [.nilFunc])),
  (252, (false, 1, 8, [.nilFunc])),
  (253, (false, 1, 8, [.nilFunc])),
  (254, (false, 1, 8, [.nilFunc])),
  (255, (false, 1, 8, [.nilFunc])),
  (256, (true, 3, 24, [.int .i64 0, .int .i64 0, .int .i64 0])),
  (257, (true, 3, 24, [.int .i64 0, .int .i64 0, .int .i64 0])),
  (258, (true, 5, 56, [.int .i64 0, .int .i64 0, .int .i64 0, .slice none 0 0, .int .i64 0])),
  (259, (true, 5, 56, [.int .i64 0, .int .i64 0, .int .i64 0, .slice none 0 0, .int .i64 0])),
  (260, (false, 1, 8, [.nilFunc])),
  (261, (false, 1, 24, [.slice none 0 0])),
  (262, (false, 1, 8, [.nilFunc])),
  (263, (false, 1, 8, [.nilFunc])),
  (264, (true, 5, 40, [.int .i64 0, .int .i64 0, .int .i64 0, .int .i64 0, .int .i64 0])),
  (265, (true, 5, 40, [.int .i64 0, .int .i64 0, .int .i64 0, .int .i64 0, .int .i64 0])),
  (266, (false, 1, 8, [.nilFunc])),
  (267, (false, 1, 8, [.nilFunc])),
  (268, (false, 1, 8, [.nilFunc])),
  (270, (false, 1, 8, [.nilFunc])),
  (271, (false, 1, 8, [.nilFunc])),
  (272, (false, 1, 8, [.pointer none])),
  (273, (true, 4, 32, [.pointer none, .pointer none, .pointer none, .pointer none])),
  (274, (false, 1, 8, [.nilFunc])),
  (275, (false, 1, 8, [.pointer none])),
  (276, (false, 1, 8, [.nilFunc])),
  (277, (false, 1, 8, [.int .u64 0])),
  (279, (false, 1, 8, [.nilFunc])),
  (280, (false, 1, 24, [.slice none 0 0])),
  (281, (true, 2, 16, [.int .i64 0, .int .i64 0])),
  (282, (true, 2, 16, [.int .i64 0, .int .i64 0])),
  (283, (false, 1, 8, [.nilFunc])),
  (284, (false, 1, 8, [.nilFunc])),
  (285, (false, 1, 8, [.nilFunc])),
  (286, (false, 1, 8, [.nilFunc])),
  (287, (false, 1, 8, [.nilFunc])),
  (288, (false, 1, 8, [.nilFunc])),
  (289, (false, 1, 8, [.nilFunc])),
  (290, (false, 1, 24, [.slice none 0 0])),
  (291, (false, 1, 8, [.nilFunc])),
  (292, (false, 1, 8, [.nilFunc])),
  (293, (false, 1, 8, [.nilFunc])),
  (294, (false, 1, 8, [.nilFunc])),
  (295, (false, 1, 8, [.nilFunc])),
  (297, (false, 1, 8, [.nilFunc])),
  (298, (false, 1, 8, [.nilFunc])),
  (299, (false, 1, 4, [.int .u32 0])),
  (301, (false, 1, 8, [.nilFunc])),
  (302, (false, 1, 8, [.int .u64 0])),
  (304, (false, 1, 8, [.nilFunc])),
  (305, (false, 1, 8, [.nilFunc])),
  (306, (false, 1, 8, [.nilFunc])),
  (307, (false, 1, 8, [.nilFunc])),
  (308, (false, 1, 8, [.int .i64 0])),
  (310, (false, 1, 8, [.nilFunc])),
  (311, (false, 1, 8, [.pointer none])),
  (312, (false, 1, 8, [.nilFunc])),
  (313, (false, 1, 8, [.nilFunc])),
  (314, (true, 24, 24, [.int .u8 0, .int .u8 0, .int .u8 0, .int .u8 0, .int .u8 0, .int .u8 0, .int .u8 0, .int .u8 0, .int .u8 0, .int .u8 0, .int .u8 0, .int .u8 0, .int .u8 0, .int .u8 0, .int .u8 0, .int .u8 0, .int .u8 0, .int .u8 0, .int .u8 0, .int .u8 0, .int .u8 0, .int .u8 0, .int .u8 0, .int .u8 0])),
  (315, (false, 1, 8, [.nilFunc])),
  (316, (false, 1, 8, [.nilFunc])),
  (318, (false, 1, 8, [.nilFunc])),
  (319, (false, 1, 8, [.nilFunc])),
  (321, (false, 1, 8, [.nilFunc])),
  (323, (false, 1, 8, [.nilFunc])),
  (324, (false, 1, 8, [.nilFunc])),
  (325, (true, 3, 48, [.string ⟨#[]⟩, .string ⟨#[]⟩, .nilIface])),
  (326, (true, 3, 48, [.string ⟨#[]⟩, .string ⟨#[]⟩, .nilIface])),
  (327, (false, 1, 8, [.nilFunc])),
  (328, (false, 1, 8, [.nilFunc])),
  (329, (true, 20, 160, [.int .u64 0, .int .u64 0, .int .u64 0, .int .u64 0, .int .u64 0, .int .u64 0, .int .u64 0, .int .u64 0, .int .u64 0, .int .u64 0, .int .u64 0, .int .u64 0, .int .u64 0, .int .u64 0, .int .u64 0, .int .u64 0, .int .u64 0, .int .u64 0, .int .u64 0, .int .u64 0])),
  (331, (false, 1, 8, [.nilFunc])),
  (332, (false, 1, 8, [.nilFunc])),
  (333, (false, 1, 8, [.pointer none])),
  (334, (true, 1, 16, [.string ⟨#[]⟩])),
  (335, (true, 1, 16, [.string ⟨#[]⟩])),
  (336, (false, 1, 8, [.nilFunc])),
  (338, (true, 2, 2, [.int .u8 0, .int .u8 0])),
  (339, (true, 2, 2, [.int .u8 0, .int .u8 0])),
  (340, (true, 32, 32, [.int .u8 0, .int .u8 0, .int .u8 0, .int .u8 0, .int .u8 0, .int .u8 0, .int .u8 0, .int .u8 0, .int .u8 0, .int .u8 0, .int .u8 0, .int .u8 0, .int .u8 0, .int .u8 0, .int .u8 0, .int .u8 0, .int .u8 0, .int .u8 0, .int .u8 0, .int .u8 0, .int .u8 0, .int .u8 0, .int .u8 0, .int .u8 0, .int .u8 0, .int .u8 0, .int .u8 0, .int .u8 0, .int .u8 0, .int .u8 0, .int .u8 0, .int .u8 0])),
  (341, (false, 1, 8, [.nilFunc])),
  (342, (true, 32, 32, [.int .u8 0, .int .u8 0, .int .u8 0, .int .u8 0, .int .u8 0, .int .u8 0, .int .u8 0, .int .u8 0, .int .u8 0, .int .u8 0, .int .u8 0, .int .u8 0, .int .u8 0, .int .u8 0, .int .u8 0, .int .u8 0, .int .u8 0, .int .u8 0, .int .u8 0, .int .u8 0, .int .u8 0, .int .u8 0, .int .u8 0, .int .u8 0, .int .u8 0, .int .u8 0, .int .u8 0, .int .u8 0, .int .u8 0, .int .u8 0, .int .u8 0, .int .u8 0])),
  (344, (true, 4, 40, [.pointer none, .pointer none, .pointer none, .string ⟨#[]⟩])),
  (345, (true, 4, 40, [.pointer none, .pointer none, .pointer none, .string ⟨#[]⟩])),
  (346, (true, 0, 0, [])),
  (347, (true, 0, 0, [])),
  (348, (true, 0, 0, [])),
  (349, (false, 1, 1, [.int .u8 0])),
  (350, (false, 1, 1, [.int .u8 0])),
  (351, (false, 1, 8, [.nilFunc])),
  (352, (false, 1, 4, [.int .i32 0])),
  (353, (false, 1, 4, [.int .i32 0])),
  (354, (true, 11, 48, [.int .u64 0, .int .u64 0, .int .u32 0, .int .u8 0, .int .u8 0, .int .u8 0, .int .u8 0, .nilFunc, .pointer none, .int .i32 0, .int .i32 0])),
  (355, (true, 11, 48, [.int .u64 0, .int .u64 0, .int .u32 0, .int .u8 0, .int .u8 0, .int .u8 0, .int .u8 0, .nilFunc, .pointer none, .int .i32 0, .int .i32 0]))]
def tbFl : List (Nat × Nat) := [(700, 0), (701, 1), (702, 2), (703, 3), (800, 0), (801, 1), (802, 2), (803, 3), (1300, 0), (1301, 1), (1400, 0), (1401, 1), (1800, 0), (1900, 0), (2500, 0), (2501, 1), (2502, 2), (2503, 3), (2504, 4), (2505, 5), (2506, 6), (2600, 0), (2601, 1), (2602, 2), (2603, 3), (2604, 4), (2605, 5), (2606, 6), (2700, 0), (2701, 1), (2702, 2), (2703, 3), (2704, 4), (2705, 5), (2800, 0), (2801, 1), (2802, 2), (2803, 3), (2804, 4), (2805, 5), (5000, 0), (5001, 1), (5002, 2), (5100, 0), (5101, 1), (5102, 2), (5200, 0), (5201, 1), (5300, 0), (5301, 1), (5400, 0), (5401, 1), (5402, 2), (5403, 3), (5500, 0), (5501, 1), (5502, 2), (5503, 3), (5600, 0), (5601, 1), (5602, 2), (5603, 7), (5700, 0), (5701, 1), (5702, 2), (5703, 7), (6500, 0), (6501, 1), (6502, 2), (6503, 3), (6600, 0), (6601, 1), (6602, 2), (6603, 3), (7300, 0), (7301, 1), (7400, 0), (7401, 1), (8500, 0), (8501, 1), (8600, 0), (8601, 1), (10400, 0), (10401, 1), (10500, 0), (10501, 1), (11700, 0), (11701, 1), (11702, 2), (11703, 3), (11800, 0), (11801, 1), (11802, 2), (11803, 3), (13600, 0), (13601, 1), (13700, 0), (13701, 1), (13800, 0), (13801, 2), (13900, 0), (13901, 2), (14300, 0), (14301, 2), (14400, 0), (14401, 2), (15500, 0), (15600, 0), (17100, 0), (17200, 0), (18800, 0), (18900, 0), (21000, 0), (21001, 1), (21100, 0), (21101, 1), (24800, 0), (24801, 1), (24900, 0), (24901, 1), (25600, 0), (25601, 1), (25700, 0), (25701, 1), (25800, 0), (25801, 3), (25802, 4), (25900, 0), (25901, 3), (25902, 4), (26400, 0), (26401, 1), (26402, 2), (26403, 3), (26500, 0), (26501, 1), (26502, 2), (26503, 3), (28100, 0), (28101, 1), (28200, 0), (28201, 1), (32500, 0), (32501, 1), (32502, 2), (32600, 0), (32601, 1), (32602, 2), (33400, 0), (33500, 0), (33800, 0), (33801, 1), (33900, 0), (33901, 1), (34400, 0), (34401, 1), (34402, 2), (34403, 3), (34500, 0), (34501, 1), (34502, 2), (34503, 3), (35400, 0), (35401, 1), (35402, 2), (35403, 3), (35404, 4), (35405, 5), (35406, 6), (35407, 7), (35408, 8), (35409, 9), (35410, 10), (35500, 0), (35501, 1), (35502, 2), (35503, 3), (35504, 4), (35505, 5), (35506, 6), (35507, 7), (35508, 8), (35509, 9), (35510, 10)]
def tbEl : List (Nat × (Nat × Nat × Bool)) := [(22, (66, 0, false)), (23, (139, 0, false)), (24, (144, 0, false)), (71, (51, 0, false)), (72, (3, 0, false)), (87, (86, 0, false)), (96, (28, 0, false)), (99, (105, 0, false)), (109, (3, 3, true)), (114, (3, 2, true)), (116, (53, 0, false)), (146, (55, 0, false)), (149, (23, 0, false)), (203, (9, 0, false)), (205, (3, 4, true)), (209, (5, 0, false)), (224, (282, 0, false)), (225, (282, 0, false)), (229, (23, 2, true)), (240, (31, 0, false)), (243, (137, 0, false)), (245, (249, 0, false)), (261, (137, 0, false)), (273, (272, 4, true)), (280, (118, 0, false)), (290, (257, 0, false)), (314, (5, 24, true)), (329, (302, 20, true)), (340, (339, 16, true)), (342, (5, 32, true)), (346, (16, 0, true))]
def tbBd : List (Nat × List (Nat × Nat)) := [(7, [(0, 1), (1, 1), (2, 1), (3, 1)]), (8, [(0, 1), (1, 1), (2, 1), (3, 1)]), (13, [(0, 1), (1, 1)]), (14, [(0, 1), (1, 1)]), (18, [(0, 1)]), (19, [(0, 1)]), (25, [(0, 1), (1, 1), (2, 1), (3, 1), (4, 1), (5, 1), (6, 1)]), (26, [(0, 1), (1, 1), (2, 1), (3, 1), (4, 1), (5, 1), (6, 1)]), (27, [(0, 1), (1, 1), (2, 1), (3, 1), (4, 1), (5, 7)]), (28, [(0, 1), (1, 1), (2, 1), (3, 1), (4, 1), (5, 7)]), (50, [(0, 1), (1, 1), (2, 1)]), (51, [(0, 1), (1, 1), (2, 1)]), (52, [(0, 1), (1, 1)]), (53, [(0, 1), (1, 1)]), (54, [(0, 1), (1, 1), (2, 1), (3, 2)]), (55, [(0, 1), (1, 1), (2, 1), (3, 2)]), (56, [(0, 1), (1, 1), (2, 5), (7, 1)]), (57, [(0, 1), (1, 1), (2, 5), (7, 1)]), (65, [(0, 1), (1, 1), (2, 1), (3, 1)]), (66, [(0, 1), (1, 1), (2, 1), (3, 1)]), (73, [(0, 1), (1, 1)]), (74, [(0, 1), (1, 1)]), (85, [(0, 1), (1, 1)]), (86, [(0, 1), (1, 1)]), (104, [(0, 1), (1, 1)]), (105, [(0, 1), (1, 1)]), (117, [(0, 1), (1, 1), (2, 1), (3, 1)]), (118, [(0, 1), (1, 1), (2, 1), (3, 1)]), (136, [(0, 1), (1, 1)]), (137, [(0, 1), (1, 1)]), (138, [(0, 2), (2, 2)]), (139, [(0, 2), (2, 2)]), (143, [(0, 2), (2, 1)]), (144, [(0, 2), (2, 1)]), (155, [(0, 12)]), (156, [(0, 12)]), (171, [(0, 7)]), (172, [(0, 7)]), (188, [(0, 8)]), (189, [(0, 8)]), (210, [(0, 1), (1, 1)]), (211, [(0, 1), (1, 1)]), (248, [(0, 1), (1, 2)]), (249, [(0, 1), (1, 2)]), (256, [(0, 1), (1, 2)]), (257, [(0, 1), (1, 2)]), (258, [(0, 3), (3, 1), (4, 1)]), (259, [(0, 3), (3, 1), (4, 1)]), (264, [(0, 1), (1, 1), (2, 1), (3, 2)]), (265, [(0, 1), (1, 1), (2, 1), (3, 2)]), (281, [(0, 1), (1, 1)]), (282, [(0, 1), (1, 1)]), (325, [(0, 1), (1, 1), (2, 1)]), (326, [(0, 1), (1, 1), (2, 1)]), (334, [(0, 1)]), (335, [(0, 1)]), (338, [(0, 1), (1, 1)]), (339, [(0, 1), (1, 1)]), (344, [(0, 1), (1, 1), (2, 1), (3, 1)]), (345, [(0, 1), (1, 1), (2, 1), (3, 1)]), (347, [(0, 0)]), (348, [(0, 0)]), (354, [(0, 1), (1, 1), (2, 1), (3, 1), (4, 1), (5, 1), (6, 1), (7, 1), (8, 1), (9, 1), (10, 1)]), (355, [(0, 1), (1, 1), (2, 1), (3, 1), (4, 1), (5, 1), (6, 1), (7, 1), (8, 1), (9, 1), (10, 1)])]
def tbKd : List (Nat × IntKind) := [(2, .i64), (3, .i64), (5, .u8), (6, .u8), (12, .u64), (21, .i32), (31, .i64), (277, .u64), (299, .u32), (302, .u64), (308, .i64), (349, .u8), (350, .u8), (352, .i32), (353, .i32)]
def tbEn : List (Nat × Unit) := [(3, ()), (4, ()), (5, ()), (6, ()), (7, ()), (8, ()), (9, ()), (10, ()), (11, ()), (12, ()), (13, ()), (14, ()), (15, ()), (16, ()), (17, ()), (18, ()), (19, ()), (20, ()), (21, ()), (22, ()), (23, ()), (24, ()), (25, ()), (26, ()), (27, ()), (28, ()), (29, ()), (30, ()), (31, ()), (32, ()), (33, ()), (34, ()), (35, ()), (36, ()), (37, ()), (38, ()), (39, ()), (40, ()), (41, ()), (42, ()), (43, ()), (44, ()), (45, ()), (46, ()), (47, ()), (48, ()), (49, ()), (50, ()), (51, ()), (52, ()), (53, ()), (54, ()), (55, ()), (56, ()), (57, ()), (58, ()), (59, ()), (60, ()), (61, ()), (62, ()), (63, ()), (64, ()), (65, ()), (66, ()), (67, ()), (68, ()), (69, ()), (70, ()), (71, ()), (72, ()), (73, ()), (74, ()), (75, ()), (76, ()), (77, ()), (78, ()), (79, ()), (80, ()), (81, ()), (82, ()), (83, ()), (84, ()), (85, ()), (86, ()), (87, ()), (88, ()), (89, ()), (90, ()), (91, ()), (92, ()), (93, ()), (94, ()), (95, ()), (96, ()), (97, ()), (98, ()), (99, ()), (100, ()), (101, ()), (102, ()), (103, ()), (104, ()), (105, ()), (106, ()), (107, ()), (108, ()), (109, ()), (110, ()), (111, ()), (112, ()), (113, ()), (114, ()), (115, ()), (116, ()), (117, ()), (118, ()), (119, ()), (120, ()), (121, ()), (122, ()), (123, ()), (124, ()), (125, ()), (126, ()), (127, ()), (128, ()), (129, ()), (130, ()), (131, ()), (132, ()), (133, ()), (134, ()), (135, ()), (136, ()), (137, ()), (138, ()), (139, ()), (140, ()), (141, ()), (142, ()), (143, ()), (144, ()), (145, ()), (146, ()), (147, ()), (148, ()), (149, ()), (150, ()), (151, ()), (152, ()), (153, ()), (154, ()), (155, ()), (156, ()), (157, ()), (158, ()), (159, ()), (160, ()), (161, ()), (162, ()), (163, ()), (164, ()), (165, ()), (166, ()), (167, ()), (168, ()), (169, ()), (170, ()), (171, ()), (172, ()), (173, ()), (174, ()), (175, ()), (176, ()), (177, ()), (178, ()), (179, ()), (180, ()), (181, ()), (182, ()), (183, ()), (184, ()), (185, ()), (186, ()), (187, ()), (188, ()), (189, ()), (190, ()), (191, ()), (192, ()), (193, ()), (194, ()), (195, ()), (196, ()), (197, ()), (198, ()), (199, ()), (200, ()), (201, ()), (202, ()), (203, ()), (204, ()), (205, ()), (206, ()), (207, ()), (208, ()), (209, ()), (210, ()), (211, ()), (212, ()), (213, ()), (214, ()), (215, ()), (216, ()), (217, ()), (218, ()), (219, ()), (220, ()), (221, ()), (223, ()), (225, ()), (226, ()), (227, ()), (228, ()), (229, ()), (230, ()), (232, ()), (233, ()), (234, ()), (235, ()), (236, ()), (237, ()), (238, ()), (239, ()), (240, ()), (241, ()), (242, ()), (243, ()), (244, ()), (245, ()), (249, ()), (250, ()), (251, ()), (252, ()), (253, ()), (255, ()), (256, ()), (262, ()), (263, ())]
theorem tbTy_ok : tbTy.map (fun p => tyC Tryz.prog p.1) = tbTy.map (fun p => some p.2) := by kernel_rfl
theorem tbFl_ok : tbFl.map (fun p => flC Tryz.prog p.1) = tbFl.map (fun p => some p.2) := by kernel_rfl
theorem tbEl_ok : tbEl.map (fun p => elC Tryz.prog p.1) = tbEl.map (fun p => some p.2) := by kernel_rfl
theorem tbBd_ok : tbBd.map (fun p => bdC Tryz.prog p.1) = tbBd.map (fun p => some (p.2.map fun x => (x.1, some x.2))) := by kernel_rfl
theorem tbKd_ok : tbKd.map (fun p => kdC Tryz.prog p.1) = tbKd.map (fun p => some p.2) := by kernel_rfl
theorem tbEn_ok : tbEn.map (fun p => enC Tryz.prog p.1) = tbEn.map (fun _ => true) := by kernel_rfl
def tb : Tab Tryz.prog where
  ty := tbTy
  fl := tbFl
  el := tbEl
  bd := tbBd
  kd := tbKd
  en := tbEn
  ty_ok := fun p hp => tyC_F (map_all tbTy_ok p hp)
  fl_ok := fun p hp => flC_F (map_all tbFl_ok p hp)
  el_ok := fun p hp => elC_F (map_all tbEl_ok p hp)
  bd_ok := fun p hp => bdC_F (map_all tbBd_ok p hp)
  kd_ok := fun p hp => kdC_F (map_all tbKd_ok p hp)
  en_ok := fun p hp => enC_F (map_all tbEn_ok p hp)
theorem mixed : Tryz.prog.follows .mixedOrders = true := by kernel_rfl
end Go.Proofs.YthilaakeimfedaaGreatDoor
