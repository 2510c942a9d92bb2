/-
  The tables that the calculus asks of this seat's program: types, fields, functions. Conditions: none. Written by a program (wip/tools/tab.py).
-/
import Derived.Test.YtolnohjbpllmhaaShUse
import Derived.Test.YtolnohjbpllmhaaRows
namespace Go.Proofs.Ytolnohjbpllmhaa

def tyC (P : Program) (t : Nat) : Option (Bool × Nat × Nat × List Value) := match P.underlying t, P.info? t with
  | some d, some i => i.zero.map fun z => (isAggD d, i.size, i.bytes, z.cells.toList)
  | _, _ => none
theorem tyC_F {P : Program} {t : Nat} {r : Bool × Nat × Nat × List Value} (h : tyC P t = some r) : tyF P t r := by
  unfold tyC at h
  split at h
  · rename_i d i hd hi
    cases hz : i.zero with
    | none => rw [hz] at h; cases h
    | some z =>
      rw [hz] at h
      simp only [Option.map_some, Option.some.injEq] at h
      subst h
      exact ⟨d, i, z, hd, hi, rfl, rfl, rfl, hz, rfl⟩
  · cases h
def flC (P : Program) (s : Nat) : Option Nat := match P.underlying (s / 100) with
  | some (.struct fs) => match fs[s % 100]? with
    | some f => match P.info? f.type with
      | some j => match Nat.beq j.size 0 with
        | false => some f.offset
        | true => none
      | none => none
    | none => none
  | _ => none
theorem flC_F {P : Program} {s off : Nat} (h : flC P s = some off) : flF P s off := by
  unfold flC at h
  split at h
  · rename_i fs hfs
    split at h
    · rename_i f hf
      split at h
      · rename_i j hj
        split at h
        · rename_i hb
          injection h with h
          refine ⟨fs, f, j, hfs, hf, hj, fun h0 => ?_, h⟩
          rw [h0] at hb
          cases hb
        · cases h
      · cases h
    · cases h
  · cases h
def elC (P : Program) (t : Nat) : Option (Nat × Nat × Bool) := match P.underlying t with
  | some (.slice e) => some (e, 0, false)
  | some (.array n e) => some (e, n, true)
  | _ => none
theorem elC_F {P : Program} {t : Nat} {r : Nat × Nat × Bool} (h : elC P t = some r) : elF P t r := by
  unfold elC at h
  split at h
  · rename_i e he
    injection h with h
    subst h
    exact .inl ⟨rfl, he⟩
  · rename_i n e he
    injection h with h
    subst h
    exact .inr ⟨rfl, he⟩
  · cases h
def bdC (P : Program) (t : Nat) : Option (List (Nat × Option Nat)) := match P.underlying t with
  | some (.struct fs) => some (fs.toList.map fun f => (f.offset, (P.info? f.type).map (·.size)))
  | _ => none
theorem bdC_F {P : Program} {t : Nat} {r : List (Nat × Nat)} (h : bdC P t = some (r.map fun x => (x.1, some x.2))) : bdF P t r := by
  unfold bdC at h
  split at h
  · rename_i fs hfs
    injection h with h
    exact ⟨fs, hfs, h⟩
  · cases h
def kdC (P : Program) (t : Nat) : Option IntKind := match P.underlying t with
  | some (.int k) => some k
  | _ => none
theorem kdC_F {P : Program} {t : Nat} {k : IntKind} (h : kdC P t = some k) : kdF P t k := by
  unfold kdC at h
  split at h
  · rename_i k' hk
    injection h with h
    subst h
    exact hk
  · cases h
def enC (P : Program) (f : Nat) : Bool := match P.funcs[f]? with
  | some fn => !(fn.name == "runtime.NumGoroutine") && fn.body.isSome
  | none => false
theorem enC_F {P : Program} {f : Nat} (h : enC P f = true) : Enters P f := by
  unfold enC at h
  split at h
  · rename_i fn hfn
    simp only [Bool.and_eq_true, Bool.not_eq_true'] at h
    obtain ⟨c, hc⟩ := Option.isSome_iff_exists.1 h.2
    exact enters_of hfn h.1 hc
  · cases h
theorem map_all {α β : Type} {f g : α → β} : ∀ {l : List α}, l.map f = l.map g → ∀ p ∈ l, f p = g p
  | [], _, p, hp => by cases hp
  | x :: t, h, p, hp => by
    simp only [List.map_cons, List.cons.injEq] at h
    rcases List.mem_cons.1 hp with rfl | hp
    · exact h.1
    · exact map_all h.2 p hp

def tbTy : List (Nat × (Bool × Nat × Nat × List Value)) := [
  (1, (false, 1, 8, [.nilFunc])),
  (2, (false, 1, 8, [.int .i64 0])),
  (3, (false, 1, 8, [.int .i64 0])),
  (4, (false, 1, 1, [.bool false])),
  (5, (false, 1, 1, [.int .u8 0])),
  (6, (false, 1, 1, [.int .u8 0])),
  (7, (true, 4, 24, [.int .i64 0, .int .i64 0, .bool false, .int .u8 0])),
  (8, (true, 4, 24, [.int .i64 0, .int .i64 0, .bool false, .int .u8 0])),
  (9, (false, 1, 16, [.string ⟨#[]⟩])),
  (10, (false, 1, 16, [.string ⟨#[]⟩])),
  (11, (false, 1, 16, [.string ⟨#[]⟩])),
  (12, (false, 1, 8, [.int .u64 0])),
  (13, (true, 2, 24, [.string ⟨#[]⟩, .int .u64 0])),
  (14, (true, 2, 24, [.string ⟨#[]⟩, .int .u64 0])),
  (15, (false, 1, 8, [.pointer none])),
  (16, (false, 1, 8, [.pointer none])),
  (17, (false, 1, 8, [.pointer none])),
  (18, (true, 1, 8, [.pointer none])),
  (19, (true, 1, 8, [.pointer none])),
  (20, (false, 1, 16, [.nilIface])),
  (21, (false, 1, 4, [.int .i32 0])),
  (22, (true, 2, 16, [.int .i64 0, .int .i64 0])),
  (23, (true, 2, 16, [.int .i64 0, .int .i64 0])),
  (24, (false, 1, 24, [.slice none 0 0])),
  (25, (true, 2, 16, [.int .i64 0, .int .i64 0])),
  (26, (true, 2, 16, [.int .i64 0, .int .i64 0])),
  (27, (true, 9, 88, [.slice none 0 0, .int .i64 0, .int .i64 0, .int .i64 0, .int .i64 0, .int .i64 0, .int .i64 0, .int .i64 0, .int .i64 0])),
  (28, (true, 9, 88, [.slice none 0 0, .int .i64 0, .int .i64 0, .int .i64 0, .int .i64 0, .int .i64 0, .int .i64 0, .int .i64 0, .int .i64 0])),
  (29, (false, 1, 8, [.nilFunc])),
  (30, (false, 1, 8, [.nilFunc])),
  (31, (true, 2, 16, [.int .i64 0, .int .i64 0])),
  (32, (true, 2, 16, [.int .i64 0, .int .i64 0])),
  (33, (false, 1, 8, [.int .i64 0])),
  (35, (false, 1, 8, [.nilFunc])),
  (36, (false, 1, 8, [.nilFunc])),
  (37, (false, 1, 8, [.nilFunc])),
  (39, (false, 1, 8, [.nilFunc])),
  (40, (false, 1, 8, [.nilFunc])),
  (41, (false, 1, 24, [.slice none 0 0])),
  (42, (false, 1, 24, [.slice none 0 0])),
  (43, (true, 4, 72, [.string ⟨#[]⟩, .int .i64 0, .slice none 0 0, .slice none 0 0])),
  (44, (true, 4, 72, [.string ⟨#[]⟩, .int .i64 0, .slice none 0 0, .slice none 0 0])),
  (45, (false, 1, 8, [.nilFunc])),
  (47, (false, 1, 8, [.nilFunc])),
  (48, (false, 1, 8, [.nilFunc])),
  (49, (false, 1, 8, [.nilFunc])),
  (50, (false, 1, 8, [.nilFunc])),
  (51, (false, 1, 8, [.nilFunc])),
  (53, (false, 1, 8, [.nilFunc])),
  (54, (false, 1, 8, [.nilFunc])),
  (56, (false, 1, 8, [.nilFunc])),
  (57, (false, 1, 8, [.nilFunc])),
  (58, (false, 1, 8, [.nilFunc])),
  (59, (false, 1, 8, [.nilFunc])),
  (60, (false, 1, 8, [.nilFunc])),
  (61, (false, 1, 8, [.nilFunc])),
  (62, (false, 1, 8, [.nilFunc])),
  (63, (false, 1, 8, [.nilFunc])),
  (64, (false, 1, 8, [.nilFunc])),
  (65, (false, 1, 8, [.nilFunc])),
  (66, (false, 1, 8, [.nilFunc])),
  (67, (false, 1, 24, [.slice none 0 0])),
  (69, (false, 1, 8, [.nilFunc])),
  (70, (false, 1, 8, [.nilFunc])),
  (71, (true, 2, 16, [.int .i64 0, .int .i64 0])),
  (72, (false, 1, 24, [.slice none 0 0])),
  (74, (false, 1, 8, [.nilFunc])),
  (75, (false, 1, 8, [.nilFunc])),
  (76, (false, 1, 8, [.nilFunc])),
  (77, (false, 1, 8, [.nilFunc])),
  (79, (false, 1, 8, [.nilFunc])),
  (80, (false, 1, 8, [.nilFunc])),
  (81, (false, 1, 8, [.nilFunc])),
  (82, (false, 1, 8, [.nilFunc])),
  (83, (false, 1, 8, [.nilFunc])),
  (84, (false, 1, 8, [.nilFunc])),
  (85, (false, 1, 8, [.nilFunc])),
  (86, (false, 1, 8, [.nilFunc])),
  (87, (false, 1, 8, [.nilFunc])),
  (88, (false, 1, 8, [.nilFunc])),
  (89, (false, 1, 24, [.slice none 0 0])),
  (91, (false, 1, 8, [.nilFunc])),
  (92, (true, 2, 16, [.int .i64 0, .int .i64 0])),
  (93, (true, 2, 16, [.int .i64 0, .int .i64 0])),
  (94, (true, 3, 24, [.int .i64 0, .int .i64 0, .int .i64 0])),
  (95, (true, 3, 24, [.int .i64 0, .int .i64 0, .int .i64 0])),
  (96, (false, 1, 8, [.nilFunc])),
  (97, (false, 1, 8, [.nilFunc])),
  (98, (false, 1, 8, [.nilFunc])),
  (99, (false, 1, 8, [.nilFunc])),
  (100, (false, 1, 8, [.nilFunc])),
  (101, (false, 1, 8, [.nilFunc])),
  (102, (false, 1, 8, [.nilFunc])),
  (103, (false, 1, 8, [.nilFunc])),
  (104, (false, 1, 24, [.slice none 0 0])),
  (106, (false, 1, 8, [.nilFunc])),
  (107, (false, 1, 8, [.nilFunc])),
  (108, (true, 2, 16, [.int .i64 0, .int .i64 0])),
  (109, (true, 2, 16, [.int .i64 0, .int .i64 0])),
  (110, (false, 1, 8, [.nilFunc])),
  (111, (false, 1, 8, [.nilFunc])),
  (113, (false, 1, 8, [.nilFunc])),
  (114, (false, 1, 8, [.nilFunc])),
  (115, (false, 1, 8, [.nilFunc])),
  (117, (false, 1, 8, [.nilFunc])),
  (118, (false, 1, 8, [.nilFunc])),
  (119, (false, 1, 8, [.nilFunc])),
  (120, (false, 1, 8, [.nilFunc])),
  (121, (false, 1, 8, [.nilFunc])),
  (122, (false, 1, 8, [.nilFunc])),
  (123, (true, 3, 3, [.bool false, .bool false, .bool false])),
  (124, (false, 1, 8, [.nilFunc])),
  (125, (false, 1, 8, [.nilFunc])),
  (126, (false, 1, 8, [.nilFunc])),
  (127, (false, 1, 8, [.nilFunc])),
  (128, (false, 1, 24, [.slice none 0 0])),
  (130, (false, 1, 8, [.nilFunc])),
  (131, (false, 1, 8, [.nilFunc])),
  (132, (false, 1, 8, [.nilFunc])),
  (133, (false, 1, 8, [.nilFunc])),
  (134, (true, 3, 24, [.int .i64 0, .int .i64 0, .int .i64 0])),
  (135, (true, 3, 24, [.int .i64 0, .int .i64 0, .int .i64 0])),
  (136, (false, 1, 8, [.nilFunc])),
  (137, (false, 1, 8, [.nilFunc])),
  (138, (false, 1, 8, [.nilFunc])),
  (139, (false, 1, 8, [.nilFunc])),
  (140, (false, 1, 24, [.slice none 0 0])),
  (141, (false, 1, 8, [.nilFunc])),
  (142, (true, 2, 16, [.int .i64 0, .int .i64 0])),
  (143, (true, 2, 16, [.int .i64 0, .int .i64 0])),
  (144, (false, 1, 8, [.nilFunc])),
  (145, (false, 1, 8, [.nilFunc])),
  (146, (false, 1, 8, [.nilFunc])),
  (147, (false, 1, 8, [.nilFunc])),
  (148, (true, 9, 72, [.int .i64 0, .int .i64 0, .int .i64 0, .int .i64 0, .int .i64 0, .int .i64 0, .int .i64 0, .int .i64 0, .int .i64 0])),
  (149, (true, 9, 72, [.int .i64 0, .int .i64 0, .int .i64 0, .int .i64 0, .int .i64 0, .int .i64 0, .int .i64 0, .int .i64 0, .int .i64 0])),
  (151, (false, 1, 8, [.nilFunc])),
  (152, (false, 1, 8, [.nilFunc])),
  (154, (false, 1, 8, [.nilFunc])),
  (155, (false, 1, 8, [.nilFunc])),
  (156, (false, 1, 8, [.nilFunc])),
  (157, (false, 1, 8, [.nilFunc])),
  (158, (false, 1, 8, [.nilFunc])),
  (159, (false, 1, 8, [.pointer none])),
  (160, (false, 1, 24, [.slice none 0 0])),
  (162, (false, 1, 8, [.nilFunc])),
  (163, (false, 1, 8, [.nilFunc])),
  (164, (true, 2, 16, [.int .i64 0, .int .i64 0])),
  (165, (true, 2, 16, [.int .i64 0, .int .i64 0])),
  (166, (false, 1, 8, [.nilFunc])),
  (167, (true, 2, 16, [.int .i64 0, .int .i64 0])),
  (168, (true, 2, 16, [.int .i64 0, .int .i64 0])),
  (169, (false, 1, 8, [.nilFunc])),
  (170, (false, 1, 8, [.nilFunc])),
  (171, (false, 1, 8, [.nilFunc])),
  (172, (false, 1, 8, [.nilFunc])),
  (173, (false, 1, 8, [.nilFunc])),
  (174, (false, 1, 8, [.nilFunc])),
  (175, (false, 1, 8, [.nilFunc])),
  (176, (false, 1, 8, [.int .u64 0])),
  (177, (false, 1, 8, [.nilFunc])),
  (178, (false, 1, 8, [.nilFunc])),
  (179, (false, 1, 8, [.nilFunc])),
  (180, (false, 1, 8, [.nilFunc])),
  (181, (false, 1, 8, [.nilFunc])),
  (182, (false, 1, 8, [.nilFunc])),
  (183, (false, 1, 8, [.nilFunc])),
  (184, (false, 1, 8, [.nilFunc])),
  (185, (false, 1, 8, [.nilFunc])),
  (186, (false, 1, 8, [.nilFunc])),
  (187, (false, 1, 8, [.nilFunc])),
  (189, (false, 1, 8, [.nilFunc])),
  (190, (false, 1, 8, [.nilFunc])),
  (191, (false, 1, 8, [.nilFunc])),
  (192, (false, 1, 8, [.nilFunc])),
  (193, (false, 1, 24, [.slice none 0 0])),
  (194, (false, 1, 8, [.nilFunc])),
  (195, (false, 1, 24, [.slice none 0 0])),
  (196, (false, 1, 8, [.nilFunc])),
  (197, (false, 1, 8, [.nilFunc])),
  (198, (false, 1, 24, [.slice none 0 0])),
  (199, (false, 1, 8, [.nilFunc])),
  (200, (false, 1, 8, [.nilFunc])),
  (201, (false, 1, 8, [.nilFunc])),
  (202, (false, 1, 4, [.int .u32 0])),
  (204, (false, 1, 8, [.nilFunc])),
  (205, (false, 1, 8, [.int .u64 0])),
  (207, (false, 1, 8, [.nilFunc])),
  (208, (true, 3, 24, [.int .i64 0, .int .i64 0, .int .i64 0])),
  (209, (false, 1, 8, [.nilFunc])),
  (210, (false, 1, 8, [.nilFunc])),
  (211, (true, 4, 40, [.pointer none, .pointer none, .pointer none, .string ⟨#[]⟩])),
  (212, (true, 4, 40, [.pointer none, .pointer none, .pointer none, .string ⟨#[]⟩])),
  (213, (true, 0, 0, [])),
  (214, (true, 0, 0, [])),
  (215, (true, 0, 0, [])),
  (216, (false, 1, 1, [.int .u8 0])),
  (217, (false, 1, 1, [.int .u8 0])),
  (218, (false, 1, 8, [.nilFunc])),
  (219, (false, 1, 8, [.pointer none])),
  (220, (false, 1, 4, [.int .i32 0])),
  (221, (false, 1, 4, [.int .i32 0])),
  (222, (true, 11, 48, [.int .u64 0, .int .u64 0, .int .u32 0, .int .u8 0, .int .u8 0, .int .u8 0, .int .u8 0, .nilFunc, .pointer none, .int .i32 0, .int .i32 0])),
  (223, (true, 11, 48, [.int .u64 0, .int .u64 0, .int .u32 0, .int .u8 0, .int .u8 0, .int .u8 0, .int .u8 0, .nilFunc, .pointer none, .int .i32 0, .int .i32 0]))]
def tbFl : List (Nat × Nat) := [(700, 0), (701, 1), (702, 2), (703, 3), (800, 0), (801, 1), (802, 2), (803, 3), (1300, 0), (1301, 1), (1400, 0), (1401, 1), (1800, 0), (1900, 0), (2200, 0), (2201, 1), (2300, 0), (2301, 1), (2500, 0), (2501, 1), (2600, 0), (2601, 1), (2700, 0), (2701, 1), (2702, 3), (2703, 4), (2704, 5), (2705, 6), (2706, 7), (2707, 8), (2800, 0), (2801, 1), (2802, 3), (2803, 4), (2804, 5), (2805, 6), (2806, 7), (2807, 8), (3100, 0), (3101, 1), (3200, 0), (3201, 1), (4300, 0), (4301, 1), (4302, 2), (4303, 3), (4400, 0), (4401, 1), (4402, 2), (4403, 3), (9200, 0), (9201, 1), (9300, 0), (9301, 1), (9400, 0), (9401, 1), (9402, 2), (9500, 0), (9501, 1), (9502, 2), (10800, 0), (10801, 1), (10900, 0), (10901, 1), (13400, 0), (13401, 1), (13402, 2), (13500, 0), (13501, 1), (13502, 2), (14200, 0), (14201, 1), (14300, 0), (14301, 1), (14800, 0), (14801, 3), (14802, 4), (14803, 5), (14804, 6), (14805, 7), (14900, 0), (14901, 3), (14902, 4), (14903, 5), (14904, 6), (14905, 7), (16400, 0), (16401, 1), (16500, 0), (16501, 1), (16700, 0), (16701, 1), (16800, 0), (16801, 1), (21100, 0), (21101, 1), (21102, 2), (21103, 3), (21200, 0), (21201, 1), (21202, 2), (21203, 3), (22200, 0), (22201, 1), (22202, 2), (22203, 3), (22204, 4), (22205, 5), (22206, 6), (22207, 7), (22208, 8), (22209, 9), (22210, 10), (22300, 0), (22301, 1), (22302, 2), (22303, 3), (22304, 4), (22305, 5), (22306, 6), (22307, 7), (22308, 8), (22309, 9), (22310, 10)]
def tbEl : List (Nat × (Nat × Nat × Bool)) := [(24, (143, 0, false)), (41, (23, 0, false)), (42, (95, 0, false)), (67, (71, 0, false)), (71, (3, 2, true)), (72, (3, 0, false)), (89, (93, 0, false)), (104, (109, 0, false)), (123, (4, 3, true)), (128, (149, 0, false)), (140, (168, 0, false)), (160, (168, 0, false)), (193, (42, 0, false)), (195, (44, 0, false)), (198, (33, 0, false)), (208, (3, 3, true)), (213, (16, 0, true))]
def tbBd : List (Nat × List (Nat × Nat)) := [(7, [(0, 1), (1, 1), (2, 1), (3, 1)]), (8, [(0, 1), (1, 1), (2, 1), (3, 1)]), (13, [(0, 1), (1, 1)]), (14, [(0, 1), (1, 1)]), (18, [(0, 1)]), (19, [(0, 1)]), (22, [(0, 1), (1, 1)]), (23, [(0, 1), (1, 1)]), (25, [(0, 1), (1, 1)]), (26, [(0, 1), (1, 1)]), (27, [(0, 1), (1, 2), (3, 1), (4, 1), (5, 1), (6, 1), (7, 1), (8, 1)]), (28, [(0, 1), (1, 2), (3, 1), (4, 1), (5, 1), (6, 1), (7, 1), (8, 1)]), (31, [(0, 1), (1, 1)]), (32, [(0, 1), (1, 1)]), (43, [(0, 1), (1, 1), (2, 1), (3, 1)]), (44, [(0, 1), (1, 1), (2, 1), (3, 1)]), (92, [(0, 1), (1, 1)]), (93, [(0, 1), (1, 1)]), (94, [(0, 1), (1, 1), (2, 1)]), (95, [(0, 1), (1, 1), (2, 1)]), (108, [(0, 1), (1, 1)]), (109, [(0, 1), (1, 1)]), (134, [(0, 1), (1, 1), (2, 1)]), (135, [(0, 1), (1, 1), (2, 1)]), (142, [(0, 1), (1, 1)]), (143, [(0, 1), (1, 1)]), (148, [(0, 3), (3, 1), (4, 1), (5, 1), (6, 1), (7, 2)]), (149, [(0, 3), (3, 1), (4, 1), (5, 1), (6, 1), (7, 2)]), (164, [(0, 1), (1, 1)]), (165, [(0, 1), (1, 1)]), (167, [(0, 1), (1, 1)]), (168, [(0, 1), (1, 1)]), (211, [(0, 1), (1, 1), (2, 1), (3, 1)]), (212, [(0, 1), (1, 1), (2, 1), (3, 1)]), (214, [(0, 0)]), (215, [(0, 0)]), (222, [(0, 1), (1, 1), (2, 1), (3, 1), (4, 1), (5, 1), (6, 1), (7, 1), (8, 1), (9, 1), (10, 1)]), (223, [(0, 1), (1, 1), (2, 1), (3, 1), (4, 1), (5, 1), (6, 1), (7, 1), (8, 1), (9, 1), (10, 1)])]
def tbKd : List (Nat × IntKind) := [(2, .i64), (3, .i64), (5, .u8), (6, .u8), (12, .u64), (21, .i32), (33, .i64), (176, .u64), (202, .u32), (205, .u64), (216, .u8), (217, .u8), (220, .i32), (221, .i32)]
def tbEn : List (Nat × Unit) := [(3, ()), (4, ()), (5, ()), (6, ()), (7, ()), (8, ()), (9, ()), (10, ()), (11, ()), (12, ()), (13, ()), (14, ()), (15, ()), (16, ()), (17, ()), (18, ()), (19, ()), (20, ()), (21, ()), (22, ()), (23, ()), (24, ()), (25, ()), (26, ()), (27, ()), (28, ()), (29, ()), (30, ()), (31, ()), (32, ()), (33, ()), (34, ()), (35, ()), (36, ()), (37, ()), (38, ()), (39, ()), (40, ()), (41, ()), (42, ()), (43, ()), (44, ()), (45, ()), (46, ()), (47, ()), (48, ()), (49, ()), (50, ()), (51, ()), (52, ()), (53, ()), (54, ()), (55, ()), (56, ()), (57, ()), (58, ()), (59, ()), (60, ()), (61, ()), (62, ()), (63, ()), (64, ()), (65, ()), (66, ()), (67, ()), (68, ()), (69, ()), (70, ()), (71, ()), (72, ()), (73, ()), (74, ()), (75, ()), (76, ()), (77, ()), (78, ()), (79, ()), (80, ()), (81, ()), (82, ()), (83, ()), (84, ()), (85, ()), (86, ()), (87, ()), (88, ()), (89, ()), (90, ()), (91, ()), (92, ()), (93, ()), (94, ()), (95, ()), (96, ()), (97, ()), (98, ()), (99, ()), (100, ()), (101, ()), (102, ()), (103, ()), (104, ()), (105, ()), (106, ()), (107, ()), (108, ()), (109, ()), (110, ()), (111, ()), (112, ()), (113, ()), (114, ()), (115, ()), (116, ()), (117, ()), (118, ()), (119, ()), (120, ()), (121, ()), (122, ()), (123, ()), (124, ()), (125, ()), (126, ()), (127, ()), (128, ()), (129, ()), (130, ()), (131, ()), (132, ()), (133, ()), (134, ()), (135, ()), (136, ()), (137, ()), (138, ()), (139, ()), (140, ()), (141, ()), (142, ()), (143, ()), (144, ()), (145, ()), (146, ()), (147, ()), (148, ()), (149, ()), (150, ()), (151, ()), (152, ()), (153, ()), (154, ()), (155, ()), (156, ()), (157, ()), (158, ()), (159, ()), (160, ()), (161, ()), (162, ()), (163, ()), (164, ()), (165, ()), (166, ()), (167, ()), (168, ()), (169, ()), (170, ()), (171, ()), (172, ())]
theorem tbTy_ok : tbTy.map (fun p => tyC Try.prog p.1) = tbTy.map (fun p => some p.2) := by kernel_rfl
theorem tbFl_ok : tbFl.map (fun p => flC Try.prog p.1) = tbFl.map (fun p => some p.2) := by kernel_rfl
theorem tbEl_ok : tbEl.map (fun p => elC Try.prog p.1) = tbEl.map (fun p => some p.2) := by kernel_rfl
theorem tbBd_ok : tbBd.map (fun p => bdC Try.prog p.1) = tbBd.map (fun p => some (p.2.map fun x => (x.1, some x.2))) := by kernel_rfl
theorem tbKd_ok : tbKd.map (fun p => kdC Try.prog p.1) = tbKd.map (fun p => some p.2) := by kernel_rfl
theorem tbEn_ok : tbEn.map (fun p => enC Try.prog p.1) = tbEn.map (fun _ => true) := by kernel_rfl
def tb : Tab Try.prog where
  ty := tbTy
  fl := tbFl
  el := tbEl
  bd := tbBd
  kd := tbKd
  en := tbEn
  ty_ok := fun p hp => tyC_F (map_all tbTy_ok p hp)
  fl_ok := fun p hp => flC_F (map_all tbFl_ok p hp)
  el_ok := fun p hp => elC_F (map_all tbEl_ok p hp)
  bd_ok := fun p hp => bdC_F (map_all tbBd_ok p hp)
  kd_ok := fun p hp => kdC_F (map_all tbKd_ok p hp)
  en_ok := fun p hp => enC_F (map_all tbEn_ok p hp)
theorem mixed : Try.prog.follows .mixedOrders = true := by kernel_rfl
end Go.Proofs.Ytolnohjbpllmhaa
