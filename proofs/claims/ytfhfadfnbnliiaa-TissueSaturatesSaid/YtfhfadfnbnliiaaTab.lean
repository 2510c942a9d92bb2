/-
  The tables that the calculus asks of this seat's program: types, fields, functions. Conditions: none. Written by a program (wip/tools/tab.py).
-/
import Derived.Test.YtfhfadfnbnliiaaShUse
import Derived.Test.YtfhfadfnbnliiaaRows
namespace Go.Proofs.Ytfhfadfnbnliiaa

def tyC (P : Program) (t : Nat) : Option (Bool × Nat × Nat × List Value) := match P.underlying t, P.info? t with
  | some d, some i => i.zero.map fun z => (isAggD d, i.size, i.bytes, z.cells.toList)
  | _, _ => none
theorem tyC_F {P : Program} {t : Nat} {r : Bool × Nat × Nat × List Value} (h : tyC P t = some r) : tyF P t r := by
  unfold tyC at h
  split at h
  · rename_i d i hd hi
    cases hz : i.zero with
    | none => rw [hz] at h; cases h
    | some z =>
      rw [hz] at h
      simp only [Option.map_some, Option.some.injEq] at h
      subst h
      exact ⟨d, i, z, hd, hi, rfl, rfl, rfl, hz, rfl⟩
  · cases h
def flC (P : Program) (s : Nat) : Option Nat := match P.underlying (s / 100) with
  | some (.struct fs) => match fs[s % 100]? with
    | some f => match P.info? f.type with
      | some j => match Nat.beq j.size 0 with
        | false => some f.offset
        | true => none
      | none => none
    | none => none
  | _ => none
theorem flC_F {P : Program} {s off : Nat} (h : flC P s = some off) : flF P s off := by
  unfold flC at h
  split at h
  · rename_i fs hfs
    split at h
    · rename_i f hf
      split at h
      · rename_i j hj
        split at h
        · rename_i hb
          injection h with h
          refine ⟨fs, f, j, hfs, hf, hj, fun h0 => ?_, h⟩
          rw [h0] at hb
          cases hb
        · cases h
      · cases h
    · cases h
  · cases h
def elC (P : Program) (t : Nat) : Option (Nat × Nat × Bool) := match P.underlying t with
  | some (.slice e) => some (e, 0, false)
  | some (.array n e) => some (e, n, true)
  | _ => none
theorem elC_F {P : Program} {t : Nat} {r : Nat × Nat × Bool} (h : elC P t = some r) : elF P t r := by
  unfold elC at h
  split at h
  · rename_i e he
    injection h with h
    subst h
    exact .inl ⟨rfl, he⟩
  · rename_i n e he
    injection h with h
    subst h
    exact .inr ⟨rfl, he⟩
  · cases h
def bdC (P : Program) (t : Nat) : Option (List (Nat × Option Nat)) := match P.underlying t with
  | some (.struct fs) => some (fs.toList.map fun f => (f.offset, (P.info? f.type).map (·.size)))
  | _ => none
theorem bdC_F {P : Program} {t : Nat} {r : List (Nat × Nat)} (h : bdC P t = some (r.map fun x => (x.1, some x.2))) : bdF P t r := by
  unfold bdC at h
  split at h
  · rename_i fs hfs
    injection h with h
    exact ⟨fs, hfs, h⟩
  · cases h
def kdC (P : Program) (t : Nat) : Option IntKind := match P.underlying t with
  | some (.int k) => some k
  | _ => none
theorem kdC_F {P : Program} {t : Nat} {k : IntKind} (h : kdC P t = some k) : kdF P t k := by
  unfold kdC at h
  split at h
  · rename_i k' hk
    injection h with h
    subst h
    exact hk
  · cases h
def enC (P : Program) (f : Nat) : Bool := match P.funcs[f]? with
  | some fn => !(fn.name == "runtime.NumGoroutine") && fn.body.isSome
  | none => false
theorem enC_F {P : Program} {f : Nat} (h : enC P f = true) : Enters P f := by
  unfold enC at h
  split at h
  · rename_i fn hfn
    simp only [Bool.and_eq_true, Bool.not_eq_true'] at h
    obtain ⟨c, hc⟩ := Option.isSome_iff_exists.1 h.2
    exact enters_of hfn h.1 hc
  · cases h
theorem map_all {α β : Type} {f g : α → β} : ∀ {l : List α}, l.map f = l.map g → ∀ p ∈ l, f p = g p
  | [], _, p, hp => by cases hp
  | x :: t, h, p, hp => by
    simp only [List.map_cons, List.cons.injEq] at h
    rcases List.mem_cons.1 hp with rfl | hp
    · exact h.1
    · exact map_all h.2 p hp

def tbTy : List (Nat × (Bool × Nat × Nat × List Value)) := [
  (1, (false, 1, 8, [.nilFunc])),
  (2, (false, 1, 8, [.int .i64 0])),
  (3, (false, 1, 8, [.int .i64 0])),
  (4, (false, 1, 1, [.bool false])),
  (5, (false, 1, 1, [.int .u8 0])),
  (6, (false, 1, 1, [.int .u8 0])),
  (7, (true, 4, 24, [.int .i64 0, .int .i64 0, .bool false, .int .u8 0])),
  (8, (true, 4, 24, [.int .i64 0, .int .i64 0, .bool false, .int .u8 0])),
  (9, (false, 1, 16, [.string ⟨#[]⟩])),
  (10, (false, 1, 16, [.string ⟨#[]⟩])),
  (11, (false, 1, 16, [.string ⟨#[]⟩])),
  (12, (false, 1, 8, [.int .u64 0])),
  (13, (true, 2, 24, [.string ⟨#[]⟩, .int .u64 0])),
  (14, (true, 2, 24, [.string ⟨#[]⟩, .int .u64 0])),
  (15, (false, 1, 8, [.pointer none])),
  (16, (false, 1, 8, [.pointer none])),
  (17, (false, 1, 8, [.pointer none])),
  (18, (true, 1, 8, [.pointer none])),
  (19, (true, 1, 8, [.pointer none])),
  (20, (false, 1, 16, [.nilIface])),
  (21, (false, 1, 4, [.int .i32 0])),
  (22, (false, 1, 24, [.slice none 0 0])),
  (23, (false, 1, 24, [.slice none 0 0])),
  (24, (true, 2, 16, [.int .i64 0, .int .i64 0])),
  (25, (true, 2, 16, [.int .i64 0, .int .i64 0])),
  (26, (true, 5, 40, [.int .i64 0, .int .i64 0, .int .i64 0, .int .i64 0, .int .i64 0])),
  (27, (true, 5, 40, [.int .i64 0, .int .i64 0, .int .i64 0, .int .i64 0, .int .i64 0])),
  (28, (true, 8, 96, [.slice none 0 0, .slice none 0 0, .int .i64 0, .int .i64 0, .int .i64 0, .int .i64 0, .int .i64 0, .int .i64 0])),
  (29, (true, 8, 96, [.slice none 0 0, .slice none 0 0, .int .i64 0, .int .i64 0, .int .i64 0, .int .i64 0, .int .i64 0, .int .i64 0])),
  (30, (false, 1, 8, [.nilFunc])),
  (31, (false, 1, 8, [.nilFunc])),
  (32, (false, 1, 8, [.int .i64 0])),
  (34, (false, 1, 8, [.nilFunc])),
  (35, (false, 1, 8, [.nilFunc])),
  (36, (false, 1, 8, [.nilFunc])),
  (37, (false, 1, 8, [.nilFunc])),
  (38, (false, 1, 8, [.nilFunc])),
  (39, (false, 1, 8, [.nilFunc])),
  (40, (false, 1, 8, [.nilFunc])),
  (41, (false, 1, 8, [.nilFunc])),
  (42, (false, 1, 8, [.nilFunc])),
  (43, (true, 2, 16, [.int .i64 0, .int .i64 0])),
  (44, (true, 2, 16, [.int .i64 0, .int .i64 0])),
  (46, (false, 1, 8, [.nilFunc])),
  (47, (false, 1, 8, [.nilFunc])),
  (48, (false, 1, 8, [.nilFunc])),
  (49, (false, 1, 8, [.nilFunc])),
  (50, (false, 1, 8, [.nilFunc])),
  (51, (true, 2, 16, [.int .i64 0, .int .i64 0])),
  (52, (true, 3, 24, [.int .i64 0, .int .i64 0, .int .i64 0])),
  (53, (false, 1, 8, [.nilFunc])),
  (54, (false, 1, 8, [.nilFunc])),
  (55, (false, 1, 8, [.nilFunc])),
  (56, (false, 1, 8, [.nilFunc])),
  (57, (false, 1, 8, [.nilFunc])),
  (58, (false, 1, 8, [.nilFunc])),
  (59, (false, 1, 24, [.slice none 0 0])),
  (60, (false, 1, 8, [.nilFunc])),
  (61, (true, 4, 32, [.int .i64 0, .int .i64 0, .int .i64 0, .int .i64 0])),
  (62, (true, 4, 32, [.int .i64 0, .int .i64 0, .int .i64 0, .int .i64 0])),
  (63, (false, 1, 8, [.nilFunc])),
  (65, (false, 1, 8, [.nilFunc])),
  (66, (false, 1, 8, [.nilFunc])),
  (67, (false, 1, 8, [.nilFunc])),
  (68, (false, 1, 24, [.slice none 0 0])),
  (69, (false, 1, 24, [.slice none 0 0])),
  (71, (false, 1, 8, [.nilFunc])),
  (72, (false, 1, 8, [.nilFunc])),
  (73, (false, 1, 24, [.slice none 0 0])),
  (74, (false, 1, 24, [.slice none 0 0])),
  (75, (true, 4, 72, [.string ⟨#[]⟩, .int .i64 0, .slice none 0 0, .slice none 0 0])),
  (76, (true, 4, 72, [.string ⟨#[]⟩, .int .i64 0, .slice none 0 0, .slice none 0 0])),
  (78, (false, 1, 8, [.nilFunc])),
  (79, (false, 1, 8, [.nilFunc])),
  (81, (false, 1, 8, [.nilFunc])),
  (82, (false, 1, 8, [.nilFunc])),
  (83, (false, 1, 8, [.nilFunc])),
  (84, (false, 1, 8, [.nilFunc])),
  (86, (false, 1, 8, [.nilFunc])),
  (87, (false, 1, 8, [.nilFunc])),
  (88, (true, 4, 32, [.int .i64 0, .int .i64 0, .int .i64 0, .int .i64 0])),
  (89, (true, 4, 32, [.int .i64 0, .int .i64 0, .int .i64 0, .int .i64 0])),
  (90, (false, 1, 8, [.nilFunc])),
  (91, (false, 1, 8, [.nilFunc])),
  (92, (false, 1, 8, [.nilFunc])),
  (93, (false, 1, 8, [.nilFunc])),
  (94, (false, 1, 8, [.nilFunc])),
  (95, (false, 1, 8, [.nilFunc])),
  (96, (false, 1, 8, [.nilFunc])),
  (97, (false, 1, 8, [.nilFunc])),
  (98, (false, 1, 8, [.nilFunc])),
  (99, (false, 1, 8, [.nilFunc])),
  (100, (true, 8, 96, [.slice none 0 0, .slice none 0 0, .int .i64 0, .int .i64 0, .int .i64 0, .int .i64 0, .int .i64 0, .int .i64 0])),
  (101, (true, 8, 96, [.slice none 0 0, .slice none 0 0, .int .i64 0, .int .i64 0, .int .i64 0, .int .i64 0, .int .i64 0, .int .i64 0])),
  (102, (false, 1, 8, [.nilFunc])),
  (104, (false, 1, 8, [.nilFunc])),
  (105, (false, 1, 8, [.nilFunc])),
  (106, (false, 1, 8, [.nilFunc])),
  (108, (false, 1, 8, [.nilFunc])),
  (109, (false, 1, 8, [.nilFunc])),
  (110, (false, 1, 8, [.nilFunc])),
  (112, (false, 1, 8, [.nilFunc])),
  (113, (false, 1, 8, [.nilFunc])),
  (114, (false, 1, 8, [.nilFunc])),
  (115, (false, 1, 8, [.nilFunc])),
  (116, (false, 1, 8, [.nilFunc])),
  (117, (false, 1, 8, [.nilFunc])),
  (118, (false, 1, 8, [.nilFunc])),
  (119, (false, 1, 8, [.nilFunc])),
  (120, (false, 1, 8, [.nilFunc])),
  (121, (false, 1, 8, [.nilFunc])),
  (122, (false, 1, 8, [.nilFunc])),
  (123, (false, 1, 8, [.nilFunc])),
  (124, (false, 1, 8, [.nilFunc])),
  (125, (false, 1, 8, [.nilFunc])),
  (126, (false, 1, 24, [.slice none 0 0])),
  (127, (false, 1, 8, [.nilFunc])),
  (128, (false, 1, 24, [.slice none 0 0])),
  (129, (false, 1, 8, [.nilFunc])),
  (130, (false, 1, 8, [.nilFunc])),
  (131, (true, 3, 24, [.int .i64 0, .int .i64 0, .int .i64 0])),
  (132, (true, 3, 24, [.int .i64 0, .int .i64 0, .int .i64 0])),
  (133, (false, 1, 8, [.nilFunc])),
  (134, (false, 1, 8, [.nilFunc])),
  (135, (false, 1, 8, [.nilFunc])),
  (136, (false, 1, 24, [.slice none 0 0])),
  (137, (false, 1, 8, [.nilFunc])),
  (138, (false, 1, 8, [.nilFunc])),
  (139, (false, 1, 8, [.nilFunc])),
  (140, (false, 1, 8, [.nilFunc])),
  (141, (false, 1, 8, [.nilFunc])),
  (142, (true, 5, 40, [.int .i64 0, .int .i64 0, .int .i64 0, .int .i64 0, .int .i64 0])),
  (143, (true, 5, 40, [.int .i64 0, .int .i64 0, .int .i64 0, .int .i64 0, .int .i64 0])),
  (144, (true, 2, 48, [.slice none 0 0, .slice none 0 0])),
  (145, (false, 1, 8, [.nilFunc])),
  (146, (false, 1, 8, [.nilFunc])),
  (147, (true, 3, 24, [.int .i64 0, .int .i64 0, .int .i64 0])),
  (148, (true, 3, 24, [.int .i64 0, .int .i64 0, .int .i64 0])),
  (149, (false, 1, 8, [.nilFunc])),
  (150, (false, 1, 8, [.nilFunc])),
  (151, (false, 1, 8, [.nilFunc])),
  (152, (false, 1, 8, [.nilFunc])),
  (153, (false, 1, 8, [.nilFunc])),
  (154, (false, 1, 8, [.nilFunc])),
  (155, (false, 1, 8, [.nilFunc])),
  (156, (false, 1, 8, [.nilFunc])),
  (157, (false, 1, 8, [.nilFunc])),
  (158, (false, 1, 8, [.nilFunc])),
  (159, (false, 1, 8, [.nilFunc])),
  (160, (true, 8, 96, [.slice none 0 0, .slice none 0 0, .int .i64 0, .int .i64 0, .int .i64 0, .int .i64 0, .int .i64 0, .int .i64 0])),
  (161, (true, 8, 96, [.slice none 0 0, .slice none 0 0, .int .i64 0, .int .i64 0, .int .i64 0, .int .i64 0, .int .i64 0, .int .i64 0])),
  (162, (false, 1, 8, [.nilFunc])),
  (163, (false, 1, 8, [.nilFunc])),
  (164, (true, 3, 24, [.int .i64 0, .int .i64 0, .int .i64 0])),
  (165, (true, 3, 24, [.int .i64 0, .int .i64 0, .int .i64 0])),
  (166, (true, 5, 56, [.int .i64 0, .int .i64 0, .int .i64 0, .slice none 0 0, .int .i64 0])),
  (167, (true, 5, 56, [.int .i64 0, .int .i64 0, .int .i64 0, .slice none 0 0, .int .i64 0])),
  (168, (false, 1, 8, [.nilFunc])),
  (169, (false, 1, 8, [.nilFunc])),
  (170, (false, 1, 8, [.nilFunc])),
  (171, (false, 1, 8, [.nilFunc])),
  (172, (true, 4, 32, [.int .i64 0, .int .i64 0, .int .i64 0, .int .i64 0])),
  (173, (false, 1, 8, [.nilFunc])),
  (174, (false, 1, 8, [.int .u64 0])),
  (176, (false, 1, 8, [.nilFunc])),
  (177, (false, 1, 8, [.nilFunc])),
  (178, (false, 1, 24, [.slice none 0 0])),
  (179, (false, 1, 8, [.nilFunc])),
  (180, (false, 1, 24, [.slice none 0 0])),
  (181, (false, 1, 4, [.int .u32 0])),
  (183, (false, 1, 8, [.nilFunc])),
  (184, (false, 1, 8, [.int .u64 0])),
  (186, (false, 1, 8, [.nilFunc])),
  (187, (false, 1, 8, [.nilFunc])),
  (188, (true, 4, 40, [.pointer none, .pointer none, .pointer none, .string ⟨#[]⟩])),
  (189, (true, 4, 40, [.pointer none, .pointer none, .pointer none, .string ⟨#[]⟩])),
  (190, (true, 0, 0, [])),
  (191, (true, 0, 0, [])),
  (192, (true, 0, 0, [])),
  (193, (false, 1, 8, [.nilFunc])),
  (194, (false, 1, 1, [.int .u8 0])),
  (195, (false, 1, 1, [.int .u8 0])),
  (196, (false, 1, 8, [.nilFunc])),
  (197, (false, 1, 8, [.pointer none])),
  (198, (false, 1, 4, [.int .i32 0])),
  (199, (false, 1, 4, [.int .i32 0])),
  (200, (true, 11, 48, [.int .u64 0, .int .u64 0, .int .u32 0, .int .u8 0, .int .u8 0, .int .u8 0, .int .u8 0, .nilFunc, .pointer none, .int .i32 0, .int .i32 0])),
  (201, (true, 11, 48, [.int .u64 0, .int .u64 0, .int .u32 0, .int .u8 0, .int .u8 0, .int .u8 0, .int .u8 0, .nilFunc, .pointer none, .int .i32 0, .int .i32 0]))]
def tbFl : List (Nat × Nat) := [(700, 0), (701, 1), (702, 2), (703, 3), (800, 0), (801, 1), (802, 2), (803, 3), (1300, 0), (1301, 1), (1400, 0), (1401, 1), (1800, 0), (1900, 0), (2400, 0), (2401, 1), (2500, 0), (2501, 1), (2600, 0), (2601, 1), (2602, 2), (2603, 3), (2700, 0), (2701, 1), (2702, 2), (2703, 3), (2800, 0), (2801, 1), (2802, 2), (2803, 7), (2900, 0), (2901, 1), (2902, 2), (2903, 7), (4300, 0), (4301, 1), (4400, 0), (4401, 1), (6100, 0), (6101, 2), (6200, 0), (6201, 2), (7500, 0), (7501, 1), (7502, 2), (7503, 3), (7600, 0), (7601, 1), (7602, 2), (7603, 3), (8800, 0), (8801, 1), (8802, 2), (8803, 3), (8900, 0), (8901, 1), (8902, 2), (8903, 3), (10000, 0), (10001, 1), (10002, 2), (10003, 7), (10100, 0), (10101, 1), (10102, 2), (10103, 7), (13100, 0), (13101, 1), (13200, 0), (13201, 1), (14200, 0), (14201, 1), (14202, 2), (14203, 3), (14300, 0), (14301, 1), (14302, 2), (14303, 3), (14700, 0), (14701, 1), (14702, 2), (14800, 0), (14801, 1), (14802, 2), (16000, 0), (16100, 0), (16400, 0), (16401, 1), (16500, 0), (16501, 1), (16600, 0), (16601, 3), (16602, 4), (16700, 0), (16701, 3), (16702, 4), (18800, 0), (18801, 1), (18802, 2), (18803, 3), (18900, 0), (18901, 1), (18902, 2), (18903, 3), (20000, 0), (20001, 1), (20002, 2), (20003, 3), (20004, 4), (20005, 5), (20006, 6), (20007, 7), (20008, 8), (20009, 9), (20010, 10), (20100, 0), (20101, 1), (20102, 2), (20103, 3), (20104, 4), (20105, 5), (20106, 6), (20107, 7), (20108, 8), (20109, 9), (20110, 10)]
def tbEl : List (Nat × (Nat × Nat × Bool)) := [(22, (89, 0, false)), (23, (62, 0, false)), (51, (3, 2, true)), (52, (3, 3, true)), (59, (3, 0, false)), (68, (27, 0, false)), (69, (23, 0, false)), (73, (25, 0, false)), (74, (148, 0, false)), (126, (44, 0, false)), (128, (132, 0, false)), (136, (44, 0, false)), (144, (23, 2, true)), (172, (3, 4, true)), (178, (165, 0, false)), (180, (32, 0, false)), (190, (16, 0, true))]
def tbBd : List (Nat × List (Nat × Nat)) := [(7, [(0, 1), (1, 1), (2, 1), (3, 1)]), (8, [(0, 1), (1, 1), (2, 1), (3, 1)]), (13, [(0, 1), (1, 1)]), (14, [(0, 1), (1, 1)]), (18, [(0, 1)]), (19, [(0, 1)]), (24, [(0, 1), (1, 1)]), (25, [(0, 1), (1, 1)]), (26, [(0, 1), (1, 1), (2, 1), (3, 2)]), (27, [(0, 1), (1, 1), (2, 1), (3, 2)]), (28, [(0, 1), (1, 1), (2, 5), (7, 1)]), (29, [(0, 1), (1, 1), (2, 5), (7, 1)]), (43, [(0, 1), (1, 1)]), (44, [(0, 1), (1, 1)]), (61, [(0, 2), (2, 2)]), (62, [(0, 2), (2, 2)]), (75, [(0, 1), (1, 1), (2, 1), (3, 1)]), (76, [(0, 1), (1, 1), (2, 1), (3, 1)]), (88, [(0, 1), (1, 1), (2, 1), (3, 1)]), (89, [(0, 1), (1, 1), (2, 1), (3, 1)]), (100, [(0, 1), (1, 1), (2, 5), (7, 1)]), (101, [(0, 1), (1, 1), (2, 5), (7, 1)]), (131, [(0, 1), (1, 2)]), (132, [(0, 1), (1, 2)]), (142, [(0, 1), (1, 1), (2, 1), (3, 2)]), (143, [(0, 1), (1, 1), (2, 1), (3, 2)]), (147, [(0, 1), (1, 1), (2, 1)]), (148, [(0, 1), (1, 1), (2, 1)]), (160, [(0, 8)]), (161, [(0, 8)]), (164, [(0, 1), (1, 2)]), (165, [(0, 1), (1, 2)]), (166, [(0, 3), (3, 1), (4, 1)]), (167, [(0, 3), (3, 1), (4, 1)]), (188, [(0, 1), (1, 1), (2, 1), (3, 1)]), (189, [(0, 1), (1, 1), (2, 1), (3, 1)]), (191, [(0, 0)]), (192, [(0, 0)]), (200, [(0, 1), (1, 1), (2, 1), (3, 1), (4, 1), (5, 1), (6, 1), (7, 1), (8, 1), (9, 1), (10, 1)]), (201, [(0, 1), (1, 1), (2, 1), (3, 1), (4, 1), (5, 1), (6, 1), (7, 1), (8, 1), (9, 1), (10, 1)])]
def tbKd : List (Nat × IntKind) := [(2, .i64), (3, .i64), (5, .u8), (6, .u8), (12, .u64), (21, .i32), (32, .i64), (174, .u64), (181, .u32), (184, .u64), (194, .u8), (195, .u8), (198, .i32), (199, .i32)]
def tbEn : List (Nat × Unit) := [(3, ()), (4, ()), (5, ()), (6, ()), (7, ()), (8, ()), (9, ()), (10, ()), (11, ()), (12, ()), (13, ()), (14, ()), (15, ()), (16, ()), (17, ()), (18, ()), (19, ()), (20, ()), (21, ()), (22, ()), (23, ()), (24, ()), (25, ()), (26, ()), (27, ()), (28, ()), (29, ()), (30, ()), (31, ()), (32, ()), (33, ()), (34, ()), (35, ()), (36, ()), (37, ()), (38, ()), (39, ()), (40, ()), (41, ()), (42, ()), (43, ()), (44, ()), (45, ()), (46, ()), (47, ()), (48, ()), (49, ()), (50, ()), (51, ()), (52, ()), (53, ()), (54, ()), (55, ()), (56, ()), (57, ()), (58, ()), (59, ()), (60, ()), (61, ()), (62, ()), (63, ()), (64, ()), (65, ()), (66, ()), (67, ()), (68, ()), (69, ()), (70, ()), (71, ()), (72, ()), (73, ()), (74, ()), (75, ()), (76, ()), (77, ()), (78, ()), (79, ()), (80, ()), (81, ()), (82, ()), (83, ()), (84, ()), (85, ()), (86, ()), (87, ()), (88, ()), (89, ()), (90, ()), (91, ()), (92, ()), (93, ()), (94, ()), (95, ()), (96, ()), (97, ()), (98, ()), (99, ()), (100, ()), (101, ()), (102, ()), (103, ()), (104, ()), (105, ()), (106, ()), (107, ()), (108, ()), (109, ()), (110, ()), (111, ()), (112, ()), (113, ()), (114, ()), (115, ()), (116, ()), (117, ()), (118, ()), (119, ()), (120, ()), (121, ()), (122, ()), (123, ()), (124, ()), (125, ()), (126, ()), (127, ()), (128, ()), (129, ()), (130, ()), (131, ()), (132, ()), (133, ()), (134, ())]
theorem tbTy_ok : tbTy.map (fun p => tyC Try.prog p.1) = tbTy.map (fun p => some p.2) := by kernel_rfl
theorem tbFl_ok : tbFl.map (fun p => flC Try.prog p.1) = tbFl.map (fun p => some p.2) := by kernel_rfl
theorem tbEl_ok : tbEl.map (fun p => elC Try.prog p.1) = tbEl.map (fun p => some p.2) := by kernel_rfl
theorem tbBd_ok : tbBd.map (fun p => bdC Try.prog p.1) = tbBd.map (fun p => some (p.2.map fun x => (x.1, some x.2))) := by kernel_rfl
theorem tbKd_ok : tbKd.map (fun p => kdC Try.prog p.1) = tbKd.map (fun p => some p.2) := by kernel_rfl
theorem tbEn_ok : tbEn.map (fun p => enC Try.prog p.1) = tbEn.map (fun _ => true) := by kernel_rfl
def tb : Tab Try.prog where
  ty := tbTy
  fl := tbFl
  el := tbEl
  bd := tbBd
  kd := tbKd
  en := tbEn
  ty_ok := fun p hp => tyC_F (map_all tbTy_ok p hp)
  fl_ok := fun p hp => flC_F (map_all tbFl_ok p hp)
  el_ok := fun p hp => elC_F (map_all tbEl_ok p hp)
  bd_ok := fun p hp => bdC_F (map_all tbBd_ok p hp)
  kd_ok := fun p hp => kdC_F (map_all tbKd_ok p hp)
  en_ok := fun p hp => enC_F (map_all tbEn_ok p hp)
theorem mixed : Try.prog.follows .mixedOrders = true := by kernel_rfl
end Go.Proofs.Ytfhfadfnbnliiaa
