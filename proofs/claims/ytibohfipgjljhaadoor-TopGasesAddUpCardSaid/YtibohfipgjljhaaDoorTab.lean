/-
  The tables that the calculus asks of this seat's program: types, fields, functions. Conditions: none. Written by a program (wip/tools/tab.py).
-/
import Derived.Test.YtibohfipgjljhaaDoorShUse
import Derived.Test.YtibohfipgjljhaaDoorRows
namespace Go.Proofs.YtibohfipgjljhaaDoor

def tyC (P : Program) (t : Nat) : Option (Bool × Nat × Nat × List Value) := match P.underlying t, P.info? t with
  | some d, some i => i.zero.map fun z => (isAggD d, i.size, i.bytes, z.cells.toList)
  | _, _ => none
theorem tyC_F {P : Program} {t : Nat} {r : Bool × Nat × Nat × List Value} (h : tyC P t = some r) : tyF P t r := by
  unfold tyC at h
  split at h
  · rename_i d i hd hi
    cases hz : i.zero with
    | none => rw [hz] at h; cases h
    | some z =>
      rw [hz] at h
      simp only [Option.map_some, Option.some.injEq] at h
      subst h
      exact ⟨d, i, z, hd, hi, rfl, rfl, rfl, hz, rfl⟩
  · cases h
def flC (P : Program) (s : Nat) : Option Nat := match P.underlying (s / 100) with
  | some (.struct fs) => match fs[s % 100]? with
    | some f => match P.info? f.type with
      | some j => match Nat.beq j.size 0 with
        | false => some f.offset
        | true => none
      | none => none
    | none => none
  | _ => none
theorem flC_F {P : Program} {s off : Nat} (h : flC P s = some off) : flF P s off := by
  unfold flC at h
  split at h
  · rename_i fs hfs
    split at h
    · rename_i f hf
      split at h
      · rename_i j hj
        split at h
        · rename_i hb
          injection h with h
          refine ⟨fs, f, j, hfs, hf, hj, fun h0 => ?_, h⟩
          rw [h0] at hb
          cases hb
        · cases h
      · cases h
    · cases h
  · cases h
def elC (P : Program) (t : Nat) : Option (Nat × Nat × Bool) := match P.underlying t with
  | some (.slice e) => some (e, 0, false)
  | some (.array n e) => some (e, n, true)
  | _ => none
theorem elC_F {P : Program} {t : Nat} {r : Nat × Nat × Bool} (h : elC P t = some r) : elF P t r := by
  unfold elC at h
  split at h
  · rename_i e he
    injection h with h
    subst h
    exact .inl ⟨rfl, he⟩
  · rename_i n e he
    injection h with h
    subst h
    exact .inr ⟨rfl, he⟩
  · cases h
def bdC (P : Program) (t : Nat) : Option (List (Nat × Option Nat)) := match P.underlying t with
  | some (.struct fs) => some (fs.toList.map fun f => (f.offset, (P.info? f.type).map (·.size)))
  | _ => none
theorem bdC_F {P : Program} {t : Nat} {r : List (Nat × Nat)} (h : bdC P t = some (r.map fun x => (x.1, some x.2))) : bdF P t r := by
  unfold bdC at h
  split at h
  · rename_i fs hfs
    injection h with h
    exact ⟨fs, hfs, h⟩
  · cases h
def kdC (P : Program) (t : Nat) : Option IntKind := match P.underlying t with
  | some (.int k) => some k
  | _ => none
theorem kdC_F {P : Program} {t : Nat} {k : IntKind} (h : kdC P t = some k) : kdF P t k := by
  unfold kdC at h
  split at h
  · rename_i k' hk
    injection h with h
    subst h
    exact hk
  · cases h
def enC (P : Program) (f : Nat) : Bool := match P.funcs[f]? with
  | some fn => !(fn.name == "runtime.NumGoroutine") && fn.body.isSome
  | none => false
theorem enC_F {P : Program} {f : Nat} (h : enC P f = true) : Enters P f := by
  unfold enC at h
  split at h
  · rename_i fn hfn
    simp only [Bool.and_eq_true, Bool.not_eq_true'] at h
    obtain ⟨c, hc⟩ := Option.isSome_iff_exists.1 h.2
    exact enters_of hfn h.1 hc
  · cases h
theorem map_all {α β : Type} {f g : α → β} : ∀ {l : List α}, l.map f = l.map g → ∀ p ∈ l, f p = g p
  | [], _, p, hp => by cases hp
  | x :: t, h, p, hp => by
    simp only [List.map_cons, List.cons.injEq] at h
    rcases List.mem_cons.1 hp with rfl | hp
    · exact h.1
    · exact map_all h.2 p hp

def tbTy : List (Nat × (Bool × Nat × Nat × List Value)) := [
  (1, (false, 1, 8, [.nilFunc])),
  (2, (false, 1, 8, [.int .i64 0])),
  (3, (false, 1, 8, [.int .i64 0])),
  (4, (false, 1, 1, [.bool false])),
  (5, (false, 1, 1, [.int .u8 0])),
  (6, (false, 1, 1, [.int .u8 0])),
  (7, (true, 4, 24, [.int .i64 0, .int .i64 0, .bool false, .int .u8 0])),
  (8, (true, 4, 24, [.int .i64 0, .int .i64 0, .bool false, .int .u8 0])),
  (9, (false, 1, 16, [.string ⟨#[]⟩])),
  (10, (false, 1, 16, [.string ⟨#[]⟩])),
  (11, (false, 1, 16, [.string ⟨#[]⟩])),
  (12, (false, 1, 8, [.int .u64 0])),
  (13, (true, 2, 24, [.string ⟨#[]⟩, .int .u64 0])),
  (14, (true, 2, 24, [.string ⟨#[]⟩, .int .u64 0])),
  (15, (false, 1, 8, [.pointer none])),
  (16, (false, 1, 8, [.pointer none])),
  (17, (false, 1, 8, [.pointer none])),
  (18, (true, 1, 8, [.pointer none])),
  (19, (true, 1, 8, [.pointer none])),
  (20, (false, 1, 16, [.nilIface])),
  (21, (false, 1, 4, [.int .i32 0])),
  (22, (true, 2, 16, [.int .i64 0, .int .i64 0])),
  (23, (true, 2, 16, [.int .i64 0, .int .i64 0])),
  (24, (true, 2, 16, [.int .i64 0, .int .i64 0])),
  (25, (true, 2, 16, [.int .i64 0, .int .i64 0])),
  (26, (false, 1, 8, [.nilFunc])),
  (27, (true, 2, 16, [.int .i64 0, .int .i64 0])),
  (28, (true, 2, 16, [.int .i64 0, .int .i64 0])),
  (29, (false, 1, 8, [.int .i64 0])),
  (31, (false, 1, 8, [.nilFunc])),
  (32, (false, 1, 8, [.nilFunc])),
  (33, (false, 1, 8, [.nilFunc])),
  (34, (false, 1, 8, [.nilFunc])),
  (36, (false, 1, 8, [.nilFunc])),
  (37, (false, 1, 8, [.nilFunc])),
  (38, (true, 5, 40, [.int .i64 0, .int .i64 0, .int .i64 0, .int .i64 0, .int .i64 0])),
  (39, (true, 5, 40, [.int .i64 0, .int .i64 0, .int .i64 0, .int .i64 0, .int .i64 0])),
  (41, (false, 1, 8, [.nilFunc])),
  (42, (false, 1, 8, [.nilFunc])),
  (44, (false, 1, 8, [.nilFunc])),
  (45, (false, 1, 8, [.nilFunc])),
  (46, (false, 1, 24, [.slice none 0 0])),
  (47, (false, 1, 8, [.nilFunc])),
  (48, (false, 1, 8, [.nilFunc])),
  (49, (true, 2, 16, [.int .i64 0, .int .i64 0])),
  (50, (true, 2, 16, [.int .i64 0, .int .i64 0])),
  (51, (true, 6, 48, [.int .i64 0, .int .i64 0, .int .i64 0, .int .i64 0, .int .i64 0, .int .i64 0])),
  (53, (false, 1, 8, [.nilFunc])),
  (54, (false, 1, 8, [.nilFunc])),
  (55, (true, 2, 16, [.int .i64 0, .int .i64 0])),
  (56, (true, 3, 24, [.int .i64 0, .int .i64 0, .int .i64 0])),
  (57, (true, 3, 24, [.int .i64 0, .int .i64 0, .int .i64 0])),
  (58, (false, 1, 8, [.nilFunc])),
  (59, (false, 1, 8, [.nilFunc])),
  (60, (false, 1, 8, [.nilFunc])),
  (61, (false, 1, 8, [.nilFunc])),
  (62, (false, 1, 8, [.nilFunc])),
  (63, (false, 1, 8, [.nilFunc])),
  (65, (false, 1, 8, [.nilFunc])),
  (66, (false, 1, 8, [.nilFunc])),
  (67, (false, 1, 8, [.nilFunc])),
  (68, (true, 5, 40, [.int .i64 0, .int .i64 0, .int .i64 0, .int .i64 0, .int .i64 0])),
  (69, (true, 5, 40, [.int .i64 0, .int .i64 0, .int .i64 0, .int .i64 0, .int .i64 0])),
  (70, (true, 3, 24, [.int .i64 0, .int .i64 0, .int .i64 0])),
  (72, (false, 1, 8, [.nilFunc])),
  (73, (false, 1, 8, [.nilFunc])),
  (75, (false, 1, 8, [.nilFunc])),
  (77, (false, 1, 8, [.nilFunc])),
  (78, (false, 1, 8, [.nilFunc])),
  (80, (false, 1, 8, [.nilFunc])),
  (81, (false, 1, 8, [.nilFunc])),
  (82, (false, 1, 8, [.nilFunc])),
  (83, (false, 1, 8, [.nilFunc])),
  (84, (false, 1, 8, [.nilFunc])),
  (85, (false, 1, 8, [.nilFunc])),
  (86, (false, 1, 8, [.nilFunc])),
  (87, (false, 1, 8, [.nilFunc])),
  (88, (false, 1, 8, [.nilFunc])),
  (89, (false, 1, 8, [.nilFunc])),
  (90, (false, 1, 8, [.nilFunc])),
  (91, (false, 1, 8, [.nilFunc])),
  (92, (false, 1, 8, [.nilFunc])),
  (93, (false, 1, 8, [.nilFunc])),
  (94, (false, 1, 24, [.slice none 0 0])),
  (95, (false, 1, 8, [.nilFunc])),
  (96, (false, 1, 8, [.nilFunc])),
  (97, (false, 1, 8, [.nilFunc])),
  (98, (false, 1, 8, [.nilFunc])),
  (99, (false, 1, 8, [.nilFunc])),
  (100, (false, 1, 8, [.nilFunc])),
  (101, (false, 1, 8, [.nilFunc])),
  (102, (false, 1, 8, [.nilFunc])),
  (103, (false, 1, 8, [.nilFunc])),
  (104, (false, 1, 8, [.nilFunc])),
  (105, (false, 1, 8, [.nilFunc])),
  (106, (false, 1, 8, [.nilFunc])),
  (107, (false, 1, 8, [.nilFunc])),
  (108, (false, 1, 8, [.nilFunc])),
  (109, (false, 1, 8, [.nilFunc])),
  (110, (false, 1, 8, [.nilFunc])),
  (111, (false, 1, 8, [.nilFunc])),
  (112, (true, 6, 48, [.int .i64 0, .int .i64 0, .int .i64 0, .int .i64 0, .int .i64 0, .int .i64 0])),
  (113, (true, 6, 48, [.int .i64 0, .int .i64 0, .int .i64 0, .int .i64 0, .int .i64 0, .int .i64 0])),
  (115, (false, 1, 8, [.nilFunc])),
  (116, (false, 1, 8, [.nilFunc])),
  (117, (true, 4, 32, [.int .i64 0, .int .i64 0, .int .i64 0, .int .i64 0])),
  (118, (true, 4, 32, [.int .i64 0, .int .i64 0, .int .i64 0, .int .i64 0])),
  (119, (false, 1, 8, [.nilFunc])),
  (121, (false, 1, 8, [.nilFunc])),
  (122, (false, 1, 8, [.nilFunc])),
  (123, (false, 1, 8, [.nilFunc])),
  (124, (false, 1, 24, [.slice none 0 0])),
  (125, (false, 1, 8, [.nilFunc])),
  (127, (false, 1, 8, [.nilFunc])),
  (128, (false, 1, 8, [.nilFunc])),
  (129, (false, 1, 8, [.nilFunc])),
  (130, (false, 1, 8, [.nilFunc])),
  (131, (false, 1, 8, [.nilFunc])),
  (132, (false, 1, 24, [.slice none 0 0])),
  (133, (false, 1, 8, [.nilFunc])),
  (134, (false, 1, 8, [.nilFunc])),
  (135, (false, 1, 24, [.slice none 0 0])),
  (136, (false, 1, 8, [.map none])),
  (137, (true, 2, 24, [.string ⟨#[]⟩, .int .i64 0])),
  (138, (true, 6, 72, [.string ⟨#[]⟩, .int .i64 0, .string ⟨#[]⟩, .int .i64 0, .string ⟨#[]⟩, .int .i64 0])),
  (140, (false, 1, 8, [.nilFunc])),
  (142, (false, 1, 8, [.nilFunc])),
  (143, (false, 1, 16, [.nilIface])),
  (144, (false, 1, 16, [.nilIface])),
  (146, (false, 1, 8, [.nilFunc])),
  (147, (false, 1, 24, [.slice none 0 0])),
  (148, (false, 1, 8, [.nilFunc])),
  (149, (false, 1, 8, [.nilFunc])),
  (150, (false, 1, 8, [.nilFunc])),
  (151, (false, 1, 8, [.nilFunc])),
  (152, (false, 1, 8, [.int .i64 0])),
  (154, (false, 1, 8, [.nilFunc])),
  (155, (false, 1, 8, [.pointer none])),
  (156, (false, 1, 8, [.nilFunc])),
  (157, (false, 1, 8, [.nilFunc])),
  (158, (true, 24, 24, [.int .u8 0, .int .u8 0, .int .u8 0, .int .u8 0, .int .u8 0, .int .u8 0, .int .u8 0, .int .u8 0, .int .u8 0, .int .u8 0, .int .u8 0, .int .u8 0, .int .u8 0, .int .u8 0, .int .u8 0, .int .u8 0, .int .u8 0, .int .u8 0, .int .u8 0, .int .u8 0, .int .u8 0, .int .u8 0, .int .u8 0, .int .u8 0])),
  (159, (false, 1, 8, [.int .u64 0])),
  (160, (false, 1, 8, [.nilFunc])),
  (161, (false, 1, 8, [.nilFunc])),
  (163, (false, 1, 8, [.nilFunc])),
  (164, (false, 1, 8, [.nilFunc])),
  (165, (false, 1, 8, [.int .u64 0])),
  (167, (false, 1, 8, [.nilFunc])),
  (168, (false, 1, 8, [.nilFunc])),
  (169, (true, 3, 48, [.string ⟨#[]⟩, .string ⟨#[]⟩, .nilIface])),
  (170, (true, 3, 48, [.string ⟨#[]⟩, .string ⟨#[]⟩, .nilIface])),
  (171, (false, 1, 8, [.nilFunc])),
  (172, (false, 1, 8, [.nilFunc])),
  (173, (true, 20, 160, [.int .u64 0, .int .u64 0, .int .u64 0, .int .u64 0, .int .u64 0, .int .u64 0, .int .u64 0, .int .u64 0, .int .u64 0, .int .u64 0, .int .u64 0, .int .u64 0, .int .u64 0, .int .u64 0, .int .u64 0, .int .u64 0, .int .u64 0, .int .u64 0, .int .u64 0, .int .u64 0])),
  (174, (false, 1, 4, [.int .u32 0])),
  (176, (false, 1, 8, [.nilFunc])),
  (178, (false, 1, 8, [.nilFunc])),
  (179, (false, 1, 8, [.nilFunc])),
  (180, (false, 1, 8, [.nilFunc])),
  (181, (false, 1, 8, [.pointer none])),
  (182, (false, 1, 8, [.pointer none])),
  (183, (true, 1, 16, [.string ⟨#[]⟩])),
  (184, (true, 1, 16, [.string ⟨#[]⟩])),
  (185, (false, 1, 8, [.nilFunc])),
  (186, (true, 32, 32, [.int .u8 0, .int .u8 0, .int .u8 0, .int .u8 0, .int .u8 0, .int .u8 0, .int .u8 0, .int .u8 0, .int .u8 0, .int .u8 0, .int .u8 0, .int .u8 0, .int .u8 0, .int .u8 0, .int .u8 0, .int .u8 0, .int .u8 0, .int .u8 0, .int .u8 0, .int .u8 0, .int .u8 0, .int .u8 0, .int .u8 0, .int .u8 0, .int .u8 0, .int .u8 0, .int .u8 0, .int .u8 0, .int .u8 0, .int .u8 0, .int .u8 0, .int .u8 0])),
  (188, (false, 1, 8, [.nilFunc])),
  (189, (true, 4, 40, [.pointer none, .pointer none, .pointer none, .string ⟨#[]⟩])),
  (190, (true, 4, 40, [.pointer none, .pointer none, .pointer none, .string ⟨#[]⟩])),
  (191, (true, 0, 0, [])),
  (192, (true, 0, 0, [])),
  (193, (true, 0, 0, [])),
  (194, (false, 1, 8, [.nilFunc])),
  (195, (false, 1, 1, [.int .u8 0])),
  (196, (false, 1, 1, [.int .u8 0])),
  (197, (false, 1, 8, [.nilFunc])),
  (198, (false, 1, 4, [.int .i32 0])),
  (199, (false, 1, 4, [.int .i32 0])),
  (200, (true, 11, 48, [.int .u64 0, .int .u64 0, .int .u32 0, .int .u8 0, .int .u8 0, .int .u8 0, .int .u8 0, .nilFunc, .pointer none, .int .i32 0, .int .i32 0])),
  (201, (true, 11, 48, [.int .u64 0, .int .u64 0, .int .u32 0, .int .u8 0, .int .u8 0, .int .u8 0, .int .u8 0, .nilFunc, .pointer none, .int .i32 0, .int .i32 0]))]
def tbFl : List (Nat × Nat) := [(700, 0), (701, 1), (702, 2), (703, 3), (800, 0), (801, 1), (802, 2), (803, 3), (1300, 0), (1301, 1), (1400, 0), (1401, 1), (1800, 0), (1900, 0), (2200, 0), (2201, 1), (2300, 0), (2301, 1), (2400, 0), (2401, 1), (2500, 0), (2501, 1), (2700, 0), (2701, 1), (2800, 0), (2801, 1), (3800, 0), (3801, 1), (3802, 2), (3803, 4), (3900, 0), (3901, 1), (3902, 2), (3903, 4), (4900, 0), (4901, 1), (5000, 0), (5001, 1), (5600, 0), (5601, 2), (5700, 0), (5701, 2), (6800, 0), (6801, 2), (6802, 3), (6900, 0), (6901, 2), (6902, 3), (11200, 0), (11201, 5), (11300, 0), (11301, 5), (11700, 0), (11701, 1), (11800, 0), (11801, 1), (13700, 0), (13701, 1), (16900, 0), (16901, 1), (16902, 2), (17000, 0), (17001, 1), (17002, 2), (18300, 0), (18400, 0), (18900, 0), (18901, 1), (18902, 2), (18903, 3), (19000, 0), (19001, 1), (19002, 2), (19003, 3), (20000, 0), (20001, 1), (20002, 2), (20003, 3), (20004, 4), (20005, 5), (20006, 6), (20007, 7), (20008, 8), (20009, 9), (20010, 10), (20100, 0), (20101, 1), (20102, 2), (20103, 3), (20104, 4), (20105, 5), (20106, 6), (20107, 7), (20108, 8), (20109, 9), (20110, 10)]
def tbEl : List (Nat × (Nat × Nat × Bool)) := [(46, (57, 0, false)), (51, (50, 3, true)), (55, (3, 2, true)), (70, (3, 3, true)), (94, (23, 0, false)), (124, (9, 0, false)), (132, (28, 0, false)), (135, (29, 0, false)), (138, (137, 3, true)), (147, (5, 0, false)), (158, (5, 24, true)), (173, (159, 20, true)), (186, (5, 32, true)), (191, (16, 0, true))]
def tbBd : List (Nat × List (Nat × Nat)) := [(7, [(0, 1), (1, 1), (2, 1), (3, 1)]), (8, [(0, 1), (1, 1), (2, 1), (3, 1)]), (13, [(0, 1), (1, 1)]), (14, [(0, 1), (1, 1)]), (18, [(0, 1)]), (19, [(0, 1)]), (22, [(0, 1), (1, 1)]), (23, [(0, 1), (1, 1)]), (24, [(0, 1), (1, 1)]), (25, [(0, 1), (1, 1)]), (27, [(0, 1), (1, 1)]), (28, [(0, 1), (1, 1)]), (38, [(0, 1), (1, 1), (2, 2), (4, 1)]), (39, [(0, 1), (1, 1), (2, 2), (4, 1)]), (49, [(0, 1), (1, 1)]), (50, [(0, 1), (1, 1)]), (56, [(0, 2), (2, 1)]), (57, [(0, 2), (2, 1)]), (68, [(0, 2), (2, 1), (3, 2)]), (69, [(0, 2), (2, 1), (3, 2)]), (112, [(0, 5), (5, 1)]), (113, [(0, 5), (5, 1)]), (117, [(0, 1), (1, 3)]), (118, [(0, 1), (1, 3)]), (137, [(0, 1), (1, 1)]), (169, [(0, 1), (1, 1), (2, 1)]), (170, [(0, 1), (1, 1), (2, 1)]), (183, [(0, 1)]), (184, [(0, 1)]), (189, [(0, 1), (1, 1), (2, 1), (3, 1)]), (190, [(0, 1), (1, 1), (2, 1), (3, 1)]), (192, [(0, 0)]), (193, [(0, 0)]), (200, [(0, 1), (1, 1), (2, 1), (3, 1), (4, 1), (5, 1), (6, 1), (7, 1), (8, 1), (9, 1), (10, 1)]), (201, [(0, 1), (1, 1), (2, 1), (3, 1), (4, 1), (5, 1), (6, 1), (7, 1), (8, 1), (9, 1), (10, 1)])]
def tbKd : List (Nat × IntKind) := [(2, .i64), (3, .i64), (5, .u8), (6, .u8), (12, .u64), (21, .i32), (29, .i64), (152, .i64), (159, .u64), (165, .u64), (174, .u32), (195, .u8), (196, .u8), (198, .i32), (199, .i32)]
def tbEn : List (Nat × Unit) := [(3, ()), (4, ()), (5, ()), (6, ()), (7, ()), (8, ()), (9, ()), (10, ()), (11, ()), (12, ()), (13, ()), (14, ()), (15, ()), (16, ()), (17, ()), (18, ()), (19, ()), (20, ()), (21, ()), (22, ()), (23, ()), (24, ()), (25, ()), (26, ()), (27, ()), (28, ()), (29, ()), (30, ()), (31, ()), (32, ()), (33, ()), (34, ()), (35, ()), (36, ()), (37, ()), (38, ()), (39, ()), (40, ()), (41, ()), (42, ()), (43, ()), (44, ()), (45, ()), (46, ()), (47, ()), (48, ()), (49, ()), (50, ()), (51, ()), (52, ()), (53, ()), (54, ()), (55, ()), (56, ()), (57, ()), (58, ()), (59, ()), (60, ()), (61, ()), (62, ()), (63, ()), (64, ()), (65, ()), (66, ()), (67, ()), (68, ()), (69, ()), (70, ()), (71, ()), (72, ()), (73, ()), (74, ()), (75, ()), (76, ()), (77, ()), (78, ()), (79, ()), (80, ()), (81, ()), (82, ()), (83, ()), (84, ()), (85, ()), (86, ()), (87, ()), (88, ()), (89, ()), (90, ()), (91, ()), (92, ()), (93, ()), (94, ()), (95, ()), (96, ()), (97, ()), (98, ()), (99, ()), (100, ()), (101, ()), (102, ()), (103, ()), (104, ()), (105, ()), (106, ()), (107, ()), (108, ()), (109, ()), (110, ()), (111, ()), (112, ()), (113, ()), (114, ()), (115, ()), (116, ()), (117, ()), (118, ()), (119, ()), (120, ()), (121, ()), (122, ()), (123, ()), (124, ()), (125, ()), (126, ()), (127, ()), (128, ()), (129, ()), (133, ()), (134, ()), (135, ()), (136, ()), (138, ()), (139, ()), (143, ()), (144, ())]
theorem tbTy_ok : tbTy.map (fun p => tyC Tryd.prog p.1) = tbTy.map (fun p => some p.2) := by kernel_rfl
theorem tbFl_ok : tbFl.map (fun p => flC Tryd.prog p.1) = tbFl.map (fun p => some p.2) := by kernel_rfl
theorem tbEl_ok : tbEl.map (fun p => elC Tryd.prog p.1) = tbEl.map (fun p => some p.2) := by kernel_rfl
theorem tbBd_ok : tbBd.map (fun p => bdC Tryd.prog p.1) = tbBd.map (fun p => some (p.2.map fun x => (x.1, some x.2))) := by kernel_rfl
theorem tbKd_ok : tbKd.map (fun p => kdC Tryd.prog p.1) = tbKd.map (fun p => some p.2) := by kernel_rfl
theorem tbEn_ok : tbEn.map (fun p => enC Tryd.prog p.1) = tbEn.map (fun _ => true) := by kernel_rfl
def tb : Tab Tryd.prog where
  ty := tbTy
  fl := tbFl
  el := tbEl
  bd := tbBd
  kd := tbKd
  en := tbEn
  ty_ok := fun p hp => tyC_F (map_all tbTy_ok p hp)
  fl_ok := fun p hp => flC_F (map_all tbFl_ok p hp)
  el_ok := fun p hp => elC_F (map_all tbEl_ok p hp)
  bd_ok := fun p hp => bdC_F (map_all tbBd_ok p hp)
  kd_ok := fun p hp => kdC_F (map_all tbKd_ok p hp)
  en_ok := fun p hp => enC_F (map_all tbEn_ok p hp)
theorem mixed : Tryd.prog.follows .mixedOrders = true := by kernel_rfl
end Go.Proofs.YtibohfipgjljhaaDoor
