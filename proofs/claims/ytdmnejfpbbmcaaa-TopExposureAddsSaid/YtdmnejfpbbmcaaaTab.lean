/-
  The tables that the calculus asks of this seat's program: types, fields, functions. Conditions: none. Written by a program (wip/tools/tab.py).
-/
import Derived.Test.YtdmnejfpbbmcaaaShUse
import Derived.Test.YtdmnejfpbbmcaaaRows
namespace Go.Proofs.Ytdmnejfpbbmcaaa

def tyC (P : Program) (t : Nat) : Option (Bool × Nat × Nat × List Value) := match P.underlying t, P.info? t with
  | some d, some i => i.zero.map fun z => (isAggD d, i.size, i.bytes, z.cells.toList)
  | _, _ => none
theorem tyC_F {P : Program} {t : Nat} {r : Bool × Nat × Nat × List Value} (h : tyC P t = some r) : tyF P t r := by
  unfold tyC at h
  split at h
  · rename_i d i hd hi
    cases hz : i.zero with
    | none => rw [hz] at h; cases h
    | some z =>
      rw [hz] at h
      simp only [Option.map_some, Option.some.injEq] at h
      subst h
      exact ⟨d, i, z, hd, hi, rfl, rfl, rfl, hz, rfl⟩
  · cases h
def flC (P : Program) (s : Nat) : Option Nat := match P.underlying (s / 100) with
  | some (.struct fs) => match fs[s % 100]? with
    | some f => match P.info? f.type with
      | some j => match Nat.beq j.size 0 with
        | false => some f.offset
        | true => none
      | none => none
    | none => none
  | _ => none
theorem flC_F {P : Program} {s off : Nat} (h : flC P s = some off) : flF P s off := by
  unfold flC at h
  split at h
  · rename_i fs hfs
    split at h
    · rename_i f hf
      split at h
      · rename_i j hj
        split at h
        · rename_i hb
          injection h with h
          refine ⟨fs, f, j, hfs, hf, hj, fun h0 => ?_, h⟩
          rw [h0] at hb
          cases hb
        · cases h
      · cases h
    · cases h
  · cases h
def elC (P : Program) (t : Nat) : Option (Nat × Nat × Bool) := match P.underlying t with
  | some (.slice e) => some (e, 0, false)
  | some (.array n e) => some (e, n, true)
  | _ => none
theorem elC_F {P : Program} {t : Nat} {r : Nat × Nat × Bool} (h : elC P t = some r) : elF P t r := by
  unfold elC at h
  split at h
  · rename_i e he
    injection h with h
    subst h
    exact .inl ⟨rfl, he⟩
  · rename_i n e he
    injection h with h
    subst h
    exact .inr ⟨rfl, he⟩
  · cases h
def bdC (P : Program) (t : Nat) : Option (List (Nat × Option Nat)) := match P.underlying t with
  | some (.struct fs) => some (fs.toList.map fun f => (f.offset, (P.info? f.type).map (·.size)))
  | _ => none
theorem bdC_F {P : Program} {t : Nat} {r : List (Nat × Nat)} (h : bdC P t = some (r.map fun x => (x.1, some x.2))) : bdF P t r := by
  unfold bdC at h
  split at h
  · rename_i fs hfs
    injection h with h
    exact ⟨fs, hfs, h⟩
  · cases h
def kdC (P : Program) (t : Nat) : Option IntKind := match P.underlying t with
  | some (.int k) => some k
  | _ => none
theorem kdC_F {P : Program} {t : Nat} {k : IntKind} (h : kdC P t = some k) : kdF P t k := by
  unfold kdC at h
  split at h
  · rename_i k' hk
    injection h with h
    subst h
    exact hk
  · cases h
def enC (P : Program) (f : Nat) : Bool := match P.funcs[f]? with
  | some fn => !(fn.name == "runtime.NumGoroutine") && fn.body.isSome
  | none => false
theorem enC_F {P : Program} {f : Nat} (h : enC P f = true) : Enters P f := by
  unfold enC at h
  split at h
  · rename_i fn hfn
    simp only [Bool.and_eq_true, Bool.not_eq_true'] at h
    obtain ⟨c, hc⟩ := Option.isSome_iff_exists.1 h.2
    exact enters_of hfn h.1 hc
  · cases h
theorem map_all {α β : Type} {f g : α → β} : ∀ {l : List α}, l.map f = l.map g → ∀ p ∈ l, f p = g p
  | [], _, p, hp => by cases hp
  | x :: t, h, p, hp => by
    simp only [List.map_cons, List.cons.injEq] at h
    rcases List.mem_cons.1 hp with rfl | hp
    · exact h.1
    · exact map_all h.2 p hp

def tbTy : List (Nat × (Bool × Nat × Nat × List Value)) := [
  (1, (false, 1, 8, [.nilFunc])),
  (2, (false, 1, 8, [.int .i64 0])),
  (3, (false, 1, 8, [.int .i64 0])),
  (4, (false, 1, 1, [.bool false])),
  (5, (false, 1, 1, [.int .u8 0])),
  (6, (false, 1, 1, [.int .u8 0])),
  (7, (true, 4, 24, [.int .i64 0, .int .i64 0, .bool false, .int .u8 0])),
  (8, (true, 4, 24, [.int .i64 0, .int .i64 0, .bool false, .int .u8 0])),
  (9, (false, 1, 16, [.string ⟨#[]⟩])),
  (10, (false, 1, 16, [.string ⟨#[]⟩])),
  (11, (false, 1, 16, [.string ⟨#[]⟩])),
  (12, (false, 1, 8, [.int .u64 0])),
  (13, (true, 2, 24, [.string ⟨#[]⟩, .int .u64 0])),
  (14, (true, 2, 24, [.string ⟨#[]⟩, .int .u64 0])),
  (15, (false, 1, 8, [.pointer none])),
  (16, (false, 1, 8, [.pointer none])),
  (17, (false, 1, 8, [.pointer none])),
  (18, (true, 1, 8, [.pointer none])),
  (19, (true, 1, 8, [.pointer none])),
  (20, (false, 1, 16, [.nilIface])),
  (21, (false, 1, 4, [.int .i32 0])),
  (22, (false, 1, 24, [.slice none 0 0])),
  (23, (false, 1, 24, [.slice none 0 0])),
  (24, (true, 4, 72, [.string ⟨#[]⟩, .int .i64 0, .slice none 0 0, .slice none 0 0])),
  (25, (true, 4, 72, [.string ⟨#[]⟩, .int .i64 0, .slice none 0 0, .slice none 0 0])),
  (26, (false, 1, 8, [.nilFunc])),
  (28, (false, 1, 8, [.nilFunc])),
  (29, (false, 1, 24, [.slice none 0 0])),
  (30, (false, 1, 8, [.int .i64 0])),
  (32, (false, 1, 8, [.nilFunc])),
  (34, (false, 1, 8, [.nilFunc])),
  (36, (false, 1, 8, [.nilFunc])),
  (37, (true, 2, 16, [.int .i64 0, .int .i64 0])),
  (38, (true, 2, 16, [.int .i64 0, .int .i64 0])),
  (40, (false, 1, 8, [.nilFunc])),
  (41, (false, 1, 8, [.nilFunc])),
  (42, (false, 1, 8, [.nilFunc])),
  (43, (false, 1, 8, [.nilFunc])),
  (44, (false, 1, 8, [.nilFunc])),
  (45, (false, 1, 8, [.nilFunc])),
  (46, (true, 2, 16, [.int .i64 0, .int .i64 0])),
  (47, (true, 2, 16, [.int .i64 0, .int .i64 0])),
  (48, (false, 1, 8, [.nilFunc])),
  (49, (false, 1, 24, [.slice none 0 0])),
  (50, (true, 2, 16, [.int .i64 0, .int .i64 0])),
  (51, (true, 2, 16, [.int .i64 0, .int .i64 0])),
  (52, (true, 9, 88, [.slice none 0 0, .int .i64 0, .int .i64 0, .int .i64 0, .int .i64 0, .int .i64 0, .int .i64 0, .int .i64 0, .int .i64 0])),
  (53, (true, 9, 88, [.slice none 0 0, .int .i64 0, .int .i64 0, .int .i64 0, .int .i64 0, .int .i64 0, .int .i64 0, .int .i64 0, .int .i64 0])),
  (54, (false, 1, 8, [.nilFunc])),
  (55, (false, 1, 8, [.nilFunc])),
  (56, (false, 1, 8, [.nilFunc])),
  (57, (false, 1, 8, [.nilFunc])),
  (58, (false, 1, 8, [.nilFunc])),
  (59, (false, 1, 8, [.nilFunc])),
  (60, (false, 1, 8, [.nilFunc])),
  (61, (false, 1, 8, [.nilFunc])),
  (63, (false, 1, 8, [.nilFunc])),
  (64, (false, 1, 24, [.slice none 0 0])),
  (66, (false, 1, 8, [.nilFunc])),
  (67, (false, 1, 8, [.nilFunc])),
  (68, (false, 1, 8, [.nilFunc])),
  (69, (false, 1, 8, [.nilFunc])),
  (70, (false, 1, 8, [.nilFunc])),
  (71, (false, 1, 8, [.nilFunc])),
  (72, (false, 1, 8, [.nilFunc])),
  (73, (false, 1, 8, [.nilFunc])),
  (74, (false, 1, 8, [.nilFunc])),
  (75, (false, 1, 8, [.nilFunc])),
  (76, (false, 1, 8, [.nilFunc])),
  (77, (false, 1, 8, [.nilFunc])),
  (78, (false, 1, 8, [.nilFunc])),
  (79, (true, 2, 16, [.int .i64 0, .int .i64 0])),
  (80, (true, 2, 16, [.int .i64 0, .int .i64 0])),
  (81, (true, 3, 24, [.int .i64 0, .int .i64 0, .int .i64 0])),
  (82, (true, 3, 24, [.int .i64 0, .int .i64 0, .int .i64 0])),
  (83, (false, 1, 8, [.nilFunc])),
  (84, (false, 1, 24, [.slice none 0 0])),
  (85, (false, 1, 8, [.nilFunc])),
  (86, (false, 1, 8, [.nilFunc])),
  (87, (true, 2, 16, [.int .i64 0, .int .i64 0])),
  (88, (true, 2, 16, [.int .i64 0, .int .i64 0])),
  (89, (false, 1, 8, [.nilFunc])),
  (91, (false, 1, 8, [.nilFunc])),
  (92, (false, 1, 8, [.nilFunc])),
  (93, (false, 1, 8, [.nilFunc])),
  (94, (false, 1, 8, [.nilFunc])),
  (95, (false, 1, 8, [.nilFunc])),
  (96, (false, 1, 8, [.nilFunc])),
  (97, (false, 1, 8, [.nilFunc])),
  (98, (false, 1, 8, [.nilFunc])),
  (99, (false, 1, 8, [.nilFunc])),
  (100, (false, 1, 8, [.nilFunc])),
  (101, (false, 1, 8, [.nilFunc])),
  (102, (false, 1, 8, [.nilFunc])),
  (103, (false, 1, 8, [.nilFunc])),
  (104, (false, 1, 8, [.nilFunc])),
  (105, (false, 1, 24, [.slice none 0 0])),
  (106, (false, 1, 8, [.nilFunc])),
  (107, (true, 9, 72, [.int .i64 0, .int .i64 0, .int .i64 0, .int .i64 0, .int .i64 0, .int .i64 0, .int .i64 0, .int .i64 0, .int .i64 0])),
  (108, (true, 9, 72, [.int .i64 0, .int .i64 0, .int .i64 0, .int .i64 0, .int .i64 0, .int .i64 0, .int .i64 0, .int .i64 0, .int .i64 0])),
  (109, (false, 1, 8, [.nilFunc])),
  (110, (false, 1, 8, [.nilFunc])),
  (111, (false, 1, 24, [.slice none 0 0])),
  (113, (false, 1, 8, [.nilFunc])),
  (114, (true, 2, 16, [.int .i64 0, .int .i64 0])),
  (115, (true, 2, 16, [.int .i64 0, .int .i64 0])),
  (117, (false, 1, 8, [.nilFunc])),
  (118, (false, 1, 8, [.nilFunc])),
  (119, (false, 1, 8, [.nilFunc])),
  (120, (false, 1, 24, [.slice none 0 0])),
  (121, (false, 1, 8, [.nilFunc])),
  (122, (false, 1, 8, [.nilFunc])),
  (123, (true, 2, 48, [.slice none 0 0, .slice none 0 0])),
  (124, (false, 1, 8, [.nilFunc])),
  (125, (false, 1, 8, [.nilFunc])),
  (126, (true, 2, 16, [.int .i64 0, .int .i64 0])),
  (127, (true, 2, 16, [.int .i64 0, .int .i64 0])),
  (128, (false, 1, 8, [.nilFunc])),
  (129, (false, 1, 8, [.nilFunc])),
  (130, (false, 1, 8, [.nilFunc])),
  (131, (false, 1, 24, [.slice none 0 0])),
  (132, (false, 1, 8, [.nilFunc])),
  (133, (false, 1, 8, [.nilFunc])),
  (134, (false, 1, 8, [.nilFunc])),
  (135, (false, 1, 8, [.nilFunc])),
  (136, (false, 1, 8, [.nilFunc])),
  (137, (false, 1, 8, [.nilFunc])),
  (138, (false, 1, 8, [.nilFunc])),
  (139, (false, 1, 8, [.nilFunc])),
  (140, (false, 1, 8, [.nilFunc])),
  (141, (true, 3, 3, [.bool false, .bool false, .bool false])),
  (142, (false, 1, 8, [.nilFunc])),
  (143, (false, 1, 8, [.nilFunc])),
  (144, (false, 1, 8, [.nilFunc])),
  (145, (false, 1, 8, [.int .u64 0])),
  (146, (false, 1, 8, [.nilFunc])),
  (147, (false, 1, 8, [.nilFunc])),
  (148, (false, 1, 24, [.slice none 0 0])),
  (149, (false, 1, 8, [.nilFunc])),
  (150, (false, 1, 8, [.nilFunc])),
  (151, (false, 1, 8, [.nilFunc])),
  (152, (true, 3, 24, [.int .i64 0, .int .i64 0, .int .i64 0])),
  (153, (false, 1, 8, [.nilFunc])),
  (154, (false, 1, 8, [.nilFunc])),
  (155, (true, 4, 40, [.pointer none, .pointer none, .pointer none, .string ⟨#[]⟩])),
  (156, (true, 4, 40, [.pointer none, .pointer none, .pointer none, .string ⟨#[]⟩])),
  (157, (true, 0, 0, [])),
  (158, (true, 0, 0, [])),
  (159, (true, 0, 0, [])),
  (160, (false, 1, 4, [.int .u32 0])),
  (161, (false, 1, 1, [.int .u8 0])),
  (162, (false, 1, 1, [.int .u8 0])),
  (163, (false, 1, 8, [.nilFunc])),
  (164, (false, 1, 8, [.pointer none])),
  (165, (false, 1, 4, [.int .i32 0])),
  (166, (false, 1, 4, [.int .i32 0])),
  (167, (true, 11, 48, [.int .u64 0, .int .u64 0, .int .u32 0, .int .u8 0, .int .u8 0, .int .u8 0, .int .u8 0, .nilFunc, .pointer none, .int .i32 0, .int .i32 0])),
  (168, (true, 11, 48, [.int .u64 0, .int .u64 0, .int .u32 0, .int .u8 0, .int .u8 0, .int .u8 0, .int .u8 0, .nilFunc, .pointer none, .int .i32 0, .int .i32 0]))]
def tbFl : List (Nat × Nat) := [(700, 0), (701, 1), (702, 2), (703, 3), (800, 0), (801, 1), (802, 2), (803, 3), (1300, 0), (1301, 1), (1400, 0), (1401, 1), (1800, 0), (1900, 0), (2400, 0), (2401, 1), (2402, 2), (2403, 3), (2500, 0), (2501, 1), (2502, 2), (2503, 3), (3700, 0), (3701, 1), (3800, 0), (3801, 1), (4600, 0), (4601, 1), (4700, 0), (4701, 1), (5000, 0), (5001, 1), (5100, 0), (5101, 1), (5200, 0), (5201, 1), (5202, 3), (5203, 4), (5204, 5), (5205, 6), (5206, 7), (5207, 8), (5300, 0), (5301, 1), (5302, 3), (5303, 4), (5304, 5), (5305, 6), (5306, 7), (5307, 8), (7900, 0), (7901, 1), (8000, 0), (8001, 1), (8100, 0), (8101, 1), (8102, 2), (8200, 0), (8201, 1), (8202, 2), (8700, 0), (8701, 1), (8800, 0), (8801, 1), (10700, 0), (10701, 3), (10702, 4), (10703, 5), (10704, 6), (10705, 7), (10800, 0), (10801, 3), (10802, 4), (10803, 5), (10804, 6), (10805, 7), (11400, 0), (11401, 1), (11500, 0), (11501, 1), (12600, 0), (12601, 1), (12700, 0), (12701, 1), (15500, 0), (15501, 1), (15502, 2), (15503, 3), (15600, 0), (15601, 1), (15602, 2), (15603, 3), (16700, 0), (16701, 1), (16702, 2), (16703, 3), (16704, 4), (16705, 5), (16706, 6), (16707, 7), (16708, 8), (16709, 9), (16710, 10), (16800, 0), (16801, 1), (16802, 2), (16803, 3), (16804, 4), (16805, 5), (16806, 6), (16807, 7), (16808, 8), (16809, 9), (16810, 10)]
def tbEl : List (Nat × (Nat × Nat × Bool)) := [(22, (80, 0, false)), (23, (82, 0, false)), (29, (47, 0, false)), (49, (127, 0, false)), (64, (3, 0, false)), (84, (47, 0, false)), (105, (108, 0, false)), (111, (115, 0, false)), (120, (25, 0, false)), (123, (84, 2, true)), (131, (23, 0, false)), (141, (4, 3, true)), (148, (30, 0, false)), (152, (3, 3, true)), (157, (16, 0, true))]
def tbBd : List (Nat × List (Nat × Nat)) := [(7, [(0, 1), (1, 1), (2, 1), (3, 1)]), (8, [(0, 1), (1, 1), (2, 1), (3, 1)]), (13, [(0, 1), (1, 1)]), (14, [(0, 1), (1, 1)]), (18, [(0, 1)]), (19, [(0, 1)]), (24, [(0, 1), (1, 1), (2, 1), (3, 1)]), (25, [(0, 1), (1, 1), (2, 1), (3, 1)]), (37, [(0, 1), (1, 1)]), (38, [(0, 1), (1, 1)]), (46, [(0, 1), (1, 1)]), (47, [(0, 1), (1, 1)]), (50, [(0, 1), (1, 1)]), (51, [(0, 1), (1, 1)]), (52, [(0, 1), (1, 2), (3, 1), (4, 1), (5, 1), (6, 1), (7, 1), (8, 1)]), (53, [(0, 1), (1, 2), (3, 1), (4, 1), (5, 1), (6, 1), (7, 1), (8, 1)]), (79, [(0, 1), (1, 1)]), (80, [(0, 1), (1, 1)]), (81, [(0, 1), (1, 1), (2, 1)]), (82, [(0, 1), (1, 1), (2, 1)]), (87, [(0, 1), (1, 1)]), (88, [(0, 1), (1, 1)]), (107, [(0, 3), (3, 1), (4, 1), (5, 1), (6, 1), (7, 2)]), (108, [(0, 3), (3, 1), (4, 1), (5, 1), (6, 1), (7, 2)]), (114, [(0, 1), (1, 1)]), (115, [(0, 1), (1, 1)]), (126, [(0, 1), (1, 1)]), (127, [(0, 1), (1, 1)]), (155, [(0, 1), (1, 1), (2, 1), (3, 1)]), (156, [(0, 1), (1, 1), (2, 1), (3, 1)]), (158, [(0, 0)]), (159, [(0, 0)]), (167, [(0, 1), (1, 1), (2, 1), (3, 1), (4, 1), (5, 1), (6, 1), (7, 1), (8, 1), (9, 1), (10, 1)]), (168, [(0, 1), (1, 1), (2, 1), (3, 1), (4, 1), (5, 1), (6, 1), (7, 1), (8, 1), (9, 1), (10, 1)])]
def tbKd : List (Nat × IntKind) := [(2, .i64), (3, .i64), (5, .u8), (6, .u8), (12, .u64), (21, .i32), (30, .i64), (145, .u64), (160, .u32), (161, .u8), (162, .u8), (165, .i32), (166, .i32)]
def tbEn : List (Nat × Unit) := [(3, ()), (4, ()), (5, ()), (6, ()), (7, ()), (8, ()), (9, ()), (10, ()), (11, ()), (12, ()), (13, ()), (14, ()), (15, ()), (16, ()), (17, ()), (18, ()), (19, ()), (20, ()), (21, ()), (22, ()), (23, ()), (24, ()), (25, ()), (26, ()), (27, ()), (28, ()), (29, ()), (30, ()), (31, ()), (32, ()), (33, ()), (34, ()), (35, ()), (36, ()), (37, ()), (38, ()), (39, ()), (40, ()), (41, ()), (42, ()), (43, ()), (44, ()), (45, ()), (46, ()), (47, ()), (48, ()), (49, ()), (50, ()), (51, ()), (52, ()), (53, ()), (54, ()), (55, ()), (56, ()), (57, ()), (58, ()), (59, ()), (60, ()), (61, ()), (62, ()), (63, ()), (64, ()), (65, ()), (66, ()), (67, ()), (68, ()), (69, ()), (70, ()), (71, ()), (72, ()), (73, ()), (74, ()), (75, ()), (76, ()), (77, ()), (78, ()), (79, ()), (80, ()), (81, ()), (82, ()), (83, ()), (84, ()), (85, ()), (86, ()), (87, ()), (88, ()), (89, ()), (90, ()), (91, ()), (92, ()), (93, ()), (94, ()), (95, ()), (96, ()), (97, ()), (98, ()), (99, ()), (100, ()), (101, ()), (102, ()), (103, ()), (104, ()), (105, ()), (106, ()), (107, ()), (108, ()), (109, ()), (110, ()), (111, ()), (112, ()), (113, ()), (114, ())]
theorem tbTy_ok : tbTy.map (fun p => tyC Try.prog p.1) = tbTy.map (fun p => some p.2) := by kernel_rfl
theorem tbFl_ok : tbFl.map (fun p => flC Try.prog p.1) = tbFl.map (fun p => some p.2) := by kernel_rfl
theorem tbEl_ok : tbEl.map (fun p => elC Try.prog p.1) = tbEl.map (fun p => some p.2) := by kernel_rfl
theorem tbBd_ok : tbBd.map (fun p => bdC Try.prog p.1) = tbBd.map (fun p => some (p.2.map fun x => (x.1, some x.2))) := by kernel_rfl
theorem tbKd_ok : tbKd.map (fun p => kdC Try.prog p.1) = tbKd.map (fun p => some p.2) := by kernel_rfl
theorem tbEn_ok : tbEn.map (fun p => enC Try.prog p.1) = tbEn.map (fun _ => true) := by kernel_rfl
def tb : Tab Try.prog where
  ty := tbTy
  fl := tbFl
  el := tbEl
  bd := tbBd
  kd := tbKd
  en := tbEn
  ty_ok := fun p hp => tyC_F (map_all tbTy_ok p hp)
  fl_ok := fun p hp => flC_F (map_all tbFl_ok p hp)
  el_ok := fun p hp => elC_F (map_all tbEl_ok p hp)
  bd_ok := fun p hp => bdC_F (map_all tbBd_ok p hp)
  kd_ok := fun p hp => kdC_F (map_all tbKd_ok p hp)
  en_ok := fun p hp => enC_F (map_all tbEn_ok p hp)
theorem mixed : Try.prog.follows .mixedOrders = true := by kernel_rfl
end Go.Proofs.Ytdmnejfpbbmcaaa
