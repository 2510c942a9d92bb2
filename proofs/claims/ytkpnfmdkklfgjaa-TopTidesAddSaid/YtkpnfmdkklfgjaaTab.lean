/-
  The tables that the calculus asks of this seat's program: types, fields, functions. Conditions: none. Written by a program (wip/tools/tab.py).
-/
import Derived.Test.YtkpnfmdkklfgjaaShUse
import Derived.Test.YtkpnfmdkklfgjaaRows
namespace Go.Proofs.Ytkpnfmdkklfgjaa

def tyC (P : Program) (t : Nat) : Option (Bool × Nat × Nat × List Value) := match P.underlying t, P.info? t with
  | some d, some i => i.zero.map fun z => (isAggD d, i.size, i.bytes, z.cells.toList)
  | _, _ => none
theorem tyC_F {P : Program} {t : Nat} {r : Bool × Nat × Nat × List Value} (h : tyC P t = some r) : tyF P t r := by
  unfold tyC at h
  split at h
  · rename_i d i hd hi
    cases hz : i.zero with
    | none => rw [hz] at h; cases h
    | some z =>
      rw [hz] at h
      simp only [Option.map_some, Option.some.injEq] at h
      subst h
      exact ⟨d, i, z, hd, hi, rfl, rfl, rfl, hz, rfl⟩
  · cases h
def flC (P : Program) (s : Nat) : Option Nat := match P.underlying (s / 100) with
  | some (.struct fs) => match fs[s % 100]? with
    | some f => match P.info? f.type with
      | some j => match Nat.beq j.size 0 with
        | false => some f.offset
        | true => none
      | none => none
    | none => none
  | _ => none
theorem flC_F {P : Program} {s off : Nat} (h : flC P s = some off) : flF P s off := by
  unfold flC at h
  split at h
  · rename_i fs hfs
    split at h
    · rename_i f hf
      split at h
      · rename_i j hj
        split at h
        · rename_i hb
          injection h with h
          refine ⟨fs, f, j, hfs, hf, hj, fun h0 => ?_, h⟩
          rw [h0] at hb
          cases hb
        · cases h
      · cases h
    · cases h
  · cases h
def elC (P : Program) (t : Nat) : Option (Nat × Nat × Bool) := match P.underlying t with
  | some (.slice e) => some (e, 0, false)
  | some (.array n e) => some (e, n, true)
  | _ => none
theorem elC_F {P : Program} {t : Nat} {r : Nat × Nat × Bool} (h : elC P t = some r) : elF P t r := by
  unfold elC at h
  split at h
  · rename_i e he
    injection h with h
    subst h
    exact .inl ⟨rfl, he⟩
  · rename_i n e he
    injection h with h
    subst h
    exact .inr ⟨rfl, he⟩
  · cases h
def bdC (P : Program) (t : Nat) : Option (List (Nat × Option Nat)) := match P.underlying t with
  | some (.struct fs) => some (fs.toList.map fun f => (f.offset, (P.info? f.type).map (·.size)))
  | _ => none
theorem bdC_F {P : Program} {t : Nat} {r : List (Nat × Nat)} (h : bdC P t = some (r.map fun x => (x.1, some x.2))) : bdF P t r := by
  unfold bdC at h
  split at h
  · rename_i fs hfs
    injection h with h
    exact ⟨fs, hfs, h⟩
  · cases h
def kdC (P : Program) (t : Nat) : Option IntKind := match P.underlying t with
  | some (.int k) => some k
  | _ => none
theorem kdC_F {P : Program} {t : Nat} {k : IntKind} (h : kdC P t = some k) : kdF P t k := by
  unfold kdC at h
  split at h
  · rename_i k' hk
    injection h with h
    subst h
    exact hk
  · cases h
def enC (P : Program) (f : Nat) : Bool := match P.funcs[f]? with
  | some fn => !(fn.name == "runtime.NumGoroutine") && fn.body.isSome
  | none => false
theorem enC_F {P : Program} {f : Nat} (h : enC P f = true) : Enters P f := by
  unfold enC at h
  split at h
  · rename_i fn hfn
    simp only [Bool.and_eq_true, Bool.not_eq_true'] at h
    obtain ⟨c, hc⟩ := Option.isSome_iff_exists.1 h.2
    exact enters_of hfn h.1 hc
  · cases h
theorem map_all {α β : Type} {f g : α → β} : ∀ {l : List α}, l.map f = l.map g → ∀ p ∈ l, f p = g p
  | [], _, p, hp => by cases hp
  | x :: t, h, p, hp => by
    simp only [List.map_cons, List.cons.injEq] at h
    rcases List.mem_cons.1 hp with rfl | hp
    · exact h.1
    · exact map_all h.2 p hp

def tbTy : List (Nat × (Bool × Nat × Nat × List Value)) := [
  (1, (false, 1, 8, [.nilFunc])),
  (2, (false, 1, 8, [.int .i64 0])),
  (3, (false, 1, 8, [.int .i64 0])),
  (4, (false, 1, 1, [.bool false])),
  (5, (false, 1, 1, [.int .u8 0])),
  (6, (false, 1, 1, [.int .u8 0])),
  (7, (true, 4, 24, [.int .i64 0, .int .i64 0, .bool false, .int .u8 0])),
  (8, (true, 4, 24, [.int .i64 0, .int .i64 0, .bool false, .int .u8 0])),
  (9, (false, 1, 16, [.string ⟨#[]⟩])),
  (10, (false, 1, 16, [.string ⟨#[]⟩])),
  (11, (false, 1, 16, [.string ⟨#[]⟩])),
  (12, (false, 1, 8, [.int .u64 0])),
  (13, (true, 2, 24, [.string ⟨#[]⟩, .int .u64 0])),
  (14, (true, 2, 24, [.string ⟨#[]⟩, .int .u64 0])),
  (15, (false, 1, 8, [.pointer none])),
  (16, (false, 1, 8, [.pointer none])),
  (17, (false, 1, 8, [.pointer none])),
  (18, (true, 1, 8, [.pointer none])),
  (19, (true, 1, 8, [.pointer none])),
  (20, (false, 1, 16, [.nilIface])),
  (21, (false, 1, 4, [.int .i32 0])),
  (22, (false, 1, 24, [.slice none 0 0])),
  (23, (true, 2, 32, [.int .i64 0, .slice none 0 0])),
  (24, (true, 2, 32, [.int .i64 0, .slice none 0 0])),
  (25, (false, 1, 8, [.nilFunc])),
  (26, (false, 1, 8, [.nilFunc])),
  (27, (false, 1, 8, [.nilFunc])),
  (28, (false, 1, 8, [.nilFunc])),
  (29, (false, 1, 8, [.nilFunc])),
  (30, (true, 2, 16, [.int .i64 0, .int .i64 0])),
  (31, (true, 2, 16, [.int .i64 0, .int .i64 0])),
  (32, (false, 1, 8, [.int .i64 0])),
  (34, (false, 1, 8, [.nilFunc])),
  (35, (true, 3, 24, [.int .i64 0, .int .i64 0, .int .i64 0])),
  (36, (true, 3, 24, [.int .i64 0, .int .i64 0, .int .i64 0])),
  (37, (false, 1, 8, [.nilFunc])),
  (38, (false, 1, 8, [.nilFunc])),
  (39, (true, 2, 16, [.int .i64 0, .int .i64 0])),
  (40, (true, 2, 16, [.int .i64 0, .int .i64 0])),
  (41, (true, 5, 40, [.int .i64 0, .int .i64 0, .int .i64 0, .int .i64 0, .int .i64 0])),
  (42, (true, 5, 40, [.int .i64 0, .int .i64 0, .int .i64 0, .int .i64 0, .int .i64 0])),
  (43, (false, 1, 8, [.nilFunc])),
  (44, (true, 2, 16, [.int .i64 0, .int .i64 0])),
  (45, (true, 2, 16, [.int .i64 0, .int .i64 0])),
  (47, (false, 1, 8, [.nilFunc])),
  (48, (false, 1, 8, [.nilFunc])),
  (49, (false, 1, 8, [.nilFunc])),
  (50, (false, 1, 8, [.nilFunc])),
  (52, (false, 1, 8, [.nilFunc])),
  (53, (false, 1, 24, [.slice none 0 0])),
  (54, (false, 1, 8, [.nilFunc])),
  (55, (false, 1, 8, [.nilFunc])),
  (56, (false, 1, 24, [.slice none 0 0])),
  (57, (true, 4, 72, [.string ⟨#[]⟩, .int .i64 0, .slice none 0 0, .slice none 0 0])),
  (58, (true, 4, 72, [.string ⟨#[]⟩, .int .i64 0, .slice none 0 0, .slice none 0 0])),
  (60, (false, 1, 8, [.nilFunc])),
  (61, (false, 1, 24, [.slice none 0 0])),
  (63, (false, 1, 8, [.nilFunc])),
  (64, (false, 1, 8, [.nilFunc])),
  (66, (false, 1, 8, [.nilFunc])),
  (67, (false, 1, 8, [.nilFunc])),
  (68, (false, 1, 8, [.nilFunc])),
  (69, (false, 1, 8, [.nilFunc])),
  (70, (false, 1, 8, [.nilFunc])),
  (71, (true, 2, 16, [.int .i64 0, .int .i64 0])),
  (72, (true, 2, 16, [.int .i64 0, .int .i64 0])),
  (73, (false, 1, 8, [.nilFunc])),
  (74, (false, 1, 8, [.nilFunc])),
  (75, (false, 1, 8, [.nilFunc])),
  (76, (false, 1, 8, [.pointer none])),
  (78, (false, 1, 8, [.nilFunc])),
  (79, (false, 1, 8, [.nilFunc])),
  (80, (true, 2, 16, [.int .i64 0, .int .i64 0])),
  (81, (true, 2, 16, [.int .i64 0, .int .i64 0])),
  (82, (true, 6, 48, [.int .i64 0, .int .i64 0, .int .i64 0, .int .i64 0, .int .i64 0, .int .i64 0])),
  (84, (false, 1, 8, [.nilFunc])),
  (85, (true, 3, 24, [.int .i64 0, .int .i64 0, .int .i64 0])),
  (86, (true, 3, 24, [.int .i64 0, .int .i64 0, .int .i64 0])),
  (87, (false, 1, 24, [.slice none 0 0])),
  (88, (false, 1, 8, [.nilFunc])),
  (89, (true, 6, 48, [.int .i64 0, .int .i64 0, .int .i64 0, .int .i64 0, .int .i64 0, .int .i64 0])),
  (90, (true, 6, 48, [.int .i64 0, .int .i64 0, .int .i64 0, .int .i64 0, .int .i64 0, .int .i64 0])),
  (92, (false, 1, 8, [.nilFunc])),
  (93, (false, 1, 8, [.nilFunc])),
  (94, (false, 1, 8, [.nilFunc])),
  (95, (false, 1, 8, [.nilFunc])),
  (96, (false, 1, 8, [.nilFunc])),
  (97, (false, 1, 8, [.nilFunc])),
  (98, (false, 1, 8, [.nilFunc])),
  (99, (false, 1, 8, [.nilFunc])),
  (100, (false, 1, 8, [.nilFunc])),
  (101, (false, 1, 24, [.slice none 0 0])),
  (102, (false, 1, 8, [.nilFunc])),
  (103, (false, 1, 8, [.nilFunc])),
  (104, (false, 1, 8, [.nilFunc])),
  (105, (false, 1, 8, [.nilFunc])),
  (106, (false, 1, 8, [.nilFunc])),
  (107, (false, 1, 24, [.slice none 0 0])),
  (108, (false, 1, 8, [.nilFunc])),
  (109, (true, 3, 24, [.int .i64 0, .int .i64 0, .int .i64 0])),
  (110, (true, 3, 24, [.int .i64 0, .int .i64 0, .int .i64 0])),
  (111, (false, 1, 8, [.nilFunc])),
  (112, (false, 1, 24, [.slice none 0 0])),
  (113, (false, 1, 8, [.nilFunc])),
  (114, (false, 1, 8, [.nilFunc])),
  (115, (false, 1, 8, [.nilFunc])),
  (116, (true, 2, 16, [.int .i64 0, .int .i64 0])),
  (117, (true, 2, 16, [.int .i64 0, .int .i64 0])),
  (118, (false, 1, 8, [.nilFunc])),
  (120, (false, 1, 8, [.nilFunc])),
  (121, (false, 1, 8, [.nilFunc])),
  (122, (false, 1, 8, [.nilFunc])),
  (123, (false, 1, 8, [.nilFunc])),
  (124, (false, 1, 8, [.nilFunc])),
  (125, (false, 1, 8, [.nilFunc])),
  (126, (false, 1, 8, [.nilFunc])),
  (127, (false, 1, 8, [.pointer none])),
  (128, (false, 1, 8, [.nilFunc])),
  (129, (true, 3, 40, [.int .i64 0, .slice none 0 0, .pointer none])),
  (130, (true, 3, 40, [.int .i64 0, .slice none 0 0, .pointer none])),
  (131, (false, 1, 8, [.nilFunc])),
  (132, (false, 1, 8, [.nilFunc])),
  (133, (true, 3, 24, [.int .i64 0, .int .i64 0, .int .i64 0])),
  (134, (true, 4, 32, [.int .i64 0, .int .i64 0, .int .i64 0, .int .i64 0])),
  (135, (true, 4, 32, [.int .i64 0, .int .i64 0, .int .i64 0, .int .i64 0])),
  (136, (false, 1, 8, [.nilFunc])),
  (137, (false, 1, 8, [.nilFunc])),
  (138, (false, 1, 24, [.slice none 0 0])),
  (139, (false, 1, 8, [.nilFunc])),
  (140, (false, 1, 8, [.nilFunc])),
  (141, (false, 1, 8, [.nilFunc])),
  (142, (false, 1, 24, [.slice none 0 0])),
  (143, (false, 1, 8, [.nilFunc])),
  (144, (false, 1, 8, [.nilFunc])),
  (145, (false, 1, 8, [.nilFunc])),
  (146, (true, 2, 48, [.slice none 0 0, .slice none 0 0])),
  (147, (false, 1, 8, [.nilFunc])),
  (148, (false, 1, 8, [.nilFunc])),
  (149, (false, 1, 8, [.nilFunc])),
  (150, (false, 1, 8, [.nilFunc])),
  (151, (true, 4, 32, [.int .i64 0, .int .i64 0, .int .i64 0, .int .i64 0])),
  (152, (true, 4, 32, [.int .i64 0, .int .i64 0, .int .i64 0, .int .i64 0])),
  (153, (true, 44, 352, [.int .i64 0, .int .i64 0, .int .i64 0, .int .i64 0, .int .i64 0, .int .i64 0, .int .i64 0, .int .i64 0, .int .i64 0, .int .i64 0, .int .i64 0, .int .i64 0, .int .i64 0, .int .i64 0, .int .i64 0, .int .i64 0, .int .i64 0, .int .i64 0, .int .i64 0, .int .i64 0, .int .i64 0, .int .i64 0, .int .i64 0, .int .i64 0, .int .i64 0, .int .i64 0, .int .i64 0, .int .i64 0, .int .i64 0, .int .i64 0, .int .i64 0, .int .i64 0, .int .i64 0, .int .i64 0, .int .i64 0, .int .i64 0, .int .i64 0, .int .i64 0, .int .i64 0, .int .i64 0, .int .i64 0, .int .i64 0, .int .i64 0, .int .i64 0])),
  (154, (true, 44, 352, [.int .i64 0, .int .i64 0, .int .i64 0, .int .i64 0, .int .i64 0, .int .i64 0, .int .i64 0, .int .i64 0, .int .i64 0, .int .i64 0, .int .i64 0, .int .i64 0, .int .i64 0, .int .i64 0, .int .i64 0, .int .i64 0, .int .i64 0, .int .i64 0, .int .i64 0, .int .i64 0, .int .i64 0, .int .i64 0, .int .i64 0, .int .i64 0, .int .i64 0, .int .i64 0, .int .i64 0, .int .i64 0, .int .i64 0, .int .i64 0, .int .i64 0, .int .i64 0, .int .i64 0, .int .i64 0, .int .i64 0, .int .i64 0, .int .i64 0, .int .i64 0, .int .i64 0, .int .i64 0, .int .i64 0, .int .i64 0, .int .i64 0, .int .i64 0])),
  (155, (false, 1, 8, [.nilFunc])),
  (156, (false, 1, 8, [.nilFunc])),
  (157, (false, 1, 8, [.nilFunc])),
  (158, (false, 1, 8, [.nilFunc])),
  (159, (false, 1, 8, [.nilFunc])),
  (160, (false, 1, 8, [.nilFunc])),
  (161, (false, 1, 8, [.nilFunc])),
  (162, (false, 1, 8, [.nilFunc])),
  (163, (false, 1, 8, [.nilFunc])),
  (164, (true, 4, 40, [.pointer none, .pointer none, .pointer none, .string ⟨#[]⟩])),
  (165, (true, 4, 40, [.pointer none, .pointer none, .pointer none, .string ⟨#[]⟩])),
  (166, (true, 0, 0, [])),
  (167, (true, 0, 0, [])),
  (168, (true, 0, 0, [])),
  (169, (false, 1, 4, [.int .u32 0])),
  (170, (false, 1, 1, [.int .u8 0])),
  (171, (false, 1, 1, [.int .u8 0])),
  (172, (false, 1, 8, [.nilFunc])),
  (173, (false, 1, 8, [.pointer none])),
  (174, (false, 1, 4, [.int .i32 0])),
  (175, (false, 1, 4, [.int .i32 0])),
  (176, (true, 11, 48, [.int .u64 0, .int .u64 0, .int .u32 0, .int .u8 0, .int .u8 0, .int .u8 0, .int .u8 0, .nilFunc, .pointer none, .int .i32 0, .int .i32 0])),
  (177, (true, 11, 48, [.int .u64 0, .int .u64 0, .int .u32 0, .int .u8 0, .int .u8 0, .int .u8 0, .int .u8 0, .nilFunc, .pointer none, .int .i32 0, .int .i32 0]))]
def tbFl : List (Nat × Nat) := [(700, 0), (701, 1), (702, 2), (703, 3), (800, 0), (801, 1), (802, 2), (803, 3), (1300, 0), (1301, 1), (1400, 0), (1401, 1), (1800, 0), (1900, 0), (2300, 0), (2301, 1), (2400, 0), (2401, 1), (3000, 0), (3001, 1), (3100, 0), (3101, 1), (3500, 0), (3501, 1), (3502, 2), (3600, 0), (3601, 1), (3602, 2), (3900, 0), (3901, 1), (4000, 0), (4001, 1), (4100, 0), (4101, 1), (4102, 2), (4103, 4), (4200, 0), (4201, 1), (4202, 2), (4203, 4), (4400, 0), (4401, 1), (4500, 0), (4501, 1), (5700, 0), (5701, 1), (5702, 2), (5703, 3), (5800, 0), (5801, 1), (5802, 2), (5803, 3), (7100, 0), (7101, 1), (7200, 0), (7201, 1), (8000, 0), (8001, 1), (8100, 0), (8101, 1), (8500, 0), (8501, 2), (8600, 0), (8601, 2), (8900, 0), (8901, 5), (9000, 0), (9001, 5), (10900, 0), (10901, 1), (10902, 2), (11000, 0), (11001, 1), (11002, 2), (11600, 0), (11601, 1), (11700, 0), (11701, 1), (12900, 0), (12901, 2), (13000, 0), (13001, 2), (13400, 0), (13401, 1), (13500, 0), (13501, 1), (15100, 0), (15101, 2), (15200, 0), (15201, 2), (16400, 0), (16401, 1), (16402, 2), (16403, 3), (16500, 0), (16501, 1), (16502, 2), (16503, 3), (17600, 0), (17601, 1), (17602, 2), (17603, 3), (17604, 4), (17605, 5), (17606, 6), (17607, 7), (17608, 8), (17609, 9), (17610, 10), (17700, 0), (17701, 1), (17702, 2), (17703, 3), (17704, 4), (17705, 5), (17706, 6), (17707, 7), (17708, 8), (17709, 9), (17710, 10)]
def tbEl : List (Nat × (Nat × Nat × Bool)) := [(22, (36, 0, false)), (53, (45, 0, false)), (56, (110, 0, false)), (61, (72, 0, false)), (82, (81, 3, true)), (87, (86, 0, false)), (101, (31, 0, false)), (107, (3, 0, false)), (112, (72, 0, false)), (133, (3, 3, true)), (138, (32, 0, false)), (142, (58, 0, false)), (146, (112, 2, true)), (153, (152, 11, true)), (154, (152, 11, true)), (166, (16, 0, true))]
def tbBd : List (Nat × List (Nat × Nat)) := [(7, [(0, 1), (1, 1), (2, 1), (3, 1)]), (8, [(0, 1), (1, 1), (2, 1), (3, 1)]), (13, [(0, 1), (1, 1)]), (14, [(0, 1), (1, 1)]), (18, [(0, 1)]), (19, [(0, 1)]), (23, [(0, 1), (1, 1)]), (24, [(0, 1), (1, 1)]), (30, [(0, 1), (1, 1)]), (31, [(0, 1), (1, 1)]), (35, [(0, 1), (1, 1), (2, 1)]), (36, [(0, 1), (1, 1), (2, 1)]), (39, [(0, 1), (1, 1)]), (40, [(0, 1), (1, 1)]), (41, [(0, 1), (1, 1), (2, 2), (4, 1)]), (42, [(0, 1), (1, 1), (2, 2), (4, 1)]), (44, [(0, 1), (1, 1)]), (45, [(0, 1), (1, 1)]), (57, [(0, 1), (1, 1), (2, 1), (3, 1)]), (58, [(0, 1), (1, 1), (2, 1), (3, 1)]), (71, [(0, 1), (1, 1)]), (72, [(0, 1), (1, 1)]), (80, [(0, 1), (1, 1)]), (81, [(0, 1), (1, 1)]), (85, [(0, 2), (2, 1)]), (86, [(0, 2), (2, 1)]), (89, [(0, 5), (5, 1)]), (90, [(0, 5), (5, 1)]), (109, [(0, 1), (1, 1), (2, 1)]), (110, [(0, 1), (1, 1), (2, 1)]), (116, [(0, 1), (1, 1)]), (117, [(0, 1), (1, 1)]), (129, [(0, 2), (2, 1)]), (130, [(0, 2), (2, 1)]), (134, [(0, 1), (1, 3)]), (135, [(0, 1), (1, 3)]), (151, [(0, 2), (2, 2)]), (152, [(0, 2), (2, 2)]), (164, [(0, 1), (1, 1), (2, 1), (3, 1)]), (165, [(0, 1), (1, 1), (2, 1), (3, 1)]), (167, [(0, 0)]), (168, [(0, 0)]), (176, [(0, 1), (1, 1), (2, 1), (3, 1), (4, 1), (5, 1), (6, 1), (7, 1), (8, 1), (9, 1), (10, 1)]), (177, [(0, 1), (1, 1), (2, 1), (3, 1), (4, 1), (5, 1), (6, 1), (7, 1), (8, 1), (9, 1), (10, 1)])]
def tbKd : List (Nat × IntKind) := [(2, .i64), (3, .i64), (5, .u8), (6, .u8), (12, .u64), (21, .i32), (32, .i64), (169, .u32), (170, .u8), (171, .u8), (174, .i32), (175, .i32)]
def tbEn : List (Nat × Unit) := [(3, ()), (4, ()), (5, ()), (6, ()), (7, ()), (8, ()), (9, ()), (10, ()), (11, ()), (12, ()), (13, ()), (14, ()), (15, ()), (16, ()), (17, ()), (18, ()), (19, ()), (20, ()), (21, ()), (22, ()), (23, ()), (24, ()), (25, ()), (26, ()), (27, ()), (28, ()), (29, ()), (30, ()), (31, ()), (32, ()), (33, ()), (34, ()), (35, ()), (36, ()), (37, ()), (38, ()), (39, ()), (40, ()), (41, ()), (42, ()), (43, ()), (44, ()), (45, ()), (46, ()), (47, ()), (48, ()), (49, ()), (50, ()), (51, ()), (52, ()), (53, ()), (54, ()), (55, ()), (56, ()), (57, ()), (58, ()), (59, ()), (60, ()), (61, ()), (62, ()), (63, ()), (64, ()), (65, ()), (66, ()), (67, ()), (68, ()), (69, ()), (70, ()), (71, ()), (72, ()), (73, ()), (74, ()), (75, ()), (76, ()), (77, ()), (78, ()), (79, ()), (80, ()), (81, ()), (82, ()), (83, ()), (84, ()), (85, ()), (86, ()), (87, ()), (88, ()), (89, ()), (90, ()), (91, ()), (92, ()), (93, ()), (94, ()), (95, ()), (96, ()), (97, ()), (98, ()), (99, ()), (100, ()), (101, ()), (102, ()), (103, ()), (104, ()), (105, ()), (106, ()), (107, ())]
theorem tbTy_ok : tbTy.map (fun p => tyC Try.prog p.1) = tbTy.map (fun p => some p.2) := by kernel_rfl
theorem tbFl_ok : tbFl.map (fun p => flC Try.prog p.1) = tbFl.map (fun p => some p.2) := by kernel_rfl
theorem tbEl_ok : tbEl.map (fun p => elC Try.prog p.1) = tbEl.map (fun p => some p.2) := by kernel_rfl
theorem tbBd_ok : tbBd.map (fun p => bdC Try.prog p.1) = tbBd.map (fun p => some (p.2.map fun x => (x.1, some x.2))) := by kernel_rfl
theorem tbKd_ok : tbKd.map (fun p => kdC Try.prog p.1) = tbKd.map (fun p => some p.2) := by kernel_rfl
theorem tbEn_ok : tbEn.map (fun p => enC Try.prog p.1) = tbEn.map (fun _ => true) := by kernel_rfl
def tb : Tab Try.prog where
  ty := tbTy
  fl := tbFl
  el := tbEl
  bd := tbBd
  kd := tbKd
  en := tbEn
  ty_ok := fun p hp => tyC_F (map_all tbTy_ok p hp)
  fl_ok := fun p hp => flC_F (map_all tbFl_ok p hp)
  el_ok := fun p hp => elC_F (map_all tbEl_ok p hp)
  bd_ok := fun p hp => bdC_F (map_all tbBd_ok p hp)
  kd_ok := fun p hp => kdC_F (map_all tbKd_ok p hp)
  en_ok := fun p hp => enC_F (map_all tbEn_ok p hp)
theorem mixed : Try.prog.follows .mixedOrders = true := by kernel_rfl
end Go.Proofs.Ytkpnfmdkklfgjaa
