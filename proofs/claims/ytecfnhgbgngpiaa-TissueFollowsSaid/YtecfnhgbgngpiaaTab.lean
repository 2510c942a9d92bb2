/-
  The tables that the calculus asks of this seat's program: types, fields, functions. Conditions: none. Written by a program (wip/tools/tab.py).
-/
import Derived.Test.YtecfnhgbgngpiaaShUse
import Derived.Test.YtecfnhgbgngpiaaRows
namespace Go.Proofs.Ytecfnhgbgngpiaa

def tyC (P : Program) (t : Nat) : Option (Bool × Nat × Nat × List Value) := match P.underlying t, P.info? t with
  | some d, some i => i.zero.map fun z => (isAggD d, i.size, i.bytes, z.cells.toList)
  | _, _ => none
theorem tyC_F {P : Program} {t : Nat} {r : Bool × Nat × Nat × List Value} (h : tyC P t = some r) : tyF P t r := by
  unfold tyC at h
  split at h
  · rename_i d i hd hi
    cases hz : i.zero with
    | none => rw [hz] at h; cases h
    | some z =>
      rw [hz] at h
      simp only [Option.map_some, Option.some.injEq] at h
      subst h
      exact ⟨d, i, z, hd, hi, rfl, rfl, rfl, hz, rfl⟩
  · cases h
def flC (P : Program) (s : Nat) : Option Nat := match P.underlying (s / 100) with
  | some (.struct fs) => match fs[s % 100]? with
    | some f => match P.info? f.type with
      | some j => match Nat.beq j.size 0 with
        | false => some f.offset
        | true => none
      | none => none
    | none => none
  | _ => none
theorem flC_F {P : Program} {s off : Nat} (h : flC P s = some off) : flF P s off := by
  unfold flC at h
  split at h
  · rename_i fs hfs
    split at h
    · rename_i f hf
      split at h
      · rename_i j hj
        split at h
        · rename_i hb
          injection h with h
          refine ⟨fs, f, j, hfs, hf, hj, fun h0 => ?_, h⟩
          rw [h0] at hb
          cases hb
        · cases h
      · cases h
    · cases h
  · cases h
def elC (P : Program) (t : Nat) : Option (Nat × Nat × Bool) := match P.underlying t with
  | some (.slice e) => some (e, 0, false)
  | some (.array n e) => some (e, n, true)
  | _ => none
theorem elC_F {P : Program} {t : Nat} {r : Nat × Nat × Bool} (h : elC P t = some r) : elF P t r := by
  unfold elC at h
  split at h
  · rename_i e he
    injection h with h
    subst h
    exact .inl ⟨rfl, he⟩
  · rename_i n e he
    injection h with h
    subst h
    exact .inr ⟨rfl, he⟩
  · cases h
def bdC (P : Program) (t : Nat) : Option (List (Nat × Option Nat)) := match P.underlying t with
  | some (.struct fs) => some (fs.toList.map fun f => (f.offset, (P.info? f.type).map (·.size)))
  | _ => none
theorem bdC_F {P : Program} {t : Nat} {r : List (Nat × Nat)} (h : bdC P t = some (r.map fun x => (x.1, some x.2))) : bdF P t r := by
  unfold bdC at h
  split at h
  · rename_i fs hfs
    injection h with h
    exact ⟨fs, hfs, h⟩
  · cases h
def kdC (P : Program) (t : Nat) : Option IntKind := match P.underlying t with
  | some (.int k) => some k
  | _ => none
theorem kdC_F {P : Program} {t : Nat} {k : IntKind} (h : kdC P t = some k) : kdF P t k := by
  unfold kdC at h
  split at h
  · rename_i k' hk
    injection h with h
    subst h
    exact hk
  · cases h
def enC (P : Program) (f : Nat) : Bool := match P.funcs[f]? with
  | some fn => !(fn.name == "runtime.NumGoroutine") && fn.body.isSome
  | none => false
theorem enC_F {P : Program} {f : Nat} (h : enC P f = true) : Enters P f := by
  unfold enC at h
  split at h
  · rename_i fn hfn
    simp only [Bool.and_eq_true, Bool.not_eq_true'] at h
    obtain ⟨c, hc⟩ := Option.isSome_iff_exists.1 h.2
    exact enters_of hfn h.1 hc
  · cases h
theorem map_all {α β : Type} {f g : α → β} : ∀ {l : List α}, l.map f = l.map g → ∀ p ∈ l, f p = g p
  | [], _, p, hp => by cases hp
  | x :: t, h, p, hp => by
    simp only [List.map_cons, List.cons.injEq] at h
    rcases List.mem_cons.1 hp with rfl | hp
    · exact h.1
    · exact map_all h.2 p hp

def tbTy : List (Nat × (Bool × Nat × Nat × List Value)) := [
  (1, (false, 1, 8, [.nilFunc])),
  (2, (false, 1, 8, [.int .i64 0])),
  (3, (false, 1, 8, [.int .i64 0])),
  (4, (false, 1, 1, [.bool false])),
  (5, (false, 1, 1, [.int .u8 0])),
  (6, (false, 1, 1, [.int .u8 0])),
  (7, (true, 4, 24, [.int .i64 0, .int .i64 0, .bool false, .int .u8 0])),
  (8, (true, 4, 24, [.int .i64 0, .int .i64 0, .bool false, .int .u8 0])),
  (9, (false, 1, 16, [.string ⟨#[]⟩])),
  (10, (false, 1, 16, [.string ⟨#[]⟩])),
  (11, (false, 1, 16, [.string ⟨#[]⟩])),
  (12, (false, 1, 8, [.int .u64 0])),
  (13, (true, 2, 24, [.string ⟨#[]⟩, .int .u64 0])),
  (14, (true, 2, 24, [.string ⟨#[]⟩, .int .u64 0])),
  (15, (false, 1, 8, [.pointer none])),
  (16, (false, 1, 8, [.pointer none])),
  (17, (false, 1, 8, [.pointer none])),
  (18, (true, 1, 8, [.pointer none])),
  (19, (true, 1, 8, [.pointer none])),
  (20, (false, 1, 16, [.nilIface])),
  (21, (false, 1, 4, [.int .i32 0])),
  (22, (false, 1, 24, [.slice none 0 0])),
  (23, (false, 1, 24, [.slice none 0 0])),
  (24, (true, 2, 16, [.int .i64 0, .int .i64 0])),
  (25, (true, 2, 16, [.int .i64 0, .int .i64 0])),
  (26, (true, 5, 40, [.int .i64 0, .int .i64 0, .int .i64 0, .int .i64 0, .int .i64 0])),
  (27, (true, 5, 40, [.int .i64 0, .int .i64 0, .int .i64 0, .int .i64 0, .int .i64 0])),
  (28, (true, 8, 96, [.slice none 0 0, .slice none 0 0, .int .i64 0, .int .i64 0, .int .i64 0, .int .i64 0, .int .i64 0, .int .i64 0])),
  (29, (true, 8, 96, [.slice none 0 0, .slice none 0 0, .int .i64 0, .int .i64 0, .int .i64 0, .int .i64 0, .int .i64 0, .int .i64 0])),
  (30, (false, 1, 24, [.slice none 0 0])),
  (31, (false, 1, 8, [.nilFunc])),
  (32, (false, 1, 8, [.nilFunc])),
  (33, (false, 1, 24, [.slice none 0 0])),
  (34, (false, 1, 8, [.int .i64 0])),
  (36, (false, 1, 8, [.nilFunc])),
  (37, (false, 1, 8, [.nilFunc])),
  (38, (false, 1, 8, [.nilFunc])),
  (39, (false, 1, 8, [.nilFunc])),
  (40, (false, 1, 8, [.nilFunc])),
  (41, (false, 1, 8, [.nilFunc])),
  (43, (false, 1, 8, [.nilFunc])),
  (44, (false, 1, 8, [.nilFunc])),
  (45, (false, 1, 8, [.nilFunc])),
  (46, (false, 1, 8, [.nilFunc])),
  (47, (true, 2, 16, [.int .i64 0, .int .i64 0])),
  (48, (true, 2, 16, [.int .i64 0, .int .i64 0])),
  (50, (false, 1, 8, [.nilFunc])),
  (51, (false, 1, 8, [.nilFunc])),
  (52, (false, 1, 8, [.nilFunc])),
  (53, (false, 1, 8, [.nilFunc])),
  (54, (false, 1, 8, [.nilFunc])),
  (55, (true, 4, 32, [.int .i64 0, .int .i64 0, .int .i64 0, .int .i64 0])),
  (56, (true, 4, 32, [.int .i64 0, .int .i64 0, .int .i64 0, .int .i64 0])),
  (57, (false, 1, 8, [.nilFunc])),
  (58, (false, 1, 8, [.nilFunc])),
  (59, (false, 1, 8, [.nilFunc])),
  (60, (false, 1, 8, [.nilFunc])),
  (61, (false, 1, 8, [.nilFunc])),
  (62, (false, 1, 8, [.nilFunc])),
  (63, (false, 1, 8, [.nilFunc])),
  (64, (false, 1, 24, [.slice none 0 0])),
  (65, (false, 1, 8, [.nilFunc])),
  (66, (false, 1, 24, [.slice none 0 0])),
  (67, (false, 1, 8, [.nilFunc])),
  (68, (false, 1, 8, [.nilFunc])),
  (69, (true, 3, 24, [.int .i64 0, .int .i64 0, .int .i64 0])),
  (70, (true, 3, 24, [.int .i64 0, .int .i64 0, .int .i64 0])),
  (71, (false, 1, 8, [.nilFunc])),
  (72, (false, 1, 24, [.slice none 0 0])),
  (73, (false, 1, 8, [.nilFunc])),
  (74, (true, 4, 32, [.int .i64 0, .int .i64 0, .int .i64 0, .int .i64 0])),
  (75, (true, 4, 32, [.int .i64 0, .int .i64 0, .int .i64 0, .int .i64 0])),
  (76, (false, 1, 8, [.nilFunc])),
  (77, (false, 1, 8, [.nilFunc])),
  (78, (false, 1, 8, [.nilFunc])),
  (79, (false, 1, 8, [.nilFunc])),
  (80, (false, 1, 8, [.nilFunc])),
  (81, (false, 1, 8, [.nilFunc])),
  (82, (false, 1, 8, [.nilFunc])),
  (83, (false, 1, 8, [.nilFunc])),
  (84, (true, 3, 24, [.int .i64 0, .int .i64 0, .int .i64 0])),
  (85, (true, 3, 24, [.int .i64 0, .int .i64 0, .int .i64 0])),
  (86, (true, 5, 56, [.int .i64 0, .int .i64 0, .int .i64 0, .slice none 0 0, .int .i64 0])),
  (87, (true, 5, 56, [.int .i64 0, .int .i64 0, .int .i64 0, .slice none 0 0, .int .i64 0])),
  (88, (false, 1, 8, [.nilFunc])),
  (89, (false, 1, 8, [.nilFunc])),
  (90, (false, 1, 8, [.nilFunc])),
  (91, (false, 1, 8, [.nilFunc])),
  (92, (false, 1, 8, [.nilFunc])),
  (93, (false, 1, 8, [.nilFunc])),
  (94, (false, 1, 8, [.nilFunc])),
  (95, (true, 4, 32, [.int .i64 0, .int .i64 0, .int .i64 0, .int .i64 0])),
  (96, (false, 1, 8, [.nilFunc])),
  (97, (false, 1, 8, [.nilFunc])),
  (98, (false, 1, 8, [.nilFunc])),
  (99, (false, 1, 24, [.slice none 0 0])),
  (100, (false, 1, 8, [.nilFunc])),
  (101, (true, 5, 40, [.int .i64 0, .int .i64 0, .int .i64 0, .int .i64 0, .int .i64 0])),
  (102, (true, 5, 40, [.int .i64 0, .int .i64 0, .int .i64 0, .int .i64 0, .int .i64 0])),
  (103, (false, 1, 8, [.nilFunc])),
  (104, (false, 1, 8, [.int .u64 0])),
  (105, (false, 1, 24, [.slice none 0 0])),
  (107, (false, 1, 8, [.nilFunc])),
  (108, (false, 1, 8, [.nilFunc])),
  (109, (false, 1, 8, [.nilFunc])),
  (110, (false, 1, 8, [.nilFunc])),
  (111, (true, 4, 40, [.pointer none, .pointer none, .pointer none, .string ⟨#[]⟩])),
  (112, (true, 4, 40, [.pointer none, .pointer none, .pointer none, .string ⟨#[]⟩])),
  (113, (true, 0, 0, [])),
  (114, (true, 0, 0, [])),
  (115, (true, 0, 0, [])),
  (116, (false, 1, 8, [.nilFunc])),
  (117, (false, 1, 4, [.int .u32 0])),
  (118, (false, 1, 1, [.int .u8 0])),
  (119, (false, 1, 1, [.int .u8 0])),
  (120, (false, 1, 8, [.nilFunc])),
  (121, (false, 1, 8, [.pointer none])),
  (122, (false, 1, 4, [.int .i32 0])),
  (123, (false, 1, 4, [.int .i32 0])),
  (124, (true, 11, 48, [.int .u64 0, .int .u64 0, .int .u32 0, .int .u8 0, .int .u8 0, .int .u8 0, .int .u8 0, .nilFunc, .pointer none, .int .i32 0, .int .i32 0])),
  (125, (true, 11, 48, [.int .u64 0, .int .u64 0, .int .u32 0, .int .u8 0, .int .u8 0, .int .u8 0, .int .u8 0, .nilFunc, .pointer none, .int .i32 0, .int .i32 0]))]
def tbFl : List (Nat × Nat) := [(700, 0), (701, 1), (702, 2), (703, 3), (800, 0), (801, 1), (802, 2), (803, 3), (1300, 0), (1301, 1), (1400, 0), (1401, 1), (1800, 0), (1900, 0), (2400, 0), (2401, 1), (2500, 0), (2501, 1), (2600, 0), (2601, 1), (2602, 2), (2603, 3), (2700, 0), (2701, 1), (2702, 2), (2703, 3), (2800, 0), (2801, 1), (2802, 2), (2803, 7), (2900, 0), (2901, 1), (2902, 2), (2903, 7), (4700, 0), (4701, 1), (4800, 0), (4801, 1), (5500, 0), (5501, 2), (5600, 0), (5601, 2), (6900, 0), (6901, 1), (7000, 0), (7001, 1), (7400, 0), (7401, 1), (7402, 2), (7403, 3), (7500, 0), (7501, 1), (7502, 2), (7503, 3), (8400, 0), (8401, 1), (8500, 0), (8501, 1), (8600, 0), (8601, 3), (8602, 4), (8700, 0), (8701, 3), (8702, 4), (10100, 0), (10101, 1), (10102, 2), (10103, 3), (10200, 0), (10201, 1), (10202, 2), (10203, 3), (11100, 0), (11101, 1), (11102, 2), (11103, 3), (11200, 0), (11201, 1), (11202, 2), (11203, 3), (12400, 0), (12401, 1), (12402, 2), (12403, 3), (12404, 4), (12405, 5), (12406, 6), (12407, 7), (12408, 8), (12409, 9), (12410, 10), (12500, 0), (12501, 1), (12502, 2), (12503, 3), (12504, 4), (12505, 5), (12506, 6), (12507, 7), (12508, 8), (12509, 9), (12510, 10)]
def tbEl : List (Nat × (Nat × Nat × Bool)) := [(22, (75, 0, false)), (23, (56, 0, false)), (30, (27, 0, false)), (33, (23, 0, false)), (64, (48, 0, false)), (66, (70, 0, false)), (72, (48, 0, false)), (95, (3, 4, true)), (99, (85, 0, false)), (105, (34, 0, false)), (113, (16, 0, true))]
def tbBd : List (Nat × List (Nat × Nat)) := [(7, [(0, 1), (1, 1), (2, 1), (3, 1)]), (8, [(0, 1), (1, 1), (2, 1), (3, 1)]), (13, [(0, 1), (1, 1)]), (14, [(0, 1), (1, 1)]), (18, [(0, 1)]), (19, [(0, 1)]), (24, [(0, 1), (1, 1)]), (25, [(0, 1), (1, 1)]), (26, [(0, 1), (1, 1), (2, 1), (3, 2)]), (27, [(0, 1), (1, 1), (2, 1), (3, 2)]), (28, [(0, 1), (1, 1), (2, 5), (7, 1)]), (29, [(0, 1), (1, 1), (2, 5), (7, 1)]), (47, [(0, 1), (1, 1)]), (48, [(0, 1), (1, 1)]), (55, [(0, 2), (2, 2)]), (56, [(0, 2), (2, 2)]), (69, [(0, 1), (1, 2)]), (70, [(0, 1), (1, 2)]), (74, [(0, 1), (1, 1), (2, 1), (3, 1)]), (75, [(0, 1), (1, 1), (2, 1), (3, 1)]), (84, [(0, 1), (1, 2)]), (85, [(0, 1), (1, 2)]), (86, [(0, 3), (3, 1), (4, 1)]), (87, [(0, 3), (3, 1), (4, 1)]), (101, [(0, 1), (1, 1), (2, 1), (3, 2)]), (102, [(0, 1), (1, 1), (2, 1), (3, 2)]), (111, [(0, 1), (1, 1), (2, 1), (3, 1)]), (112, [(0, 1), (1, 1), (2, 1), (3, 1)]), (114, [(0, 0)]), (115, [(0, 0)]), (124, [(0, 1), (1, 1), (2, 1), (3, 1), (4, 1), (5, 1), (6, 1), (7, 1), (8, 1), (9, 1), (10, 1)]), (125, [(0, 1), (1, 1), (2, 1), (3, 1), (4, 1), (5, 1), (6, 1), (7, 1), (8, 1), (9, 1), (10, 1)])]
def tbKd : List (Nat × IntKind) := [(2, .i64), (3, .i64), (5, .u8), (6, .u8), (12, .u64), (21, .i32), (34, .i64), (104, .u64), (117, .u32), (118, .u8), (119, .u8), (122, .i32), (123, .i32)]
def tbEn : List (Nat × Unit) := [(3, ()), (4, ()), (5, ()), (6, ()), (7, ()), (8, ()), (9, ()), (10, ()), (11, ()), (12, ()), (13, ()), (14, ()), (15, ()), (16, ()), (17, ()), (18, ()), (19, ()), (20, ()), (21, ()), (22, ()), (23, ()), (24, ()), (25, ()), (26, ()), (27, ()), (28, ()), (29, ()), (30, ()), (31, ()), (32, ()), (33, ()), (34, ()), (35, ()), (36, ()), (37, ()), (38, ()), (39, ()), (40, ()), (41, ()), (42, ()), (43, ()), (44, ()), (45, ()), (46, ()), (47, ()), (48, ()), (49, ()), (50, ()), (51, ()), (52, ()), (53, ()), (54, ()), (55, ()), (56, ()), (57, ()), (58, ()), (59, ()), (60, ()), (61, ()), (62, ()), (63, ()), (64, ()), (65, ()), (66, ())]
theorem tbTy_ok : tbTy.map (fun p => tyC Try.prog p.1) = tbTy.map (fun p => some p.2) := by kernel_rfl
theorem tbFl_ok : tbFl.map (fun p => flC Try.prog p.1) = tbFl.map (fun p => some p.2) := by kernel_rfl
theorem tbEl_ok : tbEl.map (fun p => elC Try.prog p.1) = tbEl.map (fun p => some p.2) := by kernel_rfl
theorem tbBd_ok : tbBd.map (fun p => bdC Try.prog p.1) = tbBd.map (fun p => some (p.2.map fun x => (x.1, some x.2))) := by kernel_rfl
theorem tbKd_ok : tbKd.map (fun p => kdC Try.prog p.1) = tbKd.map (fun p => some p.2) := by kernel_rfl
theorem tbEn_ok : tbEn.map (fun p => enC Try.prog p.1) = tbEn.map (fun _ => true) := by kernel_rfl
def tb : Tab Try.prog where
  ty := tbTy
  fl := tbFl
  el := tbEl
  bd := tbBd
  kd := tbKd
  en := tbEn
  ty_ok := fun p hp => tyC_F (map_all tbTy_ok p hp)
  fl_ok := fun p hp => flC_F (map_all tbFl_ok p hp)
  el_ok := fun p hp => elC_F (map_all tbEl_ok p hp)
  bd_ok := fun p hp => bdC_F (map_all tbBd_ok p hp)
  kd_ok := fun p hp => kdC_F (map_all tbKd_ok p hp)
  en_ok := fun p hp => enC_F (map_all tbEn_ok p hp)
theorem mixed : Try.prog.follows .mixedOrders = true := by kernel_rfl
end Go.Proofs.Ytecfnhgbgngpiaa
