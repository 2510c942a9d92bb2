/-
  The calculus: arrays of truth values, compared. Conditions: none; no program in sight.
-/
import Derived.Test.YtdmnejfpbbmcaaaShArr
namespace Go.Proofs.Ytdmnejfpbbmcaaa
open Go.RowKit

abbrev iV (n : Int) : Value := .int .i64 n
def EqT (P : Program) (k t n : Nat) : Prop := ∀ (d : Nat) (xs ys : List Int), xs.length = n → ys.length = n → ∀ w, (Op.equalIn (d + k) t (.agg (xs.map iV).toArray) (.agg (ys.map iV).toArray)).run P w = .ok (decide (xs = ys)) w
theorem EqT.up {P : Program} {k t n : Nat} (h : EqT P k t n) (j : Nat) : EqT P (j + k) t n := fun d xs ys hx hy w => by
  rw [show d + (j + k) = (d + j) + k by omega]; exact h _ xs ys hx hy w
def fsF (f : Field) : Bool × Nat × Nat := (f.name == "_", f.offset, f.type)
inductive FE {P : Program} (T : Tab P) (k : Nat) : Nat → List (Bool × Nat × Nat) → Nat → Prop
  | nil (o : Nat) : FE T k o [] o
  | int {o ty n bs : Nat} {zs : List Value} {fs : List (Bool × Nat × Nat)} : lkT T.kd ty = some .i64 → lkT T.ty ty = some (false, 1, bs, zs) → FE T k (o + 1) fs n → FE T k o ((false, o, ty) :: fs) n
  | str {o ty m n bs : Nat} {zs : List Value} {fs : List (Bool × Nat × Nat)} : EqT P k ty m → lkT T.ty ty = some (true, m, bs, zs) → FE T k (o + m) fs n → FE T k o ((false, o, ty) :: fs) n
theorem FE.le {P : Program} {T : Tab P} {k o n : Nat} {fs : List (Bool × Nat × Nat)} (h : FE T k o fs n) : o ≤ n := by
  induction h with
  | nil => exact Nat.le_refl _
  | int _ _ _ ih => omega
  | str _ _ _ ih => omega
theorem dec_and {p q r : Prop} [Decidable p] [Decidable q] [Decidable r] (h : r ↔ p ∧ q) : (if (!decide p) = true then false else decide q) = decide r := by
  by_cases hp : p <;> by_cases hq : q <;> simp [hp, hq, h]
theorem run_fields {P : Program} (T : Tab P) {k n : Nat} (d : Nat) (xs ys : List Int) (hx : xs.length = n) (hy : ys.length = n) : ∀ (fs : List Field) (o : Nat), FE T (k + 1) o (fs.map fsF) n → ∀ w,
    (Op.eqFields (d + (k + 1)) (xs.map iV).toArray (ys.map iV).toArray fs).run P w = .ok (decide (xs.drop o = ys.drop o)) w
  | [], o, h, w => by
    generalize hl : ([] : List Field).map fsF = l at h
    cases h with
    | nil => simp [Op.eqFields, List.drop_eq_nil_of_le (Nat.le_of_eq hx), List.drop_eq_nil_of_le (Nat.le_of_eq hy)]
    | int => cases hl
    | str => cases hl
  | f :: fs, o, h, w => by
    generalize hl : (f :: fs).map fsF = l at h
    cases h with
    | nil => cases hl
    | @int _ ty _ bs zs fs' h1 h2 h3 =>
      rw [List.map_cons] at hl
      injection hl with hf hr
      have hle := h3.le
      simp only [fsF, Prod.mk.injEq] at hf
      obtain ⟨hf1, hf2, hf3⟩ := hf
      subst hf3
      subst hr
      have hu : P.underlying f.type = some (.int .i64) := T.kd_ok _ (lkT_mem h1)
      have hg := T.isAgg h2 w
      simp only at hg
      have hox : o < xs.length := by omega
      have hoy : o < ys.length := by omega
      have p1 : (part f.type (xs.map iV).toArray f.offset).run P w = .ok (iV xs[o]) w := by simp [part, hg, hf2, hox]
      have p2 : (part f.type (ys.map iV).toArray f.offset).run P w = .ok (iV ys[o]) w := by simp [part, hg, hf2, hoy]
      have hn : f.name ≠ "_" := by simpa using hf1
      have he : (Op.equalIn (d + (k + 1)) f.type (iV xs[o]) (iV ys[o])).run P w = .ok (decide (xs[o] = ys[o])) w := run_equalIn_int w (d + k) f.type .i64 .i64 _ _ hu
      have ih := run_fields T d xs ys hx hy fs (o + 1) h3 w
      simp only [Op.eqFields, hn, ne_eq, not_false_eq_true, if_true, Sem.run_bind, p1, p2, Result.andThen_ok, he, Sem.run_ite, Sem.run_pure, ih]
      rw [← dec_and (p := xs[o] = ys[o]) (q := xs.drop (o + 1) = ys.drop (o + 1)) (r := xs.drop o = ys.drop o) (by rw [List.drop_eq_getElem_cons hox, List.drop_eq_getElem_cons hoy, List.cons.injEq])]
      split <;> rfl
    | @str _ ty m _ bs zs fs' h1 h2 h3 =>
      rw [List.map_cons] at hl
      injection hl with hf hr
      have hle := h3.le
      simp only [fsF, Prod.mk.injEq] at hf
      obtain ⟨hf1, hf2, hf3⟩ := hf
      subst hf3
      subst hr
      have hg := T.isAgg h2 w
      have hs := T.sizeOf h2 w
      simp only at hg hs
      have hcut : ∀ zs : List Int, ((zs.map iV).toArray.extract o (o + m)) = (((zs.drop o).take m).map iV).toArray := fun zs => by
        apply Array.ext'
        simp [List.map_drop, List.map_take]
      have p1 : (part f.type (xs.map iV).toArray f.offset).run P w = .ok (.agg (((xs.drop o).take m).map iV).toArray) w := by simp only [part, Sem.run_bind, hg, Result.andThen_ok, if_true, hs, hf2, hcut, Sem.run_pure]
      have p2 : (part f.type (ys.map iV).toArray f.offset).run P w = .ok (.agg (((ys.drop o).take m).map iV).toArray) w := by simp only [part, Sem.run_bind, hg, Result.andThen_ok, if_true, hs, hf2, hcut, Sem.run_pure]
      have hn : f.name ≠ "_" := by simpa using hf1
      have he := h1 d ((xs.drop o).take m) ((ys.drop o).take m) (by simp; omega) (by simp; omega) w
      have ih := run_fields T d xs ys hx hy fs (o + m) h3 w
      simp only [Op.eqFields, hn, ne_eq, not_false_eq_true, if_true, Sem.run_bind, p1, p2, Result.andThen_ok, he, Sem.run_ite, Sem.run_pure, ih]
      rw [← dec_and (p := (xs.drop o).take m = (ys.drop o).take m) (q := xs.drop (o + m) = ys.drop (o + m)) (r := xs.drop o = ys.drop o) ?_]
      · split <;> rfl
      · rw [← List.drop_drop (l := xs) (i := m) (j := o), ← List.drop_drop (l := ys) (i := m) (j := o)]
        constructor
        · intro h; rw [h]; exact ⟨rfl, rfl⟩
        · rintro ⟨ha, hb⟩
          rw [← List.take_append_drop m (xs.drop o), ← List.take_append_drop m (ys.drop o), ha, hb]
theorem EqT.of {P : Program} (T : Tab P) {k t n : Nat} {l : List (Bool × Nat × Nat)} (hs : P.underlying t = some (.struct (P.fieldsOf t))) (hp : P.stoodInHeld t = false) (hl : (P.fieldsOf t).toList.map fsF = l) (h : FE T (k + 1) 0 l n) : EqT P (k + 2) t n := fun d xs ys hx hy w => by
  rw [show d + (k + 2) = (d + (k + 1)) + 1 by omega, run_equalIn_agg w _ t _ _ hs hp, run_fields T d xs ys hx hy _ 0 (by rw [hl]; exact h) w]
  simp
theorem EqT.at {P : Program} {k t n : Nat} (h : EqT P k t n) (hk : k ≤ 10000) {xs ys : List Int} (hx : xs.length = n) (hy : ys.length = n) (w : World) : (Op.equalIn 10000 t (.agg (xs.map iV).toArray) (.agg (ys.map iV).toArray)).run P w = .ok (decide (xs = ys)) w := by
  have := h (10000 - k) xs ys hx hy w
  rwa [Nat.sub_add_cancel hk] at this
section
variable {P : Program} {N : Fr} {B : Nat} {w0 : World} {E : Env} {rs : List Res} {dst : Option Tmp} {ty : TypeId} {pos : String} {aft : Array Edge} {gd : Option (Nat × Bool)} {x y : Operand} {t t' : TypeId} {k n : Nat} {xs ys : List Int}
theorem q_eqI {p : Prop} [Decidable p] (h : EqT P k t n) (hk : k ≤ 10000) (hg : P.eqGuardType P.depth t = false) (hx : ev E x = some (.agg (xs.map iV).toArray)) (hy : ev E y = some (.agg (ys.map iV).toArray)) (h1 : xs.length = n) (h2 : ys.length = n) (hp : p ↔ xs = ys) :
    Qu P N B w0 E rs ⟨dst, .binOp .eql t x y t', ty, pos, aft, gd⟩ (.bool (decide p)) :=
  q_eqlS hx hy hg fun w => by rw [h.at hk h1 h2 w, decide_eq_decide.2 hp]
theorem q_neI {p : Prop} [Decidable p] (h : EqT P k t n) (hk : k ≤ 10000) (hg : P.eqGuardType P.depth t = false) (hx : ev E x = some (.agg (xs.map iV).toArray)) (hy : ev E y = some (.agg (ys.map iV).toArray)) (h1 : xs.length = n) (h2 : ys.length = n) (hp : p ↔ xs = ys) :
    Qu P N B w0 E rs ⟨dst, .binOp .neq t x y t', ty, pos, aft, gd⟩ (.bool (decide (¬ p))) :=
  q_neqS hx hy hg (fun w => by rw [h.at hk h1 h2 w]) (by rw [← decide_not]; exact decide_eq_decide.2 (not_congr hp.symm))
theorem q_true {o : Oper} {b : Bool} (h : Qu P N B w0 E rs o (.bool b)) (hb : b = true) : Qu P N B w0 E rs o (.bool true) := hb ▸ h
theorem q_false {o : Oper} {b : Bool} (h : Qu P N B w0 E rs o (.bool b)) (hb : b = false) : Qu P N B w0 E rs o (.bool false) := hb ▸ h
end
end Go.Proofs.Ytdmnejfpbbmcaaa
namespace Go.Proofs.Ytdmnejfpbbmcaaa
open Go.RowKit
section
variable {P : Program} (T : Tab P) {N : Fr} {B : Nat} {w0 : World} {E : Env} {rs : List Res} {dst : Option Tmp} {ty : TypeId} {pos : String} {aft : Array Edge} {gd : Option (Nat × Bool)} {x y : Operand} {t t' : TypeId}
end
end Go.Proofs.Ytdmnejfpbbmcaaa
