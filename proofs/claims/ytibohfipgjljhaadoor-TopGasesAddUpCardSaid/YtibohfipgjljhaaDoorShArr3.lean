/-
  The calculus: arrays of three whole numbers, or of three pairs of them, compared. Conditions: none; no program in sight.
-/
import Derived.Test.YtibohfipgjljhaaDoorShEq
namespace Go.Proofs.YtibohfipgjljhaaDoor
open Go.RowKit
section
variable {P : Program} (T : Tab P) {N : Fr} {B : Nat} {w0 : World} {E : Env} {rs : List Res} {dst : Option Tmp} {ty : TypeId} {pos : String} {aft : Array Edge} {gd : Option (Nat × Bool)} {x y : Operand} {t t' : TypeId}
theorem eq_bools {e bs : Nat} {zs : List Value} (ha : P.underlying t = some (.array 3 e)) (he : P.underlying e = some .bool) (hz : lkT T.ty e = some (false, 1, bs, zs)) (a b c : Bool) (w : World) :
    (Op.equalIn 10000 t (.agg #[.bool a, .bool b, .bool c]) (.agg #[.bool false, .bool false, .bool false])).run P w = .ok (!(a || b || c)) w := by
  have hb : ∀ (u v : Bool) (w : World), (Op.equalIn 9999 e (.bool u) (.bool v)).run P w = .ok (u == v) w := fun u v w => run_equalIn_bool w 9998 e u v he
  have hg' := fun w => T.isAgg hz w
  have hs' := fun w => T.sizeOf hz w
  simp only at hg' hs'
  rw [show (10000 : Nat) = 9999 + 1 from rfl, Op.equalIn]
  generalize 9999 = d at *
  simp only [Sem.run_bind, run_underlying ha, Result.andThen_ok, hs']
  simp only [Std.Legacy.Range.forIn_eq_forIn_range', Std.Legacy.Range.size, Nat.sub_zero, Nat.add_sub_cancel, Nat.div_one, List.range'_succ, List.range'_zero, List.forIn_cons, List.forIn_nil]
  simp only [part, hg', Sem.run_bind, Result.andThen_ok, Bool.false_eq_true, if_false]
  cases a
  · cases b
    · cases c
      · simp [hb, hg', part]
      · simp [hb, hg', part]
    · simp [hb, hg', part]
  · simp [hb, hg', part]
theorem q_neqB {e bs : Nat} {zs : List Value} (ha : P.underlying t = some (.array 3 e)) (he : P.underlying e = some .bool) (hz : lkT T.ty e = some (false, 1, bs, zs)) {a b c : Bool} (hx : ev E x = some (.agg #[.bool a, .bool b, .bool c])) (hy : ev E y = some (.agg #[.bool false, .bool false, .bool false])) (hg : P.eqGuardType P.depth t = false) :
    Qu P N B w0 E rs ⟨dst, .binOp .neq t x y t', ty, pos, aft, gd⟩ (.bool (a || b || c)) :=
  q_neqS hx hy hg (fun w => eq_bools T ha he hz a b c w) (by simp)
/-- arrays of two whole numbers -/
theorem eqT_arr2 {e bs : Nat} {zs : List Value} (ha : P.underlying t = some (.array 2 e)) (he : P.underlying e = some (.int .i64)) (hz : lkT T.ty e = some (false, 1, bs, zs)) : EqT P 2 t 2 := by
  intro d xs ys hx hy w
  match xs, ys, hx, hy with
  | [a, b], [c, f], _, _ =>
    have hb : ∀ (u v : Int) (w : World), (Op.equalIn (d + 1) e (iV u) (iV v)).run P w = .ok (decide (u = v)) w := fun u v w => run_equalIn_int w d e .i64 .i64 _ _ he
    have hg' := fun w => T.isAgg hz w
    have hs' := fun w => T.sizeOf hz w
    simp only at hg' hs'
    rw [show d + 2 = (d + 1) + 1 from rfl, Op.equalIn]
    generalize d + 1 = q at *
    simp only [List.map_cons, List.map_nil, Sem.run_bind, run_underlying ha, Result.andThen_ok, hs']
    simp only [Std.Legacy.Range.forIn_eq_forIn_range', Std.Legacy.Range.size, Nat.sub_zero, Nat.add_sub_cancel, Nat.div_one, List.range'_succ, List.range'_zero, List.forIn_cons, List.forIn_nil]
    simp only [part, hg', Sem.run_bind, Result.andThen_ok, Bool.false_eq_true, if_false]
    by_cases h1 : a = c
    · by_cases h2 : b = f
      · simp [hb, hg', part, h1, h2]
      · simp [hb, hg', part, h1, h2]
    · simp [hb, hg', part, h1]
end
end Go.Proofs.YtibohfipgjljhaaDoor
namespace Go.Proofs.YtibohfipgjljhaaDoor
open Go.RowKit
section
variable {P : Program} (T : Tab P) {t : TypeId}
theorem eqT_arr3 {e bs : Nat} {zs : List Value} (ha : P.underlying t = some (.array 3 e)) (he : P.underlying e = some (.int .i64)) (hz : lkT T.ty e = some (false, 1, bs, zs)) : EqT P 2 t 3 := by
  intro d xs ys hx hy w
  match xs, ys, hx, hy with
  | [a, b, c], [f, g, h], _, _ =>
    have hb : ∀ (u v : Int) (w : World), (Op.equalIn (d + 1) e (iV u) (iV v)).run P w = .ok (decide (u = v)) w := fun u v w => run_equalIn_int w d e .i64 .i64 _ _ he
    have hg' := fun w => T.isAgg hz w
    have hs' := fun w => T.sizeOf hz w
    simp only at hg' hs'
    rw [show d + 2 = (d + 1) + 1 from rfl, Op.equalIn]
    generalize d + 1 = q at *
    simp only [List.map_cons, List.map_nil, Sem.run_bind, run_underlying ha, Result.andThen_ok, hs']
    simp only [Std.Legacy.Range.forIn_eq_forIn_range', Std.Legacy.Range.size, Nat.sub_zero, Nat.add_sub_cancel, Nat.div_one, List.range'_succ, List.range'_zero, List.forIn_cons, List.forIn_nil]
    simp only [part, hg', Sem.run_bind, Result.andThen_ok, Bool.false_eq_true, if_false]
    by_cases h1 : a = f
    · by_cases h2 : b = g
      · by_cases h3 : c = h
        · simp [hb, hg', part, h1, h2, h3]
        · simp [hb, hg', part, h1, h2, h3]
      · simp [hb, hg', part, h1, h2]
    · simp [hb, hg', part, h1]
theorem eqT_arr3s {e bs k : Nat} {zs : List Value} (ha : P.underlying t = some (.array 3 e)) (he : EqT P k e 2) (hz : lkT T.ty e = some (true, 2, bs, zs)) : EqT P (k + 1) t 6 := by
  intro d xs ys hx hy w
  match xs, ys, hx, hy with
  | [a0, b0, a1, b1, a2, b2], [c0, f0, c1, f1, c2, f2], _, _ =>
    have hb : ∀ (a b c f : Int) (w : World), (Op.equalIn (d + k) e (.agg #[iV a, iV b]) (.agg #[iV c, iV f])).run P w = .ok (decide (a = c ∧ b = f)) w := fun a b c f w => by
      have h9 := he d [a, b] [c, f] rfl rfl w
      simpa using h9
    have hg' := fun w => T.isAgg hz w
    have hs' := fun w => T.sizeOf hz w
    simp only at hg' hs'
    have p0 : ∀ (w : World) (a b c f g h : Int), (part e #[iV a, iV b, iV c, iV f, iV g, iV h] 0).run P w = .ok (.agg #[iV a, iV b]) w := fun w a b c f g h => by simp [part, hg', hs']
    have p1 : ∀ (w : World) (a b c f g h : Int), (part e #[iV a, iV b, iV c, iV f, iV g, iV h] 2).run P w = .ok (.agg #[iV c, iV f]) w := fun w a b c f g h => by simp [part, hg', hs']
    have p2 : ∀ (w : World) (a b c f g h : Int), (part e #[iV a, iV b, iV c, iV f, iV g, iV h] 4).run P w = .ok (.agg #[iV g, iV h]) w := fun w a b c f g h => by simp [part, hg', hs']
    rw [show d + (k + 1) = (d + k) + 1 from rfl, Op.equalIn]
    generalize d + k = q at *
    simp only [List.map_cons, List.map_nil, Sem.run_bind, run_underlying ha, Result.andThen_ok, hs']
    simp only [Std.Legacy.Range.forIn_eq_forIn_range', Std.Legacy.Range.size, Nat.sub_zero, Nat.add_sub_cancel, Nat.div_one, List.range'_succ, List.range'_zero, List.forIn_cons, List.forIn_nil]
    by_cases h1 : a0 = c0 ∧ b0 = f0
    · by_cases h2 : a1 = c1 ∧ b1 = f1
      · by_cases h3 : a2 = c2 ∧ b2 = f2
        · simp [hb, p0, p1, p2, h1, h2, h3]
        · simp [hb, p0, p1, p2, h1, h2, h3]
      · have h4 : ¬ (a1 = c1 ∧ b1 = f1 ∧ a2 = c2 ∧ b2 = f2) := fun hh => h2 ⟨hh.1, hh.2.1⟩
        simp [hb, p0, p1, p2, h1, h2, h4]
    · have h4 : ¬ (a0 = c0 ∧ b0 = f0 ∧ a1 = c1 ∧ b1 = f1 ∧ a2 = c2 ∧ b2 = f2) := fun hh => h1 ⟨hh.1, hh.2.1⟩
      simp [hb, p0, p1, p2, h1, h4]
end
end Go.Proofs.YtibohfipgjljhaaDoor
