/-
  The calculus: arrays within elements, pointers that are not nil, whole numbers joined bit by bit. Conditions: none; no program in sight.
-/
import Derived.Test.YtkpnfmdkklfgjaaShClo
import Derived.Test.YtkpnfmdkklfgjaaShStop
namespace Go.Proofs.Ytkpnfmdkklfgjaa
open Go.RowKit
/-- the bits that both numbers have -/
def andM (m n : Int) : Int := bits .and .i64 m n
section
variable {P : Program} (T : Tab P) {N : Fr} {B : Nat} {w0 : World} {E : Env} {rs : List Res} {dst : Option Tmp} {ty : TypeId} {pos : String} {aft : Array Edge} {gd : Option (Nat × Bool)}
theorem q_and {t t' : TypeId} {x y : Operand} {m n : Int} (hx : ev E x = some (.int .i64 m)) (hy : ev E y = some (.int .i64 n)) : Qu P N B w0 E rs ⟨dst, .binOp .and t x y t', ty, pos, aft, gd⟩ (.int .i64 (andM m n)) := by
  refine q_bin hx hy fun w => ?_
  rw [binOp_and, intBits_and]
  rfl
theorem q_nilP {x : Operand} {ad : Addr} (hx : ev E x = some (.pointer (some ad))) : Qu P N B w0 E rs ⟨dst, .nilCheck x, ty, pos, aft, gd⟩ (.pointer (some ad)) := by
  intro a w hs
  have h1 := hs.eval hx
  simp [execOp, h1]
theorem q_indexPE {t e m : TypeId} {sz bs n : Nat} {ag : Bool} {zs : List Value} {x y : Operand} {v : Value} {size : Nat} {l : List (List Value)} {k : IntKind} {i : Int} (he : lkT T.el t = some (e, m, true)) (hsz : lkT T.ty e = some (ag, sz, bs, zs))
    (hx : ev E x = some (elP v n)) (hy : ev E y = some (.int k i)) (hg : GvR rs v size l) (hl : 0 < l.length) (h0 : 0 ≤ i) (h1 : i < m) : Qu P N B w0 E rs ⟨dst, .indexAddr t x y, ty, pos, aft, gd⟩ (elP v (n + i.toNat * sz)) := by
  intro a w hs
  obtain ⟨ad, _, ⟨mm, c, hv⟩, _⟩ := (hs.reads hg).some hl
  subst hv
  have ht : P.underlying t = some (.array m e) := by
    rcases T.el_ok _ (lkT_mem he) with ⟨h, _⟩ | ⟨_, h⟩
    · cases h
    · exact h
  have hsz' := T.sizeOf hsz w
  have hx' : a.eval x = .pointer (some (ad.add n)) := hs.eval hx
  have h2 : (ad.add n).add (i.toNat * sz) = ad.add (n + i.toNat * sz) := add_add ad n _
  simp [execOp, hx', hs.eval hy, Instr.indexAt, run_underlying ht, asIntOf, Instr.sureAddr, h0, h1, hsz', h2, elP]
end
end Go.Proofs.Ytkpnfmdkklfgjaa
