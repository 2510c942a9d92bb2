/-
  The calculus: a slice of a slice with both ends. Conditions: none; no program in sight.
-/
import Derived.Test.YtdmnejfpbbmcaaaArgP
import Derived.Laws.CopyRow
import Derived.Test.YtdmnejfpbbmcaaaXB
import Derived.Test.YtdmnejfpbbmcaaaXp4
import Derived.Test.YtdmnejfpbbmcaaaXp6
import Derived.Test.YtdmnejfpbbmcaaaShEq
import Derived.Test.YtdmnejfpbbmcaaaShStop
namespace Go.Proofs.Ytdmnejfpbbmcaaa
open Go.RowKit

theorem flat_take : ∀ (l : List (List Value)) (size k : Nat), (∀ x ∈ l, x.length = size) → (l.take k).flatten = l.flatten.take (k * size)
  | [], _, _, _ => by simp
  | x :: t, size, 0, _ => by simp
  | x :: t, size, k + 1, he => by
    have hx := he x List.mem_cons_self
    rw [List.take_succ_cons, List.flatten_cons, List.flatten_cons, flat_take t size k (fun y hy => he y (List.mem_cons_of_mem _ hy)), Nat.succ_mul, Nat.add_comm, ← hx, List.take_length_add_append]
theorem take_at {l : List Value} {n j : Nat} {u : Value} (h : (l.take n)[j]? = some u) : l[j]? = some u := by
  rw [List.getElem?_take] at h
  split at h
  · exact h
  · cases h
def takeV (v : Value) (k : Nat) : Value := match v with
  | .slice a _ c => .slice (if c = 0 then a else a.map (·.add 0)) k c
  | u => u
theorem add_zero (a : Addr) : a.add 0 = a := by unfold Addr.add; simp
theorem take_rdd {w : World} {v : Value} {size k : Nat} {l : List (List Value)} (h : Rdd w v size l) (hk : k ≤ l.length) : Rdd w (takeV v k) size (l.take k) := by
  obtain ⟨A, cap, hv, hc1, hc2⟩ := h.form
  have e : takeV v k = .slice A k cap := by
    rw [hv]
    unfold takeV
    by_cases hc : cap = 0
    · simp [hc]
    · simp only [hc, if_false]
      cases A with
      | none => rfl
      | some a => simp [add_zero]
  rw [e]
  refine ⟨⟨A, cap, by rw [List.length_take, Nat.min_eq_left hk], by rw [List.length_take]; omega, hc2⟩, fun x hx => h.each x (List.mem_of_mem_take hx), fun h0 => ?_⟩
  rw [List.length_take] at h0
  obtain ⟨ad, h1, ⟨n, c, h2⟩, h3, h4⟩ := h.some (by omega)
  rw [hv] at h2
  injection h2 with hA hn hc
  subst hA
  refine ⟨ad, rfl, ⟨k, cap, rfl⟩, h3, fun j u hj => ?_⟩
  rw [flat_take l size k h.each] at hj
  exact h4 _ _ (take_at hj)
theorem gvt {rs : List Res} {v : Value} {size k : Nat} {l : List (List Value)} (h : GvR rs v size l) (hk : k ≤ l.length) : GvR rs (takeV v k) size (l.take k) := by
  obtain ⟨r, hr, hg⟩ := h
  exact ⟨r, hr, fun B w ho => take_rdd (hg B w ho) hk⟩
section
variable {P : Program} (T : Tab P) {Q : Exit → Act → World → Prop} {ops : Array Oper} {N : Fr} {B : Nat} {w0 : World} {E : Env} {rs : List Res} {rest : List Oper} {dst : Option Tmp} {ty : TypeId} {pos : String} {aft : Array Edge} {gd : Option (Nat × Bool)}
def CpTo (v : Value) (sz k : Nat) (d : Value) : Prop := (d = v ∧ k = 0) ∨ d = dropV v k sz
theorem CpTo.from {v : Value} {sz k : Nat} : CpTo v sz k (dropV v k sz) := .inr rfl
end
end Go.Proofs.Ytdmnejfpbbmcaaa
namespace Go.Proofs.Ytdmnejfpbbmcaaa
set_option maxRecDepth 100000
set_option maxHeartbeats 4000000
open Go.RowKit

end Go.Proofs.Ytdmnejfpbbmcaaa
namespace Go.Proofs.Ytdmnejfpbbmcaaa
set_option maxRecDepth 100000
set_option maxHeartbeats 4000000
open Go.RowKit

end Go.Proofs.Ytdmnejfpbbmcaaa
namespace Go.Proofs.Ytdmnejfpbbmcaaa
set_option maxRecDepth 100000
set_option maxHeartbeats 4000000
open Go.RowKit

end Go.Proofs.Ytdmnejfpbbmcaaa
namespace Go.Proofs.Ytdmnejfpbbmcaaa
set_option maxRecDepth 100000
set_option maxHeartbeats 4000000
open Go.RowKit

end Go.Proofs.Ytdmnejfpbbmcaaa
namespace Go.Proofs.Ytdmnejfpbbmcaaa
end Go.Proofs.Ytdmnejfpbbmcaaa
namespace Go.Proofs.Ytdmnejfpbbmcaaa
set_option maxRecDepth 100000
set_option maxHeartbeats 4000000
open Go.RowKit

end Go.Proofs.Ytdmnejfpbbmcaaa
namespace Go.Proofs.Ytdmnejfpbbmcaaa
def cSw (x : Int × Int) : List Value := [.int .i64 x.1, .int .i64 x.2]
theorem pt_cells (ls : List Dl) (k : Nat) : (ptsK ls k).map cSw ++ [cSw (secAt ls (k + 1), depAt ls (k + 1))] = (ptsK ls (k + 1)).map cSw := by rw [ptsK_succ, List.map_append]; rfl
theorem pt_cell {ls : List Dl} {k i : Nat} (h : i ≤ k) : ((ptsK ls k).map cSw)[i]? = some (cSw (secAt ls i, depAt ls i)) := map_get cSw (ptsK_get h)
end Go.Proofs.Ytdmnejfpbbmcaaa
namespace Go.Proofs.Ytdmnejfpbbmcaaa
open Go.RowKit
section
variable {P : Program} (T : Tab P) {N : Fr} {B : Nat} {w0 : World} {E : Env} {rs : List Res} {dst : Option Tmp} {ty : TypeId} {pos : String} {aft : Array Edge} {gd : Option (Nat × Bool)} {x y : Operand} {t t' : TypeId}
end
end Go.Proofs.Ytdmnejfpbbmcaaa
namespace Go.Proofs.Ytdmnejfpbbmcaaa
set_option maxRecDepth 100000
set_option maxHeartbeats 4000000
open Go.RowKit

end Go.Proofs.Ytdmnejfpbbmcaaa
namespace Go.Proofs.Ytdmnejfpbbmcaaa
set_option maxRecDepth 100000
set_option maxHeartbeats 4000000
open Go.RowKit

end Go.Proofs.Ytdmnejfpbbmcaaa
namespace Go.Proofs.Ytdmnejfpbbmcaaa
open Go.RowKit
section
variable {P : Program} (T : Tab P) {N : Fr} {B : Nat} {w0 : World} {E : Env} {rs : List Res} {dst : Option Tmp} {ty : TypeId} {pos : String} {aft : Array Edge} {gd : Option (Nat × Bool)}
theorem q_mid {t e m : TypeId} {ag : Bool} {sz bs : Nat} {zs : List Value} {x y z : Operand} {v : Value} {l : List (List Value)} {kd kd' : IntKind} {i j : Int} (he : lkT T.el t = some (e, m, false)) (ht : lkT T.ty e = some (ag, sz, bs, zs)) (hx : ev E x = some v) (hy : ev E y = some (.int kd i)) (hz : ev E z = some (.int kd' j)) (hg : GvR rs v sz l) (h0 : 0 ≤ i) (h1 : i ≤ j) (h2 : j ≤ l.length) :
    Qu P N B w0 E rs ⟨dst, .slice t x (some y) (some z) none, ty, pos, aft, gd⟩ (dropV (takeV v j.toNat) i.toNat sz) := by
  intro a w hs
  obtain ⟨A, cap, hv, hc1, hc2⟩ := (hs.reads hg).form
  have hu : P.underlying t = some (.slice e) := by
    rcases T.el_ok _ (lkT_mem he) with ⟨_, h⟩ | ⟨h, _⟩
    · exact h
    · cases h
  have he' : P.elem t = e := by simp [Program.elem, hu]
  have hu' : P.underlying t = some (.slice (P.elem t)) := by rw [he']; exact hu
  have h3 := T.sizeOf ht w
  simp only at h3
  have hr := run_slice_lh (P := P) w t A l.length cap hu' kd kd' i j h0 h1 (by omega)
  rw [he', h3] at hr
  have e2 : sliced A i.toNat j.toNat cap sz = dropV (takeV v j.toNat) i.toNat sz := by
    rw [hv]
    unfold takeV dropV
    dsimp only
    have : (if cap = 0 then A else A.map (·.add 0)) = A := by
      by_cases hc : cap = 0
      · rw [if_pos hc]
      · rw [if_neg hc]
        cases A with
        | none => rfl
        | some a => simp [add_zero]
    rw [this]
  simp only [execOp, hs.eval hx, Option.map_some, Option.map_none, hs.eval hy, hs.eval hz, hv, Sem.run_bind, run_sliceAt_slice (P := P) w t _ _ _ _ hu', hr, Result.andThen_ok, Sem.run_pure]
  rw [e2, hv]
end
end Go.Proofs.Ytdmnejfpbbmcaaa
