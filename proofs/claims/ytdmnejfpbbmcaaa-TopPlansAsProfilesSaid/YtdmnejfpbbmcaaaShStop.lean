/-
  The calculus: a range over a function out of which a round may return. Conditions: none; no program in sight.
-/
import Derived.Test.YtdmnejfpbbmcaaaShClo
namespace Go.Proofs.Ytdmnejfpbbmcaaa
open Go.RowKit

def rb (r : Loop) : Bool → Loop
  | true => r
  | false => { r with state := .done, pending := some .ret }
section
variable {P : Program} {N : Fr} {B : Nat} {w0 : World} {E : Env} {rs RC RC' : List Res} {Q : Exit → Act → World → Prop} {ops : Array Oper} {rest : List Oper}
def Rnd2 (P : Program) (B : Nat) (w0 : World) (l : Nat) (r : Loop) (b : Bool) (args : List Value) (K RC RC' : List Res) : Prop :=
  ∀ own w, (∀ k ∈ K, k ∈ own ∧ k.own = false) → WS B w0 (own ++ (lp l r :: RC)) w →
    RoundIn (fc none) 0 P l r.fn ((r.params.zip args.toArray).foldl (fun tmps (x : Tmp × Value) => tmps.setIfInBounds x.1 x.2) r.tmps) r.assign r.body w (fun e w' => e = .returned (.bool b) ∧ WS B w0 (own ++ (lp l (rb r b) :: RC')) w')

/-! ### The caller's side of a round -/
def RQ2 (B : Nat) (w0 : World) (own : List Res) (l : Nat) (r : Loop) (b : Bool) (RC' : List Res) (e : Ending) (w' : World) : Prop := e = .returned (.bool b) ∧ WS B w0 (own ++ (lp l (rb r b) :: RC')) w'
variable {fn : FuncId} {tmps : Array Value} {p D l : Nat} {assign body : Code} {n : Nat}
theorem Rnd2.of {x : Value} {b : Bool} {K : List Res} (htm : tmps.size = n) (hp : Nat.blt p n = true) (hE : ∀ i v, lk E i = some v → tmps.getD i undef = v)
    (h : ∀ own, C P (asQ P l (RQ2 B w0 own l (lrec fn tmps p assign body D) b RC') body) ⟨n, [], some l⟩ B w0 ((p, x) :: E) (lp l (lrec fn tmps p assign body D) :: (K ++ (RC ++ own))) assign) :
    Rnd2 P B w0 l (lrec fn tmps p assign body D) b [x] K RC RC' := by
  intro own w hK hw
  refine roundIn_of_wpIn trivial ?_
  have hp' : p < tmps.size := by rw [htm]; exact blt_lt hp
  refine h own _ w ⟨?_, by simp [htm], rfl, fun i v hv => ?_⟩
  · have h1 := hw.dups (K := K) (fun k hk => ⟨List.mem_append_left _ (hK k hk).1, (hK k hk).2⟩)
    refine h1.perm ?_
    have e1 : (lp l (lrec fn tmps p assign body D) :: (K ++ (RC ++ own))).Perm (K ++ (lp l (lrec fn tmps p assign body D) :: (RC ++ own))) := perm_front
    refine e1.trans (List.Perm.append_left K ?_)
    have e2 : (own ++ (lp l (lrec fn tmps p assign body D) :: RC)).Perm ((lp l (lrec fn tmps p assign body D) :: RC) ++ own) := List.perm_append_comm
    exact e2.symm
  · rw [lk_cons] at hv
    by_cases hi : i = p
    · rw [if_pos hi] at hv
      injection hv with hv
      subst hv; subst hi
      simp [hp']
    · rw [if_neg hi] at hv
      have := hE i v hv
      simpa [Array.getElem?_setIfInBounds_ne (Ne.symm hi)] using this
/-! ### Rounds with numbers -/
/-! ### The statement -/
/-! ### Results that lie in cells -/
end
end Go.Proofs.Ytdmnejfpbbmcaaa
