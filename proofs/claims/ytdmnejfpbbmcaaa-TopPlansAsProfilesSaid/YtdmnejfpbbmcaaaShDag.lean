/-
  The calculus: regions that draw their order, where several operations that make or write memory may come up at once: each state that the orders reach is walked once. Conditions: none; no program in sight.
-/
import Derived.Test.YtdmnejfpbbmcaaaShTreeQ
namespace Go.Proofs.Ytdmnejfpbbmcaaa.Kp
open Go.RowKit
section
variable {P : Program} {ops : Array Oper} {md : Region.Mode} {N : Fr} {B : Nat} {w0 : World} {S : Nat → Prop}
theorem St_mkF {ro : List Res} {k : Nat} {K : Env → List Res → Prop} {E : Env} {rn : List Res} {o : Oper} {d : Tmp} {e size : Nat} {l : List (List Value)} (ho : ops[k]? = some o) (hd : o.dst = some d) (hg : o.guard = none) (hN : Nat.blt d N.n = true) (hq : Lo P N B w0 E (rn ++ ro) o (isSl e size l))
    (h : ∀ A c, K ((d, .slice A l.length c) :: E) (sl (.slice A l.length c) e size l :: rn)) : St P ops N B w0 ro k K E rn := St_lo ho hd hg hN (lo_form2 hq) fun u rs' ⟨A, c, hu, hr⟩ => by
  subst hu; subst hr
  exact h A c
end
end Go.Proofs.Ytdmnejfpbbmcaaa.Kp
namespace Go.Proofs.Ytdmnejfpbbmcaaa.Kp
open Go.RowKit
section
variable {P : Program} {ops : Array Oper} {md : Region.Mode} {N : Fr} {B : Nat} {w0 : World} {ι : Type} {J : ι → Env × List Res} {ro : List Res}
def G (P : Program) (ops : Array Oper) (md : Region.Mode) (N : Fr) (B : Nat) (w0 : World) {ι : Type} (J : ι → Env × List Res) (ro : List Res) (f : Nat) (listed : Array Bool) (E : Env) (rn : List Res) : Prop :=
  ∀ (S : Nat → Prop) (a : Act) (w : World), (∀ k, k < B → S k) → listed.size = ops.size → SatC N B w0 S E rn ro a w → wpAnyB P S md ops (fun a' w' => ∃ i, Sat N B w0 (J i).1 (J i).2 a' w') f listed a w
variable {f k d : Nat} {listed : Array Bool} {E : Env} {rn : List Res}
theorem C_treeOT {ι : Type} {id : Nat} {lo : List Oper} {Q : Exit → Act → World → Prop} {E : Env} {ro : List Res} {v v2 : Value} {e sz e2 sz2 g t : Nat} {l l2 : List (List Value)} {xs : List Value} (tr : Tre) (J : ι → Env × List Res) (hm : P.follows .mixedOrders = true) (hsel : Region.noSelect lo.toArray = true) (hn : tr.dep = lo.toArray.size) (hB : flowT .any lo.toArray tr (Array.replicate lo.toArray.size false) = true)
    (h : Z P lo.toArray N B w0 (fun E' rs' => ∃ i, ∀ a w, Sat N B w0 E' rs' a w → Sat N B w0 (J i).1 (J i).2 a w) ro tr E [sl v e sz l, sl v2 e2 sz2 l2, box g t xs]) (hc : ∀ i, L P lo.toArray Q N B w0 (J i).1 (J i).2 []) : C P Q N B w0 E (sl v e sz l :: sl v2 e2 sz2 l2 :: box g t xs :: ro) (.region id lo.toArray true) :=
  C_treeO (pre := [sl v e sz l, sl v2 e2 sz2 l2, box g t xs]) tr J hm hsel hn hB (by
    intro r hr
    simp only [List.mem_cons, List.not_mem_nil, or_false] at hr
    rcases hr with rfl | rfl | rfl
    · exact sl_own _ _ _ _
    · exact sl_own _ _ _ _
    · exact box_own _ _ _) h hc
end
end Go.Proofs.Ytdmnejfpbbmcaaa.Kp
