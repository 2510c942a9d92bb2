/-
  TissueSaturates: for every input the statement's function returns true, and the input reads as it did. Conditions: none.
-/
import Derived.Test.YtfhfadfnbnliiaaLawSaturates
import Derived.Test.YtfhfadfnbnliiaaRowBase
import Derived.Carry
namespace Go.Proofs.Ytfhfadfnbnliiaa
open Go.ChangeShapes Go.WideShapes Go.ChangeAt Go.RowKit

set_option maxRecDepth 100000 in
theorem tissueSaturates_lifted (os : Os) (started : os.Started) (H : Type) (enc : TypeId × Value → H) :
    ReturnsInHanded {} Try.checked os 13 .any (Rows.tissueSaturatesSpec.pre6 enc Try.prog Try.f13 Rows.tissueSaturatesRow.domain false) (Rows.tissueSaturatesSpec.post enc Try.prog Try.f13 false true false false) := by
  refine returnsInHanded_of_change (C := Try.checked) own0 started (by kernel_rfl) Try.func13
    (ChangeSpec.witness6 (enc := enc) (C := Try.checked) false ⟨#[], #[.slice none 0 0, .slice none 0 0, .agg #[.int .i64 0, .int .i64 0]], []⟩ 8 (by kernel_rfl) (by kernel_rfl) (by kernel_rfl) (by kernel_rfl)) ?_
  intro W base args ds gs before hval0 hW hcnd _
  have hval : ∀ (j : Nat) t v, Try.f13.params[j]? = some t → args[j]? = some v → Value.okWide Try.prog W .any base t v := hval0
  have hW' : DataW.Whole enc Try.prog Try.f13.params.toList Rows.tissueSaturatesSpec.vars false W args.toList ds gs before := hW
  obtain ⟨p, q, hA0, hV, rfl, hfz, hnd⟩ := hW
  have hA : DataW.TrodAll enc Try.prog W 0 (fun _ => true) true Try.f13.params.toList args.toList ds p := hA0
  rw [Try.params13] at hA hval
  obtain ⟨v0, v1, v2, d0, d1, d2, p0, p1, p2, rfl, rfl, rfl, h0, h1, h2⟩ := trodAll_three hA
  obtain ⟨rfl, rfl⟩ := trodVars_none hV
  obtain ⟨w0, t0, hc0, hr0, iq0⟩ := opn_arg (opn_tab Try.underlying22 (by kernel_rfl) it89) h0
  have hv0 := slice_val Try.underlying22 (hval 0 22 v0 rfl rfl) hc0
  subst hv0
  obtain ⟨w1, l1, hc1, hr1, iq1⟩ := opn_arg (opn_lds Try.underlying23 (by kernel_rfl) it62) h1
  have hv1 := slice_val Try.underlying23 (hval 1 23 v1 rfl rfl) hc1
  subst hv1
  obtain ⟨g2, ig2, hc2⟩ := opn_arg (opn_gs it25) h2
  have hv2 := struct_val fc25 (hval 2 25 v2 rfl rfl) hc2
  subst hv2
  refine (ct_shotlinelaw03_TissueSaturates v0 v1 g2 t0 l1 (fun c hc => (iq1 c hc).1.1) W (fun p hp => by
    simp only [List.mem_cons, List.not_mem_nil, or_false] at hp
    rcases hp with rfl | rfl <;> assumption)).mono fun e W' ⟨v, rs', he, hb, hp, _⟩ => ?_
  obtain ⟨rfl, _⟩ := hp
  subst he
  exact ⟨_, rfl, law_post (tb := 4) laid0 hW' (by decide +kernel) rfl (by kernel_rfl) Try.underlying4 ⟨rfl, rfl, rfl⟩ hb⟩

theorem tissueSaturates_holds : Rows.TissueSaturatesSaid :=
  OpenClaim.holds_of_wide 13 Try.f13 rfl rfl rfl rfl rfl rfl rfl ⟨rfl, rfl, rfl, rfl, rfl⟩ rfl rfl rfl rfl rfl (by kernel_rfl) Try.func13 (by kernel_rfl)
    (of_decide_eq_true (by kernel_rfl)) (by unfold Func.isWrapper; rw [if_neg (by decide +kernel)]; exact ⟨rfl, rfl⟩)
    (fun os started H enc _ => tissueSaturates_lifted os started H enc)
end Go.Proofs.Ytfhfadfnbnliiaa
