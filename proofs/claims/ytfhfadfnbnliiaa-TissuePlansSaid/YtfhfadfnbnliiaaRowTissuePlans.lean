/-
  TissuePlans: for every input the statement's function returns true, and the input reads as it did. Conditions: none.
-/
import Derived.Test.YtfhfadfnbnliiaaLawPlans
import Derived.Test.YtfhfadfnbnliiaaRowBase
import Derived.Carry
namespace Go.Proofs.Ytfhfadfnbnliiaa
open Go.ChangeShapes Go.WideShapes Go.ChangeAt Go.RowKit

set_option maxRecDepth 100000 in
theorem tissuePlans_lifted (os : Os) (started : os.Started) (H : Type) (enc : TypeId × Value → H) :
    ReturnsInHanded {} Try.checked os 10 .any (Rows.tissuePlansSpec.pre6 enc Try.prog Try.f10 Rows.tissuePlansRow.domain false) (Rows.tissuePlansSpec.post enc Try.prog Try.f10 false true false false) := by
  refine returnsInHanded_of_change (C := Try.checked) own0 started (by kernel_rfl) Try.func10
    (ChangeSpec.witness6 (enc := enc) (C := Try.checked) false ⟨#[], #[.agg #[.string ⟨#[]⟩, .int .i64 0, .slice none 0 0, .slice none 0 0]], []⟩ 8 (by kernel_rfl) (by kernel_rfl) (by kernel_rfl) (by kernel_rfl)) ?_
  intro W base args ds gs before hval0 hW hcnd _
  have hval : ∀ (j : Nat) t v, Try.f10.params[j]? = some t → args[j]? = some v → Value.okWide Try.prog W .any base t v := hval0
  have hW' : DataW.Whole enc Try.prog Try.f10.params.toList Rows.tissuePlansSpec.vars false W args.toList ds gs before := hW
  obtain ⟨p, q, hA0, hV, rfl, hfz, hnd⟩ := hW
  have hA : DataW.TrodAll enc Try.prog W 0 (fun _ => true) true Try.f10.params.toList args.toList ds p := hA0
  rw [Try.params10] at hA hval
  obtain ⟨v0, d0, rfl, rfl, h0⟩ := trodAll_one hA
  obtain ⟨rfl, rfl⟩ := trodVars_none hV
  obtain ⟨nm0, sf0, w0, u0, g0, l0, hc0, hr0, hs0, iq0, ir0, im0, is0⟩ := opn_arg (opn_plan fc76 (by kernel_rfl) Try.underlying9 Try.underlying3 (opn_gss Try.underlying73 (by kernel_rfl) it25) (opn_dls Try.underlying74 (by kernel_rfl) it148)) h0
  have hv0 := struct_val fc76 (hval 0 76 v0 rfl rfl) hc0
  subst hv0
  refine (ct_shotlinelaw03_TissuePlans nm0 sf0 w0 u0 g0 l0 W (fun p hp => by
    simp only [List.mem_cons, List.not_mem_nil, or_false] at hp
    rcases hp with rfl | rfl <;> assumption)).mono fun e W' ⟨v, rs', he, hb, hp, _⟩ => ?_
  obtain ⟨rfl, _⟩ := hp
  subst he
  exact ⟨_, rfl, law_post (tb := 4) laid0 hW' (by decide +kernel) rfl (by kernel_rfl) Try.underlying4 ⟨rfl, rfl, rfl⟩ hb⟩

theorem tissuePlans_holds : Rows.TissuePlansSaid :=
  OpenClaim.holds_of_wide 10 Try.f10 rfl rfl rfl rfl rfl rfl rfl ⟨rfl, rfl, rfl, rfl, rfl⟩ rfl rfl rfl rfl rfl (by kernel_rfl) Try.func10 (by kernel_rfl)
    (of_decide_eq_true (by kernel_rfl)) (by unfold Func.isWrapper; rw [if_neg (by decide +kernel)]; exact ⟨rfl, rfl⟩)
    (fun os started H enc _ => tissuePlans_lifted os started H enc)
end Go.Proofs.Ytfhfadfnbnliiaa
