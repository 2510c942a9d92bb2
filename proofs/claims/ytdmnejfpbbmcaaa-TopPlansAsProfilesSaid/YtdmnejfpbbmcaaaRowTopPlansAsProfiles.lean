/-
  TopPlansAsProfiles: for every input the statement's function returns true, and the input reads as it did. Conditions: none.
-/
import Derived.Test.YtdmnejfpbbmcaaaLawProfiles
import Derived.Test.YtdmnejfpbbmcaaaRowBase
import Derived.Carry
namespace Go.Proofs.Ytdmnejfpbbmcaaa
open Go.ChangeShapes Go.WideShapes Go.ChangeAt Go.RowKit

set_option maxRecDepth 100000 in
theorem topPlansAsProfiles_lifted (os : Os) (started : os.Started) (H : Type) (enc : TypeId × Value → H) :
    ReturnsInHanded {} Try.checked os 3 .any (Rows.topPlansAsProfilesSpec.pre6 enc Try.prog Try.f3 Rows.topPlansAsProfilesRow.domain false) (Rows.topPlansAsProfilesSpec.post enc Try.prog Try.f3 false true false false) := by
  refine returnsInHanded_of_change (C := Try.checked) own0 started (by kernel_rfl) Try.func3
    (ChangeSpec.witness6 (enc := enc) (C := Try.checked) false ⟨#[], #[.agg #[.string ⟨#[]⟩, .int .i64 0, .slice none 0 0, .slice none 0 0], .int .i64 0], []⟩ 8 (by kernel_rfl) (by kernel_rfl) (by kernel_rfl) (by kernel_rfl)) ?_
  intro W base args ds gs before hval0 hW hcnd _
  have hval : ∀ (j : Nat) t v, Try.f3.params[j]? = some t → args[j]? = some v → Value.okWide Try.prog W .any base t v := hval0
  have hW' : DataW.Whole enc Try.prog Try.f3.params.toList Rows.topPlansAsProfilesSpec.vars false W args.toList ds gs before := hW
  obtain ⟨p, q, hA0, hV, rfl, hfz, hnd⟩ := hW
  have hA : DataW.TrodAll enc Try.prog W 0 (fun _ => true) true Try.f3.params.toList args.toList ds p := hA0
  rw [Try.params3] at hA hval
  obtain ⟨v0, v1, d0, d1, p0, p1, rfl, rfl, rfl, h0, h1⟩ := trodAll_two hA
  obtain ⟨rfl, rfl⟩ := trodVars_none hV
  obtain ⟨nm0, sf0, w0, u0, g0, l0, hc0, hr0, hs0, iq0, ir0, im0, is0⟩ := opn_arg (opn_plan fc25 (by kernel_rfl) Try.underlying9 Try.underlying3 (opn_gss Try.underlying22 (by kernel_rfl) it80) (opn_dls Try.underlying23 (by kernel_rfl) it82)) h0
  have hv0 := struct_val fc25 (hval 0 25 v0 rfl rfl) hc0
  subst hv0
  obtain ⟨a1, ia1, hc1⟩ := opn_arg (opn_int Try.underlying3) h1
  have hv1 := int_val Try.underlying3 (hval 1 3 v1 rfl rfl) hc1
  subst hv1
  refine (ct_shotlinetop_TopPlansAsProfiles nm0 sf0 w0 u0 g0 l0 a1 W (fun p hp => by
    simp only [List.mem_cons, List.not_mem_nil, or_false] at hp
    rcases hp with rfl | rfl <;> assumption)).mono fun e W' ⟨v, rs', he, hb, hp, _⟩ => ?_
  obtain ⟨rfl, _⟩ := hp
  subst he
  exact ⟨_, rfl, law_post (tb := 4) laid0 hW' (by decide +kernel) rfl (by kernel_rfl) Try.underlying4 ⟨rfl, rfl, rfl⟩ hb⟩

set_option maxRecDepth 100000 in
theorem topPlansAsProfiles_closed : joinedFacts Try.pinned.checked.prog 3 Try.f3 Rows.topPlansAsProfilesSpec Rows.topPlansAsProfilesRow = true := by
  have h2 : (Rows.topPlansAsProfilesRow.lifted == Try.pinned.checked.prog.liftsFinal) = true := lifted0
  have h3 : (Try.pinned.checked.prog.make == some Rows.topPlansAsProfilesRow.make) = true := make0
  unfold joinedFacts
  rw [enter0, h2, h3]
  show _ = true
  kernel_rfl
theorem topPlansAsProfiles_holds : Rows.TopPlansAsProfilesSaid :=
  OpenClaim.holds_of_wide 3 Try.f3 rfl rfl rfl rfl rfl rfl rfl ⟨rfl, rfl, rfl, rfl, rfl⟩ rfl rfl rfl rfl rfl (by kernel_rfl) Try.func3 topPlansAsProfiles_closed
    (of_decide_eq_true (by kernel_rfl)) (by unfold Func.isWrapper; rw [if_neg (by decide +kernel)]; exact ⟨rfl, rfl⟩)
    (fun os started H enc _ => topPlansAsProfiles_lifted os started H enc)
end Go.Proofs.Ytdmnejfpbbmcaaa
