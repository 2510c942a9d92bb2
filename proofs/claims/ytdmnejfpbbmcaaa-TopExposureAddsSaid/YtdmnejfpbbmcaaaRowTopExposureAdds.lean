/-
  TopExposureAdds: for every input the statement's function returns true, and the input reads as it did. Conditions: none.
-/
import Derived.Test.YtdmnejfpbbmcaaaLawExposes
import Derived.Test.YtdmnejfpbbmcaaaRowBase
import Derived.Carry
namespace Go.Proofs.Ytdmnejfpbbmcaaa
open Go.ChangeShapes Go.WideShapes Go.ChangeAt Go.RowKit

set_option maxRecDepth 100000 in
theorem topExposureAdds_lifted (os : Os) (started : os.Started) (H : Type) (enc : TypeId × Value → H) :
    ReturnsInHanded {} Try.checked os 4 .any (Rows.topExposureAddsSpec.pre6 enc Try.prog Try.f4 Rows.topExposureAddsRow.domain false) (Rows.topExposureAddsSpec.post enc Try.prog Try.f4 false true false false) := by
  refine returnsInHanded_of_change (C := Try.checked) own0 started (by kernel_rfl) Try.func4
    (ChangeSpec.witness6 (enc := enc) (C := Try.checked) false ⟨#[], #[.agg #[.string ⟨#[]⟩, .int .i64 0, .slice none 0 0, .slice none 0 0], .agg #[.slice none 0 0, .int .i64 0, .int .i64 0, .int .i64 0, .int .i64 0, .int .i64 0, .int .i64 0, .int .i64 0, .int .i64 0], .int .i64 0], []⟩ 8 (by kernel_rfl) (by kernel_rfl) (by kernel_rfl) (by kernel_rfl)) ?_
  intro W base args ds gs before hval0 hW hcnd _
  have hval : ∀ (j : Nat) t v, Try.f4.params[j]? = some t → args[j]? = some v → Value.okWide Try.prog W .any base t v := hval0
  have hW' : DataW.Whole enc Try.prog Try.f4.params.toList Rows.topExposureAddsSpec.vars false W args.toList ds gs before := hW
  obtain ⟨p, q, hA0, hV, rfl, hfz, hnd⟩ := hW
  have hA : DataW.TrodAll enc Try.prog W 0 (fun _ => true) true Try.f4.params.toList args.toList ds p := hA0
  rw [Try.params4] at hA hval
  obtain ⟨v0, v1, v2, d0, d1, d2, p0, p1, p2, rfl, rfl, rfl, h0, h1, h2⟩ := trodAll_three hA
  obtain ⟨rfl, rfl⟩ := trodVars_none hV
  obtain ⟨nm0, sf0, w0, u0, g0, l0, hc0, hr0, hs0, iq0, ir0, im0, is0⟩ := opn_arg (opn_plan fc25 (by kernel_rfl) Try.underlying9 Try.underlying3 (opn_gss Try.underlying22 (by kernel_rfl) it80) (opn_dls Try.underlying23 (by kernel_rfl) it82)) h0
  have hv0 := struct_val fc25 (hval 0 25 v0 rfl rfl) hc0
  subst hv0
  obtain ⟨t1, r1, hc1, hr1⟩ := opn_arg (opn_ru fc53 (by kernel_rfl) (opn_ows Try.underlying49 (by kernel_rfl) it127) it51 Try.underlying3) h1
  have hv1 := struct_val fc53 (hval 1 53 v1 rfl rfl) hc1
  subst hv1
  obtain ⟨a2, ia2, hc2⟩ := opn_arg (opn_int Try.underlying3) h2
  have hv2 := int_val Try.underlying3 (hval 2 3 v2 rfl rfl) hc2
  subst hv2
  refine (ct_shotlinetop_TopExposureAdds t1 r1 nm0 sf0 w0 u0 g0 l0 a2 W (fun p hp => by
    simp only [List.mem_cons, List.not_mem_nil, or_false] at hp
    rcases hp with rfl | rfl | rfl <;> assumption)).mono fun e W' ⟨v, rs', he, hb, hp, _⟩ => ?_
  obtain ⟨rfl, _⟩ := hp
  subst he
  exact ⟨_, rfl, law_post (tb := 4) laid0 hW' (by decide +kernel) rfl (by kernel_rfl) Try.underlying4 ⟨rfl, rfl, rfl⟩ hb⟩

set_option maxRecDepth 100000 in
theorem topExposureAdds_closed : joinedFacts Try.pinned.checked.prog 4 Try.f4 Rows.topExposureAddsSpec Rows.topExposureAddsRow = true := by
  have h2 : (Rows.topExposureAddsRow.lifted == Try.pinned.checked.prog.liftsFinal) = true := lifted0
  have h3 : (Try.pinned.checked.prog.make == some Rows.topExposureAddsRow.make) = true := make0
  unfold joinedFacts
  rw [enter0, h2, h3]
  show _ = true
  kernel_rfl
theorem topExposureAdds_holds : Rows.TopExposureAddsSaid :=
  OpenClaim.holds_of_wide 4 Try.f4 rfl rfl rfl rfl rfl rfl rfl ⟨rfl, rfl, rfl, rfl, rfl⟩ rfl rfl rfl rfl rfl (by kernel_rfl) Try.func4 topExposureAdds_closed
    (of_decide_eq_true (by kernel_rfl)) (by unfold Func.isWrapper; rw [if_neg (by decide +kernel)]; exact ⟨rfl, rfl⟩)
    (fun os started H enc _ => topExposureAdds_lifted os started H enc)
end Go.Proofs.Ytdmnejfpbbmcaaa
