/-
  ExposureEscapes: for every input the statement's function returns true, and the input reads as it did. Conditions: none.
-/
import Derived.Test.YtolnohjbpllmhaaLawEscapes
import Derived.Test.YtolnohjbpllmhaaRowBase
import Derived.Carry
namespace Go.Proofs.Ytolnohjbpllmhaa
open Go.ChangeShapes Go.WideShapes Go.ChangeAt Go.RowKit

set_option maxRecDepth 100000 in
theorem exposureEscapes_lifted (os : Os) (started : os.Started) (H : Type) (enc : TypeId × Value → H) :
    ReturnsInHanded {} Try.checked os 7 .any (Rows.exposureEscapesSpec.pre6 enc Try.prog Try.f7 Rows.exposureEscapesRow.domain false) (Rows.exposureEscapesSpec.post enc Try.prog Try.f7 false true false false) := by
  refine returnsInHanded_of_change (C := Try.checked) own0 started (by kernel_rfl) Try.func7
    (ChangeSpec.witness6 (enc := enc) (C := Try.checked) false ⟨#[], #[.agg #[.slice none 0 0, .int .i64 0, .int .i64 0, .int .i64 0, .int .i64 0, .int .i64 0, .int .i64 0, .int .i64 0, .int .i64 0], .int .i64 0, .int .i64 0], []⟩ 8 (by kernel_rfl) (by kernel_rfl) (by kernel_rfl) (by kernel_rfl)) ?_
  intro W base args ds gs before hval0 hW hcnd _
  have hval : ∀ (j : Nat) t v, Try.f7.params[j]? = some t → args[j]? = some v → Value.okWide Try.prog W .any base t v := hval0
  have hW' : DataW.Whole enc Try.prog Try.f7.params.toList Rows.exposureEscapesSpec.vars false W args.toList ds gs before := hW
  obtain ⟨p, q, hA0, hV, rfl, hfz, hnd⟩ := hW
  have hA : DataW.TrodAll enc Try.prog W 0 (fun _ => true) true Try.f7.params.toList args.toList ds p := hA0
  rw [Try.params7] at hA hval
  obtain ⟨v0, v1, v2, d0, d1, d2, p0, p1, p2, rfl, rfl, rfl, h0, h1, h2⟩ := trodAll_three hA
  obtain ⟨rfl, rfl⟩ := trodVars_none hV
  obtain ⟨t0, r0, hc0, hr0⟩ := opn_arg (opn_ru fc28 (by kernel_rfl) (opn_ows Try.underlying24 (by kernel_rfl) it143) it26 Try.underlying3) h0
  have hv0 := struct_val fc28 (hval 0 28 v0 rfl rfl) hc0
  subst hv0
  obtain ⟨a1, ia1, hc1⟩ := opn_arg (opn_int Try.underlying3) h1
  have hv1 := int_val Try.underlying3 (hval 1 3 v1 rfl rfl) hc1
  subst hv1
  obtain ⟨a2, ia2, hc2⟩ := opn_arg (opn_int Try.underlying3) h2
  have hv2 := int_val Try.underlying3 (hval 2 3 v2 rfl rfl) hc2
  subst hv2
  refine (ct_shotlinelaw05_ExposureEscapes t0 r0 a1 a2 W (fun p hp => by
    simp only [List.mem_cons, List.not_mem_nil, or_false] at hp
    subst hp
    assumption)).mono fun e W' ⟨v, rs', he, hb, hp, _⟩ => ?_
  obtain ⟨rfl, _⟩ := hp
  subst he
  exact ⟨_, rfl, law_post (tb := 4) laid0 hW' (by decide +kernel) rfl (by kernel_rfl) Try.underlying4 ⟨rfl, rfl, rfl⟩ hb⟩

set_option maxRecDepth 100000 in
theorem exposureEscapes_closed : joinedFacts Try.pinned.checked.prog 7 Try.f7 Rows.exposureEscapesSpec Rows.exposureEscapesRow = true := by
  have h2 : (Rows.exposureEscapesRow.lifted == Try.pinned.checked.prog.liftsFinal) = true := lifted0
  have h3 : (Try.pinned.checked.prog.make == some Rows.exposureEscapesRow.make) = true := make0
  unfold joinedFacts
  rw [enter0, h2, h3]
  show _ = true
  kernel_rfl
theorem exposureEscapes_holds : Rows.ExposureEscapesSaid :=
  OpenClaim.holds_of_wide 7 Try.f7 rfl rfl rfl rfl rfl rfl rfl ⟨rfl, rfl, rfl, rfl, rfl⟩ rfl rfl rfl rfl rfl (by kernel_rfl) Try.func7 exposureEscapes_closed
    (of_decide_eq_true (by kernel_rfl)) (by unfold Func.isWrapper; rw [if_neg (by decide +kernel)]; exact ⟨rfl, rfl⟩)
    (fun os started H enc _ => exposureEscapes_lifted os started H enc)
end Go.Proofs.Ytolnohjbpllmhaa
