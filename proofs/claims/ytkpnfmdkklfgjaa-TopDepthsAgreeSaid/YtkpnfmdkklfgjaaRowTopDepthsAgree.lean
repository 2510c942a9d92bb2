/-
  TopDepthsAgree: for every input the statement's function returns true, and the input reads as it did. Conditions: none.
-/
import Derived.Test.YtkpnfmdkklfgjaaLawAgree
import Derived.Test.YtkpnfmdkklfgjaaRowBase
import Derived.Test.YtkpnfmdkklfgjaaArgG
import Derived.Carry
namespace Go.Proofs.Ytkpnfmdkklfgjaa
open Go.ChangeShapes Go.WideShapes Go.ChangeAt Go.RowKit

set_option maxRecDepth 100000 in
theorem topDepthsAgree_lifted (os : Os) (started : os.Started) (H : Type) (enc : TypeId × Value → H) :
    ReturnsInHanded {} Try.checked os 4 .any (Rows.topDepthsAgreeSpec.pre6 enc Try.prog Try.f4 Rows.topDepthsAgreeRow.domain false) (Rows.topDepthsAgreeSpec.post enc Try.prog Try.f4 false true false false) := by
  refine returnsInHanded_of_change (C := Try.checked) own0 started (by kernel_rfl) Try.func4
    (ChangeSpec.witness6 (enc := enc) (C := Try.checked) false ⟨#[], #[.agg #[.int .i64 0, .int .i64 0, .int .i64 0, .int .i64 0, .int .i64 0]], []⟩ 8 (by kernel_rfl) (by kernel_rfl) (by kernel_rfl) (by kernel_rfl)) ?_
  intro W base args ds gs before hval0 hW hcnd _
  have hval : ∀ (j : Nat) t v, Try.f4.params[j]? = some t → args[j]? = some v → Value.okWide Try.prog W .any base t v := hval0
  have hW' : DataW.Whole enc Try.prog Try.f4.params.toList Rows.topDepthsAgreeSpec.vars false W args.toList ds gs before := hW
  obtain ⟨p, q, hA0, hV, rfl, hfz, hnd⟩ := hW
  have hA : DataW.TrodAll enc Try.prog W 0 (fun _ => true) true Try.f4.params.toList args.toList ds p := hA0
  rw [Try.params4] at hA hval
  obtain ⟨v0, d0, rfl, rfl, h0⟩ := trodAll_one hA
  obtain ⟨rfl, rfl⟩ := trodVars_none hV
  obtain ⟨m0, im0, hc0⟩ := opn_arg (opn_aim it42) h0
  have hv0 := struct_val fc42 (hval 0 42 v0 rfl rfl) hc0
  subst hv0
  refine (ct_shotlinetop_TopDepthsAgree m0 W (fun _ h => by cases h)).mono fun e W' ⟨v, rs', he, hb, hp, _⟩ => ?_
  obtain ⟨rfl, _⟩ := hp
  subst he
  exact ⟨_, rfl, law_post (tb := 4) laid0 hW' (by decide +kernel) rfl (by kernel_rfl) Try.underlying4 ⟨rfl, rfl, rfl⟩ hb⟩

set_option maxRecDepth 100000 in
theorem topDepthsAgree_closed : joinedFacts Try.pinned.checked.prog 4 Try.f4 Rows.topDepthsAgreeSpec Rows.topDepthsAgreeRow = true := by
  have h2 : (Rows.topDepthsAgreeRow.lifted == Try.pinned.checked.prog.liftsFinal) = true := lifted0
  have h3 : (Try.pinned.checked.prog.make == some Rows.topDepthsAgreeRow.make) = true := make0
  unfold joinedFacts
  rw [enter0, h2, h3]
  show _ = true
  kernel_rfl
theorem topDepthsAgree_holds : Rows.TopDepthsAgreeSaid :=
  OpenClaim.holds_of_wide 4 Try.f4 rfl rfl rfl rfl rfl rfl rfl ⟨rfl, rfl, rfl, rfl, rfl⟩ rfl rfl rfl rfl rfl (by kernel_rfl) Try.func4 topDepthsAgree_closed
    (of_decide_eq_true (by kernel_rfl)) (by unfold Func.isWrapper; rw [if_neg (by decide +kernel)]; exact ⟨rfl, rfl⟩)
    (fun os started H enc _ => topDepthsAgree_lifted os started H enc)
end Go.Proofs.Ytkpnfmdkklfgjaa
