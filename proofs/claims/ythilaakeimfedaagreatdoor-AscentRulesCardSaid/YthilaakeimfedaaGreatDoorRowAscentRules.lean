/-
  AscentRules: for every input the statement's function returns true, and the input reads as it did. Conditions: none.
-/
import Derived.Test.YthilaakeimfedaaGreatDoorLawRules
import Derived.Test.YthilaakeimfedaaGreatDoorRowBase
import Derived.Carry
namespace Go.Proofs.YthilaakeimfedaaGreatDoor
open Go.ChangeShapes Go.WideShapes Go.ChangeAt Go.RowKit

set_option maxRecDepth 100000 in
theorem ascentRules_lifted (os : Os) (started : os.Started) (H : Type) (enc : TypeId × Value → H) :
    ReturnsInHanded {} Tryz.checked os 5 .any (fun w args => (Rows.ascentRulesSpec.pre enc Tryz.prog Tryz.f5 [] false w args ∧ laidMetH Tryz.prog Rows.ascentRulesRow.laid w) ∧ sizedMet enc Tryz.prog Tryz.f5 (OpenSpec.ofChange Rows.ascentRulesSpec) false w args) (Rows.ascentRulesSpec.post enc Tryz.prog Tryz.f5 false true false false) := by
  refine returnsInHanded_of_change_and (C := Tryz.checked) (X := fun w _ => laidMetH Tryz.prog Rows.ascentRulesRow.laid w) (fun _ _ _ hh h => h.of_heap hh) own0 started (by kernel_rfl) Tryz.func5
    (ChangeSpec.witness_shaped (enc := enc) (C := Tryz.checked) (os := os) (X := fun w _ => laidMetH Tryz.prog Rows.ascentRulesRow.laid w) false (World.doorLaid Tryz.prog 400 os) #[.agg #[.int .i64 0, .int .i64 0, .int .i64 0, .int .i64 0, .int .i64 0, .int .i64 0, .int .i64 0], .int .i64 0, .int .i64 0] 8 rfl (World.shaped_of_RefB (by kernel_rfl) (by kernel_rfl)) (by kernel_rfl) (by kernel_rfl) (by kernel_rfl) (door_met os _)) ?_
  intro W base args ds gs before hval0 hW _ _ hL _
  have hKW := of_laid hL
  have hval : ∀ (j : Nat) t v, Tryz.f5.params[j]? = some t → args[j]? = some v → Value.okWide Tryz.prog W .any base t v := hval0
  have hW' : DataW.Whole enc Tryz.prog Tryz.f5.params.toList Rows.ascentRulesSpec.vars false W args.toList ds gs before := hW
  obtain ⟨p, q, hA0, hV, rfl, hfz, hnd⟩ := hW
  have hA : DataW.TrodAll enc Tryz.prog W 0 (fun _ => true) true Tryz.f5.params.toList args.toList ds p := hA0
  rw [Tryz.params5] at hA hval
  obtain ⟨v0, v1, v2, d0, d1, d2, p0, p1, p2, rfl, rfl, rfl, h0, h1, h2⟩ := trodAll_three hA
  obtain ⟨rfl, rfl⟩ := trodVars_none hV
  obtain ⟨r0, hc0⟩ := opn_arg (opn_rl it26) h0
  have hv0 := struct_val fc26 (hval 0 26 v0 rfl rfl) hc0
  subst hv0
  obtain ⟨a1, ia1, hc1⟩ := opn_arg (opn_int Tryz.underlying3) h1
  have hv1 := int_val Tryz.underlying3 (hval 1 3 v1 rfl rfl) hc1
  subst hv1
  obtain ⟨a2, ia2, hc2⟩ := opn_arg (opn_int Tryz.underlying3) h2
  have hv2 := int_val Tryz.underlying3 (hval 2 3 v2 rfl rfl) hc2
  subst hv2
  refine (ct_shotlinelaw04_AscentRules r0 a1 a2 W hKW (fun _ h => by cases h)).mono fun e W' ⟨v, rs', he, hb, hp, _⟩ => ?_
  obtain ⟨rfl, _⟩ := hp
  subst he
  exact ⟨_, rfl, law_post (tb := 4) laid0 hW' (by decide +kernel) rfl (by kernel_rfl) Tryz.underlying4 ⟨rfl, rfl, rfl⟩ hb⟩

set_option maxRecDepth 100000 in
theorem ascentRules_closed : joinedFacts Tryz.pinned.checked.prog 5 Tryz.f5 Rows.ascentRulesSpec Rows.ascentRulesRow = true := by
  have h2 : (Rows.ascentRulesRow.lifted == Tryz.pinned.checked.prog.liftsFinal) = true := lifted0
  have h3 : (Tryz.pinned.checked.prog.make == some Rows.ascentRulesRow.make) = true := make0
  unfold joinedFacts
  rw [enter0, h2, h3]
  show _ = true
  kernel_rfl
theorem ascentRules_holds : Rows.AscentRulesSaid :=
  OpenClaim.holds_of_wide 5 Tryz.f5 rfl rfl rfl rfl rfl rfl rfl ⟨rfl, rfl, rfl, rfl, rfl⟩ rfl rfl rfl rfl rfl (by kernel_rfl) Tryz.func5 ascentRules_closed
    (of_decide_eq_true (by kernel_rfl)) (by unfold Func.isWrapper; rw [if_neg (by decide +kernel)]; exact ⟨rfl, rfl⟩)
    (fun os started H enc _ => ascentRules_lifted os started H enc)
set_option maxRecDepth 100000 in
theorem ascentRules_goes : false = Rows.ascentRulesRow.goesBy Tryz.pinned.checked.prog := by kernel_rfl
set_option maxRecDepth 100000 in
theorem ascentRules_named : Tryz.prog.funcNamed Rows.ascentRulesRow.func = some 5 := by kernel_rfl
set_option maxRecDepth 100000 in
theorem ascentRules_wants : ([26, 3, 3].all fun u => !Tryz.prog.wantsStandIn u) = true := by kernel_rfl
set_option maxRecDepth 100000 in
theorem ascentRules_wf : Rows.ascentRulesRow.wfByText (OpenSpec.ofChange Rows.ascentRulesSpec) = true := by kernel_rfl
set_option maxRecDepth 100000 in
theorem ascentRulesCard_holds : Rows.AscentRulesCardSaid :=
  Claim7.holds_tied_plain_at .later [] [.data, .data, .data] true Rows.ascentRulesCard.stood.harness true
    ascentRules_holds (fun _ h => by cases h) ascentRules_wf (fun _ h => by cases h) ascentRules_row_tie rfl ⟨rfl, rfl⟩ main0 rfl
    (fun f fn hf hfn => by
      obtain rfl : f = 5 := Option.some.inj (ascentRules_named.symm.trans hf) |>.symm
      obtain rfl : fn = Tryz.f5 := (Option.some.inj (Tryz.func5.symm.trans hfn)).symm
      exact ⟨looks0, fun j t ht => by
        rw [Tryz.params5] at ht
        have hm : t ∈ [26, 3, 3] := by simpa using Array.mem_of_getElem? ht
        exact (show Tryz.prog.wantsStandIn t = false by simpa using List.all_eq_true.1 ascentRules_wants t hm)⟩)
    ascentRules_goes
end Go.Proofs.YthilaakeimfedaaGreatDoor
