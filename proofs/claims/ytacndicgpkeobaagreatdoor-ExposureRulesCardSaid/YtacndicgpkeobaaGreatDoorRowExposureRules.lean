/-
  ExposureRules: for every input the statement's function returns true, and the input reads as it did. Conditions: none.
-/
import Derived.Test.YtacndicgpkeobaaGreatDoorLawRulesU
import Derived.Test.YtacndicgpkeobaaGreatDoorRowBase
import Derived.Carry
import Derived.Lay
namespace Go.Proofs.YtacndicgpkeobaaGreatDoor
open Go.ChangeShapes Go.WideShapes Go.ChangeAt Go.RowKit

set_option maxRecDepth 100000 in
theorem exposureRules_lifted (os : Os) (started : os.Started) (H : Type) (enc : TypeId × Value → H) :
    ReturnsInHanded {} Tryz.checked os 5 .any (fun w args => (Rows.exposureRulesSpec.pre enc Tryz.prog Tryz.f5 [] false w args ∧ laidMetH Tryz.prog Rows.exposureRulesRow.laid w) ∧ sizedMet enc Tryz.prog Tryz.f5 (OpenSpec.ofChange Rows.exposureRulesSpec) false w args) (Rows.exposureRulesSpec.post enc Tryz.prog Tryz.f5 false true false false) := by
  refine returnsInHanded_of_change_and (C := Tryz.checked) (X := fun w _ => laidMetH Tryz.prog Rows.exposureRulesRow.laid w) (fun _ _ _ hh h => h.of_heap hh) own0 started (by kernel_rfl) Tryz.func5
    (ChangeSpec.witness_shaped (enc := enc) (C := Tryz.checked) (os := os) (X := fun w _ => laidMetH Tryz.prog Rows.exposureRulesRow.laid w) false (World.laidAll Tryz.prog os Rows.exposureRulesRow.laid) #[.agg #[.slice none 0 0, .int .i64 0, .int .i64 0, .int .i64 0, .int .i64 0, .int .i64 0, .int .i64 0, .int .i64 0, .int .i64 0], .string ⟨#[]⟩] 8 (World.laidAll_os _ _ _) (World.shaped_of_ZipB (by kernel_rfl) (by kernel_rfl)) (by kernel_rfl) (by kernel_rfl) (by kernel_rfl) (by rw [MakeChecks.laidMetH_plain _ _ _ (by kernel_rfl)]; exact laidMet_laidAll _ (by kernel_rfl) (by kernel_rfl))) ?_
  intro W base args ds gs before hval0 hW _ _ hL _
  have hKW := of_laid hL
  have hval : ∀ (j : Nat) t v, Tryz.f5.params[j]? = some t → args[j]? = some v → Value.okWide Tryz.prog W .any base t v := hval0
  have hW' : DataW.Whole enc Tryz.prog Tryz.f5.params.toList Rows.exposureRulesSpec.vars false W args.toList ds gs before := hW
  obtain ⟨p, q, hA0, hV, rfl, hfz, hnd⟩ := hW
  have hA : DataW.TrodAll enc Tryz.prog W 0 (fun _ => true) true Tryz.f5.params.toList args.toList ds p := hA0
  rw [Tryz.params5] at hA hval
  obtain ⟨v0, v1, d0, d1, p0, p1, rfl, rfl, rfl, h0, h1⟩ := trodAll_two hA
  obtain ⟨rfl, rfl⟩ := trodVars_none hV
  obtain ⟨t0, r0, hc0, hr0⟩ := opn_arg (opn_ru fc65 (by kernel_rfl) (opn_ows Tryz.underlying61 (by kernel_rfl) it175) it63 Tryz.underlying3) h0
  have hv0 := struct_val fc65 (hval 0 65 v0 rfl rfl) hc0
  subst hv0
  obtain ⟨s1, is1, hc1⟩ := opn_arg (opn_str Tryz.underlying9) h1
  have hv1 := str_val Tryz.underlying9 (hval 1 9 v1 rfl rfl) hc1
  subst hv1
  refine (ct_shotlinelaw05_ExposureRules t0 r0 s1.data.toList W hKW (fun p hp => by
    simp only [List.mem_cons, List.not_mem_nil, or_false] at hp
    subst hp
    assumption)).mono fun e W' ⟨v, rs', he, hb, hp, _⟩ => ?_
  obtain ⟨rfl, _⟩ := hp
  subst he
  exact ⟨_, rfl, law_post (tb := 4) laid0 hW' (by decide +kernel) rfl (by kernel_rfl) Tryz.underlying4 ⟨rfl, rfl, rfl⟩ hb⟩

set_option maxRecDepth 100000 in
theorem exposureRules_closed : joinedFacts Tryz.pinned.checked.prog 5 Tryz.f5 Rows.exposureRulesSpec Rows.exposureRulesRow = true := by
  have h2 : (Rows.exposureRulesRow.lifted == Tryz.pinned.checked.prog.liftsFinal) = true := lifted0
  have h3 : (Tryz.pinned.checked.prog.make == some Rows.exposureRulesRow.make) = true := make0
  unfold joinedFacts
  rw [enter0, h2, h3]
  show _ = true
  kernel_rfl
theorem exposureRules_holds : Rows.ExposureRulesSaid :=
  OpenClaim.holds_of_wide 5 Tryz.f5 rfl rfl rfl rfl rfl rfl rfl ⟨rfl, rfl, rfl, rfl, rfl⟩ rfl rfl rfl rfl rfl (by kernel_rfl) Tryz.func5 exposureRules_closed
    (of_decide_eq_true (by kernel_rfl)) (by unfold Func.isWrapper; rw [if_neg (by decide +kernel)]; exact ⟨rfl, rfl⟩)
    (fun os started H enc _ => exposureRules_lifted os started H enc)
set_option maxRecDepth 100000 in
theorem exposureRules_goes : false = Rows.exposureRulesRow.goesBy Tryz.pinned.checked.prog := by kernel_rfl
set_option maxRecDepth 100000 in
theorem exposureRules_named : Tryz.prog.funcNamed Rows.exposureRulesRow.func = some 5 := by kernel_rfl
set_option maxRecDepth 100000 in
theorem exposureRules_wants : ([65, 9].all fun u => !Tryz.prog.wantsStandIn u) = true := by kernel_rfl
set_option maxRecDepth 100000 in
theorem exposureRules_wf : Rows.exposureRulesRow.wfByText (OpenSpec.ofChange Rows.exposureRulesSpec) = true := by kernel_rfl
set_option maxRecDepth 100000 in
theorem exposureRulesCard_holds : Rows.ExposureRulesCardSaid :=
  Claim7.holds_tied_plain_at .later [] [.data, .data, .data, .data, .sentinel, .sentinel, .pinned] true Rows.exposureRulesCard.stood.harness true
    exposureRules_holds (fun _ h => by cases h) exposureRules_wf (fun _ h => by cases h) exposureRules_row_tie rfl ⟨rfl, rfl⟩ main0 rfl
    (fun f fn hf hfn => by
      obtain rfl : f = 5 := Option.some.inj (exposureRules_named.symm.trans hf) |>.symm
      obtain rfl : fn = Tryz.f5 := (Option.some.inj (Tryz.func5.symm.trans hfn)).symm
      exact ⟨looks0, fun j t ht => by
        rw [Tryz.params5] at ht
        have hm : t ∈ [65, 9] := by simpa using Array.mem_of_getElem? ht
        exact (show Tryz.prog.wantsStandIn t = false by simpa using List.all_eq_true.1 exposureRules_wants t hm)⟩)
    exposureRules_goes
end Go.Proofs.YtacndicgpkeobaaGreatDoor
