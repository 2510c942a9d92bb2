/-
  TopRestsAndRepeats: for every input the statement's function returns true, and the input reads as it did. Conditions: none.
-/
import Derived.Test.YthilaakeimfedaaGreatDoorLawRepeats
import Derived.Test.YthilaakeimfedaaGreatDoorRowBase
import Derived.Carry
namespace Go.Proofs.YthilaakeimfedaaGreatDoor
open Go.ChangeShapes Go.WideShapes Go.ChangeAt Go.RowKit

set_option maxRecDepth 100000 in
theorem topRestsAndRepeats_lifted (os : Os) (started : os.Started) (H : Type) (enc : TypeId × Value → H) :
    ReturnsInHanded {} Tryz.checked os 17 .any (fun w args => (Rows.topRestsAndRepeatsSpec.pre enc Tryz.prog Tryz.f17 [] false w args ∧ laidMetH Tryz.prog Rows.topRestsAndRepeatsRow.laid w) ∧ sizedMet enc Tryz.prog Tryz.f17 (OpenSpec.ofChange Rows.topRestsAndRepeatsSpec) false w args) (Rows.topRestsAndRepeatsSpec.post enc Tryz.prog Tryz.f17 false true false false) := by
  refine returnsInHanded_of_change_and (C := Tryz.checked) (X := fun w _ => laidMetH Tryz.prog Rows.topRestsAndRepeatsRow.laid w) (fun _ _ _ hh h => h.of_heap hh) own0 started (by kernel_rfl) Tryz.func17
    (ChangeSpec.witness_shaped (enc := enc) (C := Tryz.checked) (os := os) (X := fun w _ => laidMetH Tryz.prog Rows.topRestsAndRepeatsRow.laid w) false (World.doorLaid Tryz.prog 400 os) #[.agg #[.slice none 0 0, .slice none 0 0, .int .i64 0, .int .i64 0, .slice none 0 0, .int .i64 0, .int .i64 0, .int .i64 0, .int .i64 0, .int .i64 0, .int .i64 0, .int .i64 0], .int .i64 0] 8 rfl (World.shaped_of_RefB (by kernel_rfl) (by kernel_rfl)) (by kernel_rfl) (by kernel_rfl) (by kernel_rfl) (door_met os _)) ?_
  intro W base args ds gs before hval0 hW _ _ hL _
  have hKW := of_laid hL
  have hval : ∀ (j : Nat) t v, Tryz.f17.params[j]? = some t → args[j]? = some v → Value.okWide Tryz.prog W .any base t v := hval0
  have hW' : DataW.Whole enc Tryz.prog Tryz.f17.params.toList Rows.topRestsAndRepeatsSpec.vars false W args.toList ds gs before := hW
  obtain ⟨p, q, hA0, hV, rfl, hfz, hnd⟩ := hW
  have hA : DataW.TrodAll enc Tryz.prog W 0 (fun _ => true) true Tryz.f17.params.toList args.toList ds p := hA0
  rw [Tryz.params17] at hA hval
  obtain ⟨v0, v1, d0, d1, p0, p1, rfl, rfl, rfl, h0, h1⟩ := trodAll_two hA
  obtain ⟨rfl, rfl⟩ := trodVars_none hV
  obtain ⟨v0w, u0, w0, x0, hc0, hr0, hs0, ht0⟩ := opn_arg (opn_asc fc28 (by kernel_rfl) (opn_tab Tryz.underlying22 (by kernel_rfl) it66) (opn_lds Tryz.underlying23 (by kernel_rfl) it139) (opn_ags Tryz.underlying24 (by kernel_rfl) it144) it26 Tryz.underlying3) h0
  have hv0 := struct_val fc28 (hval 0 28 v0 rfl rfl) hc0
  subst hv0
  obtain ⟨a1, ia1, hc1⟩ := opn_arg (opn_int Tryz.underlying3) h1
  have hv1 := int_val Tryz.underlying3 (hval 1 3 v1 rfl rfl) hc1
  subst hv1
  refine (ct_shotlinetop_TopRestsAndRepeats v0w u0 w0 x0 a1 W hKW (fun p hp => by
    simp only [List.mem_cons, List.not_mem_nil, or_false] at hp
    rcases hp with rfl | rfl | rfl <;> assumption)).mono fun e W' ⟨v, rs', he, hb, hp, _⟩ => ?_
  obtain ⟨rfl, _⟩ := hp
  subst he
  exact ⟨_, rfl, law_post (tb := 4) laid0 hW' (by decide +kernel) rfl (by kernel_rfl) Tryz.underlying4 ⟨rfl, rfl, rfl⟩ hb⟩

set_option maxRecDepth 100000 in
theorem topRestsAndRepeats_closed : joinedFacts Tryz.pinned.checked.prog 17 Tryz.f17 Rows.topRestsAndRepeatsSpec Rows.topRestsAndRepeatsRow = true := by
  have h2 : (Rows.topRestsAndRepeatsRow.lifted == Tryz.pinned.checked.prog.liftsFinal) = true := lifted0
  have h3 : (Tryz.pinned.checked.prog.make == some Rows.topRestsAndRepeatsRow.make) = true := make0
  unfold joinedFacts
  rw [enter0, h2, h3]
  show _ = true
  kernel_rfl
theorem topRestsAndRepeats_holds : Rows.TopRestsAndRepeatsSaid :=
  OpenClaim.holds_of_wide 17 Tryz.f17 rfl rfl rfl rfl rfl rfl rfl ⟨rfl, rfl, rfl, rfl, rfl⟩ rfl rfl rfl rfl rfl (by kernel_rfl) Tryz.func17 topRestsAndRepeats_closed
    (of_decide_eq_true (by kernel_rfl)) (by unfold Func.isWrapper; rw [if_neg (by decide +kernel)]; exact ⟨rfl, rfl⟩)
    (fun os started H enc _ => topRestsAndRepeats_lifted os started H enc)
set_option maxRecDepth 100000 in
theorem topRestsAndRepeats_goes : false = Rows.topRestsAndRepeatsRow.goesBy Tryz.pinned.checked.prog := by kernel_rfl
set_option maxRecDepth 100000 in
theorem topRestsAndRepeats_named : Tryz.prog.funcNamed Rows.topRestsAndRepeatsRow.func = some 17 := by kernel_rfl
set_option maxRecDepth 100000 in
theorem topRestsAndRepeats_wants : ([28, 3].all fun u => !Tryz.prog.wantsStandIn u) = true := by kernel_rfl
set_option maxRecDepth 100000 in
theorem topRestsAndRepeats_wf : Rows.topRestsAndRepeatsRow.wfByText (OpenSpec.ofChange Rows.topRestsAndRepeatsSpec) = true := by kernel_rfl
set_option maxRecDepth 100000 in
theorem topRestsAndRepeatsCard_holds : Rows.TopRestsAndRepeatsCardSaid :=
  Claim7.holds_tied_plain_at .later [] [.data, .data, .data] true Rows.topRestsAndRepeatsCard.stood.harness true
    topRestsAndRepeats_holds (fun _ h => by cases h) topRestsAndRepeats_wf (fun _ h => by cases h) topRestsAndRepeats_row_tie rfl ⟨rfl, rfl⟩ main0 rfl
    (fun f fn hf hfn => by
      obtain rfl : f = 17 := Option.some.inj (topRestsAndRepeats_named.symm.trans hf) |>.symm
      obtain rfl : fn = Tryz.f17 := (Option.some.inj (Tryz.func17.symm.trans hfn)).symm
      exact ⟨looks0, fun j t ht => by
        rw [Tryz.params17] at ht
        have hm : t ∈ [28, 3] := by simpa using Array.mem_of_getElem? ht
        exact (show Tryz.prog.wantsStandIn t = false by simpa using List.all_eq_true.1 topRestsAndRepeats_wants t hm)⟩)
    topRestsAndRepeats_goes
end Go.Proofs.YthilaakeimfedaaGreatDoor
