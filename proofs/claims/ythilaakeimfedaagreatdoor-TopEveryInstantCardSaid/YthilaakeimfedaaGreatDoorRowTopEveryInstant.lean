/-
  TopEveryInstant: for every input the statement's function returns true, and the input reads as it did. Conditions: none.
-/
import Derived.Test.YthilaakeimfedaaGreatDoorLawEvery
import Derived.Test.YthilaakeimfedaaGreatDoorRowBase
import Derived.Carry
namespace Go.Proofs.YthilaakeimfedaaGreatDoor
open Go.ChangeShapes Go.WideShapes Go.ChangeAt Go.RowKit

set_option maxRecDepth 100000 in
theorem topEveryInstant_lifted (os : Os) (started : os.Started) (H : Type) (enc : TypeId × Value → H) :
    ReturnsInHanded {} Tryz.checked os 18 .any (fun w args => (Rows.topEveryInstantSpec.pre enc Tryz.prog Tryz.f18 [] false w args ∧ laidMetH Tryz.prog Rows.topEveryInstantRow.laid w) ∧ sizedMet enc Tryz.prog Tryz.f18 (OpenSpec.ofChange Rows.topEveryInstantSpec) false w args) (Rows.topEveryInstantSpec.post enc Tryz.prog Tryz.f18 false true false false) := by
  refine returnsInHanded_of_change_and (C := Tryz.checked) (X := fun w _ => laidMetH Tryz.prog Rows.topEveryInstantRow.laid w) (fun _ _ _ hh h => h.of_heap hh) own0 started (by kernel_rfl) Tryz.func18
    (ChangeSpec.witness_shaped (enc := enc) (C := Tryz.checked) (os := os) (X := fun w _ => laidMetH Tryz.prog Rows.topEveryInstantRow.laid w) false (World.doorLaid Tryz.prog 400 os) #[.agg #[.slice none 0 0, .slice none 0 0, .int .i64 0, .int .i64 0, .slice none 0 0, .int .i64 0, .int .i64 0, .int .i64 0, .int .i64 0, .int .i64 0, .int .i64 0, .int .i64 0], .agg #[.string ⟨#[]⟩, .int .i64 0, .slice none 0 0, .slice none 0 0]] 8 rfl (World.shaped_of_RefB (by kernel_rfl) (by kernel_rfl)) (by kernel_rfl) (by kernel_rfl) (by kernel_rfl) (door_met os _)) ?_
  intro W base args ds gs before hval0 hW _ _ hL _
  have hKW := of_laid hL
  have hval : ∀ (j : Nat) t v, Tryz.f18.params[j]? = some t → args[j]? = some v → Value.okWide Tryz.prog W .any base t v := hval0
  have hW' : DataW.Whole enc Tryz.prog Tryz.f18.params.toList Rows.topEveryInstantSpec.vars false W args.toList ds gs before := hW
  obtain ⟨p, q, hA0, hV, rfl, hfz, hnd⟩ := hW
  have hA : DataW.TrodAll enc Tryz.prog W 0 (fun _ => true) true Tryz.f18.params.toList args.toList ds p := hA0
  rw [Tryz.params18] at hA hval
  obtain ⟨v0, v1, d0, d1, p0, p1, rfl, rfl, rfl, h0, h1⟩ := trodAll_two hA
  obtain ⟨rfl, rfl⟩ := trodVars_none hV
  obtain ⟨v0w, u0, w0, x0, hc0, hr0, hs0, ht0⟩ := opn_arg (opn_asc fc28 (by kernel_rfl) (opn_tab Tryz.underlying22 (by kernel_rfl) it66) (opn_lds Tryz.underlying23 (by kernel_rfl) it139) (opn_ags Tryz.underlying24 (by kernel_rfl) it144) it26 Tryz.underlying3) h0
  have hv0 := struct_val fc28 (hval 0 28 v0 rfl rfl) hc0
  subst hv0
  obtain ⟨nm1, sf1, w1, u1, g1, l1, hc1, hr1, hs1, iq1, ir1, im1, is1⟩ := opn_arg (opn_plan fc118 (by kernel_rfl) Tryz.underlying9 Tryz.underlying3 (opn_gss Tryz.underlying116 (by kernel_rfl) it53) (opn_dls Tryz.underlying71 (by kernel_rfl) it51)) h1
  have hv1 := struct_val fc118 (hval 1 118 v1 rfl rfl) hc1
  subst hv1
  refine (ct_shotlinetop_TopEveryInstant v0w u0 w0 x0 nm1 sf1 w1 u1 g1 l1 W hKW (fun p hp => by
    simp only [List.mem_cons, List.not_mem_nil, or_false] at hp
    rcases hp with rfl | rfl | rfl | rfl | rfl <;> assumption)).mono fun e W' ⟨v, rs', he, hb, hp, _⟩ => ?_
  obtain ⟨rfl, _⟩ := hp
  subst he
  exact ⟨_, rfl, law_post (tb := 4) laid0 hW' (by decide +kernel) rfl (by kernel_rfl) Tryz.underlying4 ⟨rfl, rfl, rfl⟩ hb⟩

set_option maxRecDepth 100000 in
theorem topEveryInstant_closed : joinedFacts Tryz.pinned.checked.prog 18 Tryz.f18 Rows.topEveryInstantSpec Rows.topEveryInstantRow = true := by
  have h2 : (Rows.topEveryInstantRow.lifted == Tryz.pinned.checked.prog.liftsFinal) = true := lifted0
  have h3 : (Tryz.pinned.checked.prog.make == some Rows.topEveryInstantRow.make) = true := make0
  unfold joinedFacts
  rw [enter0, h2, h3]
  show _ = true
  kernel_rfl
theorem topEveryInstant_holds : Rows.TopEveryInstantSaid :=
  OpenClaim.holds_of_wide 18 Tryz.f18 rfl rfl rfl rfl rfl rfl rfl ⟨rfl, rfl, rfl, rfl, rfl⟩ rfl rfl rfl rfl rfl (by kernel_rfl) Tryz.func18 topEveryInstant_closed
    (of_decide_eq_true (by kernel_rfl)) (by unfold Func.isWrapper; rw [if_neg (by decide +kernel)]; exact ⟨rfl, rfl⟩)
    (fun os started H enc _ => topEveryInstant_lifted os started H enc)
set_option maxRecDepth 100000 in
theorem topEveryInstant_goes : false = Rows.topEveryInstantRow.goesBy Tryz.pinned.checked.prog := by kernel_rfl
set_option maxRecDepth 100000 in
theorem topEveryInstant_named : Tryz.prog.funcNamed Rows.topEveryInstantRow.func = some 18 := by kernel_rfl
set_option maxRecDepth 100000 in
theorem topEveryInstant_wants : ([28, 118].all fun u => !Tryz.prog.wantsStandIn u) = true := by kernel_rfl
set_option maxRecDepth 100000 in
theorem topEveryInstant_wf : Rows.topEveryInstantRow.wfByText (OpenSpec.ofChange Rows.topEveryInstantSpec) = true := by kernel_rfl
set_option maxRecDepth 100000 in
theorem topEveryInstantCard_holds : Rows.TopEveryInstantCardSaid :=
  Claim7.holds_tied_plain_at .later [] [.data, .data, .data] true Rows.topEveryInstantCard.stood.harness true
    topEveryInstant_holds (fun _ h => by cases h) topEveryInstant_wf (fun _ h => by cases h) topEveryInstant_row_tie rfl ⟨rfl, rfl⟩ main0 rfl
    (fun f fn hf hfn => by
      obtain rfl : f = 18 := Option.some.inj (topEveryInstant_named.symm.trans hf) |>.symm
      obtain rfl : fn = Tryz.f18 := (Option.some.inj (Tryz.func18.symm.trans hfn)).symm
      exact ⟨looks0, fun j t ht => by
        rw [Tryz.params18] at ht
        have hm : t ∈ [28, 118] := by simpa using Array.mem_of_getElem? ht
        exact (show Tryz.prog.wantsStandIn t = false by simpa using List.all_eq_true.1 topEveryInstant_wants t hm)⟩)
    topEveryInstant_goes
end Go.Proofs.YthilaakeimfedaaGreatDoor
