/-
  AscentChanges: for every input the statement's function returns true, and the input reads as it did. Conditions: none.
-/
import Derived.Test.YtacndicgpkeobaaGreatDoorLawChanges
import Derived.Test.YtacndicgpkeobaaGreatDoorRowBase
import Derived.Carry
namespace Go.Proofs.YtacndicgpkeobaaGreatDoor
open Go.ChangeShapes Go.WideShapes Go.ChangeAt Go.RowKit

set_option maxRecDepth 100000 in
theorem ascentChanges_lifted (os : Os) (started : os.Started) (H : Type) (enc : TypeId × Value → H) :
    ReturnsInHanded {} Tryz.checked os 3 .any (fun w args => (Rows.ascentChangesSpec.pre enc Tryz.prog Tryz.f3 [] false w args ∧ laidMetH Tryz.prog Rows.ascentChangesRow.laid w) ∧ sizedMet enc Tryz.prog Tryz.f3 (OpenSpec.ofChange Rows.ascentChangesSpec) false w args) (Rows.ascentChangesSpec.post enc Tryz.prog Tryz.f3 false true false false) := by
  refine returnsInHanded_of_change_and (C := Tryz.checked) (X := fun w _ => laidMetH Tryz.prog Rows.ascentChangesRow.laid w) (fun _ _ _ hh h => h.of_heap hh) own0 started (by kernel_rfl) Tryz.func3
    (ChangeSpec.witness_shaped (enc := enc) (C := Tryz.checked) (os := os) (X := fun w _ => laidMetH Tryz.prog Rows.ascentChangesRow.laid w) false (World.doorLaid Tryz.prog 400 os) #[.agg #[.slice none 0 0, .slice none 0 0, .int .i64 0, .int .i64 0, .slice none 0 0, .int .i64 0, .int .i64 0, .int .i64 0, .int .i64 0, .int .i64 0, .int .i64 0, .int .i64 0], .agg #[.int .i64 0, .int .i64 0], .slice none 0 0] 8 rfl (World.shaped_of_RefB (by kernel_rfl) (by kernel_rfl)) (by kernel_rfl) (by kernel_rfl) (by kernel_rfl) (door_met os _)) ?_
  intro W base args ds gs before hval0 hW _ _ hL _
  have hKW := of_laid hL
  have hval : ∀ (j : Nat) t v, Tryz.f3.params[j]? = some t → args[j]? = some v → Value.okWide Tryz.prog W .any base t v := hval0
  have hW' : DataW.Whole enc Tryz.prog Tryz.f3.params.toList Rows.ascentChangesSpec.vars false W args.toList ds gs before := hW
  obtain ⟨p, q, hA0, hV, rfl, hfz, hnd⟩ := hW
  have hA : DataW.TrodAll enc Tryz.prog W 0 (fun _ => true) true Tryz.f3.params.toList args.toList ds p := hA0
  rw [Tryz.params3] at hA hval
  obtain ⟨v0, v1, v2, d0, d1, d2, p0, p1, p2, rfl, rfl, rfl, h0, h1, h2⟩ := trodAll_three hA
  obtain ⟨rfl, rfl⟩ := trodVars_none hV
  obtain ⟨v0w, u0, w0, x0, hc0, hr0, hs0, ht0⟩ := opn_arg (opn_asc fc28 (by kernel_rfl) (opn_tab Tryz.underlying22 (by kernel_rfl) it120) (opn_lds Tryz.underlying23 (by kernel_rfl) it134) (opn_ags Tryz.underlying24 (by kernel_rfl) it112) it26 Tryz.underlying3) h0
  have hv0 := struct_val fc28 (hval 0 28 v0 rfl rfl) hc0
  subst hv0
  obtain ⟨a1, b1, ia1, hc1⟩ := opn_arg (opn_i2 it30) h1
  have hv1 := struct_val fc30 (hval 1 30 v1 rfl rfl) hc1
  subst hv1
  obtain ⟨w2, l2, hc2, hr2, iq2⟩ := opn_arg (opn_sps Tryz.underlying31 (by kernel_rfl) it30) h2
  have hv2 := slice_val Tryz.underlying31 (hval 2 31 v2 rfl rfl) hc2
  subst hv2
  refine (ct_shotlinelaw04_AscentChanges v0w u0 w0 x0 a1 b1 v2 l2 W hKW (fun p hp => by
    simp only [List.mem_cons, List.not_mem_nil, or_false] at hp
    rcases hp with rfl | rfl | rfl | rfl <;> assumption)).mono fun e W' ⟨v, rs', he, hb, hp, _⟩ => ?_
  obtain ⟨rfl, _⟩ := hp
  subst he
  exact ⟨_, rfl, law_post (tb := 4) laid0 hW' (by decide +kernel) rfl (by kernel_rfl) Tryz.underlying4 ⟨rfl, rfl, rfl⟩ hb⟩

set_option maxRecDepth 100000 in
theorem ascentChanges_closed : joinedFacts Tryz.pinned.checked.prog 3 Tryz.f3 Rows.ascentChangesSpec Rows.ascentChangesRow = true := by
  have h2 : (Rows.ascentChangesRow.lifted == Tryz.pinned.checked.prog.liftsFinal) = true := lifted0
  have h3 : (Tryz.pinned.checked.prog.make == some Rows.ascentChangesRow.make) = true := make0
  unfold joinedFacts
  rw [enter0, h2, h3]
  show _ = true
  kernel_rfl
theorem ascentChanges_holds : Rows.AscentChangesSaid :=
  OpenClaim.holds_of_wide 3 Tryz.f3 rfl rfl rfl rfl rfl rfl rfl ⟨rfl, rfl, rfl, rfl, rfl⟩ rfl rfl rfl rfl rfl (by kernel_rfl) Tryz.func3 ascentChanges_closed
    (of_decide_eq_true (by kernel_rfl)) (by unfold Func.isWrapper; rw [if_neg (by decide +kernel)]; exact ⟨rfl, rfl⟩)
    (fun os started H enc _ => ascentChanges_lifted os started H enc)
set_option maxRecDepth 100000 in
theorem ascentChanges_goes : false = Rows.ascentChangesRow.goesBy Tryz.pinned.checked.prog := by kernel_rfl
set_option maxRecDepth 100000 in
theorem ascentChanges_named : Tryz.prog.funcNamed Rows.ascentChangesRow.func = some 3 := by kernel_rfl
set_option maxRecDepth 100000 in
theorem ascentChanges_wants : ([28, 30, 31].all fun u => !Tryz.prog.wantsStandIn u) = true := by kernel_rfl
set_option maxRecDepth 100000 in
theorem ascentChanges_wf : Rows.ascentChangesRow.wfByText (OpenSpec.ofChange Rows.ascentChangesSpec) = true := by kernel_rfl
set_option maxRecDepth 100000 in
theorem ascentChangesCard_holds : Rows.AscentChangesCardSaid :=
  Claim7.holds_tied_plain_at .later [] [.data, .data, .data] true Rows.ascentChangesCard.stood.harness true
    ascentChanges_holds (fun _ h => by cases h) ascentChanges_wf (fun _ h => by cases h) ascentChanges_row_tie rfl ⟨rfl, rfl⟩ main0 rfl
    (fun f fn hf hfn => by
      obtain rfl : f = 3 := Option.some.inj (ascentChanges_named.symm.trans hf) |>.symm
      obtain rfl : fn = Tryz.f3 := (Option.some.inj (Tryz.func3.symm.trans hfn)).symm
      exact ⟨looks0, fun j t ht => by
        rw [Tryz.params3] at ht
        have hm : t ∈ [28, 30, 31] := by simpa using Array.mem_of_getElem? ht
        exact (show Tryz.prog.wantsStandIn t = false by simpa using List.all_eq_true.1 ascentChanges_wants t hm)⟩)
    ascentChanges_goes
end Go.Proofs.YtacndicgpkeobaaGreatDoor
