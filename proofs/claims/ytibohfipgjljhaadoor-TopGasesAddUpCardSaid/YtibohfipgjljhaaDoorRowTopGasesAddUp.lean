/-
  TopGasesAddUp: for every input the statement's function returns true, and the input reads as it did. Conditions: none.
-/
import Derived.Test.YtibohfipgjljhaaDoorLawAdds
import Derived.Test.YtibohfipgjljhaaDoorRowBase
import Derived.Carry
namespace Go.Proofs.YtibohfipgjljhaaDoor
open Go.ChangeShapes Go.WideShapes Go.ChangeAt Go.RowKit

set_option maxRecDepth 100000 in
theorem topGasesAddUp_lifted (os : Os) (started : os.Started) (H : Type) (enc : TypeId × Value → H) :
    ReturnsInHanded {} Tryd.checked os 17 .any (fun w args => (Rows.topGasesAddUpSpec.pre enc Tryd.prog Tryd.f17 [] false w args ∧ laidMetH Tryd.prog Rows.topGasesAddUpRow.laid w) ∧ sizedMet enc Tryd.prog Tryd.f17 (OpenSpec.ofChange Rows.topGasesAddUpSpec) false w args) (Rows.topGasesAddUpSpec.post enc Tryd.prog Tryd.f17 false true false false) := by
  refine returnsInHanded_of_change_and (C := Tryd.checked) (X := fun w _ => laidMetH Tryd.prog Rows.topGasesAddUpRow.laid w) (fun _ _ _ hh h => h.of_heap hh) own0 started (by kernel_rfl) Tryd.func17
    (ChangeSpec.witness_shaped (enc := enc) (C := Tryd.checked) (os := os) (X := fun w _ => laidMetH Tryd.prog Rows.topGasesAddUpRow.laid w) false (World.doorLaid Tryd.prog 400 os) #[.slice none 0 0, .int .i64 0] 8 rfl (World.shaped_of_RefB (by kernel_rfl) (by kernel_rfl)) (by kernel_rfl) (by kernel_rfl) (by kernel_rfl) (door_met os _)) ?_
  intro W base args ds gs before hval0 hW _ _ hL _
  have hKW := of_laidQ hL
  have hval : ∀ (j : Nat) t v, Tryd.f17.params[j]? = some t → args[j]? = some v → Value.okWide Tryd.prog W .any base t v := hval0
  have hW' : DataW.Whole enc Tryd.prog Tryd.f17.params.toList Rows.topGasesAddUpSpec.vars false W args.toList ds gs before := hW
  obtain ⟨p, q, hA0, hV, rfl, hfz, hnd⟩ := hW
  have hA : DataW.TrodAll enc Tryd.prog W 0 (fun _ => true) true Tryd.f17.params.toList args.toList ds p := hA0
  rw [Tryd.params17] at hA hval
  obtain ⟨v0, v1, d0, d1, p0, p1, rfl, rfl, rfl, h0, h1⟩ := trodAll_two hA
  obtain ⟨rfl, rfl⟩ := trodVars_none hV
  obtain ⟨w0, l0, hc0, hr0, iq0⟩ := opn_arg (opn_gps Tryd.underlying46 (by kernel_rfl) it57) h0
  have hv0 := slice_val Tryd.underlying46 (hval 0 46 v0 rfl rfl) hc0
  subst hv0
  obtain ⟨a1, ia1, hc1⟩ := opn_arg (opn_int Tryd.underlying3) h1
  have hv1 := int_val Tryd.underlying3 (hval 1 3 v1 rfl rfl) hc1
  subst hv1
  refine (ct_shotlinetop_TopGasesAddUp v0 l0 a1 W hKW (fun p hp => by
    simp only [List.mem_cons, List.not_mem_nil, or_false] at hp
    subst hp
    assumption)).mono fun e W' ⟨v, rs', he, hb, hp, _⟩ => ?_
  obtain ⟨rfl, _⟩ := hp
  subst he
  exact ⟨_, rfl, law_post (tb := 4) laid0 hW' (by decide +kernel) rfl (by kernel_rfl) Tryd.underlying4 ⟨rfl, rfl, rfl⟩ hb⟩

set_option maxRecDepth 100000 in
theorem topGasesAddUp_closed : joinedFacts Tryd.pinned.checked.prog 17 Tryd.f17 Rows.topGasesAddUpSpec Rows.topGasesAddUpRow = true := by
  have h2 : (Rows.topGasesAddUpRow.lifted == Tryd.pinned.checked.prog.liftsFinal) = true := lifted0
  have h3 : (Tryd.pinned.checked.prog.make == some Rows.topGasesAddUpRow.make) = true := make0
  unfold joinedFacts
  rw [enter0, h2, h3]
  show _ = true
  kernel_rfl
theorem topGasesAddUp_holds : Rows.TopGasesAddUpSaid :=
  OpenClaim.holds_of_wide 17 Tryd.f17 rfl rfl rfl rfl rfl rfl rfl ⟨rfl, rfl, rfl, rfl, rfl⟩ rfl rfl rfl rfl rfl (by kernel_rfl) Tryd.func17 topGasesAddUp_closed
    (of_decide_eq_true (by kernel_rfl)) (by unfold Func.isWrapper; rw [if_neg (by decide +kernel)]; exact ⟨rfl, rfl⟩)
    (fun os started H enc _ => topGasesAddUp_lifted os started H enc)
set_option maxRecDepth 100000 in
theorem topGasesAddUpCard_holds : Rows.TopGasesAddUpCardSaid :=
  Claim7.holds_tied_plain_at .later [] [.data, .data, .data, .sentinel, .sentinel, .mapped] true Rows.topGasesAddUpCard.stood.harness true
    topGasesAddUp_holds (fun _ h => by cases h) (by kernel_rfl) (fun _ h => by cases h) topGasesAddUp_row_tie rfl ⟨rfl, rfl⟩ (by kernel_rfl) rfl
    (fun f fn hf hfn => by
      obtain rfl : f = 17 := Option.some.inj ((show Tryd.prog.funcNamed Rows.topGasesAddUpRow.func = some 17 by kernel_rfl).symm.trans hf) |>.symm
      obtain rfl : fn = Tryd.f17 := (Option.some.inj (Tryd.func17.symm.trans hfn)).symm
      exact ⟨by kernel_rfl, fun j t ht => by
        rw [Tryd.params17] at ht
        have hm : t ∈ [46, 3] := by simpa using Array.mem_of_getElem? ht
        have hall : ([46, 3].all fun u => !Tryd.prog.wantsStandIn u) = true := by kernel_rfl
        exact (show Tryd.prog.wantsStandIn t = false by simpa using List.all_eq_true.1 hall t hm)⟩)
    (by kernel_rfl)
end Go.Proofs.YtibohfipgjljhaaDoor
