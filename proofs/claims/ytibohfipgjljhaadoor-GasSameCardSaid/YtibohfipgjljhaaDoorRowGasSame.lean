/-
  GasSame: for every input the statement's function returns true, and the input reads as it did. Conditions: none.
-/
import Derived.Test.YtibohfipgjljhaaDoorLawSame
import Derived.Test.YtibohfipgjljhaaDoorRowBase
import Derived.Carry
namespace Go.Proofs.YtibohfipgjljhaaDoor
open Go.ChangeShapes Go.WideShapes Go.ChangeAt Go.RowKit

set_option maxRecDepth 100000 in
theorem gasSame_lifted (os : Os) (started : os.Started) (H : Type) (enc : TypeId × Value → H) :
    ReturnsInHanded {} Tryd.checked os 13 .any (fun w args => (Rows.gasSameSpec.pre enc Tryd.prog Tryd.f13 [] false w args ∧ laidMetH Tryd.prog Rows.gasSameRow.laid w) ∧ sizedMet enc Tryd.prog Tryd.f13 (OpenSpec.ofChange Rows.gasSameSpec) false w args) (Rows.gasSameSpec.post enc Tryd.prog Tryd.f13 false true false false) := by
  refine returnsInHanded_of_change_and (C := Tryd.checked) (X := fun w _ => laidMetH Tryd.prog Rows.gasSameRow.laid w) (fun _ _ _ hh h => h.of_heap hh) own0 started (by kernel_rfl) Tryd.func13
    (ChangeSpec.witness_shaped (enc := enc) (C := Tryd.checked) (os := os) (X := fun w _ => laidMetH Tryd.prog Rows.gasSameRow.laid w) false (World.doorLaid Tryd.prog 400 os) #[.agg #[.int .i64 0, .int .i64 0], .int .i64 0, .int .i64 0] 8 rfl (World.shaped_of_RefB (by kernel_rfl) (by kernel_rfl)) (by kernel_rfl) (by kernel_rfl) (by kernel_rfl) (door_met os _)) ?_
  intro W base args ds gs before hval0 hW _ _ hL _
  have hKW := of_laid hL
  have hval : ∀ (j : Nat) t v, Tryd.f13.params[j]? = some t → args[j]? = some v → Value.okWide Tryd.prog W .any base t v := hval0
  have hW' : DataW.Whole enc Tryd.prog Tryd.f13.params.toList Rows.gasSameSpec.vars false W args.toList ds gs before := hW
  obtain ⟨p, q, hA0, hV, rfl, hfz, hnd⟩ := hW
  have hA : DataW.TrodAll enc Tryd.prog W 0 (fun _ => true) true Tryd.f13.params.toList args.toList ds p := hA0
  rw [Tryd.params13] at hA hval
  obtain ⟨v0, v1, v2, d0, d1, d2, p0, p1, p2, rfl, rfl, rfl, h0, h1, h2⟩ := trodAll_three hA
  obtain ⟨rfl, rfl⟩ := trodVars_none hV
  obtain ⟨g0, ig0, hc0⟩ := opn_arg (opn_gs it23) h0
  have hv0 := struct_val fc23 (hval 0 23 v0 rfl rfl) hc0
  subst hv0
  obtain ⟨a1, ia1, hc1⟩ := opn_arg (opn_int Tryd.underlying3) h1
  have hv1 := int_val Tryd.underlying3 (hval 1 3 v1 rfl rfl) hc1
  subst hv1
  obtain ⟨a2, ia2, hc2⟩ := opn_arg (opn_int Tryd.underlying3) h2
  have hv2 := int_val Tryd.underlying3 (hval 2 3 v2 rfl rfl) hc2
  subst hv2
  refine (ct_shotlinelaw01_GasSame g0 a1 a2 W hKW (fun _ h => by cases h)).mono fun e W' ⟨v, rs', he, hb, hp, _⟩ => ?_
  obtain ⟨rfl, _⟩ := hp
  subst he
  exact ⟨_, rfl, law_post (tb := 4) laid0 hW' (by decide +kernel) rfl (by kernel_rfl) Tryd.underlying4 ⟨rfl, rfl, rfl⟩ hb⟩

set_option maxRecDepth 100000 in
theorem gasSame_closed : joinedFacts Tryd.pinned.checked.prog 13 Tryd.f13 Rows.gasSameSpec Rows.gasSameRow = true := by
  have h2 : (Rows.gasSameRow.lifted == Tryd.pinned.checked.prog.liftsFinal) = true := lifted0
  have h3 : (Tryd.pinned.checked.prog.make == some Rows.gasSameRow.make) = true := make0
  unfold joinedFacts
  rw [enter0, h2, h3]
  show _ = true
  kernel_rfl
theorem gasSame_holds : Rows.GasSameSaid :=
  OpenClaim.holds_of_wide 13 Tryd.f13 rfl rfl rfl rfl rfl rfl rfl ⟨rfl, rfl, rfl, rfl, rfl⟩ rfl rfl rfl rfl rfl (by kernel_rfl) Tryd.func13 gasSame_closed
    (of_decide_eq_true (by kernel_rfl)) (by unfold Func.isWrapper; rw [if_neg (by decide +kernel)]; exact ⟨rfl, rfl⟩)
    (fun os started H enc _ => gasSame_lifted os started H enc)
set_option maxRecDepth 100000 in
theorem gasSameCard_holds : Rows.GasSameCardSaid :=
  Claim7.holds_tied_plain_at .later [] [.data, .data, .data, .sentinel, .sentinel, .mapped] true Rows.gasSameCard.stood.harness true
    gasSame_holds (fun _ h => by cases h) (by kernel_rfl) (fun _ h => by cases h) gasSame_row_tie rfl ⟨rfl, rfl⟩ (by kernel_rfl) rfl
    (fun f fn hf hfn => by
      obtain rfl : f = 13 := Option.some.inj ((show Tryd.prog.funcNamed Rows.gasSameRow.func = some 13 by kernel_rfl).symm.trans hf) |>.symm
      obtain rfl : fn = Tryd.f13 := (Option.some.inj (Tryd.func13.symm.trans hfn)).symm
      exact ⟨by kernel_rfl, fun j t ht => by
        rw [Tryd.params13] at ht
        have hm : t ∈ [23, 3, 3] := by simpa using Array.mem_of_getElem? ht
        have hall : ([23, 3, 3].all fun u => !Tryd.prog.wantsStandIn u) = true := by kernel_rfl
        exact (show Tryd.prog.wantsStandIn t = false by simpa using List.all_eq_true.1 hall t hm)⟩)
    (by kernel_rfl)
end Go.Proofs.YtibohfipgjljhaaDoor
