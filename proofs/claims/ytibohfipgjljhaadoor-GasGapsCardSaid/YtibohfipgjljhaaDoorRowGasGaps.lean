/-
  GasGaps: for every input the statement's function returns true, and the input reads as it did. Conditions: none.
-/
import Derived.Test.YtibohfipgjljhaaDoorLawGaps
import Derived.Test.YtibohfipgjljhaaDoorRowBase
import Derived.Carry
namespace Go.Proofs.YtibohfipgjljhaaDoor
open Go.ChangeShapes Go.WideShapes Go.ChangeAt Go.RowKit

set_option maxRecDepth 100000 in
theorem gasGaps_lifted (os : Os) (started : os.Started) (H : Type) (enc : TypeId × Value → H) :
    ReturnsInHanded {} Tryd.checked os 16 .any (fun w args => (Rows.gasGapsSpec.pre enc Tryd.prog Tryd.f16 [] false w args ∧ laidMetH Tryd.prog Rows.gasGapsRow.laid w) ∧ sizedMet enc Tryd.prog Tryd.f16 (OpenSpec.ofChange Rows.gasGapsSpec) false w args) (Rows.gasGapsSpec.post enc Tryd.prog Tryd.f16 false true false false) := by
  refine returnsInHanded_of_change_and (C := Tryd.checked) (X := fun w _ => laidMetH Tryd.prog Rows.gasGapsRow.laid w) (fun _ _ _ hh h => h.of_heap hh) own0 started (by kernel_rfl) Tryd.func16
    (ChangeSpec.witness_shaped (enc := enc) (C := Tryd.checked) (os := os) (X := fun w _ => laidMetH Tryd.prog Rows.gasGapsRow.laid w) false (World.doorLaid Tryd.prog 400 os) #[.slice none 0 0, .agg #[.int .i64 0, .int .i64 0, .int .i64 0, .int .i64 0, .int .i64 0], .agg #[.int .i64 0, .int .i64 0]] 8 rfl (World.shaped_of_RefB (by kernel_rfl) (by kernel_rfl)) (by kernel_rfl) (by kernel_rfl) (by kernel_rfl) (door_met os _)) ?_
  intro W base args ds gs before hval0 hW _ _ hL _
  have hKW := of_laid hL
  have hval : ∀ (j : Nat) t v, Tryd.f16.params[j]? = some t → args[j]? = some v → Value.okWide Tryd.prog W .any base t v := hval0
  have hW' : DataW.Whole enc Tryd.prog Tryd.f16.params.toList Rows.gasGapsSpec.vars false W args.toList ds gs before := hW
  obtain ⟨p, q, hA0, hV, rfl, hfz, hnd⟩ := hW
  have hA : DataW.TrodAll enc Tryd.prog W 0 (fun _ => true) true Tryd.f16.params.toList args.toList ds p := hA0
  rw [Tryd.params16] at hA hval
  obtain ⟨v0, v1, v2, d0, d1, d2, p0, p1, p2, rfl, rfl, rfl, h0, h1, h2⟩ := trodAll_three hA
  obtain ⟨rfl, rfl⟩ := trodVars_none hV
  obtain ⟨w0, l0, hc0, hr0, iq0⟩ := opn_arg (opn_gss Tryd.underlying94 (by kernel_rfl) it23) h0
  have hv0 := slice_val Tryd.underlying94 (hval 0 94 v0 rfl rfl) hc0
  subst hv0
  obtain ⟨g1, a1, b1, c1, ia1, hc1⟩ := opn_arg (opn_air it69) h1
  have hv1 := struct_val fc69 (hval 1 69 v1 rfl rfl) hc1
  subst hv1
  obtain ⟨a2, b2, ia2, hc2⟩ := opn_arg (opn_i2 it28) h2
  have hv2 := struct_val fc28 (hval 2 28 v2 rfl rfl) hc2
  subst hv2
  refine (ct_shotlinelaw01_GasGaps v0 l0 g1 a1 b1 c1 a2 b2 W hKW (fun p hp => by
    simp only [List.mem_cons, List.not_mem_nil, or_false] at hp
    subst hp
    assumption)).mono fun e W' ⟨v, rs', he, hb, hp, _⟩ => ?_
  obtain ⟨rfl, _⟩ := hp
  subst he
  exact ⟨_, rfl, law_post (tb := 4) laid0 hW' (by decide +kernel) rfl (by kernel_rfl) Tryd.underlying4 ⟨rfl, rfl, rfl⟩ hb⟩

set_option maxRecDepth 100000 in
theorem gasGaps_closed : joinedFacts Tryd.pinned.checked.prog 16 Tryd.f16 Rows.gasGapsSpec Rows.gasGapsRow = true := by
  have h2 : (Rows.gasGapsRow.lifted == Tryd.pinned.checked.prog.liftsFinal) = true := lifted0
  have h3 : (Tryd.pinned.checked.prog.make == some Rows.gasGapsRow.make) = true := make0
  unfold joinedFacts
  rw [enter0, h2, h3]
  show _ = true
  kernel_rfl
theorem gasGaps_holds : Rows.GasGapsSaid :=
  OpenClaim.holds_of_wide 16 Tryd.f16 rfl rfl rfl rfl rfl rfl rfl ⟨rfl, rfl, rfl, rfl, rfl⟩ rfl rfl rfl rfl rfl (by kernel_rfl) Tryd.func16 gasGaps_closed
    (of_decide_eq_true (by kernel_rfl)) (by unfold Func.isWrapper; rw [if_neg (by decide +kernel)]; exact ⟨rfl, rfl⟩)
    (fun os started H enc _ => gasGaps_lifted os started H enc)
set_option maxRecDepth 100000 in
theorem gasGapsCard_holds : Rows.GasGapsCardSaid :=
  Claim7.holds_tied_plain_at .later [] [.data, .data, .data, .sentinel, .sentinel, .mapped] true Rows.gasGapsCard.stood.harness true
    gasGaps_holds (fun _ h => by cases h) (by kernel_rfl) (fun _ h => by cases h) gasGaps_row_tie rfl ⟨rfl, rfl⟩ (by kernel_rfl) rfl
    (fun f fn hf hfn => by
      obtain rfl : f = 16 := Option.some.inj ((show Tryd.prog.funcNamed Rows.gasGapsRow.func = some 16 by kernel_rfl).symm.trans hf) |>.symm
      obtain rfl : fn = Tryd.f16 := (Option.some.inj (Tryd.func16.symm.trans hfn)).symm
      exact ⟨by kernel_rfl, fun j t ht => by
        rw [Tryd.params16] at ht
        have hm : t ∈ [94, 69, 28] := by simpa using Array.mem_of_getElem? ht
        have hall : ([94, 69, 28].all fun u => !Tryd.prog.wantsStandIn u) = true := by kernel_rfl
        exact (show Tryd.prog.wantsStandIn t = false by simpa using List.all_eq_true.1 hall t hm)⟩)
    (by kernel_rfl)
end Go.Proofs.YtibohfipgjljhaaDoor
