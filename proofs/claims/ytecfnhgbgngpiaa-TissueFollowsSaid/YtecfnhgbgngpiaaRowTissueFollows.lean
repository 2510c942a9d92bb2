/-
  TissueFollows: for every input the statement's function returns true, and the input reads as it did. Conditions: none.
-/
import Derived.Test.YtecfnhgbgngpiaaLawFollows
import Derived.Test.YtecfnhgbgngpiaaRowBase
import Derived.Carry
namespace Go.Proofs.Ytecfnhgbgngpiaa
open Go.ChangeShapes Go.WideShapes Go.ChangeAt Go.RowKit

set_option maxRecDepth 100000 in
theorem tissueFollows_lifted (os : Os) (started : os.Started) (H : Type) (enc : TypeId × Value → H) :
    ReturnsInHanded {} Try.checked os 3 .any (Rows.tissueFollowsSpec.pre6 enc Try.prog Try.f3 Rows.tissueFollowsRow.domain false) (Rows.tissueFollowsSpec.post enc Try.prog Try.f3 false true false false) := by
  refine returnsInHanded_of_change (C := Try.checked) own0 started (by kernel_rfl) Try.func3
    (ChangeSpec.witness6 (enc := enc) (C := Try.checked) false ⟨#[], #[.agg #[.slice none 0 0, .slice none 0 0, .int .i64 0, .int .i64 0, .int .i64 0, .int .i64 0, .int .i64 0, .int .i64 0], .slice none 0 0], []⟩ 8 (by kernel_rfl) (by kernel_rfl) (by kernel_rfl) (by kernel_rfl)) ?_
  intro W base args ds gs before hval0 hW hcnd _
  have hval : ∀ (j : Nat) t v, Try.f3.params[j]? = some t → args[j]? = some v → Value.okWide Try.prog W .any base t v := hval0
  have hW' : DataW.Whole enc Try.prog Try.f3.params.toList Rows.tissueFollowsSpec.vars false W args.toList ds gs before := hW
  obtain ⟨p, q, hA0, hV, rfl, hfz, hnd⟩ := hW
  have hA : DataW.TrodAll enc Try.prog W 0 (fun _ => true) true Try.f3.params.toList args.toList ds p := hA0
  rw [Try.params3] at hA hval
  obtain ⟨v0, v1, d0, d1, p0, p1, rfl, rfl, rfl, h0, h1⟩ := trodAll_two hA
  obtain ⟨rfl, rfl⟩ := trodVars_none hV
  obtain ⟨w0, u0, x0, f0, t0, l0, hc0, hr0, hs0, iq0, ir0, ix0, if0⟩ := opn_arg (opn_dive fc29 (by kernel_rfl) (opn_tab Try.underlying22 (by kernel_rfl) it75) (opn_lds Try.underlying23 (by kernel_rfl) it56) it27 Try.underlying3) h0
  have hv0 := struct_val fc29 (hval 0 29 v0 rfl rfl) hc0
  subst hv0
  obtain ⟨w1, s1, hc1, hr1, iq1⟩ := opn_arg (opn_lgs Try.underlying30 (by kernel_rfl) it27) h1
  have hv1 := slice_val Try.underlying30 (hval 1 30 v1 rfl rfl) hc1
  subst hv1
  refine (ct_shotlinelaw03_TissueFollows w0 u0 v1 x0 f0 t0 l0 s1 W (fun p hp => by
    simp only [List.mem_cons, List.not_mem_nil, or_false] at hp
    rcases hp with rfl | rfl | rfl <;> assumption)).mono fun e W' ⟨v, rs', he, hb, hp, _⟩ => ?_
  obtain ⟨rfl, _⟩ := hp
  subst he
  exact ⟨_, rfl, law_post (tb := 4) laid0 hW' (by decide +kernel) rfl (by kernel_rfl) Try.underlying4 ⟨rfl, rfl, rfl⟩ hb⟩

set_option maxRecDepth 100000 in
theorem tissueFollows_closed : joinedFacts Try.pinned.checked.prog 3 Try.f3 Rows.tissueFollowsSpec Rows.tissueFollowsRow = true := by
  have h2 : (Rows.tissueFollowsRow.lifted == Try.pinned.checked.prog.liftsFinal) = true := lifted0
  have h3 : (Try.pinned.checked.prog.make == some Rows.tissueFollowsRow.make) = true := make0
  unfold joinedFacts
  rw [enter0, h2, h3]
  show _ = true
  kernel_rfl
theorem tissueFollows_holds : Rows.TissueFollowsSaid :=
  OpenClaim.holds_of_wide 3 Try.f3 rfl rfl rfl rfl rfl rfl rfl ⟨rfl, rfl, rfl, rfl, rfl⟩ rfl rfl rfl rfl rfl (by kernel_rfl) Try.func3 tissueFollows_closed
    (of_decide_eq_true (by kernel_rfl)) (by unfold Func.isWrapper; rw [if_neg (by decide +kernel)]; exact ⟨rfl, rfl⟩)
    (fun os started H enc _ => tissueFollows_lifted os started H enc)
end Go.Proofs.Ytecfnhgbgngpiaa
