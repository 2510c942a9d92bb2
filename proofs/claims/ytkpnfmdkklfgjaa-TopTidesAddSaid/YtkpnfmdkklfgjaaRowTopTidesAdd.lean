/-
  TopTidesAdd: for every input the statement's function returns true, and the input reads as it did. Conditions: none.
-/
import Derived.Test.YtkpnfmdkklfgjaaLawTides
import Derived.Test.YtkpnfmdkklfgjaaRowBase
import Derived.Test.YtkpnfmdkklfgjaaArgT
import Derived.Carry
namespace Go.Proofs.Ytkpnfmdkklfgjaa
open Go.ChangeShapes Go.WideShapes Go.ChangeAt Go.RowKit

set_option maxRecDepth 100000 in
theorem topTidesAdd_lifted (os : Os) (started : os.Started) (H : Type) (enc : TypeId × Value → H) :
    ReturnsInHanded {} Try.checked os 3 .any (Rows.topTidesAddSpec.pre6 enc Try.prog Try.f3 Rows.topTidesAddRow.domain false) (Rows.topTidesAddSpec.post enc Try.prog Try.f3 false true false false) := by
  refine returnsInHanded_of_change (C := Try.checked) own0 started (by kernel_rfl) Try.func3
    (ChangeSpec.witness6 (enc := enc) (C := Try.checked) false ⟨#[], #[.agg #[.int .i64 0, .slice none 0 0], .agg #[.int .i64 0, .slice none 0 0], .int .i64 0], []⟩ 8 (by kernel_rfl) (by kernel_rfl) (by kernel_rfl) (by kernel_rfl)) ?_
  intro W base args ds gs before hval0 hW hcnd _
  have hval : ∀ (j : Nat) t v, Try.f3.params[j]? = some t → args[j]? = some v → Value.okWide Try.prog W .any base t v := hval0
  have hW' : DataW.Whole enc Try.prog Try.f3.params.toList Rows.topTidesAddSpec.vars false W args.toList ds gs before := hW
  obtain ⟨p, q, hA0, hV, rfl, hfz, hnd⟩ := hW
  have hA : DataW.TrodAll enc Try.prog W 0 (fun _ => true) true Try.f3.params.toList args.toList ds p := hA0
  rw [Try.params3] at hA hval
  obtain ⟨v0, v1, v2, d0, d1, d2, p0, p1, p2, rfl, rfl, rfl, h0, h1, h2⟩ := trodAll_three hA
  obtain ⟨rfl, rfl⟩ := trodVars_none hV
  obtain ⟨me0, v0w, l0, hc0, hr0⟩ := opn_arg (opn_td fc24 (by kernel_rfl) Try.underlying3 (opn_wvs Try.underlying22 (by kernel_rfl) it36)) h0
  have hv0 := struct_val fc24 (hval 0 24 v0 rfl rfl) hc0
  subst hv0
  obtain ⟨me1, v1w, l1, hc1, hr1⟩ := opn_arg (opn_td fc24 (by kernel_rfl) Try.underlying3 (opn_wvs Try.underlying22 (by kernel_rfl) it36)) h1
  have hv1 := struct_val fc24 (hval 1 24 v1 rfl rfl) hc1
  subst hv1
  obtain ⟨a2, ia2, hc2⟩ := opn_arg (opn_int Try.underlying3) h2
  have hv2 := int_val Try.underlying3 (hval 2 3 v2 rfl rfl) hc2
  subst hv2
  refine (ct_shotlinetop_TopTidesAdd me0 me1 v0w v1w l0 l1 a2 W (fun p hp => by
    simp only [List.mem_cons, List.not_mem_nil, or_false] at hp
    rcases hp with rfl | rfl <;> assumption)).mono fun e W' ⟨v, rs', he, hb, hp, _⟩ => ?_
  obtain ⟨rfl, _⟩ := hp
  subst he
  exact ⟨_, rfl, law_post (tb := 4) laid0 hW' (by decide +kernel) rfl (by kernel_rfl) Try.underlying4 ⟨rfl, rfl, rfl⟩ hb⟩

set_option maxRecDepth 100000 in
theorem topTidesAdd_closed : joinedFacts Try.pinned.checked.prog 3 Try.f3 Rows.topTidesAddSpec Rows.topTidesAddRow = true := by
  have h2 : (Rows.topTidesAddRow.lifted == Try.pinned.checked.prog.liftsFinal) = true := lifted0
  have h3 : (Try.pinned.checked.prog.make == some Rows.topTidesAddRow.make) = true := make0
  unfold joinedFacts
  rw [enter0, h2, h3]
  show _ = true
  kernel_rfl
theorem topTidesAdd_holds : Rows.TopTidesAddSaid :=
  OpenClaim.holds_of_wide 3 Try.f3 rfl rfl rfl rfl rfl rfl rfl ⟨rfl, rfl, rfl, rfl, rfl⟩ rfl rfl rfl rfl rfl (by kernel_rfl) Try.func3 topTidesAdd_closed
    (of_decide_eq_true (by kernel_rfl)) (by unfold Func.isWrapper; rw [if_neg (by decide +kernel)]; exact ⟨rfl, rfl⟩)
    (fun os started H enc _ => topTidesAdd_lifted os started H enc)
end Go.Proofs.Ytkpnfmdkklfgjaa
