/-
  TopRefinedMeets: for every input the statement's function returns true, and the input reads as it did. Conditions: none.
-/
import Derived.Test.YtfhfadfnbnliiaaLawRefined
import Derived.Test.YtfhfadfnbnliiaaRowBase
import Derived.Carry
namespace Go.Proofs.Ytfhfadfnbnliiaa
open Go.ChangeShapes Go.WideShapes Go.ChangeAt Go.RowKit

set_option maxRecDepth 100000 in
theorem topRefinedMeets_lifted (os : Os) (started : os.Started) (H : Type) (enc : TypeId × Value → H) :
    ReturnsInHanded {} Try.checked os 18 .any (Rows.topRefinedMeetsSpec.pre6 enc Try.prog Try.f18 Rows.topRefinedMeetsRow.domain false) (Rows.topRefinedMeetsSpec.post enc Try.prog Try.f18 false true false false) := by
  refine returnsInHanded_of_change (C := Try.checked) own0 started (by kernel_rfl) Try.func18
    (ChangeSpec.witness6 (enc := enc) (C := Try.checked) false ⟨#[], #[.agg #[.slice none 0 0, .slice none 0 0, .int .i64 0, .int .i64 0, .int .i64 0, .int .i64 0, .int .i64 0, .int .i64 0], .agg #[.int .i64 0, .int .i64 0, .int .i64 0], .int .i64 0], []⟩ 8 (by kernel_rfl) (by kernel_rfl) (by kernel_rfl) (by kernel_rfl)) ?_
  intro W base args ds gs before hval0 hW hcnd _
  have hval : ∀ (j : Nat) t v, Try.f18.params[j]? = some t → args[j]? = some v → Value.okWide Try.prog W .any base t v := hval0
  have hW' : DataW.Whole enc Try.prog Try.f18.params.toList Rows.topRefinedMeetsSpec.vars false W args.toList ds gs before := hW
  obtain ⟨p, q, hA0, hV, rfl, hfz, hnd⟩ := hW
  have hA : DataW.TrodAll enc Try.prog W 0 (fun _ => true) true Try.f18.params.toList args.toList ds p := hA0
  rw [Try.params18] at hA hval
  obtain ⟨v0, v1, v2, d0, d1, d2, p0, p1, p2, rfl, rfl, rfl, h0, h1, h2⟩ := trodAll_three hA
  obtain ⟨rfl, rfl⟩ := trodVars_none hV
  obtain ⟨w0, u0, x0, f0, t0, l0, hc0, hr0, hs0, iq0, ir0, ix0, if0⟩ := opn_arg (opn_dive fc101 (by kernel_rfl) (opn_tab Try.underlying22 (by kernel_rfl) it89) (opn_lds Try.underlying23 (by kernel_rfl) it62) it27 Try.underlying3) h0
  have hv0 := struct_val fc101 (hval 0 101 v0 rfl rfl) hc0
  subst hv0
  obtain ⟨a1, b1, c1, ia1, hc1⟩ := opn_arg (opn_i3 (it_arr Try.underlying52 (by kernel_rfl) (by kernel_rfl) rfl (it_int Try.underlying3))) h1
  have hv1 := arr_val Try.underlying52 (hval 1 52 v1 rfl rfl) hc1
  subst hv1
  obtain ⟨a2, ia2, hc2⟩ := opn_arg (opn_int Try.underlying3) h2
  have hv2 := int_val Try.underlying3 (hval 2 3 v2 rfl rfl) hc2
  subst hv2
  refine (ct_shotlinetop_TopRefinedMeets w0 u0 x0 f0 t0 l0 a1 b1 c1 a2 W (fun p hp => by
    simp only [List.mem_cons, List.not_mem_nil, or_false] at hp
    rcases hp with rfl | rfl <;> assumption)).mono fun e W' ⟨v, rs', he, hb, hp, _⟩ => ?_
  obtain ⟨rfl, _⟩ := hp
  subst he
  exact ⟨_, rfl, law_post (tb := 4) laid0 hW' (by decide +kernel) rfl (by kernel_rfl) Try.underlying4 ⟨rfl, rfl, rfl⟩ hb⟩

theorem topRefinedMeets_holds : Rows.TopRefinedMeetsSaid :=
  OpenClaim.holds_of_wide 18 Try.f18 rfl rfl rfl rfl rfl rfl rfl ⟨rfl, rfl, rfl, rfl, rfl⟩ rfl rfl rfl rfl rfl (by kernel_rfl) Try.func18 (by kernel_rfl)
    (of_decide_eq_true (by kernel_rfl)) (by unfold Func.isWrapper; rw [if_neg (by decide +kernel)]; exact ⟨rfl, rfl⟩)
    (fun os started H enc _ => topRefinedMeets_lifted os started H enc)
end Go.Proofs.Ytfhfadfnbnliiaa
