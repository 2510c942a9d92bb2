/-
  Walks: each function named returns what its model says. Conditions: those in front of each theorem.
-/
import Derived.Test.YtfhfadfnbnliiaaZ
import Derived.Test.YtfhfadfnbnliiaaNear
import Derived.Test.YtfhfadfnbnliiaaS
namespace Go.Proofs.Ytfhfadfnbnliiaa
open Go.RowKit

set_option maxRecDepth 100000 in
set_option maxHeartbeats 400000 in
theorem ct_shotlinetop_TopNearer (v u : Value) (x : Lg) (ts : List Cp) (ns : List Int) : Ct Try.prog 17 [v, u, .agg (cLg x).toArray] [(v, 4, ts.map cCp), (u, 1, ns.map cI)] (isV (.bool true)) := by
  refine Ct.of (N := 283) Try.func17 rfl rfl rfl fun w => ?_
  refine C_weak (E' := [(0, v), (1, u), (2, .agg (cLg x).toArray)]) (rs' := [rd v 4 (ts.map cCp), rd u 1 (ns.map cI)]) ⟨rfl, rfl, rfl, trivial⟩ (fun _ h => h) ?_
  have hl1 := len_map cCp ts; have hl3 := len_map cI ns
  refine C_seq ?_
  refine C_region ?_
  refine L_box rfl rfl rfl fun g5 => ?_
  refine L_q rfl rfl rfl (q_assign rfl) ?_
  refine L_then ?_
  refine C_seq ?_
  refine C_seq ?_
  refine C_region ?_
  refine L_call tb rfl rfl (ct_shotlinetop_enclosed) no_ps rfl ?_
  refine L_q rfl rfl rfl (q_not rfl (by first | exact (rfl : (!true) = false) | exact (rfl : (!false) = true) | exact decide_not.symm | rfl)) ?_
  refine L_then ?_
  refine C_false rfl ?_
  refine C_skip_then ?_
  refine C_seq ?_
  refine C_seq ?_
  refine C_region ?_
  refine L_q rfl rfl rfl (q_move rfl) ?_
  refine L_q rfl rfl rfl (q_len tb rfl rfl (by first | exact gvo | exact gvd gvo (by omega))) ?_
  refine L_q rfl rfl rfl (q_gtr rfl rfl) ?_
  refine L_q rfl rfl rfl (q_move rfl) ?_
  refine L_dec (d := 26) rfl (fun h2 => ?_) (fun h2 => ?_)
  · -- t26 True
    refine L_skip rfl rfl rfl rfl rfl rfl rfl ?_
    refine L_skip rfl rfl rfl rfl rfl rfl rfl ?_
    refine L_skip rfl rfl rfl rfl rfl rfl rfl ?_
    refine L_q rfl rfl rfl (by first | exact q_pickT rfl rfl | exact q_pickF rfl rfl) ?_
    refine L_q rfl rfl rfl (q_move rfl) ?_
    refine L_skip rfl rfl rfl rfl rfl rfl rfl ?_
    refine L_skip rfl rfl rfl rfl rfl rfl rfl ?_
    refine L_skip rfl rfl rfl rfl rfl rfl rfl ?_
    refine L_q rfl rfl rfl (by first | exact q_pickT rfl rfl | exact q_pickF rfl rfl) ?_
    refine L_q rfl rfl rfl (q_move rfl) ?_
    refine L_skip rfl rfl rfl rfl rfl rfl rfl ?_
    refine L_skip rfl rfl rfl rfl rfl rfl rfl ?_
    refine L_skip rfl rfl rfl rfl rfl rfl rfl ?_
    refine L_skip rfl rfl rfl rfl rfl rfl rfl ?_
    refine L_skip rfl rfl rfl rfl rfl rfl rfl ?_
    refine L_skip rfl rfl rfl rfl rfl rfl rfl ?_
    refine L_q rfl rfl rfl (by first | exact q_pickT rfl rfl | exact q_pickF rfl rfl) ?_
    refine L_q rfl rfl rfl (q_move rfl) ?_
    refine L_skip rfl rfl rfl rfl rfl rfl rfl ?_
    refine L_skip rfl rfl rfl rfl rfl rfl rfl ?_
    refine L_skip rfl rfl rfl rfl rfl rfl rfl ?_
    refine L_q rfl rfl rfl (by first | exact q_pickT rfl rfl | exact q_pickF rfl rfl) ?_
    refine L_then ?_
    refine C_true rfl ?_
    refine C_seq ?_
    refine C_region ?_
    refine L_q rfl rfl rfl (q_assign rfl) ?_
    refine L_then ?_
    refine C_ret ?_
    exact ret_of (res1 rfl rfl) sub_nil (by intro r hr; cases hr) ⟨(by first | rfl | exact congrArg Value.bool (decide_eq_decide.2 (by omega)) | exact congrArg Value.bool (decide_eq_true (by omega)).symm | exact congrArg Value.bool (decide_eq_false (by omega)).symm | exact congrArg Value.bool (decide_eq_true (by omega))), rfl⟩
  · -- t26 False
    refine L_qg rfl rfl rfl rfl rfl rfl rfl (q_move rfl) ?_
    refine L_callg tb rfl rfl rfl rfl rfl rfl (ct_shotlineref03_CheckTable v ts (by omega)) (ps_cons (by first | exact gvo | exact gvd gvo (by omega)) no_ps) rfl ?_
    refine L_qg rfl rfl rfl rfl rfl rfl rfl (q_neq rfl rfl) ?_
    refine L_q rfl rfl rfl (by first | exact q_pickT rfl rfl | exact q_pickF rfl rfl) ?_
    refine L_q rfl rfl rfl (q_move rfl) ?_
    refine L_dec (d := 31) rfl (fun hct => ?_) (fun hct => ?_)
    · -- t31 True
      refine L_skip rfl rfl rfl rfl rfl rfl rfl ?_
      refine L_skip rfl rfl rfl rfl rfl rfl rfl ?_
      refine L_skip rfl rfl rfl rfl rfl rfl rfl ?_
      refine L_q rfl rfl rfl (by first | exact q_pickT rfl rfl | exact q_pickF rfl rfl) ?_
      refine L_q rfl rfl rfl (q_move rfl) ?_
      refine L_skip rfl rfl rfl rfl rfl rfl rfl ?_
      refine L_skip rfl rfl rfl rfl rfl rfl rfl ?_
      refine L_skip rfl rfl rfl rfl rfl rfl rfl ?_
      refine L_skip rfl rfl rfl rfl rfl rfl rfl ?_
      refine L_skip rfl rfl rfl rfl rfl rfl rfl ?_
      refine L_skip rfl rfl rfl rfl rfl rfl rfl ?_
      refine L_q rfl rfl rfl (by first | exact q_pickT rfl rfl | exact q_pickF rfl rfl) ?_
      refine L_q rfl rfl rfl (q_move rfl) ?_
      refine L_skip rfl rfl rfl rfl rfl rfl rfl ?_
      refine L_skip rfl rfl rfl rfl rfl rfl rfl ?_
      refine L_skip rfl rfl rfl rfl rfl rfl rfl ?_
      refine L_q rfl rfl rfl (by first | exact q_pickT rfl rfl | exact q_pickF rfl rfl) ?_
      refine L_then ?_
      refine C_true rfl ?_
      refine C_seq ?_
      refine C_region ?_
      refine L_q rfl rfl rfl (q_assign rfl) ?_
      refine L_then ?_
      refine C_ret ?_
      exact ret_of (res1 rfl rfl) sub_nil (by intro r hr; cases hr) ⟨(by first | rfl | exact congrArg Value.bool (decide_eq_decide.2 (by omega)) | exact congrArg Value.bool (decide_eq_true (by omega)).symm | exact congrArg Value.bool (decide_eq_false (by omega)).symm | exact congrArg Value.bool (decide_eq_true (by omega))), rfl⟩
    · -- t31 False
      refine L_qg rfl rfl rfl rfl rfl rfl rfl (by first | exact q_loadA tb rfl rfl bxo rfl rfl | exact q_loadEA tb rfl rfl (by first | exact gvo | exact gvd gvo (by omega)) (by omega) (by simp) rfl rfl) ?_
      refine L_callg tb rfl rfl rfl rfl rfl rfl (ct_shotlineref03_CheckLeg x) no_ps rfl ?_
      refine L_qg rfl rfl rfl rfl rfl rfl rfl (q_neq rfl rfl) ?_
      refine L_q rfl rfl rfl (by first | exact q_pickT rfl rfl | exact q_pickF rfl rfl) ?_
      refine L_q rfl rfl rfl (q_move rfl) ?_
      refine L_dec (d := 36) rfl (fun hcg => ?_) (fun hcg => ?_)
      · -- t36 True
        refine L_skip rfl rfl rfl rfl rfl rfl rfl ?_
        refine L_skip rfl rfl rfl rfl rfl rfl rfl ?_
        refine L_skip rfl rfl rfl rfl rfl rfl rfl ?_
        refine L_skip rfl rfl rfl rfl rfl rfl rfl ?_
        refine L_skip rfl rfl rfl rfl rfl rfl rfl ?_
        refine L_skip rfl rfl rfl rfl rfl rfl rfl ?_
        refine L_q rfl rfl rfl (by first | exact q_pickT rfl rfl | exact q_pickF rfl rfl) ?_
        refine L_q rfl rfl rfl (q_move rfl) ?_
        refine L_skip rfl rfl rfl rfl rfl rfl rfl ?_
        refine L_skip rfl rfl rfl rfl rfl rfl rfl ?_
        refine L_skip rfl rfl rfl rfl rfl rfl rfl ?_
        refine L_q rfl rfl rfl (by first | exact q_pickT rfl rfl | exact q_pickF rfl rfl) ?_
        refine L_then ?_
        refine C_true rfl ?_
        refine C_seq ?_
        refine C_region ?_
        refine L_q rfl rfl rfl (q_assign rfl) ?_
        refine L_then ?_
        refine C_ret ?_
        exact ret_of (res1 rfl rfl) sub_nil (by intro r hr; cases hr) ⟨(by first | rfl | exact congrArg Value.bool (decide_eq_decide.2 (by omega)) | exact congrArg Value.bool (decide_eq_true (by omega)).symm | exact congrArg Value.bool (decide_eq_false (by omega)).symm | exact congrArg Value.bool (decide_eq_true (by omega))), rfl⟩
      · -- t36 False
        refine L_qg rfl rfl rfl rfl rfl rfl rfl (q_move rfl) ?_
        refine L_qg rfl rfl rfl rfl rfl rfl rfl (q_len tb rfl rfl (by first | exact gvo | exact gvd gvo (by omega))) ?_
        refine L_qg rfl rfl rfl rfl rfl rfl rfl (q_move rfl) ?_
        refine L_qg rfl rfl rfl rfl rfl rfl rfl (q_len tb rfl rfl (by first | exact gvo | exact gvd gvo (by omega))) ?_
        refine L_qg rfl rfl rfl rfl rfl rfl rfl (q_mul rfl rfl (by first | exact IntWalk.i64_in _ (by omega) | rfl)) ?_
        refine L_qg rfl rfl rfl rfl rfl rfl rfl (q_lss rfl rfl) ?_
        refine L_q rfl rfl rfl (by first | exact q_pickT rfl rfl | exact q_pickF rfl rfl) ?_
        refine L_q rfl rfl rfl (q_move rfl) ?_
        refine L_dec (d := 44) rfl (fun h8 => ?_) (fun h8 => ?_)
        · -- t44 True
          refine L_skip rfl rfl rfl rfl rfl rfl rfl ?_
          refine L_skip rfl rfl rfl rfl rfl rfl rfl ?_
          refine L_skip rfl rfl rfl rfl rfl rfl rfl ?_
          refine L_q rfl rfl rfl (by first | exact q_pickT rfl rfl | exact q_pickF rfl rfl) ?_
          refine L_then ?_
          refine C_true rfl ?_
          refine C_seq ?_
          refine C_region ?_
          refine L_q rfl rfl rfl (q_assign rfl) ?_
          refine L_then ?_
          refine C_ret ?_
          exact ret_of (res1 rfl rfl) sub_nil (by intro r hr; cases hr) ⟨(by first | rfl | exact congrArg Value.bool (decide_eq_decide.2 (by omega)) | exact congrArg Value.bool (decide_eq_true (by omega)).symm | exact congrArg Value.bool (decide_eq_false (by omega)).symm | exact congrArg Value.bool (decide_eq_true (by omega))), rfl⟩
        · -- t44 False
          refine L_qg rfl rfl rfl rfl rfl rfl rfl (by first | exact q_field tb rfl rfl rfl | exact q_fieldE tb rfl rfl rfl (by first | exact gvo | exact gvd gvo (by omega)) (by first | omega | (simp; done) | (simp; omega))) ?_
          refine L_qg rfl rfl rfl rfl rfl rfl rfl (by first | exact q_load tb rfl rfl bxo rfl | exact q_loadE tb rfl rfl (by first | exact gvo | exact gvd gvo (by omega)) (by omega) (by simp) rfl) ?_
          refine L_qg rfl rfl rfl rfl rfl rfl rfl (q_gtr rfl rfl) ?_
          refine L_q rfl rfl rfl (by first | exact q_pickT rfl rfl | exact q_pickF rfl rfl) ?_
          refine L_then ?_
          refine C_dec rfl (fun h10 => ?_) (fun h10 => ?_)
          · -- t48 True
            refine C_seq ?_
            refine C_region ?_
            refine L_q rfl rfl rfl (q_assign rfl) ?_
            refine L_then ?_
            refine C_ret ?_
            exact ret_of (res1 rfl rfl) sub_nil (by intro r hr; cases hr) ⟨(by first | rfl | exact congrArg Value.bool (decide_eq_decide.2 (by omega)) | exact congrArg Value.bool (decide_eq_true (by omega)).symm | exact congrArg Value.bool (decide_eq_false (by omega)).symm | exact congrArg Value.bool (decide_eq_true (by omega))), rfl⟩
          · -- t48 False
            have hct9 := ckTab_yes (Decidable.not_not.1 hct)
            obtain ⟨hx, hx0⟩ := ckLeg_ok (Decidable.not_not.1 hcg)
            have hfx := hx.f; have hfx9 := hx.f; unfold okPr at hfx; have hsx := hx.s; have ga := hx.g.a; have gb := hx.g.b; have gc := hx.g.c
            have hA := breath_in (n := 1000 - x.g.o - x.g.h) (p := x.f) (by omega) (by omega); have hB := breath_in (n := x.g.h) (p := x.f) (by omega) (by omega)
            refine C_skip_then ?_
            refine C_seq ?_
            refine C_region ?_
            refine L_q rfl rfl rfl (by first | exact q_field tb rfl rfl rfl | exact q_fieldE tb rfl rfl rfl (by first | exact gvo | exact gvd gvo (by omega)) (by first | omega | (simp; done) | (simp; omega))) ?_
            refine L_q rfl rfl rfl (by first | exact q_load tb rfl rfl bxo rfl | exact q_loadE tb rfl rfl (by first | exact gvo | exact gvd gvo (by omega)) (by omega) (by simp) rfl) ?_
            refine L_q rfl rfl rfl (by first | exact q_field tb rfl rfl rfl | exact q_fieldE tb rfl rfl rfl (by first | exact gvo | exact gvd gvo (by omega)) (by first | omega | (simp; done) | (simp; omega))) ?_
            first | refine L_store tb rfl rfl rfl rfl rfl rfl rfl rfl ?_ | (refine L_front1 ?_; refine L_store tb rfl rfl rfl rfl rfl rfl rfl rfl ?_) | (refine L_front2 ?_; refine L_store tb rfl rfl rfl rfl rfl rfl rfl rfl ?_) | (refine L_front3 ?_; refine L_store tb rfl rfl rfl rfl rfl rfl rfl rfl ?_) | (refine L_front4 ?_; refine L_store tb rfl rfl rfl rfl rfl rfl rfl rfl ?_) | (refine L_front5 ?_; refine L_store tb rfl rfl rfl rfl rfl rfl rfl rfl ?_) | (refine L_front6 ?_; refine L_store tb rfl rfl rfl rfl rfl rfl rfl rfl ?_)
            refine L_then ?_
            refine C_seq ?_
            refine C_draw (n := 21) [(0, false), (1, false), (2, false), (3, false), (4, false), (5, false), (6, false), (7, false), (8, false), (9, false), (10, false), (11, false), (12, false), (13, false), (14, false), (15, false), (16, false), (17, false), (18, false), (19, false), (20, false)] mixed (by kernel_rfl) ?_
            refine W_q rfl rfl rfl rfl (by first | exact q_field tb rfl rfl rfl | exact q_fieldE tb rfl rfl rfl (by first | exact gvo | exact gvd gvo (by omega)) (by first | omega | (simp; done) | (simp; omega))) ?_
            refine W_q rfl rfl rfl rfl (by first | exact q_field tb rfl rfl rfl | exact q_fieldE tb rfl rfl rfl (by first | exact gvo | exact gvd gvo (by omega)) (by first | omega | (simp; done) | (simp; omega))) ?_
            refine W_q rfl rfl rfl rfl (by first | exact q_load tb rfl rfl bxo rfl | exact q_loadE tb rfl rfl (by first | exact gvo | exact gvd gvo (by omega)) (by omega) (by simp) rfl) ?_
            refine W_q rfl rfl rfl rfl (q_sub rfl rfl (by first | exact IntWalk.i64_in _ (by omega) | rfl)) ?_
            refine W_q rfl rfl rfl rfl (by first | exact q_field tb rfl rfl rfl | exact q_fieldE tb rfl rfl rfl (by first | exact gvo | exact gvd gvo (by omega)) (by first | omega | (simp; done) | (simp; omega))) ?_
            refine W_q rfl rfl rfl rfl (by first | exact q_field tb rfl rfl rfl | exact q_fieldE tb rfl rfl rfl (by first | exact gvo | exact gvd gvo (by omega)) (by first | omega | (simp; done) | (simp; omega))) ?_
            refine W_q rfl rfl rfl rfl (by first | exact q_load tb rfl rfl bxo rfl | exact q_loadE tb rfl rfl (by first | exact gvo | exact gvd gvo (by omega)) (by omega) (by simp) rfl) ?_
            refine W_q rfl rfl rfl rfl (q_sub rfl rfl (by first | exact IntWalk.i64_in _ (by omega) | rfl)) ?_
            refine W_q rfl rfl rfl rfl (by first | exact q_field tb rfl rfl rfl | exact q_fieldE tb rfl rfl rfl (by first | exact gvo | exact gvd gvo (by omega)) (by first | omega | (simp; done) | (simp; omega))) ?_
            refine W_q rfl rfl rfl rfl (by first | exact q_load tb rfl rfl bxo rfl | exact q_loadE tb rfl rfl (by first | exact gvo | exact gvd gvo (by omega)) (by omega) (by simp) rfl) ?_
            refine W_q rfl rfl rfl rfl (q_sub rfl rfl (by first | exact IntWalk.i64_in _ (by omega) | rfl)) ?_
            refine W_q rfl rfl rfl rfl (q_mul rfl rfl (by first | exact IntWalk.i64_in _ (by omega) | rfl)) ?_
            refine W_q rfl rfl rfl rfl (by first | exact q_field tb rfl rfl rfl | exact q_fieldE tb rfl rfl rfl (by first | exact gvo | exact gvd gvo (by omega)) (by first | omega | (simp; done) | (simp; omega))) ?_
            refine W_q rfl rfl rfl rfl (by first | exact q_field tb rfl rfl rfl | exact q_fieldE tb rfl rfl rfl (by first | exact gvo | exact gvd gvo (by omega)) (by first | omega | (simp; done) | (simp; omega))) ?_
            refine W_q rfl rfl rfl rfl (by first | exact q_load tb rfl rfl bxo rfl | exact q_loadE tb rfl rfl (by first | exact gvo | exact gvd gvo (by omega)) (by omega) (by simp) rfl) ?_
            refine W_q rfl rfl rfl rfl (by first | exact q_field tb rfl rfl rfl | exact q_fieldE tb rfl rfl rfl (by first | exact gvo | exact gvd gvo (by omega)) (by first | omega | (simp; done) | (simp; omega))) ?_
            refine W_q rfl rfl rfl rfl (by first | exact q_load tb rfl rfl bxo rfl | exact q_loadE tb rfl rfl (by first | exact gvo | exact gvd gvo (by omega)) (by omega) (by simp) rfl) ?_
            refine W_q rfl rfl rfl rfl (q_sub rfl rfl (by first | exact IntWalk.i64_in _ (by omega) | rfl)) ?_
            refine W_q rfl rfl rfl rfl (q_mul rfl rfl (by first | exact IntWalk.i64_in _ (by omega) | rfl)) ?_
            refine W_q rfl rfl rfl rfl (q_assign rfl) ?_
            refine W_q rfl rfl rfl rfl (q_assign rfl) ?_
            refine W_nil ?_
            refine L_then ?_
            refine C_seq ?_
            refine C_region ?_
            refine L_q rfl rfl rfl (q_assign rfl) ?_
            refine L_then ?_
            refine C_seq ?_
            refine C_seq ?_
            refine C_region ?_
            refine L_q rfl rfl rfl (q_assign rfl) ?_
            refine L_then ?_
            refine C_block ?_
            refine C_nil 62 4 ?_
            refine C_loop (ι := Nat × Value) (fun p => ([(0, v), (1, u), (5, .pointer (some ⟨g5, 0, none⟩)), (7, .int .i64 (((1000 - x.g.o - x.g.h) * (x.f - 63)))), (8, .int .i64 ((x.g.h * (x.f - 63)))), (9, p.2), (10, .int .i64 (p.1 : Int))], [sl p.2 62 4 ((numLs ns p.1).map cLd), box g5 27 (cLg ⟨x.f, x.f, x.s, x.g⟩), rd v 4 (ts.map cCp), rd u 1 (ns.map cI)])) (fun p => p.1 ≤ ts.length) (fun p => ts.length - p.1) (0, .slice none 0 0) (Nat.zero_le _) (fun a w hs => hs.weak ⟨rfl, rfl, rfl, rfl, rfl, rfl, rfl, trivial⟩ (fun h => h.pk (by repeat (first | with_reducible exact pk_nil | refine pk_box rfl ?_ | refine pk_rd rfl ?_ | refine pk_sl rfl ?_ | with_reducible refine pk_app ?_ | with_reducible refine pk_app0 ?_ | with_reducible exact pk_tl | refine pk_var ?_)))) ?_
            rintro ⟨k, y⟩ hk9
            dsimp only at hk9 ⊢
            refine C_seq ?_
            refine C_seq ?_
            refine C_region ?_
            refine L_q rfl rfl rfl (q_move rfl) ?_
            refine L_q rfl rfl rfl (q_move rfl) ?_
            refine L_q rfl rfl rfl (q_len tb rfl rfl (by first | exact gvo | exact gvd gvo (by omega))) ?_
            refine L_q rfl rfl rfl (q_lss rfl rfl) ?_
            refine L_then ?_
            refine C_dec rfl (fun h11 => ?_) (fun h11 => ?_)
            · -- t74 True
              obtain ⟨z1, hz1⟩ := get_some ns (k := 2 * k) (by omega); obtain ⟨z2, hz2⟩ := get_some ns (k := 2 * k + 1) (by omega); have hel1 := map_get cI hz1; have hel2 := map_get cI hz2
              have en : numL ns k = ⟨⟨z1 % 5000000, z1 % 5000000⟩, ⟨z2 % 5000000, z2 % 5000000⟩⟩ := by unfold numL; rw [hz1, hz2]; rfl
              have ecell : (numLs ns k).map cLd ++ [cLd ⟨⟨z1 % 5000000, z1 % 5000000⟩, ⟨z2 % 5000000, z2 % 5000000⟩⟩] = (numLs ns (k + 1)).map cLd := by rw [numLs_succ, List.map_append, en]; rfl
              refine C_skip_then ?_
              refine C_seq ?_
              refine C_block ?_
              refine C_seq ?_
              refine C_draw (n := 13) [(0, false), (1, false), (2, false), (3, false), (4, false), (6, false), (7, false), (8, false), (9, false), (10, false), (11, false), (5, true), (12, true)] mixed (by kernel_rfl) ?_
              refine W_q rfl rfl rfl rfl (q_move rfl) ?_
              refine W_q rfl rfl rfl rfl (q_move rfl) ?_
              refine W_q rfl rfl rfl rfl (q_mul rfl rfl (by first | exact IntWalk.i64_in _ (by omega) | rfl)) ?_
              refine W_q rfl rfl rfl rfl (by first | exact q_index tb rfl rfl rfl rfl (by first | exact gvo | exact gvd gvo (by omega)) (by omega) (by first | omega | (simp; done) | (simp; omega)) | exact q_indexP tb rfl rfl rfl rfl (by omega) (by omega)) ?_
              refine W_q rfl rfl rfl rfl (by first | exact q_load tb rfl rfl bxo rfl | exact q_loadE tb rfl rfl (by first | exact gvo | exact gvd gvo (by omega)) (i := 2 * k) (o := 0) (by omega) hel1 rfl) ?_
              refine W_q rfl rfl rfl rfl (q_move rfl) ?_
              refine W_q rfl rfl rfl rfl (q_move rfl) ?_
              refine W_q rfl rfl rfl rfl (q_mul rfl rfl (by first | exact IntWalk.i64_in _ (by omega) | rfl)) ?_
              refine W_q rfl rfl rfl rfl (q_add rfl rfl (by first | exact IntWalk.i64_in _ (by omega) | rfl)) ?_
              refine W_q rfl rfl rfl rfl (by first | exact q_index tb rfl rfl rfl rfl (by first | exact gvo | exact gvd gvo (by omega)) (by omega) (by first | omega | (simp; done) | (simp; omega)) | exact q_indexP tb rfl rfl rfl rfl (by omega) (by omega)) ?_
              refine W_q rfl rfl rfl rfl (by first | exact q_load tb rfl rfl bxo rfl | exact q_loadE tb rfl rfl (by first | exact gvo | exact gvd gvo (by omega)) (i := 2 * k + 1) (o := 0) (by omega) hel2 rfl) ?_
              refine W_call tb rfl rfl rfl rfl (ct_shotlinebase_Mod z1 5000000 (by omega)) no_ps rfl ?_
              refine W_call tb rfl rfl rfl rfl (ct_shotlinebase_Mod z2 5000000 (by omega)) no_ps rfl ?_
              refine W_nil ?_
              refine L_q rfl rfl rfl (q_assign rfl) ?_
              refine L_q rfl rfl rfl (q_assign rfl) ?_
              refine L_then ?_
              refine C_region ?_
              refine L_q rfl rfl rfl (q_move rfl) ?_
              refine L_q rfl rfl rfl (q_move rfl) ?_
              refine L_q rfl rfl rfl (q_move rfl) ?_
              refine L_q rfl rfl rfl (by first | exact q_build tb rfl rfl rfl rfl | exact q_buildArr tb rfl rfl rfl rfl rfl) ?_
              refine L_q rfl rfl rfl (q_move rfl) ?_
              refine L_q rfl rfl rfl (q_move rfl) ?_
              refine L_q rfl rfl rfl (by first | exact q_build tb rfl rfl rfl rfl | exact q_buildArr tb rfl rfl rfl rfl rfl) ?_
              refine L_q rfl rfl rfl (by first | exact q_build tb rfl rfl rfl rfl | exact q_buildArr tb rfl rfl rfl rfl rfl) ?_
              refine L_mk (lo_bslice tb rfl rfl rfl (xs := [cLd ⟨⟨z1 % 5000000, z1 % 5000000⟩, ⟨z2 % 5000000, z2 % 5000000⟩⟩]) rfl rfl (by simp [cLd]) rfl (by omega) rfl) rfl rfl rfl fun v98 => ?_
              first | (refine L_front1 ?_; refine L_append tb rfl rfl rfl (by omega) rfl rfl (by first | exact gvo | exact gvd gvo (by omega)) (by simp [Value.oneCell', cLd]) (by simp [maxLen, List.length_map, numLs_len]; omega) (by simp [List.length_map, numLs_len]; omega) rfl fun v99 => ?_) | (refine L_front2 ?_; refine L_append tb rfl rfl rfl (by omega) rfl rfl (by first | exact gvo | exact gvd gvo (by omega)) (by simp [Value.oneCell', cLd]) (by simp [maxLen, List.length_map, numLs_len]; omega) (by simp [List.length_map, numLs_len]; omega) rfl fun v99 => ?_) | (refine L_front3 ?_; refine L_append tb rfl rfl rfl (by omega) rfl rfl (by first | exact gvo | exact gvd gvo (by omega)) (by simp [Value.oneCell', cLd]) (by simp [maxLen, List.length_map, numLs_len]; omega) (by simp [List.length_map, numLs_len]; omega) rfl fun v99 => ?_) | (refine L_front4 ?_; refine L_append tb rfl rfl rfl (by omega) rfl rfl (by first | exact gvo | exact gvd gvo (by omega)) (by simp [Value.oneCell', cLd]) (by simp [maxLen, List.length_map, numLs_len]; omega) (by simp [List.length_map, numLs_len]; omega) rfl fun v99 => ?_) | (refine L_front5 ?_; refine L_append tb rfl rfl rfl (by omega) rfl rfl (by first | exact gvo | exact gvd gvo (by omega)) (by simp [Value.oneCell', cLd]) (by simp [maxLen, List.length_map, numLs_len]; omega) (by simp [List.length_map, numLs_len]; omega) rfl fun v99 => ?_) | (refine L_front6 ?_; refine L_append tb rfl rfl rfl (by omega) rfl rfl (by first | exact gvo | exact gvd gvo (by omega)) (by simp [Value.oneCell', cLd]) (by simp [maxLen, List.length_map, numLs_len]; omega) (by simp [List.length_map, numLs_len]; omega) rfl fun v99 => ?_) | (refine L_append tb rfl rfl rfl (by omega) rfl rfl (by first | exact gvo | exact gvd gvo (by omega)) (by simp [Value.oneCell', cLd]) (by simp [maxLen, List.length_map, numLs_len]; omega) (by simp [List.length_map, numLs_len]; omega) rfl fun v99 => ?_)
              refine L_q rfl rfl rfl (q_assign rfl) ?_
              refine L_blk ?_
              refine C_region ?_
              refine L_q rfl rfl rfl (q_move rfl) ?_
              refine L_q rfl rfl rfl (q_add rfl rfl (by first | exact IntWalk.i64_in _ (by omega) | rfl)) ?_
              refine L_q rfl rfl rfl (q_assign rfl) ?_
              refine L_end ?_
              exact fun ac_ wo_ hs_ => ⟨(k + 1, v99), (by dsimp only; omega), (by dsimp only; omega), hs_.weak ⟨rfl, rfl, rfl, rfl, rfl, rfl, rfl, trivial⟩ (fun h => h.pk (by repeat (first | with_reducible exact pk_nil | refine pk_box (by first | rfl | exact ecell) ?_ | refine pk_rd rfl ?_ | refine pk_sl (by first | rfl | exact ecell) ?_ | with_reducible refine pk_app ?_ | with_reducible refine pk_app0 ?_ | with_reducible exact pk_tl | refine pk_var ?_)))⟩
            · -- t74 False
              obtain rfl : k = ts.length := by omega
              obtain ⟨s2, hs2⟩ : ∃ s2, 2 * x.s = s2 := ⟨_, rfl⟩
              have hko := num_ok ns hct9.1 (ckCps_ok hct9.2)
              have hy0 : okLg ⟨x.f, x.f, x.s, x.g⟩ := ⟨hfx9, hfx9, hsx, hx.g⟩
              have hy1 : okLg ⟨x.f, x.f, s2, x.g⟩ := ⟨hfx9, hfx9, by dsimp only; omega, hx.g⟩
              have e1 : loadedE ts (numLs ns ts.length) ⟨x.f, x.f, x.s, x.g⟩ 3 = (loadedM ts (numLs ns ts.length) ⟨x.f, x.f, x.s, x.g⟩ 3, 0) := loadedE_4 (f := 3) (fun hh => hh (ckLoads_mk hko)) (fun hh => hh (ckLeg_flat hy0 rfl)) (by decide)
              have e2 : loadedE ts (numLs ns ts.length) ⟨x.f, x.f, s2, x.g⟩ 3 = (loadedM ts (numLs ns ts.length) ⟨x.f, x.f, s2, x.g⟩ 3, 0) := loadedE_4 (f := 3) (fun hh => hh (ckLoads_mk hko)) (fun hh => hh (ckLeg_flat hy1 rfl)) (by decide)
              have hn9 := numLs_len ns ts.length; have hl8 := loadedM_len (x := ⟨x.f, x.f, x.s, x.g⟩) (f := 3) hko.len; have hl7 := loadedM_len (x := ⟨x.f, x.f, s2, x.g⟩) (f := 3) hko.len; have m1 := len_map cLd (numLs ns ts.length); have m2 := len_map cLd (loadedM ts (numLs ns ts.length) ⟨x.f, x.f, x.s, x.g⟩ 3); have m3 := len_map cLd (loadedM ts (numLs ns ts.length) ⟨x.f, x.f, s2, x.g⟩ 3)
              refine C_exit ?_
              change C Try.prog _ _ _ _ _ _ _
              refine C_seq ?_
              refine C_region ?_
              refine L_q rfl rfl rfl (q_move rfl) ?_
              refine L_q rfl rfl rfl (q_move rfl) ?_
              refine L_q rfl rfl rfl (by first | exact q_loadA tb rfl rfl bxo rfl rfl | exact q_loadEA tb rfl rfl (by first | exact gvo | exact gvd gvo (by omega)) (by omega) (by simp) rfl rfl) ?_
              refine L_callSN tb rfl rfl (ct_tissue_Loaded _ _ ⟨x.f, x.f, x.s, x.g⟩ 3 ts (numLs ns ts.length) (by omega) (by omega)) (ps_cons (by first | exact gvo | exact gvd gvo (by omega)) (ps_cons (by first | exact gvo | exact gvd gvo (by omega)) no_ps)) rfl fun v104 => ?_
              refine L_q rfl rfl rfl (q_move rfl) ?_
              rw [e1]
              refine L_q rfl rfl rfl (q_ext0 rfl) ?_
              refine L_q rfl rfl rfl (q_ext1 rfl) ?_
              refine L_q rfl rfl rfl (q_assign rfl) ?_
              refine L_q rfl rfl rfl (q_assign rfl) ?_
              refine L_then ?_
              refine C_seq ?_
              refine C_region ?_
              refine L_q rfl rfl rfl (by first | exact q_loadA tb rfl rfl bxo rfl rfl | exact q_loadEA tb rfl rfl (by first | exact gvo | exact gvd gvo (by omega)) (by omega) (by simp) rfl rfl) ?_
              refine L_alloc tb rfl rfl fun g15 => ?_
              first | refine L_store tb rfl rfl rfl rfl rfl rfl rfl rfl ?_ | (refine L_front1 ?_; refine L_store tb rfl rfl rfl rfl rfl rfl rfl rfl ?_) | (refine L_front2 ?_; refine L_store tb rfl rfl rfl rfl rfl rfl rfl rfl ?_) | (refine L_front3 ?_; refine L_store tb rfl rfl rfl rfl rfl rfl rfl rfl ?_) | (refine L_front4 ?_; refine L_store tb rfl rfl rfl rfl rfl rfl rfl rfl ?_) | (refine L_front5 ?_; refine L_store tb rfl rfl rfl rfl rfl rfl rfl rfl ?_) | (refine L_front6 ?_; refine L_store tb rfl rfl rfl rfl rfl rfl rfl rfl ?_)
              refine L_then ?_
              refine C_seq ?_
              refine C_region ?_
              refine L_q rfl rfl rfl (by first | exact q_field tb rfl rfl rfl | exact q_fieldE tb rfl rfl rfl (by first | exact gvo | exact gvd gvo (by omega)) (by first | omega | (simp; done) | (simp; omega))) ?_
              refine L_q rfl rfl rfl (by first | exact q_load tb rfl rfl bxo rfl | exact q_loadE tb rfl rfl (by first | exact gvo | exact gvd gvo (by omega)) (by omega) (by simp) rfl) ?_
              refine L_q rfl rfl rfl (q_mul rfl rfl (by exact IntWalk.i64_in (2 * x.s) (by omega))) ?_
              rw [hs2]
              refine L_q rfl rfl rfl (by first | exact q_field tb rfl rfl rfl | exact q_fieldE tb rfl rfl rfl (by first | exact gvo | exact gvd gvo (by omega)) (by first | omega | (simp; done) | (simp; omega))) ?_
              first | refine L_store tb rfl rfl rfl rfl rfl rfl rfl rfl ?_ | (refine L_front1 ?_; refine L_store tb rfl rfl rfl rfl rfl rfl rfl rfl ?_) | (refine L_front2 ?_; refine L_store tb rfl rfl rfl rfl rfl rfl rfl rfl ?_) | (refine L_front3 ?_; refine L_store tb rfl rfl rfl rfl rfl rfl rfl rfl ?_) | (refine L_front4 ?_; refine L_store tb rfl rfl rfl rfl rfl rfl rfl rfl ?_) | (refine L_front5 ?_; refine L_store tb rfl rfl rfl rfl rfl rfl rfl rfl ?_) | (refine L_front6 ?_; refine L_store tb rfl rfl rfl rfl rfl rfl rfl rfl ?_)
              refine L_then ?_
              refine C_seq ?_
              refine C_region ?_
              refine L_res (rs' := [box g15 27 (cLg ⟨x.f, x.f, s2, x.g⟩), sl v104 62 4 ((loadedM ts (numLs ns ts.length) ⟨x.f, x.f, x.s, x.g⟩ 3).map cLd), sl y 62 4 ((numLs ns ts.length).map cLd), box g5 27 (cLg ⟨x.f, x.f, x.s, x.g⟩), rd v 4 (ts.map cCp)]) (fun _ h => h.pk (by repeat (first | with_reducible exact pk_nil | refine pk_box rfl ?_ | refine pk_rd rfl ?_ | refine pk_sl rfl ?_ | with_reducible refine pk_app ?_ | with_reducible refine pk_app0 ?_ | with_reducible exact pk_tl | refine pk_var ?_))) ?_
              refine L_q rfl rfl rfl (q_move rfl) ?_
              refine L_q rfl rfl rfl (q_move rfl) ?_
              refine L_q rfl rfl rfl (by first | exact q_loadA tb rfl rfl bxo rfl rfl | exact q_loadEA tb rfl rfl (by first | exact gvo | exact gvd gvo (by omega)) (by omega) (by simp) rfl rfl) ?_
              refine L_callSN tb rfl rfl (ct_tissue_Loaded _ _ ⟨x.f, x.f, s2, x.g⟩ 3 ts (numLs ns ts.length) (by omega) (by omega)) (ps_cons (by first | exact gvo | exact gvd gvo (by omega)) (ps_cons (by first | exact gvo | exact gvd gvo (by omega)) no_ps)) rfl fun v116 => ?_
              refine L_q rfl rfl rfl (q_move rfl) ?_
              rw [e2]
              refine L_q rfl rfl rfl (q_ext0 rfl) ?_
              refine L_q rfl rfl rfl (q_ext1 rfl) ?_
              refine L_q rfl rfl rfl (q_assign rfl) ?_
              refine L_q rfl rfl rfl (q_assign rfl) ?_
              refine L_then ?_
              refine C_seq ?_
              refine C_seq ?_
              refine C_region ?_
              refine L_q rfl rfl rfl (q_move rfl) ?_
              refine L_q rfl rfl rfl (q_false (q_neq rfl rfl) (by simp)) ?_
              refine L_q rfl rfl rfl (q_move rfl) ?_
              refine L_qg rfl rfl rfl rfl rfl rfl rfl (q_move rfl) ?_
              refine L_qg rfl rfl rfl rfl rfl rfl rfl (q_false (q_neq rfl rfl) (by simp)) ?_
              refine L_q rfl rfl rfl (by first | exact q_pickT rfl rfl | exact q_pickF rfl rfl) ?_
              refine L_q rfl rfl rfl (q_move rfl) ?_
              refine L_qg rfl rfl rfl rfl rfl rfl rfl (q_move rfl) ?_
              refine L_qg rfl rfl rfl rfl rfl rfl rfl (q_len tb rfl rfl (by first | exact gvo | exact gvd gvo (by omega))) ?_
              refine L_qg rfl rfl rfl rfl rfl rfl rfl (q_move rfl) ?_
              refine L_qg rfl rfl rfl rfl rfl rfl rfl (q_len tb rfl rfl (by first | exact gvo | exact gvd gvo (by omega))) ?_
              refine L_qg rfl rfl rfl rfl rfl rfl rfl (q_false (q_neq rfl rfl) (by simp [hl8, numLs_len])) ?_
              refine L_q rfl rfl rfl (by first | exact q_pickT rfl rfl | exact q_pickF rfl rfl) ?_
              refine L_q rfl rfl rfl (q_move rfl) ?_
              refine L_qg rfl rfl rfl rfl rfl rfl rfl (q_move rfl) ?_
              refine L_qg rfl rfl rfl rfl rfl rfl rfl (q_len tb rfl rfl (by first | exact gvo | exact gvd gvo (by omega))) ?_
              refine L_qg rfl rfl rfl rfl rfl rfl rfl (q_move rfl) ?_
              refine L_qg rfl rfl rfl rfl rfl rfl rfl (q_len tb rfl rfl (by first | exact gvo | exact gvd gvo (by omega))) ?_
              refine L_qg rfl rfl rfl rfl rfl rfl rfl (q_false (q_neq rfl rfl) (by simp [hl7, numLs_len])) ?_
              refine L_q rfl rfl rfl (by first | exact q_pickT rfl rfl | exact q_pickF rfl rfl) ?_
              refine L_then ?_
              refine C_false rfl ?_
              refine C_skip_then ?_
              refine C_seq ?_
              refine C_seq ?_
              refine C_region ?_
              refine L_q rfl rfl rfl (q_assign rfl) ?_
              refine L_then ?_
              refine C_block ?_
              refine C_loop (ι := Nat) (fun i => ([(0, v), (5, .pointer (some ⟨g5, 0, none⟩)), (7, .int .i64 (((1000 - x.g.o - x.g.h) * (x.f - 63)))), (8, .int .i64 ((x.g.h * (x.f - 63)))), (9, y), (13, v104), (16, v116), (18, .int .i64 (i : Int))], [sl v116 62 4 ((loadedM ts (numLs ns ts.length) ⟨x.f, x.f, s2, x.g⟩ 3).map cLd), sl v104 62 4 ((loadedM ts (numLs ns ts.length) ⟨x.f, x.f, x.s, x.g⟩ 3).map cLd), sl y 62 4 ((numLs ns ts.length).map cLd), box g5 27 (cLg ⟨x.f, x.f, x.s, x.g⟩), rd v 4 (ts.map cCp)])) (fun i => i ≤ ts.length) (fun i => ts.length - i) 0 (Nat.zero_le _) (fun a w hs => hs.weak ⟨rfl, rfl, rfl, rfl, rfl, rfl, rfl, rfl, trivial⟩ (fun h => h.pk (by repeat (first | with_reducible exact pk_nil | refine pk_box rfl ?_ | refine pk_rd rfl ?_ | refine pk_sl rfl ?_ | with_reducible refine pk_app ?_ | with_reducible refine pk_app0 ?_ | with_reducible exact pk_tl | refine pk_var ?_)))) ?_
              intro i hi9
              dsimp only at hi9 ⊢
              refine C_seq ?_
              refine C_seq ?_
              refine C_region ?_
              refine L_q rfl rfl rfl (q_move rfl) ?_
              refine L_q rfl rfl rfl (q_move rfl) ?_
              refine L_q rfl rfl rfl (q_len tb rfl rfl (by first | exact gvo | exact gvd gvo (by omega))) ?_
              refine L_q rfl rfl rfl (q_lss rfl rfl) ?_
              refine L_then ?_
              refine C_dec rfl (fun h13 => ?_) (fun h13 => ?_)
              · -- t142 True
                have hez := numLs_get (ns := ns) (show i < ts.length by omega); obtain ⟨a, hea⟩ := get_some (loadedM ts (numLs ns ts.length) ⟨x.f, x.f, x.s, x.g⟩ 3) (k := i) (by omega); obtain ⟨b, heb⟩ := get_some (loadedM ts (numLs ns ts.length) ⟨x.f, x.f, s2, x.g⟩ 3) (k := i) (by omega); have helz := map_get cLd hez; have hela := map_get cLd hea; have helb := map_get cLd heb; have hst := near_stay hko hy0 hy1 rfl rfl rfl hs2.symm rfl hez ⟨rfl, rfl⟩ hea heb; dsimp only at hst; obtain ⟨d1, d2, d3, d4, i1, i2⟩ := hst
                refine C_skip_then ?_
                refine C_seq ?_
                refine C_block ?_
                refine C_seq ?_
                refine C_seq ?_
                refine C_draw (n := 62) [(0, false), (1, false), (2, false), (3, false), (4, false), (5, false), (6, false), (7, false), (8, false), (9, false), (10, false), (11, false), (12, true), (13, false), (14, false), (15, false), (16, false), (17, false), (18, false), (19, false), (20, false), (21, false), (22, false), (23, false), (24, false), (25, false), (26, false), (27, true), (28, false), (29, false), (30, false), (31, false), (32, false), (33, false), (34, false), (35, false), (36, false), (37, false), (38, false), (39, false), (40, false), (41, false), (42, false), (43, true), (44, false), (45, false), (46, false), (47, false), (48, false), (49, false), (50, false), (51, false), (52, false), (53, false), (54, false), (55, false), (56, false), (57, false), (58, false), (59, true), (60, false), (61, false)] mixed (by kernel_rfl) ?_
                refine W_q rfl rfl rfl rfl (q_move rfl) ?_
                refine W_q rfl rfl rfl rfl (q_move rfl) ?_
                refine W_q rfl rfl rfl rfl (by first | exact q_index tb rfl rfl rfl rfl (by first | exact gvo | exact gvd gvo (by omega)) (by omega) (by first | omega | (simp; done) | (simp; omega)) | exact q_indexP tb rfl rfl rfl rfl (by omega) (by omega)) ?_
                refine W_q rfl rfl rfl rfl (by first | exact q_field tb rfl rfl rfl | exact q_fieldE tb rfl rfl rfl (by first | exact gvo | exact gvd gvo (by omega)) (by first | omega | (simp; done) | (simp; omega))) ?_
                refine W_q rfl rfl rfl rfl (by first | exact q_loadA tb rfl rfl bxo rfl rfl | exact q_loadEA tb rfl rfl (by first | exact gvo | exact gvd gvo (by omega)) (i := i) (o := 0) (by omega) hela rfl rfl) ?_
                refine W_q rfl rfl rfl rfl (q_move rfl) ?_
                refine W_q rfl rfl rfl rfl (q_move rfl) ?_
                refine W_q rfl rfl rfl rfl (by first | exact q_index tb rfl rfl rfl rfl (by first | exact gvo | exact gvd gvo (by omega)) (by omega) (by first | omega | (simp; done) | (simp; omega)) | exact q_indexP tb rfl rfl rfl rfl (by omega) (by omega)) ?_
                refine W_q rfl rfl rfl rfl (by first | exact q_field tb rfl rfl rfl | exact q_fieldE tb rfl rfl rfl (by first | exact gvo | exact gvd gvo (by omega)) (by first | omega | (simp; done) | (simp; omega))) ?_
                refine W_q rfl rfl rfl rfl (by first | exact q_field tb rfl rfl rfl | exact q_fieldE tb rfl rfl rfl (by first | exact gvo | exact gvd gvo (by omega)) (by first | omega | (simp; done) | (simp; omega))) ?_
                refine W_q rfl rfl rfl rfl (by first | exact q_load tb rfl rfl bxo rfl | exact q_loadE tb rfl rfl (by first | exact gvo | exact gvd gvo (by omega)) (i := i) (o := 0) (by omega) helz rfl) ?_
                refine W_q rfl rfl rfl rfl (q_move rfl) ?_
                refine W_call tb rfl rfl rfl rfl (ct_drawn_yes a.n.lo a.n.hi (numL ns i).n.lo ((1000 - x.g.o - x.g.h) * (x.f - 63)) d1) no_ps rfl ?_
                refine W_q rfl rfl rfl rfl (q_not rfl (by first | exact (rfl : (!true) = false) | exact (rfl : (!false) = true) | exact decide_not.symm | rfl)) ?_
                refine W_q rfl rfl rfl rfl (q_move rfl) ?_
                refine W_qg rfl rfl rfl rfl rfl rfl rfl rfl (q_move rfl) ?_
                refine W_qg rfl rfl rfl rfl rfl rfl rfl rfl (q_move rfl) ?_
                refine W_qg rfl rfl rfl rfl rfl rfl rfl rfl (by first | exact q_index tb rfl rfl rfl rfl (by first | exact gvo | exact gvd gvo (by omega)) (by omega) (by first | omega | (simp; done) | (simp; omega)) | exact q_indexP tb rfl rfl rfl rfl (by omega) (by omega)) ?_
                refine W_qg rfl rfl rfl rfl rfl rfl rfl rfl (by first | exact q_field tb rfl rfl rfl | exact q_fieldE tb rfl rfl rfl (by first | exact gvo | exact gvd gvo (by omega)) (by first | omega | (simp; done) | (simp; omega))) ?_
                refine W_qg rfl rfl rfl rfl rfl rfl rfl rfl (by first | exact q_loadA tb rfl rfl bxo rfl rfl | exact q_loadEA tb rfl rfl (by first | exact gvo | exact gvd gvo (by omega)) (i := i) (o := 2) (by omega) hela rfl rfl) ?_
                refine W_qg rfl rfl rfl rfl rfl rfl rfl rfl (q_move rfl) ?_
                refine W_qg rfl rfl rfl rfl rfl rfl rfl rfl (q_move rfl) ?_
                refine W_qg rfl rfl rfl rfl rfl rfl rfl rfl (by first | exact q_index tb rfl rfl rfl rfl (by first | exact gvo | exact gvd gvo (by omega)) (by omega) (by first | omega | (simp; done) | (simp; omega)) | exact q_indexP tb rfl rfl rfl rfl (by omega) (by omega)) ?_
                refine W_qg rfl rfl rfl rfl rfl rfl rfl rfl (by first | exact q_field tb rfl rfl rfl | exact q_fieldE tb rfl rfl rfl (by first | exact gvo | exact gvd gvo (by omega)) (by first | omega | (simp; done) | (simp; omega))) ?_
                refine W_qg rfl rfl rfl rfl rfl rfl rfl rfl (by first | exact q_field tb rfl rfl rfl | exact q_fieldE tb rfl rfl rfl (by first | exact gvo | exact gvd gvo (by omega)) (by first | omega | (simp; done) | (simp; omega))) ?_
                refine W_qg rfl rfl rfl rfl rfl rfl rfl rfl (by first | exact q_load tb rfl rfl bxo rfl | exact q_loadE tb rfl rfl (by first | exact gvo | exact gvd gvo (by omega)) (i := i) (o := 2) (by omega) helz rfl) ?_
                refine W_qg rfl rfl rfl rfl rfl rfl rfl rfl (q_move rfl) ?_
                refine W_callg tb rfl rfl rfl rfl rfl rfl rfl rfl (ct_drawn_yes a.h.lo a.h.hi (numL ns i).h.lo (x.g.h * (x.f - 63)) d2) no_ps rfl ?_
                refine W_qg rfl rfl rfl rfl rfl rfl rfl rfl (q_not rfl (by first | exact (rfl : (!true) = false) | exact (rfl : (!false) = true) | exact decide_not.symm | rfl)) ?_
                refine W_q rfl rfl rfl rfl (by first | exact q_pickT rfl rfl | exact q_pickF rfl rfl) ?_
                refine W_q rfl rfl rfl rfl (q_move rfl) ?_
                refine W_qg rfl rfl rfl rfl rfl rfl rfl rfl (q_move rfl) ?_
                refine W_qg rfl rfl rfl rfl rfl rfl rfl rfl (q_move rfl) ?_
                refine W_qg rfl rfl rfl rfl rfl rfl rfl rfl (by first | exact q_index tb rfl rfl rfl rfl (by first | exact gvo | exact gvd gvo (by omega)) (by omega) (by first | omega | (simp; done) | (simp; omega)) | exact q_indexP tb rfl rfl rfl rfl (by omega) (by omega)) ?_
                refine W_qg rfl rfl rfl rfl rfl rfl rfl rfl (by first | exact q_field tb rfl rfl rfl | exact q_fieldE tb rfl rfl rfl (by first | exact gvo | exact gvd gvo (by omega)) (by first | omega | (simp; done) | (simp; omega))) ?_
                refine W_qg rfl rfl rfl rfl rfl rfl rfl rfl (by first | exact q_loadA tb rfl rfl bxo rfl rfl | exact q_loadEA tb rfl rfl (by first | exact gvo | exact gvd gvo (by omega)) (i := i) (o := 0) (by omega) helb rfl rfl) ?_
                refine W_qg rfl rfl rfl rfl rfl rfl rfl rfl (q_move rfl) ?_
                refine W_qg rfl rfl rfl rfl rfl rfl rfl rfl (q_move rfl) ?_
                refine W_qg rfl rfl rfl rfl rfl rfl rfl rfl (by first | exact q_index tb rfl rfl rfl rfl (by first | exact gvo | exact gvd gvo (by omega)) (by omega) (by first | omega | (simp; done) | (simp; omega)) | exact q_indexP tb rfl rfl rfl rfl (by omega) (by omega)) ?_
                refine W_qg rfl rfl rfl rfl rfl rfl rfl rfl (by first | exact q_field tb rfl rfl rfl | exact q_fieldE tb rfl rfl rfl (by first | exact gvo | exact gvd gvo (by omega)) (by first | omega | (simp; done) | (simp; omega))) ?_
                refine W_qg rfl rfl rfl rfl rfl rfl rfl rfl (by first | exact q_field tb rfl rfl rfl | exact q_fieldE tb rfl rfl rfl (by first | exact gvo | exact gvd gvo (by omega)) (by first | omega | (simp; done) | (simp; omega))) ?_
                refine W_qg rfl rfl rfl rfl rfl rfl rfl rfl (by first | exact q_load tb rfl rfl bxo rfl | exact q_loadE tb rfl rfl (by first | exact gvo | exact gvd gvo (by omega)) (i := i) (o := 0) (by omega) helz rfl) ?_
                refine W_qg rfl rfl rfl rfl rfl rfl rfl rfl (q_move rfl) ?_
                refine W_callg tb rfl rfl rfl rfl rfl rfl rfl rfl (ct_drawn_yes b.n.lo b.n.hi (numL ns i).n.lo ((1000 - x.g.o - x.g.h) * (x.f - 63)) d3) no_ps rfl ?_
                refine W_qg rfl rfl rfl rfl rfl rfl rfl rfl (q_not rfl (by first | exact (rfl : (!true) = false) | exact (rfl : (!false) = true) | exact decide_not.symm | rfl)) ?_
                refine W_q rfl rfl rfl rfl (by first | exact q_pickT rfl rfl | exact q_pickF rfl rfl) ?_
                refine W_q rfl rfl rfl rfl (q_move rfl) ?_
                refine W_qg rfl rfl rfl rfl rfl rfl rfl rfl (q_move rfl) ?_
                refine W_qg rfl rfl rfl rfl rfl rfl rfl rfl (q_move rfl) ?_
                refine W_qg rfl rfl rfl rfl rfl rfl rfl rfl (by first | exact q_index tb rfl rfl rfl rfl (by first | exact gvo | exact gvd gvo (by omega)) (by omega) (by first | omega | (simp; done) | (simp; omega)) | exact q_indexP tb rfl rfl rfl rfl (by omega) (by omega)) ?_
                refine W_qg rfl rfl rfl rfl rfl rfl rfl rfl (by first | exact q_field tb rfl rfl rfl | exact q_fieldE tb rfl rfl rfl (by first | exact gvo | exact gvd gvo (by omega)) (by first | omega | (simp; done) | (simp; omega))) ?_
                refine W_qg rfl rfl rfl rfl rfl rfl rfl rfl (by first | exact q_loadA tb rfl rfl bxo rfl rfl | exact q_loadEA tb rfl rfl (by first | exact gvo | exact gvd gvo (by omega)) (i := i) (o := 2) (by omega) helb rfl rfl) ?_
                refine W_qg rfl rfl rfl rfl rfl rfl rfl rfl (q_move rfl) ?_
                refine W_qg rfl rfl rfl rfl rfl rfl rfl rfl (q_move rfl) ?_
                refine W_qg rfl rfl rfl rfl rfl rfl rfl rfl (by first | exact q_index tb rfl rfl rfl rfl (by first | exact gvo | exact gvd gvo (by omega)) (by omega) (by first | omega | (simp; done) | (simp; omega)) | exact q_indexP tb rfl rfl rfl rfl (by omega) (by omega)) ?_
                refine W_qg rfl rfl rfl rfl rfl rfl rfl rfl (by first | exact q_field tb rfl rfl rfl | exact q_fieldE tb rfl rfl rfl (by first | exact gvo | exact gvd gvo (by omega)) (by first | omega | (simp; done) | (simp; omega))) ?_
                refine W_qg rfl rfl rfl rfl rfl rfl rfl rfl (by first | exact q_field tb rfl rfl rfl | exact q_fieldE tb rfl rfl rfl (by first | exact gvo | exact gvd gvo (by omega)) (by first | omega | (simp; done) | (simp; omega))) ?_
                refine W_qg rfl rfl rfl rfl rfl rfl rfl rfl (by first | exact q_load tb rfl rfl bxo rfl | exact q_loadE tb rfl rfl (by first | exact gvo | exact gvd gvo (by omega)) (i := i) (o := 2) (by omega) helz rfl) ?_
                refine W_qg rfl rfl rfl rfl rfl rfl rfl rfl (q_move rfl) ?_
                refine W_callg tb rfl rfl rfl rfl rfl rfl rfl rfl (ct_drawn_yes b.h.lo b.h.hi (numL ns i).h.lo (x.g.h * (x.f - 63)) d4) no_ps rfl ?_
                refine W_qg rfl rfl rfl rfl rfl rfl rfl rfl (q_not rfl (by first | exact (rfl : (!true) = false) | exact (rfl : (!false) = true) | exact decide_not.symm | rfl)) ?_
                refine W_q rfl rfl rfl rfl (by first | exact q_pickT rfl rfl | exact q_pickF rfl rfl) ?_
                refine W_nil ?_
                refine L_then ?_
                refine C_false rfl ?_
                refine C_skip_then ?_
                refine C_seq ?_
                refine C_draw (n := 48) [(0, false), (1, false), (2, false), (3, false), (4, false), (5, false), (6, false), (7, false), (8, false), (9, false), (10, false), (11, false), (12, false), (13, false), (14, false), (15, false), (16, false), (17, false), (18, false), (19, false), (20, false), (21, false), (22, false), (23, false), (24, false), (25, false), (26, false), (27, false), (28, false), (29, false), (30, false), (31, false), (32, false), (33, false), (34, false), (35, false), (36, false), (37, false), (38, false), (39, false), (40, false), (41, false), (42, false), (43, false), (44, false), (45, false), (46, false), (47, false)] mixed (by kernel_rfl) ?_
                refine W_q rfl rfl rfl rfl (q_move rfl) ?_
                refine W_q rfl rfl rfl rfl (q_move rfl) ?_
                refine W_q rfl rfl rfl rfl (by first | exact q_index tb rfl rfl rfl rfl (by first | exact gvo | exact gvd gvo (by omega)) (by omega) (by first | omega | (simp; done) | (simp; omega)) | exact q_indexP tb rfl rfl rfl rfl (by omega) (by omega)) ?_
                refine W_q rfl rfl rfl rfl (by first | exact q_field tb rfl rfl rfl | exact q_fieldE tb rfl rfl rfl (by first | exact gvo | exact gvd gvo (by omega)) (by first | omega | (simp; done) | (simp; omega))) ?_
                refine W_q rfl rfl rfl rfl (by first | exact q_field tb rfl rfl rfl | exact q_fieldE tb rfl rfl rfl (by first | exact gvo | exact gvd gvo (by omega)) (by first | omega | (simp; done) | (simp; omega))) ?_
                refine W_q rfl rfl rfl rfl (by first | exact q_load tb rfl rfl bxo rfl | exact q_loadE tb rfl rfl (by first | exact gvo | exact gvd gvo (by omega)) (i := i) (o := 0) (by omega) helz rfl) ?_
                refine W_q rfl rfl rfl rfl (q_move rfl) ?_
                refine W_q rfl rfl rfl rfl (q_geq rfl rfl) ?_
                refine W_q rfl rfl rfl rfl (q_move rfl) ?_
                refine W_dec (d := 215) rfl (fun h15 => ?_) (fun h15 => ?_)
                · -- t215 True
                  refine W_qg rfl rfl rfl rfl rfl rfl rfl rfl (q_move rfl) ?_
                  refine W_qg rfl rfl rfl rfl rfl rfl rfl rfl (q_move rfl) ?_
                  refine W_qg rfl rfl rfl rfl rfl rfl rfl rfl (by first | exact q_index tb rfl rfl rfl rfl (by first | exact gvo | exact gvd gvo (by omega)) (by omega) (by first | omega | (simp; done) | (simp; omega)) | exact q_indexP tb rfl rfl rfl rfl (by omega) (by omega)) ?_
                  refine W_qg rfl rfl rfl rfl rfl rfl rfl rfl (by first | exact q_field tb rfl rfl rfl | exact q_fieldE tb rfl rfl rfl (by first | exact gvo | exact gvd gvo (by omega)) (by first | omega | (simp; done) | (simp; omega))) ?_
                  refine W_qg rfl rfl rfl rfl rfl rfl rfl rfl (by first | exact q_field tb rfl rfl rfl | exact q_fieldE tb rfl rfl rfl (by first | exact gvo | exact gvd gvo (by omega)) (by first | omega | (simp; done) | (simp; omega))) ?_
                  refine W_qg rfl rfl rfl rfl rfl rfl rfl rfl (by first | exact q_load tb rfl rfl bxo rfl | exact q_loadE tb rfl rfl (by first | exact gvo | exact gvd gvo (by omega)) (i := i) (o := 0) (by omega) helb rfl) ?_
                  refine W_qg rfl rfl rfl rfl rfl rfl rfl rfl (q_move rfl) ?_
                  refine W_qg rfl rfl rfl rfl rfl rfl rfl rfl (q_move rfl) ?_
                  refine W_qg rfl rfl rfl rfl rfl rfl rfl rfl (by first | exact q_index tb rfl rfl rfl rfl (by first | exact gvo | exact gvd gvo (by omega)) (by omega) (by first | omega | (simp; done) | (simp; omega)) | exact q_indexP tb rfl rfl rfl rfl (by omega) (by omega)) ?_
                  refine W_qg rfl rfl rfl rfl rfl rfl rfl rfl (by first | exact q_field tb rfl rfl rfl | exact q_fieldE tb rfl rfl rfl (by first | exact gvo | exact gvd gvo (by omega)) (by first | omega | (simp; done) | (simp; omega))) ?_
                  refine W_qg rfl rfl rfl rfl rfl rfl rfl rfl (by first | exact q_field tb rfl rfl rfl | exact q_fieldE tb rfl rfl rfl (by first | exact gvo | exact gvd gvo (by omega)) (by first | omega | (simp; done) | (simp; omega))) ?_
                  refine W_qg rfl rfl rfl rfl rfl rfl rfl rfl (by first | exact q_load tb rfl rfl bxo rfl | exact q_loadE tb rfl rfl (by first | exact gvo | exact gvd gvo (by omega)) (i := i) (o := 1) (by omega) hela rfl) ?_
                  refine W_qg rfl rfl rfl rfl rfl rfl rfl rfl (q_gtr rfl rfl) ?_
                  refine W_q rfl rfl rfl rfl (by first | exact q_pickT rfl rfl | exact q_pickF rfl rfl) ?_
                  refine W_q rfl rfl rfl rfl (q_move rfl) ?_
                  refine W_dec (d := 230) rfl (fun h16 => ?_) (fun h16 => ?_)
                  · -- t230 True
                    exfalso; clear d1 d2 d3 d4; have i3 := i1 (by omega); omega
                  · -- t230 False
                    refine W_qg rfl rfl rfl rfl rfl rfl rfl rfl (q_move rfl) ?_
                    refine W_qg rfl rfl rfl rfl rfl rfl rfl rfl (q_move rfl) ?_
                    refine W_qg rfl rfl rfl rfl rfl rfl rfl rfl (by first | exact q_index tb rfl rfl rfl rfl (by first | exact gvo | exact gvd gvo (by omega)) (by omega) (by first | omega | (simp; done) | (simp; omega)) | exact q_indexP tb rfl rfl rfl rfl (by omega) (by omega)) ?_
                    refine W_qg rfl rfl rfl rfl rfl rfl rfl rfl (by first | exact q_field tb rfl rfl rfl | exact q_fieldE tb rfl rfl rfl (by first | exact gvo | exact gvd gvo (by omega)) (by first | omega | (simp; done) | (simp; omega))) ?_
                    refine W_qg rfl rfl rfl rfl rfl rfl rfl rfl (by first | exact q_field tb rfl rfl rfl | exact q_fieldE tb rfl rfl rfl (by first | exact gvo | exact gvd gvo (by omega)) (by first | omega | (simp; done) | (simp; omega))) ?_
                    refine W_qg rfl rfl rfl rfl rfl rfl rfl rfl (by first | exact q_load tb rfl rfl bxo rfl | exact q_loadE tb rfl rfl (by first | exact gvo | exact gvd gvo (by omega)) (i := i) (o := 0) (by omega) helz rfl) ?_
                    refine W_qg rfl rfl rfl rfl rfl rfl rfl rfl (q_move rfl) ?_
                    refine W_qg rfl rfl rfl rfl rfl rfl rfl rfl (q_lss rfl rfl) ?_
                    refine W_qg rfl rfl rfl rfl rfl rfl rfl rfl (q_move rfl) ?_
                    refine W_dec (d := 239) rfl (fun h17 => ?_) (fun h17 => ?_)
                    · -- t239 True
                      refine W_qg rfl rfl rfl rfl rfl rfl rfl rfl (q_move rfl) ?_
                      refine W_qg rfl rfl rfl rfl rfl rfl rfl rfl (q_move rfl) ?_
                      refine W_qg rfl rfl rfl rfl rfl rfl rfl rfl (by first | exact q_index tb rfl rfl rfl rfl (by first | exact gvo | exact gvd gvo (by omega)) (by omega) (by first | omega | (simp; done) | (simp; omega)) | exact q_indexP tb rfl rfl rfl rfl (by omega) (by omega)) ?_
                      refine W_qg rfl rfl rfl rfl rfl rfl rfl rfl (by first | exact q_field tb rfl rfl rfl | exact q_fieldE tb rfl rfl rfl (by first | exact gvo | exact gvd gvo (by omega)) (by first | omega | (simp; done) | (simp; omega))) ?_
                      refine W_qg rfl rfl rfl rfl rfl rfl rfl rfl (by first | exact q_field tb rfl rfl rfl | exact q_fieldE tb rfl rfl rfl (by first | exact gvo | exact gvd gvo (by omega)) (by first | omega | (simp; done) | (simp; omega))) ?_
                      refine W_qg rfl rfl rfl rfl rfl rfl rfl rfl (by first | exact q_load tb rfl rfl bxo rfl | exact q_loadE tb rfl rfl (by first | exact gvo | exact gvd gvo (by omega)) (i := i) (o := 1) (by omega) helb rfl) ?_
                      refine W_qg rfl rfl rfl rfl rfl rfl rfl rfl (q_move rfl) ?_
                      refine W_qg rfl rfl rfl rfl rfl rfl rfl rfl (q_move rfl) ?_
                      refine W_qg rfl rfl rfl rfl rfl rfl rfl rfl (by first | exact q_index tb rfl rfl rfl rfl (by first | exact gvo | exact gvd gvo (by omega)) (by omega) (by first | omega | (simp; done) | (simp; omega)) | exact q_indexP tb rfl rfl rfl rfl (by omega) (by omega)) ?_
                      refine W_qg rfl rfl rfl rfl rfl rfl rfl rfl (by first | exact q_field tb rfl rfl rfl | exact q_fieldE tb rfl rfl rfl (by first | exact gvo | exact gvd gvo (by omega)) (by first | omega | (simp; done) | (simp; omega))) ?_
                      refine W_qg rfl rfl rfl rfl rfl rfl rfl rfl (by first | exact q_field tb rfl rfl rfl | exact q_fieldE tb rfl rfl rfl (by first | exact gvo | exact gvd gvo (by omega)) (by first | omega | (simp; done) | (simp; omega))) ?_
                      refine W_qg rfl rfl rfl rfl rfl rfl rfl rfl (by first | exact q_load tb rfl rfl bxo rfl | exact q_loadE tb rfl rfl (by first | exact gvo | exact gvd gvo (by omega)) (i := i) (o := 0) (by omega) hela rfl) ?_
                      refine W_qg rfl rfl rfl rfl rfl rfl rfl rfl (q_lss rfl rfl) ?_
                      refine W_qg rfl rfl rfl rfl rfl rfl rfl rfl (by first | exact q_pickT rfl rfl | exact q_pickF rfl rfl) ?_
                      refine W_q rfl rfl rfl rfl (by first | exact q_pickT rfl rfl | exact q_pickF rfl rfl) ?_
                      refine W_nil ?_
                      refine L_then ?_
                      refine C_dec rfl (fun h18 => ?_) (fun h18 => ?_)
                      · -- t254 True
                        exfalso; clear d1 d2 d3 d4; first | (have i3 := i1 (by omega); omega) | (have i3 := i2 (by omega); omega)
                      · -- t254 False
                        refine C_skip_blk ?_
                        refine C_region ?_
                        refine L_q rfl rfl rfl (q_move rfl) ?_
                        refine L_q rfl rfl rfl (q_add rfl rfl (by first | exact IntWalk.i64_in _ (by omega) | rfl)) ?_
                        refine L_q rfl rfl rfl (q_assign rfl) ?_
                        refine L_end ?_
                        exact fun ac_ wo_ hs_ => ⟨i + 1, (by dsimp only; omega), (by dsimp only; omega), hs_.weak ⟨rfl, rfl, rfl, rfl, rfl, rfl, rfl, rfl, trivial⟩ (fun h => h.pk (by repeat (first | with_reducible exact pk_nil | refine pk_box rfl ?_ | refine pk_rd rfl ?_ | refine pk_sl rfl ?_ | with_reducible refine pk_app ?_ | with_reducible refine pk_app0 ?_ | with_reducible exact pk_tl | refine pk_var ?_)))⟩
                    · -- t239 False
                      refine W_skip rfl rfl rfl rfl rfl rfl rfl rfl ?_
                      refine W_skip rfl rfl rfl rfl rfl rfl rfl rfl ?_
                      refine W_skip rfl rfl rfl rfl rfl rfl rfl rfl ?_
                      refine W_skip rfl rfl rfl rfl rfl rfl rfl rfl ?_
                      refine W_skip rfl rfl rfl rfl rfl rfl rfl rfl ?_
                      refine W_skip rfl rfl rfl rfl rfl rfl rfl rfl ?_
                      refine W_skip rfl rfl rfl rfl rfl rfl rfl rfl ?_
                      refine W_skip rfl rfl rfl rfl rfl rfl rfl rfl ?_
                      refine W_skip rfl rfl rfl rfl rfl rfl rfl rfl ?_
                      refine W_skip rfl rfl rfl rfl rfl rfl rfl rfl ?_
                      refine W_skip rfl rfl rfl rfl rfl rfl rfl rfl ?_
                      refine W_skip rfl rfl rfl rfl rfl rfl rfl rfl ?_
                      refine W_skip rfl rfl rfl rfl rfl rfl rfl rfl ?_
                      refine W_qg rfl rfl rfl rfl rfl rfl rfl rfl (by first | exact q_pickT rfl rfl | exact q_pickF rfl rfl) ?_
                      refine W_q rfl rfl rfl rfl (by first | exact q_pickT rfl rfl | exact q_pickF rfl rfl) ?_
                      refine W_nil ?_
                      refine L_then ?_
                      refine C_false rfl ?_
                      refine C_skip_blk ?_
                      refine C_region ?_
                      refine L_q rfl rfl rfl (q_move rfl) ?_
                      refine L_q rfl rfl rfl (q_add rfl rfl (by first | exact IntWalk.i64_in _ (by omega) | rfl)) ?_
                      refine L_q rfl rfl rfl (q_assign rfl) ?_
                      refine L_end ?_
                      exact fun ac_ wo_ hs_ => ⟨i + 1, (by dsimp only; omega), (by dsimp only; omega), hs_.weak ⟨rfl, rfl, rfl, rfl, rfl, rfl, rfl, rfl, trivial⟩ (fun h => h.pk (by repeat (first | with_reducible exact pk_nil | refine pk_box rfl ?_ | refine pk_rd rfl ?_ | refine pk_sl rfl ?_ | with_reducible refine pk_app ?_ | with_reducible refine pk_app0 ?_ | with_reducible exact pk_tl | refine pk_var ?_)))⟩
                · -- t215 False
                  refine W_skip rfl rfl rfl rfl rfl rfl rfl rfl ?_
                  refine W_skip rfl rfl rfl rfl rfl rfl rfl rfl ?_
                  refine W_skip rfl rfl rfl rfl rfl rfl rfl rfl ?_
                  refine W_skip rfl rfl rfl rfl rfl rfl rfl rfl ?_
                  refine W_skip rfl rfl rfl rfl rfl rfl rfl rfl ?_
                  refine W_skip rfl rfl rfl rfl rfl rfl rfl rfl ?_
                  refine W_skip rfl rfl rfl rfl rfl rfl rfl rfl ?_
                  refine W_skip rfl rfl rfl rfl rfl rfl rfl rfl ?_
                  refine W_skip rfl rfl rfl rfl rfl rfl rfl rfl ?_
                  refine W_skip rfl rfl rfl rfl rfl rfl rfl rfl ?_
                  refine W_skip rfl rfl rfl rfl rfl rfl rfl rfl ?_
                  refine W_skip rfl rfl rfl rfl rfl rfl rfl rfl ?_
                  refine W_skip rfl rfl rfl rfl rfl rfl rfl rfl ?_
                  refine W_q rfl rfl rfl rfl (by first | exact q_pickT rfl rfl | exact q_pickF rfl rfl) ?_
                  refine W_q rfl rfl rfl rfl (q_move rfl) ?_
                  refine W_qg rfl rfl rfl rfl rfl rfl rfl rfl (q_move rfl) ?_
                  refine W_qg rfl rfl rfl rfl rfl rfl rfl rfl (q_move rfl) ?_
                  refine W_qg rfl rfl rfl rfl rfl rfl rfl rfl (by first | exact q_index tb rfl rfl rfl rfl (by first | exact gvo | exact gvd gvo (by omega)) (by omega) (by first | omega | (simp; done) | (simp; omega)) | exact q_indexP tb rfl rfl rfl rfl (by omega) (by omega)) ?_
                  refine W_qg rfl rfl rfl rfl rfl rfl rfl rfl (by first | exact q_field tb rfl rfl rfl | exact q_fieldE tb rfl rfl rfl (by first | exact gvo | exact gvd gvo (by omega)) (by first | omega | (simp; done) | (simp; omega))) ?_
                  refine W_qg rfl rfl rfl rfl rfl rfl rfl rfl (by first | exact q_field tb rfl rfl rfl | exact q_fieldE tb rfl rfl rfl (by first | exact gvo | exact gvd gvo (by omega)) (by first | omega | (simp; done) | (simp; omega))) ?_
                  refine W_qg rfl rfl rfl rfl rfl rfl rfl rfl (by first | exact q_load tb rfl rfl bxo rfl | exact q_loadE tb rfl rfl (by first | exact gvo | exact gvd gvo (by omega)) (i := i) (o := 0) (by omega) helz rfl) ?_
                  refine W_qg rfl rfl rfl rfl rfl rfl rfl rfl (q_move rfl) ?_
                  refine W_qg rfl rfl rfl rfl rfl rfl rfl rfl (q_lss rfl rfl) ?_
                  refine W_qg rfl rfl rfl rfl rfl rfl rfl rfl (q_move rfl) ?_
                  refine W_dec (d := 239) rfl (fun h20 => ?_) (fun h20 => ?_)
                  · -- t239 True
                    refine W_qg rfl rfl rfl rfl rfl rfl rfl rfl (q_move rfl) ?_
                    refine W_qg rfl rfl rfl rfl rfl rfl rfl rfl (q_move rfl) ?_
                    refine W_qg rfl rfl rfl rfl rfl rfl rfl rfl (by first | exact q_index tb rfl rfl rfl rfl (by first | exact gvo | exact gvd gvo (by omega)) (by omega) (by first | omega | (simp; done) | (simp; omega)) | exact q_indexP tb rfl rfl rfl rfl (by omega) (by omega)) ?_
                    refine W_qg rfl rfl rfl rfl rfl rfl rfl rfl (by first | exact q_field tb rfl rfl rfl | exact q_fieldE tb rfl rfl rfl (by first | exact gvo | exact gvd gvo (by omega)) (by first | omega | (simp; done) | (simp; omega))) ?_
                    refine W_qg rfl rfl rfl rfl rfl rfl rfl rfl (by first | exact q_field tb rfl rfl rfl | exact q_fieldE tb rfl rfl rfl (by first | exact gvo | exact gvd gvo (by omega)) (by first | omega | (simp; done) | (simp; omega))) ?_
                    refine W_qg rfl rfl rfl rfl rfl rfl rfl rfl (by first | exact q_load tb rfl rfl bxo rfl | exact q_loadE tb rfl rfl (by first | exact gvo | exact gvd gvo (by omega)) (i := i) (o := 1) (by omega) helb rfl) ?_
                    refine W_qg rfl rfl rfl rfl rfl rfl rfl rfl (q_move rfl) ?_
                    refine W_qg rfl rfl rfl rfl rfl rfl rfl rfl (q_move rfl) ?_
                    refine W_qg rfl rfl rfl rfl rfl rfl rfl rfl (by first | exact q_index tb rfl rfl rfl rfl (by first | exact gvo | exact gvd gvo (by omega)) (by omega) (by first | omega | (simp; done) | (simp; omega)) | exact q_indexP tb rfl rfl rfl rfl (by omega) (by omega)) ?_
                    refine W_qg rfl rfl rfl rfl rfl rfl rfl rfl (by first | exact q_field tb rfl rfl rfl | exact q_fieldE tb rfl rfl rfl (by first | exact gvo | exact gvd gvo (by omega)) (by first | omega | (simp; done) | (simp; omega))) ?_
                    refine W_qg rfl rfl rfl rfl rfl rfl rfl rfl (by first | exact q_field tb rfl rfl rfl | exact q_fieldE tb rfl rfl rfl (by first | exact gvo | exact gvd gvo (by omega)) (by first | omega | (simp; done) | (simp; omega))) ?_
                    refine W_qg rfl rfl rfl rfl rfl rfl rfl rfl (by first | exact q_load tb rfl rfl bxo rfl | exact q_loadE tb rfl rfl (by first | exact gvo | exact gvd gvo (by omega)) (i := i) (o := 0) (by omega) hela rfl) ?_
                    refine W_qg rfl rfl rfl rfl rfl rfl rfl rfl (q_lss rfl rfl) ?_
                    refine W_qg rfl rfl rfl rfl rfl rfl rfl rfl (by first | exact q_pickT rfl rfl | exact q_pickF rfl rfl) ?_
                    refine W_q rfl rfl rfl rfl (by first | exact q_pickT rfl rfl | exact q_pickF rfl rfl) ?_
                    refine W_nil ?_
                    refine L_then ?_
                    refine C_dec rfl (fun h21 => ?_) (fun h21 => ?_)
                    · -- t254 True
                      exfalso; clear d1 d2 d3 d4; first | (have i3 := i1 (by omega); omega) | (have i3 := i2 (by omega); omega)
                    · -- t254 False
                      refine C_skip_blk ?_
                      refine C_region ?_
                      refine L_q rfl rfl rfl (q_move rfl) ?_
                      refine L_q rfl rfl rfl (q_add rfl rfl (by first | exact IntWalk.i64_in _ (by omega) | rfl)) ?_
                      refine L_q rfl rfl rfl (q_assign rfl) ?_
                      refine L_end ?_
                      exact fun ac_ wo_ hs_ => ⟨i + 1, (by dsimp only; omega), (by dsimp only; omega), hs_.weak ⟨rfl, rfl, rfl, rfl, rfl, rfl, rfl, rfl, trivial⟩ (fun h => h.pk (by repeat (first | with_reducible exact pk_nil | refine pk_box rfl ?_ | refine pk_rd rfl ?_ | refine pk_sl rfl ?_ | with_reducible refine pk_app ?_ | with_reducible refine pk_app0 ?_ | with_reducible exact pk_tl | refine pk_var ?_)))⟩
                  · -- t239 False
                    refine W_skip rfl rfl rfl rfl rfl rfl rfl rfl ?_
                    refine W_skip rfl rfl rfl rfl rfl rfl rfl rfl ?_
                    refine W_skip rfl rfl rfl rfl rfl rfl rfl rfl ?_
                    refine W_skip rfl rfl rfl rfl rfl rfl rfl rfl ?_
                    refine W_skip rfl rfl rfl rfl rfl rfl rfl rfl ?_
                    refine W_skip rfl rfl rfl rfl rfl rfl rfl rfl ?_
                    refine W_skip rfl rfl rfl rfl rfl rfl rfl rfl ?_
                    refine W_skip rfl rfl rfl rfl rfl rfl rfl rfl ?_
                    refine W_skip rfl rfl rfl rfl rfl rfl rfl rfl ?_
                    refine W_skip rfl rfl rfl rfl rfl rfl rfl rfl ?_
                    refine W_skip rfl rfl rfl rfl rfl rfl rfl rfl ?_
                    refine W_skip rfl rfl rfl rfl rfl rfl rfl rfl ?_
                    refine W_skip rfl rfl rfl rfl rfl rfl rfl rfl ?_
                    refine W_qg rfl rfl rfl rfl rfl rfl rfl rfl (by first | exact q_pickT rfl rfl | exact q_pickF rfl rfl) ?_
                    refine W_q rfl rfl rfl rfl (by first | exact q_pickT rfl rfl | exact q_pickF rfl rfl) ?_
                    refine W_nil ?_
                    refine L_then ?_
                    refine C_false rfl ?_
                    refine C_skip_blk ?_
                    refine C_region ?_
                    refine L_q rfl rfl rfl (q_move rfl) ?_
                    refine L_q rfl rfl rfl (q_add rfl rfl (by first | exact IntWalk.i64_in _ (by omega) | rfl)) ?_
                    refine L_q rfl rfl rfl (q_assign rfl) ?_
                    refine L_end ?_
                    exact fun ac_ wo_ hs_ => ⟨i + 1, (by dsimp only; omega), (by dsimp only; omega), hs_.weak ⟨rfl, rfl, rfl, rfl, rfl, rfl, rfl, rfl, trivial⟩ (fun h => h.pk (by repeat (first | with_reducible exact pk_nil | refine pk_box rfl ?_ | refine pk_rd rfl ?_ | refine pk_sl rfl ?_ | with_reducible refine pk_app ?_ | with_reducible refine pk_app0 ?_ | with_reducible exact pk_tl | refine pk_var ?_)))⟩
              · -- t142 False
                refine C_exit ?_
                change C Try.prog _ _ _ _ _ _ _
                refine C_seq ?_
                refine C_seq ?_
                refine C_region ?_
                refine L_q rfl rfl rfl (by first | exact q_field tb rfl rfl rfl | exact q_fieldE tb rfl rfl rfl (by first | exact gvo | exact gvd gvo (by omega)) (by first | omega | (simp; done) | (simp; omega))) ?_
                refine L_q rfl rfl rfl (by first | exact q_load tb rfl rfl bxo rfl | exact q_loadE tb rfl rfl (by first | exact gvo | exact gvd gvo (by omega)) (by omega) (by simp) rfl) ?_
                refine L_call tb rfl rfl (ct_shotlineref03_IsSurface x.f) no_ps rfl ?_
                refine L_q rfl rfl rfl (q_not rfl (by first | exact (rfl : (!true) = false) | exact (rfl : (!false) = true) | exact decide_not.symm | rfl)) ?_
                refine L_q rfl rfl rfl (q_move rfl) ?_
                refine L_dec (d := 259) rfl (fun h23 => ?_) (fun h23 => ?_)
                · -- t259 True
                  refine L_skip rfl rfl rfl rfl rfl rfl rfl ?_
                  refine L_skip rfl rfl rfl rfl rfl rfl rfl ?_
                  refine L_skip rfl rfl rfl rfl rfl rfl rfl ?_
                  refine L_skip rfl rfl rfl rfl rfl rfl rfl ?_
                  refine L_q rfl rfl rfl (by first | exact q_pickT rfl rfl | exact q_pickF rfl rfl) ?_
                  refine L_then ?_
                  refine C_true rfl ?_
                  refine C_seq ?_
                  refine C_region ?_
                  refine L_q rfl rfl rfl (q_assign rfl) ?_
                  refine L_then ?_
                  refine C_ret ?_
                  exact ret_of (res1 rfl rfl) sub_nil (by intro r hr; cases hr) ⟨(by first | rfl | exact congrArg Value.bool (decide_eq_decide.2 (by omega)) | exact congrArg Value.bool (decide_eq_true (by omega)).symm | exact congrArg Value.bool (decide_eq_false (by omega)).symm | exact congrArg Value.bool (decide_eq_true (by omega))), rfl⟩
                · -- t259 False
                  refine L_qg rfl rfl rfl rfl rfl rfl rfl (by first | exact q_field tb rfl rfl rfl | exact q_fieldE tb rfl rfl rfl (by first | exact gvo | exact gvd gvo (by omega)) (by first | omega | (simp; done) | (simp; omega))) ?_
                  refine L_qg rfl rfl rfl rfl rfl rfl rfl (by first | exact q_loadA tb rfl rfl bxo rfl rfl | exact q_loadEA tb rfl rfl (by first | exact gvo | exact gvd gvo (by omega)) (by omega) (by simp) rfl rfl) ?_
                  refine L_qg rfl rfl rfl rfl rfl rfl rfl (by first | exact q_build tb rfl rfl rfl rfl | exact q_buildArr tb rfl rfl rfl rfl rfl) ?_
                  refine L_qg rfl rfl rfl rfl rfl rfl rfl (q_neI (p := x.g.o = 210 ∧ x.g.h = 0) (xs := [x.g.o, x.g.h]) (ys := [210, 0]) eq25 (by omega) eg25 rfl rfl rfl rfl (by simp)) ?_
                  refine L_q rfl rfl rfl (by first | exact q_pickT rfl rfl | exact q_pickF rfl rfl) ?_
                  refine L_then ?_
                  refine C_dec rfl (fun h25 => ?_) (fun h25 => ?_)
                  · -- t264 True
                    refine C_seq ?_
                    refine C_region ?_
                    refine L_q rfl rfl rfl (q_assign rfl) ?_
                    refine L_then ?_
                    refine C_ret ?_
                    exact ret_of (res1 rfl rfl) sub_nil (by intro r hr; cases hr) ⟨(by first | rfl | exact congrArg Value.bool (decide_eq_decide.2 (by omega)) | exact congrArg Value.bool (decide_eq_true (by omega)).symm | exact congrArg Value.bool (decide_eq_false (by omega)).symm | exact congrArg Value.bool (decide_eq_true (by omega))), rfl⟩
                  · -- t264 False
                    have hg9 : x.g.o = 210 ∧ x.g.h = 0 := by omega
                    have hf9 : 400 ≤ x.f ∧ x.f ≤ 1100 := by omega
                    have hG9 : x.g = ⟨210, 0⟩ := by cases hq : x.g; rw [hq] at hg9; obtain ⟨q1, q2⟩ := hg9; dsimp only at q1 q2; rw [q1, q2]
                    have e3 : restE ts (numLs ns ts.length) x.f x.s = (restM ts (numLs ns ts.length) x.f x.s, 0) := restE_3 (fun hh => hh (ckLoads_mk hko)) (by omega)
                    have hm9 := rest_meet (p := x.f) (s := x.s) (f := 3) hko hf9 (by omega) (by decide)
                    rw [← hG9] at hm9
                    have hrl := restM_len (p := x.f) (s := x.s) hko.len
                    refine C_skip_then ?_
                    refine C_seq ?_
                    refine C_region ?_
                    refine L_q rfl rfl rfl (q_move rfl) ?_
                    refine L_q rfl rfl rfl (q_move rfl) ?_
                    refine L_q rfl rfl rfl (by first | exact q_field tb rfl rfl rfl | exact q_fieldE tb rfl rfl rfl (by first | exact gvo | exact gvd gvo (by omega)) (by first | omega | (simp; done) | (simp; omega))) ?_
                    refine L_q rfl rfl rfl (by first | exact q_load tb rfl rfl bxo rfl | exact q_loadE tb rfl rfl (by first | exact gvo | exact gvd gvo (by omega)) (by omega) (by simp) rfl) ?_
                    refine L_q rfl rfl rfl (by first | exact q_field tb rfl rfl rfl | exact q_fieldE tb rfl rfl rfl (by first | exact gvo | exact gvd gvo (by omega)) (by first | omega | (simp; done) | (simp; omega))) ?_
                    refine L_q rfl rfl rfl (by first | exact q_load tb rfl rfl bxo rfl | exact q_loadE tb rfl rfl (by first | exact gvo | exact gvd gvo (by omega)) (by omega) (by simp) rfl) ?_
                    refine L_callSN tb rfl rfl (ct_tissue_Rested _ _ x.f x.s ts (numLs ns ts.length) (by omega) (by omega)) (ps_cons (by first | exact gvo | exact gvd gvo (by omega)) (ps_cons (by first | exact gvo | exact gvd gvo (by omega)) no_ps)) rfl fun v272 => ?_
                    refine L_q rfl rfl rfl (q_move rfl) ?_
                    rw [e3]
                    refine L_q rfl rfl rfl (q_ext0 rfl) ?_
                    refine L_q rfl rfl rfl (q_ext1 rfl) ?_
                    refine L_q rfl rfl rfl (q_assign rfl) ?_
                    refine L_q rfl rfl rfl (q_assign rfl) ?_
                    refine L_then ?_
                    refine C_seq ?_
                    refine C_region ?_
                    refine L_q rfl rfl rfl (q_move rfl) ?_
                    refine L_q rfl rfl rfl (q_true (q_eql rfl rfl) (decide_eq_true rfl)) ?_
                    refine L_q rfl rfl rfl (q_move rfl) ?_
                    refine L_qg rfl rfl rfl rfl rfl rfl rfl (q_move rfl) ?_
                    refine L_qg rfl rfl rfl rfl rfl rfl rfl (q_move rfl) ?_
                    refine L_callg tb rfl rfl rfl rfl rfl rfl (ct_apart_no v272 v104 (restM ts (numLs ns ts.length) x.f x.s) (loadedM ts (numLs ns ts.length) ⟨x.f, x.f, x.s, x.g⟩ 3) (by omega) ⟨by omega, hm9⟩) (ps_cons (by first | exact gvo | exact gvd gvo (by omega)) (ps_cons (by first | exact gvo | exact gvd gvo (by omega)) no_ps)) rfl ?_
                    refine L_qg rfl rfl rfl rfl rfl rfl rfl (q_not rfl (by first | exact (rfl : (!true) = false) | exact (rfl : (!false) = true) | exact decide_not.symm | rfl)) ?_
                    refine L_q rfl rfl rfl (by first | exact q_pickT rfl rfl | exact q_pickF rfl rfl) ?_
                    refine L_q rfl rfl rfl (q_assign rfl) ?_
                    refine L_then ?_
                    refine C_ret ?_
                    exact ret_of (res1 rfl rfl) sub_nil (by intro r hr; cases hr) ⟨(by first | rfl | exact congrArg Value.bool (decide_eq_decide.2 (by omega)) | exact congrArg Value.bool (decide_eq_true (by omega)).symm | exact congrArg Value.bool (decide_eq_false (by omega)).symm | exact congrArg Value.bool (decide_eq_true (by omega))), rfl⟩
end Go.Proofs.Ytfhfadfnbnliiaa
