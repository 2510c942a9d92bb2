/-
  Walks: each function named returns what its model says. Conditions: those in front of each theorem.
-/
import Derived.Test.YtfhfadfnbnliiaaT
namespace Go.Proofs.Ytfhfadfnbnliiaa
open Go.RowKit

set_option maxRecDepth 100000 in
theorem ct_shotlinetop_enclosed  : Ct Try.prog 74 [] [] (isV (.bool true)) := by
  refine Ct.of (N := 25) Try.func74 rfl rfl rfl fun w => ?_
  refine C_weak (E' := []) (rs' := []) trivial (fun _ h => h) ?_
  refine C_seq ?_
  refine C_region ?_
  refine L_q rfl rfl rfl (q_assign rfl) ?_
  refine L_then ?_
  refine C_seq ?_
  refine C_region ?_
  refine L_callS tb rfl rfl (ct_shotlinelaw03_One) no_ps rfl fun v4 => ?_
  refine L_callS tb rfl rfl (ct_shotlinelaw03_Fresh) no_ps rfl fun v5 => ?_
  refine L_call tb rfl rfl (ct_shotlinelaw03_Down) no_ps rfl ?_
  refine L_callSN tb rfl rfl (ct_ex_loaded _ _) (ps_cons (by first | exact gr0 | exact gs0 | exact (gv1 gr0) | exact (gv1 gs0) | exact (gv1 (gv1 gr0)) | exact (gv1 (gv1 gs0)) | exact (gv1 (gv1 (gv1 gr0))) | exact (gv1 (gv1 (gv1 gs0))) | exact (gv1 (gv1 (gv1 (gv1 gr0)))) | exact (gv1 (gv1 (gv1 (gv1 gs0)))) | exact (gv1 (gv1 (gv1 (gv1 (gv1 gr0))))) | exact (gv1 (gv1 (gv1 (gv1 (gv1 gs0))))) | exact (gv1 (gv1 (gv1 (gv1 (gv1 (gv1 gr0)))))) | exact (gv1 (gv1 (gv1 (gv1 (gv1 (gv1 gs0)))))) | exact gvd gr0 (by omega) | exact gvd gs0 (by omega) | exact gvd (gv1 gr0) (by omega) | exact gvd (gv1 gs0) (by omega) | exact gvd (gv1 (gv1 gr0)) (by omega) | exact gvd (gv1 (gv1 gs0)) (by omega) | exact gvd (gv1 (gv1 (gv1 gr0))) (by omega) | exact gvd (gv1 (gv1 (gv1 gs0))) (by omega)) (ps_cons (by first | exact gr0 | exact gs0 | exact (gv1 gr0) | exact (gv1 gs0) | exact (gv1 (gv1 gr0)) | exact (gv1 (gv1 gs0)) | exact (gv1 (gv1 (gv1 gr0))) | exact (gv1 (gv1 (gv1 gs0))) | exact (gv1 (gv1 (gv1 (gv1 gr0)))) | exact (gv1 (gv1 (gv1 (gv1 gs0)))) | exact (gv1 (gv1 (gv1 (gv1 (gv1 gr0))))) | exact (gv1 (gv1 (gv1 (gv1 (gv1 gs0))))) | exact (gv1 (gv1 (gv1 (gv1 (gv1 (gv1 gr0)))))) | exact (gv1 (gv1 (gv1 (gv1 (gv1 (gv1 gs0)))))) | exact gvd gr0 (by omega) | exact gvd gs0 (by omega) | exact gvd (gv1 gr0) (by omega) | exact gvd (gv1 gs0) (by omega) | exact gvd (gv1 (gv1 gr0)) (by omega) | exact gvd (gv1 (gv1 gs0)) (by omega) | exact gvd (gv1 (gv1 (gv1 gr0))) (by omega) | exact gvd (gv1 (gv1 (gv1 gs0))) (by omega)) no_ps)) rfl fun v7 => ?_
  refine L_q rfl rfl rfl (q_move rfl) ?_
  refine L_q rfl rfl rfl (q_ext0 rfl) ?_
  refine L_q rfl rfl rfl (q_ext1 rfl) ?_
  refine L_q rfl rfl rfl (q_assign rfl) ?_
  refine L_q rfl rfl rfl (q_assign rfl) ?_
  refine L_then ?_
  refine C_seq ?_
  refine C_region ?_
  refine L_q rfl rfl rfl (q_move rfl) ?_
  refine L_q rfl rfl rfl (q_true (q_eql rfl rfl) rfl) ?_
  refine L_q rfl rfl rfl (q_move rfl) ?_
  refine L_qg rfl rfl rfl rfl rfl rfl rfl (q_move rfl) ?_
  refine L_qg rfl rfl rfl rfl rfl rfl rfl (q_len tb rfl rfl (by first | exact gr0 | exact gs0 | exact (gv1 gr0) | exact (gv1 gs0) | exact (gv1 (gv1 gr0)) | exact (gv1 (gv1 gs0)) | exact (gv1 (gv1 (gv1 gr0))) | exact (gv1 (gv1 (gv1 gs0))) | exact (gv1 (gv1 (gv1 (gv1 gr0)))) | exact (gv1 (gv1 (gv1 (gv1 gs0)))) | exact (gv1 (gv1 (gv1 (gv1 (gv1 gr0))))) | exact (gv1 (gv1 (gv1 (gv1 (gv1 gs0))))) | exact (gv1 (gv1 (gv1 (gv1 (gv1 (gv1 gr0)))))) | exact (gv1 (gv1 (gv1 (gv1 (gv1 (gv1 gs0)))))) | exact gvd gr0 (by omega) | exact gvd gs0 (by omega) | exact gvd (gv1 gr0) (by omega) | exact gvd (gv1 gs0) (by omega) | exact gvd (gv1 (gv1 gr0)) (by omega) | exact gvd (gv1 (gv1 gs0)) (by omega) | exact gvd (gv1 (gv1 (gv1 gr0))) (by omega) | exact gvd (gv1 (gv1 (gv1 gs0))) (by omega))) ?_
  refine L_qg rfl rfl rfl rfl rfl rfl rfl (q_true (q_eql rfl rfl) rfl) ?_
  refine L_q rfl rfl rfl (by first | exact q_pickT rfl rfl | exact q_pickF rfl rfl) ?_
  refine L_q rfl rfl rfl (q_move rfl) ?_
  refine L_qg rfl rfl rfl rfl rfl rfl rfl (q_move rfl) ?_
  refine L_qg rfl rfl rfl rfl rfl rfl rfl (by first | exact q_index tb rfl rfl rfl rfl (by first | exact gr0 | exact gs0 | exact (gv1 gr0) | exact (gv1 gs0) | exact (gv1 (gv1 gr0)) | exact (gv1 (gv1 gs0)) | exact (gv1 (gv1 (gv1 gr0))) | exact (gv1 (gv1 (gv1 gs0))) | exact (gv1 (gv1 (gv1 (gv1 gr0)))) | exact (gv1 (gv1 (gv1 (gv1 gs0)))) | exact (gv1 (gv1 (gv1 (gv1 (gv1 gr0))))) | exact (gv1 (gv1 (gv1 (gv1 (gv1 gs0))))) | exact (gv1 (gv1 (gv1 (gv1 (gv1 (gv1 gr0)))))) | exact (gv1 (gv1 (gv1 (gv1 (gv1 (gv1 gs0)))))) | exact gvd gr0 (by omega) | exact gvd gs0 (by omega) | exact gvd (gv1 gr0) (by omega) | exact gvd (gv1 gs0) (by omega) | exact gvd (gv1 (gv1 gr0)) (by omega) | exact gvd (gv1 (gv1 gs0)) (by omega) | exact gvd (gv1 (gv1 (gv1 gr0))) (by omega) | exact gvd (gv1 (gv1 (gv1 gs0))) (by omega)) (by omega) (by first | omega | (simp; done) | (simp; omega)) | exact q_indexP tb rfl rfl rfl rfl (by omega) (by omega)) ?_
  refine L_qg rfl rfl rfl rfl rfl rfl rfl (by first | exact q_field tb rfl rfl rfl | exact q_fieldE tb rfl rfl rfl (by first | exact gr0 | exact gs0 | exact (gv1 gr0) | exact (gv1 gs0) | exact (gv1 (gv1 gr0)) | exact (gv1 (gv1 gs0)) | exact (gv1 (gv1 (gv1 gr0))) | exact (gv1 (gv1 (gv1 gs0))) | exact (gv1 (gv1 (gv1 (gv1 gr0)))) | exact (gv1 (gv1 (gv1 (gv1 gs0)))) | exact (gv1 (gv1 (gv1 (gv1 (gv1 gr0))))) | exact (gv1 (gv1 (gv1 (gv1 (gv1 gs0))))) | exact (gv1 (gv1 (gv1 (gv1 (gv1 (gv1 gr0)))))) | exact (gv1 (gv1 (gv1 (gv1 (gv1 (gv1 gs0)))))) | exact gvd gr0 (by omega) | exact gvd gs0 (by omega) | exact gvd (gv1 gr0) (by omega) | exact gvd (gv1 gs0) (by omega) | exact gvd (gv1 (gv1 gr0)) (by omega) | exact gvd (gv1 (gv1 gs0)) (by omega) | exact gvd (gv1 (gv1 (gv1 gr0))) (by omega) | exact gvd (gv1 (gv1 (gv1 gs0))) (by omega)) (by first | omega | (simp; done) | (simp; omega))) ?_
  refine L_qg rfl rfl rfl rfl rfl rfl rfl (by first | exact q_loadA tb rfl rfl (by first | exact m0 | exact m1 | exact m2 | exact m3 | exact m4 | exact m5 | exact m6 | exact m7 | exact m8) rfl rfl | exact q_loadEA tb rfl rfl (by first | exact gr0 | exact gs0 | exact (gv1 gr0) | exact (gv1 gs0) | exact (gv1 (gv1 gr0)) | exact (gv1 (gv1 gs0)) | exact (gv1 (gv1 (gv1 gr0))) | exact (gv1 (gv1 (gv1 gs0))) | exact (gv1 (gv1 (gv1 (gv1 gr0)))) | exact (gv1 (gv1 (gv1 (gv1 gs0)))) | exact (gv1 (gv1 (gv1 (gv1 (gv1 gr0))))) | exact (gv1 (gv1 (gv1 (gv1 (gv1 gs0))))) | exact (gv1 (gv1 (gv1 (gv1 (gv1 (gv1 gr0)))))) | exact (gv1 (gv1 (gv1 (gv1 (gv1 (gv1 gs0)))))) | exact gvd gr0 (by omega) | exact gvd gs0 (by omega) | exact gvd (gv1 gr0) (by omega) | exact gvd (gv1 gs0) (by omega) | exact gvd (gv1 (gv1 gr0)) (by omega) | exact gvd (gv1 (gv1 gs0)) (by omega) | exact gvd (gv1 (gv1 (gv1 gr0))) (by omega) | exact gvd (gv1 (gv1 (gv1 gs0))) (by omega)) (i := 0) (o := 0) (by rfl) rfl rfl rfl) ?_
  refine L_qg rfl rfl rfl rfl rfl rfl rfl (by first | exact q_build tb rfl rfl rfl rfl | exact q_buildArr tb rfl rfl rfl rfl rfl) ?_
  refine L_qg rfl rfl rfl rfl rfl rfl rfl (q_true (q_eqI (xs := [1087308, 1679809]) (ys := [1087308, 1679809]) eq44 (by omega) eg44 rfl rfl rfl rfl Iff.rfl) (by simp)) ?_
  refine L_q rfl rfl rfl (by first | exact q_pickT rfl rfl | exact q_pickF rfl rfl) ?_
  refine L_q rfl rfl rfl (q_assign rfl) ?_
  refine L_then ?_
  refine C_ret ?_
  exact ret_of (res1 rfl rfl) sub_nil (by intro r hr; cases hr) ⟨rfl, rfl⟩
set_option maxRecDepth 100000 in
theorem ct_shotlinetop_drawn (lo hi z a : Int) : Ct Try.prog 75 [.agg #[.int .i64 lo, .int .i64 hi], .int .i64 z, .int .i64 a] [] (isV (.bool (decide (lo ≤ hi ∧ min z a ≤ lo ∧ hi ≤ max z a)))) := by
  refine Ct.of (N := 28) Try.func75 rfl rfl rfl fun w => ?_
  refine C_weak (E' := [(0, .agg #[.int .i64 lo, .int .i64 hi]), (1, .int .i64 z), (2, .int .i64 a)]) (rs' := []) ⟨rfl, rfl, rfl, trivial⟩ (fun _ h => h) ?_
  refine C_seq ?_
  refine C_region ?_
  refine L_box rfl rfl rfl fun g3 => ?_
  refine L_q rfl rfl rfl (q_assign rfl) ?_
  refine L_then ?_
  refine C_seq ?_
  refine C_region ?_
  refine L_q rfl rfl rfl (by first | exact q_field tb rfl rfl rfl | exact q_fieldE tb rfl rfl rfl (by first | exact gvo | exact gvd gvo (by omega)) (by first | omega | (simp; done) | (simp; omega))) ?_
  refine L_q rfl rfl rfl (by first | exact q_load tb rfl rfl bxo rfl | exact q_loadE tb rfl rfl (by first | exact gvo | exact gvd gvo (by omega)) (by omega) (by simp) rfl) ?_
  refine L_q rfl rfl rfl (by first | exact q_field tb rfl rfl rfl | exact q_fieldE tb rfl rfl rfl (by first | exact gvo | exact gvd gvo (by omega)) (by first | omega | (simp; done) | (simp; omega))) ?_
  refine L_q rfl rfl rfl (by first | exact q_load tb rfl rfl bxo rfl | exact q_loadE tb rfl rfl (by first | exact gvo | exact gvd gvo (by omega)) (by omega) (by simp) rfl) ?_
  refine L_q rfl rfl rfl (q_leq rfl rfl) ?_
  refine L_q rfl rfl rfl (q_move rfl) ?_
  refine L_dec (d := 12) rfl (fun h1 => ?_) (fun h1 => ?_)
  · -- t12 True
    refine L_qg rfl rfl rfl rfl rfl rfl rfl (q_move rfl) ?_
    refine L_qg rfl rfl rfl rfl rfl rfl rfl (q_move rfl) ?_
    refine L_qg rfl rfl rfl rfl rfl rfl rfl (q_min rfl rfl) ?_
    refine L_qg rfl rfl rfl rfl rfl rfl rfl (by first | exact q_field tb rfl rfl rfl | exact q_fieldE tb rfl rfl rfl (by first | exact gvo | exact gvd gvo (by omega)) (by first | omega | (simp; done) | (simp; omega))) ?_
    refine L_qg rfl rfl rfl rfl rfl rfl rfl (by first | exact q_load tb rfl rfl bxo rfl | exact q_loadE tb rfl rfl (by first | exact gvo | exact gvd gvo (by omega)) (by omega) (by simp) rfl) ?_
    refine L_qg rfl rfl rfl rfl rfl rfl rfl (q_leq rfl rfl) ?_
    refine L_q rfl rfl rfl (by first | exact q_pickT rfl rfl | exact q_pickF rfl rfl) ?_
    refine L_q rfl rfl rfl (q_move rfl) ?_
    refine L_dec (d := 20) rfl (fun h2 => ?_) (fun h2 => ?_)
    · -- t20 True
      refine L_qg rfl rfl rfl rfl rfl rfl rfl (by first | exact q_field tb rfl rfl rfl | exact q_fieldE tb rfl rfl rfl (by first | exact gvo | exact gvd gvo (by omega)) (by first | omega | (simp; done) | (simp; omega))) ?_
      refine L_qg rfl rfl rfl rfl rfl rfl rfl (by first | exact q_load tb rfl rfl bxo rfl | exact q_loadE tb rfl rfl (by first | exact gvo | exact gvd gvo (by omega)) (by omega) (by simp) rfl) ?_
      refine L_qg rfl rfl rfl rfl rfl rfl rfl (q_move rfl) ?_
      refine L_qg rfl rfl rfl rfl rfl rfl rfl (q_move rfl) ?_
      refine L_qg rfl rfl rfl rfl rfl rfl rfl (q_max rfl rfl) ?_
      refine L_qg rfl rfl rfl rfl rfl rfl rfl (q_leq rfl rfl) ?_
      refine L_q rfl rfl rfl (by first | exact q_pickT rfl rfl | exact q_pickF rfl rfl) ?_
      refine L_q rfl rfl rfl (q_assign rfl) ?_
      refine L_then ?_
      refine C_ret ?_
      exact ret_of (res1 rfl rfl) sub_nil (by intro r hr; cases hr) ⟨(by first | rfl | exact congrArg Value.bool (decide_eq_decide.2 (by omega)) | exact congrArg Value.bool (decide_eq_true (by omega)).symm | exact congrArg Value.bool (decide_eq_false (by omega)).symm | exact congrArg Value.bool (decide_eq_true (by omega))), rfl⟩
    · -- t20 False
      refine L_skip rfl rfl rfl rfl rfl rfl rfl ?_
      refine L_skip rfl rfl rfl rfl rfl rfl rfl ?_
      refine L_skip rfl rfl rfl rfl rfl rfl rfl ?_
      refine L_skip rfl rfl rfl rfl rfl rfl rfl ?_
      refine L_skip rfl rfl rfl rfl rfl rfl rfl ?_
      refine L_skip rfl rfl rfl rfl rfl rfl rfl ?_
      refine L_q rfl rfl rfl (by first | exact q_pickT rfl rfl | exact q_pickF rfl rfl) ?_
      refine L_q rfl rfl rfl (q_assign rfl) ?_
      refine L_then ?_
      refine C_ret ?_
      exact ret_of (res1 rfl rfl) sub_nil (by intro r hr; cases hr) ⟨(by first | rfl | exact congrArg Value.bool (decide_eq_decide.2 (by omega)) | exact congrArg Value.bool (decide_eq_true (by omega)).symm | exact congrArg Value.bool (decide_eq_false (by omega)).symm | exact congrArg Value.bool (decide_eq_true (by omega))), rfl⟩
  · -- t12 False
    refine L_skip rfl rfl rfl rfl rfl rfl rfl ?_
    refine L_skip rfl rfl rfl rfl rfl rfl rfl ?_
    refine L_skip rfl rfl rfl rfl rfl rfl rfl ?_
    refine L_skip rfl rfl rfl rfl rfl rfl rfl ?_
    refine L_skip rfl rfl rfl rfl rfl rfl rfl ?_
    refine L_skip rfl rfl rfl rfl rfl rfl rfl ?_
    refine L_q rfl rfl rfl (by first | exact q_pickT rfl rfl | exact q_pickF rfl rfl) ?_
    refine L_q rfl rfl rfl (q_move rfl) ?_
    refine L_skip rfl rfl rfl rfl rfl rfl rfl ?_
    refine L_skip rfl rfl rfl rfl rfl rfl rfl ?_
    refine L_skip rfl rfl rfl rfl rfl rfl rfl ?_
    refine L_skip rfl rfl rfl rfl rfl rfl rfl ?_
    refine L_skip rfl rfl rfl rfl rfl rfl rfl ?_
    refine L_skip rfl rfl rfl rfl rfl rfl rfl ?_
    refine L_q rfl rfl rfl (by first | exact q_pickT rfl rfl | exact q_pickF rfl rfl) ?_
    refine L_q rfl rfl rfl (q_assign rfl) ?_
    refine L_then ?_
    refine C_ret ?_
    exact ret_of (res1 rfl rfl) sub_nil (by intro r hr; cases hr) ⟨(by first | rfl | exact congrArg Value.bool (decide_eq_decide.2 (by omega)) | exact congrArg Value.bool (decide_eq_true (by omega)).symm | exact congrArg Value.bool (decide_eq_false (by omega)).symm | exact congrArg Value.bool (decide_eq_true (by omega))), rfl⟩
set_option maxRecDepth 100000 in
theorem ct_shotlinetop_apart (v u : Value) (la lb : List Ld) (hle : la.length ≤ 100000) : Ct Try.prog 76 [v, u] [(v, 4, la.map cLd), (u, 4, lb.map cLd)] (isV (.bool (decide (¬ (la.length = lb.length ∧ meetP la lb))))) := by
  refine Ct.of (N := 75) Try.func76 rfl rfl rfl fun w => ?_
  refine C_weak (E' := [(0, v), (1, u)]) (rs' := [rd v 4 (la.map cLd), rd u 4 (lb.map cLd)]) ⟨rfl, rfl, trivial⟩ (fun _ h => h) ?_
  have hl := len_map cLd la; have hl2 := len_map cLd lb
  refine C_seq ?_
  refine C_region ?_
  refine L_q rfl rfl rfl (q_assign rfl) ?_
  refine L_then ?_
  refine C_seq ?_
  refine C_seq ?_
  refine C_region ?_
  refine L_q rfl rfl rfl (q_move rfl) ?_
  refine L_q rfl rfl rfl (q_len tb rfl rfl (by first | exact gvo | exact gvd gvo (by omega))) ?_
  refine L_q rfl rfl rfl (q_move rfl) ?_
  refine L_q rfl rfl rfl (q_len tb rfl rfl (by first | exact gvo | exact gvd gvo (by omega))) ?_
  refine L_q rfl rfl rfl (q_neq rfl rfl) ?_
  refine L_then ?_
  refine C_dec rfl (fun h1 => ?_) (fun h1 => ?_)
  · -- t10 True
    refine C_seq ?_
    refine C_region ?_
    refine L_q rfl rfl rfl (q_assign rfl) ?_
    refine L_then ?_
    refine C_ret ?_
    exact ret_of (res1 rfl rfl) sub_nil (by intro r hr; cases hr) ⟨(congrArg Value.bool (decide_eq_true (p := ¬ (la.length = lb.length ∧ meetP la lb)) (fun h => by omega)).symm), rfl⟩
  · -- t10 False
    refine C_skip_then ?_
    refine C_seq ?_
    refine C_seq ?_
    refine C_region ?_
    refine L_q rfl rfl rfl (q_assign rfl) ?_
    refine L_then ?_
    refine C_block ?_
    refine C_loop (ι := Nat) (fun k => ([(0, v), (1, u), (5, .int .i64 (k : Int))], [rd v 4 (la.map cLd), rd u 4 (lb.map cLd)])) (fun k => k ≤ la.length ∧ la.length = lb.length ∧ (meetP (la.drop k) (lb.drop k) ↔ meetP la lb)) (fun k => la.length - k) 0 ⟨Nat.zero_le _, by omega, Iff.rfl⟩ (fun a w hs => hs.weak ⟨rfl, rfl, rfl, trivial⟩ (fun h => h.pk (by repeat (first | with_reducible exact pk_nil | refine pk_box rfl ?_ | refine pk_rd rfl ?_ | refine pk_sl rfl ?_ | with_reducible refine pk_app ?_ | with_reducible refine pk_app0 ?_ | with_reducible exact pk_tl | refine pk_var ?_)))) ?_
    rintro k ⟨hk, hlen, hm9⟩
    dsimp only at hk hlen hm9 ⊢
    refine C_seq ?_
    refine C_seq ?_
    refine C_region ?_
    refine L_q rfl rfl rfl (q_move rfl) ?_
    refine L_q rfl rfl rfl (q_move rfl) ?_
    refine L_q rfl rfl rfl (q_len tb rfl rfl (by first | exact gvo | exact gvd gvo (by omega))) ?_
    refine L_q rfl rfl rfl (q_lss rfl rfl) ?_
    refine L_then ?_
    refine C_dec rfl (fun h2 => ?_) (fun h2 => ?_)
    · -- t14 True
      obtain ⟨x, hex⟩ := get_some la (k := k) (by omega); obtain ⟨y, hey⟩ := get_some lb (k := k) (by omega); have helx := map_get cLd hex; have hely := map_get cLd hey; have hst := all2_step (R := mt1) hex hey
      refine C_skip_then ?_
      refine C_seq ?_
      refine C_block ?_
      refine C_seq ?_
      refine C_draw (n := 58) [(0, false), (1, false), (2, false), (3, false), (4, false), (5, false), (6, false), (7, false), (8, false), (9, false), (10, false), (11, false), (12, false), (13, false), (14, false), (15, false), (16, false), (17, false), (18, false), (19, false), (20, false), (21, false), (22, false), (23, false), (24, false), (25, false), (26, false), (27, false), (28, false), (29, false), (30, false), (31, false), (32, false), (33, false), (34, false), (35, false), (36, false), (37, false), (38, false), (39, false), (40, false), (41, false), (42, false), (43, false), (44, false), (45, false), (46, false), (47, false), (48, false), (49, false), (50, false), (51, false), (52, false), (53, false), (54, false), (55, false), (56, false), (57, false)] mixed (by kernel_rfl) ?_
      refine W_q rfl rfl rfl rfl (q_move rfl) ?_
      refine W_q rfl rfl rfl rfl (q_move rfl) ?_
      refine W_q rfl rfl rfl rfl (by first | exact q_index tb rfl rfl rfl rfl (by first | exact gvo | exact gvd gvo (by omega)) (by omega) (by first | omega | (simp; done) | (simp; omega)) | exact q_indexP tb rfl rfl rfl rfl (by omega) (by omega)) ?_
      refine W_q rfl rfl rfl rfl (by first | exact q_field tb rfl rfl rfl | exact q_fieldE tb rfl rfl rfl (by first | exact gvo | exact gvd gvo (by omega)) (by first | omega | (simp; done) | (simp; omega))) ?_
      refine W_q rfl rfl rfl rfl (by first | exact q_field tb rfl rfl rfl | exact q_fieldE tb rfl rfl rfl (by first | exact gvo | exact gvd gvo (by omega)) (by first | omega | (simp; done) | (simp; omega))) ?_
      refine W_q rfl rfl rfl rfl (by first | exact q_load tb rfl rfl bxo rfl | exact q_loadE tb rfl rfl (by first | exact gvo | exact gvd gvo (by omega)) (i := k) (o := 0) (by omega) helx rfl) ?_
      refine W_q rfl rfl rfl rfl (q_move rfl) ?_
      refine W_q rfl rfl rfl rfl (q_move rfl) ?_
      refine W_q rfl rfl rfl rfl (by first | exact q_index tb rfl rfl rfl rfl (by first | exact gvo | exact gvd gvo (by omega)) (by omega) (by first | omega | (simp; done) | (simp; omega)) | exact q_indexP tb rfl rfl rfl rfl (by omega) (by omega)) ?_
      refine W_q rfl rfl rfl rfl (by first | exact q_field tb rfl rfl rfl | exact q_fieldE tb rfl rfl rfl (by first | exact gvo | exact gvd gvo (by omega)) (by first | omega | (simp; done) | (simp; omega))) ?_
      refine W_q rfl rfl rfl rfl (by first | exact q_field tb rfl rfl rfl | exact q_fieldE tb rfl rfl rfl (by first | exact gvo | exact gvd gvo (by omega)) (by first | omega | (simp; done) | (simp; omega))) ?_
      refine W_q rfl rfl rfl rfl (by first | exact q_load tb rfl rfl bxo rfl | exact q_loadE tb rfl rfl (by first | exact gvo | exact gvd gvo (by omega)) (i := k) (o := 1) (by omega) hely rfl) ?_
      refine W_q rfl rfl rfl rfl (q_gtr rfl rfl) ?_
      refine W_q rfl rfl rfl rfl (q_move rfl) ?_
      refine W_dec (d := 30) rfl (fun h3 => ?_) (fun h3 => ?_)
      · -- t30 True
        refine W_skip rfl rfl rfl rfl rfl rfl rfl rfl ?_
        refine W_skip rfl rfl rfl rfl rfl rfl rfl rfl ?_
        refine W_skip rfl rfl rfl rfl rfl rfl rfl rfl ?_
        refine W_skip rfl rfl rfl rfl rfl rfl rfl rfl ?_
        refine W_skip rfl rfl rfl rfl rfl rfl rfl rfl ?_
        refine W_skip rfl rfl rfl rfl rfl rfl rfl rfl ?_
        refine W_skip rfl rfl rfl rfl rfl rfl rfl rfl ?_
        refine W_skip rfl rfl rfl rfl rfl rfl rfl rfl ?_
        refine W_skip rfl rfl rfl rfl rfl rfl rfl rfl ?_
        refine W_skip rfl rfl rfl rfl rfl rfl rfl rfl ?_
        refine W_skip rfl rfl rfl rfl rfl rfl rfl rfl ?_
        refine W_skip rfl rfl rfl rfl rfl rfl rfl rfl ?_
        refine W_skip rfl rfl rfl rfl rfl rfl rfl rfl ?_
        refine W_q rfl rfl rfl rfl (by first | exact q_pickT rfl rfl | exact q_pickF rfl rfl) ?_
        refine W_q rfl rfl rfl rfl (q_move rfl) ?_
        refine W_skip rfl rfl rfl rfl rfl rfl rfl rfl ?_
        refine W_skip rfl rfl rfl rfl rfl rfl rfl rfl ?_
        refine W_skip rfl rfl rfl rfl rfl rfl rfl rfl ?_
        refine W_skip rfl rfl rfl rfl rfl rfl rfl rfl ?_
        refine W_skip rfl rfl rfl rfl rfl rfl rfl rfl ?_
        refine W_skip rfl rfl rfl rfl rfl rfl rfl rfl ?_
        refine W_skip rfl rfl rfl rfl rfl rfl rfl rfl ?_
        refine W_skip rfl rfl rfl rfl rfl rfl rfl rfl ?_
        refine W_skip rfl rfl rfl rfl rfl rfl rfl rfl ?_
        refine W_skip rfl rfl rfl rfl rfl rfl rfl rfl ?_
        refine W_skip rfl rfl rfl rfl rfl rfl rfl rfl ?_
        refine W_skip rfl rfl rfl rfl rfl rfl rfl rfl ?_
        refine W_skip rfl rfl rfl rfl rfl rfl rfl rfl ?_
        refine W_q rfl rfl rfl rfl (by first | exact q_pickT rfl rfl | exact q_pickF rfl rfl) ?_
        refine W_q rfl rfl rfl rfl (q_move rfl) ?_
        refine W_skip rfl rfl rfl rfl rfl rfl rfl rfl ?_
        refine W_skip rfl rfl rfl rfl rfl rfl rfl rfl ?_
        refine W_skip rfl rfl rfl rfl rfl rfl rfl rfl ?_
        refine W_skip rfl rfl rfl rfl rfl rfl rfl rfl ?_
        refine W_skip rfl rfl rfl rfl rfl rfl rfl rfl ?_
        refine W_skip rfl rfl rfl rfl rfl rfl rfl rfl ?_
        refine W_skip rfl rfl rfl rfl rfl rfl rfl rfl ?_
        refine W_skip rfl rfl rfl rfl rfl rfl rfl rfl ?_
        refine W_skip rfl rfl rfl rfl rfl rfl rfl rfl ?_
        refine W_skip rfl rfl rfl rfl rfl rfl rfl rfl ?_
        refine W_skip rfl rfl rfl rfl rfl rfl rfl rfl ?_
        refine W_skip rfl rfl rfl rfl rfl rfl rfl rfl ?_
        refine W_skip rfl rfl rfl rfl rfl rfl rfl rfl ?_
        refine W_q rfl rfl rfl rfl (by first | exact q_pickT rfl rfl | exact q_pickF rfl rfl) ?_
        refine W_nil ?_
        refine L_then ?_
        refine C_true rfl ?_
        refine C_seq ?_
        refine C_region ?_
        refine L_q rfl rfl rfl (q_assign rfl) ?_
        refine L_then ?_
        refine C_ret ?_
        exact ret_of (res1 rfl rfl) sub_nil (by intro r hr; cases hr) ⟨(congrArg Value.bool (decide_eq_true (p := ¬ (la.length = lb.length ∧ meetP la lb)) (fun h => by have h1 := (hst.1 (hm9.2 h.2)).1; unfold mt1 at h1; omega)).symm), rfl⟩
      · -- t30 False
        refine W_qg rfl rfl rfl rfl rfl rfl rfl rfl (q_move rfl) ?_
        refine W_qg rfl rfl rfl rfl rfl rfl rfl rfl (q_move rfl) ?_
        refine W_qg rfl rfl rfl rfl rfl rfl rfl rfl (by first | exact q_index tb rfl rfl rfl rfl (by first | exact gvo | exact gvd gvo (by omega)) (by omega) (by first | omega | (simp; done) | (simp; omega)) | exact q_indexP tb rfl rfl rfl rfl (by omega) (by omega)) ?_
        refine W_qg rfl rfl rfl rfl rfl rfl rfl rfl (by first | exact q_field tb rfl rfl rfl | exact q_fieldE tb rfl rfl rfl (by first | exact gvo | exact gvd gvo (by omega)) (by first | omega | (simp; done) | (simp; omega))) ?_
        refine W_qg rfl rfl rfl rfl rfl rfl rfl rfl (by first | exact q_field tb rfl rfl rfl | exact q_fieldE tb rfl rfl rfl (by first | exact gvo | exact gvd gvo (by omega)) (by first | omega | (simp; done) | (simp; omega))) ?_
        refine W_qg rfl rfl rfl rfl rfl rfl rfl rfl (by first | exact q_load tb rfl rfl bxo rfl | exact q_loadE tb rfl rfl (by first | exact gvo | exact gvd gvo (by omega)) (i := k) (o := 0) (by omega) hely rfl) ?_
        refine W_qg rfl rfl rfl rfl rfl rfl rfl rfl (q_move rfl) ?_
        refine W_qg rfl rfl rfl rfl rfl rfl rfl rfl (q_move rfl) ?_
        refine W_qg rfl rfl rfl rfl rfl rfl rfl rfl (by first | exact q_index tb rfl rfl rfl rfl (by first | exact gvo | exact gvd gvo (by omega)) (by omega) (by first | omega | (simp; done) | (simp; omega)) | exact q_indexP tb rfl rfl rfl rfl (by omega) (by omega)) ?_
        refine W_qg rfl rfl rfl rfl rfl rfl rfl rfl (by first | exact q_field tb rfl rfl rfl | exact q_fieldE tb rfl rfl rfl (by first | exact gvo | exact gvd gvo (by omega)) (by first | omega | (simp; done) | (simp; omega))) ?_
        refine W_qg rfl rfl rfl rfl rfl rfl rfl rfl (by first | exact q_field tb rfl rfl rfl | exact q_fieldE tb rfl rfl rfl (by first | exact gvo | exact gvd gvo (by omega)) (by first | omega | (simp; done) | (simp; omega))) ?_
        refine W_qg rfl rfl rfl rfl rfl rfl rfl rfl (by first | exact q_load tb rfl rfl bxo rfl | exact q_loadE tb rfl rfl (by first | exact gvo | exact gvd gvo (by omega)) (i := k) (o := 1) (by omega) helx rfl) ?_
        refine W_qg rfl rfl rfl rfl rfl rfl rfl rfl (q_gtr rfl rfl) ?_
        refine W_q rfl rfl rfl rfl (by first | exact q_pickT rfl rfl | exact q_pickF rfl rfl) ?_
        refine W_q rfl rfl rfl rfl (q_move rfl) ?_
        refine W_dec (d := 45) rfl (fun h5 => ?_) (fun h5 => ?_)
        · -- t45 True
          refine W_skip rfl rfl rfl rfl rfl rfl rfl rfl ?_
          refine W_skip rfl rfl rfl rfl rfl rfl rfl rfl ?_
          refine W_skip rfl rfl rfl rfl rfl rfl rfl rfl ?_
          refine W_skip rfl rfl rfl rfl rfl rfl rfl rfl ?_
          refine W_skip rfl rfl rfl rfl rfl rfl rfl rfl ?_
          refine W_skip rfl rfl rfl rfl rfl rfl rfl rfl ?_
          refine W_skip rfl rfl rfl rfl rfl rfl rfl rfl ?_
          refine W_skip rfl rfl rfl rfl rfl rfl rfl rfl ?_
          refine W_skip rfl rfl rfl rfl rfl rfl rfl rfl ?_
          refine W_skip rfl rfl rfl rfl rfl rfl rfl rfl ?_
          refine W_skip rfl rfl rfl rfl rfl rfl rfl rfl ?_
          refine W_skip rfl rfl rfl rfl rfl rfl rfl rfl ?_
          refine W_skip rfl rfl rfl rfl rfl rfl rfl rfl ?_
          refine W_q rfl rfl rfl rfl (by first | exact q_pickT rfl rfl | exact q_pickF rfl rfl) ?_
          refine W_q rfl rfl rfl rfl (q_move rfl) ?_
          refine W_skip rfl rfl rfl rfl rfl rfl rfl rfl ?_
          refine W_skip rfl rfl rfl rfl rfl rfl rfl rfl ?_
          refine W_skip rfl rfl rfl rfl rfl rfl rfl rfl ?_
          refine W_skip rfl rfl rfl rfl rfl rfl rfl rfl ?_
          refine W_skip rfl rfl rfl rfl rfl rfl rfl rfl ?_
          refine W_skip rfl rfl rfl rfl rfl rfl rfl rfl ?_
          refine W_skip rfl rfl rfl rfl rfl rfl rfl rfl ?_
          refine W_skip rfl rfl rfl rfl rfl rfl rfl rfl ?_
          refine W_skip rfl rfl rfl rfl rfl rfl rfl rfl ?_
          refine W_skip rfl rfl rfl rfl rfl rfl rfl rfl ?_
          refine W_skip rfl rfl rfl rfl rfl rfl rfl rfl ?_
          refine W_skip rfl rfl rfl rfl rfl rfl rfl rfl ?_
          refine W_skip rfl rfl rfl rfl rfl rfl rfl rfl ?_
          refine W_q rfl rfl rfl rfl (by first | exact q_pickT rfl rfl | exact q_pickF rfl rfl) ?_
          refine W_nil ?_
          refine L_then ?_
          refine C_true rfl ?_
          refine C_seq ?_
          refine C_region ?_
          refine L_q rfl rfl rfl (q_assign rfl) ?_
          refine L_then ?_
          refine C_ret ?_
          exact ret_of (res1 rfl rfl) sub_nil (by intro r hr; cases hr) ⟨(congrArg Value.bool (decide_eq_true (p := ¬ (la.length = lb.length ∧ meetP la lb)) (fun h => by have h1 := (hst.1 (hm9.2 h.2)).1; unfold mt1 at h1; omega)).symm), rfl⟩
        · -- t45 False
          refine W_qg rfl rfl rfl rfl rfl rfl rfl rfl (q_move rfl) ?_
          refine W_qg rfl rfl rfl rfl rfl rfl rfl rfl (q_move rfl) ?_
          refine W_qg rfl rfl rfl rfl rfl rfl rfl rfl (by first | exact q_index tb rfl rfl rfl rfl (by first | exact gvo | exact gvd gvo (by omega)) (by omega) (by first | omega | (simp; done) | (simp; omega)) | exact q_indexP tb rfl rfl rfl rfl (by omega) (by omega)) ?_
          refine W_qg rfl rfl rfl rfl rfl rfl rfl rfl (by first | exact q_field tb rfl rfl rfl | exact q_fieldE tb rfl rfl rfl (by first | exact gvo | exact gvd gvo (by omega)) (by first | omega | (simp; done) | (simp; omega))) ?_
          refine W_qg rfl rfl rfl rfl rfl rfl rfl rfl (by first | exact q_field tb rfl rfl rfl | exact q_fieldE tb rfl rfl rfl (by first | exact gvo | exact gvd gvo (by omega)) (by first | omega | (simp; done) | (simp; omega))) ?_
          refine W_qg rfl rfl rfl rfl rfl rfl rfl rfl (by first | exact q_load tb rfl rfl bxo rfl | exact q_loadE tb rfl rfl (by first | exact gvo | exact gvd gvo (by omega)) (i := k) (o := 2) (by omega) helx rfl) ?_
          refine W_qg rfl rfl rfl rfl rfl rfl rfl rfl (q_move rfl) ?_
          refine W_qg rfl rfl rfl rfl rfl rfl rfl rfl (q_move rfl) ?_
          refine W_qg rfl rfl rfl rfl rfl rfl rfl rfl (by first | exact q_index tb rfl rfl rfl rfl (by first | exact gvo | exact gvd gvo (by omega)) (by omega) (by first | omega | (simp; done) | (simp; omega)) | exact q_indexP tb rfl rfl rfl rfl (by omega) (by omega)) ?_
          refine W_qg rfl rfl rfl rfl rfl rfl rfl rfl (by first | exact q_field tb rfl rfl rfl | exact q_fieldE tb rfl rfl rfl (by first | exact gvo | exact gvd gvo (by omega)) (by first | omega | (simp; done) | (simp; omega))) ?_
          refine W_qg rfl rfl rfl rfl rfl rfl rfl rfl (by first | exact q_field tb rfl rfl rfl | exact q_fieldE tb rfl rfl rfl (by first | exact gvo | exact gvd gvo (by omega)) (by first | omega | (simp; done) | (simp; omega))) ?_
          refine W_qg rfl rfl rfl rfl rfl rfl rfl rfl (by first | exact q_load tb rfl rfl bxo rfl | exact q_loadE tb rfl rfl (by first | exact gvo | exact gvd gvo (by omega)) (i := k) (o := 3) (by omega) hely rfl) ?_
          refine W_qg rfl rfl rfl rfl rfl rfl rfl rfl (q_gtr rfl rfl) ?_
          refine W_q rfl rfl rfl rfl (by first | exact q_pickT rfl rfl | exact q_pickF rfl rfl) ?_
          refine W_q rfl rfl rfl rfl (q_move rfl) ?_
          refine W_dec (d := 60) rfl (fun h7 => ?_) (fun h7 => ?_)
          · -- t60 True
            refine W_skip rfl rfl rfl rfl rfl rfl rfl rfl ?_
            refine W_skip rfl rfl rfl rfl rfl rfl rfl rfl ?_
            refine W_skip rfl rfl rfl rfl rfl rfl rfl rfl ?_
            refine W_skip rfl rfl rfl rfl rfl rfl rfl rfl ?_
            refine W_skip rfl rfl rfl rfl rfl rfl rfl rfl ?_
            refine W_skip rfl rfl rfl rfl rfl rfl rfl rfl ?_
            refine W_skip rfl rfl rfl rfl rfl rfl rfl rfl ?_
            refine W_skip rfl rfl rfl rfl rfl rfl rfl rfl ?_
            refine W_skip rfl rfl rfl rfl rfl rfl rfl rfl ?_
            refine W_skip rfl rfl rfl rfl rfl rfl rfl rfl ?_
            refine W_skip rfl rfl rfl rfl rfl rfl rfl rfl ?_
            refine W_skip rfl rfl rfl rfl rfl rfl rfl rfl ?_
            refine W_skip rfl rfl rfl rfl rfl rfl rfl rfl ?_
            refine W_q rfl rfl rfl rfl (by first | exact q_pickT rfl rfl | exact q_pickF rfl rfl) ?_
            refine W_nil ?_
            refine L_then ?_
            refine C_true rfl ?_
            refine C_seq ?_
            refine C_region ?_
            refine L_q rfl rfl rfl (q_assign rfl) ?_
            refine L_then ?_
            refine C_ret ?_
            exact ret_of (res1 rfl rfl) sub_nil (by intro r hr; cases hr) ⟨(congrArg Value.bool (decide_eq_true (p := ¬ (la.length = lb.length ∧ meetP la lb)) (fun h => by have h1 := (hst.1 (hm9.2 h.2)).1; unfold mt1 at h1; omega)).symm), rfl⟩
          · -- t60 False
            refine W_qg rfl rfl rfl rfl rfl rfl rfl rfl (q_move rfl) ?_
            refine W_qg rfl rfl rfl rfl rfl rfl rfl rfl (q_move rfl) ?_
            refine W_qg rfl rfl rfl rfl rfl rfl rfl rfl (by first | exact q_index tb rfl rfl rfl rfl (by first | exact gvo | exact gvd gvo (by omega)) (by omega) (by first | omega | (simp; done) | (simp; omega)) | exact q_indexP tb rfl rfl rfl rfl (by omega) (by omega)) ?_
            refine W_qg rfl rfl rfl rfl rfl rfl rfl rfl (by first | exact q_field tb rfl rfl rfl | exact q_fieldE tb rfl rfl rfl (by first | exact gvo | exact gvd gvo (by omega)) (by first | omega | (simp; done) | (simp; omega))) ?_
            refine W_qg rfl rfl rfl rfl rfl rfl rfl rfl (by first | exact q_field tb rfl rfl rfl | exact q_fieldE tb rfl rfl rfl (by first | exact gvo | exact gvd gvo (by omega)) (by first | omega | (simp; done) | (simp; omega))) ?_
            refine W_qg rfl rfl rfl rfl rfl rfl rfl rfl (by first | exact q_load tb rfl rfl bxo rfl | exact q_loadE tb rfl rfl (by first | exact gvo | exact gvd gvo (by omega)) (i := k) (o := 2) (by omega) hely rfl) ?_
            refine W_qg rfl rfl rfl rfl rfl rfl rfl rfl (q_move rfl) ?_
            refine W_qg rfl rfl rfl rfl rfl rfl rfl rfl (q_move rfl) ?_
            refine W_qg rfl rfl rfl rfl rfl rfl rfl rfl (by first | exact q_index tb rfl rfl rfl rfl (by first | exact gvo | exact gvd gvo (by omega)) (by omega) (by first | omega | (simp; done) | (simp; omega)) | exact q_indexP tb rfl rfl rfl rfl (by omega) (by omega)) ?_
            refine W_qg rfl rfl rfl rfl rfl rfl rfl rfl (by first | exact q_field tb rfl rfl rfl | exact q_fieldE tb rfl rfl rfl (by first | exact gvo | exact gvd gvo (by omega)) (by first | omega | (simp; done) | (simp; omega))) ?_
            refine W_qg rfl rfl rfl rfl rfl rfl rfl rfl (by first | exact q_field tb rfl rfl rfl | exact q_fieldE tb rfl rfl rfl (by first | exact gvo | exact gvd gvo (by omega)) (by first | omega | (simp; done) | (simp; omega))) ?_
            refine W_qg rfl rfl rfl rfl rfl rfl rfl rfl (by first | exact q_load tb rfl rfl bxo rfl | exact q_loadE tb rfl rfl (by first | exact gvo | exact gvd gvo (by omega)) (i := k) (o := 3) (by omega) helx rfl) ?_
            refine W_qg rfl rfl rfl rfl rfl rfl rfl rfl (q_gtr rfl rfl) ?_
            refine W_q rfl rfl rfl rfl (by first | exact q_pickT rfl rfl | exact q_pickF rfl rfl) ?_
            refine W_nil ?_
            refine L_then ?_
            refine C_dec rfl (fun h9 => ?_) (fun h9 => ?_)
            · -- t74 True
              have hno : ¬ meetP la lb := fun h => by have h1 := (hst.1 (hm9.2 h)).1; unfold mt1 at h1; omega
              refine C_seq ?_
              refine C_region ?_
              refine L_q rfl rfl rfl (q_assign rfl) ?_
              refine L_then ?_
              refine C_ret ?_
              exact ret_of (res1 rfl rfl) sub_nil (by intro r hr; cases hr) ⟨(congrArg Value.bool (decide_eq_true (p := ¬ (la.length = lb.length ∧ meetP la lb)) (fun h => by have h1 := (hst.1 (hm9.2 h.2)).1; unfold mt1 at h1; omega)).symm), rfl⟩
            · -- t74 False
              refine C_skip_blk ?_
              refine C_region ?_
              refine L_q rfl rfl rfl (q_move rfl) ?_
              refine L_q rfl rfl rfl (q_add rfl rfl (by first | exact IntWalk.i64_in _ (by omega) | rfl)) ?_
              refine L_q rfl rfl rfl (q_assign rfl) ?_
              refine L_end ?_
              exact fun ac_ wo_ hs_ => ⟨k + 1, ⟨by omega, hlen, by rw [← hm9]; exact ⟨fun h => hst.2 ⟨by unfold mt1; omega, h⟩, fun h => (hst.1 h).2⟩⟩, (by show la.length - (k + 1) < la.length - k; omega), hs_.weak ⟨rfl, rfl, rfl, trivial⟩ (fun h => h.pk (by repeat (first | with_reducible exact pk_nil | refine pk_box rfl ?_ | refine pk_rd rfl ?_ | refine pk_sl rfl ?_ | with_reducible refine pk_app ?_ | with_reducible refine pk_app0 ?_ | with_reducible exact pk_tl | refine pk_var ?_)))⟩
    · -- t14 False
      have hme : meetP la lb := hm9.1 (all2_end (by omega))
      refine C_exit ?_
      change C Try.prog _ _ _ _ _ _ _
      refine C_seq ?_
      refine C_region ?_
      refine L_q rfl rfl rfl (q_assign rfl) ?_
      refine L_then ?_
      refine C_ret ?_
      exact ret_of (res1 rfl rfl) sub_nil (by intro r hr; cases hr) ⟨(congrArg Value.bool (decide_eq_false (p := ¬ (la.length = lb.length ∧ meetP la lb)) (fun h => h ⟨hlen, hme⟩)).symm), rfl⟩
theorem ct_drawn_yes (lo hi z a : Int) (h : lo ≤ hi ∧ min z a ≤ lo ∧ hi ≤ max z a) : Ct Try.prog 75 [.agg #[.int .i64 lo, .int .i64 hi], .int .i64 z, .int .i64 a] [] (isV (.bool true)) := by
  have h9 := ct_shotlinetop_drawn lo hi z a
  rw [decide_eq_true h] at h9
  exact h9

theorem ct_apart_no (v u : Value) (la lb : List Ld) (hle : la.length ≤ 100000) (h : la.length = lb.length ∧ meetP la lb) : Ct Try.prog 76 [v, u] [(v, 4, la.map cLd), (u, 4, lb.map cLd)] (isV (.bool false)) := by
  have h9 := ct_shotlinetop_apart v u la lb hle
  rw [decide_eq_false (fun hh => hh h)] at h9
  exact h9

end Go.Proofs.Ytfhfadfnbnliiaa
