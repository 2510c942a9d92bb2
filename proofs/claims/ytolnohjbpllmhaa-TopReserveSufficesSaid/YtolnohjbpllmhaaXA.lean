/-
  Walks: each function named returns what its model says. Conditions: those in front of each theorem.
-/
import Derived.Test.YtolnohjbpllmhaaTab
import Derived.Test.YtolnohjbpllmhaaEncU
import Derived.Test.YtolnohjbpllmhaaShClo
namespace Go.Proofs.Ytolnohjbpllmhaa
open Go.RowKit

set_option maxRecDepth 100000 in
theorem ct_gas_within (n lo hi : Int) : Ct Try.prog 159 [.int .i64 n, .int .i64 lo, .int .i64 hi] [] (isV (.bool (decide (lo ≤ n ∧ n ≤ hi)))) := by
  refine Ct.of (N := 15) Try.func159 rfl rfl rfl fun w => ?_
  refine C_weak (E' := [(0, .int .i64 n), (1, .int .i64 lo), (2, .int .i64 hi)]) (rs' := []) ⟨rfl, rfl, rfl, trivial⟩ (fun _ h => h) ?_
  refine C_seq ?_
  refine C_region ?_
  refine L_q rfl rfl rfl (q_assign rfl) ?_
  refine L_then ?_
  refine C_seq ?_
  refine C_region ?_
  refine L_q rfl rfl rfl (q_move rfl) ?_
  refine L_q rfl rfl rfl (q_move rfl) ?_
  refine L_q rfl rfl rfl (q_leq rfl rfl) ?_
  refine L_q rfl rfl rfl (q_move rfl) ?_
  refine L_dec (d := 10) rfl (fun h1 => ?_) (fun h1 => ?_)
  · -- t10 True
    refine L_qg rfl rfl rfl rfl rfl rfl rfl (q_move rfl) ?_
    refine L_qg rfl rfl rfl rfl rfl rfl rfl (q_move rfl) ?_
    refine L_qg rfl rfl rfl rfl rfl rfl rfl (q_leq rfl rfl) ?_
    refine L_q rfl rfl rfl (by first | exact q_pickT rfl rfl | exact q_pickF rfl rfl) ?_
    refine L_q rfl rfl rfl (q_assign rfl) ?_
    refine L_then ?_
    refine C_ret ?_
    exact ret_of (res1 rfl rfl) sub_nil (by intro r hr; cases hr) ⟨(by first | rfl | exact congrArg Value.bool (decide_eq_decide.2 (by omega)) | exact congrArg Value.bool (decide_eq_true (by omega)).symm | exact congrArg Value.bool (decide_eq_false (by omega)).symm | exact congrArg Value.bool (decide_eq_true (by omega))), rfl⟩
  · -- t10 False
    refine L_skip rfl rfl rfl rfl rfl rfl rfl ?_
    refine L_skip rfl rfl rfl rfl rfl rfl rfl ?_
    refine L_skip rfl rfl rfl rfl rfl rfl rfl ?_
    refine L_q rfl rfl rfl (by first | exact q_pickT rfl rfl | exact q_pickF rfl rfl) ?_
    refine L_q rfl rfl rfl (q_assign rfl) ?_
    refine L_then ?_
    refine C_ret ?_
    exact ret_of (res1 rfl rfl) sub_nil (by intro r hr; cases hr) ⟨(by first | rfl | exact congrArg Value.bool (decide_eq_decide.2 (by omega)) | exact congrArg Value.bool (decide_eq_true (by omega)).symm | exact congrArg Value.bool (decide_eq_false (by omega)).symm | exact congrArg Value.bool (decide_eq_true (by omega))), rfl⟩
set_option maxRecDepth 100000 in
theorem ct_exposure_within (n lo hi : Int) : Ct Try.prog 93 [.int .i64 n, .int .i64 lo, .int .i64 hi] [] (isV (.bool (decide (lo ≤ n ∧ n ≤ hi)))) := by
  refine Ct.of (N := 15) Try.func93 rfl rfl rfl fun w => ?_
  refine C_weak (E' := [(0, .int .i64 n), (1, .int .i64 lo), (2, .int .i64 hi)]) (rs' := []) ⟨rfl, rfl, rfl, trivial⟩ (fun _ h => h) ?_
  refine C_seq ?_
  refine C_region ?_
  refine L_q rfl rfl rfl (q_assign rfl) ?_
  refine L_then ?_
  refine C_seq ?_
  refine C_region ?_
  refine L_q rfl rfl rfl (q_move rfl) ?_
  refine L_q rfl rfl rfl (q_move rfl) ?_
  refine L_q rfl rfl rfl (q_leq rfl rfl) ?_
  refine L_q rfl rfl rfl (q_move rfl) ?_
  refine L_dec (d := 10) rfl (fun h1 => ?_) (fun h1 => ?_)
  · -- t10 True
    refine L_qg rfl rfl rfl rfl rfl rfl rfl (q_move rfl) ?_
    refine L_qg rfl rfl rfl rfl rfl rfl rfl (q_move rfl) ?_
    refine L_qg rfl rfl rfl rfl rfl rfl rfl (q_leq rfl rfl) ?_
    refine L_q rfl rfl rfl (by first | exact q_pickT rfl rfl | exact q_pickF rfl rfl) ?_
    refine L_q rfl rfl rfl (q_assign rfl) ?_
    refine L_then ?_
    refine C_ret ?_
    exact ret_of (res1 rfl rfl) sub_nil (by intro r hr; cases hr) ⟨(by first | rfl | exact congrArg Value.bool (decide_eq_decide.2 (by omega)) | exact congrArg Value.bool (decide_eq_true (by omega)).symm | exact congrArg Value.bool (decide_eq_false (by omega)).symm | exact congrArg Value.bool (decide_eq_true (by omega))), rfl⟩
  · -- t10 False
    refine L_skip rfl rfl rfl rfl rfl rfl rfl ?_
    refine L_skip rfl rfl rfl rfl rfl rfl rfl ?_
    refine L_skip rfl rfl rfl rfl rfl rfl rfl ?_
    refine L_q rfl rfl rfl (by first | exact q_pickT rfl rfl | exact q_pickF rfl rfl) ?_
    refine L_q rfl rfl rfl (q_assign rfl) ?_
    refine L_then ?_
    refine C_ret ?_
    exact ret_of (res1 rfl rfl) sub_nil (by intro r hr; cases hr) ⟨(by first | rfl | exact congrArg Value.bool (decide_eq_decide.2 (by omega)) | exact congrArg Value.bool (decide_eq_true (by omega)).symm | exact congrArg Value.bool (decide_eq_false (by omega)).symm | exact congrArg Value.bool (decide_eq_true (by omega))), rfl⟩
set_option maxRecDepth 100000 in
theorem ct_profile_within (n lo hi : Int) : Ct Try.prog 152 [.int .i64 n, .int .i64 lo, .int .i64 hi] [] (isV (.bool (decide (lo ≤ n ∧ n ≤ hi)))) := by
  refine Ct.of (N := 15) Try.func152 rfl rfl rfl fun w => ?_
  refine C_weak (E' := [(0, .int .i64 n), (1, .int .i64 lo), (2, .int .i64 hi)]) (rs' := []) ⟨rfl, rfl, rfl, trivial⟩ (fun _ h => h) ?_
  refine C_seq ?_
  refine C_region ?_
  refine L_q rfl rfl rfl (q_assign rfl) ?_
  refine L_then ?_
  refine C_seq ?_
  refine C_region ?_
  refine L_q rfl rfl rfl (q_move rfl) ?_
  refine L_q rfl rfl rfl (q_move rfl) ?_
  refine L_q rfl rfl rfl (q_leq rfl rfl) ?_
  refine L_q rfl rfl rfl (q_move rfl) ?_
  refine L_dec (d := 10) rfl (fun h1 => ?_) (fun h1 => ?_)
  · -- t10 True
    refine L_qg rfl rfl rfl rfl rfl rfl rfl (q_move rfl) ?_
    refine L_qg rfl rfl rfl rfl rfl rfl rfl (q_move rfl) ?_
    refine L_qg rfl rfl rfl rfl rfl rfl rfl (q_leq rfl rfl) ?_
    refine L_q rfl rfl rfl (by first | exact q_pickT rfl rfl | exact q_pickF rfl rfl) ?_
    refine L_q rfl rfl rfl (q_assign rfl) ?_
    refine L_then ?_
    refine C_ret ?_
    exact ret_of (res1 rfl rfl) sub_nil (by intro r hr; cases hr) ⟨(by first | rfl | exact congrArg Value.bool (decide_eq_decide.2 (by omega)) | exact congrArg Value.bool (decide_eq_true (by omega)).symm | exact congrArg Value.bool (decide_eq_false (by omega)).symm | exact congrArg Value.bool (decide_eq_true (by omega))), rfl⟩
  · -- t10 False
    refine L_skip rfl rfl rfl rfl rfl rfl rfl ?_
    refine L_skip rfl rfl rfl rfl rfl rfl rfl ?_
    refine L_skip rfl rfl rfl rfl rfl rfl rfl ?_
    refine L_q rfl rfl rfl (by first | exact q_pickT rfl rfl | exact q_pickF rfl rfl) ?_
    refine L_q rfl rfl rfl (q_assign rfl) ?_
    refine L_then ?_
    refine C_ret ?_
    exact ret_of (res1 rfl rfl) sub_nil (by intro r hr; cases hr) ⟨(by first | rfl | exact congrArg Value.bool (decide_eq_decide.2 (by omega)) | exact congrArg Value.bool (decide_eq_true (by omega)).symm | exact congrArg Value.bool (decide_eq_false (by omega)).symm | exact congrArg Value.bool (decide_eq_true (by omega))), rfl⟩
set_option maxRecDepth 100000 in
theorem ct_shotlinebase_Within (n lo hi : Int) : Ct Try.prog 29 [.int .i64 n, .int .i64 lo, .int .i64 hi] [] (isV (.bool (decide (lo ≤ n ∧ n ≤ hi)))) := by
  refine Ct.of (N := 15) Try.func29 rfl rfl rfl fun w => ?_
  refine C_weak (E' := [(0, .int .i64 n), (1, .int .i64 lo), (2, .int .i64 hi)]) (rs' := []) ⟨rfl, rfl, rfl, trivial⟩ (fun _ h => h) ?_
  refine C_seq ?_
  refine C_region ?_
  refine L_q rfl rfl rfl (q_assign rfl) ?_
  refine L_then ?_
  refine C_seq ?_
  refine C_region ?_
  refine L_q rfl rfl rfl (q_move rfl) ?_
  refine L_q rfl rfl rfl (q_move rfl) ?_
  refine L_q rfl rfl rfl (q_leq rfl rfl) ?_
  refine L_q rfl rfl rfl (q_move rfl) ?_
  refine L_dec (d := 10) rfl (fun h1 => ?_) (fun h1 => ?_)
  · -- t10 True
    refine L_qg rfl rfl rfl rfl rfl rfl rfl (q_move rfl) ?_
    refine L_qg rfl rfl rfl rfl rfl rfl rfl (q_move rfl) ?_
    refine L_qg rfl rfl rfl rfl rfl rfl rfl (q_leq rfl rfl) ?_
    refine L_q rfl rfl rfl (by first | exact q_pickT rfl rfl | exact q_pickF rfl rfl) ?_
    refine L_q rfl rfl rfl (q_assign rfl) ?_
    refine L_then ?_
    refine C_ret ?_
    exact ret_of (res1 rfl rfl) sub_nil (by intro r hr; cases hr) ⟨(by first | rfl | exact congrArg Value.bool (decide_eq_decide.2 (by omega)) | exact congrArg Value.bool (decide_eq_true (by omega)).symm | exact congrArg Value.bool (decide_eq_false (by omega)).symm | exact congrArg Value.bool (decide_eq_true (by omega))), rfl⟩
  · -- t10 False
    refine L_skip rfl rfl rfl rfl rfl rfl rfl ?_
    refine L_skip rfl rfl rfl rfl rfl rfl rfl ?_
    refine L_skip rfl rfl rfl rfl rfl rfl rfl ?_
    refine L_q rfl rfl rfl (by first | exact q_pickT rfl rfl | exact q_pickF rfl rfl) ?_
    refine L_q rfl rfl rfl (q_assign rfl) ?_
    refine L_then ?_
    refine C_ret ?_
    exact ret_of (res1 rfl rfl) sub_nil (by intro r hr; cases hr) ⟨(by first | rfl | exact congrArg Value.bool (decide_eq_decide.2 (by omega)) | exact congrArg Value.bool (decide_eq_true (by omega)).symm | exact congrArg Value.bool (decide_eq_false (by omega)).symm | exact congrArg Value.bool (decide_eq_true (by omega))), rfl⟩
set_option maxRecDepth 100000 in
theorem ct_exposure_up (n b : Int) (h : 0 ≤ n ∧ 1 ≤ b ∧ n + b ≤ 9223372036854775807) : Ct Try.prog 104 [.int .i64 n, .int .i64 b] [] (isV (.int .i64 (upZ n b))) := by
  refine Ct.of (N := 11) Try.func104 rfl rfl rfl fun w => ?_
  refine C_weak (E' := [(0, .int .i64 n), (1, .int .i64 b)]) (rs' := []) ⟨rfl, rfl, trivial⟩ (fun _ h => h) ?_
  refine C_seq ?_
  refine C_region ?_
  refine L_q rfl rfl rfl (q_assign rfl) ?_
  refine L_then ?_
  refine C_seq ?_
  refine C_region ?_
  refine L_q rfl rfl rfl (q_move rfl) ?_
  refine L_q rfl rfl rfl (q_move rfl) ?_
  refine L_q rfl rfl rfl (q_add rfl rfl (by first | exact IntWalk.i64_in _ (by omega) | rfl)) ?_
  refine L_q rfl rfl rfl (q_sub rfl rfl (by first | exact IntWalk.i64_in _ (by omega) | rfl)) ?_
  refine L_q rfl rfl rfl (q_move rfl) ?_
  refine L_q rfl rfl rfl (q_quo rfl rfl (by omega) (by first | exact IntWalk.i64_quo _ _ (by omega) | exact IntWalk.i64_quo' _ _ (by omega) | rfl)) ?_
  refine L_q rfl rfl rfl (q_assign rfl) ?_
  refine L_then ?_
  refine C_ret ?_
  exact ret_of (res1 rfl rfl) sub_nil (by intro r hr; cases hr) ⟨rfl, rfl⟩
set_option maxRecDepth 100000 in
theorem ct_gas_bound (n lo hi : Int) : Ct Try.prog 133 [.int .i64 n, .int .i64 lo, .int .i64 hi] [] (isV (.int .i64 (if lo ≤ n ∧ n ≤ hi then 0 else 2))) := by
  refine Ct.of (N := 12) Try.func133 rfl rfl rfl fun w => ?_
  refine C_weak (E' := [(0, .int .i64 n), (1, .int .i64 lo), (2, .int .i64 hi)]) (rs' := []) ⟨rfl, rfl, rfl, trivial⟩ (fun _ h => h) ?_
  refine C_seq ?_
  refine C_region ?_
  refine L_q rfl rfl rfl (q_assign rfl) ?_
  refine L_then ?_
  refine C_seq ?_
  refine C_seq ?_
  refine C_region ?_
  refine L_q rfl rfl rfl (q_move rfl) ?_
  refine L_q rfl rfl rfl (q_move rfl) ?_
  refine L_q rfl rfl rfl (q_move rfl) ?_
  refine L_call tb rfl rfl (ct_gas_within _ _ _) no_ps rfl ?_
  refine L_q rfl rfl rfl (q_not rfl (by first | exact (rfl : (!true) = false) | exact (rfl : (!false) = true) | exact decide_not.symm | rfl)) ?_
  refine L_then ?_
  refine C_dec rfl (fun h1 => ?_) (fun h1 => ?_)
  · -- t11 True
    refine C_seq ?_
    refine C_region ?_
    refine L_q rfl rfl rfl (q_assign rfl) ?_
    refine L_then ?_
    refine C_ret ?_
    exact ret_of (res1 rfl rfl) sub_nil (by intro r hr; cases hr) ⟨(congrArg (Value.int .i64) (by split <;> omega)), rfl⟩
  · -- t11 False
    refine C_skip_then ?_
    refine C_seq ?_
    refine C_region ?_
    refine L_q rfl rfl rfl (q_assign rfl) ?_
    refine L_then ?_
    refine C_ret ?_
    exact ret_of (res1 rfl rfl) sub_nil (by intro r hr; cases hr) ⟨(congrArg (Value.int .i64) (by split <;> omega)), rfl⟩
set_option maxRecDepth 100000 in
theorem ct_gas_first (v : Value) (es : List Int) (hle : es.length ≤ 1000) : Ct Try.prog 132 [v] [(v, 1, es.map cI)] (isV (.int .i64 (firstE es))) := by
  refine Ct.of (N := 15) Try.func132 rfl rfl rfl fun w => ?_
  refine C_weak (E' := [(0, v)]) (rs' := [rd v 1 (es.map cI)]) ⟨rfl, trivial⟩ (fun _ h => h) ?_
  have hl := len_map cI es
  refine C_seq ?_
  refine C_region ?_
  refine L_q rfl rfl rfl (q_assign rfl) ?_
  refine L_then ?_
  refine C_seq ?_
  refine C_seq ?_
  refine C_region ?_
  refine L_q rfl rfl rfl (q_move rfl) ?_
  refine L_q rfl rfl rfl (q_len tb rfl rfl (by first | exact gvo | exact gvd gvo (by omega))) ?_
  refine L_q rfl rfl rfl (q_move rfl) ?_
  refine L_then ?_
  refine C_block ?_
  refine C_loop (ι := Nat) (fun k => ([(5, v), (6, .int .i64 (es.map cI).length), (7, .int .i64 k)], [rd v 1 (es.map cI)])) (fun k => k ≤ es.length ∧ firstE (es.drop k) = firstE es) (fun k => es.length - k) 0 ⟨Nat.zero_le _, rfl⟩ (fun a w hs => hs.weak ⟨rfl, rfl, rfl, trivial⟩ (fun h => h.pk (by repeat (first | with_reducible exact pk_nil | refine pk_box rfl ?_ | refine pk_rd rfl ?_ | refine pk_sl rfl ?_ | with_reducible refine pk_app ?_ | with_reducible refine pk_app0 ?_ | with_reducible refine pk_app0L ?_ | with_reducible exact pk_tl | refine pk_var ?_)))) ?_
  rintro k ⟨hk, hf⟩
  refine C_seq ?_
  refine C_region ?_
  refine L_q rfl rfl rfl (q_lss rfl rfl) ?_
  refine L_then ?_
  refine C_seq ?_
  refine C_dec rfl (fun h1 => ?_) (fun h1 => ?_)
  · -- t8 True
    obtain ⟨e, he⟩ := get_some es (k := k) (by omega); have hel := map_get cI he
    refine C_skip_then ?_
    refine C_seq ?_
    refine C_block ?_
    refine C_seq ?_
    refine C_region ?_
    refine L_q rfl rfl rfl (by first | exact q_index tb rfl rfl rfl rfl (by first | exact gvo | exact gvd gvo (by omega)) (by omega) (by first | omega | (simp; done) | (simp; omega)) | exact q_indexP tb rfl rfl rfl rfl (by omega) (by omega)) ?_
    refine L_q rfl rfl rfl (q_loadE tb rfl rfl (by first | exact gr0) (i := k) (o := 0) (by omega) hel rfl) ?_
    refine L_q rfl rfl rfl (q_assign rfl) ?_
    refine L_then ?_
    refine C_seq ?_
    refine C_region ?_
    refine L_q rfl rfl rfl (q_move rfl) ?_
    refine L_q rfl rfl rfl (q_neq rfl rfl) ?_
    refine L_then ?_
    refine C_dec rfl (fun h2 => ?_) (fun h2 => ?_)
    · -- t12 True
      refine C_seq ?_
      refine C_region ?_
      refine L_q rfl rfl rfl (q_move rfl) ?_
      refine L_q rfl rfl rfl (q_assign rfl) ?_
      refine L_then ?_
      refine C_ret ?_
      exact ret_of (res1 rfl rfl) sub_nil (by intro r hr; cases hr) ⟨(congrArg (Value.int .i64) (by rw [← hf, firstE_step he, if_neg (by omega)])), rfl⟩
    · -- t12 False
      refine C_skip_blk ?_
      refine C_region ?_
      refine L_q rfl rfl rfl (q_add rfl rfl (by first | exact IntWalk.i64_in _ (by omega) | rfl)) ?_
      refine L_q rfl rfl rfl (q_move rfl) ?_
      refine L_end ?_
      exact fun ac_ wo_ hs_ => ⟨k + 1, ⟨by omega, by rw [← hf, firstE_step he, if_pos (by omega)]⟩, (by dsimp only; omega), hs_.weak ⟨rfl, rfl, rfl, trivial⟩ (fun h => h.pk (by repeat (first | with_reducible exact pk_nil | refine pk_box rfl ?_ | refine pk_rd rfl ?_ | refine pk_sl rfl ?_ | with_reducible refine pk_app ?_ | with_reducible refine pk_app0 ?_ | with_reducible refine pk_app0L ?_ | with_reducible exact pk_tl | refine pk_var ?_)))⟩
  · -- t8 False
    refine C_exit ?_
    change C Try.prog _ _ _ _ _ _ _
    refine C_seq ?_
    refine C_region ?_
    refine L_q rfl rfl rfl (q_assign rfl) ?_
    refine L_then ?_
    refine C_ret ?_
    exact ret_of (res1 rfl rfl) sub_nil (by intro r hr; cases hr) ⟨(congrArg (Value.int .i64) (by rw [← hf, drop_all (by omega)]; rfl)), rfl⟩
set_option maxRecDepth 100000 in
theorem ct_gas_CheckGas (o h : Int) : Ct Try.prog 81 [.agg #[.int .i64 o, .int .i64 h]] [] (isV (.int .i64 (ckGas o h))) := by
  refine Ct.of (N := 21) Try.func81 rfl rfl rfl fun w => ?_
  refine C_weak (E' := [(0, .agg #[.int .i64 o, .int .i64 h])]) (rs' := []) ⟨rfl, trivial⟩ (fun _ h => h) ?_
  refine C_seq ?_
  refine C_region ?_
  refine L_box rfl rfl rfl fun g1 => ?_
  refine L_q rfl rfl rfl (q_assign rfl) ?_
  refine L_then ?_
  refine C_seq ?_
  refine C_seq ?_
  refine C_draw (n := 8) [(0, false), (1, false), (3, false), (4, false), (2, true), (5, true), (6, true), (7, true)] mixed (by kernel_rfl) ?_
  refine W_q rfl rfl rfl rfl (q_field tb rfl rfl rfl) ?_
  refine W_q rfl rfl rfl rfl (q_load tb rfl rfl bxo rfl) ?_
  refine W_q rfl rfl rfl rfl (q_field tb rfl rfl rfl) ?_
  refine W_q rfl rfl rfl rfl (q_load tb rfl rfl bxo rfl) ?_
  refine W_call tb rfl rfl rfl rfl (ct_gas_bound _ _ _) no_ps rfl ?_
  refine W_call tb rfl rfl rfl rfl (ct_gas_bound _ _ _) no_ps rfl ?_
  refine W_mk rfl (lo_bslice tb rfl rfl rfl (xs := [[_], [_]]) rfl rfl (by simp) rfl (by omega) rfl) rfl rfl rfl fun v10 => ?_
  refine W_call tb rfl rfl rfl rfl (ct_gas_first _ [_, _] (by simp)) (ps_cons (by first | exact gvo | exact gvd gvo (by omega)) no_ps) rfl ?_
  refine W_nil ?_
  refine L_q rfl rfl rfl (q_assign rfl) ?_
  refine L_then ?_
  refine C_seq ?_
  refine C_region ?_
  refine L_q rfl rfl rfl (q_move rfl) ?_
  refine L_q rfl rfl rfl (q_neq rfl rfl) ?_
  refine L_then ?_
  refine C_dec rfl (fun hc => ?_) (fun hc => ?_)
  · -- t13 True
    refine C_seq ?_
    refine C_region ?_
    refine L_q rfl rfl rfl (q_move rfl) ?_
    refine L_q rfl rfl rfl (q_assign rfl) ?_
    refine L_then ?_
    refine C_ret ?_
    exact ret_of (res1 rfl rfl) sub_nil (by intro r hr; cases hr) ⟨(congrArg (Value.int .i64) (by exact ckGas_a hc)), rfl⟩
  · -- t13 False
    have hb := ckGas_c hc
    refine C_skip_then ?_
    refine C_seq ?_
    refine C_seq ?_
    refine C_region ?_
    refine L_q rfl rfl rfl (q_field tb rfl rfl rfl) ?_
    refine L_q rfl rfl rfl (q_load tb rfl rfl bxo rfl) ?_
    refine L_q rfl rfl rfl (q_field tb rfl rfl rfl) ?_
    refine L_q rfl rfl rfl (q_load tb rfl rfl bxo rfl) ?_
    refine L_q rfl rfl rfl (q_add rfl rfl (by first | exact IntWalk.i64_in _ (by omega) | rfl)) ?_
    refine L_q rfl rfl rfl (q_gtr rfl rfl) ?_
    refine L_then ?_
    refine C_dec rfl (fun hd => ?_) (fun hd => ?_)
    · -- t20 True
      refine C_seq ?_
      refine C_region ?_
      refine L_q rfl rfl rfl (q_assign rfl) ?_
      refine L_then ?_
      refine C_ret ?_
      exact ret_of (res1 rfl rfl) sub_nil (by intro r hr; cases hr) ⟨(congrArg (Value.int .i64) (by rw [ckGas_b hc]; split <;> omega)), rfl⟩
    · -- t20 False
      refine C_skip_then ?_
      refine C_seq ?_
      refine C_region ?_
      refine L_q rfl rfl rfl (q_assign rfl) ?_
      refine L_then ?_
      refine C_ret ?_
      exact ret_of (res1 rfl rfl) sub_nil (by intro r hr; cases hr) ⟨(congrArg (Value.int .i64) (by rw [ckGas_b hc]; split <;> omega)), rfl⟩
set_option maxRecDepth 100000 in
theorem ct_shotlineref01_CheckGas (o h : Int) : Ct Try.prog 89 [.agg #[.int .i64 o, .int .i64 h]] [] (isV (.int .i64 (ckGas o h))) := by
  refine Ct.of (N := 19) Try.func89 rfl rfl rfl fun w => ?_
  refine C_weak (E' := [(0, .agg #[.int .i64 o, .int .i64 h])]) (rs' := []) ⟨rfl, trivial⟩ (fun _ h => h) ?_
  refine C_seq ?_
  refine C_region ?_
  refine L_box rfl rfl rfl fun g1 => ?_
  refine L_q rfl rfl rfl (q_assign rfl) ?_
  refine L_then ?_
  refine C_seq ?_
  refine C_seq ?_
  refine C_region ?_
  refine L_q rfl rfl rfl (q_field tb rfl rfl rfl) ?_
  refine L_q rfl rfl rfl (q_load tb rfl rfl bxo rfl) ?_
  refine L_call tb rfl rfl (ct_shotlinebase_Within _ _ _) no_ps rfl ?_
  refine L_q rfl rfl rfl (q_not rfl (by first | exact (rfl : (!true) = false) | exact (rfl : (!false) = true) | exact decide_not.symm | rfl)) ?_
  refine L_q rfl rfl rfl (q_move rfl) ?_
  refine L_dec (d := 7) rfl (fun h1 => ?_) (fun h1 => ?_)
  · -- t7 True
    refine L_skip rfl rfl rfl rfl rfl rfl rfl ?_
    refine L_skip rfl rfl rfl rfl rfl rfl rfl ?_
    refine L_skip rfl rfl rfl rfl rfl rfl rfl ?_
    refine L_skip rfl rfl rfl rfl rfl rfl rfl ?_
    refine L_q rfl rfl rfl (by first | exact q_pickT rfl rfl | exact q_pickF rfl rfl) ?_
    refine L_then ?_
    refine C_true rfl ?_
    refine C_seq ?_
    refine C_region ?_
    refine L_q rfl rfl rfl (q_assign rfl) ?_
    refine L_then ?_
    refine C_ret ?_
    exact ret_of (res1 rfl rfl) sub_nil (by intro r hr; cases hr) ⟨(congrArg (Value.int .i64) (by simp only [ckGas]; (repeat' split) <;> omega)), rfl⟩
  · -- t7 False
    refine L_qg rfl rfl rfl rfl rfl rfl rfl (q_field tb rfl rfl rfl) ?_
    refine L_qg rfl rfl rfl rfl rfl rfl rfl (q_load tb rfl rfl bxo rfl) ?_
    refine L_callg tb rfl rfl rfl rfl rfl rfl (ct_shotlinebase_Within _ _ _) no_ps rfl ?_
    refine L_qg rfl rfl rfl rfl rfl rfl rfl (q_not rfl (by first | exact (rfl : (!true) = false) | exact (rfl : (!false) = true) | exact decide_not.symm | rfl)) ?_
    refine L_q rfl rfl rfl (by first | exact q_pickT rfl rfl | exact q_pickF rfl rfl) ?_
    refine L_then ?_
    refine C_dec rfl (fun h3 => ?_) (fun h3 => ?_)
    · -- t12 True
      refine C_seq ?_
      refine C_region ?_
      refine L_q rfl rfl rfl (q_assign rfl) ?_
      refine L_then ?_
      refine C_ret ?_
      exact ret_of (res1 rfl rfl) sub_nil (by intro r hr; cases hr) ⟨(congrArg (Value.int .i64) (by simp only [ckGas]; (repeat' split) <;> omega)), rfl⟩
    · -- t12 False
      refine C_skip_then ?_
      refine C_seq ?_
      refine C_seq ?_
      refine C_region ?_
      refine L_q rfl rfl rfl (q_field tb rfl rfl rfl) ?_
      refine L_q rfl rfl rfl (q_load tb rfl rfl bxo rfl) ?_
      refine L_q rfl rfl rfl (q_field tb rfl rfl rfl) ?_
      refine L_q rfl rfl rfl (q_load tb rfl rfl bxo rfl) ?_
      refine L_q rfl rfl rfl (q_add rfl rfl (by first | exact IntWalk.i64_in _ (by omega) | rfl)) ?_
      refine L_q rfl rfl rfl (q_gtr rfl rfl) ?_
      refine L_then ?_
      refine C_dec rfl (fun h4 => ?_) (fun h4 => ?_)
      · -- t18 True
        refine C_seq ?_
        refine C_region ?_
        refine L_q rfl rfl rfl (q_assign rfl) ?_
        refine L_then ?_
        refine C_ret ?_
        exact ret_of (res1 rfl rfl) sub_nil (by intro r hr; cases hr) ⟨(congrArg (Value.int .i64) (by simp only [ckGas]; (repeat' split) <;> omega)), rfl⟩
      · -- t18 False
        refine C_skip_then ?_
        refine C_seq ?_
        refine C_region ?_
        refine L_q rfl rfl rfl (q_assign rfl) ?_
        refine L_then ?_
        refine C_ret ?_
        exact ret_of (res1 rfl rfl) sub_nil (by intro r hr; cases hr) ⟨(congrArg (Value.int .i64) (by simp only [ckGas]; (repeat' split) <;> omega)), rfl⟩
set_option maxRecDepth 100000 in
theorem ct_gas_CheckLimits (lo hi : Int) : Ct Try.prog 134 [.agg #[.int .i64 lo, .int .i64 hi]] [] (isV (.int .i64 (ckLim lo hi))) := by
  refine Ct.of (N := 20) Try.func134 rfl rfl rfl fun w => ?_
  refine C_weak (E' := [(0, .agg #[.int .i64 lo, .int .i64 hi])]) (rs' := []) ⟨rfl, trivial⟩ (fun _ h => h) ?_
  refine C_seq ?_
  refine C_region ?_
  refine L_box rfl rfl rfl fun g1 => ?_
  refine L_q rfl rfl rfl (q_assign rfl) ?_
  refine L_then ?_
  refine C_seq ?_
  refine C_seq ?_
  refine C_draw (n := 8) [(0, false), (1, false), (3, false), (4, false), (2, true), (5, true), (6, true), (7, true)] mixed (by kernel_rfl) ?_
  refine W_q rfl rfl rfl rfl (q_field tb rfl rfl rfl) ?_
  refine W_q rfl rfl rfl rfl (q_load tb rfl rfl bxo rfl) ?_
  refine W_q rfl rfl rfl rfl (q_field tb rfl rfl rfl) ?_
  refine W_q rfl rfl rfl rfl (q_load tb rfl rfl bxo rfl) ?_
  refine W_call tb rfl rfl rfl rfl (ct_gas_bound _ _ _) no_ps rfl ?_
  refine W_call tb rfl rfl rfl rfl (ct_gas_bound _ _ _) no_ps rfl ?_
  refine W_mk rfl (lo_bslice tb rfl rfl rfl (xs := [[_], [_]]) rfl rfl (by simp) rfl (by omega) rfl) rfl rfl rfl fun v10 => ?_
  refine W_call tb rfl rfl rfl rfl (ct_gas_first _ [_, _] (by simp)) (ps_cons (by first | exact gvo | exact gvd gvo (by omega)) no_ps) rfl ?_
  refine W_nil ?_
  refine L_q rfl rfl rfl (q_assign rfl) ?_
  refine L_then ?_
  refine C_seq ?_
  refine C_region ?_
  refine L_q rfl rfl rfl (q_move rfl) ?_
  refine L_q rfl rfl rfl (q_neq rfl rfl) ?_
  refine L_then ?_
  refine C_dec rfl (fun hc => ?_) (fun hc => ?_)
  · -- t13 True
    refine C_seq ?_
    refine C_region ?_
    refine L_q rfl rfl rfl (q_move rfl) ?_
    refine L_q rfl rfl rfl (q_assign rfl) ?_
    refine L_then ?_
    refine C_ret ?_
    exact ret_of (res1 rfl rfl) sub_nil (by intro r hr; cases hr) ⟨(congrArg (Value.int .i64) (by exact ckLim_a hc)), rfl⟩
  · -- t13 False
    have hb := ckLim_c hc
    refine C_skip_then ?_
    refine C_seq ?_
    refine C_seq ?_
    refine C_region ?_
    refine L_q rfl rfl rfl (q_field tb rfl rfl rfl) ?_
    refine L_q rfl rfl rfl (q_load tb rfl rfl bxo rfl) ?_
    refine L_q rfl rfl rfl (q_field tb rfl rfl rfl) ?_
    refine L_q rfl rfl rfl (q_load tb rfl rfl bxo rfl) ?_
    refine L_q rfl rfl rfl (q_gtr rfl rfl) ?_
    refine L_then ?_
    refine C_dec rfl (fun h2 => ?_) (fun h2 => ?_)
    · -- t19 True
      refine C_seq ?_
      refine C_region ?_
      refine L_q rfl rfl rfl (q_assign rfl) ?_
      refine L_then ?_
      refine C_ret ?_
      exact ret_of (res1 rfl rfl) sub_nil (by intro r hr; cases hr) ⟨(congrArg (Value.int .i64) (by rw [ckLim_b hc]; split <;> omega)), rfl⟩
    · -- t19 False
      refine C_skip_then ?_
      refine C_seq ?_
      refine C_region ?_
      refine L_q rfl rfl rfl (q_assign rfl) ?_
      refine L_then ?_
      refine C_ret ?_
      exact ret_of (res1 rfl rfl) sub_nil (by intro r hr; cases hr) ⟨(congrArg (Value.int .i64) (by rw [ckLim_b hc]; split <;> omega)), rfl⟩
set_option maxRecDepth 100000 in
theorem ct_shotlineref01_CheckLimits (lo hi : Int) : Ct Try.prog 102 [.agg #[.int .i64 lo, .int .i64 hi]] [] (isV (.int .i64 (ckLim lo hi))) := by
  refine Ct.of (N := 18) Try.func102 rfl rfl rfl fun w => ?_
  refine C_weak (E' := [(0, .agg #[.int .i64 lo, .int .i64 hi])]) (rs' := []) ⟨rfl, trivial⟩ (fun _ h => h) ?_
  refine C_seq ?_
  refine C_region ?_
  refine L_box rfl rfl rfl fun g1 => ?_
  refine L_q rfl rfl rfl (q_assign rfl) ?_
  refine L_then ?_
  refine C_seq ?_
  refine C_seq ?_
  refine C_region ?_
  refine L_q rfl rfl rfl (q_field tb rfl rfl rfl) ?_
  refine L_q rfl rfl rfl (q_load tb rfl rfl bxo rfl) ?_
  refine L_call tb rfl rfl (ct_shotlinebase_Within _ _ _) no_ps rfl ?_
  refine L_q rfl rfl rfl (q_not rfl (by first | exact (rfl : (!true) = false) | exact (rfl : (!false) = true) | exact decide_not.symm | rfl)) ?_
  refine L_q rfl rfl rfl (q_move rfl) ?_
  refine L_dec (d := 7) rfl (fun h1 => ?_) (fun h1 => ?_)
  · -- t7 True
    refine L_skip rfl rfl rfl rfl rfl rfl rfl ?_
    refine L_skip rfl rfl rfl rfl rfl rfl rfl ?_
    refine L_skip rfl rfl rfl rfl rfl rfl rfl ?_
    refine L_skip rfl rfl rfl rfl rfl rfl rfl ?_
    refine L_q rfl rfl rfl (by first | exact q_pickT rfl rfl | exact q_pickF rfl rfl) ?_
    refine L_then ?_
    refine C_true rfl ?_
    refine C_seq ?_
    refine C_region ?_
    refine L_q rfl rfl rfl (q_assign rfl) ?_
    refine L_then ?_
    refine C_ret ?_
    exact ret_of (res1 rfl rfl) sub_nil (by intro r hr; cases hr) ⟨(congrArg (Value.int .i64) (by simp only [ckLim]; (repeat' split) <;> omega)), rfl⟩
  · -- t7 False
    refine L_qg rfl rfl rfl rfl rfl rfl rfl (q_field tb rfl rfl rfl) ?_
    refine L_qg rfl rfl rfl rfl rfl rfl rfl (q_load tb rfl rfl bxo rfl) ?_
    refine L_callg tb rfl rfl rfl rfl rfl rfl (ct_shotlinebase_Within _ _ _) no_ps rfl ?_
    refine L_qg rfl rfl rfl rfl rfl rfl rfl (q_not rfl (by first | exact (rfl : (!true) = false) | exact (rfl : (!false) = true) | exact decide_not.symm | rfl)) ?_
    refine L_q rfl rfl rfl (by first | exact q_pickT rfl rfl | exact q_pickF rfl rfl) ?_
    refine L_then ?_
    refine C_dec rfl (fun h3 => ?_) (fun h3 => ?_)
    · -- t12 True
      refine C_seq ?_
      refine C_region ?_
      refine L_q rfl rfl rfl (q_assign rfl) ?_
      refine L_then ?_
      refine C_ret ?_
      exact ret_of (res1 rfl rfl) sub_nil (by intro r hr; cases hr) ⟨(congrArg (Value.int .i64) (by simp only [ckLim]; (repeat' split) <;> omega)), rfl⟩
    · -- t12 False
      refine C_skip_then ?_
      refine C_seq ?_
      refine C_seq ?_
      refine C_region ?_
      refine L_q rfl rfl rfl (q_field tb rfl rfl rfl) ?_
      refine L_q rfl rfl rfl (q_load tb rfl rfl bxo rfl) ?_
      refine L_q rfl rfl rfl (q_field tb rfl rfl rfl) ?_
      refine L_q rfl rfl rfl (q_load tb rfl rfl bxo rfl) ?_
      refine L_q rfl rfl rfl (q_gtr rfl rfl) ?_
      refine L_then ?_
      refine C_dec rfl (fun h4 => ?_) (fun h4 => ?_)
      · -- t17 True
        refine C_seq ?_
        refine C_region ?_
        refine L_q rfl rfl rfl (q_assign rfl) ?_
        refine L_then ?_
        refine C_ret ?_
        exact ret_of (res1 rfl rfl) sub_nil (by intro r hr; cases hr) ⟨(congrArg (Value.int .i64) (by simp only [ckLim]; (repeat' split) <;> omega)), rfl⟩
      · -- t17 False
        refine C_skip_then ?_
        refine C_seq ?_
        refine C_region ?_
        refine L_q rfl rfl rfl (q_assign rfl) ?_
        refine L_then ?_
        refine C_ret ?_
        exact ret_of (res1 rfl rfl) sub_nil (by intro r hr; cases hr) ⟨(congrArg (Value.int .i64) (by simp only [ckLim]; (repeat' split) <;> omega)), rfl⟩
set_option maxRecDepth 100000 in
theorem ct_shotlinebase_Floor (n b : Int) (h : 1 ≤ b ∧ -9000000000000000000 ≤ n ∧ n ≤ 9000000000000000000) : Ct Try.prog 114 [.int .i64 n, .int .i64 b] [] (isV (.int .i64 (n / b))) := by
  refine Ct.of (N := 16) Try.func114 rfl rfl rfl fun w => ?_
  refine C_weak (E' := [(0, .int .i64 n), (1, .int .i64 b)]) (rs' := []) ⟨rfl, rfl, trivial⟩ (fun _ h => h) ?_
  refine C_seq ?_
  refine C_region ?_
  refine L_q rfl rfl rfl (q_assign rfl) ?_
  refine L_then ?_
  refine C_seq ?_
  refine C_region ?_
  refine L_q rfl rfl rfl (q_move rfl) ?_
  refine L_q rfl rfl rfl (q_move rfl) ?_
  refine L_q rfl rfl rfl (q_quo rfl rfl (by omega) (IntWalk.i64_quo' _ _ (by omega))) ?_
  refine L_q rfl rfl rfl (q_assign rfl) ?_
  refine L_then ?_
  refine C_seq ?_
  refine C_seq ?_
  refine C_region ?_
  refine L_q rfl rfl rfl (q_move rfl) ?_
  refine L_q rfl rfl rfl (q_move rfl) ?_
  refine L_q rfl rfl rfl (q_rem rfl rfl (by omega) rfl) ?_
  refine L_q rfl rfl rfl (q_lss rfl rfl) ?_
  refine L_then ?_
  refine C_dec rfl (fun hc => ?_) (fun hc => ?_)
  · -- t12 True
    have hf := floor_yes h.1 hc; have hn := tmod_neg hc; have hg := ediv_ge h.1 (show n ≤ 0 by omega); have hneg := ediv_np h.1 (show n ≤ 0 by omega)
    refine C_region ?_
    refine L_q rfl rfl rfl (q_move rfl) ?_
    refine L_q rfl rfl rfl (q_sub rfl rfl (by first | exact IntWalk.i64_in _ (by omega) | rfl)) ?_
    refine L_q rfl rfl rfl (q_assign rfl) ?_
    refine L_then ?_
    refine C_seq ?_
    refine C_region ?_
    refine L_q rfl rfl rfl (q_move rfl) ?_
    refine L_q rfl rfl rfl (q_assign rfl) ?_
    refine L_then ?_
    refine C_ret ?_
    exact ret_of (res1 rfl rfl) sub_nil (by intro r hr; cases hr) ⟨(congrArg (Value.int .i64) (by first | exact hf)), rfl⟩
  · -- t12 False
    have hf := floor_no h.1 hc
    refine C_skip_then ?_
    refine C_seq ?_
    refine C_region ?_
    refine L_q rfl rfl rfl (q_move rfl) ?_
    refine L_q rfl rfl rfl (q_assign rfl) ?_
    refine L_then ?_
    refine C_ret ?_
    exact ret_of (res1 rfl rfl) sub_nil (by intro r hr; cases hr) ⟨(congrArg (Value.int .i64) (by first | exact hf)), rfl⟩
set_option maxRecDepth 100000 in
theorem ct_shotlinebase_Ceil (n b : Int) (h : 1 ≤ b ∧ -9000000000000000000 ≤ n ∧ n ≤ 9000000000000000000) : Ct Try.prog 105 [.int .i64 n, .int .i64 b] [] (isV (.int .i64 (upZ n b))) := by
  refine Ct.of (N := 10) Try.func105 rfl rfl rfl fun w => ?_
  refine C_weak (E' := [(0, .int .i64 n), (1, .int .i64 b)]) (rs' := []) ⟨rfl, rfl, trivial⟩ (fun _ h => h) ?_
  refine C_seq ?_
  refine C_region ?_
  refine L_q rfl rfl rfl (q_assign rfl) ?_
  refine L_then ?_
  refine C_seq ?_
  refine C_region ?_
  refine L_q rfl rfl rfl (q_move rfl) ?_
  refine L_q rfl rfl rfl (q_neg rfl (by first | exact IntWalk.i64_in _ (by omega) | rfl)) ?_
  refine L_q rfl rfl rfl (q_move rfl) ?_
  refine L_call tb rfl rfl (ct_shotlinebase_Floor _ _ (by first | omega | exact ⟨by omega, by omega, by omega⟩)) no_ps rfl ?_
  refine L_q rfl rfl rfl (q_neg rfl rfl) ?_
  refine L_q rfl rfl rfl (q_assign rfl) ?_
  refine L_then ?_
  refine C_ret ?_
  exact ret_of (res1 rfl rfl) sub_nil (by intro r hr; cases hr) ⟨(congrArg (Value.int .i64) (by have := neg_div h.1 h.2.1 h.2.2; rw [IntWalk.i64_in _ (by omega)]; exact ceil_up h.1)), rfl⟩
set_option maxRecDepth 100000 in
theorem ct_exposure_isBreath (n : Int) : Ct Try.prog 115 [.int .i64 n] [] (isV (.bool (decide (1 ≤ n ∧ n ≤ 100000)))) := by
  refine Ct.of (N := 5) Try.func115 rfl rfl rfl fun w => ?_
  refine C_weak (E' := [(0, .int .i64 n)]) (rs' := []) ⟨rfl, trivial⟩ (fun _ h => h) ?_
  refine C_seq ?_
  refine C_region ?_
  refine L_q rfl rfl rfl (q_assign rfl) ?_
  refine L_then ?_
  refine C_seq ?_
  refine C_region ?_
  refine L_q rfl rfl rfl (q_move rfl) ?_
  refine L_call tb rfl rfl (ct_exposure_within _ _ _) no_ps rfl ?_
  refine L_q rfl rfl rfl (q_assign rfl) ?_
  refine L_then ?_
  refine C_ret ?_
  exact ret_of (res1 rfl rfl) sub_nil (by intro r hr; cases hr) ⟨(by first | rfl | exact congrArg Value.bool (decide_eq_decide.2 (by omega)) | exact congrArg Value.bool (decide_eq_true (by omega)).symm | exact congrArg Value.bool (decide_eq_false (by omega)).symm | exact congrArg Value.bool (decide_eq_true (by omega))), rfl⟩
set_option maxRecDepth 100000 in
theorem ct_shotlineref05_IsBreath (n : Int) : Ct Try.prog 53 [.int .i64 n] [] (isV (.bool (decide (1 ≤ n ∧ n ≤ 100000)))) := by
  refine Ct.of (N := 5) Try.func53 rfl rfl rfl fun w => ?_
  refine C_weak (E' := [(0, .int .i64 n)]) (rs' := []) ⟨rfl, trivial⟩ (fun _ h => h) ?_
  refine C_seq ?_
  refine C_region ?_
  refine L_q rfl rfl rfl (q_assign rfl) ?_
  refine L_then ?_
  refine C_seq ?_
  refine C_region ?_
  refine L_q rfl rfl rfl (q_move rfl) ?_
  refine L_call tb rfl rfl (ct_shotlinebase_Within _ _ _) no_ps rfl ?_
  refine L_q rfl rfl rfl (q_assign rfl) ?_
  refine L_then ?_
  refine C_ret ?_
  exact ret_of (res1 rfl rfl) sub_nil (by intro r hr; cases hr) ⟨(by first | rfl | exact congrArg Value.bool (decide_eq_decide.2 (by omega)) | exact congrArg Value.bool (decide_eq_true (by omega)).symm | exact congrArg Value.bool (decide_eq_false (by omega)).symm | exact congrArg Value.bool (decide_eq_true (by omega))), rfl⟩
set_option maxRecDepth 100000 in
theorem ct_exposure_isSurface (n : Int) : Ct Try.prog 82 [.int .i64 n] [] (isV (.bool (decide (400 ≤ n ∧ n ≤ 1100)))) := by
  refine Ct.of (N := 5) Try.func82 rfl rfl rfl fun w => ?_
  refine C_weak (E' := [(0, .int .i64 n)]) (rs' := []) ⟨rfl, trivial⟩ (fun _ h => h) ?_
  refine C_seq ?_
  refine C_region ?_
  refine L_q rfl rfl rfl (q_assign rfl) ?_
  refine L_then ?_
  refine C_seq ?_
  refine C_region ?_
  refine L_q rfl rfl rfl (q_move rfl) ?_
  refine L_call tb rfl rfl (ct_exposure_within _ _ _) no_ps rfl ?_
  refine L_q rfl rfl rfl (q_assign rfl) ?_
  refine L_then ?_
  refine C_ret ?_
  exact ret_of (res1 rfl rfl) sub_nil (by intro r hr; cases hr) ⟨(by first | rfl | exact congrArg Value.bool (decide_eq_decide.2 (by omega)) | exact congrArg Value.bool (decide_eq_true (by omega)).symm | exact congrArg Value.bool (decide_eq_false (by omega)).symm | exact congrArg Value.bool (decide_eq_true (by omega))), rfl⟩
set_option maxRecDepth 100000 in
theorem ct_shotlineref01_IsSurface (n : Int) : Ct Try.prog 38 [.int .i64 n] [] (isV (.bool (decide (400 ≤ n ∧ n ≤ 1100)))) := by
  refine Ct.of (N := 5) Try.func38 rfl rfl rfl fun w => ?_
  refine C_weak (E' := [(0, .int .i64 n)]) (rs' := []) ⟨rfl, trivial⟩ (fun _ h => h) ?_
  refine C_seq ?_
  refine C_region ?_
  refine L_q rfl rfl rfl (q_assign rfl) ?_
  refine L_then ?_
  refine C_seq ?_
  refine C_region ?_
  refine L_q rfl rfl rfl (q_move rfl) ?_
  refine L_call tb rfl rfl (ct_shotlinebase_Within _ _ _) no_ps rfl ?_
  refine L_q rfl rfl rfl (q_assign rfl) ?_
  refine L_then ?_
  refine C_ret ?_
  exact ret_of (res1 rfl rfl) sub_nil (by intro r hr; cases hr) ⟨(by first | rfl | exact congrArg Value.bool (decide_eq_decide.2 (by omega)) | exact congrArg Value.bool (decide_eq_true (by omega)).symm | exact congrArg Value.bool (decide_eq_false (by omega)).symm | exact congrArg Value.bool (decide_eq_true (by omega))), rfl⟩
set_option maxRecDepth 100000 in
theorem ct_shotlineref01_IsDepth (n : Int) : Ct Try.prog 39 [.int .i64 n] [] (isV (.bool (decide (0 ≤ n ∧ n ≤ 30000)))) := by
  refine Ct.of (N := 5) Try.func39 rfl rfl rfl fun w => ?_
  refine C_weak (E' := [(0, .int .i64 n)]) (rs' := []) ⟨rfl, trivial⟩ (fun _ h => h) ?_
  refine C_seq ?_
  refine C_region ?_
  refine L_q rfl rfl rfl (q_assign rfl) ?_
  refine L_then ?_
  refine C_seq ?_
  refine C_region ?_
  refine L_q rfl rfl rfl (q_move rfl) ?_
  refine L_call tb rfl rfl (ct_shotlinebase_Within _ _ _) no_ps rfl ?_
  refine L_q rfl rfl rfl (q_assign rfl) ?_
  refine L_then ?_
  refine C_ret ?_
  exact ret_of (res1 rfl rfl) sub_nil (by intro r hr; cases hr) ⟨(by first | rfl | exact congrArg Value.bool (decide_eq_decide.2 (by omega)) | exact congrArg Value.bool (decide_eq_true (by omega)).symm | exact congrArg Value.bool (decide_eq_false (by omega)).symm | exact congrArg Value.bool (decide_eq_true (by omega))), rfl⟩
set_option maxRecDepth 100000 in
theorem ct_shotlinebase_CopyGases (v : Value) (gs : List Gs) (hle : gs.length ≤ 100000) : Ct Try.prog 96 [v] [(v, 2, gs.map cGs)] (isSl 23 2 (gs.map cGs)) := by
  refine Ct.of (N := 6) Try.func96 rfl rfl rfl fun w => ?_
  refine C_weak (E' := [(0, v)]) (rs' := [rd v 2 (gs.map cGs)]) ⟨rfl, trivial⟩ (fun _ h => h) ?_
  have hl := len_map cGs gs
  refine C_seq ?_
  refine C_region ?_
  refine L_q rfl rfl rfl (q_assign rfl) ?_
  refine L_then ?_
  refine C_seq ?_
  refine C_region ?_
  refine L_mk (lo_bslice tb rfl rfl rfl (xs := []) rfl rfl (by simp) rfl (by omega) rfl) rfl rfl rfl fun v3 => ?_
  refine L_q rfl rfl rfl (q_move rfl) ?_
  first | (refine L_front1 ?_; refine L_append tb rfl rfl rfl (by omega) rfl rfl (by first | exact gvo | exact gvd gvo (by omega)) (oneGs gs) (by simp [maxLen]; omega) (by simp; omega) rfl fun v5 => ?_) | (refine L_front2 ?_; refine L_append tb rfl rfl rfl (by omega) rfl rfl (by first | exact gvo | exact gvd gvo (by omega)) (oneGs gs) (by simp [maxLen]; omega) (by simp; omega) rfl fun v5 => ?_) | (refine L_front3 ?_; refine L_append tb rfl rfl rfl (by omega) rfl rfl (by first | exact gvo | exact gvd gvo (by omega)) (oneGs gs) (by simp [maxLen]; omega) (by simp; omega) rfl fun v5 => ?_) | (refine L_front4 ?_; refine L_append tb rfl rfl rfl (by omega) rfl rfl (by first | exact gvo | exact gvd gvo (by omega)) (oneGs gs) (by simp [maxLen]; omega) (by simp; omega) rfl fun v5 => ?_) | (refine L_front5 ?_; refine L_append tb rfl rfl rfl (by omega) rfl rfl (by first | exact gvo | exact gvd gvo (by omega)) (oneGs gs) (by simp [maxLen]; omega) (by simp; omega) rfl fun v5 => ?_) | (refine L_front6 ?_; refine L_append tb rfl rfl rfl (by omega) rfl rfl (by first | exact gvo | exact gvd gvo (by omega)) (oneGs gs) (by simp [maxLen]; omega) (by simp; omega) rfl fun v5 => ?_) | (refine L_append tb rfl rfl rfl (by omega) rfl rfl (by first | exact gvo | exact gvd gvo (by omega)) (oneGs gs) (by simp [maxLen]; omega) (by simp; omega) rfl fun v5 => ?_)
  refine L_q rfl rfl rfl (q_assign rfl) ?_
  refine L_then ?_
  refine C_ret ?_
  exact ret_of (rs' := [sl v5 23 2 (gs.map cGs)]) (res1 rfl rfl) (fun _ h => h.sub (by repeat (first | exact List.Sublist.refl _ | apply List.Sublist.cons_cons | apply List.Sublist.cons))) own1 rfl
set_option maxRecDepth 100000 in
theorem ct_shotlinebase_CopyLegs (v : Value) (ls : List Dl) (hle : ls.length ≤ 100000) : Ct Try.prog 97 [v] [(v, 3, ls.map cDl)] (isSl 95 3 (ls.map cDl)) := by
  refine Ct.of (N := 6) Try.func97 rfl rfl rfl fun w => ?_
  refine C_weak (E' := [(0, v)]) (rs' := [rd v 3 (ls.map cDl)]) ⟨rfl, trivial⟩ (fun _ h => h) ?_
  have hl := len_map cDl ls
  refine C_seq ?_
  refine C_region ?_
  refine L_q rfl rfl rfl (q_assign rfl) ?_
  refine L_then ?_
  refine C_seq ?_
  refine C_region ?_
  refine L_mk (lo_bslice tb rfl rfl rfl (xs := []) rfl rfl (by simp) rfl (by omega) rfl) rfl rfl rfl fun v3 => ?_
  refine L_q rfl rfl rfl (q_move rfl) ?_
  first | (refine L_front1 ?_; refine L_append tb rfl rfl rfl (by omega) rfl rfl (by first | exact gvo | exact gvd gvo (by omega)) (oneDl ls) (by simp [maxLen]; omega) (by simp; omega) rfl fun v5 => ?_) | (refine L_front2 ?_; refine L_append tb rfl rfl rfl (by omega) rfl rfl (by first | exact gvo | exact gvd gvo (by omega)) (oneDl ls) (by simp [maxLen]; omega) (by simp; omega) rfl fun v5 => ?_) | (refine L_front3 ?_; refine L_append tb rfl rfl rfl (by omega) rfl rfl (by first | exact gvo | exact gvd gvo (by omega)) (oneDl ls) (by simp [maxLen]; omega) (by simp; omega) rfl fun v5 => ?_) | (refine L_front4 ?_; refine L_append tb rfl rfl rfl (by omega) rfl rfl (by first | exact gvo | exact gvd gvo (by omega)) (oneDl ls) (by simp [maxLen]; omega) (by simp; omega) rfl fun v5 => ?_) | (refine L_front5 ?_; refine L_append tb rfl rfl rfl (by omega) rfl rfl (by first | exact gvo | exact gvd gvo (by omega)) (oneDl ls) (by simp [maxLen]; omega) (by simp; omega) rfl fun v5 => ?_) | (refine L_front6 ?_; refine L_append tb rfl rfl rfl (by omega) rfl rfl (by first | exact gvo | exact gvd gvo (by omega)) (oneDl ls) (by simp [maxLen]; omega) (by simp; omega) rfl fun v5 => ?_) | (refine L_append tb rfl rfl rfl (by omega) rfl rfl (by first | exact gvo | exact gvd gvo (by omega)) (oneDl ls) (by simp [maxLen]; omega) (by simp; omega) rfl fun v5 => ?_)
  refine L_q rfl rfl rfl (q_assign rfl) ?_
  refine L_then ?_
  refine C_ret ?_
  exact ret_of (rs' := [sl v5 95 3 (ls.map cDl)]) (res1 rfl rfl) (fun _ h => h.sub (by repeat (first | exact List.Sublist.refl _ | apply List.Sublist.cons_cons | apply List.Sublist.cons))) own1 rfl
set_option maxRecDepth 100000 in
theorem ct_shotlinebase_CopyInts (v : Value) (ns : List Int) (hle : ns.length ≤ 100000) : Ct Try.prog 63 [v] [(v, 1, ns.map cI)] (isSl 3 1 (ns.map cI)) := by
  refine Ct.of (N := 6) Try.func63 rfl rfl rfl fun w => ?_
  refine C_weak (E' := [(0, v)]) (rs' := [rd v 1 (ns.map cI)]) ⟨rfl, trivial⟩ (fun _ h => h) ?_
  have hl := len_map cI ns
  refine C_seq ?_
  refine C_region ?_
  refine L_q rfl rfl rfl (q_assign rfl) ?_
  refine L_then ?_
  refine C_seq ?_
  refine C_region ?_
  refine L_mk (lo_bslice tb rfl rfl rfl (xs := []) rfl rfl (by simp) rfl (by omega) rfl) rfl rfl rfl fun v3 => ?_
  refine L_q rfl rfl rfl (q_move rfl) ?_
  first | (refine L_front1 ?_; refine L_append tb rfl rfl rfl (by omega) rfl rfl (by first | exact gvo | exact gvd gvo (by omega)) (oneI ns) (by simp [maxLen]; omega) (by simp; omega) rfl fun v5 => ?_) | (refine L_front2 ?_; refine L_append tb rfl rfl rfl (by omega) rfl rfl (by first | exact gvo | exact gvd gvo (by omega)) (oneI ns) (by simp [maxLen]; omega) (by simp; omega) rfl fun v5 => ?_) | (refine L_front3 ?_; refine L_append tb rfl rfl rfl (by omega) rfl rfl (by first | exact gvo | exact gvd gvo (by omega)) (oneI ns) (by simp [maxLen]; omega) (by simp; omega) rfl fun v5 => ?_) | (refine L_front4 ?_; refine L_append tb rfl rfl rfl (by omega) rfl rfl (by first | exact gvo | exact gvd gvo (by omega)) (oneI ns) (by simp [maxLen]; omega) (by simp; omega) rfl fun v5 => ?_) | (refine L_front5 ?_; refine L_append tb rfl rfl rfl (by omega) rfl rfl (by first | exact gvo | exact gvd gvo (by omega)) (oneI ns) (by simp [maxLen]; omega) (by simp; omega) rfl fun v5 => ?_) | (refine L_front6 ?_; refine L_append tb rfl rfl rfl (by omega) rfl rfl (by first | exact gvo | exact gvd gvo (by omega)) (oneI ns) (by simp [maxLen]; omega) (by simp; omega) rfl fun v5 => ?_) | (refine L_append tb rfl rfl rfl (by omega) rfl rfl (by first | exact gvo | exact gvd gvo (by omega)) (oneI ns) (by simp [maxLen]; omega) (by simp; omega) rfl fun v5 => ?_)
  refine L_q rfl rfl rfl (q_assign rfl) ?_
  refine L_then ?_
  refine C_ret ?_
  exact ret_of (rs' := [sl v5 3 1 (ns.map cI)]) (res1 rfl rfl) (fun _ h => h.sub (by repeat (first | exact List.Sublist.refl _ | apply List.Sublist.cons_cons | apply List.Sublist.cons))) own1 rfl
end Go.Proofs.Ytolnohjbpllmhaa
