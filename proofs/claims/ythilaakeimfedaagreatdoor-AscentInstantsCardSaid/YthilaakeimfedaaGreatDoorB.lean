/-
  Walks: each function named returns what its model says. Conditions: those in front of each theorem.
-/
import Derived.Test.YthilaakeimfedaaGreatDoorTab
import Derived.Test.YthilaakeimfedaaGreatDoorEx
import Derived.Test.YthilaakeimfedaaGreatDoorEqT
namespace Go.Proofs.YthilaakeimfedaaGreatDoor
open Go.RowKit

set_option maxRecDepth 100000 in
theorem ct_gas_within (n lo hi : Int) : Ct Tryz.prog 206 [.int .i64 n, .int .i64 lo, .int .i64 hi] [] (isV (.bool (decide (lo ≤ n ∧ n ≤ hi)))) := by
 refine Ct.of (N := 15) Tryz.func206 rfl rfl rfl fun w => ?_
 refine C_weak (E' := [(0, .int .i64 n), (1, .int .i64 lo), (2, .int .i64 hi)]) (rs' := []) ⟨rfl, rfl, rfl, trivial⟩ (fun _ h => h) ?_
 refine C_seq ?_
 refine C_region ?_
 refine Jq (q_assign rfl) ?_
 refine L_then ?_
 refine C_seq ?_
 refine C_region ?_
 refine Jq (q_move rfl) ?_
 refine Jq (q_move rfl) ?_
 refine Jq (q_leq rfl rfl) ?_
 refine Jq (q_move rfl) ?_
 refine L_dec (d := 10) rfl (fun h1 => ?_) (fun h1 => ?_)
 refine Jg (q_move rfl) ?_
 refine Jg (q_move rfl) ?_
 refine Jg (q_leq rfl rfl) ?_
 refine Jq (q_pickT rfl rfl) ?_
 refine Jq (q_assign rfl) ?_
 refine L_then ?_
 refine C_ret ?_
 exact ret_of (res1 rfl rfl) sub_nil (by intro r hr; cases hr) ⟨(by first | rfl | exact congrArg Value.bool (decide_eq_decide.2 (by omega)) | exact congrArg Value.bool (decide_eq_true (by omega)).symm | exact congrArg Value.bool (decide_eq_false (by omega)).symm | exact congrArg Value.bool (decide_eq_true (by omega))), rfl⟩
 iterate 3 refine Jk ?_
 refine Jq (q_pickF rfl rfl) ?_
 refine Jq (q_assign rfl) ?_
 refine L_then ?_
 refine C_ret ?_
 exact ret_of (res1 rfl rfl) sub_nil (by intro r hr; cases hr) ⟨(by first | rfl | exact congrArg Value.bool (decide_eq_decide.2 (by omega)) | exact congrArg Value.bool (decide_eq_true (by omega)).symm | exact congrArg Value.bool (decide_eq_false (by omega)).symm | exact congrArg Value.bool (decide_eq_true (by omega))), rfl⟩
set_option maxRecDepth 100000 in
theorem ct_tissue_within (n lo hi : Int) : Ct Tryz.prog 159 [.int .i64 n, .int .i64 lo, .int .i64 hi] [] (isV (.bool (decide (lo ≤ n ∧ n ≤ hi)))) := by
 refine Ct.of (N := 15) Tryz.func159 rfl rfl rfl fun w => ?_
 refine C_weak (E' := [(0, .int .i64 n), (1, .int .i64 lo), (2, .int .i64 hi)]) (rs' := []) ⟨rfl, rfl, rfl, trivial⟩ (fun _ h => h) ?_
 refine C_seq ?_
 refine C_region ?_
 refine Jq (q_assign rfl) ?_
 refine L_then ?_
 refine C_seq ?_
 refine C_region ?_
 refine Jq (q_move rfl) ?_
 refine Jq (q_move rfl) ?_
 refine Jq (q_leq rfl rfl) ?_
 refine Jq (q_move rfl) ?_
 refine L_dec (d := 10) rfl (fun h1 => ?_) (fun h1 => ?_)
 refine Jg (q_move rfl) ?_
 refine Jg (q_move rfl) ?_
 refine Jg (q_leq rfl rfl) ?_
 refine Jq (q_pickT rfl rfl) ?_
 refine Jq (q_assign rfl) ?_
 refine L_then ?_
 refine C_ret ?_
 exact ret_of (res1 rfl rfl) sub_nil (by intro r hr; cases hr) ⟨(by first | rfl | exact congrArg Value.bool (decide_eq_decide.2 (by omega)) | exact congrArg Value.bool (decide_eq_true (by omega)).symm | exact congrArg Value.bool (decide_eq_false (by omega)).symm | exact congrArg Value.bool (decide_eq_true (by omega))), rfl⟩
 iterate 3 refine Jk ?_
 refine Jq (q_pickF rfl rfl) ?_
 refine Jq (q_assign rfl) ?_
 refine L_then ?_
 refine C_ret ?_
 exact ret_of (res1 rfl rfl) sub_nil (by intro r hr; cases hr) ⟨(by first | rfl | exact congrArg Value.bool (decide_eq_decide.2 (by omega)) | exact congrArg Value.bool (decide_eq_true (by omega)).symm | exact congrArg Value.bool (decide_eq_false (by omega)).symm | exact congrArg Value.bool (decide_eq_true (by omega))), rfl⟩
set_option maxRecDepth 100000 in
theorem ct_shotlinebase_Within (n lo hi : Int) : Ct Tryz.prog 81 [.int .i64 n, .int .i64 lo, .int .i64 hi] [] (isV (.bool (decide (lo ≤ n ∧ n ≤ hi)))) := by
 refine Ct.of (N := 15) Tryz.func81 rfl rfl rfl fun w => ?_
 refine C_weak (E' := [(0, .int .i64 n), (1, .int .i64 lo), (2, .int .i64 hi)]) (rs' := []) ⟨rfl, rfl, rfl, trivial⟩ (fun _ h => h) ?_
 refine C_seq ?_
 refine C_region ?_
 refine Jq (q_assign rfl) ?_
 refine L_then ?_
 refine C_seq ?_
 refine C_region ?_
 refine Jq (q_move rfl) ?_
 refine Jq (q_move rfl) ?_
 refine Jq (q_leq rfl rfl) ?_
 refine Jq (q_move rfl) ?_
 refine L_dec (d := 10) rfl (fun h1 => ?_) (fun h1 => ?_)
 refine Jg (q_move rfl) ?_
 refine Jg (q_move rfl) ?_
 refine Jg (q_leq rfl rfl) ?_
 refine Jq (q_pickT rfl rfl) ?_
 refine Jq (q_assign rfl) ?_
 refine L_then ?_
 refine C_ret ?_
 exact ret_of (res1 rfl rfl) sub_nil (by intro r hr; cases hr) ⟨(by first | rfl | exact congrArg Value.bool (decide_eq_decide.2 (by omega)) | exact congrArg Value.bool (decide_eq_true (by omega)).symm | exact congrArg Value.bool (decide_eq_false (by omega)).symm | exact congrArg Value.bool (decide_eq_true (by omega))), rfl⟩
 iterate 3 refine Jk ?_
 refine Jq (q_pickF rfl rfl) ?_
 refine Jq (q_assign rfl) ?_
 refine L_then ?_
 refine C_ret ?_
 exact ret_of (res1 rfl rfl) sub_nil (by intro r hr; cases hr) ⟨(by first | rfl | exact congrArg Value.bool (decide_eq_decide.2 (by omega)) | exact congrArg Value.bool (decide_eq_true (by omega)).symm | exact congrArg Value.bool (decide_eq_false (by omega)).symm | exact congrArg Value.bool (decide_eq_true (by omega))), rfl⟩
set_option maxRecDepth 100000 in
theorem ct_tissue_up (n b : Int) (h : 0 ≤ n ∧ 1 ≤ b ∧ n + b ≤ 9223372036854775807) : Ct Tryz.prog 230 [.int .i64 n, .int .i64 b] [] (isV (.int .i64 (upZ n b))) := by
 refine Ct.of (N := 11) Tryz.func230 rfl rfl rfl fun w => ?_
 refine C_weak (E' := [(0, .int .i64 n), (1, .int .i64 b)]) (rs' := []) ⟨rfl, rfl, trivial⟩ (fun _ h => h) ?_
 refine C_seq ?_
 refine C_region ?_
 refine Jq (q_assign rfl) ?_
 refine L_then ?_
 refine C_seq ?_
 refine C_region ?_
 refine Jq (q_move rfl) ?_
 refine Jq (q_move rfl) ?_
 refine Jq (q_add rfl rfl (by first | exact IntWalk.i64_in _ (by omega) | rfl)) ?_
 refine Jq (q_sub rfl rfl (by first | exact IntWalk.i64_in _ (by omega) | rfl)) ?_
 refine Jq (q_move rfl) ?_
 refine Jq (q_quo rfl rfl (by omega) (by first | exact IntWalk.i64_quo _ _ (by omega) | exact IntWalk.i64_quo' _ _ (by omega) | rfl)) ?_
 refine Jq (q_assign rfl) ?_
 refine L_then ?_
 refine C_ret ?_
 exact ret_of (res1 rfl rfl) sub_nil (by intro r hr; cases hr) ⟨rfl, rfl⟩
set_option maxRecDepth 100000 in
theorem ct_gas_bound (n lo hi : Int) : Ct Tryz.prog 172 [.int .i64 n, .int .i64 lo, .int .i64 hi] [] (isV (.int .i64 (if lo ≤ n ∧ n ≤ hi then 0 else 2))) := by
 refine Ct.of (N := 12) Tryz.func172 rfl rfl rfl fun w => ?_
 refine C_weak (E' := [(0, .int .i64 n), (1, .int .i64 lo), (2, .int .i64 hi)]) (rs' := []) ⟨rfl, rfl, rfl, trivial⟩ (fun _ h => h) ?_
 refine C_seq ?_
 refine C_region ?_
 refine Jq (q_assign rfl) ?_
 refine L_then ?_
 refine C_seq ?_
 refine C_seq ?_
 refine C_region ?_
 refine Jq (q_move rfl) ?_
 refine Jq (q_move rfl) ?_
 refine Jq (q_move rfl) ?_
 refine L_call tb rfl rfl (ct_gas_within _ _ _) no_ps rfl ?_
 refine Jq (q_not rfl decide_not.symm) ?_
 refine L_then ?_
 refine C_dec rfl (fun h1 => ?_) (fun h1 => ?_)
 refine C_seq ?_
 refine C_region ?_
 refine Jq (q_assign rfl) ?_
 refine L_then ?_
 refine C_ret ?_
 exact ret_of (res1 rfl rfl) sub_nil (by intro r hr; cases hr) ⟨(congrArg (Value.int .i64) (by split <;> omega)), rfl⟩
 refine C_skip_then ?_
 refine C_seq ?_
 refine C_region ?_
 refine Jq (q_assign rfl) ?_
 refine L_then ?_
 refine C_ret ?_
 exact ret_of (res1 rfl rfl) sub_nil (by intro r hr; cases hr) ⟨(congrArg (Value.int .i64) (by split <;> omega)), rfl⟩
set_option maxRecDepth 100000 in
theorem ct_gas_first (v : Value) (es : List Int) (hle : es.length ≤ 1000) : Ct Tryz.prog 171 [v] [(v, 1, es.map cI)] (isV (.int .i64 (firstE es))) := by
 refine Ct.of (N := 15) Tryz.func171 rfl rfl rfl fun w => ?_
 refine C_weak (E' := [(0, v)]) (rs' := [rd v 1 (es.map cI)]) ⟨rfl, trivial⟩ (fun _ h => h) ?_
 have hl := len_map cI es
 refine C_seq ?_
 refine C_region ?_
 refine Jq (q_assign rfl) ?_
 refine L_then ?_
 refine C_seq ?_
 refine C_seq ?_
 refine C_region ?_
 refine Jq (q_move rfl) ?_
 refine Jq (q_len tb rfl rfl gvo) ?_
 refine Jq (q_move rfl) ?_
 refine L_then ?_
 refine C_block ?_
 refine C_loop (ι := Nat) (fun k => ([(5, v), (6, .int .i64 (es.map cI).length), (7, .int .i64 k)], [rd v 1 (es.map cI)])) (fun k => k ≤ es.length ∧ firstE (es.drop k) = firstE es) (fun k => es.length - k) 0 ⟨Nat.zero_le _, rfl⟩ (fun a w hs => hs.weak ⟨rfl, rfl, rfl, trivial⟩ (fun h => h.sub (by repeat (first | exact List.Sublist.refl _ | apply List.Sublist.cons_cons | apply List.Sublist.cons)))) ?_
 rintro k ⟨hk, hf⟩
 refine C_seq ?_
 refine C_region ?_
 refine Jq (q_lss rfl rfl) ?_
 refine L_then ?_
 refine C_seq ?_
 refine C_dec rfl (fun h1 => ?_) (fun h1 => ?_)
 obtain ⟨e, he⟩ := get_some es (k := k) (by omega); have hel := map_get cI he
 refine C_skip_then ?_
 refine C_seq ?_
 refine C_block ?_
 refine C_seq ?_
 refine C_region ?_
 refine Jq (by first | exact q_index tb rfl rfl rfl rfl gvo (by omega) (by first | omega | (simp; done) | (simp; omega)) | exact q_indexP tb rfl rfl rfl rfl (by omega) (by omega)) ?_
 refine Jq (q_loadE tb rfl rfl (by first | exact gr0) (i := k) (o := 0) (by omega) hel rfl) ?_
 refine Jq (q_assign rfl) ?_
 refine L_then ?_
 refine C_seq ?_
 refine C_region ?_
 refine Jq (q_move rfl) ?_
 refine Jq (q_neq rfl rfl) ?_
 refine L_then ?_
 refine C_dec rfl (fun h2 => ?_) (fun h2 => ?_)
 refine C_seq ?_
 refine C_region ?_
 refine Jq (q_move rfl) ?_
 refine Jq (q_assign rfl) ?_
 refine L_then ?_
 refine C_ret ?_
 exact ret_of (res1 rfl rfl) sub_nil (by intro r hr; cases hr) ⟨(congrArg (Value.int .i64) (by rw [← hf, firstE_step he, if_neg (by omega)])), rfl⟩
 refine C_skip_blk ?_
 refine C_region ?_
 refine Jq (q_add rfl rfl (by first | exact IntWalk.i64_in _ (by omega) | rfl)) ?_
 refine Jq (q_move rfl) ?_
 refine L_end ?_
 exact fun ac_ wo_ hs_ => ⟨k + 1, ⟨by omega, by rw [← hf, firstE_step he, if_pos (by omega)]⟩, (by dsimp only; omega), hs_.weak ⟨rfl, rfl, rfl, trivial⟩ (fun h => h.sub (by repeat (first | exact List.Sublist.refl _ | apply List.Sublist.cons_cons | apply List.Sublist.cons)))⟩
 refine C_exit ?_
 change C Tryz.prog _ _ _ _ _ _ _
 refine C_seq ?_
 refine C_region ?_
 refine Jq (q_assign rfl) ?_
 refine L_then ?_
 refine C_ret ?_
 exact ret_of (res1 rfl rfl) sub_nil (by intro r hr; cases hr) ⟨(congrArg (Value.int .i64) (by rw [← hf, drop_all (by omega)]; rfl)), rfl⟩
set_option maxRecDepth 100000 in
theorem ct_gas_CheckGas (o h : Int) : Ct Tryz.prog 106 [.agg #[.int .i64 o, .int .i64 h]] [] (isV (.int .i64 (ckGas o h))) := by
 refine Ct.of (N := 21) Tryz.func106 rfl rfl rfl fun w => ?_
 refine C_weak (E' := [(0, .agg #[.int .i64 o, .int .i64 h])]) (rs' := []) ⟨rfl, trivial⟩ (fun _ h => h) ?_
 refine C_seq ?_
 refine C_region ?_
 refine L_box rfl rfl rfl fun g1 => ?_
 refine Jq (q_assign rfl) ?_
 refine L_then ?_
 refine C_seq ?_
 refine C_seq ?_
 refine C_draw (n := 8) [(0, false), (1, false), (3, false), (4, false), (2, true), (5, true), (6, true), (7, true)] mixed (by kernel_rfl) ?_
 refine Yq rfl (q_field tb rfl rfl rfl) ?_
 refine Yq rfl (q_load tb rfl rfl bxo rfl) ?_
 refine Yq rfl (q_field tb rfl rfl rfl) ?_
 refine Yq rfl (q_load tb rfl rfl bxo rfl) ?_
 refine W_call tb rfl rfl rfl rfl (ct_gas_bound _ _ _) no_ps rfl ?_
 refine W_call tb rfl rfl rfl rfl (ct_gas_bound _ _ _) no_ps rfl ?_
 refine W_mk rfl (lo_bslice tb rfl rfl rfl (xs := [[_], [_]]) rfl rfl (by simp) rfl (by omega) rfl) rfl rfl rfl fun v10 => ?_
 refine W_call tb rfl rfl rfl rfl (ct_gas_first _ [_, _] (by simp)) (ps_cons gvo no_ps) rfl ?_
 refine W_nil ?_
 refine Jq (q_assign rfl) ?_
 refine L_then ?_
 refine C_seq ?_
 refine C_region ?_
 refine Jq (q_move rfl) ?_
 refine Jq (q_neq rfl rfl) ?_
 refine L_then ?_
 refine C_dec rfl (fun hc => ?_) (fun hc => ?_)
 refine C_seq ?_
 refine C_region ?_
 refine Jq (q_move rfl) ?_
 refine Jq (q_assign rfl) ?_
 refine L_then ?_
 refine C_ret ?_
 exact ret_of (res1 rfl rfl) sub_nil (by intro r hr; cases hr) ⟨(congrArg (Value.int .i64) (by exact ckGas_a hc)), rfl⟩
 have hb := ckGas_c hc
 refine C_skip_then ?_
 refine C_seq ?_
 refine C_seq ?_
 refine C_region ?_
 refine Jq (q_field tb rfl rfl rfl) ?_
 refine Jq (q_load tb rfl rfl bxo rfl) ?_
 refine Jq (q_field tb rfl rfl rfl) ?_
 refine Jq (q_load tb rfl rfl bxo rfl) ?_
 refine Jq (q_add rfl rfl (by first | exact IntWalk.i64_in _ (by omega) | rfl)) ?_
 refine Jq (q_gtr rfl rfl) ?_
 refine L_then ?_
 refine C_dec rfl (fun hd => ?_) (fun hd => ?_)
 refine C_seq ?_
 refine C_region ?_
 refine Jq (q_assign rfl) ?_
 refine L_then ?_
 refine C_ret ?_
 exact ret_of (res1 rfl rfl) sub_nil (by intro r hr; cases hr) ⟨(congrArg (Value.int .i64) (by rw [ckGas_b hc]; split <;> omega)), rfl⟩
 refine C_skip_then ?_
 refine C_seq ?_
 refine C_region ?_
 refine Jq (q_assign rfl) ?_
 refine L_then ?_
 refine C_ret ?_
 exact ret_of (res1 rfl rfl) sub_nil (by intro r hr; cases hr) ⟨(congrArg (Value.int .i64) (by rw [ckGas_b hc]; split <;> omega)), rfl⟩
set_option maxRecDepth 100000 in
theorem ct_tissue_isCompartment (n h b s : Int) : Ct Tryz.prog 199 [.agg #[.int .i64 n, .int .i64 h, .int .i64 b, .int .i64 s]] [] (isV (.bool (decide (okCp ⟨n, h, b, s⟩)))) := by
 refine Ct.of (N := 21) Tryz.func199 rfl rfl rfl fun w => ?_
 refine C_weak (E' := [(0, .agg #[.int .i64 n, .int .i64 h, .int .i64 b, .int .i64 s])]) (rs' := []) ⟨rfl, trivial⟩ (fun _ h => h) ?_
 refine C_seq ?_
 refine C_region ?_
 refine L_box rfl rfl rfl fun g1 => ?_
 refine Jq (q_assign rfl) ?_
 refine L_then ?_
 refine C_seq ?_
 refine C_region ?_
 refine Jq (q_field tb rfl rfl rfl) ?_
 refine Jq (q_load tb rfl rfl bxo rfl) ?_
 refine L_call tb rfl rfl (ct_tissue_within _ _ _) no_ps rfl ?_
 refine Jq (q_move rfl) ?_
 refine L_dec (d := 6) rfl (fun h1 => ?_) (fun h1 => ?_)
 refine Jg (q_field tb rfl rfl rfl) ?_
 refine Jg (q_load tb rfl rfl bxo rfl) ?_
 refine L_callg tb rfl rfl rfl rfl rfl rfl (ct_tissue_within _ _ _) no_ps rfl ?_
 refine Jq (q_pickT rfl rfl) ?_
 refine Jq (q_move rfl) ?_
 refine L_dec (d := 11) rfl (fun h2 => ?_) (fun h2 => ?_)
 refine Jg (q_field tb rfl rfl rfl) ?_
 refine Jg (q_load tb rfl rfl bxo rfl) ?_
 refine L_callg tb rfl rfl rfl rfl rfl rfl (ct_tissue_within _ _ _) no_ps rfl ?_
 refine Jq (q_pickT rfl rfl) ?_
 refine Jq (q_move rfl) ?_
 refine L_dec (d := 16) rfl (fun h3 => ?_) (fun h3 => ?_)
 refine Jg (q_field tb rfl rfl rfl) ?_
 refine Jg (q_load tb rfl rfl bxo rfl) ?_
 refine L_callg tb rfl rfl rfl rfl rfl rfl (ct_tissue_within _ _ _) no_ps rfl ?_
 refine Jq (q_pickT rfl rfl) ?_
 refine Jq (q_assign rfl) ?_
 refine L_then ?_
 refine C_ret ?_
 exact ret_of (res1 rfl rfl) sub_nil (by intro r hr; cases hr) ⟨(congrArg Value.bool (by unfold okCp; first | exact (decide_eq_decide.2 (by simp only; omega)) | exact (decide_eq_true (by simp only; omega)).symm | exact (decide_eq_false (by simp only; omega)).symm)), rfl⟩
 iterate 3 refine Jk ?_
 refine Jq (q_pickF rfl rfl) ?_
 refine Jq (q_assign rfl) ?_
 refine L_then ?_
 refine C_ret ?_
 exact ret_of (res1 rfl rfl) sub_nil (by intro r hr; cases hr) ⟨(congrArg Value.bool (by unfold okCp; first | exact (decide_eq_decide.2 (by simp only; omega)) | exact (decide_eq_true (by simp only; omega)).symm | exact (decide_eq_false (by simp only; omega)).symm)), rfl⟩
 iterate 3 refine Jk ?_
 refine Jq (q_pickF rfl rfl) ?_
 refine Jq (q_move rfl) ?_
 iterate 3 refine Jk ?_
 refine Jq (q_pickF rfl rfl) ?_
 refine Jq (q_assign rfl) ?_
 refine L_then ?_
 refine C_ret ?_
 exact ret_of (res1 rfl rfl) sub_nil (by intro r hr; cases hr) ⟨(congrArg Value.bool (by unfold okCp; first | exact (decide_eq_decide.2 (by simp only; omega)) | exact (decide_eq_true (by simp only; omega)).symm | exact (decide_eq_false (by simp only; omega)).symm)), rfl⟩
 iterate 3 refine Jk ?_
 refine Jq (q_pickF rfl rfl) ?_
 refine Jq (q_move rfl) ?_
 iterate 3 refine Jk ?_
 refine Jq (q_pickF rfl rfl) ?_
 refine Jq (q_move rfl) ?_
 iterate 3 refine Jk ?_
 refine Jq (q_pickF rfl rfl) ?_
 refine Jq (q_assign rfl) ?_
 refine L_then ?_
 refine C_ret ?_
 exact ret_of (res1 rfl rfl) sub_nil (by intro r hr; cases hr) ⟨(congrArg Value.bool (by unfold okCp; first | exact (decide_eq_decide.2 (by simp only; omega)) | exact (decide_eq_true (by simp only; omega)).symm | exact (decide_eq_false (by simp only; omega)).symm)), rfl⟩
set_option maxRecDepth 100000 in
theorem ct_tissue_CheckTable (v : Value) (ts : List Cp) (hle : ts.length ≤ 1000000) : Ct Tryz.prog 152 [v] [(v, 4, ts.map cCp)] (isV (.int .i64 (ckTab ts))) := by
 refine Ct.of (N := 19) Tryz.func152 rfl rfl rfl fun w => ?_
 refine C_weak (E' := [(0, v)]) (rs' := [rd v 4 (ts.map cCp)]) ⟨rfl, trivial⟩ (fun _ h => h) ?_
 have hl := len_map cCp ts
 refine C_seq ?_
 refine C_region ?_
 refine Jq (q_assign rfl) ?_
 refine L_then ?_
 refine C_seq ?_
 refine C_seq ?_
 refine C_region ?_
 refine Jq (q_move rfl) ?_
 refine Jq (q_len tb rfl rfl gvo) ?_
 refine L_call tb rfl rfl (ct_tissue_within _ _ _) no_ps rfl ?_
 refine Jq (q_not rfl decide_not.symm) ?_
 refine L_then ?_
 refine C_dec rfl (fun hs => ?_) (fun hs => ?_)
 refine C_seq ?_
 refine C_region ?_
 refine Jq (q_assign rfl) ?_
 refine L_then ?_
 refine C_ret ?_
 exact ret_of (res1 rfl rfl) sub_nil (by intro r hr; cases hr) ⟨(congrArg (Value.int .i64) (by unfold ckTab; rw [if_neg (by omega)])), rfl⟩
 refine C_skip_then ?_
 refine C_seq ?_
 refine C_seq ?_
 refine C_region ?_
 refine Jq (q_move rfl) ?_
 refine Jq (q_len tb rfl rfl gvo) ?_
 refine Jq (q_move rfl) ?_
 refine L_then ?_
 refine C_block ?_
 refine C_loop (ι := Nat) (fun k => ([(9, v), (10, .int .i64 (ts.map cCp).length), (11, .int .i64 k)], [rd v 4 (ts.map cCp)])) (fun k => k ≤ ts.length ∧ ckCps (ts.drop k) = ckCps ts) (fun k => ts.length - k) 0 ⟨Nat.zero_le _, rfl⟩ (fun a w hs => hs.weak ⟨rfl, rfl, rfl, trivial⟩ (fun h => h.sub (by repeat (first | exact List.Sublist.refl _ | apply List.Sublist.cons_cons | apply List.Sublist.cons)))) ?_
 rintro k ⟨hk, hf⟩
 refine C_seq ?_
 refine C_region ?_
 refine Jq (q_lss rfl rfl) ?_
 refine L_then ?_
 refine C_seq ?_
 refine C_dec rfl (fun h2 => ?_) (fun h2 => ?_)
 obtain ⟨c, he⟩ := get_some ts (k := k) (by omega); have hel := map_get cCp he
 refine C_skip_then ?_
 refine C_seq ?_
 refine C_block ?_
 refine C_seq ?_
 refine C_region ?_
 refine Jq (by first | exact q_index tb rfl rfl rfl rfl gvo (by omega) (by first | omega | (simp; done) | (simp; omega)) | exact q_indexP tb rfl rfl rfl rfl (by omega) (by omega)) ?_
 refine Jq (q_loadEA tb rfl rfl gr0 (i := k) (o := 0) (by omega) hel rfl rfl) ?_
 refine L_alloc tb rfl rfl fun g4 => ?_
 refine L_st tb rfl rfl ?_
 refine L_then ?_
 refine C_seq ?_
 refine C_region ?_
 refine Jq (q_loadA tb rfl rfl bxo rfl rfl) ?_
 refine L_call tb rfl rfl (ct_tissue_isCompartment _ _ _ _) no_ps rfl ?_
 refine Jq (q_not rfl decide_not.symm) ?_
 refine L_then ?_
 refine C_dec rfl (fun hok => ?_) (fun hok => ?_)
 refine C_seq ?_
 refine C_region ?_
 refine Jq (q_assign rfl) ?_
 refine L_then ?_
 refine C_ret ?_
 exact ret_of (res1 rfl rfl) sub_nil (by intro r hr; cases hr) ⟨(congrArg (Value.int .i64) (by unfold ckTab; rw [if_pos (by omega), ← hf, ckCps_step he, if_neg hok])), rfl⟩
 have hok : okCp c := Decidable.not_not.1 hok
 refine C_skip_blk ?_
 refine C_region ?_
 refine Jq (q_add rfl rfl (by first | exact IntWalk.i64_in _ (by omega) | rfl)) ?_
 refine Jq (q_move rfl) ?_
 refine L_end ?_
 exact fun ac_ wo_ hs_ => ⟨k + 1, ⟨by omega, by rw [← hf, ckCps_step he, if_pos hok]⟩, (by dsimp only; omega), hs_.weak ⟨rfl, rfl, rfl, trivial⟩ (fun h => h.sub (by repeat (first | exact List.Sublist.refl _ | apply List.Sublist.cons_cons | apply List.Sublist.cons)))⟩
 refine C_exit ?_
 change C Tryz.prog _ _ _ _ _ _ _
 refine C_seq ?_
 refine C_region ?_
 refine Jq (q_assign rfl) ?_
 refine L_then ?_
 refine C_ret ?_
 exact ret_of (res1 rfl rfl) sub_nil (by intro r hr; cases hr) ⟨(congrArg (Value.int .i64) (by unfold ckTab; rw [if_pos (by omega), ← hf, drop_all (by omega)]; rfl)), rfl⟩
end Go.Proofs.YthilaakeimfedaaGreatDoor
namespace Go.Proofs.YthilaakeimfedaaGreatDoor
open Go.RowKit

set_option maxRecDepth 100000 in
theorem ct_tissue_squareRoot (n : Int) (h : 1 ≤ n ∧ n ≤ 1000000000000000000) : Ct Tryz.prog 213 [.int .i64 n] [] (isV (.int .i64 (sqrZ n))) := by
 refine Ct.of (N := 31) Tryz.func213 rfl rfl rfl fun w => ?_
 refine C_weak (E' := [(0, .int .i64 n)]) (rs' := []) ⟨rfl, trivial⟩ (fun _ h => h) ?_
 refine C_seq ?_
 refine C_region ?_
 refine Jq (q_assign rfl) ?_
 refine L_then ?_
 refine C_seq ?_
 refine C_region ?_
 refine Jq (q_assign rfl) ?_
 refine Jq (q_assign rfl) ?_
 refine L_then ?_
 refine C_seq ?_
 refine C_block ?_
 refine C_loop (ι := Nat) (fun k => ([(0, .int .i64 n), (3, .int .i64 0), (4, .int .i64 (pw4 (k + 1)))], [])) (fun k => k ≤ 31 ∧ n < 4 ^ (k + 1)) (fun k => k) 31 ⟨Nat.le_refl _, sq_start h.2⟩ (fun a w hs => hs.weak ⟨rfl, rfl, rfl, trivial⟩ (fun h => h.sub (by repeat (first | exact List.Sublist.refl _ | apply List.Sublist.cons_cons | apply List.Sublist.cons)))) ?_
 rintro k ⟨hk, hn⟩
 have hpl := pw4_le hk
 have hpe : pw4 (k + 1) = 4 ^ k := rfl
 refine C_seq ?_
 refine C_seq ?_
 refine C_region ?_
 refine Jq (q_move rfl) ?_
 refine Jq (q_move rfl) ?_
 refine Jq (q_gtr rfl rfl) ?_
 refine L_then ?_
 refine C_dec rfl (fun h1 => ?_) (fun h1 => ?_)
 obtain ⟨k, rfl⟩ := four_cases (k := k) h.1 (by omega)
 refine C_skip_then ?_
 refine C_block ?_
 refine C_region ?_
 refine Jq (q_move rfl) ?_
 refine Jq (q_shr rfl rfl (by omega) (shr2 _)) ?_
 refine Jq (q_assign rfl) ?_
 refine L_end ?_
 exact fun ac_ wo_ hs_ => ⟨k, ⟨by omega, by omega⟩, (by dsimp only; omega), hs_.weak ⟨rfl, rfl, en (pw4_half _), trivial⟩ (fun h => h.sub (by repeat (first | exact List.Sublist.refl _ | apply List.Sublist.cons_cons | apply List.Sublist.cons)))⟩
 have hx : (4:Int) ^ k ≤ n := by omega
 refine C_exit ?_
 change C Tryz.prog _ _ _ _ _ _ _
 refine C_seq ?_
 refine C_block ?_
 refine C_loop (ι := Nat × Int) (fun p => ([(0, .int .i64 (n - p.2 * p.2)), (3, .int .i64 (p.2 * 2 ^ p.1)), (4, .int .i64 (pw4 p.1))], [])) (fun p => gSq n p.1 p.2) (fun p => p.1) (k + 1, 0) (gSq.begin (pow_lt30 hx h.2) hx hn) (fun a w hs => hs.weak ⟨en (by simp), en (by simp), rfl, trivial⟩ (fun h => h.sub (by repeat (first | exact List.Sublist.refl _ | apply List.Sublist.cons_cons | apply List.Sublist.cons)))) ?_
 rintro ⟨k, R⟩ hg
 dsimp only at hg ⊢
 refine C_seq ?_
 refine C_seq ?_
 refine C_region ?_
 refine Jq (q_move rfl) ?_
 refine Jq (q_gtr rfl rfl) ?_
 refine L_then ?_
 refine C_dec rfl (fun hp => ?_) (fun hp => ?_)
 obtain ⟨k, rfl⟩ := pw4_pos hp; have hb := hg.bounds (by omega); have hpe : pw4 (k + 1) = 4 ^ k := rfl; have hsq : 0 ≤ R * R ∧ R * R ≤ n := ⟨Int.mul_nonneg hg.r0 hg.r0, hg.le⟩
 refine C_skip_then ?_
 refine C_seq ?_
 refine C_block ?_
 refine C_seq ?_
 refine C_region ?_
 refine Jq (q_move rfl) ?_
 refine Jq (q_move rfl) ?_
 refine Jq (q_move rfl) ?_
 refine Jq (q_add rfl rfl (by first | exact IntWalk.i64_in _ (by omega) | rfl)) ?_
 refine Jq (q_geq rfl rfl) ?_
 refine L_then ?_
 refine C_dec rfl (fun hc => ?_) (fun hc => ?_)
 refine C_region ?_
 refine Jq (q_move rfl) ?_
 refine Jq (q_move rfl) ?_
 refine Jq (q_sub rfl rfl (by first | exact IntWalk.i64_in _ (by omega) | rfl)) ?_
 refine Jq (q_move rfl) ?_
 refine Jq (q_sub rfl rfl (by first | exact IntWalk.i64_in _ (by omega) | rfl)) ?_
 refine Jq (q_move rfl) ?_
 refine Jq (q_shr rfl rfl (by omega) (shr1 _)) ?_
 refine Jq (q_move rfl) ?_
 refine Jq (q_add rfl rfl (by first | exact IntWalk.i64_in _ (by omega) | rfl)) ?_
 refine Jq (q_assign rfl) ?_
 refine Jq (q_assign rfl) ?_
 refine L_blk ?_
 refine C_region ?_
 refine Jq (q_move rfl) ?_
 refine Jq (q_shr rfl rfl (by omega) (shr2 _)) ?_
 refine Jq (q_assign rfl) ?_
 refine L_end ?_
 exact fun ac_ wo_ hs_ => ⟨(k, R + 2 ^ k), (hg.yes (by omega)), (by dsimp only; omega), hs_.weak ⟨en (gSq.n_yes _ _ _), en (gSq.x_yes _ _), en (pw4_half _), trivial⟩ (fun h => h.sub (by repeat (first | exact List.Sublist.refl _ | apply List.Sublist.cons_cons | apply List.Sublist.cons)))⟩
 refine C_region ?_
 refine Jq (q_move rfl) ?_
 refine Jq (q_shr rfl rfl (by omega) (shr1 _)) ?_
 refine Jq (q_assign rfl) ?_
 refine L_blk ?_
 refine C_region ?_
 refine Jq (q_move rfl) ?_
 refine Jq (q_shr rfl rfl (by omega) (shr2 _)) ?_
 refine Jq (q_assign rfl) ?_
 refine L_end ?_
 exact fun ac_ wo_ hs_ => ⟨(k, R), (hg.no (by omega)), (by dsimp only; omega), hs_.weak ⟨rfl, en (gSq.x_no _ _), en (pw4_half _), trivial⟩ (fun h => h.sub (by repeat (first | exact List.Sublist.refl _ | apply List.Sublist.cons_cons | apply List.Sublist.cons)))⟩
 have hz := pw4_zero hp; subst hz
 refine C_exit ?_
 change C Tryz.prog _ _ _ _ _ _ _
 refine C_seq ?_
 refine C_region ?_
 refine Jq (q_move rfl) ?_
 refine Jq (q_assign rfl) ?_
 refine L_then ?_
 refine C_ret ?_
 exact ret_of (res1 rfl rfl) sub_nil (by intro r hr; cases hr) ⟨(congrArg (Value.int .i64) (by simpa using hg.ends)), rfl⟩
set_option maxRecDepth 100000 in
theorem ct_shotlinebase_Floor (n b : Int) (h : 1 ≤ b ∧ -9000000000000000000 ≤ n ∧ n ≤ 9000000000000000000) : Ct Tryz.prog 111 [.int .i64 n, .int .i64 b] [] (isV (.int .i64 (n / b))) := by
 refine Ct.of (N := 16) Tryz.func111 rfl rfl rfl fun w => ?_
 refine C_weak (E' := [(0, .int .i64 n), (1, .int .i64 b)]) (rs' := []) ⟨rfl, rfl, trivial⟩ (fun _ h => h) ?_
 refine C_seq ?_
 refine C_region ?_
 refine Jq (q_assign rfl) ?_
 refine L_then ?_
 refine C_seq ?_
 refine C_region ?_
 refine Jq (q_move rfl) ?_
 refine Jq (q_move rfl) ?_
 refine Jq (q_quo rfl rfl (by omega) (IntWalk.i64_quo' _ _ (by omega))) ?_
 refine Jq (q_assign rfl) ?_
 refine L_then ?_
 refine C_seq ?_
 refine C_seq ?_
 refine C_region ?_
 refine Jq (q_move rfl) ?_
 refine Jq (q_move rfl) ?_
 refine Jq (q_rem rfl rfl (by omega) rfl) ?_
 refine Jq (q_lss rfl rfl) ?_
 refine L_then ?_
 refine C_dec rfl (fun hc => ?_) (fun hc => ?_)
 have hf := floor_yes h.1 hc; have hn := tmod_neg hc; have hg := ediv_ge h.1 (show n ≤ 0 by omega); have hneg := ediv_np h.1 (show n ≤ 0 by omega)
 refine C_region ?_
 refine Jq (q_move rfl) ?_
 refine Jq (q_sub rfl rfl (by first | exact IntWalk.i64_in _ (by omega) | rfl)) ?_
 refine Jq (q_assign rfl) ?_
 refine L_then ?_
 refine C_seq ?_
 refine C_region ?_
 refine Jq (q_move rfl) ?_
 refine Jq (q_assign rfl) ?_
 refine L_then ?_
 refine C_ret ?_
 exact ret_of (res1 rfl rfl) sub_nil (by intro r hr; cases hr) ⟨(congrArg (Value.int .i64) (by first | exact hf)), rfl⟩
 have hf := floor_no h.1 hc
 refine C_skip_then ?_
 refine C_seq ?_
 refine C_region ?_
 refine Jq (q_move rfl) ?_
 refine Jq (q_assign rfl) ?_
 refine L_then ?_
 refine C_ret ?_
 exact ret_of (res1 rfl rfl) sub_nil (by intro r hr; cases hr) ⟨(congrArg (Value.int .i64) (by first | exact hf)), rfl⟩
set_option maxRecDepth 100000 in
theorem ct_shotlinebase_Ceil (n b : Int) (h : 1 ≤ b ∧ -9000000000000000000 ≤ n ∧ n ≤ 9000000000000000000) : Ct Tryz.prog 112 [.int .i64 n, .int .i64 b] [] (isV (.int .i64 (upZ n b))) := by
 refine Ct.of (N := 10) Tryz.func112 rfl rfl rfl fun w => ?_
 refine C_weak (E' := [(0, .int .i64 n), (1, .int .i64 b)]) (rs' := []) ⟨rfl, rfl, trivial⟩ (fun _ h => h) ?_
 refine C_seq ?_
 refine C_region ?_
 refine Jq (q_assign rfl) ?_
 refine L_then ?_
 refine C_seq ?_
 refine C_region ?_
 refine Jq (q_move rfl) ?_
 refine Jq (q_neg rfl (by first | exact IntWalk.i64_in _ (by omega) | rfl)) ?_
 refine Jq (q_move rfl) ?_
 refine L_call tb rfl rfl (ct_shotlinebase_Floor _ _ (by first | omega | exact ⟨by omega, by omega, by omega⟩)) no_ps rfl ?_
 refine Jq (q_neg rfl rfl) ?_
 refine Jq (q_assign rfl) ?_
 refine L_then ?_
 refine C_ret ?_
 exact ret_of (res1 rfl rfl) sub_nil (by intro r hr; cases hr) ⟨(congrArg (Value.int .i64) (by have := neg_div h.1 h.2.1 h.2.2; rw [IntWalk.i64_in _ (by omega)]; exact ceil_up h.1)), rfl⟩
set_option maxRecDepth 100000 in
theorem ct_shotlinebase_Root (n : Int) (h : 0 ≤ n ∧ n ≤ 1000000000000000000) : Ct Tryz.prog 228 [.int .i64 n] [] (isV (.int .i64 (sqrZ n))) := by
 refine Ct.of (N := 22) Tryz.func228 rfl rfl rfl fun w => ?_
 refine C_weak (E' := [(0, .int .i64 n)]) (rs' := []) ⟨rfl, trivial⟩ (fun _ h => h) ?_
 refine C_seq ?_
 refine C_region ?_
 refine Jq (q_assign rfl) ?_
 refine L_then ?_
 refine C_seq ?_
 refine C_region ?_
 refine Jq (q_assign rfl) ?_
 refine Jq (q_assign rfl) ?_
 refine L_then ?_
 refine C_seq ?_
 refine C_block ?_
 refine C_loop (ι := Nat × Int) (fun p => ([(0, .int .i64 n), (3, .int .i64 p.2), (4, .int .i64 (pw p.1))], [])) (fun p => gRt n p.1 p.2) (fun p => p.1) (31, 0) (gRt.begin h.1 h.2) (fun a w hs => hs.weak ⟨rfl, rfl, rfl, trivial⟩ (fun h => h.sub (by repeat (first | exact List.Sublist.refl _ | apply List.Sublist.cons_cons | apply List.Sublist.cons)))) ?_
 rintro ⟨k, R⟩ hg
 dsimp only at hg ⊢
 refine C_seq ?_
 refine C_seq ?_
 refine C_region ?_
 refine Jq (q_move rfl) ?_
 refine Jq (q_gtr rfl rfl) ?_
 refine L_then ?_
 refine C_dec rfl (fun hp => ?_) (fun hp => ?_)
 obtain ⟨k, rfl⟩ := pw_pos hp; have hb : R ≤ 1000000000 ∧ 1 ≤ pw (k + 1) ∧ pw (k + 1) ≤ 1073741824 ∧ 0 ≤ (R + pw (k + 1)) * (R + pw (k + 1)) ∧ (R + pw (k + 1)) * (R + pw (k + 1)) ≤ 5000000000000000000 := hg.bounds h.2; have hr := hg.r0
 refine C_skip_then ?_
 refine C_block ?_
 refine C_seq ?_
 refine C_seq ?_
 refine C_region ?_
 refine Jq (q_move rfl) ?_
 refine Jq (q_move rfl) ?_
 refine Jq (q_add rfl rfl (by first | exact IntWalk.i64_in _ (by omega) | rfl)) ?_
 refine Jq (q_move rfl) ?_
 refine Jq (q_move rfl) ?_
 refine Jq (q_add rfl rfl (by first | exact IntWalk.i64_in _ (by omega) | rfl)) ?_
 refine Jq (q_mul rfl rfl (by first | exact IntWalk.i64_in _ (by omega) | rfl)) ?_
 refine Jq (q_move rfl) ?_
 refine Jq (q_leq rfl rfl) ?_
 refine L_then ?_
 refine C_dec rfl (fun hc => ?_) (fun hc => ?_)
 refine C_region ?_
 refine Jq (q_move rfl) ?_
 refine Jq (q_move rfl) ?_
 refine Jq (q_add rfl rfl (by first | exact IntWalk.i64_in _ (by omega) | rfl)) ?_
 refine Jq (q_assign rfl) ?_
 refine L_then ?_
 refine C_region ?_
 refine Jq (q_move rfl) ?_
 refine Jq (q_quo rfl rfl (by omega) (by first | exact IntWalk.i64_quo _ _ (by omega) | exact IntWalk.i64_quo' _ _ (by omega) | rfl)) ?_
 refine Jq (q_assign rfl) ?_
 refine L_end ?_
 exact fun ac_ wo_ hs_ => ⟨(k, R + pw (k + 1)), (hg.yes hc), (by dsimp only; omega), hs_.weak ⟨rfl, rfl, en (pw_half _), trivial⟩ (fun h => h.sub (by repeat (first | exact List.Sublist.refl _ | apply List.Sublist.cons_cons | apply List.Sublist.cons)))⟩
 refine C_skip_then ?_
 refine C_region ?_
 refine Jq (q_move rfl) ?_
 refine Jq (q_quo rfl rfl (by omega) (by first | exact IntWalk.i64_quo _ _ (by omega) | exact IntWalk.i64_quo' _ _ (by omega) | rfl)) ?_
 refine Jq (q_assign rfl) ?_
 refine L_end ?_
 exact fun ac_ wo_ hs_ => ⟨(k, R), (hg.no hc), (by dsimp only; omega), hs_.weak ⟨rfl, rfl, en (pw_half _), trivial⟩ (fun h => h.sub (by repeat (first | exact List.Sublist.refl _ | apply List.Sublist.cons_cons | apply List.Sublist.cons)))⟩
 have hz := pw_zero hp; subst hz
 refine C_exit ?_
 change C Tryz.prog _ _ _ _ _ _ _
 refine C_seq ?_
 refine C_region ?_
 refine Jq (q_move rfl) ?_
 refine Jq (q_assign rfl) ?_
 refine L_then ?_
 refine C_ret ?_
 exact ret_of (res1 rfl rfl) sub_nil (by intro r hr; cases hr) ⟨(congrArg (Value.int .i64) (by exact hg.ends)), rfl⟩
set_option maxRecDepth 100000 in
theorem ct_shotlineref03_RootOf (n : Nat) (h : n ≤ 100) : Ct Tryz.prog 207 [.int .i64 (n : Int)] [] (isV (.agg (cRg (rootR n)).toArray)) := by
 refine Ct.of (N := 34) Tryz.func207 rfl rfl rfl fun w => ?_
 refine C_weak (E' := [(0, .int .i64 (n : Int))]) (rs' := []) ⟨rfl, trivial⟩ (fun _ h => h) ?_
 refine C_seq ?_
 refine C_region ?_
 refine L_alloc tb rfl rfl fun g2 => ?_
 refine L_then ?_
 refine C_seq ?_
 refine C_region ?_
 refine Jq (by first | exact q_build tb rfl rfl rfl rfl | exact q_buildArr tb rfl rfl rfl rfl rfl) ?_
 refine L_alloc tb rfl rfl fun g3 => ?_
 refine L_st tb rfl rfl ?_
 refine L_then ?_
 refine C_seq ?_
 refine C_seq ?_
 refine C_region ?_
 refine Jq (q_assign rfl) ?_
 refine L_then ?_
 refine C_block ?_
 refine C_loop (ι := Nat × Rg) (fun p => ([(0, .int .i64 (n : Int)), (2, .pointer (some ⟨g2, 0, none⟩)), (3, .pointer (some ⟨g3, 0, none⟩)), (4, .int .i64 (p.1 : Int))], [box g3 137 (cRg p.2), box g2 137 [.int .i64 0, .int .i64 0]])) (fun p => p.2 = rootR p.1 ∧ p.1 ≤ n) (fun p => n - p.1) (0, rootR 0) ⟨rfl, Nat.zero_le _⟩ (fun a w hs => hs.weak ⟨rfl, rfl, rfl, rfl, trivial⟩ (fun h => h.sub (by repeat (first | exact List.Sublist.refl _ | apply List.Sublist.cons_cons | apply List.Sublist.cons)))) ?_
 rintro ⟨k, r⟩ ⟨hr, hk⟩
 dsimp only at hr hk ⊢
 subst hr
 obtain ⟨ha, hb, hc⟩ := rootR_in k
 refine C_seq ?_
 refine C_seq ?_
 refine C_region ?_
 refine Jq (q_move rfl) ?_
 refine Jq (q_move rfl) ?_
 refine Jq (q_lss rfl rfl) ?_
 refine L_then ?_
 refine C_dec rfl (fun hi => ?_) (fun hi => ?_)
 refine C_skip_then ?_
 refine C_seq ?_
 refine C_block ?_
 refine C_seq ?_
 refine C_draw (n := 8) [(0, false), (1, false), (2, false), (4, false), (5, false), (6, false), (3, true), (7, true)] mixed (by kernel_rfl) ?_
 refine Yq rfl (q_field tb rfl rfl rfl) ?_
 refine Yq rfl (q_load tb rfl rfl bxo rfl) ?_
 refine Yq rfl (q_mul rfl rfl (by first | exact IntWalk.i64_in _ (by omega) | rfl)) ?_
 refine Yq rfl (q_field tb rfl rfl rfl) ?_
 refine Yq rfl (q_load tb rfl rfl bxo rfl) ?_
 refine Yq rfl (q_mul rfl rfl (by first | exact IntWalk.i64_in _ (by omega) | rfl)) ?_
 refine W_call tb rfl rfl rfl rfl (ct_shotlinebase_Root _ (by omega)) no_ps rfl ?_
 refine W_call tb rfl rfl rfl rfl (ct_shotlinebase_Root _ (by omega)) no_ps rfl ?_
 refine W_nil ?_
 refine Jq (q_assign rfl) ?_
 refine Jq (q_assign rfl) ?_
 refine L_then ?_
 refine C_seq ?_
 refine C_seq ?_
 refine C_region ?_
 refine Jq (q_move rfl) ?_
 refine Jq (q_move rfl) ?_
 have hs := sqrZ_spec (n := 1000000000 * (rootR k).hi) (by omega); have hs0 := Int.mul_nonneg hs.1 hs.1; have hs1 : sqrZ (1000000000 * (rootR k).hi) ≤ 1000000000 := sqrZ_le (by omega) (by omega) (by omega)
 refine Jq (q_mul rfl rfl (by first | exact IntWalk.i64_in _ (by omega) | rfl)) ?_
 refine Jq (q_field tb rfl rfl rfl) ?_
 refine Jq (q_load tb rfl rfl bxo rfl) ?_
 refine Jq (q_mul rfl rfl (by first | exact IntWalk.i64_in _ (by omega) | rfl)) ?_
 refine Jq (q_lss rfl rfl) ?_
 refine L_then ?_
 refine C_dec rfl (fun hq => ?_) (fun hq => ?_)
 refine C_region ?_
 refine Jq (q_move rfl) ?_
 refine Jq (q_add rfl rfl (by first | exact IntWalk.i64_in _ (by omega) | rfl)) ?_
 refine Jq (q_assign rfl) ?_
 refine L_then ?_
 refine C_region ?_
 refine Jq (q_move rfl) ?_
 refine Jq (q_move rfl) ?_
 refine Jq (by first | exact q_build tb rfl rfl rfl rfl | exact q_buildArr tb rfl rfl rfl rfl rfl) ?_
 refine L_st tb rfl rfl ?_
 refine L_blk ?_
 refine C_region ?_
 refine Jq (q_move rfl) ?_
 refine Jq (q_add rfl rfl (by first | exact IntWalk.i64_in _ (by omega) | rfl)) ?_
 refine Jq (q_assign rfl) ?_
 refine L_end ?_
 exact fun ac_ wo_ hs_ => ⟨(k + 1, ⟨_, _⟩), ⟨root_yes hq, by omega⟩, (by dsimp only; omega), hs_.weak ⟨rfl, rfl, rfl, rfl, trivial⟩ (fun h => h.sub (by repeat (first | exact List.Sublist.refl _ | apply List.Sublist.cons_cons | apply List.Sublist.cons)))⟩
 refine C_skip_then ?_
 refine C_region ?_
 refine Jq (q_move rfl) ?_
 refine Jq (q_move rfl) ?_
 refine Jq (by first | exact q_build tb rfl rfl rfl rfl | exact q_buildArr tb rfl rfl rfl rfl rfl) ?_
 refine L_st tb rfl rfl ?_
 refine L_blk ?_
 refine C_region ?_
 refine Jq (q_move rfl) ?_
 refine Jq (q_add rfl rfl (by first | exact IntWalk.i64_in _ (by omega) | rfl)) ?_
 refine Jq (q_assign rfl) ?_
 refine L_end ?_
 exact fun ac_ wo_ hs_ => ⟨(k + 1, ⟨_, _⟩), ⟨root_no hq, by omega⟩, (by dsimp only; omega), hs_.weak ⟨rfl, rfl, rfl, rfl, trivial⟩ (fun h => h.sub (by repeat (first | exact List.Sublist.refl _ | apply List.Sublist.cons_cons | apply List.Sublist.cons)))⟩
 have hkn : k = n := by omega
 subst hkn
 refine C_exit ?_
 change C Tryz.prog _ _ _ _ _ _ _
 refine C_seq ?_
 refine C_region ?_
 refine Jq (q_loadA tb rfl rfl bxo rfl rfl) ?_
 refine L_st tb rfl rfl ?_
 refine L_then ?_
 refine C_ret ?_
 exact ret_of (resC tb rfl rfl rfl m0 rfl) sub_nil (by intro r hr; cases hr) ⟨rfl, rfl⟩
end Go.Proofs.YthilaakeimfedaaGreatDoor
