/-
  Walks: each function named returns what its model says. Conditions: those in front of each theorem.
-/
import Derived.Test.YtacndicgpkeobaaGreatDoorW
import Derived.Test.YtacndicgpkeobaaGreatDoorAs11
import Derived.Test.YtacndicgpkeobaaGreatDoorShKn
namespace Go.Proofs.YtacndicgpkeobaaGreatDoor
set_option maxRecDepth 100000
set_option maxHeartbeats 4000000
open Go.RowKit

set_option maxRecDepth 100000 in
theorem ct_ascent_within (n lo hi : Int) : Ct Tryz.prog 118 [.int .i64 n, .int .i64 lo, .int .i64 hi] [] (isV (.bool (decide (lo ≤ n ∧ n ≤ hi)))) := by
 refine Ct.of (N := 15) Tryz.func118 rfl rfl rfl fun w => ?_
 refine C_weak (E' := [(0, .int .i64 n), (1, .int .i64 lo), (2, .int .i64 hi)]) (rs' := []) ⟨rfl, rfl, rfl, trivial⟩ (fun _ h => h) ?_
 refine C_seq ?_
 refine C_region ?_
 refine Jq (q_assign rfl) ?_
 refine L_then ?_
 refine C_seq ?_
 refine C_region ?_
 refine Jq (q_move rfl) ?_
 refine Jq (q_move rfl) ?_
 refine Jq (q_geq rfl rfl) ?_
 refine Jq (q_move rfl) ?_
 refine L_dec (d := 10) rfl (fun h1 => ?_) (fun h1 => ?_)
 refine Jg (q_move rfl) ?_
 refine Jg (q_move rfl) ?_
 refine Jg (q_leq rfl rfl) ?_
 refine Jq (q_pickT rfl rfl) ?_
 refine Jq (q_assign rfl) ?_
 refine L_then ?_
 refine C_ret ?_
 exact ret_of (res1 rfl rfl) sub_nil (by intro r hr; cases hr) ⟨(by first | rfl | exact congrArg Value.bool (decide_eq_decide.2 (by omega)) | exact congrArg Value.bool (decide_eq_true (by omega)).symm | exact congrArg Value.bool (decide_eq_false (by omega)).symm | exact congrArg Value.bool (decide_eq_true (by omega))), rfl⟩
 iterate 3 refine Jk ?_
 refine Jq (q_pickF rfl rfl) ?_
 refine Jq (q_assign rfl) ?_
 refine L_then ?_
 refine C_ret ?_
 exact ret_of (res1 rfl rfl) sub_nil (by intro r hr; cases hr) ⟨(by first | rfl | exact congrArg Value.bool (decide_eq_decide.2 (by omega)) | exact congrArg Value.bool (decide_eq_true (by omega)).symm | exact congrArg Value.bool (decide_eq_false (by omega)).symm | exact congrArg Value.bool (decide_eq_true (by omega))), rfl⟩
set_option maxRecDepth 100000 in
theorem ct_ascent_isDepth (n : Int) : Ct Tryz.prog 162 [.int .i64 n] [] (isV (.bool (decide (0 ≤ n ∧ n ≤ 30000)))) := by
 refine Ct.of (N := 5) Tryz.func162 rfl rfl rfl fun w => ?_
 refine C_weak (E' := [(0, .int .i64 n)]) (rs' := []) ⟨rfl, trivial⟩ (fun _ h => h) ?_
 refine C_seq ?_
 refine C_region ?_
 refine Jq (q_assign rfl) ?_
 refine L_then ?_
 refine C_seq ?_
 refine C_region ?_
 refine Jq (q_move rfl) ?_
 refine L_call tb rfl rfl (ct_ascent_within _ _ _) no_ps rfl ?_
 refine Jq (q_assign rfl) ?_
 refine L_then ?_
 refine C_ret ?_
 exact ret_of (res1 rfl rfl) sub_nil (by intro r hr; cases hr) ⟨rfl, rfl⟩
set_option maxRecDepth 100000 in
theorem ct_ascent_isSeconds (n : Int) : Ct Tryz.prog 117 [.int .i64 n] [] (isV (.bool (decide (1 ≤ n ∧ n ≤ 100000)))) := by
 refine Ct.of (N := 5) Tryz.func117 rfl rfl rfl fun w => ?_
 refine C_weak (E' := [(0, .int .i64 n)]) (rs' := []) ⟨rfl, trivial⟩ (fun _ h => h) ?_
 refine C_seq ?_
 refine C_region ?_
 refine Jq (q_assign rfl) ?_
 refine L_then ?_
 refine C_seq ?_
 refine C_region ?_
 refine Jq (q_move rfl) ?_
 refine L_call tb rfl rfl (ct_ascent_within _ _ _) no_ps rfl ?_
 refine Jq (q_assign rfl) ?_
 refine L_then ?_
 refine C_ret ?_
 exact ret_of (res1 rfl rfl) sub_nil (by intro r hr; cases hr) ⟨rfl, rfl⟩
set_option maxRecDepth 100000 in
theorem ct_shotlineref04_IsDepth (n : Int) : Ct Tryz.prog 58 [.int .i64 n] [] (isV (.bool (decide (0 ≤ n ∧ n ≤ 30000)))) := by
 refine Ct.of (N := 5) Tryz.func58 rfl rfl rfl fun w => ?_
 refine C_weak (E' := [(0, .int .i64 n)]) (rs' := []) ⟨rfl, trivial⟩ (fun _ h => h) ?_
 refine C_seq ?_
 refine C_region ?_
 refine Jq (q_assign rfl) ?_
 refine L_then ?_
 refine C_seq ?_
 refine C_region ?_
 refine Jq (q_move rfl) ?_
 refine L_call tb rfl rfl (ct_shotlinebase_Within _ _ _) no_ps rfl ?_
 refine Jq (q_assign rfl) ?_
 refine L_then ?_
 refine C_ret ?_
 exact ret_of (res1 rfl rfl) sub_nil (by intro r hr; cases hr) ⟨rfl, rfl⟩
set_option maxRecDepth 100000 in
theorem ct_ascent_CheckRules_1 (n : Int) : Ct Tryz.prog 166 [.int .i64 n] [] (isV (.bool (decide (0 ≤ n ∧ n ≤ 1000)))) := by
 refine Ct.of (N := 5) Tryz.func166 rfl rfl rfl fun w => ?_
 refine C_weak (E' := [(0, .int .i64 n)]) (rs' := []) ⟨rfl, trivial⟩ (fun _ h => h) ?_
 refine C_seq ?_
 refine C_region ?_
 refine Jq (q_assign rfl) ?_
 refine L_then ?_
 refine C_seq ?_
 refine C_region ?_
 refine Jq (q_move rfl) ?_
 refine L_call tb rfl rfl (ct_ascent_within _ _ _) no_ps rfl ?_
 refine Jq (q_assign rfl) ?_
 refine L_then ?_
 refine C_ret ?_
 exact ret_of (res1 rfl rfl) sub_nil (by intro r hr; cases hr) ⟨rfl, rfl⟩
set_option maxRecDepth 100000 in
theorem ct_ascent_CheckRules (r : Rl) : Ct Tryz.prog 110 [.agg (cRl r).toArray] [] (isV (.int .i64 (ckRl r))) := by
 refine Ct.of (N := 53) Tryz.func110 rfl rfl rfl fun w => ?_
 refine C_weak (E' := [(0, .agg (cRl r).toArray)]) (rs' := []) ⟨rfl, trivial⟩ (fun _ h => h) ?_
 refine C_seq ?_
 refine C_region ?_
 refine L_box rfl rfl rfl fun g1 => ?_
 refine Jq (q_assign rfl) ?_
 refine L_then ?_
 refine C_seq ?_
 refine C_region ?_
 refine Jq (q_assign rfl) ?_
 refine L_then ?_
 refine C_seq ?_
 refine C_block ?_
 refine C_seq ?_
 refine C_region ?_
 refine Jq (q_field tb rfl rfl rfl) ?_
 refine Jq (q_load tb rfl rfl bxo rfl) ?_
 refine L_call tb rfl rfl (ct_ascent_within _ _ _) no_ps rfl ?_
 refine Jq (q_not rfl decide_not.symm) ?_
 refine Jq (q_move rfl) ?_
 refine L_dec (d := 9) rfl (fun b0 => ?_) (fun b0 => ?_)
 iterate 4 refine Jk ?_
 refine Jq (q_pickT rfl rfl) ?_
 refine Jq (q_move rfl) ?_
 iterate 4 refine Jk ?_
 refine Jq (q_pickT rfl rfl) ?_
 refine Jq (q_move rfl) ?_
 iterate 5 refine Jk ?_
 refine Jq (q_pickT rfl rfl) ?_
 refine Jq (q_move rfl) ?_
 iterate 5 refine Jk ?_
 refine Jq (q_pickT rfl rfl) ?_
 refine Jq (q_move rfl) ?_
 iterate 4 refine Jk ?_
 refine Jq (q_pickT rfl rfl) ?_
 refine Jq (q_move rfl) ?_
 iterate 4 refine Jk ?_
 refine Jq (q_pickT rfl rfl) ?_
 refine Jq (q_assign rfl) ?_
 refine L_then ?_
 refine C_true rfl ?_
 refine C_seq ?_
 refine C_region ?_
 refine Jq (q_assign rfl) ?_
 refine L_then ?_
 refine C_ret ?_
 exact ret_of (res1 rfl rfl) sub_nil (by intro r hr; cases hr) ⟨(congrArg (Value.int .i64) (by exact (ckRl_2 (fun h => b0 h.1)).symm)), rfl⟩
 refine Jg (q_field tb rfl rfl rfl) ?_
 refine Jg (q_load tb rfl rfl bxo rfl) ?_
 refine L_callg tb rfl rfl rfl rfl rfl rfl (ct_ascent_within _ _ _) no_ps rfl ?_
 refine Jg (q_not rfl decide_not.symm) ?_
 refine Jq (q_pickF rfl rfl) ?_
 refine Jq (q_move rfl) ?_
 refine L_dec (d := 15) rfl (fun b1 => ?_) (fun b1 => ?_)
 iterate 4 refine Jk ?_
 refine Jq (q_pickT rfl rfl) ?_
 refine Jq (q_move rfl) ?_
 iterate 5 refine Jk ?_
 refine Jq (q_pickT rfl rfl) ?_
 refine Jq (q_move rfl) ?_
 iterate 5 refine Jk ?_
 refine Jq (q_pickT rfl rfl) ?_
 refine Jq (q_move rfl) ?_
 iterate 4 refine Jk ?_
 refine Jq (q_pickT rfl rfl) ?_
 refine Jq (q_move rfl) ?_
 iterate 4 refine Jk ?_
 refine Jq (q_pickT rfl rfl) ?_
 refine Jq (q_assign rfl) ?_
 refine L_then ?_
 refine C_true rfl ?_
 refine C_seq ?_
 refine C_region ?_
 refine Jq (q_assign rfl) ?_
 refine L_then ?_
 refine C_ret ?_
 exact ret_of (res1 rfl rfl) sub_nil (by intro r hr; cases hr) ⟨(congrArg (Value.int .i64) (by exact (ckRl_2 (fun h => b1 h.2.1)).symm)), rfl⟩
 refine Jg (q_field tb rfl rfl rfl) ?_
 refine Jg (q_load tb rfl rfl bxo rfl) ?_
 refine L_callg tb rfl rfl rfl rfl rfl rfl (ct_ascent_within _ _ _) no_ps rfl ?_
 refine Jg (q_not rfl decide_not.symm) ?_
 refine Jq (q_pickF rfl rfl) ?_
 refine Jq (q_move rfl) ?_
 refine L_dec (d := 21) rfl (fun b2 => ?_) (fun b2 => ?_)
 iterate 5 refine Jk ?_
 refine Jq (q_pickT rfl rfl) ?_
 refine Jq (q_move rfl) ?_
 iterate 5 refine Jk ?_
 refine Jq (q_pickT rfl rfl) ?_
 refine Jq (q_move rfl) ?_
 iterate 4 refine Jk ?_
 refine Jq (q_pickT rfl rfl) ?_
 refine Jq (q_move rfl) ?_
 iterate 4 refine Jk ?_
 refine Jq (q_pickT rfl rfl) ?_
 refine Jq (q_assign rfl) ?_
 refine L_then ?_
 refine C_true rfl ?_
 refine C_seq ?_
 refine C_region ?_
 refine Jq (q_assign rfl) ?_
 refine L_then ?_
 refine C_ret ?_
 exact ret_of (res1 rfl rfl) sub_nil (by intro r hr; cases hr) ⟨(congrArg (Value.int .i64) (by exact (ckRl_2 (fun h => b2 h.2.2.1)).symm)), rfl⟩
 refine Jg (q_move rfl) ?_
 refine Jg (q_field tb rfl rfl rfl) ?_
 refine Jg (q_load tb rfl rfl bxo rfl) ?_
 refine L_log rfl rfl rfl rfl rfl rfl rfl (lo_callC (tb.en_ok _ (lkT_mem (rfl : lkT tb.en 166 = some ()))) rfl rfl (ct_ascent_CheckRules_1 r.lo) no_ps isV_sinks) ?_
 rintro _ _ ⟨rfl, rfl⟩
 refine Jg (q_not rfl decide_not.symm) ?_
 refine Jq (q_pickF rfl rfl) ?_
 refine Jq (q_move rfl) ?_
 refine L_dec (d := 28) rfl (fun b3 => ?_) (fun b3 => ?_)
 iterate 5 refine Jk ?_
 refine Jq (q_pickT rfl rfl) ?_
 refine Jq (q_move rfl) ?_
 iterate 4 refine Jk ?_
 refine Jq (q_pickT rfl rfl) ?_
 refine Jq (q_move rfl) ?_
 iterate 4 refine Jk ?_
 refine Jq (q_pickT rfl rfl) ?_
 refine Jq (q_assign rfl) ?_
 refine L_then ?_
 refine C_true rfl ?_
 refine C_seq ?_
 refine C_region ?_
 refine Jq (q_assign rfl) ?_
 refine L_then ?_
 refine C_ret ?_
 exact ret_of (res1 rfl rfl) sub_nil (by intro r hr; cases hr) ⟨(congrArg (Value.int .i64) (by exact (ckRl_2 (fun h => b3 h.2.2.2.1)).symm)), rfl⟩
 refine Jg (q_move rfl) ?_
 refine Jg (q_field tb rfl rfl rfl) ?_
 refine Jg (q_load tb rfl rfl bxo rfl) ?_
 refine L_log rfl rfl rfl rfl rfl rfl rfl (lo_callC (tb.en_ok _ (lkT_mem (rfl : lkT tb.en 166 = some ()))) rfl rfl (ct_ascent_CheckRules_1 r.hi) no_ps isV_sinks) ?_
 rintro _ _ ⟨rfl, rfl⟩
 refine Jg (q_not rfl decide_not.symm) ?_
 refine Jq (q_pickF rfl rfl) ?_
 refine Jq (q_move rfl) ?_
 refine L_dec (d := 35) rfl (fun b4 => ?_) (fun b4 => ?_)
 iterate 4 refine Jk ?_
 refine Jq (q_pickT rfl rfl) ?_
 refine Jq (q_move rfl) ?_
 iterate 4 refine Jk ?_
 refine Jq (q_pickT rfl rfl) ?_
 refine Jq (q_assign rfl) ?_
 refine L_then ?_
 refine C_true rfl ?_
 refine C_seq ?_
 refine C_region ?_
 refine Jq (q_assign rfl) ?_
 refine L_then ?_
 refine C_ret ?_
 exact ret_of (res1 rfl rfl) sub_nil (by intro r hr; cases hr) ⟨(congrArg (Value.int .i64) (by exact (ckRl_2 (fun h => b4 h.2.2.2.2.1)).symm)), rfl⟩
 refine Jg (q_field tb rfl rfl rfl) ?_
 refine Jg (q_load tb rfl rfl bxo rfl) ?_
 refine L_callg tb rfl rfl rfl rfl rfl rfl (ct_ascent_within _ _ _) no_ps rfl ?_
 refine Jg (q_not rfl decide_not.symm) ?_
 refine Jq (q_pickF rfl rfl) ?_
 refine Jq (q_move rfl) ?_
 refine L_dec (d := 41) rfl (fun b5 => ?_) (fun b5 => ?_)
 iterate 4 refine Jk ?_
 refine Jq (q_pickT rfl rfl) ?_
 refine Jq (q_assign rfl) ?_
 refine L_then ?_
 refine C_true rfl ?_
 refine C_seq ?_
 refine C_region ?_
 refine Jq (q_assign rfl) ?_
 refine L_then ?_
 refine C_ret ?_
 exact ret_of (res1 rfl rfl) sub_nil (by intro r hr; cases hr) ⟨(congrArg (Value.int .i64) (by exact (ckRl_2 (fun h => b5 h.2.2.2.2.2.1)).symm)), rfl⟩
 refine Jg (q_field tb rfl rfl rfl) ?_
 refine Jg (q_load tb rfl rfl bxo rfl) ?_
 refine L_callg tb rfl rfl rfl rfl rfl rfl (ct_ascent_within _ _ _) no_ps rfl ?_
 refine Jg (q_not rfl decide_not.symm) ?_
 refine Jq (q_pickF rfl rfl) ?_
 refine Jq (q_assign rfl) ?_
 refine L_then ?_
 refine C_dec rfl (fun b6 => ?_) (fun b6 => ?_)
 refine C_seq ?_
 refine C_region ?_
 refine Jq (q_assign rfl) ?_
 refine L_then ?_
 refine C_ret ?_
 exact ret_of (res1 rfl rfl) sub_nil (by intro r hr; cases hr) ⟨(congrArg (Value.int .i64) (by exact (ckRl_2 (fun h => b6 h.2.2.2.2.2.2)).symm)), rfl⟩
 refine C_seq ?_
 refine C_region ?_
 refine Jq (q_field tb rfl rfl rfl) ?_
 refine Jq (q_load tb rfl rfl bxo rfl) ?_
 refine Jq (q_field tb rfl rfl rfl) ?_
 refine Jq (q_load tb rfl rfl bxo rfl) ?_
 refine Jq (q_gtr rfl rfl) ?_
 refine Jq (q_assign rfl) ?_
 refine L_then ?_
 refine C_dec rfl (fun b7 => ?_) (fun b7 => ?_)
 refine C_seq ?_
 refine C_region ?_
 refine Jq (q_assign rfl) ?_
 refine L_then ?_
 refine C_ret ?_
 exact ret_of (res1 rfl rfl) sub_nil (by intro r hr; cases hr) ⟨(congrArg (Value.int .i64) (by exact (ckRl_9 ⟨Decidable.not_not.1 b0, Decidable.not_not.1 b1, Decidable.not_not.1 b2, Decidable.not_not.1 b3, Decidable.not_not.1 b4, Decidable.not_not.1 b5, Decidable.not_not.1 b6⟩ b7).symm)), rfl⟩
 refine C_skip_blk ?_
 refine C_seq ?_
 refine C_region ?_
 refine Jq (q_assign rfl) ?_
 refine L_then ?_
 refine C_ret ?_
 exact ret_of (res1 rfl rfl) sub_nil (by intro r hr; cases hr) ⟨(congrArg (Value.int .i64) (by exact (ckRl_0 ⟨Decidable.not_not.1 b0, Decidable.not_not.1 b1, Decidable.not_not.1 b2, Decidable.not_not.1 b3, Decidable.not_not.1 b4, Decidable.not_not.1 b5, Decidable.not_not.1 b6⟩ b7).symm)), rfl⟩
set_option maxRecDepth 100000 in
theorem ct_ascent_rules_factor (r : Rl) (H : okRl r) (d : Int) (hd : 0 ≤ d ∧ d ≤ 30000) : Ct Tryz.prog 112 [.agg (cRl r).toArray, .int .i64 d] [] (isV (.int .i64 (facR r d))) := by
 refine Ct.of (N := 35) Tryz.func112 rfl rfl rfl fun w => ?_
 refine C_weak (E' := [(0, .agg (cRl r).toArray), (1, .int .i64 d)]) (rs' := []) ⟨rfl, rfl, trivial⟩ (fun _ h => h) ?_
 have h1 := H.sp; have h2 := H.gr; have h3 := H.st; have h4 := H.lo; have h5 := H.hi; have h6 := H.an; have h7 := H.fi; have h8 := H.le
 have hp := fac_prod H hd
 refine C_seq ?_
 refine C_region ?_
 refine L_box rfl rfl rfl fun g2 => ?_
 refine Jq (q_assign rfl) ?_
 refine L_then ?_
 refine C_seq ?_
 refine C_seq ?_
 refine C_region ?_
 refine Jq (q_move rfl) ?_
 refine Jq (q_field tb rfl rfl rfl) ?_
 refine Jq (q_field tb rfl rfl rfl) ?_
 refine Jq (q_load tb rfl rfl bxo rfl) ?_
 refine Jq (q_geq rfl rfl) ?_
 refine L_then ?_
 refine C_dec rfl (fun h9_ => ?_) (fun h9_ => ?_)
 refine C_seq ?_
 refine C_region ?_
 refine Jq (q_field tb rfl rfl rfl) ?_
 refine Jq (q_field tb rfl rfl rfl) ?_
 refine Jq (q_load tb rfl rfl bxo rfl) ?_
 refine Jq (q_assign rfl) ?_
 refine L_then ?_
 refine C_ret ?_
 exact ret_of (res1 rfl rfl) sub_nil (by intro r hr; cases hr) ⟨(congrArg (Value.int .i64) (by unfold facR; rw [if_pos (by omega)])), rfl⟩
 have hq := fac_quo H hd h9_
 refine C_skip_then ?_
 refine C_seq ?_
 refine C_draw (n := 22) [(0, false), (1, false), (2, false), (3, false), (4, false), (5, false), (6, false), (7, false), (8, false), (9, false), (10, false), (11, false), (12, false), (13, false), (14, false), (15, false), (16, false), (17, false), (18, false), (19, false), (20, false), (21, false)] mixed (by kernel_rfl) ?_
 refine Yq rfl (q_field tb rfl rfl rfl) ?_
 refine Yq rfl (q_field tb rfl rfl rfl) ?_
 refine Yq rfl (q_load tb rfl rfl bxo rfl) ?_
 refine Yq rfl (q_field tb rfl rfl rfl) ?_
 refine Yq rfl (q_field tb rfl rfl rfl) ?_
 refine Yq rfl (q_load tb rfl rfl bxo rfl) ?_
 refine Yq rfl (q_field tb rfl rfl rfl) ?_
 refine Yq rfl (q_field tb rfl rfl rfl) ?_
 refine Yq rfl (q_load tb rfl rfl bxo rfl) ?_
 refine Yq rfl (q_sub rfl rfl (by first | exact IntWalk.i64_in _ (by omega) | rfl)) ?_
 refine Yq rfl (q_move rfl) ?_
 refine Yq rfl (q_mul rfl rfl (by first | exact IntWalk.i64_in _ (by omega) | rfl)) ?_
 refine Yq rfl (q_field tb rfl rfl rfl) ?_
 refine Yq rfl (q_field tb rfl rfl rfl) ?_
 refine Yq rfl (q_load tb rfl rfl bxo rfl) ?_
 refine Yq rfl (q_add rfl rfl (by first | exact IntWalk.i64_in _ (by omega) | rfl)) ?_
 refine Yq rfl (q_sub rfl rfl (by first | exact IntWalk.i64_in _ (by omega) | rfl)) ?_
 refine Yq rfl (q_field tb rfl rfl rfl) ?_
 refine Yq rfl (q_field tb rfl rfl rfl) ?_
 refine Yq rfl (q_load tb rfl rfl bxo rfl) ?_
 refine Yq rfl (q_quo rfl rfl (by omega) (by first | exact IntWalk.i64_quo _ _ (by omega) | exact IntWalk.i64_quo' _ _ (by omega) | rfl)) ?_
 refine Yq rfl (q_sub rfl rfl (by first | exact IntWalk.i64_in _ (by omega) | rfl)) ?_
 refine W_nil ?_
 refine Jq (q_assign rfl) ?_
 refine L_then ?_
 refine C_ret ?_
 exact ret_of (res1 rfl rfl) sub_nil (by intro r hr; cases hr) ⟨(congrArg (Value.int .i64) (by unfold facR upZ; rw [if_neg (by omega)])), rfl⟩
set_option maxRecDepth 100000 in
theorem ct_ascent_rules_rise (r : Rl) (H : okRl r) (a b : Int) (ha : a ≤ 30000) (hb : 0 ≤ b) (hab : b ≤ a) : Ct Tryz.prog 169 [.agg (cRl r).toArray, .int .i64 a, .int .i64 b] [] (isV (.int .i64 (risR r a b))) := by
 refine Ct.of (N := 20) Tryz.func169 rfl rfl rfl fun w => ?_
 refine C_weak (E' := [(0, .agg (cRl r).toArray), (1, .int .i64 a), (2, .int .i64 b)]) (rs' := []) ⟨rfl, rfl, rfl, trivial⟩ (fun _ h => h) ?_
 have h1 := H.sp; have h2 := H.gr; have h3 := H.st; have h4 := H.lo; have h5 := H.hi; have h6 := H.an; have h7 := H.fi; have h8 := H.le
 have hi := ris_in H ha hb hab
 unfold risR upZ at hi
 refine C_seq ?_
 refine C_region ?_
 refine L_box rfl rfl rfl fun g3 => ?_
 refine Jq (q_assign rfl) ?_
 refine L_then ?_
 refine C_seq ?_
 refine C_region ?_
 refine Jq (q_move rfl) ?_
 refine Jq (q_move rfl) ?_
 refine Jq (q_sub rfl rfl (by first | exact IntWalk.i64_in _ (by omega) | rfl)) ?_
 refine Jq (q_mul rfl rfl (by first | exact IntWalk.i64_in _ (by omega) | rfl)) ?_
 refine Jq (q_field tb rfl rfl rfl) ?_
 refine Jq (q_field tb rfl rfl rfl) ?_
 refine Jq (q_load tb rfl rfl bxo rfl) ?_
 refine Jq (q_add rfl rfl (by first | exact IntWalk.i64_in _ (by omega) | rfl)) ?_
 refine Jq (q_sub rfl rfl (by first | exact IntWalk.i64_in _ (by omega) | rfl)) ?_
 refine Jq (q_field tb rfl rfl rfl) ?_
 refine Jq (q_field tb rfl rfl rfl) ?_
 refine Jq (q_load tb rfl rfl bxo rfl) ?_
 refine Jq (q_quo rfl rfl (by omega) (by first | exact IntWalk.i64_quo _ _ (by omega) | exact IntWalk.i64_quo' _ _ (by omega) | rfl)) ?_
 refine Jq (q_assign rfl) ?_
 refine L_then ?_
 refine C_ret ?_
 exact ret_of (res1 rfl rfl) sub_nil (by intro r hr; cases hr) ⟨rfl, rfl⟩
set_option maxRecDepth 100000 in
theorem ct_ascent_rules_next (r : Rl) (H : okRl r) (d : Int) (hd : 1 ≤ d ∧ d ≤ 30000) : Ct Tryz.prog 121 [.agg (cRl r).toArray, .int .i64 d] [] (isV (.int .i64 (nxtR r d))) := by
 refine Ct.of (N := 15) Tryz.func121 rfl rfl rfl fun w => ?_
 refine C_weak (E' := [(0, .agg (cRl r).toArray), (1, .int .i64 d)]) (rs' := []) ⟨rfl, rfl, trivial⟩ (fun _ h => h) ?_
 have h1 := H.sp; have h2 := H.gr; have h3 := H.st; have h4 := H.lo; have h5 := H.hi; have h6 := H.an; have h7 := H.fi; have h8 := H.le
 have hi := nxt_in H hd.1
 unfold nxtR at hi
 refine C_seq ?_
 refine C_region ?_
 refine L_box rfl rfl rfl fun g2 => ?_
 refine Jq (q_assign rfl) ?_
 refine L_then ?_
 refine C_seq ?_
 refine C_draw (n := 10) [(0, false), (1, false), (2, false), (3, false), (4, false), (5, false), (6, false), (7, false), (8, false), (9, false)] mixed (by kernel_rfl) ?_
 refine Yq rfl (q_move rfl) ?_
 refine Yq rfl (q_sub rfl rfl (by first | exact IntWalk.i64_in _ (by omega) | rfl)) ?_
 refine Yq rfl (q_field tb rfl rfl rfl) ?_
 refine Yq rfl (q_field tb rfl rfl rfl) ?_
 refine Yq rfl (q_load tb rfl rfl bxo rfl) ?_
 refine Yq rfl (q_quo rfl rfl (by omega) (by first | exact IntWalk.i64_quo _ _ (by omega) | exact IntWalk.i64_quo' _ _ (by omega) | rfl)) ?_
 refine Yq rfl (q_field tb rfl rfl rfl) ?_
 refine Yq rfl (q_field tb rfl rfl rfl) ?_
 refine Yq rfl (q_load tb rfl rfl bxo rfl) ?_
 refine Yq rfl (q_mul rfl rfl (by first | exact IntWalk.i64_in _ (by omega) | rfl)) ?_
 refine W_nil ?_
 refine Jq (q_assign rfl) ?_
 refine L_then ?_
 refine C_ret ?_
 exact ret_of (res1 rfl rfl) sub_nil (by intro r hr; cases hr) ⟨rfl, rfl⟩
set_option maxRecDepth 100000 in
theorem ct_ascent_depthErr_1 (n : Int) : Ct Tryz.prog 168 [.int .i64 n] [] (isV (.bool (decide (¬ (0 ≤ n ∧ n ≤ 30000))))) := by
 refine Ct.of (N := 6) Tryz.func168 rfl rfl rfl fun w => ?_
 refine C_weak (E' := [(0, .int .i64 n)]) (rs' := []) ⟨rfl, trivial⟩ (fun _ h => h) ?_
 refine C_seq ?_
 refine C_region ?_
 refine Jq (q_assign rfl) ?_
 refine L_then ?_
 refine C_seq ?_
 refine C_region ?_
 refine Jq (q_move rfl) ?_
 refine L_call tb rfl rfl (ct_ascent_isDepth _) no_ps rfl ?_
 refine Jq (q_not rfl decide_not.symm) ?_
 refine Jq (q_assign rfl) ?_
 refine L_then ?_
 refine C_ret ?_
 exact ret_of (res1 rfl rfl) sub_nil (by intro r hr; cases hr) ⟨rfl, rfl⟩
set_option maxRecDepth 100000 in
theorem ct_slices_IndexFunc_int_int (v : Value) (es : List Int) (hle : es.length ≤ 1000) : Ct Tryz.prog 206 [v, .func (.func 168) #[] #[]] [(v, 1, es.map cI)] (isV (.int .i64 (ixD es 0))) := by
 refine Ct.of (N := 19) Tryz.func206 rfl rfl rfl fun w => ?_
 refine C_weak (E' := [(0, v), (1, .func (.func 168) #[] #[])]) (rs' := [rd v 1 (es.map cI)]) ⟨rfl, rfl, trivial⟩ (fun _ h => h) ?_
 have hl := len_map cI es
 refine C_seq ?_
 refine C_region ?_
 refine Jq (q_assign rfl) ?_
 refine L_then ?_
 refine C_seq ?_
 refine C_seq ?_
 refine C_region ?_
 refine Jq (q_move rfl) ?_
 refine Jq (q_len tb rfl rfl gvo) ?_
 refine Jq (q_move rfl) ?_
 refine L_then ?_
 refine C_block ?_
 refine C_loop (ι := Nat) (fun k => ([(0, v), (1, .func (.func 168) #[] #[]), (7, .int .i64 (es.map cI).length), (8, .int .i64 (k : Int))], [rd v 1 (es.map cI)])) (fun k => k ≤ es.length ∧ ixD (es.drop k) k = ixD es 0) (fun k => es.length - k) 0 ⟨Nat.zero_le _, rfl⟩ (fun a w hs => hs.weak ⟨rfl, rfl, rfl, rfl, trivial⟩ (fun h => h.pk (by repeat (first | with_reducible exact pk_nil | refine pk_box rfl ?_ | refine pk_rd rfl ?_ | refine pk_sl rfl ?_ | with_reducible refine pk_app ?_ | with_reducible refine pk_app0 ?_ | with_reducible refine pk_app0L ?_ | with_reducible exact pk_tl | refine pk_var ?_)))) ?_
 rintro k ⟨hk, hf⟩
 dsimp only at hk hf ⊢
 refine C_seq ?_
 refine C_region ?_
 refine Jq (q_lss rfl rfl) ?_
 refine L_then ?_
 refine C_seq ?_
 refine C_dec rfl (fun h1 => ?_) (fun h1 => ?_)
 obtain ⟨x, hx⟩ := get_some es (k := k) (by omega); have hel := map_get cI hx
 refine C_skip_then ?_
 refine C_seq ?_
 refine C_block ?_
 refine C_seq ?_
 refine C_region ?_
 refine Jq (q_move rfl) ?_
 refine Jq (q_assign rfl) ?_
 refine L_then ?_
 refine C_seq ?_
 refine C_region ?_
 refine Jq (q_move rfl) ?_
 refine Jq (q_move rfl) ?_
 refine Jq (q_move rfl) ?_
 refine Jq (by first | exact q_index tb rfl rfl rfl rfl gvo (by omega) (by first | omega | (simp; done) | (simp; omega)) | exact q_indexP tb rfl rfl rfl rfl (by omega) (by omega)) ?_
 refine Jq (q_loadE tb rfl rfl gvo (i := k) (o := 0) (by omega) hel rfl) ?_
 refine L_callC (tb.en_ok _ (lkT_mem (rfl : lkT tb.en 168 = some ()))) rfl rfl (ct_ascent_depthErr_1 x) no_ps rfl ?_
 refine L_then ?_
 refine C_dec rfl (fun hbd => ?_) (fun hbd => ?_)
 refine C_seq ?_
 refine C_region ?_
 refine Jq (q_move rfl) ?_
 refine Jq (q_assign rfl) ?_
 refine L_then ?_
 refine C_ret ?_
 exact ret_of (res1 rfl rfl) sub_nil (by intro r hr; cases hr) ⟨(congrArg (Value.int .i64) (by rw [← hf]; exact (ixD_no hx hbd).symm)), rfl⟩
 refine C_skip_blk ?_
 refine C_region ?_
 refine Jq (q_add rfl rfl (by first | exact IntWalk.i64_in _ (by omega) | rfl)) ?_
 refine Jq (q_move rfl) ?_
 refine L_end ?_
 exact fun ac_ wo_ hs_ => ⟨k + 1, ⟨by omega, by rw [← hf]; exact (ixD_yes hx (Decidable.not_not.1 hbd)).symm⟩, (by dsimp only; omega), hs_.weak ⟨rfl, rfl, rfl, rfl, trivial⟩ (fun h => h.pk (by repeat (first | with_reducible exact pk_nil | refine pk_box rfl ?_ | refine pk_rd rfl ?_ | refine pk_sl rfl ?_ | with_reducible refine pk_app ?_ | with_reducible refine pk_app0 ?_ | with_reducible refine pk_app0L ?_ | with_reducible exact pk_tl | refine pk_var ?_)))⟩
 refine C_exit ?_
 change C Tryz.prog _ _ _ _ _ _ _
 refine C_seq ?_
 refine C_region ?_
 refine Jq (q_assign rfl) ?_
 refine L_then ?_
 refine C_ret ?_
 exact ret_of (res1 rfl rfl) sub_nil (by intro r hr; cases hr) ⟨(congrArg (Value.int .i64) (by rw [← hf]; exact (ixD_end (by omega)).symm)), rfl⟩
set_option maxRecDepth 100000 in
theorem ct_slices_ContainsFunc_int_int (v : Value) (es : List Int) (hle : es.length ≤ 1000) : Ct Tryz.prog 167 [v, .func (.func 168) #[] #[]] [(v, 1, es.map cI)] (isV (.bool (decide (ixD es 0 ≥ 0)))) := by
 refine Ct.of (N := 9) Tryz.func167 rfl rfl rfl fun w => ?_
 refine C_weak (E' := [(0, v), (1, .func (.func 168) #[] #[])]) (rs' := [rd v 1 (es.map cI)]) ⟨rfl, rfl, trivial⟩ (fun _ h => h) ?_
 refine C_seq ?_
 refine C_region ?_
 refine Jq (q_assign rfl) ?_
 refine L_then ?_
 refine C_seq ?_
 refine C_region ?_
 refine Jq (q_move rfl) ?_
 refine Jq (q_move rfl) ?_
 refine L_call tb rfl rfl (ct_slices_IndexFunc_int_int v es hle) (ps_cons gvo no_ps) rfl ?_
 refine Jq (q_geq rfl rfl) ?_
 refine Jq (q_assign rfl) ?_
 refine L_then ?_
 refine C_ret ?_
 exact ret_of (res1 rfl rfl) sub_nil (by intro r hr; cases hr) ⟨rfl, rfl⟩
set_option maxRecDepth 100000 in
theorem ct_ascent_depthErr (v : Value) (es : List Int) (hle : es.length ≤ 1000) : Ct Tryz.prog 111 [v] [(v, 1, es.map cI)] (isV (.int .i64 (depE es))) := by
 refine Ct.of (N := 5) Tryz.func111 rfl rfl rfl fun w => ?_
 refine C_weak (E' := [(0, v)]) (rs' := [rd v 1 (es.map cI)]) ⟨rfl, trivial⟩ (fun _ h => h) ?_
 refine C_seq ?_
 refine C_region ?_
 refine Jq (q_assign rfl) ?_
 refine L_then ?_
 refine C_seq ?_
 refine C_seq ?_
 refine C_region ?_
 refine Jq (q_move rfl) ?_
 refine L_call tb rfl rfl (ct_slices_ContainsFunc_int_int v es hle) (ps_cons gvo no_ps) rfl ?_
 refine L_then ?_
 refine C_dec rfl (fun hc => ?_) (fun hc => ?_)
 refine C_seq ?_
 refine C_region ?_
 refine Jq (q_assign rfl) ?_
 refine L_then ?_
 refine C_ret ?_
 exact ret_of (res1 rfl rfl) sub_nil (by intro r hr; cases hr) ⟨(congrArg (Value.int .i64) (by exact (if_pos hc).symm)), rfl⟩
 refine C_skip_then ?_
 refine C_seq ?_
 refine C_region ?_
 refine Jq (q_assign rfl) ?_
 refine L_then ?_
 refine C_ret ?_
 exact ret_of (res1 rfl rfl) sub_nil (by intro r hr; cases hr) ⟨(congrArg (Value.int .i64) (by exact (if_neg hc).symm)), rfl⟩
set_option maxRecDepth 100000 in
theorem ct_ascent_first (v : Value) (es : List Int) (hle : es.length ≤ 1000) : Ct Tryz.prog 109 [v] [(v, 1, es.map cI)] (isV (.int .i64 (firstE es))) := by
 refine Ct.of (N := 15) Tryz.func109 rfl rfl rfl fun w => ?_
 refine C_weak (E' := [(0, v)]) (rs' := [rd v 1 (es.map cI)]) ⟨rfl, trivial⟩ (fun _ h => h) ?_
 have hl := len_map cI es
 refine C_seq ?_
 refine C_region ?_
 refine Jq (q_assign rfl) ?_
 refine L_then ?_
 refine C_seq ?_
 refine C_seq ?_
 refine C_region ?_
 refine Jq (q_move rfl) ?_
 refine Jq (q_len tb rfl rfl gvo) ?_
 refine Jq (q_move rfl) ?_
 refine L_then ?_
 refine C_block ?_
 refine C_loop (ι := Nat) (fun k => ([(5, v), (6, .int .i64 (es.map cI).length), (7, .int .i64 (k : Int))], [rd v 1 (es.map cI)])) (fun k => k ≤ es.length ∧ firstE (es.drop k) = firstE es) (fun k => es.length - k) 0 ⟨Nat.zero_le _, rfl⟩ (fun a w hs => hs.weak ⟨rfl, rfl, rfl, trivial⟩ (fun h => h.pk (by repeat (first | with_reducible exact pk_nil | refine pk_box rfl ?_ | refine pk_rd rfl ?_ | refine pk_sl rfl ?_ | with_reducible refine pk_app ?_ | with_reducible refine pk_app0 ?_ | with_reducible refine pk_app0L ?_ | with_reducible exact pk_tl | refine pk_var ?_)))) ?_
 rintro k ⟨hk, hf⟩
 dsimp only at hk hf ⊢
 refine C_seq ?_
 refine C_region ?_
 refine Jq (q_lss rfl rfl) ?_
 refine L_then ?_
 refine C_seq ?_
 refine C_dec rfl (fun h1 => ?_) (fun h1 => ?_)
 obtain ⟨e, he⟩ := get_some es (k := k) (by omega); have hel := map_get cI he
 refine C_skip_then ?_
 refine C_seq ?_
 refine C_block ?_
 refine C_seq ?_
 refine C_region ?_
 refine Jq (by first | exact q_index tb rfl rfl rfl rfl gvo (by omega) (by first | omega | (simp; done) | (simp; omega)) | exact q_indexP tb rfl rfl rfl rfl (by omega) (by omega)) ?_
 refine Jq (q_loadE tb rfl rfl gvo (i := k) (o := 0) (by omega) hel rfl) ?_
 refine Jq (q_assign rfl) ?_
 refine L_then ?_
 refine C_seq ?_
 refine C_region ?_
 refine Jq (q_move rfl) ?_
 refine Jq (q_neq rfl rfl) ?_
 refine L_then ?_
 refine C_dec rfl (fun h2 => ?_) (fun h2 => ?_)
 refine C_seq ?_
 refine C_region ?_
 refine Jq (q_move rfl) ?_
 refine Jq (q_assign rfl) ?_
 refine L_then ?_
 refine C_ret ?_
 exact ret_of (res1 rfl rfl) sub_nil (by intro r hr; cases hr) ⟨(congrArg (Value.int .i64) (by rw [← hf, firstE_step he, if_neg (by omega)])), rfl⟩
 refine C_skip_blk ?_
 refine C_region ?_
 refine Jq (q_add rfl rfl (by first | exact IntWalk.i64_in _ (by omega) | rfl)) ?_
 refine Jq (q_move rfl) ?_
 refine L_end ?_
 exact fun ac_ wo_ hs_ => ⟨k + 1, ⟨by omega, by rw [← hf, firstE_step he, if_pos (by omega)]⟩, (by dsimp only; omega), hs_.weak ⟨rfl, rfl, rfl, trivial⟩ (fun h => h.pk (by repeat (first | with_reducible exact pk_nil | refine pk_box rfl ?_ | refine pk_rd rfl ?_ | refine pk_sl rfl ?_ | with_reducible refine pk_app ?_ | with_reducible refine pk_app0 ?_ | with_reducible refine pk_app0L ?_ | with_reducible exact pk_tl | refine pk_var ?_)))⟩
 refine C_exit ?_
 change C Tryz.prog _ _ _ _ _ _ _
 refine C_seq ?_
 refine C_region ?_
 refine Jq (q_assign rfl) ?_
 refine L_then ?_
 refine C_ret ?_
 exact ret_of (res1 rfl rfl) sub_nil (by intro r hr; cases hr) ⟨(congrArg (Value.int .i64) (by rw [← hf, drop_all (by omega)]; rfl)), rfl⟩
set_option maxRecDepth 100000 in
theorem ct_ascent_FactorAt (r : Rl) (d : Int) : Ct Tryz.prog 50 [.agg (cRl r).toArray, .int .i64 d] [] (isV (.tuple #[.int .i64 (facE r d).1, .int .i64 (facE r d).2])) := by
 refine Ct.of (N := 21) Tryz.func50 rfl rfl rfl fun w => ?_
 refine C_weak (E' := [(0, .agg (cRl r).toArray), (1, .int .i64 d)]) (rs' := []) ⟨rfl, rfl, trivial⟩ (fun _ h => h) ?_
 refine C_seq ?_
 refine C_region ?_
 refine L_box rfl rfl rfl fun g2 => ?_
 refine Jq (q_assign rfl) ?_
 refine Jq (q_assign rfl) ?_
 refine L_then ?_
 refine C_seq ?_
 refine C_seq ?_
 refine C_region ?_
 refine Jq (q_loadA tb rfl rfl bxo rfl rfl) ?_
 refine L_call tb rfl rfl (ct_ascent_CheckRules _) no_ps rfl ?_
 refine Jq (q_move rfl) ?_
 refine L_mk (lo_bslice tb rfl rfl rfl (xs := [[_]]) rfl rfl (by simp) rfl (by omega) rfl) rfl rfl rfl fun v10 => ?_
 refine L_call tb rfl rfl (ct_ascent_depthErr _ [_] (by simp)) (ps_cons gvo no_ps) rfl ?_
 refine L_mk (lo_bslice tb rfl rfl rfl (xs := [[_], [_]]) rfl rfl (by simp) rfl (by omega) rfl) rfl rfl rfl fun v12 => ?_
 refine L_call tb rfl rfl (ct_ascent_first _ [_, _] (by simp)) (ps_cons gvo no_ps) rfl ?_
 rw [erR_first]
 refine Jq (q_assign rfl) ?_
 refine L_then ?_
 refine C_seq ?_
 refine C_region ?_
 refine Jq (q_move rfl) ?_
 refine Jq (q_neq rfl rfl) ?_
 refine L_then ?_
 refine C_dec rfl (fun hc => ?_) (fun hc => ?_)
 refine C_seq ?_
 refine C_region ?_
 refine Jq (q_move rfl) ?_
 refine Jq (q_assign rfl) ?_
 refine Jq (q_assign rfl) ?_
 refine L_then ?_
 refine C_ret ?_
 rw [facE_1 hc]
 exact ret_of (res2 rfl rfl rfl) sub_nil (by intro r hr; cases hr) ⟨rfl, rfl⟩
 have hz := Decidable.not_not.1 hc
 obtain ⟨H, hd9⟩ := erR_ok hz
 have hd := dep1_ok hd9
 refine C_skip_then ?_
 refine C_seq ?_
 refine C_region ?_
 refine Jq (q_loadA tb rfl rfl bxo rfl rfl) ?_
 refine Jq (by first | exact q_build tb rfl rfl rfl rfl | exact q_buildArr tb rfl rfl rfl rfl rfl) ?_
 refine Jq (q_move rfl) ?_
 refine L_call tb rfl rfl (ct_ascent_rules_factor _ (by assumption) _ (by omega)) no_ps rfl ?_
 refine Jq (q_assign rfl) ?_
 refine Jq (q_assign rfl) ?_
 refine L_then ?_
 refine C_ret ?_
 rw [facE_2 hz]
 exact ret_of (res2 rfl rfl rfl) sub_nil (by intro r hr; cases hr) ⟨rfl, rfl⟩
end Go.Proofs.YtacndicgpkeobaaGreatDoor
