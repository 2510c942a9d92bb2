/-
  Walks: each function named returns what its model says. Conditions: those in front of each theorem.
-/
import Derived.Test.YtibohfipgjljhaaDoorKL
namespace Go.Proofs.YtibohfipgjljhaaDoor
open Go.RowKit

theorem eq51 : EqT Tryd.prog 3 51 6 := eqT_arr3s tb Tryd.underlying51 eq50 rfl
theorem eg51 : Tryd.prog.eqGuardType Tryd.prog.depth 51 = false := by kernel_rfl

set_option maxRecDepth 100000 in
theorem ct_short (v : Value) (l : List Gp) : Ct Tryd.prog 27 [v] [(v, 3, l.map cGp)] (isV (.bool (decide (l.length ≤ 15)))) := by
  refine Ct.of (N := 6) Tryd.func27 rfl rfl rfl fun w => ?_
  refine C_weak (E' := [(0, v)]) (rs' := [rd v 3 (l.map cGp)]) ⟨rfl, trivial⟩ (fun _ h => h) ?_
  have hl1 := len_map cGp l
  refine C_seq ?_
  refine C_region ?_
  refine L_q rfl rfl rfl (q_assign rfl) ?_
  refine L_then ?_
  refine C_seq ?_
  refine C_region ?_
  refine L_q rfl rfl rfl (q_move rfl) ?_
  refine L_q rfl rfl rfl (q_len tb rfl rfl (by first | exact gvo | exact gvd gvo (by omega))) ?_
  refine L_q rfl rfl rfl (q_leq rfl rfl) ?_
  refine L_q rfl rfl rfl (q_assign rfl) ?_
  refine L_then ?_
  refine C_ret ?_
  exact ret_of (res1 rfl rfl) sub_nil (by intro r hr; cases hr) ⟨(by first | rfl | exact congrArg Value.bool (decide_eq_decide.2 (by omega)) | exact congrArg Value.bool (decide_eq_true (by omega)).symm | exact congrArg Value.bool (decide_eq_false (by omega)).symm | exact congrArg Value.bool (decide_eq_true (by omega))), rfl⟩
set_option maxRecDepth 100000 in
set_option maxHeartbeats 4000000 in
theorem ct_shotlinelaw01_GasMixes (v : Value) (l : List Gp) : CtK Tryd.prog 0 136 knL knZ 6 [v] [(v, 3, l.map cGp)] (isV (.bool true)) := by
  refine CtK.of (N := 81) Tryd.func6 rfl rfl rfl fun w hK => ?_
  refine C_weak (E' := [(0, v)]) (rs' := [rd v 3 (l.map cGp)]) ⟨rfl, trivial⟩ (fun _ h => h) ?_
  have hl1 := len_map cGp l
  refine C_seq ?_
  refine C_region ?_
  refine L_q rfl rfl rfl (q_assign rfl) ?_
  refine L_then ?_
  refine C_seq ?_
  refine C_seq ?_
  refine C_region ?_
  refine L_lo rfl rfl rfl (lo_callK tb hK rfl rfl (ct_shotlinelaw01_awake) no_ps isV_sinks) ?_
  rintro _ _ ⟨rfl, rfl⟩
  refine L_q rfl rfl rfl (q_not rfl (by first | exact (rfl : (!true) = false) | exact (rfl : (!false) = true) | exact decide_not.symm | rfl)) ?_
  refine L_then ?_
  refine C_false rfl ?_
  refine C_skip_then ?_
  refine C_seq ?_
  refine C_seq ?_
  refine C_region ?_
  refine L_q rfl rfl rfl (q_move rfl) ?_
  refine L_call tb rfl rfl (ct_short v l) (ps_cons (by first | exact gvo | exact gvd gvo (by omega)) no_ps) rfl ?_
  refine L_q rfl rfl rfl (q_not rfl (by first | exact (rfl : (!true) = false) | exact (rfl : (!false) = true) | exact decide_not.symm | rfl)) ?_
  refine L_then ?_
  refine C_dec rfl (fun h2 => ?_) (fun h2 => ?_)
  · -- t13 True
    refine C_seq ?_
    refine C_region ?_
    refine L_q rfl rfl rfl (q_assign rfl) ?_
    refine L_then ?_
    refine C_ret ?_
    exact ret_of (res1 rfl rfl) sub_nil (by intro r hr; cases hr) ⟨rfl, rfl⟩
  · -- t13 False
    refine C_skip_then ?_
    refine C_seq ?_
    refine C_region ?_
    refine L_q rfl rfl rfl (q_move rfl) ?_
    refine L_callS tb rfl rfl (ct_shotlinelaw01_parts v l (by omega)) (ps_cons (by first | exact gvo | exact gvd gvo (by omega)) no_ps) rfl fun v16 => ?_
    refine L_call tb rfl rfl (ct_MixedE v16 l (by omega)) (ps_cons (by first | exact gvo | exact gvd gvo (by omega)) no_ps) rfl ?_
    refine L_q rfl rfl rfl (q_move rfl) ?_
    refine L_q rfl rfl rfl (q_ext0 rfl) ?_
    refine L_q rfl rfl rfl (q_ext1 rfl) ?_
    refine L_alloc tb rfl rfl fun g3 => ?_
    first | refine L_store tb rfl rfl rfl rfl rfl rfl rfl rfl ?_ | (refine L_front1 ?_; refine L_store tb rfl rfl rfl rfl rfl rfl rfl rfl ?_) | (refine L_front2 ?_; refine L_store tb rfl rfl rfl rfl rfl rfl rfl rfl ?_) | (refine L_front3 ?_; refine L_store tb rfl rfl rfl rfl rfl rfl rfl rfl ?_) | (refine L_front4 ?_; refine L_store tb rfl rfl rfl rfl rfl rfl rfl rfl ?_) | (refine L_front5 ?_; refine L_store tb rfl rfl rfl rfl rfl rfl rfl rfl ?_) | (refine L_front6 ?_; refine L_store tb rfl rfl rfl rfl rfl rfl rfl rfl ?_)
    refine L_q rfl rfl rfl (q_assign rfl) ?_
    refine L_then ?_
    refine C_seq ?_
    refine C_region ?_
    refine L_q rfl rfl rfl (q_move rfl) ?_
    refine L_callS tb rfl rfl (ct_shotlinelaw01_parts v l (by omega)) (ps_cons (by first | exact gvo | exact gvd gvo (by omega)) no_ps) rfl fun v22 => ?_
    refine L_call tb rfl rfl (ct_NearestE v22 l (by omega)) (ps_cons (by first | exact gvo | exact gvd gvo (by omega)) no_ps) rfl ?_
    refine L_q rfl rfl rfl (q_move rfl) ?_
    refine L_q rfl rfl rfl (q_ext0 rfl) ?_
    refine L_q rfl rfl rfl (q_ext1 rfl) ?_
    refine L_alloc tb rfl rfl fun g5 => ?_
    first | refine L_store tb rfl rfl rfl rfl rfl rfl rfl rfl ?_ | (refine L_front1 ?_; refine L_store tb rfl rfl rfl rfl rfl rfl rfl rfl ?_) | (refine L_front2 ?_; refine L_store tb rfl rfl rfl rfl rfl rfl rfl rfl ?_) | (refine L_front3 ?_; refine L_store tb rfl rfl rfl rfl rfl rfl rfl rfl ?_) | (refine L_front4 ?_; refine L_store tb rfl rfl rfl rfl rfl rfl rfl rfl ?_) | (refine L_front5 ?_; refine L_store tb rfl rfl rfl rfl rfl rfl rfl rfl ?_) | (refine L_front6 ?_; refine L_store tb rfl rfl rfl rfl rfl rfl rfl rfl ?_)
    refine L_q rfl rfl rfl (q_assign rfl) ?_
    refine L_then ?_
    refine C_seq ?_
    refine C_region ?_
    refine L_q rfl rfl rfl (q_move rfl) ?_
    refine L_call tb rfl rfl (ct_shotlineref01_CheckParts v l (by omega)) (ps_cons (by first | exact gvo | exact gvd gvo (by omega)) no_ps) rfl ?_
    refine L_q rfl rfl rfl (q_assign rfl) ?_
    refine L_then ?_
    refine C_seq ?_
    refine C_seq ?_
    refine C_region ?_
    refine L_q rfl rfl rfl (q_move rfl) ?_
    refine L_callS tb rfl rfl (ct_shotlinelaw01_parts v l (by omega)) (ps_cons (by first | exact gvo | exact gvd gvo (by omega)) no_ps) rfl fun v29 => ?_
    refine L_call tb rfl rfl (ct_CheckPartsE v29 l (by omega)) (ps_cons (by first | exact gvo | exact gvd gvo (by omega)) no_ps) rfl ?_
    refine L_q rfl rfl rfl (q_move rfl) ?_
    refine L_q rfl rfl rfl (q_false (q_neq rfl rfl) (decide_eq_false (fun h => h rfl))) ?_
    refine L_then ?_
    refine C_false rfl ?_
    refine C_skip_then ?_
    refine C_seq ?_
    refine C_seq ?_
    refine C_region ?_
    refine L_q rfl rfl rfl (q_move rfl) ?_
    refine L_q rfl rfl rfl (q_neq rfl rfl) ?_
    refine L_then ?_
    refine C_dec rfl (fun hc => ?_) (fun hc => ?_)
    · -- t34 True
      rw [(mix_1 hc).1, (mix_1 hc).2, nrV_1 hc]
      refine C_seq ?_
      refine C_region ?_
      refine L_q rfl rfl rfl (q_move rfl) ?_
      refine L_q rfl rfl rfl (q_move rfl) ?_
      refine L_q rfl rfl rfl (q_true (q_eql rfl rfl) (decide_eq_true rfl)) ?_
      refine L_q rfl rfl rfl (q_move rfl) ?_
      refine L_qg rfl rfl rfl rfl rfl rfl rfl (q_move rfl) ?_
      refine L_qg rfl rfl rfl rfl rfl rfl rfl (q_move rfl) ?_
      refine L_qg rfl rfl rfl rfl rfl rfl rfl (q_true (q_eql rfl rfl) (decide_eq_true rfl)) ?_
      refine L_q rfl rfl rfl (by first | exact q_pickT rfl rfl | exact q_pickF rfl rfl) ?_
      refine L_q rfl rfl rfl (q_move rfl) ?_
      refine L_qg rfl rfl rfl rfl rfl rfl rfl (q_loadA tb rfl rfl bxo rfl rfl) ?_
      refine L_qg rfl rfl rfl rfl rfl rfl rfl (by first | exact q_build tb rfl rfl rfl rfl | exact q_buildArr tb rfl rfl rfl rfl rfl) ?_
      refine L_qg rfl rfl rfl rfl rfl rfl rfl (q_true (q_eqI (p := [0, 0, 0, 0, 0, 0] = [0, 0, 0, 0, 0, 0]) (xs := [0, 0, 0, 0, 0, 0]) (ys := [0, 0, 0, 0, 0, 0]) eq51 (by omega) eg51 rfl rfl rfl rfl Iff.rfl) (decide_eq_true rfl)) ?_
      refine L_q rfl rfl rfl (by first | exact q_pickT rfl rfl | exact q_pickF rfl rfl) ?_
      refine L_q rfl rfl rfl (q_move rfl) ?_
      refine L_qg rfl rfl rfl rfl rfl rfl rfl (q_loadA tb rfl rfl bxo rfl rfl) ?_
      refine L_qg rfl rfl rfl rfl rfl rfl rfl (by first | exact q_build tb rfl rfl rfl rfl | exact q_buildArr tb rfl rfl rfl rfl rfl) ?_
      refine L_qg rfl rfl rfl rfl rfl rfl rfl (q_true (q_eqI (p := [0, 0] = [0, 0]) (xs := [0, 0]) (ys := [0, 0]) eq23 (by omega) eg23 rfl rfl rfl rfl Iff.rfl) (decide_eq_true rfl)) ?_
      refine L_q rfl rfl rfl (by first | exact q_pickT rfl rfl | exact q_pickF rfl rfl) ?_
      refine L_q rfl rfl rfl (q_assign rfl) ?_
      refine L_then ?_
      refine C_ret ?_
      exact ret_of (res1 rfl rfl) sub_nil (by intro r hr; cases hr) ⟨rfl, rfl⟩
    · -- t34 False
      have hz := Decidable.not_not.1 hc
      have H := pa_ok hz
      obtain ⟨hn1, hn2, hn3⟩ := nr_in H
      rw [nrV_2 hz]
      refine C_skip_then ?_
      refine C_seq ?_
      refine C_region ?_
      refine L_q rfl rfl rfl (q_move rfl) ?_
      refine L_call tb rfl rfl (ct_shotlineref01_Mixed v l hz) (ps_cons (by first | exact gvo | exact gvd gvo (by omega)) no_ps) rfl ?_
      refine L_q rfl rfl rfl (q_move rfl) ?_
      refine L_q rfl rfl rfl (q_ext0 rfl) ?_
      refine L_q rfl rfl rfl (q_ext1 rfl) ?_
      refine L_alloc tb rfl rfl fun g8 => ?_
      first | refine L_store tb rfl rfl rfl rfl rfl rfl rfl rfl ?_ | (refine L_front1 ?_; refine L_store tb rfl rfl rfl rfl rfl rfl rfl rfl ?_) | (refine L_front2 ?_; refine L_store tb rfl rfl rfl rfl rfl rfl rfl rfl ?_) | (refine L_front3 ?_; refine L_store tb rfl rfl rfl rfl rfl rfl rfl rfl ?_) | (refine L_front4 ?_; refine L_store tb rfl rfl rfl rfl rfl rfl rfl rfl ?_) | (refine L_front5 ?_; refine L_store tb rfl rfl rfl rfl rfl rfl rfl rfl ?_) | (refine L_front6 ?_; refine L_store tb rfl rfl rfl rfl rfl rfl rfl rfl ?_)
      refine L_q rfl rfl rfl (q_assign rfl) ?_
      refine L_then ?_
      refine C_seq ?_
      refine C_draw (n := 23) [(0, false), (1, false), (2, false), (3, false), (4, false), (5, false), (6, false), (7, false), (8, false), (9, false), (10, false), (11, false), (12, false), (13, false), (14, false), (15, true), (16, false), (17, false), (18, false), (19, false), (20, true), (21, false), (22, false)] mixed (by kernel_rfl) ?_
      refine W_q rfl rfl rfl rfl (q_move rfl) ?_
      refine W_q rfl rfl rfl rfl (q_move rfl) ?_
      refine W_q rfl rfl rfl rfl (q_true (q_eql rfl rfl) (decide_eq_true rfl)) ?_
      refine W_q rfl rfl rfl rfl (q_move rfl) ?_
      refine W_qg rfl rfl rfl rfl rfl rfl rfl rfl (q_loadA tb rfl rfl bxo rfl rfl) ?_
      refine W_qg rfl rfl rfl rfl rfl rfl rfl rfl (q_loadA tb rfl rfl bxo rfl rfl) ?_
      refine W_qg rfl rfl rfl rfl rfl rfl rfl rfl (q_true (q_eqI (p := (mixV l) = (mixV l)) (xs := (mixV l)) (ys := (mixV l)) eq51 (by omega) eg51 rfl rfl rfl rfl Iff.rfl) (decide_eq_true rfl)) ?_
      refine W_q rfl rfl rfl rfl (by first | exact q_pickT rfl rfl | exact q_pickF rfl rfl) ?_
      refine W_q rfl rfl rfl rfl (q_move rfl) ?_
      refine W_qg rfl rfl rfl rfl rfl rfl rfl rfl (q_move rfl) ?_
      refine W_qg rfl rfl rfl rfl rfl rfl rfl rfl (q_true (q_eql rfl rfl) (decide_eq_true hz)) ?_
      refine W_q rfl rfl rfl rfl (by first | exact q_pickT rfl rfl | exact q_pickF rfl rfl) ?_
      refine W_q rfl rfl rfl rfl (q_move rfl) ?_
      refine W_qg rfl rfl rfl rfl rfl rfl rfl rfl (q_loadA tb rfl rfl bxo rfl rfl) ?_
      refine W_qg rfl rfl rfl rfl rfl rfl rfl rfl (q_move rfl) ?_
      refine W_callg tb rfl rfl rfl rfl rfl rfl rfl rfl (ct_shotlineref01_Nearest v l hz) (ps_cons (by first | exact gvo | exact gvd gvo (by omega)) no_ps) rfl ?_
      refine W_qg rfl rfl rfl rfl rfl rfl rfl rfl (q_true (q_eqI (p := [nrO l, nrH l] = [nrO l, nrH l]) (xs := [nrO l, nrH l]) (ys := [nrO l, nrH l]) eq23 (by omega) eg23 rfl rfl rfl rfl Iff.rfl) (decide_eq_true rfl)) ?_
      refine W_q rfl rfl rfl rfl (by first | exact q_pickT rfl rfl | exact q_pickF rfl rfl) ?_
      refine W_q rfl rfl rfl rfl (q_move rfl) ?_
      refine W_qg rfl rfl rfl rfl rfl rfl rfl rfl (q_loadA tb rfl rfl bxo rfl rfl) ?_
      refine W_callg tb rfl rfl rfl rfl rfl rfl rfl rfl (ct_gas_CheckGas (nrO l) (nrH l)) no_ps rfl ?_
      refine W_qg rfl rfl rfl rfl rfl rfl rfl rfl (q_true (q_eql rfl rfl) (decide_eq_true hn3)) ?_
      refine W_q rfl rfl rfl rfl (by first | exact q_pickT rfl rfl | exact q_pickF rfl rfl) ?_
      refine W_nil ?_
      refine L_q rfl rfl rfl (q_assign rfl) ?_
      refine L_then ?_
      refine C_ret ?_
      exact ret_of (res1 rfl rfl) sub_nil (by intro r hr; cases hr) ⟨rfl, rfl⟩
end Go.Proofs.YtibohfipgjljhaaDoor
