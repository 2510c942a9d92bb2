/-
  Walks: each function named returns what its model says. Conditions: those in front of each theorem.
-/
import Derived.Test.YtolnohjbpllmhaaXL
namespace Go.Proofs.Ytolnohjbpllmhaa
open Go.RowKit

set_option maxRecDepth 100000 in
theorem ct_shotlinelaw05_ExposureRates (t : Value) (r : Ru) (o : Int) : Ct Try.prog 5 [.agg (cRu t r).toArray, .int .i64 o] [(t, 2, r.tb.map cOw)] (isV (.bool true)) := by
  refine Ct.of (N := 47) Try.func5 rfl rfl rfl fun w => ?_
  refine C_weak (E' := [(0, .agg (cRu t r).toArray), (1, .int .i64 o)]) (rs' := [rd t 2 (r.tb.map cOw)]) ⟨rfl, rfl, trivial⟩ (fun _ h => h) ?_
  have hl1 := len_map cOw r.tb
  refine C_seq ?_
  refine C_region ?_
  refine L_box rfl rfl rfl fun g2 => ?_
  refine L_q rfl rfl rfl (q_assign rfl) ?_
  refine L_then ?_
  refine C_seq ?_
  refine C_seq ?_
  refine C_region ?_
  refine L_call tb rfl rfl (ct_shotlinelaw05_awake) no_ps rfl ?_
  refine L_q rfl rfl rfl (q_not rfl (by first | exact (rfl : (!true) = false) | exact (rfl : (!false) = true) | exact decide_not.symm | rfl)) ?_
  refine L_then ?_
  refine C_false rfl ?_
  refine C_skip_then ?_
  refine C_seq ?_
  refine C_seq ?_
  refine C_region ?_
  refine L_q rfl rfl rfl (by first | exact q_loadA tb rfl rfl bxo rfl rfl | exact q_loadEA tb rfl rfl (by first | exact gvo | exact gvd gvo (by omega)) (by omega) (by simp) rfl rfl) ?_
  refine L_call tb rfl rfl (ct_shotlinelaw05_few _ _) (ps_cons (by first | exact gvo | exact gvd gvo (by omega)) no_ps) rfl ?_
  refine L_q rfl rfl rfl (q_not rfl (by first | exact (rfl : (!true) = false) | exact (rfl : (!false) = true) | exact decide_not.symm | rfl)) ?_
  refine L_then ?_
  refine C_dec rfl (fun h2 => ?_) (fun h2 => ?_)
  · -- t12 True
    refine C_seq ?_
    refine C_region ?_
    refine L_q rfl rfl rfl (q_assign rfl) ?_
    refine L_then ?_
    refine C_ret ?_
    exact ret_of (res1 rfl rfl) sub_nil (by intro r hr; cases hr) ⟨rfl, rfl⟩
  · -- t12 False
    refine C_skip_then ?_
    refine C_seq ?_
    refine C_region ?_
    refine L_q rfl rfl rfl (by first | exact q_loadA tb rfl rfl bxo rfl rfl | exact q_loadEA tb rfl rfl (by first | exact gvo | exact gvd gvo (by omega)) (by omega) (by simp) rfl rfl) ?_
    refine L_lo rfl rfl rfl (lo_call tb rfl rfl (ct_shotlineref05_Copy t r (by omega)) (ps_cons (by first | exact gvo | exact gvd gvo (by omega)) no_ps) (by rintro y rs ⟨a, _, rfl⟩ r hr; rw [List.mem_singleton.1 hr]; exact sl_sinks _ _ _ _)) ?_
    rintro _ _ ⟨a15, rfl, rfl⟩
    refine L_q rfl rfl rfl (q_move rfl) ?_
    refine L_call tb rfl rfl (ct_exposure_RateAt a15 r o (by omega)) (ps_cons (by first | exact gvo | exact gvd gvo (by omega)) no_ps) rfl ?_
    refine L_q rfl rfl rfl (q_move rfl) ?_
    refine L_q rfl rfl rfl (q_ext0 rfl) ?_
    refine L_q rfl rfl rfl (q_ext1 rfl) ?_
    refine L_q rfl rfl rfl (q_assign rfl) ?_
    refine L_q rfl rfl rfl (q_assign rfl) ?_
    refine L_then ?_
    refine C_seq ?_
    refine C_region ?_
    refine L_q rfl rfl rfl (by first | exact q_loadA tb rfl rfl bxo rfl rfl | exact q_loadEA tb rfl rfl (by first | exact gvo | exact gvd gvo (by omega)) (by omega) (by simp) rfl rfl) ?_
    refine L_call tb rfl rfl (ct_shotlineref05_CheckRules t r (by omega)) (ps_cons (by first | exact gvo | exact gvd gvo (by omega)) no_ps) rfl ?_
    refine L_q rfl rfl rfl (q_assign rfl) ?_
    refine L_then ?_
    refine C_seq ?_
    refine C_seq ?_
    refine C_region ?_
    refine L_q rfl rfl rfl (q_move rfl) ?_
    refine L_q rfl rfl rfl (q_eql rfl rfl) ?_
    refine L_q rfl rfl rfl (q_move rfl) ?_
    refine L_dec (d := 24) rfl (fun hz => ?_) (fun hz => ?_)
    · -- t24 True
      refine L_qg rfl rfl rfl rfl rfl rfl rfl (q_move rfl) ?_
      refine L_callg tb rfl rfl rfl rfl rfl rfl (ct_shotlinebase_Within _ _ _) no_ps rfl ?_
      refine L_qg rfl rfl rfl rfl rfl rfl rfl (q_not rfl (by first | exact (rfl : (!true) = false) | exact (rfl : (!false) = true) | exact decide_not.symm | rfl)) ?_
      refine L_q rfl rfl rfl (by first | exact q_pickT rfl rfl | exact q_pickF rfl rfl) ?_
      refine L_then ?_
      refine C_dec rfl (fun ho => ?_) (fun ho => ?_)
      · -- t28 True
        refine C_region ?_
        refine L_q rfl rfl rfl (q_assign rfl) ?_
        refine L_then ?_
        refine C_seq ?_
        refine C_seq ?_
        refine C_region ?_
        refine L_q rfl rfl rfl (q_move rfl) ?_
        refine L_q rfl rfl rfl (q_neq rfl rfl) ?_
        refine L_then ?_
        refine C_dec rfl (fun he => ?_) (fun he => ?_)
        · -- t30 True
          rw [rateE_2 hz ho]
          refine C_seq ?_
          refine C_region ?_
          refine L_q rfl rfl rfl (q_move rfl) ?_
          refine L_q rfl rfl rfl (q_move rfl) ?_
          refine L_q rfl rfl rfl (q_true (q_eql rfl rfl) (by simp)) ?_
          refine L_q rfl rfl rfl (q_move rfl) ?_
          refine L_qg rfl rfl rfl rfl rfl rfl rfl (q_move rfl) ?_
          refine L_qg rfl rfl rfl rfl rfl rfl rfl (q_true (q_eql rfl rfl) (by simp)) ?_
          refine L_q rfl rfl rfl (by first | exact q_pickT rfl rfl | exact q_pickF rfl rfl) ?_
          refine L_q rfl rfl rfl (q_assign rfl) ?_
          refine L_then ?_
          refine C_ret ?_
          exact ret_of (res1 rfl rfl) sub_nil (by intro r hr; cases hr) ⟨rfl, rfl⟩
        · -- t30 False
          exfalso; omega
      · -- t28 False
        refine C_skip_then ?_
        refine C_seq ?_
        refine C_seq ?_
        refine C_region ?_
        refine L_q rfl rfl rfl (q_move rfl) ?_
        refine L_q rfl rfl rfl (q_neq rfl rfl) ?_
        refine L_then ?_
        refine C_dec rfl (fun he => ?_) (fun he => ?_)
        · -- t30 True
          exfalso; omega
        · -- t30 False
          rw [rateE_3 hz (by omega)]
          refine C_skip_then ?_
          refine C_seq ?_
          refine C_region ?_
          refine L_q rfl rfl rfl (q_move rfl) ?_
          refine L_q rfl rfl rfl (q_true (q_eql rfl rfl) (by simp)) ?_
          refine L_q rfl rfl rfl (q_move rfl) ?_
          refine L_qg rfl rfl rfl rfl rfl rfl rfl (q_move rfl) ?_
          refine L_qg rfl rfl rfl rfl rfl rfl rfl (by first | exact q_loadA tb rfl rfl bxo rfl rfl | exact q_loadEA tb rfl rfl (by first | exact gvo | exact gvd gvo (by omega)) (by omega) (by simp) rfl rfl) ?_
          refine L_qg rfl rfl rfl rfl rfl rfl rfl (q_move rfl) ?_
          refine L_callg tb rfl rfl rfl rfl rfl rfl (ct_shotlineref05_RateAt t r o (ckRu_ok hz) (by omega)) (ps_cons (by first | exact gvo | exact gvd gvo (by omega)) no_ps) rfl ?_
          refine L_qg rfl rfl rfl rfl rfl rfl rfl (q_true (q_eql rfl rfl) (by simp)) ?_
          refine L_q rfl rfl rfl (by first | exact q_pickT rfl rfl | exact q_pickF rfl rfl) ?_
          refine L_q rfl rfl rfl (q_assign rfl) ?_
          refine L_then ?_
          refine C_ret ?_
          exact ret_of (res1 rfl rfl) sub_nil (by intro r hr; cases hr) ⟨rfl, rfl⟩
    · -- t24 False
      refine L_skip rfl rfl rfl rfl rfl rfl rfl ?_
      refine L_skip rfl rfl rfl rfl rfl rfl rfl ?_
      refine L_skip rfl rfl rfl rfl rfl rfl rfl ?_
      refine L_q rfl rfl rfl (by first | exact q_pickT rfl rfl | exact q_pickF rfl rfl) ?_
      refine L_then ?_
      refine C_false rfl ?_
      refine C_skip_then ?_
      refine C_seq ?_
      refine C_seq ?_
      refine C_region ?_
      refine L_q rfl rfl rfl (q_move rfl) ?_
      refine L_q rfl rfl rfl (q_neq rfl rfl) ?_
      refine L_then ?_
      refine C_dec rfl (fun he => ?_) (fun he => ?_)
      · -- t30 True
        rw [rateE_1 hz]
        refine C_seq ?_
        refine C_region ?_
        refine L_q rfl rfl rfl (q_move rfl) ?_
        refine L_q rfl rfl rfl (q_move rfl) ?_
        refine L_q rfl rfl rfl (q_true (q_eql rfl rfl) (by simp)) ?_
        refine L_q rfl rfl rfl (q_move rfl) ?_
        refine L_qg rfl rfl rfl rfl rfl rfl rfl (q_move rfl) ?_
        refine L_qg rfl rfl rfl rfl rfl rfl rfl (q_true (q_eql rfl rfl) (by simp)) ?_
        refine L_q rfl rfl rfl (by first | exact q_pickT rfl rfl | exact q_pickF rfl rfl) ?_
        refine L_q rfl rfl rfl (q_assign rfl) ?_
        refine L_then ?_
        refine C_ret ?_
        exact ret_of (res1 rfl rfl) sub_nil (by intro r hr; cases hr) ⟨rfl, rfl⟩
      · -- t30 False
        exfalso; omega
end Go.Proofs.Ytolnohjbpllmhaa
