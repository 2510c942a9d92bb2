/-
  Walks: each function named returns what its model says. Conditions: those in front of each theorem.
-/
import Derived.Test.YtfhfadfnbnliiaaM
namespace Go.Proofs.Ytfhfadfnbnliiaa
open Go.RowKit

set_option maxRecDepth 100000 in
set_option maxHeartbeats 2000000 in
theorem ct_shotlinelaw03_TissueDecays (s h l : Int) : Ct Try.prog 4 [.int .i64 s, .int .i64 h, .int .i64 l] [] (isV (.bool true)) := by
  refine Ct.of (N := 81) Try.func4 rfl rfl rfl fun w => ?_
  refine C_weak (E' := [(0, .int .i64 s), (1, .int .i64 h), (2, .int .i64 l)]) (rs' := []) ⟨rfl, rfl, rfl, trivial⟩ (fun _ h => h) ?_
  refine C_seq ?_
  refine C_region ?_
  refine L_q rfl rfl rfl (q_assign rfl) ?_
  refine L_then ?_
  refine C_seq ?_
  refine C_seq ?_
  refine C_region ?_
  refine L_call tb rfl rfl (ct_shotlinelaw03_awake) no_ps rfl ?_
  refine L_q rfl rfl rfl (q_not rfl (by first | exact (rfl : (!true) = false) | exact (rfl : (!false) = true) | exact decide_not.symm | rfl)) ?_
  refine L_then ?_
  refine C_false rfl ?_
  refine C_skip_then ?_
  refine C_seq ?_
  refine C_region ?_
  refine L_q rfl rfl rfl (q_move rfl) ?_
  refine L_call tb rfl rfl (ct_tissue_RootOf _) no_ps rfl ?_
  refine L_q rfl rfl rfl (q_move rfl) ?_
  refine L_q rfl rfl rfl (q_extract rfl rfl) ?_
  refine L_q rfl rfl rfl (q_extract rfl rfl) ?_
  refine L_alloc tb rfl rfl fun g7 => ?_
  first | refine L_store tb rfl rfl rfl rfl rfl rfl rfl rfl ?_ | (refine L_front1 ?_; refine L_store tb rfl rfl rfl rfl rfl rfl rfl rfl ?_) | (refine L_front2 ?_; refine L_store tb rfl rfl rfl rfl rfl rfl rfl rfl ?_) | (refine L_front3 ?_; refine L_store tb rfl rfl rfl rfl rfl rfl rfl rfl ?_) | (refine L_front4 ?_; refine L_store tb rfl rfl rfl rfl rfl rfl rfl rfl ?_) | (refine L_front5 ?_; refine L_store tb rfl rfl rfl rfl rfl rfl rfl rfl ?_) | (refine L_front6 ?_; refine L_store tb rfl rfl rfl rfl rfl rfl rfl rfl ?_)
  refine L_q rfl rfl rfl (q_assign rfl) ?_
  refine L_then ?_
  refine C_seq ?_
  refine C_region ?_
  refine L_q rfl rfl rfl (q_move rfl) ?_
  refine L_q rfl rfl rfl (q_move rfl) ?_
  refine L_q rfl rfl rfl (q_move rfl) ?_
  refine L_call tb rfl rfl (ct_tissue_Decay _ _ _) no_ps rfl ?_
  refine L_q rfl rfl rfl (q_move rfl) ?_
  refine L_q rfl rfl rfl (q_extract rfl rfl) ?_
  refine L_q rfl rfl rfl (q_extract rfl rfl) ?_
  refine L_alloc tb rfl rfl fun g9 => ?_
  first | refine L_store tb rfl rfl rfl rfl rfl rfl rfl rfl ?_ | (refine L_front1 ?_; refine L_store tb rfl rfl rfl rfl rfl rfl rfl rfl ?_) | (refine L_front2 ?_; refine L_store tb rfl rfl rfl rfl rfl rfl rfl rfl ?_) | (refine L_front3 ?_; refine L_store tb rfl rfl rfl rfl rfl rfl rfl rfl ?_) | (refine L_front4 ?_; refine L_store tb rfl rfl rfl rfl rfl rfl rfl rfl ?_) | (refine L_front5 ?_; refine L_store tb rfl rfl rfl rfl rfl rfl rfl rfl ?_) | (refine L_front6 ?_; refine L_store tb rfl rfl rfl rfl rfl rfl rfl rfl ?_)
  refine L_q rfl rfl rfl (q_assign rfl) ?_
  refine L_then ?_
  refine C_seq ?_
  refine C_region ?_
  refine L_q rfl rfl rfl (q_move rfl) ?_
  refine L_call tb rfl rfl (ct_shotlinebase_Within _ _ _) no_ps rfl ?_
  refine L_q rfl rfl rfl (q_assign rfl) ?_
  refine L_then ?_
  refine C_seq ?_
  refine C_seq ?_
  refine C_draw (n := 24) [(0, false), (1, false), (2, false), (3, false), (4, false), (5, false), (6, false), (7, true), (8, false), (9, false), (10, false), (11, false), (12, false), (13, false), (14, false), (15, false), (16, false), (17, false), (18, false), (19, false), (20, false), (21, false), (22, false), (23, false)] mixed (by kernel_rfl) ?_
  refine W_q rfl rfl rfl rfl (q_move rfl) ?_
  refine W_q rfl rfl rfl rfl (q_move rfl) ?_
  refine W_dec (d := 29) rfl (fun h2 => ?_) (fun h2 => ?_)
  · -- t29 True
    obtain ⟨n, rfl⟩ := Int.eq_ofNat_of_zero_le (show 0 ≤ l by omega)
    rw [rootOfM_yes (show n ≤ 24 by omega)]
    refine W_qg rfl rfl rfl rfl rfl rfl rfl rfl (q_move rfl) ?_
    refine W_qg rfl rfl rfl rfl rfl rfl rfl rfl (q_false (q_neq rfl rfl) rfl) ?_
    refine W_qg rfl rfl rfl rfl rfl rfl rfl rfl (q_move rfl) ?_
    refine W_qg rfl rfl rfl rfl rfl rfl rfl rfl (by first | exact q_loadA tb rfl rfl (by first | exact m0 | exact m1 | exact m2 | exact m3 | exact m4 | exact m5 | exact m6 | exact m7 | exact m8) rfl rfl | exact q_loadEA tb rfl rfl (by first | exact gr0 | exact gs0 | exact (gv1 gr0) | exact (gv1 gs0) | exact (gv1 (gv1 gr0)) | exact (gv1 (gv1 gs0)) | exact (gv1 (gv1 (gv1 gr0))) | exact (gv1 (gv1 (gv1 gs0))) | exact (gv1 (gv1 (gv1 (gv1 gr0)))) | exact (gv1 (gv1 (gv1 (gv1 gs0)))) | exact (gv1 (gv1 (gv1 (gv1 (gv1 gr0))))) | exact (gv1 (gv1 (gv1 (gv1 (gv1 gs0))))) | exact (gv1 (gv1 (gv1 (gv1 (gv1 (gv1 gr0)))))) | exact (gv1 (gv1 (gv1 (gv1 (gv1 (gv1 gs0)))))) | exact gvd gr0 (by omega) | exact gvd gs0 (by omega) | exact gvd (gv1 gr0) (by omega) | exact gvd (gv1 gs0) (by omega) | exact gvd (gv1 (gv1 gr0)) (by omega) | exact gvd (gv1 (gv1 gs0)) (by omega) | exact gvd (gv1 (gv1 (gv1 gr0))) (by omega) | exact gvd (gv1 (gv1 (gv1 gs0))) (by omega)) (by omega) (by simp) rfl rfl) ?_
    refine W_qg rfl rfl rfl rfl rfl rfl rfl rfl (q_move rfl) ?_
    refine W_callg tb rfl rfl rfl rfl rfl rfl rfl rfl (ct_shotlineref03_RootOf n (by omega)) no_ps rfl ?_
    refine W_qg rfl rfl rfl rfl rfl rfl rfl rfl (q_false (q_neI (xs := [(rootR n).lo, (rootR n).hi]) (ys := [(rootR n).lo, (rootR n).hi]) eq44 (by omega) eg44 rfl rfl rfl rfl Iff.rfl) (by simp)) ?_
    refine W_qg rfl rfl rfl rfl rfl rfl rfl rfl (by first | exact q_pickT rfl rfl | exact q_pickF rfl rfl) ?_
    refine W_q rfl rfl rfl rfl (by first | exact q_pickT rfl rfl | exact q_pickF rfl rfl) ?_
    refine W_q rfl rfl rfl rfl (q_move rfl) ?_
    refine W_qg rfl rfl rfl rfl rfl rfl rfl rfl (q_move rfl) ?_
    refine W_qg rfl rfl rfl rfl rfl rfl rfl rfl (q_not rfl (by first | exact (rfl : (!true) = false) | exact (rfl : (!false) = true) | exact decide_not.symm | rfl)) ?_
    refine W_qg rfl rfl rfl rfl rfl rfl rfl rfl (q_move rfl) ?_
    refine W_dec (d := 42) rfl (fun h3 => ?_) (fun h3 => ?_)
    · -- t42 True
      exfalso; omega
    · -- t42 False
      refine W_skip rfl rfl rfl rfl rfl rfl rfl rfl ?_
      refine W_skip rfl rfl rfl rfl rfl rfl rfl rfl ?_
      refine W_skip rfl rfl rfl rfl rfl rfl rfl rfl ?_
      refine W_skipu rfl rfl rfl rfl rfl rfl rfl ?_
      refine W_skipu rfl rfl rfl rfl rfl rfl rfl ?_
      refine W_skipu rfl rfl rfl rfl rfl rfl rfl ?_
      refine W_skip rfl rfl rfl rfl rfl rfl rfl rfl ?_
      refine W_qg rfl rfl rfl rfl rfl rfl rfl rfl (by first | exact q_pickT rfl rfl | exact q_pickF rfl rfl) ?_
      refine W_q rfl rfl rfl rfl (by first | exact q_pickT rfl rfl | exact q_pickF rfl rfl) ?_
      refine W_nil ?_
      refine L_then ?_
      refine C_false rfl ?_
      refine C_skip_then ?_
      refine C_seq ?_
      refine C_seq ?_
      refine C_region ?_
      refine L_q rfl rfl rfl (q_move rfl) ?_
      refine L_q rfl rfl rfl (q_not rfl (by first | exact (rfl : (!true) = false) | exact (rfl : (!false) = true) | exact decide_not.symm | rfl)) ?_
      refine L_q rfl rfl rfl (q_move rfl) ?_
      refine L_dec (d := 54) rfl (fun h5 => ?_) (fun h5 => ?_)
      · -- t54 True
        exfalso; omega
      · -- t54 False
        refine L_qg rfl rfl rfl rfl rfl rfl rfl (q_move rfl) ?_
        refine L_callg tb rfl rfl rfl rfl rfl rfl (ct_shotlinebase_Within _ _ _) no_ps rfl ?_
        refine L_qg rfl rfl rfl rfl rfl rfl rfl (q_not rfl (by first | exact (rfl : (!true) = false) | exact (rfl : (!false) = true) | exact decide_not.symm | rfl)) ?_
        refine L_q rfl rfl rfl (by first | exact q_pickT rfl rfl | exact q_pickF rfl rfl) ?_
        refine L_q rfl rfl rfl (q_move rfl) ?_
        refine L_dec (d := 59) rfl (fun h6 => ?_) (fun h6 => ?_)
        · -- t59 True
          refine L_skip rfl rfl rfl rfl rfl rfl rfl ?_
          refine L_skip rfl rfl rfl rfl rfl rfl rfl ?_
          refine L_skip rfl rfl rfl rfl rfl rfl rfl ?_
          refine L_q rfl rfl rfl (by first | exact q_pickT rfl rfl | exact q_pickF rfl rfl) ?_
          refine L_then ?_
          refine C_true rfl ?_
          refine C_seq ?_
          refine C_region ?_
          refine L_q rfl rfl rfl (q_move rfl) ?_
          rw [decayM_no (by omega)]
          refine L_q rfl rfl rfl (q_true (q_eql rfl rfl) rfl) ?_
          refine L_q rfl rfl rfl (q_move rfl) ?_
          refine L_qg rfl rfl rfl rfl rfl rfl rfl (by first | exact q_loadA tb rfl rfl (by first | exact m0 | exact m1 | exact m2 | exact m3 | exact m4 | exact m5 | exact m6 | exact m7 | exact m8) rfl rfl | exact q_loadEA tb rfl rfl (by first | exact gr0 | exact gs0 | exact (gv1 gr0) | exact (gv1 gs0) | exact (gv1 (gv1 gr0)) | exact (gv1 (gv1 gs0)) | exact (gv1 (gv1 (gv1 gr0))) | exact (gv1 (gv1 (gv1 gs0))) | exact (gv1 (gv1 (gv1 (gv1 gr0)))) | exact (gv1 (gv1 (gv1 (gv1 gs0)))) | exact (gv1 (gv1 (gv1 (gv1 (gv1 gr0))))) | exact (gv1 (gv1 (gv1 (gv1 (gv1 gs0))))) | exact (gv1 (gv1 (gv1 (gv1 (gv1 (gv1 gr0)))))) | exact (gv1 (gv1 (gv1 (gv1 (gv1 (gv1 gs0)))))) | exact gvd gr0 (by omega) | exact gvd gs0 (by omega) | exact gvd (gv1 gr0) (by omega) | exact gvd (gv1 gs0) (by omega) | exact gvd (gv1 (gv1 gr0)) (by omega) | exact gvd (gv1 (gv1 gs0)) (by omega) | exact gvd (gv1 (gv1 (gv1 gr0))) (by omega) | exact gvd (gv1 (gv1 (gv1 gs0))) (by omega)) (by omega) (by simp) rfl rfl) ?_
          refine L_qg rfl rfl rfl rfl rfl rfl rfl (by first | exact q_build tb rfl rfl rfl rfl | exact q_buildArr tb rfl rfl rfl rfl rfl) ?_
          refine L_qg rfl rfl rfl rfl rfl rfl rfl (q_true (q_eqI (xs := [0, 0]) (ys := [0, 0]) eq44 (by omega) eg44 rfl rfl rfl rfl Iff.rfl) (by decide)) ?_
          refine L_q rfl rfl rfl (by first | exact q_pickT rfl rfl | exact q_pickF rfl rfl) ?_
          refine L_q rfl rfl rfl (q_assign rfl) ?_
          refine L_then ?_
          refine C_ret ?_
          exact ret_of (res1 rfl rfl) sub_nil (by intro r hr; cases hr) ⟨rfl, rfl⟩
        · -- t59 False
          refine L_qg rfl rfl rfl rfl rfl rfl rfl (q_move rfl) ?_
          refine L_callg tb rfl rfl rfl rfl rfl rfl (ct_shotlinebase_Within _ _ _) no_ps rfl ?_
          refine L_qg rfl rfl rfl rfl rfl rfl rfl (q_not rfl (by first | exact (rfl : (!true) = false) | exact (rfl : (!false) = true) | exact decide_not.symm | rfl)) ?_
          refine L_q rfl rfl rfl (by first | exact q_pickT rfl rfl | exact q_pickF rfl rfl) ?_
          refine L_then ?_
          refine C_dec rfl (fun h8 => ?_) (fun h8 => ?_)
          · -- t63 True
            refine C_seq ?_
            refine C_region ?_
            refine L_q rfl rfl rfl (q_move rfl) ?_
            rw [decayM_no (by omega)]
            refine L_q rfl rfl rfl (q_true (q_eql rfl rfl) rfl) ?_
            refine L_q rfl rfl rfl (q_move rfl) ?_
            refine L_qg rfl rfl rfl rfl rfl rfl rfl (by first | exact q_loadA tb rfl rfl (by first | exact m0 | exact m1 | exact m2 | exact m3 | exact m4 | exact m5 | exact m6 | exact m7 | exact m8) rfl rfl | exact q_loadEA tb rfl rfl (by first | exact gr0 | exact gs0 | exact (gv1 gr0) | exact (gv1 gs0) | exact (gv1 (gv1 gr0)) | exact (gv1 (gv1 gs0)) | exact (gv1 (gv1 (gv1 gr0))) | exact (gv1 (gv1 (gv1 gs0))) | exact (gv1 (gv1 (gv1 (gv1 gr0)))) | exact (gv1 (gv1 (gv1 (gv1 gs0)))) | exact (gv1 (gv1 (gv1 (gv1 (gv1 gr0))))) | exact (gv1 (gv1 (gv1 (gv1 (gv1 gs0))))) | exact (gv1 (gv1 (gv1 (gv1 (gv1 (gv1 gr0)))))) | exact (gv1 (gv1 (gv1 (gv1 (gv1 (gv1 gs0)))))) | exact gvd gr0 (by omega) | exact gvd gs0 (by omega) | exact gvd (gv1 gr0) (by omega) | exact gvd (gv1 gs0) (by omega) | exact gvd (gv1 (gv1 gr0)) (by omega) | exact gvd (gv1 (gv1 gs0)) (by omega) | exact gvd (gv1 (gv1 (gv1 gr0))) (by omega) | exact gvd (gv1 (gv1 (gv1 gs0))) (by omega)) (by omega) (by simp) rfl rfl) ?_
            refine L_qg rfl rfl rfl rfl rfl rfl rfl (by first | exact q_build tb rfl rfl rfl rfl | exact q_buildArr tb rfl rfl rfl rfl rfl) ?_
            refine L_qg rfl rfl rfl rfl rfl rfl rfl (q_true (q_eqI (xs := [0, 0]) (ys := [0, 0]) eq44 (by omega) eg44 rfl rfl rfl rfl Iff.rfl) (by decide)) ?_
            refine L_q rfl rfl rfl (by first | exact q_pickT rfl rfl | exact q_pickF rfl rfl) ?_
            refine L_q rfl rfl rfl (q_assign rfl) ?_
            refine L_then ?_
            refine C_ret ?_
            exact ret_of (res1 rfl rfl) sub_nil (by intro r hr; cases hr) ⟨rfl, rfl⟩
          · -- t63 False
            refine C_skip_then ?_
            refine C_seq ?_
            refine C_draw (n := 10) [(0, false), (1, false), (2, false), (3, false), (4, false), (5, false), (6, false), (7, true), (8, false), (9, false)] mixed (by kernel_rfl) ?_
            refine W_q rfl rfl rfl rfl (q_move rfl) ?_
            rw [decayM_yes (by omega)]
            refine W_q rfl rfl rfl rfl (q_true (q_eql rfl rfl) rfl) ?_
            refine W_q rfl rfl rfl rfl (q_move rfl) ?_
            refine W_qg rfl rfl rfl rfl rfl rfl rfl rfl (by first | exact q_loadA tb rfl rfl (by first | exact m0 | exact m1 | exact m2 | exact m3 | exact m4 | exact m5 | exact m6 | exact m7 | exact m8) rfl rfl | exact q_loadEA tb rfl rfl (by first | exact gr0 | exact gs0 | exact (gv1 gr0) | exact (gv1 gs0) | exact (gv1 (gv1 gr0)) | exact (gv1 (gv1 gs0)) | exact (gv1 (gv1 (gv1 gr0))) | exact (gv1 (gv1 (gv1 gs0))) | exact (gv1 (gv1 (gv1 (gv1 gr0)))) | exact (gv1 (gv1 (gv1 (gv1 gs0)))) | exact (gv1 (gv1 (gv1 (gv1 (gv1 gr0))))) | exact (gv1 (gv1 (gv1 (gv1 (gv1 gs0))))) | exact (gv1 (gv1 (gv1 (gv1 (gv1 (gv1 gr0)))))) | exact (gv1 (gv1 (gv1 (gv1 (gv1 (gv1 gs0)))))) | exact gvd gr0 (by omega) | exact gvd gs0 (by omega) | exact gvd (gv1 gr0) (by omega) | exact gvd (gv1 gs0) (by omega) | exact gvd (gv1 (gv1 gr0)) (by omega) | exact gvd (gv1 (gv1 gs0)) (by omega) | exact gvd (gv1 (gv1 (gv1 gr0))) (by omega) | exact gvd (gv1 (gv1 (gv1 gs0))) (by omega)) (by omega) (by simp) rfl rfl) ?_
            refine W_qg rfl rfl rfl rfl rfl rfl rfl rfl (q_move rfl) ?_
            refine W_qg rfl rfl rfl rfl rfl rfl rfl rfl (q_move rfl) ?_
            refine W_qg rfl rfl rfl rfl rfl rfl rfl rfl (q_move rfl) ?_
            refine W_callg tb rfl rfl rfl rfl rfl rfl rfl rfl (ct_shotlineref03_Decay s h n (by omega) (by omega) (by omega)) no_ps rfl ?_
            refine W_qg rfl rfl rfl rfl rfl rfl rfl rfl (q_true (q_eqI (xs := [(decM s h n).lo, (decM s h n).hi]) (ys := [(decM s h n).lo, (decM s h n).hi]) eq44 (by omega) eg44 rfl rfl rfl rfl Iff.rfl) (by simp)) ?_
            refine W_q rfl rfl rfl rfl (by first | exact q_pickT rfl rfl | exact q_pickF rfl rfl) ?_
            refine W_nil ?_
            refine L_q rfl rfl rfl (q_assign rfl) ?_
            refine L_then ?_
            refine C_ret ?_
            exact ret_of (res1 rfl rfl) sub_nil (by intro r hr; cases hr) ⟨rfl, rfl⟩
  · -- t29 False
    rw [rootOfM_no (by omega)]
    refine W_skip rfl rfl rfl rfl rfl rfl rfl rfl ?_
    refine W_skip rfl rfl rfl rfl rfl rfl rfl rfl ?_
    refine W_skip rfl rfl rfl rfl rfl rfl rfl rfl ?_
    refine W_skipu rfl rfl rfl rfl rfl rfl rfl ?_
    refine W_skipu rfl rfl rfl rfl rfl rfl rfl ?_
    refine W_skiplu rfl rfl rfl rfl rfl rfl rfl ?_
    refine W_skipu rfl rfl rfl rfl rfl rfl rfl ?_
    refine W_skip rfl rfl rfl rfl rfl rfl rfl rfl ?_
    refine W_q rfl rfl rfl rfl (by first | exact q_pickT rfl rfl | exact q_pickF rfl rfl) ?_
    refine W_q rfl rfl rfl rfl (q_move rfl) ?_
    refine W_qg rfl rfl rfl rfl rfl rfl rfl rfl (q_move rfl) ?_
    refine W_qg rfl rfl rfl rfl rfl rfl rfl rfl (q_not rfl (by first | exact (rfl : (!true) = false) | exact (rfl : (!false) = true) | exact decide_not.symm | rfl)) ?_
    refine W_qg rfl rfl rfl rfl rfl rfl rfl rfl (q_move rfl) ?_
    refine W_dec (d := 42) rfl (fun h9 => ?_) (fun h9 => ?_)
    · -- t42 True
      refine W_qg rfl rfl rfl rfl rfl rfl rfl rfl (q_move rfl) ?_
      refine W_qg rfl rfl rfl rfl rfl rfl rfl rfl (q_false (q_neq rfl rfl) rfl) ?_
      refine W_qg rfl rfl rfl rfl rfl rfl rfl rfl (q_move rfl) ?_
      refine W_qg rfl rfl rfl rfl rfl rfl rfl rfl (by first | exact q_loadA tb rfl rfl (by first | exact m0 | exact m1 | exact m2 | exact m3 | exact m4 | exact m5 | exact m6 | exact m7 | exact m8) rfl rfl | exact q_loadEA tb rfl rfl (by first | exact gr0 | exact gs0 | exact (gv1 gr0) | exact (gv1 gs0) | exact (gv1 (gv1 gr0)) | exact (gv1 (gv1 gs0)) | exact (gv1 (gv1 (gv1 gr0))) | exact (gv1 (gv1 (gv1 gs0))) | exact (gv1 (gv1 (gv1 (gv1 gr0)))) | exact (gv1 (gv1 (gv1 (gv1 gs0)))) | exact (gv1 (gv1 (gv1 (gv1 (gv1 gr0))))) | exact (gv1 (gv1 (gv1 (gv1 (gv1 gs0))))) | exact (gv1 (gv1 (gv1 (gv1 (gv1 (gv1 gr0)))))) | exact (gv1 (gv1 (gv1 (gv1 (gv1 (gv1 gs0)))))) | exact gvd gr0 (by omega) | exact gvd gs0 (by omega) | exact gvd (gv1 gr0) (by omega) | exact gvd (gv1 gs0) (by omega) | exact gvd (gv1 (gv1 gr0)) (by omega) | exact gvd (gv1 (gv1 gs0)) (by omega) | exact gvd (gv1 (gv1 (gv1 gr0))) (by omega) | exact gvd (gv1 (gv1 (gv1 gs0))) (by omega)) (by omega) (by simp) rfl rfl) ?_
      refine W_qg rfl rfl rfl rfl rfl rfl rfl rfl (by first | exact q_build tb rfl rfl rfl rfl | exact q_buildArr tb rfl rfl rfl rfl rfl) ?_
      refine W_qg rfl rfl rfl rfl rfl rfl rfl rfl (q_false (q_neI (xs := [0, 0]) (ys := [0, 0]) eq44 (by omega) eg44 rfl rfl rfl rfl Iff.rfl) (by decide)) ?_
      refine W_qg rfl rfl rfl rfl rfl rfl rfl rfl (by first | exact q_pickT rfl rfl | exact q_pickF rfl rfl) ?_
      refine W_qg rfl rfl rfl rfl rfl rfl rfl rfl (by first | exact q_pickT rfl rfl | exact q_pickF rfl rfl) ?_
      refine W_q rfl rfl rfl rfl (by first | exact q_pickT rfl rfl | exact q_pickF rfl rfl) ?_
      refine W_nil ?_
      refine L_then ?_
      refine C_false rfl ?_
      refine C_skip_then ?_
      refine C_seq ?_
      refine C_seq ?_
      refine C_region ?_
      refine L_q rfl rfl rfl (q_move rfl) ?_
      refine L_q rfl rfl rfl (q_not rfl (by first | exact (rfl : (!true) = false) | exact (rfl : (!false) = true) | exact decide_not.symm | rfl)) ?_
      refine L_q rfl rfl rfl (q_move rfl) ?_
      refine L_dec (d := 54) rfl (fun h11 => ?_) (fun h11 => ?_)
      · -- t54 True
        refine L_skip rfl rfl rfl rfl rfl rfl rfl ?_
        refine L_skip rfl rfl rfl rfl rfl rfl rfl ?_
        refine L_skip rfl rfl rfl rfl rfl rfl rfl ?_
        refine L_q rfl rfl rfl (by first | exact q_pickT rfl rfl | exact q_pickF rfl rfl) ?_
        refine L_q rfl rfl rfl (q_move rfl) ?_
        refine L_skip rfl rfl rfl rfl rfl rfl rfl ?_
        refine L_skip rfl rfl rfl rfl rfl rfl rfl ?_
        refine L_skip rfl rfl rfl rfl rfl rfl rfl ?_
        refine L_q rfl rfl rfl (by first | exact q_pickT rfl rfl | exact q_pickF rfl rfl) ?_
        refine L_then ?_
        refine C_true rfl ?_
        refine C_seq ?_
        refine C_region ?_
        refine L_q rfl rfl rfl (q_move rfl) ?_
        rw [decayM_no (by omega)]
        refine L_q rfl rfl rfl (q_true (q_eql rfl rfl) rfl) ?_
        refine L_q rfl rfl rfl (q_move rfl) ?_
        refine L_qg rfl rfl rfl rfl rfl rfl rfl (by first | exact q_loadA tb rfl rfl (by first | exact m0 | exact m1 | exact m2 | exact m3 | exact m4 | exact m5 | exact m6 | exact m7 | exact m8) rfl rfl | exact q_loadEA tb rfl rfl (by first | exact gr0 | exact gs0 | exact (gv1 gr0) | exact (gv1 gs0) | exact (gv1 (gv1 gr0)) | exact (gv1 (gv1 gs0)) | exact (gv1 (gv1 (gv1 gr0))) | exact (gv1 (gv1 (gv1 gs0))) | exact (gv1 (gv1 (gv1 (gv1 gr0)))) | exact (gv1 (gv1 (gv1 (gv1 gs0)))) | exact (gv1 (gv1 (gv1 (gv1 (gv1 gr0))))) | exact (gv1 (gv1 (gv1 (gv1 (gv1 gs0))))) | exact (gv1 (gv1 (gv1 (gv1 (gv1 (gv1 gr0)))))) | exact (gv1 (gv1 (gv1 (gv1 (gv1 (gv1 gs0)))))) | exact gvd gr0 (by omega) | exact gvd gs0 (by omega) | exact gvd (gv1 gr0) (by omega) | exact gvd (gv1 gs0) (by omega) | exact gvd (gv1 (gv1 gr0)) (by omega) | exact gvd (gv1 (gv1 gs0)) (by omega) | exact gvd (gv1 (gv1 (gv1 gr0))) (by omega) | exact gvd (gv1 (gv1 (gv1 gs0))) (by omega)) (by omega) (by simp) rfl rfl) ?_
        refine L_qg rfl rfl rfl rfl rfl rfl rfl (by first | exact q_build tb rfl rfl rfl rfl | exact q_buildArr tb rfl rfl rfl rfl rfl) ?_
        refine L_qg rfl rfl rfl rfl rfl rfl rfl (q_true (q_eqI (xs := [0, 0]) (ys := [0, 0]) eq44 (by omega) eg44 rfl rfl rfl rfl Iff.rfl) (by decide)) ?_
        refine L_q rfl rfl rfl (by first | exact q_pickT rfl rfl | exact q_pickF rfl rfl) ?_
        refine L_q rfl rfl rfl (q_assign rfl) ?_
        refine L_then ?_
        refine C_ret ?_
        exact ret_of (res1 rfl rfl) sub_nil (by intro r hr; cases hr) ⟨rfl, rfl⟩
      · -- t54 False
        exfalso; omega
    · -- t42 False
      exfalso; omega
end Go.Proofs.Ytfhfadfnbnliiaa
