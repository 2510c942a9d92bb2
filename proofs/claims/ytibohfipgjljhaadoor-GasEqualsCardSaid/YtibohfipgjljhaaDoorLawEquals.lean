/-
  Walks: each function named returns what its model says. Conditions: those in front of each theorem.
-/
import Derived.Test.YtibohfipgjljhaaDoorKF
namespace Go.Proofs.YtibohfipgjljhaaDoor
open Go.RowKit

set_option maxRecDepth 100000 in
set_option maxHeartbeats 2000000 in
theorem ct_shotlinelaw01_GasEquals (g : Gs) (s d : Int) : CtK Tryd.prog 0 136 knL knZ 10 [.agg (cGs g).toArray, .int .i64 s, .int .i64 d] [] (isV (.bool true)) := by
  refine CtK.of (N := 74) Tryd.func10 rfl rfl rfl fun w hK => ?_
  refine C_weak (E' := [(0, .agg (cGs g).toArray), (1, .int .i64 s), (2, .int .i64 d)]) (rs' := []) ⟨rfl, rfl, rfl, trivial⟩ (fun _ h => h) ?_
  refine C_seq ?_
  refine C_region ?_
  refine L_box rfl rfl rfl fun g3 => ?_
  refine L_q rfl rfl rfl (q_assign rfl) ?_
  refine L_then ?_
  refine C_seq ?_
  refine C_seq ?_
  refine C_region ?_
  refine L_lo rfl rfl rfl (lo_callK tb hK rfl rfl (ct_shotlinelaw01_awake) no_ps isV_sinks) ?_
  rintro _ _ ⟨rfl, rfl⟩
  refine L_q rfl rfl rfl (q_not rfl (by first | exact (rfl : (!true) = false) | exact (rfl : (!false) = true) | exact decide_not.symm | rfl)) ?_
  refine L_then ?_
  refine C_false rfl ?_
  refine C_skip_then ?_
  refine C_seq ?_
  refine C_region ?_
  refine L_q rfl rfl rfl (q_loadA tb rfl rfl bxo rfl rfl) ?_
  refine L_q rfl rfl rfl (q_move rfl) ?_
  refine L_q rfl rfl rfl (q_move rfl) ?_
  refine L_call tb rfl rfl (ct_EquivalentAirE g s d) no_ps rfl ?_
  refine L_q rfl rfl rfl (q_move rfl) ?_
  refine L_q rfl rfl rfl (q_ext0 rfl) ?_
  refine L_q rfl rfl rfl (q_ext1 rfl) ?_
  refine L_alloc tb rfl rfl fun g7 => ?_
  first | refine L_store tb rfl rfl rfl rfl rfl rfl rfl rfl ?_ | (refine L_front1 ?_; refine L_store tb rfl rfl rfl rfl rfl rfl rfl rfl ?_) | (refine L_front2 ?_; refine L_store tb rfl rfl rfl rfl rfl rfl rfl rfl ?_) | (refine L_front3 ?_; refine L_store tb rfl rfl rfl rfl rfl rfl rfl rfl ?_) | (refine L_front4 ?_; refine L_store tb rfl rfl rfl rfl rfl rfl rfl rfl ?_) | (refine L_front5 ?_; refine L_store tb rfl rfl rfl rfl rfl rfl rfl rfl ?_) | (refine L_front6 ?_; refine L_store tb rfl rfl rfl rfl rfl rfl rfl rfl ?_)
  refine L_q rfl rfl rfl (q_assign rfl) ?_
  refine L_then ?_
  refine C_seq ?_
  refine C_region ?_
  refine L_q rfl rfl rfl (q_loadA tb rfl rfl bxo rfl rfl) ?_
  refine L_q rfl rfl rfl (q_move rfl) ?_
  refine L_q rfl rfl rfl (q_move rfl) ?_
  refine L_call tb rfl rfl (ct_EquivalentNarcoticE g s d) no_ps rfl ?_
  refine L_q rfl rfl rfl (q_move rfl) ?_
  refine L_q rfl rfl rfl (q_ext0 rfl) ?_
  refine L_q rfl rfl rfl (q_ext1 rfl) ?_
  refine L_alloc tb rfl rfl fun g9 => ?_
  first | refine L_store tb rfl rfl rfl rfl rfl rfl rfl rfl ?_ | (refine L_front1 ?_; refine L_store tb rfl rfl rfl rfl rfl rfl rfl rfl ?_) | (refine L_front2 ?_; refine L_store tb rfl rfl rfl rfl rfl rfl rfl rfl ?_) | (refine L_front3 ?_; refine L_store tb rfl rfl rfl rfl rfl rfl rfl rfl ?_) | (refine L_front4 ?_; refine L_store tb rfl rfl rfl rfl rfl rfl rfl rfl ?_) | (refine L_front5 ?_; refine L_store tb rfl rfl rfl rfl rfl rfl rfl rfl ?_) | (refine L_front6 ?_; refine L_store tb rfl rfl rfl rfl rfl rfl rfl rfl ?_)
  refine L_q rfl rfl rfl (q_assign rfl) ?_
  refine L_then ?_
  refine C_seq ?_
  refine C_seq ?_
  refine C_region ?_
  refine L_q rfl rfl rfl (q_loadA tb rfl rfl bxo rfl rfl) ?_
  refine L_q rfl rfl rfl (q_move rfl) ?_
  refine L_q rfl rfl rfl (q_move rfl) ?_
  refine L_call tb rfl rfl (ct_shotlinelaw01_place g s d) no_ps rfl ?_
  refine L_q rfl rfl rfl (q_assign rfl) ?_
  refine L_then ?_
  refine C_seq ?_
  refine C_region ?_
  refine L_q rfl rfl rfl (q_move rfl) ?_
  refine L_q rfl rfl rfl (q_neq rfl rfl) ?_
  refine L_then ?_
  refine C_dec rfl (fun hc => ?_) (fun hc => ?_)
  · -- t33 True
    rw [eqV_bad hc, eqV_bad hc]
    refine C_seq ?_
    refine C_region ?_
    refine L_q rfl rfl rfl (q_move rfl) ?_
    refine L_q rfl rfl rfl (q_move rfl) ?_
    refine L_q rfl rfl rfl (q_true (q_eql rfl rfl) (decide_eq_true rfl)) ?_
    refine L_q rfl rfl rfl (q_move rfl) ?_
    refine L_qg rfl rfl rfl rfl rfl rfl rfl (q_move rfl) ?_
    refine L_qg rfl rfl rfl rfl rfl rfl rfl (q_move rfl) ?_
    refine L_qg rfl rfl rfl rfl rfl rfl rfl (q_true (q_eql rfl rfl) (decide_eq_true rfl)) ?_
    refine L_q rfl rfl rfl (by first | exact q_pickT rfl rfl | exact q_pickF rfl rfl) ?_
    refine L_q rfl rfl rfl (q_move rfl) ?_
    refine L_qg rfl rfl rfl rfl rfl rfl rfl (q_loadA tb rfl rfl bxo rfl rfl) ?_
    refine L_qg rfl rfl rfl rfl rfl rfl rfl (by first | exact q_build tb rfl rfl rfl rfl | exact q_buildArr tb rfl rfl rfl rfl rfl) ?_
    refine L_qg rfl rfl rfl rfl rfl rfl rfl (q_true (q_eqI (p := [0, 0] = [0, 0]) (xs := [0, 0]) (ys := [0, 0]) eq28 (by omega) eg28 rfl rfl rfl rfl Iff.rfl) (decide_eq_true rfl)) ?_
    refine L_q rfl rfl rfl (by first | exact q_pickT rfl rfl | exact q_pickF rfl rfl) ?_
    refine L_q rfl rfl rfl (q_move rfl) ?_
    refine L_qg rfl rfl rfl rfl rfl rfl rfl (q_loadA tb rfl rfl bxo rfl rfl) ?_
    refine L_qg rfl rfl rfl rfl rfl rfl rfl (by first | exact q_build tb rfl rfl rfl rfl | exact q_buildArr tb rfl rfl rfl rfl rfl) ?_
    refine L_qg rfl rfl rfl rfl rfl rfl rfl (q_true (q_eqI (p := [0, 0] = [0, 0]) (xs := [0, 0]) (ys := [0, 0]) eq28 (by omega) eg28 rfl rfl rfl rfl Iff.rfl) (decide_eq_true rfl)) ?_
    refine L_q rfl rfl rfl (by first | exact q_pickT rfl rfl | exact q_pickF rfl rfl) ?_
    refine L_q rfl rfl rfl (q_assign rfl) ?_
    refine L_then ?_
    refine C_ret ?_
    exact ret_of (res1 rfl rfl) sub_nil (by intro r hr; cases hr) ⟨rfl, rfl⟩
  · -- t33 False
    have hz := Decidable.not_not.1 hc
    rw [eqV_ok hz, eqV_ok hz]
    refine C_skip_then ?_
    refine C_seq ?_
    refine C_draw (n := 22) [(0, false), (1, false), (2, false), (3, false), (4, false), (5, false), (6, false), (7, true), (8, false), (9, false), (10, false), (11, false), (12, false), (13, false), (14, false), (15, false), (16, false), (17, false), (18, false), (19, true), (20, false), (21, false)] mixed (by kernel_rfl) ?_
    refine W_q rfl rfl rfl rfl (q_move rfl) ?_
    refine W_q rfl rfl rfl rfl (q_true (q_eql rfl rfl) (decide_eq_true hz)) ?_
    refine W_q rfl rfl rfl rfl (q_move rfl) ?_
    refine W_qg rfl rfl rfl rfl rfl rfl rfl rfl (q_loadA tb rfl rfl bxo rfl rfl) ?_
    refine W_qg rfl rfl rfl rfl rfl rfl rfl rfl (q_loadA tb rfl rfl bxo rfl rfl) ?_
    refine W_qg rfl rfl rfl rfl rfl rfl rfl rfl (q_move rfl) ?_
    refine W_qg rfl rfl rfl rfl rfl rfl rfl rfl (q_move rfl) ?_
    refine W_callg tb rfl rfl rfl rfl rfl rfl rfl rfl (ct_shotlineref01_EquivalentAir g s d hz) no_ps rfl ?_
    refine W_qg rfl rfl rfl rfl rfl rfl rfl rfl (q_true (q_eqI (p := [max 0 ((1000 - g.o - g.h) * (s + d) / 790 - s), max 0 (upZ ((1000 - g.o - g.h) * (s + d)) 790 - s)] = [max 0 ((1000 - g.o - g.h) * (s + d) / 790 - s), max 0 (upZ ((1000 - g.o - g.h) * (s + d)) 790 - s)]) (xs := [max 0 ((1000 - g.o - g.h) * (s + d) / 790 - s), max 0 (upZ ((1000 - g.o - g.h) * (s + d)) 790 - s)]) (ys := [max 0 ((1000 - g.o - g.h) * (s + d) / 790 - s), max 0 (upZ ((1000 - g.o - g.h) * (s + d)) 790 - s)]) eq28 (by omega) eg28 rfl rfl rfl rfl Iff.rfl) (decide_eq_true rfl)) ?_
    refine W_q rfl rfl rfl rfl (by first | exact q_pickT rfl rfl | exact q_pickF rfl rfl) ?_
    refine W_q rfl rfl rfl rfl (q_move rfl) ?_
    refine W_qg rfl rfl rfl rfl rfl rfl rfl rfl (q_move rfl) ?_
    refine W_qg rfl rfl rfl rfl rfl rfl rfl rfl (q_true (q_eql rfl rfl) (decide_eq_true hz)) ?_
    refine W_q rfl rfl rfl rfl (by first | exact q_pickT rfl rfl | exact q_pickF rfl rfl) ?_
    refine W_q rfl rfl rfl rfl (q_move rfl) ?_
    refine W_qg rfl rfl rfl rfl rfl rfl rfl rfl (q_loadA tb rfl rfl bxo rfl rfl) ?_
    refine W_qg rfl rfl rfl rfl rfl rfl rfl rfl (q_loadA tb rfl rfl bxo rfl rfl) ?_
    refine W_qg rfl rfl rfl rfl rfl rfl rfl rfl (q_move rfl) ?_
    refine W_qg rfl rfl rfl rfl rfl rfl rfl rfl (q_move rfl) ?_
    refine W_callg tb rfl rfl rfl rfl rfl rfl rfl rfl (ct_shotlineref01_EquivalentNarcotic g s d hz) no_ps rfl ?_
    refine W_qg rfl rfl rfl rfl rfl rfl rfl rfl (q_true (q_eqI (p := [max 0 ((1000 - g.h) * (s + d) / 1000 - s), max 0 (upZ ((1000 - g.h) * (s + d)) 1000 - s)] = [max 0 ((1000 - g.h) * (s + d) / 1000 - s), max 0 (upZ ((1000 - g.h) * (s + d)) 1000 - s)]) (xs := [max 0 ((1000 - g.h) * (s + d) / 1000 - s), max 0 (upZ ((1000 - g.h) * (s + d)) 1000 - s)]) (ys := [max 0 ((1000 - g.h) * (s + d) / 1000 - s), max 0 (upZ ((1000 - g.h) * (s + d)) 1000 - s)]) eq28 (by omega) eg28 rfl rfl rfl rfl Iff.rfl) (decide_eq_true rfl)) ?_
    refine W_q rfl rfl rfl rfl (by first | exact q_pickT rfl rfl | exact q_pickF rfl rfl) ?_
    refine W_nil ?_
    refine L_q rfl rfl rfl (q_assign rfl) ?_
    refine L_then ?_
    refine C_ret ?_
    exact ret_of (res1 rfl rfl) sub_nil (by intro r hr; cases hr) ⟨rfl, rfl⟩
end Go.Proofs.YtibohfipgjljhaaDoor
