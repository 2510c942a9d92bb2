/-
  Walks: each function named returns what its model says. Conditions: those in front of each theorem.
-/
import Derived.Test.YtibohfipgjljhaaDoorKE
namespace Go.Proofs.YtibohfipgjljhaaDoor
open Go.RowKit

set_option maxRecDepth 100000 in
set_option maxHeartbeats 2000000 in
theorem ct_shotlinelaw01_GasWeights (g : Gs) (p a : Int) : CtK Tryd.prog 0 136 knL knZ 12 [.agg (cGs g).toArray, .int .i64 p, .int .i64 a] [] (isV (.bool true)) := by
  refine CtK.of (N := 90) Tryd.func12 rfl rfl rfl fun w hK => ?_
  refine C_weak (E' := [(0, .agg (cGs g).toArray), (1, .int .i64 p), (2, .int .i64 a)]) (rs' := []) ⟨rfl, rfl, rfl, trivial⟩ (fun _ h => h) ?_
  refine C_seq ?_
  refine C_region ?_
  refine L_box rfl rfl rfl fun g3 => ?_
  refine L_q rfl rfl rfl (q_assign rfl) ?_
  refine L_then ?_
  refine C_seq ?_
  refine C_seq ?_
  refine C_region ?_
  refine L_lo rfl rfl rfl (lo_callK tb hK rfl rfl (ct_shotlinelaw01_awake) no_ps isV_sinks) ?_
  rintro _ _ ⟨rfl, rfl⟩
  refine L_q rfl rfl rfl (q_not rfl (by first | exact (rfl : (!true) = false) | exact (rfl : (!false) = true) | exact decide_not.symm | rfl)) ?_
  refine L_then ?_
  refine C_false rfl ?_
  refine C_skip_then ?_
  refine C_seq ?_
  refine C_region ?_
  refine L_q rfl rfl rfl (q_loadA tb rfl rfl bxo rfl rfl) ?_
  refine L_q rfl rfl rfl (q_move rfl) ?_
  refine L_call tb rfl rfl (ct_gas_Density g p) no_ps rfl ?_
  refine L_q rfl rfl rfl (q_move rfl) ?_
  refine L_q rfl rfl rfl (q_ext0 rfl) ?_
  refine L_q rfl rfl rfl (q_ext1 rfl) ?_
  refine L_alloc tb rfl rfl fun g7 => ?_
  first | refine L_store tb rfl rfl rfl rfl rfl rfl rfl rfl ?_ | (refine L_front1 ?_; refine L_store tb rfl rfl rfl rfl rfl rfl rfl rfl ?_) | (refine L_front2 ?_; refine L_store tb rfl rfl rfl rfl rfl rfl rfl rfl ?_) | (refine L_front3 ?_; refine L_store tb rfl rfl rfl rfl rfl rfl rfl rfl ?_) | (refine L_front4 ?_; refine L_store tb rfl rfl rfl rfl rfl rfl rfl rfl ?_) | (refine L_front5 ?_; refine L_store tb rfl rfl rfl rfl rfl rfl rfl rfl ?_) | (refine L_front6 ?_; refine L_store tb rfl rfl rfl rfl rfl rfl rfl rfl ?_)
  refine L_q rfl rfl rfl (q_assign rfl) ?_
  refine L_then ?_
  refine C_seq ?_
  refine C_region ?_
  refine L_q rfl rfl rfl (q_loadA tb rfl rfl bxo rfl rfl) ?_
  refine L_q rfl rfl rfl (q_move rfl) ?_
  refine L_call tb rfl rfl (ct_gas_WeightOf g a) no_ps rfl ?_
  refine L_q rfl rfl rfl (q_move rfl) ?_
  refine L_q rfl rfl rfl (q_ext0 rfl) ?_
  refine L_q rfl rfl rfl (q_ext1 rfl) ?_
  refine L_alloc tb rfl rfl fun g9 => ?_
  first | refine L_store tb rfl rfl rfl rfl rfl rfl rfl rfl ?_ | (refine L_front1 ?_; refine L_store tb rfl rfl rfl rfl rfl rfl rfl rfl ?_) | (refine L_front2 ?_; refine L_store tb rfl rfl rfl rfl rfl rfl rfl rfl ?_) | (refine L_front3 ?_; refine L_store tb rfl rfl rfl rfl rfl rfl rfl rfl ?_) | (refine L_front4 ?_; refine L_store tb rfl rfl rfl rfl rfl rfl rfl rfl ?_) | (refine L_front5 ?_; refine L_store tb rfl rfl rfl rfl rfl rfl rfl rfl ?_) | (refine L_front6 ?_; refine L_store tb rfl rfl rfl rfl rfl rfl rfl rfl ?_)
  refine L_q rfl rfl rfl (q_assign rfl) ?_
  refine L_then ?_
  refine C_seq ?_
  refine C_region ?_
  refine L_q rfl rfl rfl (q_loadA tb rfl rfl bxo rfl rfl) ?_
  refine L_call tb rfl rfl (ct_shotlineref01_CheckGas g.o g.h) no_ps rfl ?_
  refine L_q rfl rfl rfl (q_assign rfl) ?_
  refine L_then ?_
  refine C_seq ?_
  refine C_region ?_
  refine L_q rfl rfl rfl (q_move rfl) ?_
  refine L_q rfl rfl rfl (q_assign rfl) ?_
  refine L_then ?_
  refine C_cut (ι := Unit) (fun _p => ([(1, .int .i64 p), (2, .int .i64 a), (3, .pointer (some ⟨g3, 0, none⟩)), (7, .pointer (some ⟨g7, 0, none⟩)), (8, .int .i64 ((wgtC g p 100000))), (9, .pointer (some ⟨g9, 0, none⟩)), (10, .int .i64 ((wgtC g a 1000000000))), (11, .int .i64 ((wgtC g p 100000))), (12, .int .i64 ((ckGas g.o g.h)))], [box g9 28 ((denV g a 1000000000).map iV), box g7 28 ((denV g p 100000).map iV), box g3 23 (cGs g)])) (fun _p => True) ?_ ?_
  · -- ahead
    refine C_seq ?_
    refine C_region ?_
    refine L_q rfl rfl rfl (q_move rfl) ?_
    refine L_q rfl rfl rfl (q_eql rfl rfl) ?_
    refine L_q rfl rfl rfl (q_move rfl) ?_
    refine L_dec (d := 32) rfl (fun h2 => ?_) (fun h2 => ?_)
    · -- t32 True
      refine L_qg rfl rfl rfl rfl rfl rfl rfl (q_move rfl) ?_
      refine L_callg tb rfl rfl rfl rfl rfl rfl (ct_shotlineref01_IsPressure p) no_ps rfl ?_
      refine L_qg rfl rfl rfl rfl rfl rfl rfl (q_not rfl (by first | exact (rfl : (!true) = false) | exact (rfl : (!false) = true) | exact decide_not.symm | rfl)) ?_
      refine L_q rfl rfl rfl (by first | exact q_pickT rfl rfl | exact q_pickF rfl rfl) ?_
      refine L_then ?_
      refine C_dec rfl (fun h3 => ?_) (fun h3 => ?_)
      · -- t36 True
        refine C_region ?_
        refine L_q rfl rfl rfl (q_assign rfl) ?_
        refine L_end ?_
        exact fun ac_ wo_ hs_ => ⟨(), trivial, hs_.weak ⟨rfl, rfl, rfl, rfl, rfl, rfl, rfl, en (by unfold wgtC; (repeat' split) <;> omega), rfl, trivial⟩ (fun h => h.pk (by repeat (first | with_reducible exact pk_nil | refine pk_box rfl ?_ | refine pk_rd rfl ?_ | refine pk_sl rfl ?_ | with_reducible refine pk_app ?_ | with_reducible refine pk_app0 ?_ | with_reducible refine pk_app0L ?_ | with_reducible exact pk_tl | refine pk_var ?_)))⟩
      · -- t36 False
        refine C_skip ?_
        exact fun ac_ wo_ hs_ => ⟨(), trivial, hs_.weak ⟨rfl, rfl, rfl, rfl, rfl, rfl, rfl, en (by unfold wgtC; (repeat' split) <;> omega), rfl, trivial⟩ (fun h => h.pk (by repeat (first | with_reducible exact pk_nil | refine pk_box rfl ?_ | refine pk_rd rfl ?_ | refine pk_sl rfl ?_ | with_reducible refine pk_app ?_ | with_reducible refine pk_app0 ?_ | with_reducible refine pk_app0L ?_ | with_reducible exact pk_tl | refine pk_var ?_)))⟩
    · -- t32 False
      refine L_skip rfl rfl rfl rfl rfl rfl rfl ?_
      refine L_skip rfl rfl rfl rfl rfl rfl rfl ?_
      refine L_skip rfl rfl rfl rfl rfl rfl rfl ?_
      refine L_q rfl rfl rfl (by first | exact q_pickT rfl rfl | exact q_pickF rfl rfl) ?_
      refine L_then ?_
      refine C_false rfl ?_
      refine C_skip ?_
      exact fun ac_ wo_ hs_ => ⟨(), trivial, hs_.weak ⟨rfl, rfl, rfl, rfl, rfl, rfl, rfl, en (by unfold wgtC; (repeat' split) <;> omega), rfl, trivial⟩ (fun h => h.pk (by repeat (first | with_reducible exact pk_nil | refine pk_box rfl ?_ | refine pk_rd rfl ?_ | refine pk_sl rfl ?_ | with_reducible refine pk_app ?_ | with_reducible refine pk_app0 ?_ | with_reducible refine pk_app0L ?_ | with_reducible exact pk_tl | refine pk_var ?_)))⟩
  · -- behind
    intro _ _
    refine C_cut (ι := Unit) (fun _p => ([(1, .int .i64 p), (2, .int .i64 a), (3, .pointer (some ⟨g3, 0, none⟩)), (7, .pointer (some ⟨g7, 0, none⟩)), (8, .int .i64 ((wgtC g p 100000))), (9, .pointer (some ⟨g9, 0, none⟩)), (10, .int .i64 ((wgtC g a 1000000000))), (11, .int .i64 ((wgtC g p 100000))), (12, .int .i64 ((wgtC g a 1000000000)))], [box g9 28 ((denV g a 1000000000).map iV), box g7 28 ((denV g p 100000).map iV), box g3 23 (cGs g)])) (fun _p => True) ?_ ?_
    · -- ahead
      refine C_seq ?_
      refine C_region ?_
      refine L_q rfl rfl rfl (q_move rfl) ?_
      refine L_q rfl rfl rfl (q_eql rfl rfl) ?_
      refine L_q rfl rfl rfl (q_move rfl) ?_
      refine L_dec (d := 39) rfl (fun h5 => ?_) (fun h5 => ?_)
      · -- t39 True
        refine L_qg rfl rfl rfl rfl rfl rfl rfl (q_move rfl) ?_
        refine L_callg tb rfl rfl rfl rfl rfl rfl (ct_shotlinebase_Within a 0 1000000000) no_ps rfl ?_
        refine L_qg rfl rfl rfl rfl rfl rfl rfl (q_not rfl (by first | exact (rfl : (!true) = false) | exact (rfl : (!false) = true) | exact decide_not.symm | rfl)) ?_
        refine L_q rfl rfl rfl (by first | exact q_pickT rfl rfl | exact q_pickF rfl rfl) ?_
        refine L_then ?_
        refine C_dec rfl (fun h6 => ?_) (fun h6 => ?_)
        · -- t43 True
          refine C_region ?_
          refine L_q rfl rfl rfl (q_assign rfl) ?_
          refine L_end ?_
          exact fun ac_ wo_ hs_ => ⟨(), trivial, hs_.weak ⟨rfl, rfl, rfl, rfl, rfl, rfl, rfl, rfl, en (by unfold wgtC; (repeat' split) <;> omega), trivial⟩ (fun h => h.pk (by repeat (first | with_reducible exact pk_nil | refine pk_box rfl ?_ | refine pk_rd rfl ?_ | refine pk_sl rfl ?_ | with_reducible refine pk_app ?_ | with_reducible refine pk_app0 ?_ | with_reducible refine pk_app0L ?_ | with_reducible exact pk_tl | refine pk_var ?_)))⟩
        · -- t43 False
          refine C_skip ?_
          exact fun ac_ wo_ hs_ => ⟨(), trivial, hs_.weak ⟨rfl, rfl, rfl, rfl, rfl, rfl, rfl, rfl, en (by unfold wgtC; (repeat' split) <;> omega), trivial⟩ (fun h => h.pk (by repeat (first | with_reducible exact pk_nil | refine pk_box rfl ?_ | refine pk_rd rfl ?_ | refine pk_sl rfl ?_ | with_reducible refine pk_app ?_ | with_reducible refine pk_app0 ?_ | with_reducible refine pk_app0L ?_ | with_reducible exact pk_tl | refine pk_var ?_)))⟩
      · -- t39 False
        refine L_skip rfl rfl rfl rfl rfl rfl rfl ?_
        refine L_skip rfl rfl rfl rfl rfl rfl rfl ?_
        refine L_skip rfl rfl rfl rfl rfl rfl rfl ?_
        refine L_q rfl rfl rfl (by first | exact q_pickT rfl rfl | exact q_pickF rfl rfl) ?_
        refine L_then ?_
        refine C_false rfl ?_
        refine C_skip ?_
        exact fun ac_ wo_ hs_ => ⟨(), trivial, hs_.weak ⟨rfl, rfl, rfl, rfl, rfl, rfl, rfl, rfl, en (by unfold wgtC; (repeat' split) <;> omega), trivial⟩ (fun h => h.pk (by repeat (first | with_reducible exact pk_nil | refine pk_box rfl ?_ | refine pk_rd rfl ?_ | refine pk_sl rfl ?_ | with_reducible refine pk_app ?_ | with_reducible refine pk_app0 ?_ | with_reducible refine pk_app0L ?_ | with_reducible exact pk_tl | refine pk_var ?_)))⟩
    · -- behind
      intro _ _
      refine C_seq ?_
      refine C_seq ?_
      refine C_draw (n := 27) [(0, false), (1, false), (2, false), (3, false), (4, false), (5, false), (6, false), (7, false), (8, false), (9, false), (10, false), (11, false), (12, false), (13, false), (14, false), (15, false), (16, false), (17, false), (18, false), (19, false), (20, false), (21, false), (22, true), (23, false), (24, false), (25, false), (26, false)] mixed (by kernel_rfl) ?_
      refine W_q rfl rfl rfl rfl (q_move rfl) ?_
      refine W_q rfl rfl rfl rfl (q_neq rfl rfl) ?_
      refine W_q rfl rfl rfl rfl (q_move rfl) ?_
      refine W_dec (d := 46) rfl (fun hc => ?_) (fun hc => ?_)
      · -- t46 True
        rw [denV_bad hc]
        refine W_qg rfl rfl rfl rfl rfl rfl rfl rfl (q_move rfl) ?_
        refine W_qg rfl rfl rfl rfl rfl rfl rfl rfl (q_move rfl) ?_
        refine W_qg rfl rfl rfl rfl rfl rfl rfl rfl (q_false (q_neq rfl rfl) (decide_eq_false (fun h => h rfl))) ?_
        refine W_qg rfl rfl rfl rfl rfl rfl rfl rfl (q_move rfl) ?_
        refine W_qg rfl rfl rfl rfl rfl rfl rfl rfl (q_loadA tb rfl rfl bxo rfl rfl) ?_
        refine W_qg rfl rfl rfl rfl rfl rfl rfl rfl (by first | exact q_build tb rfl rfl rfl rfl | exact q_buildArr tb rfl rfl rfl rfl rfl) ?_
        refine W_qg rfl rfl rfl rfl rfl rfl rfl rfl (q_false (q_neI (p := [0, 0] = [0, 0]) (xs := [0, 0]) (ys := [0, 0]) eq28 (by omega) eg28 rfl rfl rfl rfl Iff.rfl) (decide_eq_false (fun h => h rfl))) ?_
        refine W_qg rfl rfl rfl rfl rfl rfl rfl rfl (by first | exact q_pickT rfl rfl | exact q_pickF rfl rfl) ?_
        refine W_q rfl rfl rfl rfl (by first | exact q_pickT rfl rfl | exact q_pickF rfl rfl) ?_
        refine W_q rfl rfl rfl rfl (q_move rfl) ?_
        refine W_qg rfl rfl rfl rfl rfl rfl rfl rfl (q_move rfl) ?_
        refine W_qg rfl rfl rfl rfl rfl rfl rfl rfl (q_false (q_eql rfl rfl) (decide_eq_false hc)) ?_
        refine W_qg rfl rfl rfl rfl rfl rfl rfl rfl (q_move rfl) ?_
        refine W_skip rfl rfl rfl rfl rfl rfl rfl rfl ?_
        refine W_skip rfl rfl rfl rfl rfl rfl rfl rfl ?_
        refine W_skip rfl rfl rfl rfl rfl rfl rfl rfl ?_
        refine W_skipu rfl rfl rfl rfl rfl rfl rfl ?_
        refine W_skipu rfl rfl rfl rfl rfl rfl rfl ?_
        refine W_skipu rfl rfl rfl rfl rfl rfl rfl ?_
        refine W_skiplu rfl rfl rfl rfl rfl rfl rfl ?_
        refine W_skipu rfl rfl rfl rfl rfl rfl rfl ?_
        refine W_skip rfl rfl rfl rfl rfl rfl rfl rfl ?_
        refine W_qg rfl rfl rfl rfl rfl rfl rfl rfl (by first | exact q_pickT rfl rfl | exact q_pickF rfl rfl) ?_
        refine W_q rfl rfl rfl rfl (by first | exact q_pickT rfl rfl | exact q_pickF rfl rfl) ?_
        refine W_nil ?_
        refine L_then ?_
        refine C_false rfl ?_
        refine C_skip_then ?_
        refine C_seq ?_
        refine C_seq ?_
        refine C_region ?_
        refine L_q rfl rfl rfl (q_move rfl) ?_
        refine L_q rfl rfl rfl (q_neq rfl rfl) ?_
        refine L_then ?_
        refine C_dec rfl (fun hd => ?_) (fun hd => ?_)
        · -- t72 True
          rw [denV_bad hd]
          refine C_seq ?_
          refine C_region ?_
          refine L_q rfl rfl rfl (q_move rfl) ?_
          refine L_q rfl rfl rfl (q_move rfl) ?_
          refine L_q rfl rfl rfl (q_true (q_eql rfl rfl) (decide_eq_true rfl)) ?_
          refine L_q rfl rfl rfl (q_move rfl) ?_
          refine L_qg rfl rfl rfl rfl rfl rfl rfl (q_loadA tb rfl rfl bxo rfl rfl) ?_
          refine L_qg rfl rfl rfl rfl rfl rfl rfl (by first | exact q_build tb rfl rfl rfl rfl | exact q_buildArr tb rfl rfl rfl rfl rfl) ?_
          refine L_qg rfl rfl rfl rfl rfl rfl rfl (q_true (q_eqI (p := [0, 0] = [0, 0]) (xs := [0, 0]) (ys := [0, 0]) eq28 (by omega) eg28 rfl rfl rfl rfl Iff.rfl) (decide_eq_true rfl)) ?_
          refine L_q rfl rfl rfl (by first | exact q_pickT rfl rfl | exact q_pickF rfl rfl) ?_
          refine L_q rfl rfl rfl (q_assign rfl) ?_
          refine L_then ?_
          refine C_ret ?_
          exact ret_of (res1 rfl rfl) sub_nil (by intro r hr; cases hr) ⟨rfl, rfl⟩
        · -- t72 False
          have hy := Decidable.not_not.1 hd
          rw [denV_ok hy]
          refine C_skip_then ?_
          refine C_seq ?_
          refine C_draw (n := 9) [(0, false), (1, false), (2, false), (3, false), (4, false), (5, false), (6, true), (7, false), (8, false)] mixed (by kernel_rfl) ?_
          refine W_q rfl rfl rfl rfl (q_move rfl) ?_
          refine W_q rfl rfl rfl rfl (q_true (q_eql rfl rfl) (decide_eq_true hy)) ?_
          refine W_q rfl rfl rfl rfl (q_move rfl) ?_
          refine W_qg rfl rfl rfl rfl rfl rfl rfl rfl (q_loadA tb rfl rfl bxo rfl rfl) ?_
          refine W_qg rfl rfl rfl rfl rfl rfl rfl rfl (q_loadA tb rfl rfl bxo rfl rfl) ?_
          refine W_qg rfl rfl rfl rfl rfl rfl rfl rfl (q_move rfl) ?_
          refine W_callg tb rfl rfl rfl rfl rfl rfl rfl rfl (ct_shotlineref01_Density g a 1000000000 hy (by omega)) no_ps rfl ?_
          refine W_qg rfl rfl rfl rfl rfl rfl rfl rfl (q_true (q_eqI (p := [wgM g * a / 1013000, upZ (wgM g * a) 1013000] = [wgM g * a / 1013000, upZ (wgM g * a) 1013000]) (xs := [wgM g * a / 1013000, upZ (wgM g * a) 1013000]) (ys := [wgM g * a / 1013000, upZ (wgM g * a) 1013000]) eq28 (by omega) eg28 rfl rfl rfl rfl Iff.rfl) (decide_eq_true rfl)) ?_
          refine W_q rfl rfl rfl rfl (by first | exact q_pickT rfl rfl | exact q_pickF rfl rfl) ?_
          refine W_nil ?_
          refine L_q rfl rfl rfl (q_assign rfl) ?_
          refine L_then ?_
          refine C_ret ?_
          exact ret_of (res1 rfl rfl) sub_nil (by intro r hr; cases hr) ⟨rfl, rfl⟩
      · -- t46 False
        have hz := Decidable.not_not.1 hc
        rw [denV_ok hz]
        refine W_skip rfl rfl rfl rfl rfl rfl rfl rfl ?_
        refine W_skip rfl rfl rfl rfl rfl rfl rfl rfl ?_
        refine W_skip rfl rfl rfl rfl rfl rfl rfl rfl ?_
        refine W_skip rfl rfl rfl rfl rfl rfl rfl rfl ?_
        refine W_skipu rfl rfl rfl rfl rfl rfl rfl ?_
        refine W_skipu rfl rfl rfl rfl rfl rfl rfl ?_
        refine W_skipu rfl rfl rfl rfl rfl rfl rfl ?_
        refine W_skip rfl rfl rfl rfl rfl rfl rfl rfl ?_
        refine W_q rfl rfl rfl rfl (by first | exact q_pickT rfl rfl | exact q_pickF rfl rfl) ?_
        refine W_q rfl rfl rfl rfl (q_move rfl) ?_
        refine W_qg rfl rfl rfl rfl rfl rfl rfl rfl (q_move rfl) ?_
        refine W_qg rfl rfl rfl rfl rfl rfl rfl rfl (q_true (q_eql rfl rfl) (decide_eq_true hz)) ?_
        refine W_qg rfl rfl rfl rfl rfl rfl rfl rfl (q_move rfl) ?_
        refine W_qg rfl rfl rfl rfl rfl rfl rfl rfl (q_move rfl) ?_
        refine W_qg rfl rfl rfl rfl rfl rfl rfl rfl (q_false (q_neq rfl rfl) (decide_eq_false (fun h => h hz))) ?_
        refine W_qg rfl rfl rfl rfl rfl rfl rfl rfl (q_move rfl) ?_
        refine W_qg rfl rfl rfl rfl rfl rfl rfl rfl (q_loadA tb rfl rfl bxo rfl rfl) ?_
        refine W_qg rfl rfl rfl rfl rfl rfl rfl rfl (q_loadA tb rfl rfl bxo rfl rfl) ?_
        refine W_qg rfl rfl rfl rfl rfl rfl rfl rfl (q_move rfl) ?_
        refine W_callg tb rfl rfl rfl rfl rfl rfl rfl rfl (ct_shotlineref01_Density g p 100000 hz (by omega)) no_ps rfl ?_
        refine W_qg rfl rfl rfl rfl rfl rfl rfl rfl (q_false (q_neI (p := [wgM g * p / 1013000, upZ (wgM g * p) 1013000] = [wgM g * p / 1013000, upZ (wgM g * p) 1013000]) (xs := [wgM g * p / 1013000, upZ (wgM g * p) 1013000]) (ys := [wgM g * p / 1013000, upZ (wgM g * p) 1013000]) eq28 (by omega) eg28 rfl rfl rfl rfl Iff.rfl) (decide_eq_false (fun h => h rfl))) ?_
        refine W_qg rfl rfl rfl rfl rfl rfl rfl rfl (by first | exact q_pickT rfl rfl | exact q_pickF rfl rfl) ?_
        refine W_qg rfl rfl rfl rfl rfl rfl rfl rfl (by first | exact q_pickT rfl rfl | exact q_pickF rfl rfl) ?_
        refine W_q rfl rfl rfl rfl (by first | exact q_pickT rfl rfl | exact q_pickF rfl rfl) ?_
        refine W_nil ?_
        refine L_then ?_
        refine C_false rfl ?_
        refine C_skip_then ?_
        refine C_seq ?_
        refine C_seq ?_
        refine C_region ?_
        refine L_q rfl rfl rfl (q_move rfl) ?_
        refine L_q rfl rfl rfl (q_neq rfl rfl) ?_
        refine L_then ?_
        refine C_dec rfl (fun hd => ?_) (fun hd => ?_)
        · -- t72 True
          rw [denV_bad hd]
          refine C_seq ?_
          refine C_region ?_
          refine L_q rfl rfl rfl (q_move rfl) ?_
          refine L_q rfl rfl rfl (q_move rfl) ?_
          refine L_q rfl rfl rfl (q_true (q_eql rfl rfl) (decide_eq_true rfl)) ?_
          refine L_q rfl rfl rfl (q_move rfl) ?_
          refine L_qg rfl rfl rfl rfl rfl rfl rfl (q_loadA tb rfl rfl bxo rfl rfl) ?_
          refine L_qg rfl rfl rfl rfl rfl rfl rfl (by first | exact q_build tb rfl rfl rfl rfl | exact q_buildArr tb rfl rfl rfl rfl rfl) ?_
          refine L_qg rfl rfl rfl rfl rfl rfl rfl (q_true (q_eqI (p := [0, 0] = [0, 0]) (xs := [0, 0]) (ys := [0, 0]) eq28 (by omega) eg28 rfl rfl rfl rfl Iff.rfl) (decide_eq_true rfl)) ?_
          refine L_q rfl rfl rfl (by first | exact q_pickT rfl rfl | exact q_pickF rfl rfl) ?_
          refine L_q rfl rfl rfl (q_assign rfl) ?_
          refine L_then ?_
          refine C_ret ?_
          exact ret_of (res1 rfl rfl) sub_nil (by intro r hr; cases hr) ⟨rfl, rfl⟩
        · -- t72 False
          have hy := Decidable.not_not.1 hd
          rw [denV_ok hy]
          refine C_skip_then ?_
          refine C_seq ?_
          refine C_draw (n := 9) [(0, false), (1, false), (2, false), (3, false), (4, false), (5, false), (6, true), (7, false), (8, false)] mixed (by kernel_rfl) ?_
          refine W_q rfl rfl rfl rfl (q_move rfl) ?_
          refine W_q rfl rfl rfl rfl (q_true (q_eql rfl rfl) (decide_eq_true hy)) ?_
          refine W_q rfl rfl rfl rfl (q_move rfl) ?_
          refine W_qg rfl rfl rfl rfl rfl rfl rfl rfl (q_loadA tb rfl rfl bxo rfl rfl) ?_
          refine W_qg rfl rfl rfl rfl rfl rfl rfl rfl (q_loadA tb rfl rfl bxo rfl rfl) ?_
          refine W_qg rfl rfl rfl rfl rfl rfl rfl rfl (q_move rfl) ?_
          refine W_callg tb rfl rfl rfl rfl rfl rfl rfl rfl (ct_shotlineref01_Density g a 1000000000 hy (by omega)) no_ps rfl ?_
          refine W_qg rfl rfl rfl rfl rfl rfl rfl rfl (q_true (q_eqI (p := [wgM g * a / 1013000, upZ (wgM g * a) 1013000] = [wgM g * a / 1013000, upZ (wgM g * a) 1013000]) (xs := [wgM g * a / 1013000, upZ (wgM g * a) 1013000]) (ys := [wgM g * a / 1013000, upZ (wgM g * a) 1013000]) eq28 (by omega) eg28 rfl rfl rfl rfl Iff.rfl) (decide_eq_true rfl)) ?_
          refine W_q rfl rfl rfl rfl (by first | exact q_pickT rfl rfl | exact q_pickF rfl rfl) ?_
          refine W_nil ?_
          refine L_q rfl rfl rfl (q_assign rfl) ?_
          refine L_then ?_
          refine C_ret ?_
          exact ret_of (res1 rfl rfl) sub_nil (by intro r hr; cases hr) ⟨rfl, rfl⟩
end Go.Proofs.YtibohfipgjljhaaDoor
