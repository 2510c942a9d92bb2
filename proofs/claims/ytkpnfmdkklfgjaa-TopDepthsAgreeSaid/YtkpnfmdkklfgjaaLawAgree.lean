/-
  Walks: each function named returns what its model says. Conditions: those in front of each theorem.
-/
import Derived.Test.YtkpnfmdkklfgjaaGC
namespace Go.Proofs.Ytkpnfmdkklfgjaa
open Go.RowKit

set_option maxRecDepth 100000 in
set_option maxHeartbeats 1000000 in
theorem ct_shotlinetop_TopDepthsAgree (a : Aim) : Ct Try.prog 4 [.agg (cAi a).toArray] [] (isV (.bool true)) := by
  refine Ct.of (N := 100) Try.func4 rfl rfl rfl fun w => ?_
  refine C_weak (E' := [(0, .agg (cAi a).toArray)]) (rs' := []) ⟨rfl, trivial⟩ (fun _ h => h) ?_
  refine C_seq ?_
  refine C_region ?_
  refine L_box rfl rfl rfl fun g1 => ?_
  refine L_q rfl rfl rfl (q_assign rfl) ?_
  refine L_then ?_
  refine C_seq ?_
  refine C_seq ?_
  refine C_region ?_
  refine L_call tb rfl rfl (ct_shotlinetop_breathing) no_ps rfl ?_
  refine L_q rfl rfl rfl (q_not rfl (by first | exact (rfl : (!true) = false) | exact (rfl : (!false) = true) | exact decide_not.symm | rfl)) ?_
  refine L_then ?_
  refine C_false rfl ?_
  refine C_skip_then ?_
  refine C_seq ?_
  refine C_seq ?_
  refine C_region ?_
  refine L_q rfl rfl rfl (q_loadA tb rfl rfl bxo rfl rfl) ?_
  refine L_call tb rfl rfl (ct_shotlineref01_CheckAim a) no_ps rfl ?_
  refine L_q rfl rfl rfl (q_neq rfl rfl) ?_
  refine L_then ?_
  refine C_dec rfl (fun hz => ?_) (fun hz => ?_)
  · -- t17 True
    refine C_seq ?_
    refine C_region ?_
    refine L_q rfl rfl rfl (q_assign rfl) ?_
    refine L_then ?_
    refine C_ret ?_
    exact ret_of (res1 rfl rfl) sub_nil (by intro r hr; cases hr) ⟨rfl, rfl⟩
  · -- t17 False
    have H := ckAim_ok (Decidable.not_not.1 hz); have hsu := H.su; have hde := H.de; have hli := H.l; have hna := H.na; have hob := oB_in H; have hbi := hB_in a
    have hgz : ckGas (oB a) (hB a : Int) = 0 := by unfold ckGas; rw [if_neg (by omega), if_neg (by omega)]
    rcases Decidable.em (meetP a (oB a) (hB a)) with hm | hm
    · -- case 0
      refine C_skip_then ?_
      refine C_seq ?_
      refine C_region ?_
      refine L_q rfl rfl rfl (q_loadA tb rfl rfl bxo rfl rfl) ?_
      refine L_call tb rfl rfl (ct_gas_BestGas a H) no_ps rfl ?_
      rw [bsE_1 hm]
      dsimp only
      obtain ⟨hdz, hdl, hdh⟩ := df_meet H (by omega) hm; have hnm := nar_meet H (o := oB a) (by omega) hm.2
      have hd30 : (dfR (oB a) a.su a.le a.mo).hi ≤ 30000 := by unfold dfR; rw [if_neg hdz]; show min 30000 _ ≤ 30000; omega
      refine L_q rfl rfl rfl (q_move rfl) ?_
      refine L_q rfl rfl rfl (q_ext0 rfl) ?_
      refine L_q rfl rfl rfl (q_ext1 rfl) ?_
      refine L_alloc tb rfl rfl fun g3 => ?_
      first | refine L_store tb rfl rfl rfl rfl rfl rfl rfl rfl ?_ | (refine L_front1 ?_; refine L_store tb rfl rfl rfl rfl rfl rfl rfl rfl ?_) | (refine L_front2 ?_; refine L_store tb rfl rfl rfl rfl rfl rfl rfl rfl ?_) | (refine L_front3 ?_; refine L_store tb rfl rfl rfl rfl rfl rfl rfl rfl ?_) | (refine L_front4 ?_; refine L_store tb rfl rfl rfl rfl rfl rfl rfl rfl ?_) | (refine L_front5 ?_; refine L_store tb rfl rfl rfl rfl rfl rfl rfl rfl ?_) | (refine L_front6 ?_; refine L_store tb rfl rfl rfl rfl rfl rfl rfl rfl ?_)
      refine L_q rfl rfl rfl (q_assign rfl) ?_
      refine L_then ?_
      refine C_seq ?_
      refine C_seq ?_
      refine C_region ?_
      refine L_q rfl rfl rfl (q_move rfl) ?_
      refine L_q rfl rfl rfl (q_false (q_neq rfl rfl) (by simp)) ?_
      refine L_then ?_
      refine C_false rfl ?_
      refine C_skip_then ?_
      refine C_seq ?_
      refine C_seq ?_
      refine C_region ?_
      refine L_q rfl rfl rfl (q_loadA tb rfl rfl bxo rfl rfl) ?_
      refine L_call tb rfl rfl (ct_shotlineref01_CheckGas (oB a) (hB a : Int)) no_ps rfl ?_
      rw [hgz]
      refine L_q rfl rfl rfl (q_false (q_neq rfl rfl) (by simp)) ?_
      refine L_then ?_
      refine C_false rfl ?_
      refine C_skip_then ?_
      refine C_seq ?_
      refine C_region ?_
      refine L_q rfl rfl rfl (q_loadA tb rfl rfl bxo rfl rfl) ?_
      refine L_q rfl rfl rfl (q_field tb rfl rfl rfl) ?_
      refine L_q rfl rfl rfl (q_load tb rfl rfl bxo rfl) ?_
      refine L_q rfl rfl rfl (q_field tb rfl rfl rfl) ?_
      refine L_q rfl rfl rfl (q_loadA tb rfl rfl bxo rfl rfl) ?_
      refine L_call tb rfl rfl (ct_gas_DepthsFor (oB a) (hB a : Int) a.su a.le a.mo hgz (by omega) (by omega) (by omega)) no_ps rfl ?_
      refine L_q rfl rfl rfl (q_move rfl) ?_
      refine L_q rfl rfl rfl (q_ext0 rfl) ?_
      refine L_q rfl rfl rfl (q_ext1 rfl) ?_
      refine L_alloc tb rfl rfl fun g5 => ?_
      first | refine L_store tb rfl rfl rfl rfl rfl rfl rfl rfl ?_ | (refine L_front1 ?_; refine L_store tb rfl rfl rfl rfl rfl rfl rfl rfl ?_) | (refine L_front2 ?_; refine L_store tb rfl rfl rfl rfl rfl rfl rfl rfl ?_) | (refine L_front3 ?_; refine L_store tb rfl rfl rfl rfl rfl rfl rfl rfl ?_) | (refine L_front4 ?_; refine L_store tb rfl rfl rfl rfl rfl rfl rfl rfl ?_) | (refine L_front5 ?_; refine L_store tb rfl rfl rfl rfl rfl rfl rfl rfl ?_) | (refine L_front6 ?_; refine L_store tb rfl rfl rfl rfl rfl rfl rfl rfl ?_)
      refine L_q rfl rfl rfl (q_assign rfl) ?_
      refine L_then ?_
      refine C_seq ?_
      refine C_region ?_
      refine L_q rfl rfl rfl (q_loadA tb rfl rfl bxo rfl rfl) ?_
      refine L_q rfl rfl rfl (q_field tb rfl rfl rfl) ?_
      refine L_q rfl rfl rfl (q_load tb rfl rfl bxo rfl) ?_
      refine L_q rfl rfl rfl (q_field tb rfl rfl rfl) ?_
      refine L_q rfl rfl rfl (q_load tb rfl rfl bxo rfl) ?_
      refine L_call tb rfl rfl (ct_gas_EquivalentNarcotic ⟨oB a, (hB a : Int)⟩ a.su a.de hgz (by omega) (by omega)) no_ps rfl ?_
      refine L_q rfl rfl rfl (q_move rfl) ?_
      refine L_q rfl rfl rfl (q_ext0 rfl) ?_
      refine L_q rfl rfl rfl (q_ext1 rfl) ?_
      refine L_alloc tb rfl rfl fun g7 => ?_
      first | refine L_store tb rfl rfl rfl rfl rfl rfl rfl rfl ?_ | (refine L_front1 ?_; refine L_store tb rfl rfl rfl rfl rfl rfl rfl rfl ?_) | (refine L_front2 ?_; refine L_store tb rfl rfl rfl rfl rfl rfl rfl rfl ?_) | (refine L_front3 ?_; refine L_store tb rfl rfl rfl rfl rfl rfl rfl rfl ?_) | (refine L_front4 ?_; refine L_store tb rfl rfl rfl rfl rfl rfl rfl rfl ?_) | (refine L_front5 ?_; refine L_store tb rfl rfl rfl rfl rfl rfl rfl rfl ?_) | (refine L_front6 ?_; refine L_store tb rfl rfl rfl rfl rfl rfl rfl rfl ?_)
      refine L_q rfl rfl rfl (q_assign rfl) ?_
      refine L_then ?_
      refine C_seq ?_
      refine C_seq ?_
      refine C_region ?_
      refine L_q rfl rfl rfl (q_move rfl) ?_
      refine L_q rfl rfl rfl (q_false (q_neq rfl rfl) (by simp)) ?_
      refine L_q rfl rfl rfl (q_move rfl) ?_
      refine L_qg rfl rfl rfl rfl rfl rfl rfl (q_field tb rfl rfl rfl) ?_
      refine L_qg rfl rfl rfl rfl rfl rfl rfl (q_load tb rfl rfl bxo rfl) ?_
      refine L_qg rfl rfl rfl rfl rfl rfl rfl (q_field tb rfl rfl rfl) ?_
      refine L_qg rfl rfl rfl rfl rfl rfl rfl (q_load tb rfl rfl bxo rfl) ?_
      refine L_qg rfl rfl rfl rfl rfl rfl rfl (q_field tb rfl rfl rfl) ?_
      refine L_qg rfl rfl rfl rfl rfl rfl rfl (q_load tb rfl rfl bxo rfl) ?_
      refine L_callg tb rfl rfl rfl rfl rfl rfl (ct_shotlinebase_Within _ _ _) no_ps rfl ?_
      refine L_qg rfl rfl rfl rfl rfl rfl rfl (q_not rfl (by first | exact (rfl : (!true) = false) | exact (rfl : (!false) = true) | exact decide_not.symm | rfl)) ?_
      refine L_q rfl rfl rfl (by first | exact q_pickT rfl rfl | exact q_pickF rfl rfl) ?_
      refine L_q rfl rfl rfl (q_move rfl) ?_
      refine L_dec (d := 60) rfl (fun h5 => ?_) (fun h5 => ?_)
      · -- t60 True
        exfalso; omega
      · -- t60 False
        refine L_qg rfl rfl rfl rfl rfl rfl rfl (q_move rfl) ?_
        refine L_qg rfl rfl rfl rfl rfl rfl rfl (q_false (q_neq rfl rfl) (by simp)) ?_
        refine L_q rfl rfl rfl (by first | exact q_pickT rfl rfl | exact q_pickF rfl rfl) ?_
        refine L_q rfl rfl rfl (q_move rfl) ?_
        refine L_qg rfl rfl rfl rfl rfl rfl rfl (q_field tb rfl rfl rfl) ?_
        refine L_qg rfl rfl rfl rfl rfl rfl rfl (q_load tb rfl rfl bxo rfl) ?_
        refine L_qg rfl rfl rfl rfl rfl rfl rfl (q_field tb rfl rfl rfl) ?_
        refine L_qg rfl rfl rfl rfl rfl rfl rfl (q_load tb rfl rfl bxo rfl) ?_
        refine L_qg rfl rfl rfl rfl rfl rfl rfl (q_gtr rfl rfl) ?_
        refine L_q rfl rfl rfl (by first | exact q_pickT rfl rfl | exact q_pickF rfl rfl) ?_
        refine L_then ?_
        refine C_dec rfl (fun h6 => ?_) (fun h6 => ?_)
        · -- t70 True
          exfalso; omega
        · -- t70 False
          refine C_skip_then ?_
          refine C_seq ?_
          refine C_region ?_
          refine L_q rfl rfl rfl (q_loadA tb rfl rfl bxo rfl rfl) ?_
          refine L_mk (lo_bslice tb rfl rfl rfl (xs := [cGs ⟨oB a, (hB a : Int)⟩]) rfl rfl (by simp [cGs]) rfl (by omega) rfl) rfl rfl rfl fun v73 => ?_
          refine L_q rfl rfl rfl (q_field tb rfl rfl rfl) ?_
          refine L_q rfl rfl rfl (q_load tb rfl rfl bxo rfl) ?_
          refine L_q rfl rfl rfl (q_field tb rfl rfl rfl) ?_
          refine L_q rfl rfl rfl (q_loadA tb rfl rfl bxo rfl rfl) ?_
          refine L_q rfl rfl rfl (q_field tb rfl rfl rfl) ?_
          refine L_q rfl rfl rfl (q_load tb rfl rfl bxo rfl) ?_
          refine L_q rfl rfl rfl (q_field tb rfl rfl rfl) ?_
          refine L_q rfl rfl rfl (q_load tb rfl rfl bxo rfl) ?_
          refine L_q rfl rfl rfl (by first | exact q_build tb rfl rfl rfl rfl | exact q_buildArr tb rfl rfl rfl rfl rfl) ?_
          refine L_call tb rfl rfl (ct_gas_FirstGap v73 ⟨oB a, (hB a : Int)⟩ a.su a.le a.mo a.de hgz (by omega) (by omega) (by omega) (by dsimp only; omega) (by dsimp only; omega)) (ps_cons (by first | exact gvo | exact gvd gvo (by omega)) no_ps) rfl ?_
          refine L_q rfl rfl rfl (q_move rfl) ?_
          refine L_q rfl rfl rfl (q_ext0 rfl) ?_
          refine L_q rfl rfl rfl (q_ext1 rfl) ?_
          refine L_q rfl rfl rfl (q_assign rfl) ?_
          refine L_q rfl rfl rfl (q_assign rfl) ?_
          refine L_then ?_
          refine C_seq ?_
          refine C_region ?_
          refine L_q rfl rfl rfl (by first | exact q_build tb rfl rfl rfl rfl | exact q_buildArr tb rfl rfl rfl rfl rfl) ?_
          refine L_q rfl rfl rfl (q_loadA tb rfl rfl bxo rfl rfl) ?_
          refine L_mk (lo_bslice tb rfl rfl rfl (xs := [cGs ⟨0, 1000⟩, cGs ⟨oB a, (hB a : Int)⟩]) rfl rfl (by simp [cGs]) rfl (by omega) rfl) rfl rfl rfl fun v89 => ?_
          refine L_q rfl rfl rfl (q_loadA tb rfl rfl bxo rfl rfl) ?_
          refine L_call tb rfl rfl (ct_gas_Richest v89 ⟨oB a, (hB a : Int)⟩ a H hgz hm) (ps_cons (by first | exact gvo | exact gvd gvo (by omega)) no_ps) rfl ?_
          refine L_q rfl rfl rfl (q_move rfl) ?_
          refine L_q rfl rfl rfl (q_ext0 rfl) ?_
          refine L_q rfl rfl rfl (q_ext1 rfl) ?_
          refine L_q rfl rfl rfl (q_assign rfl) ?_
          refine L_q rfl rfl rfl (q_assign rfl) ?_
          refine L_then ?_
          refine C_seq ?_
          refine C_region ?_
          refine L_q rfl rfl rfl (q_move rfl) ?_
          refine L_q rfl rfl rfl (q_true (q_eql rfl rfl) (by simp)) ?_
          refine L_q rfl rfl rfl (q_move rfl) ?_
          refine L_qg rfl rfl rfl rfl rfl rfl rfl (q_move rfl) ?_
          refine L_qg rfl rfl rfl rfl rfl rfl rfl (q_true (q_eql rfl rfl) (by simp)) ?_
          refine L_q rfl rfl rfl (by first | exact q_pickT rfl rfl | exact q_pickF rfl rfl) ?_
          refine L_q rfl rfl rfl (q_assign rfl) ?_
          refine L_then ?_
          refine C_ret ?_
          exact ret_of (res1 rfl rfl) sub_nil (by intro r hr; cases hr) ⟨rfl, rfl⟩
    · -- case 1
      refine C_skip_then ?_
      refine C_seq ?_
      refine C_region ?_
      refine L_q rfl rfl rfl (q_loadA tb rfl rfl bxo rfl rfl) ?_
      refine L_call tb rfl rfl (ct_gas_BestGas a H) no_ps rfl ?_
      rw [bsE_2 hm]
      dsimp only
      refine L_q rfl rfl rfl (q_move rfl) ?_
      refine L_q rfl rfl rfl (q_ext0 rfl) ?_
      refine L_q rfl rfl rfl (q_ext1 rfl) ?_
      refine L_alloc tb rfl rfl fun g3 => ?_
      first | refine L_store tb rfl rfl rfl rfl rfl rfl rfl rfl ?_ | (refine L_front1 ?_; refine L_store tb rfl rfl rfl rfl rfl rfl rfl rfl ?_) | (refine L_front2 ?_; refine L_store tb rfl rfl rfl rfl rfl rfl rfl rfl ?_) | (refine L_front3 ?_; refine L_store tb rfl rfl rfl rfl rfl rfl rfl rfl ?_) | (refine L_front4 ?_; refine L_store tb rfl rfl rfl rfl rfl rfl rfl rfl ?_) | (refine L_front5 ?_; refine L_store tb rfl rfl rfl rfl rfl rfl rfl rfl ?_) | (refine L_front6 ?_; refine L_store tb rfl rfl rfl rfl rfl rfl rfl rfl ?_)
      refine L_q rfl rfl rfl (q_assign rfl) ?_
      refine L_then ?_
      refine C_seq ?_
      refine C_seq ?_
      refine C_region ?_
      refine L_q rfl rfl rfl (q_move rfl) ?_
      refine L_q rfl rfl rfl (q_true (q_neq rfl rfl) (by decide)) ?_
      refine L_then ?_
      refine C_true rfl ?_
      refine C_seq ?_
      refine C_region ?_
      refine L_q rfl rfl rfl (q_move rfl) ?_
      refine L_q rfl rfl rfl (q_true (q_eql rfl rfl) (by simp)) ?_
      refine L_q rfl rfl rfl (q_assign rfl) ?_
      refine L_then ?_
      refine C_ret ?_
      exact ret_of (res1 rfl rfl) sub_nil (by intro r hr; cases hr) ⟨rfl, rfl⟩
end Go.Proofs.Ytkpnfmdkklfgjaa
