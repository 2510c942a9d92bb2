/-
  Walks: each function named returns what its model says. Conditions: those in front of each theorem.
-/
import Derived.Test.YtfhfadfnbnliiaaS
namespace Go.Proofs.Ytfhfadfnbnliiaa
open Go.RowKit

set_option maxRecDepth 100000 in
set_option maxHeartbeats 2000000 in
theorem ct_shotlinelaw03_TissueLoads (v u : Value) (x : Lg) (fi : Int) (ts : List Cp) (ls : List Ld) : Ct Try.prog 3 [.agg (cDv v u x fi).toArray] [(v, 4, ts.map cCp), (u, 4, ls.map cLd)] (isV (.bool true)) := by
  refine Ct.of (N := 67) Try.func3 rfl rfl rfl fun w => ?_
  refine C_weak (E' := [(0, .agg (cDv v u x fi).toArray)]) (rs' := [rd v 4 (ts.map cCp), rd u 4 (ls.map cLd)]) ⟨rfl, trivial⟩ (fun _ h => h) ?_
  have hl1 := len_map cCp ts
  have hl2 := len_map cLd ls
  refine C_seq ?_
  refine C_region ?_
  refine L_box rfl rfl rfl fun g1 => ?_
  refine L_q rfl rfl rfl (q_assign rfl) ?_
  refine L_then ?_
  refine C_seq ?_
  refine C_seq ?_
  refine C_region ?_
  refine L_call tb rfl rfl (ct_shotlinelaw03_awake) no_ps rfl ?_
  refine L_q rfl rfl rfl (q_not rfl (by first | exact (rfl : (!true) = false) | exact (rfl : (!false) = true) | exact decide_not.symm | rfl)) ?_
  refine L_then ?_
  refine C_false rfl ?_
  refine C_skip_then ?_
  refine C_seq ?_
  refine C_seq ?_
  refine C_region ?_
  refine L_q rfl rfl rfl (by first | exact q_loadA tb rfl rfl bxo rfl rfl | exact q_loadEA tb rfl rfl (by first | exact gvo | exact gvd gvo (by omega)) (by omega) (by simp) rfl rfl) ?_
  refine L_call tb rfl rfl (ct_shotlinelaw03_light v u x fi ts ls) (ps_cons (by first | exact gvo | exact gvd gvo (by omega)) (ps_cons (by first | exact gvo | exact gvd gvo (by omega)) no_ps)) rfl ?_
  refine L_q rfl rfl rfl (q_not rfl (by first | exact (rfl : (!true) = false) | exact (rfl : (!false) = true) | exact decide_not.symm | rfl)) ?_
  refine L_then ?_
  refine C_dec rfl (fun h2 => ?_) (fun h2 => ?_)
  · -- t10 True
    refine C_seq ?_
    refine C_region ?_
    refine L_q rfl rfl rfl (q_assign rfl) ?_
    refine L_then ?_
    refine C_ret ?_
    exact ret_of (res1 rfl rfl) sub_nil (by intro r hr; cases hr) ⟨rfl, rfl⟩
  · -- t10 False
    refine C_skip_then ?_
    refine C_seq ?_
    refine C_draw (n := 16) [(0, false), (1, false), (3, false), (4, false), (6, false), (7, false), (8, false), (9, false), (2, true), (5, true), (10, true), (11, false), (12, false), (13, false), (14, false), (15, false)] mixed (by kernel_rfl) ?_
    refine W_q rfl rfl rfl rfl (by first | exact q_field tb rfl rfl rfl | exact q_fieldE tb rfl rfl rfl (by first | exact gvo | exact gvd gvo (by omega)) (by first | omega | (simp; done) | (simp; omega))) ?_
    refine W_q rfl rfl rfl rfl (by first | exact q_load tb rfl rfl bxo rfl | exact q_loadE tb rfl rfl (by first | exact gvo | exact gvd gvo (by omega)) (by omega) (by simp) rfl) ?_
    refine W_q rfl rfl rfl rfl (by first | exact q_field tb rfl rfl rfl | exact q_fieldE tb rfl rfl rfl (by first | exact gvo | exact gvd gvo (by omega)) (by first | omega | (simp; done) | (simp; omega))) ?_
    refine W_q rfl rfl rfl rfl (by first | exact q_load tb rfl rfl bxo rfl | exact q_loadE tb rfl rfl (by first | exact gvo | exact gvd gvo (by omega)) (by omega) (by simp) rfl) ?_
    refine W_q rfl rfl rfl rfl (by first | exact q_field tb rfl rfl rfl | exact q_fieldE tb rfl rfl rfl (by first | exact gvo | exact gvd gvo (by omega)) (by first | omega | (simp; done) | (simp; omega))) ?_
    refine W_q rfl rfl rfl rfl (by first | exact q_loadA tb rfl rfl bxo rfl rfl | exact q_loadEA tb rfl rfl (by first | exact gvo | exact gvd gvo (by omega)) (by omega) (by simp) rfl rfl) ?_
    refine W_q rfl rfl rfl rfl (by first | exact q_field tb rfl rfl rfl | exact q_fieldE tb rfl rfl rfl (by first | exact gvo | exact gvd gvo (by omega)) (by first | omega | (simp; done) | (simp; omega))) ?_
    refine W_q rfl rfl rfl rfl (by first | exact q_load tb rfl rfl bxo rfl | exact q_loadE tb rfl rfl (by first | exact gvo | exact gvd gvo (by omega)) (by omega) (by simp) rfl) ?_
    refine W_callS tb rfl rfl rfl rfl (ct_shotlinelaw03_table v ts (by omega)) (ps_cons (by first | exact gvo | exact gvd gvo (by omega)) no_ps) rfl fun v14 => ?_
    refine W_callS tb rfl rfl rfl rfl (ct_shotlinelaw03_loads u ls (by omega)) (ps_cons (by first | exact gvo | exact gvd gvo (by omega)) no_ps) rfl fun v17 => ?_
    refine W_callSN tb rfl rfl rfl rfl (ct_tissue_Loaded _ _ x fi ts ls (by omega) (by omega)) (ps_cons (by first | exact gvo | exact gvd gvo (by omega)) (ps_cons (by first | exact gvo | exact gvd gvo (by omega)) no_ps)) rfl fun v22 => ?_
    refine W_q rfl rfl rfl rfl (q_move rfl) ?_
    refine W_q rfl rfl rfl rfl (q_ext0 rfl) ?_
    refine W_q rfl rfl rfl rfl (q_ext1 rfl) ?_
    refine W_q rfl rfl rfl rfl (q_assign rfl) ?_
    refine W_q rfl rfl rfl rfl (q_assign rfl) ?_
    refine W_nil ?_
    refine L_then ?_
    refine C_seq ?_
    refine C_seq ?_
    refine C_draw (n := 7) [(0, false), (1, false), (3, false), (4, false), (2, true), (5, true), (6, false)] mixed (by kernel_rfl) ?_
    refine W_q rfl rfl rfl rfl (by first | exact q_field tb rfl rfl rfl | exact q_fieldE tb rfl rfl rfl (by first | exact gvo | exact gvd gvo (by omega)) (by first | omega | (simp; done) | (simp; omega))) ?_
    refine W_q rfl rfl rfl rfl (by first | exact q_loadA tb rfl rfl bxo rfl rfl | exact q_loadEA tb rfl rfl (by first | exact gvo | exact gvd gvo (by omega)) (by omega) (by simp) rfl rfl) ?_
    refine W_q rfl rfl rfl rfl (by first | exact q_field tb rfl rfl rfl | exact q_fieldE tb rfl rfl rfl (by first | exact gvo | exact gvd gvo (by omega)) (by first | omega | (simp; done) | (simp; omega))) ?_
    refine W_q rfl rfl rfl rfl (by first | exact q_loadA tb rfl rfl bxo rfl rfl | exact q_loadEA tb rfl rfl (by first | exact gvo | exact gvd gvo (by omega)) (by omega) (by simp) rfl rfl) ?_
    refine W_call tb rfl rfl rfl rfl (ct_tissue_CheckLeg x) no_ps rfl ?_
    refine W_call tb rfl rfl rfl rfl (ct_shotlineref03_CheckLeg x) no_ps rfl ?_
    refine W_q rfl rfl rfl rfl (q_false (q_neq rfl rfl) (decide_eq_false fun h => h rfl)) ?_
    refine W_nil ?_
    refine L_then ?_
    refine C_false rfl ?_
    refine C_skip_then ?_
    refine C_seq ?_
    refine C_seq ?_
    refine C_region ?_
    refine L_q rfl rfl rfl (by first | exact q_loadA tb rfl rfl bxo rfl rfl | exact q_loadEA tb rfl rfl (by first | exact gvo | exact gvd gvo (by omega)) (by omega) (by simp) rfl rfl) ?_
    refine L_call tb rfl rfl (ct_shotlinelaw03_check v u x fi ts ls (by omega) (by omega)) (ps_cons (by first | exact gvo | exact gvd gvo (by omega)) (ps_cons (by first | exact gvo | exact gvd gvo (by omega)) no_ps)) rfl ?_
    refine L_q rfl rfl rfl (q_assign rfl) ?_
    refine L_then ?_
    refine C_seq ?_
    refine C_region ?_
    refine L_q rfl rfl rfl (q_move rfl) ?_
    refine L_q rfl rfl rfl (q_neq rfl rfl) ?_
    refine L_then ?_
    refine C_dec rfl (fun hc => ?_) (fun hc => ?_)
    · -- t35 True
      refine C_seq ?_
      refine C_region ?_
      rw [loadedE_snd]
      refine L_q rfl rfl rfl (q_move rfl) ?_
      refine L_q rfl rfl rfl (q_move rfl) ?_
      refine L_q rfl rfl rfl (q_true (q_eql rfl rfl) (decide_eq_true rfl)) ?_
      refine L_q rfl rfl rfl (q_move rfl) ?_
      refine L_qg rfl rfl rfl rfl rfl rfl rfl (q_move rfl) ?_
      refine L_qg rfl rfl rfl rfl rfl rfl rfl (q_len tb rfl rfl (by first | exact gvo | exact gvd gvo (by omega))) ?_
      refine L_qg rfl rfl rfl rfl rfl rfl rfl (q_true (q_eql rfl rfl) (decide_eq_true (by rw [loadedE_nil hc]; rfl))) ?_
      refine L_q rfl rfl rfl (by first | exact q_pickT rfl rfl | exact q_pickF rfl rfl) ?_
      refine L_q rfl rfl rfl (q_assign rfl) ?_
      refine L_then ?_
      refine C_ret ?_
      exact ret_of (res1 rfl rfl) sub_nil (by intro r hr; cases hr) ⟨rfl, rfl⟩
    · -- t35 False
      have hz := Decidable.not_not.1 hc
      obtain ⟨n, rfl⟩ := Int.eq_ofNat_of_zero_le (ckDv_ok hz).f.1
      have hd := ckDv_ok hz
      have hn6 := hd.f.2
      rw [loadedE_ok hd]
      refine C_skip_then ?_
      refine C_seq ?_
      refine C_region ?_
      refine L_q rfl rfl rfl (q_move rfl) ?_
      refine L_q rfl rfl rfl (q_true (q_eql rfl rfl) (decide_eq_true rfl)) ?_
      refine L_q rfl rfl rfl (q_move rfl) ?_
      refine L_qg rfl rfl rfl rfl rfl rfl rfl (q_move rfl) ?_
      refine L_qg rfl rfl rfl rfl rfl rfl rfl (by first | exact q_field tb rfl rfl rfl | exact q_fieldE tb rfl rfl rfl (by first | exact gvo | exact gvd gvo (by omega)) (by first | omega | (simp; done) | (simp; omega))) ?_
      refine L_qg rfl rfl rfl rfl rfl rfl rfl (by first | exact q_load tb rfl rfl bxo rfl | exact q_loadE tb rfl rfl (by first | exact gvo | exact gvd gvo (by omega)) (by omega) (by simp) rfl) ?_
      refine L_qg rfl rfl rfl rfl rfl rfl rfl (by first | exact q_field tb rfl rfl rfl | exact q_fieldE tb rfl rfl rfl (by first | exact gvo | exact gvd gvo (by omega)) (by first | omega | (simp; done) | (simp; omega))) ?_
      refine L_qg rfl rfl rfl rfl rfl rfl rfl (by first | exact q_load tb rfl rfl bxo rfl | exact q_loadE tb rfl rfl (by first | exact gvo | exact gvd gvo (by omega)) (by omega) (by simp) rfl) ?_
      refine L_qg rfl rfl rfl rfl rfl rfl rfl (by first | exact q_field tb rfl rfl rfl | exact q_fieldE tb rfl rfl rfl (by first | exact gvo | exact gvd gvo (by omega)) (by first | omega | (simp; done) | (simp; omega))) ?_
      refine L_qg rfl rfl rfl rfl rfl rfl rfl (by first | exact q_loadA tb rfl rfl bxo rfl rfl | exact q_loadEA tb rfl rfl (by first | exact gvo | exact gvd gvo (by omega)) (by omega) (by simp) rfl rfl) ?_
      refine L_qg rfl rfl rfl rfl rfl rfl rfl (by first | exact q_field tb rfl rfl rfl | exact q_fieldE tb rfl rfl rfl (by first | exact gvo | exact gvd gvo (by omega)) (by first | omega | (simp; done) | (simp; omega))) ?_
      refine L_qg rfl rfl rfl rfl rfl rfl rfl (by first | exact q_load tb rfl rfl bxo rfl | exact q_loadE tb rfl rfl (by first | exact gvo | exact gvd gvo (by omega)) (by omega) (by simp) rfl) ?_
      refine L_log rfl rfl rfl rfl rfl rfl rfl (lo_call tb rfl rfl (ct_shotlineref03_Loaded v u x n ts ls (by omega) hd.xx hd.k.len (by omega) hd.k.c hd.k.x) (ps_cons (by first | exact gvo | exact gvd gvo (by omega)) (ps_cons (by first | exact gvo | exact gvd gvo (by omega)) no_ps)) isSl_sinks) ?_
      intro v56 rs_ hr_; unfold isSl at hr_; subst hr_
      refine L_callg tb rfl rfl rfl rfl rfl rfl (ct_shotlineref03_Same _ _ (loadedM ts ls x n) (by have := loadedM_len (x := x) (f := n) hd.k.len; omega)) (ps_cons (by first | exact gvo | exact gvd gvo (by omega)) (ps_cons (by first | exact gvo | exact gvd gvo (by omega)) no_ps)) rfl ?_
      refine L_q rfl rfl rfl (by first | exact q_pickT rfl rfl | exact q_pickF rfl rfl) ?_
      refine L_q rfl rfl rfl (q_move rfl) ?_
      refine L_qg rfl rfl rfl rfl rfl rfl rfl (by first | exact q_field tb rfl rfl rfl | exact q_fieldE tb rfl rfl rfl (by first | exact gvo | exact gvd gvo (by omega)) (by first | omega | (simp; done) | (simp; omega))) ?_
      refine L_qg rfl rfl rfl rfl rfl rfl rfl (by first | exact q_load tb rfl rfl bxo rfl | exact q_loadE tb rfl rfl (by first | exact gvo | exact gvd gvo (by omega)) (by omega) (by simp) rfl) ?_
      refine L_log rfl rfl rfl rfl rfl rfl rfl (lo_call tb rfl rfl (ct_shotlinelaw03_table v ts (by omega)) (ps_cons (by first | exact gvo | exact gvd gvo (by omega)) no_ps) isSl_sinks) ?_
      intro v62 rs_ hr_; unfold isSl at hr_; subst hr_
      refine L_qg rfl rfl rfl rfl rfl rfl rfl (q_move rfl) ?_
      refine L_callg tb rfl rfl rfl rfl rfl rfl (ct_tissue_CheckLoads _ _ ts (loadedM ts ls x n) (by omega) (by have := loadedM_len (x := x) (f := n) hd.k.len; omega)) (ps_cons (by first | exact gvo | exact gvd gvo (by omega)) (ps_cons (by first | exact gvo | exact gvd gvo (by omega)) no_ps)) rfl ?_
      refine L_qg rfl rfl rfl rfl rfl rfl rfl (q_true (q_eql rfl rfl) (decide_eq_true (ckLoads_mk (loaded_ok hd.k hd.xx (by omega))))) ?_
      refine L_q rfl rfl rfl (by first | exact q_pickT rfl rfl | exact q_pickF rfl rfl) ?_
      refine L_q rfl rfl rfl (q_assign rfl) ?_
      refine L_then ?_
      refine C_ret ?_
      exact ret_of (res1 rfl rfl) sub_nil (by intro r hr; cases hr) ⟨rfl, rfl⟩
end Go.Proofs.Ytfhfadfnbnliiaa
