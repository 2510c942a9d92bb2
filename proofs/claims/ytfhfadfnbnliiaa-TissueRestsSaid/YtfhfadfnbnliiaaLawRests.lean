/-
  Walks: each function named returns what its model says. Conditions: those in front of each theorem.
-/
import Derived.Test.YtfhfadfnbnliiaaS
namespace Go.Proofs.Ytfhfadfnbnliiaa
open Go.RowKit

set_option maxRecDepth 100000 in
set_option maxHeartbeats 2000000 in
theorem ct_shotlinelaw03_TissueRests (v u : Value) (x : Lg) (fi : Int) (ts : List Cp) (ls : List Ld) (p s : Int) : Ct Try.prog 6 [.agg (cDv v u x fi).toArray, .int .i64 p, .int .i64 s] [(v, 4, ts.map cCp), (u, 4, ls.map cLd)] (isV (.bool true)) := by
  refine Ct.of (N := 94) Try.func6 rfl rfl rfl fun w => ?_
  refine C_weak (E' := [(0, .agg (cDv v u x fi).toArray), (1, .int .i64 p), (2, .int .i64 s)]) (rs' := [rd v 4 (ts.map cCp), rd u 4 (ls.map cLd)]) ⟨rfl, rfl, rfl, trivial⟩ (fun _ h => h) ?_
  have hl1 := len_map cCp ts
  have hl2 := len_map cLd ls
  refine C_seq ?_
  refine C_region ?_
  refine L_box rfl rfl rfl fun g3 => ?_
  refine L_q rfl rfl rfl (q_assign rfl) ?_
  refine L_then ?_
  refine C_seq ?_
  refine C_seq ?_
  refine C_region ?_
  refine L_call tb rfl rfl (ct_shotlinelaw03_awake) no_ps rfl ?_
  refine L_q rfl rfl rfl (q_not rfl (by first | exact (rfl : (!true) = false) | exact (rfl : (!false) = true) | exact decide_not.symm | rfl)) ?_
  refine L_then ?_
  refine C_false rfl ?_
  refine C_skip_then ?_
  refine C_seq ?_
  refine C_seq ?_
  refine C_region ?_
  refine L_q rfl rfl rfl (by first | exact q_loadA tb rfl rfl bxo rfl rfl | exact q_loadEA tb rfl rfl (by first | exact gvo | exact gvd gvo (by omega)) (by omega) (by simp) rfl rfl) ?_
  refine L_call tb rfl rfl (ct_shotlinelaw03_light v u x fi ts ls) (ps_cons (by first | exact gvo | exact gvd gvo (by omega)) (ps_cons (by first | exact gvo | exact gvd gvo (by omega)) no_ps)) rfl ?_
  refine L_q rfl rfl rfl (q_not rfl (by first | exact (rfl : (!true) = false) | exact (rfl : (!false) = true) | exact decide_not.symm | rfl)) ?_
  refine L_then ?_
  refine C_dec rfl (fun h2 => ?_) (fun h2 => ?_)
  · -- t16 True
    refine C_seq ?_
    refine C_region ?_
    refine L_q rfl rfl rfl (q_assign rfl) ?_
    refine L_then ?_
    refine C_ret ?_
    exact ret_of (res1 rfl rfl) sub_nil (by intro r hr; cases hr) ⟨rfl, rfl⟩
  · -- t16 False
    refine C_skip_then ?_
    refine C_seq ?_
    refine C_draw (n := 14) [(0, false), (1, false), (3, false), (4, false), (6, false), (7, false), (2, true), (5, true), (8, true), (9, false), (10, false), (11, false), (12, false), (13, false)] mixed (by kernel_rfl) ?_
    refine W_q rfl rfl rfl rfl (by first | exact q_field tb rfl rfl rfl | exact q_fieldE tb rfl rfl rfl (by first | exact gvo | exact gvd gvo (by omega)) (by first | omega | (simp; done) | (simp; omega))) ?_
    refine W_q rfl rfl rfl rfl (by first | exact q_load tb rfl rfl bxo rfl | exact q_loadE tb rfl rfl (by first | exact gvo | exact gvd gvo (by omega)) (by omega) (by simp) rfl) ?_
    refine W_q rfl rfl rfl rfl (by first | exact q_field tb rfl rfl rfl | exact q_fieldE tb rfl rfl rfl (by first | exact gvo | exact gvd gvo (by omega)) (by first | omega | (simp; done) | (simp; omega))) ?_
    refine W_q rfl rfl rfl rfl (by first | exact q_load tb rfl rfl bxo rfl | exact q_loadE tb rfl rfl (by first | exact gvo | exact gvd gvo (by omega)) (by omega) (by simp) rfl) ?_
    refine W_q rfl rfl rfl rfl (q_move rfl) ?_
    refine W_q rfl rfl rfl rfl (q_move rfl) ?_
    refine W_callS tb rfl rfl rfl rfl (ct_shotlinelaw03_table v ts (by omega)) (ps_cons (by first | exact gvo | exact gvd gvo (by omega)) no_ps) rfl fun v20 => ?_
    refine W_callS tb rfl rfl rfl rfl (ct_shotlinelaw03_loads u ls (by omega)) (ps_cons (by first | exact gvo | exact gvd gvo (by omega)) no_ps) rfl fun v23 => ?_
    refine W_callSN tb rfl rfl rfl rfl (ct_tissue_Rested _ _ p s ts ls (by omega) (by omega)) (ps_cons (by first | exact gvo | exact gvd gvo (by omega)) (ps_cons (by first | exact gvo | exact gvd gvo (by omega)) no_ps)) rfl fun v26 => ?_
    refine W_q rfl rfl rfl rfl (q_move rfl) ?_
    refine W_q rfl rfl rfl rfl (q_ext0 rfl) ?_
    refine W_q rfl rfl rfl rfl (q_ext1 rfl) ?_
    refine W_q rfl rfl rfl rfl (q_assign rfl) ?_
    refine W_q rfl rfl rfl rfl (q_assign rfl) ?_
    refine W_nil ?_
    refine L_then ?_
    refine C_seq ?_
    refine C_region ?_
    refine L_q rfl rfl rfl (by first | exact q_field tb rfl rfl rfl | exact q_fieldE tb rfl rfl rfl (by first | exact gvo | exact gvd gvo (by omega)) (by first | omega | (simp; done) | (simp; omega))) ?_
    refine L_q rfl rfl rfl (by first | exact q_load tb rfl rfl bxo rfl | exact q_loadE tb rfl rfl (by first | exact gvo | exact gvd gvo (by omega)) (by omega) (by simp) rfl) ?_
    refine L_q rfl rfl rfl (by first | exact q_field tb rfl rfl rfl | exact q_fieldE tb rfl rfl rfl (by first | exact gvo | exact gvd gvo (by omega)) (by first | omega | (simp; done) | (simp; omega))) ?_
    refine L_q rfl rfl rfl (by first | exact q_load tb rfl rfl bxo rfl | exact q_loadE tb rfl rfl (by first | exact gvo | exact gvd gvo (by omega)) (by omega) (by simp) rfl) ?_
    refine L_call tb rfl rfl (ct_shotlineref03_CheckLoads v u ts ls (by omega)) (ps_cons (by first | exact gvo | exact gvd gvo (by omega)) (ps_cons (by first | exact gvo | exact gvd gvo (by omega)) no_ps)) rfl ?_
    refine L_q rfl rfl rfl (q_assign rfl) ?_
    refine L_then ?_
    refine C_cut (ι := Unit) (fun _p => ([(1, .int .i64 p), (2, .int .i64 s), (3, .pointer (some ⟨g3, 0, none⟩)), (7, v26), (8, .int .i64 (restE ts ls p s).2), (9, .int .i64 (restE ts ls p s).2)], [sl v26 62 4 ((restE ts ls p s).1.map cLd), box g3 29 (cDv v u x fi), rd v 4 (ts.map cCp), rd u 4 (ls.map cLd)])) (fun _p => True) ?_ ?_
    · -- ahead
      refine C_seq ?_
      refine C_region ?_
      refine L_q rfl rfl rfl (q_move rfl) ?_
      refine L_q rfl rfl rfl (q_eql rfl rfl) ?_
      refine L_q rfl rfl rfl (q_move rfl) ?_
      refine L_dec (d := 36) rfl (fun h3 => ?_) (fun h3 => ?_)
      · -- t36 True
        refine L_qg rfl rfl rfl rfl rfl rfl rfl (q_move rfl) ?_
        refine L_callg tb rfl rfl rfl rfl rfl rfl (ct_shotlineref03_IsSurface _) no_ps rfl ?_
        refine L_qg rfl rfl rfl rfl rfl rfl rfl (q_not rfl (by first | exact (rfl : (!true) = false) | exact (rfl : (!false) = true) | exact decide_not.symm | rfl)) ?_
        refine L_qg rfl rfl rfl rfl rfl rfl rfl (q_move rfl) ?_
        refine L_dec (d := 40) rfl (fun h4 => ?_) (fun h4 => ?_)
        · -- t40 True
          refine L_skip rfl rfl rfl rfl rfl rfl rfl ?_
          refine L_skip rfl rfl rfl rfl rfl rfl rfl ?_
          refine L_skip rfl rfl rfl rfl rfl rfl rfl ?_
          refine L_qg rfl rfl rfl rfl rfl rfl rfl (by first | exact q_pickT rfl rfl | exact q_pickF rfl rfl) ?_
          refine L_q rfl rfl rfl (by first | exact q_pickT rfl rfl | exact q_pickF rfl rfl) ?_
          refine L_then ?_
          refine C_true rfl ?_
          refine C_region ?_
          refine L_q rfl rfl rfl (q_assign rfl) ?_
          refine L_end ?_
          exact fun ac_ wo_ hs_ => ⟨(), trivial, hs_.weak ⟨rfl, rfl, rfl, rfl, rfl, en (by rw [restE_snd]; (repeat' split) <;> omega), trivial⟩ (fun h => h.sub (by repeat (first | exact List.Sublist.refl _ | apply List.Sublist.cons_cons | apply List.Sublist.cons)))⟩
        · -- t40 False
          refine L_qg rfl rfl rfl rfl rfl rfl rfl (q_move rfl) ?_
          refine L_callg tb rfl rfl rfl rfl rfl rfl (ct_shotlinebase_Within _ _ _) no_ps rfl ?_
          refine L_qg rfl rfl rfl rfl rfl rfl rfl (q_not rfl (by first | exact (rfl : (!true) = false) | exact (rfl : (!false) = true) | exact decide_not.symm | rfl)) ?_
          refine L_qg rfl rfl rfl rfl rfl rfl rfl (by first | exact q_pickT rfl rfl | exact q_pickF rfl rfl) ?_
          refine L_q rfl rfl rfl (by first | exact q_pickT rfl rfl | exact q_pickF rfl rfl) ?_
          refine L_then ?_
          refine C_dec rfl (fun h6 => ?_) (fun h6 => ?_)
          · -- t45 True
            refine C_region ?_
            refine L_q rfl rfl rfl (q_assign rfl) ?_
            refine L_end ?_
            exact fun ac_ wo_ hs_ => ⟨(), trivial, hs_.weak ⟨rfl, rfl, rfl, rfl, rfl, en (by rw [restE_snd]; (repeat' split) <;> omega), trivial⟩ (fun h => h.sub (by repeat (first | exact List.Sublist.refl _ | apply List.Sublist.cons_cons | apply List.Sublist.cons)))⟩
          · -- t45 False
            refine C_skip ?_
            exact fun ac_ wo_ hs_ => ⟨(), trivial, hs_.weak ⟨rfl, rfl, rfl, rfl, rfl, en (by rw [restE_snd]; (repeat' split) <;> omega), trivial⟩ (fun h => h.sub (by repeat (first | exact List.Sublist.refl _ | apply List.Sublist.cons_cons | apply List.Sublist.cons)))⟩
      · -- t36 False
        refine L_skip rfl rfl rfl rfl rfl rfl rfl ?_
        refine L_skip rfl rfl rfl rfl rfl rfl rfl ?_
        refine L_skip rfl rfl rfl rfl rfl rfl rfl ?_
        refine L_skip rfl rfl rfl rfl rfl rfl rfl ?_
        refine L_skipu rfl rfl rfl rfl rfl rfl ?_
        refine L_skipu rfl rfl rfl rfl rfl rfl ?_
        refine L_skipu rfl rfl rfl rfl rfl rfl ?_
        refine L_skip rfl rfl rfl rfl rfl rfl rfl ?_
        refine L_q rfl rfl rfl (by first | exact q_pickT rfl rfl | exact q_pickF rfl rfl) ?_
        refine L_then ?_
        refine C_false rfl ?_
        refine C_skip ?_
        exact fun ac_ wo_ hs_ => ⟨(), trivial, hs_.weak ⟨rfl, rfl, rfl, rfl, rfl, en (by rw [restE_snd]; (repeat' split) <;> omega), trivial⟩ (fun h => h.sub (by repeat (first | exact List.Sublist.refl _ | apply List.Sublist.cons_cons | apply List.Sublist.cons)))⟩
    · -- behind
      intro _ _
      refine C_seq ?_
      refine C_seq ?_
      refine C_region ?_
      refine L_q rfl rfl rfl (q_move rfl) ?_
      refine L_q rfl rfl rfl (q_neq rfl rfl) ?_
      refine L_then ?_
      refine C_dec rfl (fun hc => ?_) (fun hc => ?_)
      · -- t47 True
        refine C_seq ?_
        refine C_region ?_
        refine L_q rfl rfl rfl (q_move rfl) ?_
        refine L_q rfl rfl rfl (q_move rfl) ?_
        refine L_q rfl rfl rfl (q_true (q_eql rfl rfl) (decide_eq_true rfl)) ?_
        refine L_q rfl rfl rfl (q_move rfl) ?_
        refine L_qg rfl rfl rfl rfl rfl rfl rfl (q_move rfl) ?_
        refine L_qg rfl rfl rfl rfl rfl rfl rfl (q_len tb rfl rfl (by first | exact gvo | exact gvd gvo (by omega))) ?_
        refine L_qg rfl rfl rfl rfl rfl rfl rfl (q_true (q_eql rfl rfl) (decide_eq_true (by rw [restE_nil hc]; rfl))) ?_
        refine L_q rfl rfl rfl (by first | exact q_pickT rfl rfl | exact q_pickF rfl rfl) ?_
        refine L_q rfl rfl rfl (q_assign rfl) ?_
        refine L_then ?_
        refine C_ret ?_
        exact ret_of (res1 rfl rfl) sub_nil (by intro r hr; cases hr) ⟨rfl, rfl⟩
      · -- t47 False
        have hd := restE_ok (Decidable.not_not.1 hc)
        have hr := hd.r
        rw [hd.e]
        refine C_skip_then ?_
        refine C_seq ?_
        refine C_seq ?_
        refine C_region ?_
        refine L_q rfl rfl rfl (q_move rfl) ?_
        refine L_q rfl rfl rfl (q_false (q_neq rfl rfl) (decide_eq_false fun h => h rfl)) ?_
        refine L_q rfl rfl rfl (q_move rfl) ?_
        refine L_qg rfl rfl rfl rfl rfl rfl rfl (q_move rfl) ?_
        refine L_qg rfl rfl rfl rfl rfl rfl rfl (by first | exact q_field tb rfl rfl rfl | exact q_fieldE tb rfl rfl rfl (by first | exact gvo | exact gvd gvo (by omega)) (by first | omega | (simp; done) | (simp; omega))) ?_
        refine L_qg rfl rfl rfl rfl rfl rfl rfl (by first | exact q_load tb rfl rfl bxo rfl | exact q_loadE tb rfl rfl (by first | exact gvo | exact gvd gvo (by omega)) (by omega) (by simp) rfl) ?_
        refine L_qg rfl rfl rfl rfl rfl rfl rfl (by first | exact q_field tb rfl rfl rfl | exact q_fieldE tb rfl rfl rfl (by first | exact gvo | exact gvd gvo (by omega)) (by first | omega | (simp; done) | (simp; omega))) ?_
        refine L_qg rfl rfl rfl rfl rfl rfl rfl (by first | exact q_load tb rfl rfl bxo rfl | exact q_loadE tb rfl rfl (by first | exact gvo | exact gvd gvo (by omega)) (by omega) (by simp) rfl) ?_
        refine L_qg rfl rfl rfl rfl rfl rfl rfl (q_move rfl) ?_
        refine L_qg rfl rfl rfl rfl rfl rfl rfl (q_move rfl) ?_
        refine L_log rfl rfl rfl rfl rfl rfl rfl (lo_call tb rfl rfl (ct_shotlineref03_Rested v u p s ts ls hd.k hd.r) (ps_cons (by first | exact gvo | exact gvd gvo (by omega)) (ps_cons (by first | exact gvo | exact gvd gvo (by omega)) no_ps)) isSl_sinks) ?_
        intro v66 rs_ hr_; unfold isSl at hr_; subst hr_
        refine L_callg tb rfl rfl rfl rfl rfl rfl (ct_shotlineref03_Same _ _ (restM ts ls p s) (by have := restM_len (p := p) (s := s) hd.k.len; omega)) (ps_cons (by first | exact gvo | exact gvd gvo (by omega)) (ps_cons (by first | exact gvo | exact gvd gvo (by omega)) no_ps)) rfl ?_
        refine L_qg rfl rfl rfl rfl rfl rfl rfl (q_not rfl (by first | exact (rfl : (!true) = false) | exact (rfl : (!false) = true) | exact decide_not.symm | rfl)) ?_
        refine L_q rfl rfl rfl (by first | exact q_pickT rfl rfl | exact q_pickF rfl rfl) ?_
        refine L_then ?_
        refine C_false rfl ?_
        refine C_skip_then ?_
        refine C_seq ?_
        refine C_seq ?_
        refine C_region ?_
        refine L_q rfl rfl rfl (q_move rfl) ?_
        refine L_q rfl rfl rfl (q_gtr rfl rfl) ?_
        refine L_then ?_
        refine C_dec rfl (fun h10 => ?_) (fun h10 => ?_)
        · -- t71 True
          refine C_seq ?_
          refine C_region ?_
          refine L_q rfl rfl rfl (q_assign rfl) ?_
          refine L_then ?_
          refine C_ret ?_
          exact ret_of (res1 rfl rfl) sub_nil (by intro r hr; cases hr) ⟨rfl, rfl⟩
        · -- t71 False
          have hl9 := rest_leg hd (by omega)
          refine C_skip_then ?_
          refine C_seq ?_
          refine C_draw (n := 17) [(0, false), (1, false), (3, false), (4, false), (6, false), (7, false), (8, false), (9, false), (10, false), (2, true), (5, true), (11, true), (12, false), (13, false), (14, false), (15, false), (16, false)] mixed (by kernel_rfl) ?_
          refine W_q rfl rfl rfl rfl (by first | exact q_field tb rfl rfl rfl | exact q_fieldE tb rfl rfl rfl (by first | exact gvo | exact gvd gvo (by omega)) (by first | omega | (simp; done) | (simp; omega))) ?_
          refine W_q rfl rfl rfl rfl (by first | exact q_load tb rfl rfl bxo rfl | exact q_loadE tb rfl rfl (by first | exact gvo | exact gvd gvo (by omega)) (by omega) (by simp) rfl) ?_
          refine W_q rfl rfl rfl rfl (by first | exact q_field tb rfl rfl rfl | exact q_fieldE tb rfl rfl rfl (by first | exact gvo | exact gvd gvo (by omega)) (by first | omega | (simp; done) | (simp; omega))) ?_
          refine W_q rfl rfl rfl rfl (by first | exact q_load tb rfl rfl bxo rfl | exact q_loadE tb rfl rfl (by first | exact gvo | exact gvd gvo (by omega)) (by omega) (by simp) rfl) ?_
          refine W_q rfl rfl rfl rfl (q_move rfl) ?_
          refine W_q rfl rfl rfl rfl (q_move rfl) ?_
          refine W_q rfl rfl rfl rfl (q_move rfl) ?_
          refine W_q rfl rfl rfl rfl (by first | exact q_build tb rfl rfl rfl rfl | exact q_buildArr tb rfl rfl rfl rfl rfl) ?_
          refine W_q rfl rfl rfl rfl (by first | exact q_build tb rfl rfl rfl rfl | exact q_buildArr tb rfl rfl rfl rfl rfl) ?_
          refine W_callS tb rfl rfl rfl rfl (ct_shotlinelaw03_table v ts (by omega)) (ps_cons (by first | exact gvo | exact gvd gvo (by omega)) no_ps) rfl fun v75 => ?_
          refine W_callS tb rfl rfl rfl rfl (ct_shotlinelaw03_loads u ls (by omega)) (ps_cons (by first | exact gvo | exact gvd gvo (by omega)) no_ps) rfl fun v78 => ?_
          refine W_callSN tb rfl rfl rfl rfl (ct_tissue_Loaded _ _ ⟨p, p, s, ⟨210, 0⟩⟩ 3 ts ls (by omega) (by omega)) (ps_cons (by first | exact gvo | exact gvd gvo (by omega)) (ps_cons (by first | exact gvo | exact gvd gvo (by omega)) no_ps)) rfl fun v84 => ?_
          refine W_q rfl rfl rfl rfl (q_move rfl) ?_
          rw [hl9]
          refine W_q rfl rfl rfl rfl (q_ext0 rfl) ?_
          refine W_q rfl rfl rfl rfl (q_ext1 rfl) ?_
          refine W_q rfl rfl rfl rfl (q_assign rfl) ?_
          refine W_q rfl rfl rfl rfl (q_assign rfl) ?_
          refine W_nil ?_
          refine L_then ?_
          refine C_seq ?_
          refine C_region ?_
          refine L_q rfl rfl rfl (q_move rfl) ?_
          refine L_q rfl rfl rfl (q_true (q_eql rfl rfl) (decide_eq_true rfl)) ?_
          refine L_q rfl rfl rfl (q_move rfl) ?_
          refine L_qg rfl rfl rfl rfl rfl rfl rfl (q_move rfl) ?_
          refine L_qg rfl rfl rfl rfl rfl rfl rfl (q_move rfl) ?_
          refine L_callg tb rfl rfl rfl rfl rfl rfl (ct_shotlinelaw03_meet _ _ (restM ts ls p s) (loadedM ts ls ⟨p, p, s, ⟨210, 0⟩⟩ 3) (by have := restM_len (p := p) (s := s) hd.k.len; omega)) (ps_cons (by first | exact gvo | exact gvd gvo (by omega)) (ps_cons (by first | exact gvo | exact gvd gvo (by omega)) no_ps)) rfl ?_
          refine L_q rfl rfl rfl (by first | exact q_pickT rfl rfl | exact q_pickF rfl rfl) ?_
          refine L_q rfl rfl rfl (q_assign rfl) ?_
          refine L_then ?_
          refine C_ret ?_
          exact ret_of (res1 rfl rfl) sub_nil (by intro r hr; cases hr) ⟨(congrArg Value.bool (decide_eq_true ⟨by have h1 := restM_len (p := p) (s := s) hd.k.len; have h2 := loadedM_len (x := ⟨p, p, s, ⟨210, 0⟩⟩) (f := 3) hd.k.len; omega, rest_meet hd.k (by omega) (by omega) (by decide)⟩)), rfl⟩
end Go.Proofs.Ytfhfadfnbnliiaa
