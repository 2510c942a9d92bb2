/-
  Walks: each function named returns what its model says. Conditions: those in front of each theorem.
-/
import Derived.Test.YtfhfadfnbnliiaaY
namespace Go.Proofs.Ytfhfadfnbnliiaa
open Go.RowKit

set_option maxRecDepth 100000 in
theorem ct_shotlinelaw03_TissueKeeps (v u : Value) (x : Lg) (fa : Int) (ts : List Cp) (ls : List Ld) (fi : Int) : Ct Try.prog 15 [.agg (cDv v u x fa).toArray, .int .i64 fi] [(v, 4, ts.map cCp), (u, 4, ls.map cLd)] (isV (.bool true)) := by
  refine Ct.of (N := 82) Try.func15 rfl rfl rfl fun w => ?_
  refine C_weak (E' := [(0, .agg (cDv v u x fa).toArray), (1, .int .i64 fi)]) (rs' := [rd v 4 (ts.map cCp), rd u 4 (ls.map cLd)]) ⟨rfl, rfl, trivial⟩ (fun _ h => h) ?_
  have hl1 := len_map cCp ts; have hl2 := len_map cLd ls
  refine C_seq ?_
  refine C_region ?_
  refine L_box rfl rfl rfl fun g2 => ?_
  refine L_q rfl rfl rfl (q_assign rfl) ?_
  refine L_then ?_
  refine C_seq ?_
  refine C_seq ?_
  refine C_region ?_
  refine L_call tb rfl rfl (ct_shotlinelaw03_awake) no_ps rfl ?_
  refine L_q rfl rfl rfl (q_not rfl (by first | exact (rfl : (!true) = false) | exact (rfl : (!false) = true) | exact decide_not.symm | rfl)) ?_
  refine L_then ?_
  refine C_false rfl ?_
  refine C_skip_then ?_
  refine C_seq ?_
  refine C_seq ?_
  refine C_region ?_
  refine L_q rfl rfl rfl (by first | exact q_loadA tb rfl rfl bxo rfl rfl | exact q_loadEA tb rfl rfl (by first | exact gvo | exact gvd gvo (by omega)) (by omega) (by simp) rfl rfl) ?_
  refine L_call tb rfl rfl (ct_shotlinelaw03_small v u x fa ts ls) (ps_cons (by first | exact gvo | exact gvd gvo (by omega)) (ps_cons (by first | exact gvo | exact gvd gvo (by omega)) no_ps)) rfl ?_
  refine L_q rfl rfl rfl (q_not rfl (by first | exact (rfl : (!true) = false) | exact (rfl : (!false) = true) | exact decide_not.symm | rfl)) ?_
  refine L_then ?_
  refine C_dec rfl (fun h2 => ?_) (fun h2 => ?_)
  · -- t14 True
    refine C_seq ?_
    refine C_region ?_
    refine L_q rfl rfl rfl (q_assign rfl) ?_
    refine L_then ?_
    refine C_ret ?_
    exact ret_of (res1 rfl rfl) sub_nil (by intro r hr; cases hr) ⟨(by first | rfl | exact congrArg Value.bool (decide_eq_decide.2 (by omega)) | exact congrArg Value.bool (decide_eq_true (by omega)).symm | exact congrArg Value.bool (decide_eq_false (by omega)).symm | exact congrArg Value.bool (decide_eq_true (by omega))), rfl⟩
  · -- t14 False
    refine C_skip_then ?_
    refine C_seq ?_
    refine C_region ?_
    refine L_q rfl rfl rfl (by first | exact q_loadA tb rfl rfl bxo rfl rfl | exact q_loadEA tb rfl rfl (by first | exact gvo | exact gvd gvo (by omega)) (by omega) (by simp) rfl rfl) ?_
    refine L_lo rfl rfl rfl (lo_call tb rfl rfl (ct_shotlinelaw03_task v u x fa ts ls (by omega) (by omega)) (ps_cons (by first | exact gvo | exact gvd gvo (by omega)) (ps_cons (by first | exact gvo | exact gvd gvo (by omega)) no_ps)) (by rintro y rs ⟨a, b, _, rfl⟩ r hr; simp only [List.mem_cons, List.not_mem_nil, or_false] at hr; rcases hr with rfl | rfl <;> exact sl_sinks _ _ _ _)) ?_
    rintro _ _ ⟨a17, b17, rfl, rfl⟩
    refine L_q rfl rfl rfl (q_move rfl) ?_
    refine L_call tb rfl rfl (ct_tissue_Kept a17 b17 x fa fi ts ls (by omega) (by omega)) (ps_cons (by first | exact gvo | exact gvd gvo (by omega)) (ps_cons (by first | exact gvo | exact gvd gvo (by omega)) no_ps)) rfl ?_
    refine L_q rfl rfl rfl (q_move rfl) ?_
    refine L_q rfl rfl rfl (q_ext0 rfl) ?_
    refine L_q rfl rfl rfl (q_ext1 rfl) ?_
    refine L_q rfl rfl rfl (q_assign rfl) ?_
    refine L_q rfl rfl rfl (q_assign rfl) ?_
    refine L_then ?_
    refine C_seq ?_
    refine C_region ?_
    refine L_q rfl rfl rfl (by first | exact q_loadA tb rfl rfl bxo rfl rfl | exact q_loadEA tb rfl rfl (by first | exact gvo | exact gvd gvo (by omega)) (by omega) (by simp) rfl rfl) ?_
    refine L_lo rfl rfl rfl (lo_call tb rfl rfl (ct_shotlinelaw03_task v u x fa ts ls (by omega) (by omega)) (ps_cons (by first | exact gvo | exact gvd gvo (by omega)) (ps_cons (by first | exact gvo | exact gvd gvo (by omega)) no_ps)) (by rintro y rs ⟨a, b, _, rfl⟩ r hr; simp only [List.mem_cons, List.not_mem_nil, or_false] at hr; rcases hr with rfl | rfl <;> exact sl_sinks _ _ _ _)) ?_
    rintro _ _ ⟨a24, b24, rfl, rfl⟩
    refine L_q rfl rfl rfl (q_move rfl) ?_
    refine L_callSN tb rfl rfl (ct_tissue_Peaks a24 b24 x fa fi ts ls (by omega) (by omega)) (ps_cons (by first | exact gvo | exact gvd gvo (by omega)) (ps_cons (by first | exact gvo | exact gvd gvo (by omega)) no_ps)) rfl fun v26 => ?_
    refine L_q rfl rfl rfl (q_move rfl) ?_
    refine L_q rfl rfl rfl (q_ext0 rfl) ?_
    refine L_q rfl rfl rfl (q_ext1 rfl) ?_
    refine L_q rfl rfl rfl (q_assign rfl) ?_
    refine L_q rfl rfl rfl (q_assign rfl) ?_
    refine L_then ?_
    refine C_seq ?_
    refine C_region ?_
    refine L_q rfl rfl rfl (by first | exact q_loadA tb rfl rfl bxo rfl rfl | exact q_loadEA tb rfl rfl (by first | exact gvo | exact gvd gvo (by omega)) (by omega) (by simp) rfl rfl) ?_
    refine L_call tb rfl rfl (ct_shotlineref03_CheckTask v u x fa ts ls (by omega)) (ps_cons (by first | exact gvo | exact gvd gvo (by omega)) (ps_cons (by first | exact gvo | exact gvd gvo (by omega)) no_ps)) rfl ?_
    refine L_q rfl rfl rfl (q_assign rfl) ?_
    refine L_then ?_
    refine C_seq ?_
    refine C_seq ?_
    refine C_region ?_
    refine L_q rfl rfl rfl (by first | exact q_loadA tb rfl rfl bxo rfl rfl | exact q_loadEA tb rfl rfl (by first | exact gvo | exact gvd gvo (by omega)) (by omega) (by simp) rfl rfl) ?_
    refine L_lo rfl rfl rfl (lo_call tb rfl rfl (ct_shotlinelaw03_task v u x fa ts ls (by omega) (by omega)) (ps_cons (by first | exact gvo | exact gvd gvo (by omega)) (ps_cons (by first | exact gvo | exact gvd gvo (by omega)) no_ps)) (by rintro y rs ⟨a, b, _, rfl⟩ r hr; simp only [List.mem_cons, List.not_mem_nil, or_false] at hr; rcases hr with rfl | rfl <;> exact sl_sinks _ _ _ _)) ?_
    rintro _ _ ⟨a32, b32, rfl, rfl⟩
    refine L_call tb rfl rfl (ct_tissue_CheckTask a32 b32 x fa ts ls (by omega) (by omega)) (ps_cons (by first | exact gvo | exact gvd gvo (by omega)) (ps_cons (by first | exact gvo | exact gvd gvo (by omega)) no_ps)) rfl ?_
    refine L_q rfl rfl rfl (q_move rfl) ?_
    refine L_q rfl rfl rfl (q_false (q_neq rfl rfl) (by simp)) ?_
    refine L_then ?_
    refine C_false rfl ?_
    refine C_skip_then ?_
    refine C_cut (ι := Unit) (fun _p => ([(2, .pointer (some ⟨g2, 0, none⟩)), (1, .int .i64 fi), (5, .int .i64 (keptTE ts ls x fa fi).1), (6, .int .i64 (keptTE ts ls x fa fi).2), (7, v26), (8, .int .i64 (peaksE ts ls x fa fi).2), (9, .int .i64 (ckFine ts ls x fa fi))], [sl v26 3 1 ((peaksE ts ls x fa fi).1.map cI), box g2 101 (cDv v u x fa), rd v 4 (ts.map cCp), rd u 4 (ls.map cLd)])) (fun _p => True) ?_ ?_
    · -- ahead
      refine C_seq ?_
      refine C_region ?_
      refine L_q rfl rfl rfl (q_move rfl) ?_
      refine L_q rfl rfl rfl (q_eql rfl rfl) ?_
      refine L_q rfl rfl rfl (q_move rfl) ?_
      refine L_dec (d := 38) rfl (fun h4 => ?_) (fun h4 => ?_)
      · -- t38 True
        refine L_qg rfl rfl rfl rfl rfl rfl rfl (q_move rfl) ?_
        refine L_callg tb rfl rfl rfl rfl rfl rfl (ct_shotlineref03_IsFine _) no_ps rfl ?_
        refine L_qg rfl rfl rfl rfl rfl rfl rfl (q_not rfl (by first | exact (rfl : (!true) = false) | exact (rfl : (!false) = true) | exact decide_not.symm | rfl)) ?_
        refine L_q rfl rfl rfl (by first | exact q_pickT rfl rfl | exact q_pickF rfl rfl) ?_
        refine L_then ?_
        refine C_dec rfl (fun h5 => ?_) (fun h5 => ?_)
        · -- t42 True
          refine C_region ?_
          refine L_q rfl rfl rfl (q_assign rfl) ?_
          refine L_end ?_
          exact fun ac_ wo_ hs_ => ⟨(), trivial, hs_.weak ⟨rfl, rfl, rfl, rfl, rfl, rfl, en (by unfold ckFine; (repeat' split) <;> omega), trivial⟩ (fun h => h.pk (by repeat (first | with_reducible exact pk_nil | refine pk_box rfl ?_ | refine pk_rd rfl ?_ | refine pk_sl rfl ?_ | with_reducible refine pk_app ?_ | with_reducible refine pk_app0 ?_ | with_reducible exact pk_tl | refine pk_var ?_)))⟩
        · -- t42 False
          refine C_skip ?_
          exact fun ac_ wo_ hs_ => ⟨(), trivial, hs_.weak ⟨rfl, rfl, rfl, rfl, rfl, rfl, en (by unfold ckFine; (repeat' split) <;> omega), trivial⟩ (fun h => h.pk (by repeat (first | with_reducible exact pk_nil | refine pk_box rfl ?_ | refine pk_rd rfl ?_ | refine pk_sl rfl ?_ | with_reducible refine pk_app ?_ | with_reducible refine pk_app0 ?_ | with_reducible exact pk_tl | refine pk_var ?_)))⟩
      · -- t38 False
        refine L_skip rfl rfl rfl rfl rfl rfl rfl ?_
        refine L_skip rfl rfl rfl rfl rfl rfl rfl ?_
        refine L_skip rfl rfl rfl rfl rfl rfl rfl ?_
        refine L_q rfl rfl rfl (by first | exact q_pickT rfl rfl | exact q_pickF rfl rfl) ?_
        refine L_then ?_
        refine C_false rfl ?_
        refine C_skip ?_
        exact fun ac_ wo_ hs_ => ⟨(), trivial, hs_.weak ⟨rfl, rfl, rfl, rfl, rfl, rfl, en (by unfold ckFine; (repeat' split) <;> omega), trivial⟩ (fun h => h.pk (by repeat (first | with_reducible exact pk_nil | refine pk_box rfl ?_ | refine pk_rd rfl ?_ | refine pk_sl rfl ?_ | with_reducible refine pk_app ?_ | with_reducible refine pk_app0 ?_ | with_reducible exact pk_tl | refine pk_var ?_)))⟩
    · -- behind
      intro _ _
      refine C_seq ?_
      refine C_seq ?_
      refine C_region ?_
      refine L_q rfl rfl rfl (q_move rfl) ?_
      refine L_q rfl rfl rfl (q_neq rfl rfl) ?_
      refine L_then ?_
      refine C_dec rfl (fun hc => ?_) (fun hc => ?_)
      · -- t44 True
        rw [keptTE_1 hc, peaksE_1 hc]
        refine C_seq ?_
        refine C_region ?_
        refine L_q rfl rfl rfl (q_move rfl) ?_
        refine L_q rfl rfl rfl (q_move rfl) ?_
        refine L_q rfl rfl rfl (q_true (q_eql rfl rfl) (by simp)) ?_
        refine L_q rfl rfl rfl (q_move rfl) ?_
        refine L_qg rfl rfl rfl rfl rfl rfl rfl (q_move rfl) ?_
        refine L_qg rfl rfl rfl rfl rfl rfl rfl (q_move rfl) ?_
        refine L_qg rfl rfl rfl rfl rfl rfl rfl (q_true (q_eql rfl rfl) (by simp)) ?_
        refine L_q rfl rfl rfl (by first | exact q_pickT rfl rfl | exact q_pickF rfl rfl) ?_
        refine L_q rfl rfl rfl (q_move rfl) ?_
        refine L_qg rfl rfl rfl rfl rfl rfl rfl (q_move rfl) ?_
        refine L_qg rfl rfl rfl rfl rfl rfl rfl (q_true (q_eql rfl rfl) (by simp)) ?_
        refine L_q rfl rfl rfl (by first | exact q_pickT rfl rfl | exact q_pickF rfl rfl) ?_
        refine L_q rfl rfl rfl (q_move rfl) ?_
        refine L_qg rfl rfl rfl rfl rfl rfl rfl (q_move rfl) ?_
        refine L_qg rfl rfl rfl rfl rfl rfl rfl (q_len tb rfl rfl (by first | exact gvo | exact gvd gvo (by omega))) ?_
        refine L_qg rfl rfl rfl rfl rfl rfl rfl (q_true (q_eql rfl rfl) (by simp)) ?_
        refine L_q rfl rfl rfl (by first | exact q_pickT rfl rfl | exact q_pickF rfl rfl) ?_
        refine L_q rfl rfl rfl (q_assign rfl) ?_
        refine L_then ?_
        refine C_ret ?_
        exact ret_of (res1 rfl rfl) sub_nil (by intro r hr; cases hr) ⟨(by first | rfl | exact congrArg Value.bool (decide_eq_decide.2 (by omega)) | exact congrArg Value.bool (decide_eq_true (by omega)).symm | exact congrArg Value.bool (decide_eq_false (by omega)).symm | exact congrArg Value.bool (decide_eq_true (by omega))), rfl⟩
      · -- t44 False
        have hz := Decidable.not_not.1 hc
        obtain ⟨H, hf0, hf6⟩ := ckFine_ok hz
        obtain ⟨f, rfl⟩ := Int.eq_ofNat_of_zero_le hf0
        have hf : f ≤ 6 := by omega
        rw [keptTE_2 hz, peaksE_2 hz]
        have hpl : (peaksT ts ls x f).length ≤ 100000 := by unfold peaksT; rw [peaksK_len H.k.len]; have := H.k.b; omega
        refine C_skip_then ?_
        refine C_seq ?_
        refine C_region ?_
        refine L_q rfl rfl rfl (q_move rfl) ?_
        refine L_q rfl rfl rfl (q_true (q_eql rfl rfl) (by simp)) ?_
        refine L_q rfl rfl rfl (q_move rfl) ?_
        refine L_qg rfl rfl rfl rfl rfl rfl rfl (q_move rfl) ?_
        refine L_qg rfl rfl rfl rfl rfl rfl rfl (by first | exact q_loadA tb rfl rfl bxo rfl rfl | exact q_loadEA tb rfl rfl (by first | exact gvo | exact gvd gvo (by omega)) (by omega) (by simp) rfl rfl) ?_
        refine L_qg rfl rfl rfl rfl rfl rfl rfl (q_move rfl) ?_
        refine L_callg tb rfl rfl rfl rfl rfl rfl (ct_shotlineref03_Kept v u x fa f ts ls H hf) (ps_cons (by first | exact gvo | exact gvd gvo (by omega)) (ps_cons (by first | exact gvo | exact gvd gvo (by omega)) no_ps)) rfl ?_
        refine L_qg rfl rfl rfl rfl rfl rfl rfl (q_true (q_eql rfl rfl) (by simp)) ?_
        refine L_q rfl rfl rfl (by first | exact q_pickT rfl rfl | exact q_pickF rfl rfl) ?_
        refine L_q rfl rfl rfl (q_move rfl) ?_
        refine L_qg rfl rfl rfl rfl rfl rfl rfl (q_move rfl) ?_
        refine L_qg rfl rfl rfl rfl rfl rfl rfl (q_true (q_eql rfl rfl) (by simp)) ?_
        refine L_q rfl rfl rfl (by first | exact q_pickT rfl rfl | exact q_pickF rfl rfl) ?_
        refine L_q rfl rfl rfl (q_move rfl) ?_
        refine L_qg rfl rfl rfl rfl rfl rfl rfl (q_move rfl) ?_
        refine L_qg rfl rfl rfl rfl rfl rfl rfl (by first | exact q_loadA tb rfl rfl bxo rfl rfl | exact q_loadEA tb rfl rfl (by first | exact gvo | exact gvd gvo (by omega)) (by omega) (by simp) rfl rfl) ?_
        refine L_qg rfl rfl rfl rfl rfl rfl rfl (q_move rfl) ?_
        refine L_log rfl rfl rfl rfl rfl rfl rfl (lo_call tb rfl rfl (ct_shotlineref03_Peaks v u x fa f ts ls H hf) (ps_cons (by first | exact gvo | exact gvd gvo (by omega)) (ps_cons (by first | exact gvo | exact gvd gvo (by omega)) no_ps)) isSl_sinks) ?_
        intro v79 rs_ hr_; unfold isSl at hr_; subst hr_
        refine L_callg tb rfl rfl rfl rfl rfl rfl (ct_shotlinebase_Ints v26 v79 (peaksT ts ls x f) hpl) (ps_cons (by first | exact gvo | exact gvd gvo (by omega)) (ps_cons (by first | exact gvo | exact gvd gvo (by omega)) no_ps)) rfl ?_
        refine L_q rfl rfl rfl (by first | exact q_pickT rfl rfl | exact q_pickF rfl rfl) ?_
        refine L_q rfl rfl rfl (q_assign rfl) ?_
        refine L_then ?_
        refine C_ret ?_
        exact ret_of (res1 rfl rfl) sub_nil (by intro r hr; cases hr) ⟨(by first | rfl | exact congrArg Value.bool (decide_eq_decide.2 (by omega)) | exact congrArg Value.bool (decide_eq_true (by omega)).symm | exact congrArg Value.bool (decide_eq_false (by omega)).symm | exact congrArg Value.bool (decide_eq_true (by omega))), rfl⟩
end Go.Proofs.Ytfhfadfnbnliiaa
