/-
  Walks: each function named returns what its model says. Conditions: those in front of each theorem.
-/
import Derived.Test.YtfhfadfnbnliiaaSat
import Derived.Test.YtfhfadfnbnliiaaS
namespace Go.Proofs.Ytfhfadfnbnliiaa
open Go.RowKit

set_option maxRecDepth 100000 in
set_option maxHeartbeats 400000 in
theorem ct_shotlinelaw03_TissueSaturates (v u : Value) (g : Gs) (ts : List Cp) (ls : List Ld) (hi : ∀ c ∈ ls, -9223372036854775808 ≤ c.n.lo ∧ c.n.lo ≤ 9223372036854775807) : Ct Try.prog 13 [v, u, .agg #[.int .i64 g.o, .int .i64 g.h]] [(v, 4, ts.map cCp), (u, 4, ls.map cLd)] (isV (.bool true)) := by
  refine Ct.of (N := 87) Try.func13 rfl rfl rfl fun w => ?_
  refine C_weak (E' := [(0, v), (1, u), (2, .agg #[.int .i64 g.o, .int .i64 g.h])]) (rs' := [rd v 4 (ts.map cCp), rd u 4 (ls.map cLd)]) ⟨rfl, rfl, rfl, trivial⟩ (fun _ h => h) ?_
  have hl1 := len_map cCp ts
  have hl2 := len_map cLd ls
  refine C_seq ?_
  refine C_region ?_
  refine L_box rfl rfl rfl fun g5 => ?_
  refine L_q rfl rfl rfl (q_assign rfl) ?_
  refine L_then ?_
  refine C_seq ?_
  refine C_seq ?_
  refine C_region ?_
  refine L_call tb rfl rfl (ct_shotlinelaw03_awake) no_ps rfl ?_
  refine L_q rfl rfl rfl (q_not rfl (by first | exact (rfl : (!true) = false) | exact (rfl : (!false) = true) | exact decide_not.symm | rfl)) ?_
  refine L_then ?_
  refine C_false rfl ?_
  refine C_skip_then ?_
  refine C_seq ?_
  refine C_seq ?_
  refine C_region ?_
  refine L_q rfl rfl rfl (q_move rfl) ?_
  refine L_call tb rfl rfl (ct_shotlinelaw03_Few v ts) (ps_cons (by first | exact gvo | exact gvd gvo (by omega)) no_ps) rfl ?_
  refine L_q rfl rfl rfl (q_not rfl (by first | exact (rfl : (!true) = false) | exact (rfl : (!false) = true) | exact decide_not.symm | rfl)) ?_
  refine L_q rfl rfl rfl (q_move rfl) ?_
  refine L_dec (d := 16) rfl (fun h2 => ?_) (fun h2 => ?_)
  · -- t16 True
    refine L_skip rfl rfl rfl rfl rfl rfl rfl ?_
    refine L_skip rfl rfl rfl rfl rfl rfl rfl ?_
    refine L_skip rfl rfl rfl rfl rfl rfl rfl ?_
    refine L_q rfl rfl rfl (by first | exact q_pickT rfl rfl | exact q_pickF rfl rfl) ?_
    refine L_then ?_
    refine C_true rfl ?_
    refine C_seq ?_
    refine C_region ?_
    refine L_q rfl rfl rfl (q_assign rfl) ?_
    refine L_then ?_
    refine C_ret ?_
    exact ret_of (res1 rfl rfl) sub_nil (by intro r hr; cases hr) ⟨(by first | rfl | exact congrArg Value.bool (decide_eq_decide.2 (by omega)) | exact congrArg Value.bool (decide_eq_true (by omega)).symm | exact congrArg Value.bool (decide_eq_false (by omega)).symm | exact congrArg Value.bool (decide_eq_true (by omega))), rfl⟩
  · -- t16 False
    refine L_qg rfl rfl rfl rfl rfl rfl rfl (q_move rfl) ?_
    refine L_qg rfl rfl rfl rfl rfl rfl rfl (q_len tb rfl rfl (by first | exact gvo | exact gvd gvo (by omega))) ?_
    refine L_qg rfl rfl rfl rfl rfl rfl rfl (q_gtr rfl rfl) ?_
    refine L_q rfl rfl rfl (by first | exact q_pickT rfl rfl | exact q_pickF rfl rfl) ?_
    refine L_then ?_
    refine C_dec rfl (fun h4 => ?_) (fun h4 => ?_)
    · -- t20 True
      refine C_seq ?_
      refine C_region ?_
      refine L_q rfl rfl rfl (q_assign rfl) ?_
      refine L_then ?_
      refine C_ret ?_
      exact ret_of (res1 rfl rfl) sub_nil (by intro r hr; cases hr) ⟨(by first | rfl | exact congrArg Value.bool (decide_eq_decide.2 (by omega)) | exact congrArg Value.bool (decide_eq_true (by omega)).symm | exact congrArg Value.bool (decide_eq_false (by omega)).symm | exact congrArg Value.bool (decide_eq_true (by omega))), rfl⟩
    · -- t20 False
      refine C_skip_then ?_
      refine C_seq ?_
      refine C_seq ?_
      refine C_region ?_
      refine L_q rfl rfl rfl (q_move rfl) ?_
      refine L_callS tb rfl rfl (ct_shotlinelaw03_table v ts (by omega)) (ps_cons (by first | exact gvo | exact gvd gvo (by omega)) no_ps) rfl fun v22 => ?_
      refine L_q rfl rfl rfl (q_move rfl) ?_
      refine L_callS tb rfl rfl (ct_shotlinelaw03_loads u ls (by omega)) (ps_cons (by first | exact gvo | exact gvd gvo (by omega)) no_ps) rfl fun v24 => ?_
      refine L_call tb rfl rfl (ct_tissue_CheckLoads _ _ ts ls (by omega) (by omega)) (ps_cons (by first | exact gvo | exact gvd gvo (by omega)) (ps_cons (by first | exact gvo | exact gvd gvo (by omega)) no_ps)) rfl ?_
      refine L_q rfl rfl rfl (q_move rfl) ?_
      refine L_q rfl rfl rfl (q_move rfl) ?_
      refine L_call tb rfl rfl (ct_shotlineref03_CheckLoads v u ts ls (by omega)) (ps_cons (by first | exact gvo | exact gvd gvo (by omega)) (ps_cons (by first | exact gvo | exact gvd gvo (by omega)) no_ps)) rfl ?_
      refine L_q rfl rfl rfl (q_false (q_neq rfl rfl) (by simp)) ?_
      refine L_then ?_
      refine C_false rfl ?_
      refine C_skip_then ?_
      refine C_seq ?_
      refine C_region ?_
      refine L_q rfl rfl rfl (q_assign rfl) ?_
      refine L_then ?_
      refine C_cut (ι := Unit) (fun _p => ([(0, v), (1, u), (5, .pointer (some ⟨g5, 0, none⟩)), (7, .int .i64 (satP ls))], [box g5 25 (cGs g), rd v 4 (ts.map cCp), rd u 4 (ls.map cLd)])) (fun _p => True) ?_ ?_
      · -- ahead
        refine C_seq ?_
        refine C_region ?_
        refine L_q rfl rfl rfl (q_move rfl) ?_
        refine L_q rfl rfl rfl (q_len tb rfl rfl (by first | exact gvo | exact gvd gvo (by omega))) ?_
        refine L_q rfl rfl rfl (q_gtr rfl rfl) ?_
        refine L_then ?_
        refine C_dec rfl (fun h6 => ?_) (fun h6 => ?_)
        · -- t32 True
          obtain ⟨x, hex⟩ := get_some ls (k := 0) (by omega); have hel := map_get cLd hex; have hi9 := hi x (List.mem_of_getElem? hex)
          refine C_region ?_
          refine L_q rfl rfl rfl (q_move rfl) ?_
          refine L_q rfl rfl rfl (by first | exact q_index tb rfl rfl rfl rfl (by first | exact gvo | exact gvd gvo (by omega)) (by omega) (by first | omega | (simp; done) | (simp; omega)) | exact q_indexP tb rfl rfl rfl rfl (by omega) (by omega)) ?_
          refine L_q rfl rfl rfl (by first | exact q_field tb rfl rfl rfl | exact q_fieldE tb rfl rfl rfl (by first | exact gvo | exact gvd gvo (by omega)) (by first | omega | (simp; done) | (simp; omega))) ?_
          refine L_q rfl rfl rfl (by first | exact q_field tb rfl rfl rfl | exact q_fieldE tb rfl rfl rfl (by first | exact gvo | exact gvd gvo (by omega)) (by first | omega | (simp; done) | (simp; omega))) ?_
          refine L_q rfl rfl rfl (by first | exact q_load tb rfl rfl bxo rfl | exact q_loadE tb rfl rfl (by first | exact gvo | exact gvd gvo (by omega)) (i := 0) (o := 0) (by omega) hel rfl) ?_
          refine L_q rfl rfl rfl (q_quo rfl rfl (by omega) (by first | exact IntWalk.i64_quo _ _ (by omega) | exact IntWalk.i64_quo' _ _ (by omega) | rfl)) ?_
          refine L_q rfl rfl rfl (q_assign rfl) ?_
          refine L_end ?_
          exact fun ac_ wo_ hs_ => ⟨(), trivial, hs_.weak ⟨rfl, rfl, rfl, en (satP_get hex).symm, trivial⟩ (fun h => h.pk (by repeat (first | with_reducible exact pk_nil | refine pk_box rfl ?_ | refine pk_rd rfl ?_ | refine pk_sl rfl ?_ | with_reducible refine pk_app ?_ | with_reducible refine pk_app0 ?_ | with_reducible exact pk_tl | refine pk_var ?_)))⟩
        · -- t32 False
          refine C_skip ?_
          exact fun ac_ wo_ hs_ => ⟨(), trivial, hs_.weak ⟨rfl, rfl, rfl, en (satP_nil (by omega)).symm, trivial⟩ (fun h => h.pk (by repeat (first | with_reducible exact pk_nil | refine pk_box rfl ?_ | refine pk_rd rfl ?_ | refine pk_sl rfl ?_ | with_reducible refine pk_app ?_ | with_reducible refine pk_app0 ?_ | with_reducible exact pk_tl | refine pk_var ?_)))⟩
      · -- behind
        intro _ _
        refine C_seq ?_
        refine C_draw (n := 10) [(0, false), (2, false), (3, false), (1, true), (4, true), (5, false), (6, false), (7, false), (8, false), (9, false)] mixed (by kernel_rfl) ?_
        refine W_q rfl rfl rfl rfl (q_move rfl) ?_
        refine W_q rfl rfl rfl rfl (by first | exact q_loadA tb rfl rfl bxo rfl rfl | exact q_loadEA tb rfl rfl (by first | exact gvo | exact gvd gvo (by omega)) (by omega) (by simp) rfl rfl) ?_
        refine W_q rfl rfl rfl rfl (q_move rfl) ?_
        refine W_callS tb rfl rfl rfl rfl (ct_shotlinelaw03_table v ts (by omega)) (ps_cons (by first | exact gvo | exact gvd gvo (by omega)) no_ps) rfl fun v41 => ?_
        refine W_callSN tb rfl rfl rfl rfl (ct_tissue_Saturated _ g (satP ls) ts (by omega)) (ps_cons (by first | exact gvo | exact gvd gvo (by omega)) no_ps) rfl fun v44 => ?_
        refine W_q rfl rfl rfl rfl (q_move rfl) ?_
        refine W_q rfl rfl rfl rfl (q_ext0 rfl) ?_
        refine W_q rfl rfl rfl rfl (q_ext1 rfl) ?_
        refine W_q rfl rfl rfl rfl (q_assign rfl) ?_
        refine W_q rfl rfl rfl rfl (q_assign rfl) ?_
        refine W_nil ?_
        refine L_then ?_
        refine C_seq ?_
        refine C_region ?_
        refine L_q rfl rfl rfl (q_move rfl) ?_
        refine L_call tb rfl rfl (ct_shotlineref03_CheckTable v ts (by omega)) (ps_cons (by first | exact gvo | exact gvd gvo (by omega)) no_ps) rfl ?_
        refine L_q rfl rfl rfl (q_assign rfl) ?_
        refine L_then ?_
        refine C_seq ?_
        refine C_seq ?_
        refine C_region ?_
        refine L_q rfl rfl rfl (q_move rfl) ?_
        refine L_q rfl rfl rfl (q_eql rfl rfl) ?_
        refine L_then ?_
        refine C_dec rfl (fun h7 => ?_) (fun h7 => ?_)
        · -- t50 True
          refine C_region ?_
          refine L_q rfl rfl rfl (by first | exact q_loadA tb rfl rfl bxo rfl rfl | exact q_loadEA tb rfl rfl (by first | exact gvo | exact gvd gvo (by omega)) (by omega) (by simp) rfl rfl) ?_
          refine L_call tb rfl rfl (ct_shotlineref01_CheckGas g.o g.h) no_ps rfl ?_
          refine L_q rfl rfl rfl (q_assign rfl) ?_
          refine L_then ?_
          refine C_cut (ι := Unit) (fun _p => ([(0, v), (1, u), (5, .pointer (some ⟨g5, 0, none⟩)), (7, .int .i64 (satP ls)), (8, v44), (9, .int .i64 (satE ts g (satP ls)).2), (10, .int .i64 (ckSat ts g (satP ls)))], [sl v44 62 4 ((satE ts g (satP ls)).1.map cLd), box g5 25 (cGs g), rd v 4 (ts.map cCp), rd u 4 (ls.map cLd)])) (fun _p => True) ?_ ?_
          · -- ahead
            refine C_seq ?_
            refine C_region ?_
            refine L_q rfl rfl rfl (q_move rfl) ?_
            refine L_q rfl rfl rfl (q_eql rfl rfl) ?_
            refine L_q rfl rfl rfl (q_move rfl) ?_
            refine L_dec (d := 55) rfl (fun h8 => ?_) (fun h8 => ?_)
            · -- t55 True
              refine L_qg rfl rfl rfl rfl rfl rfl rfl (q_move rfl) ?_
              refine L_callg tb rfl rfl rfl rfl rfl rfl (ct_shotlineref03_IsPressure (satP ls)) no_ps rfl ?_
              refine L_qg rfl rfl rfl rfl rfl rfl rfl (q_not rfl (by first | exact (rfl : (!true) = false) | exact (rfl : (!false) = true) | exact decide_not.symm | rfl)) ?_
              refine L_q rfl rfl rfl (by first | exact q_pickT rfl rfl | exact q_pickF rfl rfl) ?_
              refine L_then ?_
              refine C_dec rfl (fun h9 => ?_) (fun h9 => ?_)
              · -- t59 True
                refine C_region ?_
                refine L_q rfl rfl rfl (q_assign rfl) ?_
                refine L_end ?_
                exact fun ac_ wo_ hs_ => ⟨(), trivial, hs_.weak ⟨rfl, rfl, rfl, rfl, rfl, rfl, en (by unfold ckSat okPr; (repeat' split) <;> omega), trivial⟩ (fun h => h.pk (by repeat (first | with_reducible exact pk_nil | refine pk_box rfl ?_ | refine pk_rd rfl ?_ | refine pk_sl rfl ?_ | with_reducible refine pk_app ?_ | with_reducible refine pk_app0 ?_ | with_reducible exact pk_tl | refine pk_var ?_)))⟩
              · -- t59 False
                refine C_skip ?_
                exact fun ac_ wo_ hs_ => ⟨(), trivial, hs_.weak ⟨rfl, rfl, rfl, rfl, rfl, rfl, en (by unfold ckSat okPr; (repeat' split) <;> omega), trivial⟩ (fun h => h.pk (by repeat (first | with_reducible exact pk_nil | refine pk_box rfl ?_ | refine pk_rd rfl ?_ | refine pk_sl rfl ?_ | with_reducible refine pk_app ?_ | with_reducible refine pk_app0 ?_ | with_reducible exact pk_tl | refine pk_var ?_)))⟩
            · -- t55 False
              refine L_skip rfl rfl rfl rfl rfl rfl rfl ?_
              refine L_skip rfl rfl rfl rfl rfl rfl rfl ?_
              refine L_skip rfl rfl rfl rfl rfl rfl rfl ?_
              refine L_q rfl rfl rfl (by first | exact q_pickT rfl rfl | exact q_pickF rfl rfl) ?_
              refine L_then ?_
              refine C_false rfl ?_
              refine C_skip ?_
              exact fun ac_ wo_ hs_ => ⟨(), trivial, hs_.weak ⟨rfl, rfl, rfl, rfl, rfl, rfl, en (by unfold ckSat okPr; (repeat' split) <;> omega), trivial⟩ (fun h => h.pk (by repeat (first | with_reducible exact pk_nil | refine pk_box rfl ?_ | refine pk_rd rfl ?_ | refine pk_sl rfl ?_ | with_reducible refine pk_app ?_ | with_reducible refine pk_app0 ?_ | with_reducible exact pk_tl | refine pk_var ?_)))⟩
          · -- behind
            intro _ _
            refine C_seq ?_
            refine C_seq ?_
            refine C_region ?_
            refine L_q rfl rfl rfl (q_move rfl) ?_
            refine L_q rfl rfl rfl (q_neq rfl rfl) ?_
            refine L_then ?_
            refine C_dec rfl (fun hc => ?_) (fun hc => ?_)
            · -- t61 True
              rw [satE_bad hc]
              refine C_seq ?_
              refine C_region ?_
              refine L_q rfl rfl rfl (q_move rfl) ?_
              refine L_q rfl rfl rfl (q_move rfl) ?_
              refine L_q rfl rfl rfl (q_true (q_eql rfl rfl) (by simp)) ?_
              refine L_q rfl rfl rfl (q_move rfl) ?_
              refine L_qg rfl rfl rfl rfl rfl rfl rfl (q_move rfl) ?_
              refine L_qg rfl rfl rfl rfl rfl rfl rfl (q_len tb rfl rfl (by first | exact gvo | exact gvd gvo (by omega))) ?_
              refine L_qg rfl rfl rfl rfl rfl rfl rfl (q_true (q_eql rfl rfl) (by simp)) ?_
              refine L_q rfl rfl rfl (by first | exact q_pickT rfl rfl | exact q_pickF rfl rfl) ?_
              refine L_q rfl rfl rfl (q_assign rfl) ?_
              refine L_then ?_
              refine C_ret ?_
              exact ret_of (res1 rfl rfl) sub_nil (by intro r hr; cases hr) ⟨(by first | rfl | exact congrArg Value.bool (decide_eq_decide.2 (by omega)) | exact congrArg Value.bool (decide_eq_true (by omega)).symm | exact congrArg Value.bool (decide_eq_false (by omega)).symm | exact congrArg Value.bool (decide_eq_true (by omega))), rfl⟩
            · -- t61 False
              have hz := Decidable.not_not.1 hc
              rw [satE_ok hz]
              have hs := ckSat_ok hz
              have hsl := satM_len (ts := ts) (g := g) (p := satP ls)
              have hst := hs.t
              refine C_skip_then ?_
              refine C_seq ?_
              refine C_region ?_
              refine L_q rfl rfl rfl (q_move rfl) ?_
              refine L_q rfl rfl rfl (q_true (q_eql rfl rfl) (by simp)) ?_
              refine L_q rfl rfl rfl (q_move rfl) ?_
              refine L_qg rfl rfl rfl rfl rfl rfl rfl (q_move rfl) ?_
              refine L_qg rfl rfl rfl rfl rfl rfl rfl (q_move rfl) ?_
              refine L_qg rfl rfl rfl rfl rfl rfl rfl (by first | exact q_loadA tb rfl rfl bxo rfl rfl | exact q_loadEA tb rfl rfl (by first | exact gvo | exact gvd gvo (by omega)) (by omega) (by simp) rfl rfl) ?_
              refine L_qg rfl rfl rfl rfl rfl rfl rfl (q_move rfl) ?_
              refine L_log rfl rfl rfl rfl rfl rfl rfl (lo_call tb rfl rfl (ct_shotlineref03_Saturated v g (satP ls) ts hs) (ps_cons (by first | exact gvo | exact gvd gvo (by omega)) no_ps) isSl_sinks) ?_
              intro v77 rs_ hr_; unfold isSl at hr_; subst hr_
              refine L_callg tb rfl rfl rfl rfl rfl rfl (ct_shotlineref03_Same _ _ (satM ts g (satP ls)) (by omega)) (ps_cons (by first | exact gvo | exact gvd gvo (by omega)) (ps_cons (by first | exact gvo | exact gvd gvo (by omega)) no_ps)) rfl ?_
              refine L_q rfl rfl rfl (by first | exact q_pickT rfl rfl | exact q_pickF rfl rfl) ?_
              refine L_q rfl rfl rfl (q_move rfl) ?_
              refine L_qg rfl rfl rfl rfl rfl rfl rfl (q_move rfl) ?_
              refine L_log rfl rfl rfl rfl rfl rfl rfl (lo_call tb rfl rfl (ct_shotlinelaw03_table v ts (by omega)) (ps_cons (by first | exact gvo | exact gvd gvo (by omega)) no_ps) isSl_sinks) ?_
              intro v82 rs_ hr_; unfold isSl at hr_; subst hr_
              refine L_qg rfl rfl rfl rfl rfl rfl rfl (q_move rfl) ?_
              refine L_callg tb rfl rfl rfl rfl rfl rfl (ct_tissue_CheckLoads _ _ ts (satM ts g (satP ls)) (by omega) (by omega)) (ps_cons (by first | exact gvo | exact gvd gvo (by omega)) (ps_cons (by first | exact gvo | exact gvd gvo (by omega)) no_ps)) rfl ?_
              refine L_qg rfl rfl rfl rfl rfl rfl rfl (q_true (q_eql rfl rfl) (decide_eq_true (ckLoads_mk hs.loads))) ?_
              refine L_q rfl rfl rfl (by first | exact q_pickT rfl rfl | exact q_pickF rfl rfl) ?_
              refine L_q rfl rfl rfl (q_assign rfl) ?_
              refine L_then ?_
              refine C_ret ?_
              exact ret_of (res1 rfl rfl) sub_nil (by intro r hr; cases hr) ⟨(by first | rfl | exact congrArg Value.bool (decide_eq_decide.2 (by omega)) | exact congrArg Value.bool (decide_eq_true (by omega)).symm | exact congrArg Value.bool (decide_eq_false (by omega)).symm | exact congrArg Value.bool (decide_eq_true (by omega))), rfl⟩
        · -- t50 False
          refine C_skip_then ?_
          refine C_cut (ι := Unit) (fun _p => ([(0, v), (1, u), (5, .pointer (some ⟨g5, 0, none⟩)), (7, .int .i64 (satP ls)), (8, v44), (9, .int .i64 (satE ts g (satP ls)).2), (10, .int .i64 (ckSat ts g (satP ls)))], [sl v44 62 4 ((satE ts g (satP ls)).1.map cLd), box g5 25 (cGs g), rd v 4 (ts.map cCp), rd u 4 (ls.map cLd)])) (fun _p => True) ?_ ?_
          · -- ahead
            refine C_seq ?_
            refine C_region ?_
            refine L_q rfl rfl rfl (q_move rfl) ?_
            refine L_q rfl rfl rfl (q_eql rfl rfl) ?_
            refine L_q rfl rfl rfl (q_move rfl) ?_
            refine L_dec (d := 55) rfl (fun h12 => ?_) (fun h12 => ?_)
            · -- t55 True
              refine L_qg rfl rfl rfl rfl rfl rfl rfl (q_move rfl) ?_
              refine L_callg tb rfl rfl rfl rfl rfl rfl (ct_shotlineref03_IsPressure (satP ls)) no_ps rfl ?_
              refine L_qg rfl rfl rfl rfl rfl rfl rfl (q_not rfl (by first | exact (rfl : (!true) = false) | exact (rfl : (!false) = true) | exact decide_not.symm | rfl)) ?_
              refine L_q rfl rfl rfl (by first | exact q_pickT rfl rfl | exact q_pickF rfl rfl) ?_
              refine L_then ?_
              refine C_dec rfl (fun h13 => ?_) (fun h13 => ?_)
              · -- t59 True
                refine C_region ?_
                refine L_q rfl rfl rfl (q_assign rfl) ?_
                refine L_end ?_
                exact fun ac_ wo_ hs_ => ⟨(), trivial, hs_.weak ⟨rfl, rfl, rfl, rfl, rfl, rfl, en (by unfold ckSat okPr; (repeat' split) <;> omega), trivial⟩ (fun h => h.pk (by repeat (first | with_reducible exact pk_nil | refine pk_box rfl ?_ | refine pk_rd rfl ?_ | refine pk_sl rfl ?_ | with_reducible refine pk_app ?_ | with_reducible refine pk_app0 ?_ | with_reducible exact pk_tl | refine pk_var ?_)))⟩
              · -- t59 False
                refine C_skip ?_
                exact fun ac_ wo_ hs_ => ⟨(), trivial, hs_.weak ⟨rfl, rfl, rfl, rfl, rfl, rfl, en (by unfold ckSat okPr; (repeat' split) <;> omega), trivial⟩ (fun h => h.pk (by repeat (first | with_reducible exact pk_nil | refine pk_box rfl ?_ | refine pk_rd rfl ?_ | refine pk_sl rfl ?_ | with_reducible refine pk_app ?_ | with_reducible refine pk_app0 ?_ | with_reducible exact pk_tl | refine pk_var ?_)))⟩
            · -- t55 False
              refine L_skip rfl rfl rfl rfl rfl rfl rfl ?_
              refine L_skip rfl rfl rfl rfl rfl rfl rfl ?_
              refine L_skip rfl rfl rfl rfl rfl rfl rfl ?_
              refine L_q rfl rfl rfl (by first | exact q_pickT rfl rfl | exact q_pickF rfl rfl) ?_
              refine L_then ?_
              refine C_false rfl ?_
              refine C_skip ?_
              exact fun ac_ wo_ hs_ => ⟨(), trivial, hs_.weak ⟨rfl, rfl, rfl, rfl, rfl, rfl, en (by unfold ckSat okPr; (repeat' split) <;> omega), trivial⟩ (fun h => h.pk (by repeat (first | with_reducible exact pk_nil | refine pk_box rfl ?_ | refine pk_rd rfl ?_ | refine pk_sl rfl ?_ | with_reducible refine pk_app ?_ | with_reducible refine pk_app0 ?_ | with_reducible exact pk_tl | refine pk_var ?_)))⟩
          · -- behind
            intro _ _
            refine C_seq ?_
            refine C_seq ?_
            refine C_region ?_
            refine L_q rfl rfl rfl (q_move rfl) ?_
            refine L_q rfl rfl rfl (q_neq rfl rfl) ?_
            refine L_then ?_
            refine C_dec rfl (fun hc => ?_) (fun hc => ?_)
            · -- t61 True
              rw [satE_bad hc]
              refine C_seq ?_
              refine C_region ?_
              refine L_q rfl rfl rfl (q_move rfl) ?_
              refine L_q rfl rfl rfl (q_move rfl) ?_
              refine L_q rfl rfl rfl (q_true (q_eql rfl rfl) (by simp)) ?_
              refine L_q rfl rfl rfl (q_move rfl) ?_
              refine L_qg rfl rfl rfl rfl rfl rfl rfl (q_move rfl) ?_
              refine L_qg rfl rfl rfl rfl rfl rfl rfl (q_len tb rfl rfl (by first | exact gvo | exact gvd gvo (by omega))) ?_
              refine L_qg rfl rfl rfl rfl rfl rfl rfl (q_true (q_eql rfl rfl) (by simp)) ?_
              refine L_q rfl rfl rfl (by first | exact q_pickT rfl rfl | exact q_pickF rfl rfl) ?_
              refine L_q rfl rfl rfl (q_assign rfl) ?_
              refine L_then ?_
              refine C_ret ?_
              exact ret_of (res1 rfl rfl) sub_nil (by intro r hr; cases hr) ⟨(by first | rfl | exact congrArg Value.bool (decide_eq_decide.2 (by omega)) | exact congrArg Value.bool (decide_eq_true (by omega)).symm | exact congrArg Value.bool (decide_eq_false (by omega)).symm | exact congrArg Value.bool (decide_eq_true (by omega))), rfl⟩
            · -- t61 False
              have hz := Decidable.not_not.1 hc
              rw [satE_ok hz]
              have hs := ckSat_ok hz
              have hsl := satM_len (ts := ts) (g := g) (p := satP ls)
              have hst := hs.t
              refine C_skip_then ?_
              refine C_seq ?_
              refine C_region ?_
              refine L_q rfl rfl rfl (q_move rfl) ?_
              refine L_q rfl rfl rfl (q_true (q_eql rfl rfl) (by simp)) ?_
              refine L_q rfl rfl rfl (q_move rfl) ?_
              refine L_qg rfl rfl rfl rfl rfl rfl rfl (q_move rfl) ?_
              refine L_qg rfl rfl rfl rfl rfl rfl rfl (q_move rfl) ?_
              refine L_qg rfl rfl rfl rfl rfl rfl rfl (by first | exact q_loadA tb rfl rfl bxo rfl rfl | exact q_loadEA tb rfl rfl (by first | exact gvo | exact gvd gvo (by omega)) (by omega) (by simp) rfl rfl) ?_
              refine L_qg rfl rfl rfl rfl rfl rfl rfl (q_move rfl) ?_
              refine L_log rfl rfl rfl rfl rfl rfl rfl (lo_call tb rfl rfl (ct_shotlineref03_Saturated v g (satP ls) ts hs) (ps_cons (by first | exact gvo | exact gvd gvo (by omega)) no_ps) isSl_sinks) ?_
              intro v77 rs_ hr_; unfold isSl at hr_; subst hr_
              refine L_callg tb rfl rfl rfl rfl rfl rfl (ct_shotlineref03_Same _ _ (satM ts g (satP ls)) (by omega)) (ps_cons (by first | exact gvo | exact gvd gvo (by omega)) (ps_cons (by first | exact gvo | exact gvd gvo (by omega)) no_ps)) rfl ?_
              refine L_q rfl rfl rfl (by first | exact q_pickT rfl rfl | exact q_pickF rfl rfl) ?_
              refine L_q rfl rfl rfl (q_move rfl) ?_
              refine L_qg rfl rfl rfl rfl rfl rfl rfl (q_move rfl) ?_
              refine L_log rfl rfl rfl rfl rfl rfl rfl (lo_call tb rfl rfl (ct_shotlinelaw03_table v ts (by omega)) (ps_cons (by first | exact gvo | exact gvd gvo (by omega)) no_ps) isSl_sinks) ?_
              intro v82 rs_ hr_; unfold isSl at hr_; subst hr_
              refine L_qg rfl rfl rfl rfl rfl rfl rfl (q_move rfl) ?_
              refine L_callg tb rfl rfl rfl rfl rfl rfl (ct_tissue_CheckLoads _ _ ts (satM ts g (satP ls)) (by omega) (by omega)) (ps_cons (by first | exact gvo | exact gvd gvo (by omega)) (ps_cons (by first | exact gvo | exact gvd gvo (by omega)) no_ps)) rfl ?_
              refine L_qg rfl rfl rfl rfl rfl rfl rfl (q_true (q_eql rfl rfl) (decide_eq_true (ckLoads_mk hs.loads))) ?_
              refine L_q rfl rfl rfl (by first | exact q_pickT rfl rfl | exact q_pickF rfl rfl) ?_
              refine L_q rfl rfl rfl (q_assign rfl) ?_
              refine L_then ?_
              refine C_ret ?_
              exact ret_of (res1 rfl rfl) sub_nil (by intro r hr; cases hr) ⟨(by first | rfl | exact congrArg Value.bool (decide_eq_decide.2 (by omega)) | exact congrArg Value.bool (decide_eq_true (by omega)).symm | exact congrArg Value.bool (decide_eq_false (by omega)).symm | exact congrArg Value.bool (decide_eq_true (by omega))), rfl⟩
end Go.Proofs.Ytfhfadfnbnliiaa
