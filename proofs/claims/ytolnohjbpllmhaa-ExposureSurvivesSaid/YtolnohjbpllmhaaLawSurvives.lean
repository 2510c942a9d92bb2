/-
  Walks: each function named returns what its model says. Conditions: those in front of each theorem.
-/
import Derived.Test.YtolnohjbpllmhaaXV
namespace Go.Proofs.Ytolnohjbpllmhaa
open Go.RowKit

set_option maxRecDepth 100000 in
set_option maxHeartbeats 400000 in
theorem ct_shotlinelaw05_ExposureSurvives (t : Value) (r : Ru) (nm : ByteArray) (sf : Int) (v u : Value) (gs : List Gs) (ls : List Dl) (z : Value) (am : List Int) : Ct Try.prog 15 [.agg (cPl nm sf v u).toArray, .agg (cRu t r).toArray, z] [(v, 2, gs.map cGs), (u, 3, ls.map cDl), (t, 2, r.tb.map cOw), (z, 1, am.map cI)] (isV (.bool true)) := by
  refine Ct.of (N := 125) Try.func15 rfl rfl rfl fun w => ?_
  refine C_weak (E' := [(0, .agg (cPl nm sf v u).toArray), (1, .agg (cRu t r).toArray), (2, z)]) (rs' := [rd v 2 (gs.map cGs), rd u 3 (ls.map cDl), rd t 2 (r.tb.map cOw), rd z 1 (am.map cI)]) ⟨rfl, rfl, rfl, trivial⟩ (fun _ h => h) ?_
  have hlp := len_map cGs gs
  have hl1 := len_map cGs gs
  have hl2 := len_map cDl ls
  have hlt9 := len_map cOw r.tb
  have hlz := len_map cI am
  refine C_seq ?_
  refine C_region ?_
  refine L_box rfl rfl rfl fun g3 => ?_
  refine L_box rfl rfl rfl fun g4 => ?_
  refine L_q rfl rfl rfl (q_assign rfl) ?_
  refine L_then ?_
  refine C_seq ?_
  refine C_seq ?_
  refine C_region ?_
  refine L_call tb rfl rfl (ct_shotlinelaw05_awake) no_ps rfl ?_
  refine L_q rfl rfl rfl (q_not rfl (by first | exact (rfl : (!true) = false) | exact (rfl : (!false) = true) | exact decide_not.symm | rfl)) ?_
  refine L_then ?_
  refine C_false rfl ?_
  refine C_skip_then ?_
  refine C_seq ?_
  refine C_seq ?_
  refine C_region ?_
  refine L_q rfl rfl rfl (q_loadA tb rfl rfl bxo rfl rfl) ?_
  refine L_call tb rfl rfl (ct_shotlinelaw05_Brief nm sf v u gs ls) (ps_cons (by first | exact gvo | exact gvd gvo (by omega)) (ps_cons (by first | exact gvo | exact gvd gvo (by omega)) no_ps)) rfl ?_
  refine L_q rfl rfl rfl (q_not rfl (by first | exact (rfl : (!true) = false) | exact (rfl : (!false) = true) | exact decide_not.symm | rfl)) ?_
  refine L_q rfl rfl rfl (q_move rfl) ?_
  refine L_dec (d := 18) rfl (fun hbr => ?_) (fun hbr => ?_)
  · -- t18 True
    refine L_skip rfl rfl rfl rfl rfl rfl rfl ?_
    refine L_skip rfl rfl rfl rfl rfl rfl rfl ?_
    refine L_skip rfl rfl rfl rfl rfl rfl rfl ?_
    refine L_q rfl rfl rfl (by first | exact q_pickT rfl rfl | exact q_pickF rfl rfl) ?_
    refine L_q rfl rfl rfl (q_move rfl) ?_
    refine L_skip rfl rfl rfl rfl rfl rfl rfl ?_
    refine L_skip rfl rfl rfl rfl rfl rfl rfl ?_
    refine L_skip rfl rfl rfl rfl rfl rfl rfl ?_
    refine L_q rfl rfl rfl (by first | exact q_pickT rfl rfl | exact q_pickF rfl rfl) ?_
    refine L_then ?_
    refine C_true rfl ?_
    refine C_seq ?_
    refine C_region ?_
    refine L_q rfl rfl rfl (q_assign rfl) ?_
    refine L_then ?_
    refine C_ret ?_
    exact ret_of (res1 rfl rfl) sub_nil (by intro r hr; cases hr) ⟨rfl, rfl⟩
  · -- t18 False
    have hsh := (Decidable.not_not.1 hbr).1
    refine L_qg rfl rfl rfl rfl rfl rfl rfl (q_loadA tb rfl rfl bxo rfl rfl) ?_
    refine L_callg tb rfl rfl rfl rfl rfl rfl (ct_shotlinelaw05_few _ _) (ps_cons (by first | exact gvo | exact gvd gvo (by omega)) no_ps) rfl ?_
    refine L_qg rfl rfl rfl rfl rfl rfl rfl (q_not rfl (by first | exact (rfl : (!true) = false) | exact (rfl : (!false) = true) | exact decide_not.symm | rfl)) ?_
    refine L_q rfl rfl rfl (by first | exact q_pickT rfl rfl | exact q_pickF rfl rfl) ?_
    refine L_q rfl rfl rfl (q_move rfl) ?_
    refine L_dec (d := 23) rfl (fun hfw => ?_) (fun hfw => ?_)
    · -- t23 True
      refine L_skip rfl rfl rfl rfl rfl rfl rfl ?_
      refine L_skip rfl rfl rfl rfl rfl rfl rfl ?_
      refine L_skip rfl rfl rfl rfl rfl rfl rfl ?_
      refine L_q rfl rfl rfl (by first | exact q_pickT rfl rfl | exact q_pickF rfl rfl) ?_
      refine L_then ?_
      refine C_true rfl ?_
      refine C_seq ?_
      refine C_region ?_
      refine L_q rfl rfl rfl (q_assign rfl) ?_
      refine L_then ?_
      refine C_ret ?_
      exact ret_of (res1 rfl rfl) sub_nil (by intro r hr; cases hr) ⟨rfl, rfl⟩
    · -- t23 False
      refine L_qg rfl rfl rfl rfl rfl rfl rfl (q_move rfl) ?_
      refine L_qg rfl rfl rfl rfl rfl rfl rfl (q_len tb rfl rfl (by first | exact gvo | exact gvd gvo (by omega))) ?_
      refine L_qg rfl rfl rfl rfl rfl rfl rfl (q_gtr rfl rfl) ?_
      refine L_q rfl rfl rfl (by first | exact q_pickT rfl rfl | exact q_pickF rfl rfl) ?_
      refine L_then ?_
      refine C_dec rfl (fun hz12 => ?_) (fun hz12 => ?_)
      · -- t27 True
        refine C_seq ?_
        refine C_region ?_
        refine L_q rfl rfl rfl (q_assign rfl) ?_
        refine L_then ?_
        refine C_ret ?_
        exact ret_of (res1 rfl rfl) sub_nil (by intro r hr; cases hr) ⟨rfl, rfl⟩
      · -- t27 False
        refine C_skip_then ?_
        refine C_seq ?_
        refine C_draw (n := 12) [(0, false), (2, false), (4, false), (1, true), (3, true), (5, true), (6, true), (7, false), (8, false), (9, false), (10, false), (11, false)] mixed (by kernel_rfl) ?_
        refine W_q rfl rfl rfl rfl (q_loadA tb rfl rfl bxo rfl rfl) ?_
        refine W_q rfl rfl rfl rfl (q_loadA tb rfl rfl bxo rfl rfl) ?_
        refine W_q rfl rfl rfl rfl (q_move rfl) ?_
        refine W_lo rfl rfl rfl rfl (lo_call tb rfl rfl (ct_shotlinebase_CopyPlan nm sf v u gs ls (by omega) (by omega)) (ps_cons (by first | exact gvo | exact gvd gvo (by omega)) (ps_cons (by first | exact gvo | exact gvd gvo (by omega)) no_ps)) (by rintro y rs ⟨a, b, _, rfl⟩ r hr; simp only [List.mem_cons, List.not_mem_nil, or_false] at hr; rcases hr with rfl | rfl <;> exact sl_sinks _ _ _ _)) ?_
        rintro _ _ ⟨a30, b30, rfl, rfl⟩
        refine W_lo rfl rfl rfl rfl (lo_call tb rfl rfl (ct_shotlineref05_Copy t r (by omega)) (ps_cons (by first | exact gvo | exact gvd gvo (by omega)) no_ps) (by rintro y rs ⟨a, _, rfl⟩ r hr; rw [List.mem_singleton.1 hr]; exact sl_sinks _ _ _ _)) ?_
        rintro _ _ ⟨a32, rfl, rfl⟩
        refine W_callS tb rfl rfl rfl rfl (ct_shotlinebase_CopyInts z am (by omega)) (ps_cons (by first | exact gvo | exact gvd gvo (by omega)) no_ps) rfl fun v34 => ?_
        refine W_call tb rfl rfl rfl rfl (ct_exposure_Survives a32 r nm sf a30 b30 gs ls v34 am (by omega) (by omega) (by omega) (by omega) (by omega)) (ps_cons (by first | exact gvo | exact gvd gvo (by omega)) (ps_cons (by first | exact gvo | exact gvd gvo (by omega)) (ps_cons (by first | exact gvo | exact gvd gvo (by omega)) (ps_cons (by first | exact gvo | exact gvd gvo (by omega)) no_ps)))) rfl ?_
        refine W_q rfl rfl rfl rfl (q_move rfl) ?_
        refine W_q rfl rfl rfl rfl (q_ext0 rfl) ?_
        refine W_q rfl rfl rfl rfl (q_ext1 rfl) ?_
        refine W_q rfl rfl rfl rfl (q_assign rfl) ?_
        refine W_q rfl rfl rfl rfl (q_assign rfl) ?_
        refine W_nil ?_
        refine L_then ?_
        refine C_seq ?_
        refine C_draw (n := 12) [(0, false), (2, false), (4, false), (1, true), (3, true), (5, true), (6, true), (7, false), (8, false), (9, false), (10, false), (11, false)] mixed (by kernel_rfl) ?_
        refine W_q rfl rfl rfl rfl (q_loadA tb rfl rfl bxo rfl rfl) ?_
        refine W_q rfl rfl rfl rfl (q_loadA tb rfl rfl bxo rfl rfl) ?_
        refine W_q rfl rfl rfl rfl (q_move rfl) ?_
        refine W_lo rfl rfl rfl rfl (lo_call tb rfl rfl (ct_shotlinebase_CopyPlan nm sf v u gs ls (by omega) (by omega)) (ps_cons (by first | exact gvo | exact gvd gvo (by omega)) (ps_cons (by first | exact gvo | exact gvd gvo (by omega)) no_ps)) (by rintro y rs ⟨a, b, _, rfl⟩ r hr; simp only [List.mem_cons, List.not_mem_nil, or_false] at hr; rcases hr with rfl | rfl <;> exact sl_sinks _ _ _ _)) ?_
        rintro _ _ ⟨a40, b40, rfl, rfl⟩
        refine W_lo rfl rfl rfl rfl (lo_call tb rfl rfl (ct_shotlineref05_Copy t r (by omega)) (ps_cons (by first | exact gvo | exact gvd gvo (by omega)) no_ps) (by rintro y rs ⟨a, _, rfl⟩ r hr; rw [List.mem_singleton.1 hr]; exact sl_sinks _ _ _ _)) ?_
        rintro _ _ ⟨a42, rfl, rfl⟩
        refine W_callS tb rfl rfl rfl rfl (ct_shotlinebase_CopyInts z am (by omega)) (ps_cons (by first | exact gvo | exact gvd gvo (by omega)) no_ps) rfl fun v44 => ?_
        refine W_call tb rfl rfl rfl rfl (ct_exposure_LastTurn a42 r nm sf a40 b40 gs ls v44 am (by omega) (by omega) (by omega) (by omega) (by omega)) (ps_cons (by first | exact gvo | exact gvd gvo (by omega)) (ps_cons (by first | exact gvo | exact gvd gvo (by omega)) (ps_cons (by first | exact gvo | exact gvd gvo (by omega)) (ps_cons (by first | exact gvo | exact gvd gvo (by omega)) no_ps)))) rfl ?_
        refine W_q rfl rfl rfl rfl (q_move rfl) ?_
        refine W_q rfl rfl rfl rfl (q_ext0 rfl) ?_
        refine W_q rfl rfl rfl rfl (q_ext1 rfl) ?_
        refine W_q rfl rfl rfl rfl (q_assign rfl) ?_
        refine W_q rfl rfl rfl rfl (q_assign rfl) ?_
        refine W_nil ?_
        refine L_then ?_
        refine C_seq ?_
        refine C_region ?_
        refine L_q rfl rfl rfl (q_loadA tb rfl rfl bxo rfl rfl) ?_
        refine L_q rfl rfl rfl (q_loadA tb rfl rfl bxo rfl rfl) ?_
        refine L_call tb rfl rfl (ct_shotlineref05_Both t r nm sf v u gs ls (by omega) (by omega) (by omega)) (ps_cons (by first | exact gvo | exact gvd gvo (by omega)) (ps_cons (by first | exact gvo | exact gvd gvo (by omega)) (ps_cons (by first | exact gvo | exact gvd gvo (by omega)) no_ps))) rfl ?_
        refine L_q rfl rfl rfl (q_assign rfl) ?_
        refine L_then ?_
        refine C_seq ?_
        refine C_seq ?_
        refine C_region ?_
        refine L_q rfl rfl rfl (q_move rfl) ?_
        refine L_q rfl rfl rfl (q_eql rfl rfl) ?_
        refine L_then ?_
        refine C_dec rfl (fun hb => ?_) (fun hb => ?_)
        · -- t52 True
          refine C_region ?_
          refine L_q rfl rfl rfl (q_loadA tb rfl rfl bxo rfl rfl) ?_
          refine L_q rfl rfl rfl (q_move rfl) ?_
          refine L_call tb rfl rfl (ct_shotlineref05_CheckAmounts nm sf v u gs ls z am (by omega)) (ps_cons (by first | exact gvo | exact gvd gvo (by omega)) (ps_cons (by first | exact gvo | exact gvd gvo (by omega)) (ps_cons (by first | exact gvo | exact gvd gvo (by omega)) no_ps))) rfl ?_
          refine L_q rfl rfl rfl (q_assign rfl) ?_
          refine L_then ?_
          refine C_seq ?_
          refine C_seq ?_
          refine C_region ?_
          refine L_q rfl rfl rfl (q_move rfl) ?_
          refine L_q rfl rfl rfl (q_eql rfl rfl) ?_
          refine L_then ?_
          refine C_dec rfl (fun ha => ?_) (fun ha => ?_)
          · -- t57 True
            refine C_region ?_
            refine L_q rfl rfl rfl (q_loadA tb rfl rfl bxo rfl rfl) ?_
            refine L_q rfl rfl rfl (q_loadA tb rfl rfl bxo rfl rfl) ?_
            refine L_call tb rfl rfl (ct_shotlinelaw05_followed t r nm sf v u gs ls (by omega) (by omega) (by omega)) (ps_cons (by first | exact gvo | exact gvd gvo (by omega)) (ps_cons (by first | exact gvo | exact gvd gvo (by omega)) (ps_cons (by first | exact gvo | exact gvd gvo (by omega)) no_ps))) rfl ?_
            refine L_q rfl rfl rfl (q_assign rfl) ?_
            refine L_then ?_
            refine C_seq ?_
            refine C_seq ?_
            refine C_region ?_
            refine L_q rfl rfl rfl (q_move rfl) ?_
            refine L_q rfl rfl rfl (q_neq rfl rfl) ?_
            refine L_then ?_
            refine C_dec rfl (fun he => ?_) (fun he => ?_)
            · -- t62 True
              have hs9 : shE nm sf gs ls r am = toldE nm sf gs ls r := by
                have hT9 : secAt ls ls.length > 20000 := Decidable.byContradiction fun hh => he (toldE_3 hb hh)
                rw [shE_3 hb ha hT9, toldE_2 hb hT9]
              have hz : shE nm sf gs ls r am ≠ 0 := by rw [hs9]; exact he
              rw [svE_1 hz, ltE_1 hz, hs9]
              refine C_seq ?_
              refine C_region ?_
              refine L_q rfl rfl rfl (q_move rfl) ?_
              refine L_q rfl rfl rfl (q_move rfl) ?_
              refine L_q rfl rfl rfl (q_true (q_eql rfl rfl) (by simp)) ?_
              refine L_q rfl rfl rfl (q_move rfl) ?_
              refine L_qg rfl rfl rfl rfl rfl rfl rfl (q_move rfl) ?_
              refine L_qg rfl rfl rfl rfl rfl rfl rfl (q_move rfl) ?_
              refine L_qg rfl rfl rfl rfl rfl rfl rfl (q_true (q_eql rfl rfl) (by simp)) ?_
              refine L_q rfl rfl rfl (by first | exact q_pickT rfl rfl | exact q_pickF rfl rfl) ?_
              refine L_q rfl rfl rfl (q_move rfl) ?_
              refine L_qg rfl rfl rfl rfl rfl rfl rfl (q_move rfl) ?_
              refine L_qg rfl rfl rfl rfl rfl rfl rfl (q_true (q_eql rfl rfl) (by simp)) ?_
              refine L_q rfl rfl rfl (by first | exact q_pickT rfl rfl | exact q_pickF rfl rfl) ?_
              refine L_q rfl rfl rfl (q_move rfl) ?_
              refine L_qg rfl rfl rfl rfl rfl rfl rfl (q_move rfl) ?_
              refine L_qg rfl rfl rfl rfl rfl rfl rfl (q_true (q_eql rfl rfl) (by simp)) ?_
              refine L_q rfl rfl rfl (by first | exact q_pickT rfl rfl | exact q_pickF rfl rfl) ?_
              refine L_q rfl rfl rfl (q_assign rfl) ?_
              refine L_then ?_
              refine C_ret ?_
              exact ret_of (res1 rfl rfl) sub_nil (by intro r hr; cases hr) ⟨rfl, rfl⟩
            · -- t62 False
              have hT := (toldE_0 (Decidable.not_not.1 he)).2; have hz : shE nm sf gs ls r am = 0 := shE_4 hb ha hT; obtain ⟨_, H, HR, _⟩ := bothE_ok hb; have hal := (ckAm_ok ha).1
              have hfi := failZ_in (r := r) (sf := sf) (gs := gs) (ls := ls) (am := am)
              refine C_skip_then ?_
              refine C_seq ?_
              refine C_region ?_
              refine L_q rfl rfl rfl (q_loadA tb rfl rfl bxo rfl rfl) ?_
              refine L_q rfl rfl rfl (q_loadA tb rfl rfl bxo rfl rfl) ?_
              refine L_q rfl rfl rfl (q_move rfl) ?_
              refine L_call tb rfl rfl (ct_shotlineref05_Fails t r nm sf v u gs ls z am H HR (by omega) hal) (ps_cons (by first | exact gvo | exact gvd gvo (by omega)) (ps_cons (by first | exact gvo | exact gvd gvo (by omega)) (ps_cons (by first | exact gvo | exact gvd gvo (by omega)) (ps_cons (by first | exact gvo | exact gvd gvo (by omega)) no_ps)))) rfl ?_
              refine L_q rfl rfl rfl (q_assign rfl) ?_
              refine L_then ?_
              refine C_seq ?_
              refine C_seq ?_
              refine C_region ?_
              refine L_q rfl rfl rfl (q_move rfl) ?_
              refine L_q rfl rfl rfl (q_lss rfl rfl) ?_
              refine L_then ?_
              refine C_dec rfl (fun hf => ?_) (fun hf => ?_)
              · -- t84 True
                rw [svE_3 hz (by omega), ltE_4 hz (by omega)]
                refine C_seq ?_
                refine C_region ?_
                refine L_q rfl rfl rfl (q_move rfl) ?_
                refine L_q rfl rfl rfl (q_true (q_eql rfl rfl) (by simp)) ?_
                refine L_q rfl rfl rfl (q_move rfl) ?_
                refine L_qg rfl rfl rfl rfl rfl rfl rfl (q_move rfl) ?_
                refine L_qg rfl rfl rfl rfl rfl rfl rfl (q_loadA tb rfl rfl bxo rfl rfl) ?_
                refine L_callg tb rfl rfl rfl rfl rfl rfl (ct_shotlineref02_Seconds nm sf v u gs ls H) (ps_cons (by first | exact gvo | exact gvd gvo (by omega)) (ps_cons (by first | exact gvo | exact gvd gvo (by omega)) no_ps)) rfl ?_
                refine L_qg rfl rfl rfl rfl rfl rfl rfl (q_true (q_eql rfl rfl) (by simp)) ?_
                refine L_q rfl rfl rfl (by first | exact q_pickT rfl rfl | exact q_pickF rfl rfl) ?_
                refine L_q rfl rfl rfl (q_move rfl) ?_
                refine L_qg rfl rfl rfl rfl rfl rfl rfl (q_move rfl) ?_
                refine L_qg rfl rfl rfl rfl rfl rfl rfl (q_true (q_eql rfl rfl) (by simp)) ?_
                refine L_q rfl rfl rfl (by first | exact q_pickT rfl rfl | exact q_pickF rfl rfl) ?_
                refine L_q rfl rfl rfl (q_move rfl) ?_
                refine L_qg rfl rfl rfl rfl rfl rfl rfl (q_move rfl) ?_
                refine L_qg rfl rfl rfl rfl rfl rfl rfl (q_move rfl) ?_
                refine L_qg rfl rfl rfl rfl rfl rfl rfl (q_true (q_eql rfl rfl) (by simp)) ?_
                refine L_q rfl rfl rfl (by first | exact q_pickT rfl rfl | exact q_pickF rfl rfl) ?_
                refine L_q rfl rfl rfl (q_assign rfl) ?_
                refine L_then ?_
                refine C_ret ?_
                exact ret_of (res1 rfl rfl) sub_nil (by intro r hr; cases hr) ⟨rfl, rfl⟩
              · -- t84 False
                rw [svE_2 hz (by omega)]
                refine C_skip_then ?_
                refine C_seq ?_
                refine C_seq ?_
                refine C_region ?_
                refine L_q rfl rfl rfl (q_move rfl) ?_
                refine L_q rfl rfl rfl (q_false (q_neq rfl rfl) (by simp)) ?_
                refine L_q rfl rfl rfl (q_move rfl) ?_
                refine L_qg rfl rfl rfl rfl rfl rfl rfl (q_move rfl) ?_
                refine L_qg rfl rfl rfl rfl rfl rfl rfl (q_move rfl) ?_
                refine L_qg rfl rfl rfl rfl rfl rfl rfl (q_false (q_neq rfl rfl) (by simp)) ?_
                refine L_q rfl rfl rfl (by first | exact q_pickT rfl rfl | exact q_pickF rfl rfl) ?_
                refine L_then ?_
                refine C_false rfl ?_
                refine C_skip_then ?_
                refine C_seq ?_
                refine C_seq ?_
                refine C_region ?_
                refine L_q rfl rfl rfl (q_move rfl) ?_
                refine L_q rfl rfl rfl (q_eql rfl rfl) ?_
                refine L_then ?_
                refine C_dec rfl (fun h0 => ?_) (fun h0 => ?_)
                · -- t110 True
                  rw [ltE_2 hz (by omega)]
                  refine C_seq ?_
                  refine C_region ?_
                  refine L_q rfl rfl rfl (q_move rfl) ?_
                  refine L_q rfl rfl rfl (q_true (q_eql rfl rfl) (by simp)) ?_
                  refine L_q rfl rfl rfl (q_move rfl) ?_
                  refine L_qg rfl rfl rfl rfl rfl rfl rfl (q_move rfl) ?_
                  refine L_qg rfl rfl rfl rfl rfl rfl rfl (q_true (q_eql rfl rfl) (by simp)) ?_
                  refine L_q rfl rfl rfl (by first | exact q_pickT rfl rfl | exact q_pickF rfl rfl) ?_
                  refine L_q rfl rfl rfl (q_assign rfl) ?_
                  refine L_then ?_
                  refine C_ret ?_
                  exact ret_of (res1 rfl rfl) sub_nil (by intro r hr; cases hr) ⟨rfl, rfl⟩
                · -- t110 False
                  rw [ltE_3 hz (by omega)]
                  have hrl : (rnN ls ls.length : Int) ≤ 1000001 := by
                    rcases Nat.eq_zero_or_pos ls.length with h | h
                    · rw [h]; show (0 : Int) ≤ 1000001; omega
                    · have h9 := rnN_T H h; have h8 := H.e ls.length (Nat.le_refl _); omega
                  refine C_skip_then ?_
                  refine C_seq ?_
                  refine C_region ?_
                  refine L_q rfl rfl rfl (q_move rfl) ?_
                  refine L_q rfl rfl rfl (q_true (q_eql rfl rfl) (by simp)) ?_
                  refine L_q rfl rfl rfl (q_move rfl) ?_
                  refine L_qg rfl rfl rfl rfl rfl rfl rfl (q_move rfl) ?_
                  refine L_qg rfl rfl rfl rfl rfl rfl rfl (q_move rfl) ?_
                  refine L_qg rfl rfl rfl rfl rfl rfl rfl (q_sub rfl rfl (by first | exact IntWalk.i64_in _ (by omega) | rfl)) ?_
                  refine L_qg rfl rfl rfl rfl rfl rfl rfl (q_true (q_eql rfl rfl) (by simp)) ?_
                  refine L_q rfl rfl rfl (by first | exact q_pickT rfl rfl | exact q_pickF rfl rfl) ?_
                  refine L_q rfl rfl rfl (q_assign rfl) ?_
                  refine L_then ?_
                  refine C_ret ?_
                  exact ret_of (res1 rfl rfl) sub_nil (by intro r hr; cases hr) ⟨rfl, rfl⟩
          · -- t57 False
            refine C_skip_then ?_
            refine C_seq ?_
            refine C_seq ?_
            refine C_region ?_
            refine L_q rfl rfl rfl (q_move rfl) ?_
            refine L_q rfl rfl rfl (q_neq rfl rfl) ?_
            refine L_then ?_
            refine C_dec rfl (fun he => ?_) (fun he => ?_)
            · -- t62 True
              have hs9 : shE nm sf gs ls r am = ckAm gs am := shE_2 hb ha
              have hz : shE nm sf gs ls r am ≠ 0 := by rw [hs9]; exact ha
              rw [svE_1 hz, ltE_1 hz, hs9]
              refine C_seq ?_
              refine C_region ?_
              refine L_q rfl rfl rfl (q_move rfl) ?_
              refine L_q rfl rfl rfl (q_move rfl) ?_
              refine L_q rfl rfl rfl (q_true (q_eql rfl rfl) (by simp)) ?_
              refine L_q rfl rfl rfl (q_move rfl) ?_
              refine L_qg rfl rfl rfl rfl rfl rfl rfl (q_move rfl) ?_
              refine L_qg rfl rfl rfl rfl rfl rfl rfl (q_move rfl) ?_
              refine L_qg rfl rfl rfl rfl rfl rfl rfl (q_true (q_eql rfl rfl) (by simp)) ?_
              refine L_q rfl rfl rfl (by first | exact q_pickT rfl rfl | exact q_pickF rfl rfl) ?_
              refine L_q rfl rfl rfl (q_move rfl) ?_
              refine L_qg rfl rfl rfl rfl rfl rfl rfl (q_move rfl) ?_
              refine L_qg rfl rfl rfl rfl rfl rfl rfl (q_true (q_eql rfl rfl) (by simp)) ?_
              refine L_q rfl rfl rfl (by first | exact q_pickT rfl rfl | exact q_pickF rfl rfl) ?_
              refine L_q rfl rfl rfl (q_move rfl) ?_
              refine L_qg rfl rfl rfl rfl rfl rfl rfl (q_move rfl) ?_
              refine L_qg rfl rfl rfl rfl rfl rfl rfl (q_true (q_eql rfl rfl) (by simp)) ?_
              refine L_q rfl rfl rfl (by first | exact q_pickT rfl rfl | exact q_pickF rfl rfl) ?_
              refine L_q rfl rfl rfl (q_assign rfl) ?_
              refine L_then ?_
              refine C_ret ?_
              exact ret_of (res1 rfl rfl) sub_nil (by intro r hr; cases hr) ⟨rfl, rfl⟩
            · -- t62 False
              exfalso; omega
        · -- t52 False
          refine C_skip_then ?_
          refine C_seq ?_
          refine C_seq ?_
          refine C_region ?_
          refine L_q rfl rfl rfl (q_move rfl) ?_
          refine L_q rfl rfl rfl (q_eql rfl rfl) ?_
          refine L_then ?_
          refine C_dec rfl (fun ha => ?_) (fun ha => ?_)
          · -- t57 True
            exfalso; omega
          · -- t57 False
            refine C_skip_then ?_
            refine C_seq ?_
            refine C_seq ?_
            refine C_region ?_
            refine L_q rfl rfl rfl (q_move rfl) ?_
            refine L_q rfl rfl rfl (q_neq rfl rfl) ?_
            refine L_then ?_
            refine C_dec rfl (fun he => ?_) (fun he => ?_)
            · -- t62 True
              have hs9 : shE nm sf gs ls r am = bothE nm sf gs ls r := shE_1 hb
              have hz : shE nm sf gs ls r am ≠ 0 := by rw [hs9]; exact hb
              rw [svE_1 hz, ltE_1 hz, hs9]
              refine C_seq ?_
              refine C_region ?_
              refine L_q rfl rfl rfl (q_move rfl) ?_
              refine L_q rfl rfl rfl (q_move rfl) ?_
              refine L_q rfl rfl rfl (q_true (q_eql rfl rfl) (by simp)) ?_
              refine L_q rfl rfl rfl (q_move rfl) ?_
              refine L_qg rfl rfl rfl rfl rfl rfl rfl (q_move rfl) ?_
              refine L_qg rfl rfl rfl rfl rfl rfl rfl (q_move rfl) ?_
              refine L_qg rfl rfl rfl rfl rfl rfl rfl (q_true (q_eql rfl rfl) (by simp)) ?_
              refine L_q rfl rfl rfl (by first | exact q_pickT rfl rfl | exact q_pickF rfl rfl) ?_
              refine L_q rfl rfl rfl (q_move rfl) ?_
              refine L_qg rfl rfl rfl rfl rfl rfl rfl (q_move rfl) ?_
              refine L_qg rfl rfl rfl rfl rfl rfl rfl (q_true (q_eql rfl rfl) (by simp)) ?_
              refine L_q rfl rfl rfl (by first | exact q_pickT rfl rfl | exact q_pickF rfl rfl) ?_
              refine L_q rfl rfl rfl (q_move rfl) ?_
              refine L_qg rfl rfl rfl rfl rfl rfl rfl (q_move rfl) ?_
              refine L_qg rfl rfl rfl rfl rfl rfl rfl (q_true (q_eql rfl rfl) (by simp)) ?_
              refine L_q rfl rfl rfl (by first | exact q_pickT rfl rfl | exact q_pickF rfl rfl) ?_
              refine L_q rfl rfl rfl (q_assign rfl) ?_
              refine L_then ?_
              refine C_ret ?_
              exact ret_of (res1 rfl rfl) sub_nil (by intro r hr; cases hr) ⟨rfl, rfl⟩
            · -- t62 False
              exfalso; omega
end Go.Proofs.Ytolnohjbpllmhaa
