/-
  Walks: each function named returns what its model says. Conditions: those in front of each theorem.
-/
import Derived.Test.YtolnohjbpllmhaaXS
import Derived.Test.YtolnohjbpllmhaaXQa
namespace Go.Proofs.Ytolnohjbpllmhaa
open Go.RowKit

set_option maxRecDepth 100000 in
set_option maxHeartbeats 1000000 in
theorem ct_shotlinelaw05_ExposureBreaks (t : Value) (r : Ru) (nm : ByteArray) (sf : Int) (v u : Value) (gs : List Gs) (ls : List Dl) : Ct Try.prog 14 [.agg (cPl nm sf v u).toArray, .agg (cRu t r).toArray] [(v, 2, gs.map cGs), (u, 3, ls.map cDl), (t, 2, r.tb.map cOw)] (isV (.bool true)) := by
  refine Ct.of (N := 106) Try.func14 rfl rfl rfl fun w => ?_
  refine C_weak (E' := [(0, .agg (cPl nm sf v u).toArray), (1, .agg (cRu t r).toArray)]) (rs' := [rd v 2 (gs.map cGs), rd u 3 (ls.map cDl), rd t 2 (r.tb.map cOw)]) ⟨rfl, rfl, trivial⟩ (fun _ h => h) ?_
  have hlp := len_map cGs gs
  have hl1 := len_map cGs gs
  have hl2 := len_map cDl ls
  have hlt9 := len_map cOw r.tb
  refine C_seq ?_
  refine C_region ?_
  refine L_box rfl rfl rfl fun g2 => ?_
  refine L_box rfl rfl rfl fun g3 => ?_
  refine L_q rfl rfl rfl (q_assign rfl) ?_
  refine L_then ?_
  refine C_seq ?_
  refine C_seq ?_
  refine C_region ?_
  refine L_call tb rfl rfl (ct_shotlinelaw05_awake) no_ps rfl ?_
  refine L_q rfl rfl rfl (q_not rfl (by first | exact (rfl : (!true) = false) | exact (rfl : (!false) = true) | exact decide_not.symm | rfl)) ?_
  refine L_then ?_
  refine C_false rfl ?_
  refine C_skip_then ?_
  refine C_seq ?_
  refine C_seq ?_
  refine C_region ?_
  refine L_q rfl rfl rfl (q_loadA tb rfl rfl bxo rfl rfl) ?_
  refine L_call tb rfl rfl (ct_shotlinelaw05_Short nm sf v u gs ls) (ps_cons (by first | exact gvo | exact gvd gvo (by omega)) (ps_cons (by first | exact gvo | exact gvd gvo (by omega)) no_ps)) rfl ?_
  refine L_q rfl rfl rfl (q_not rfl (by first | exact (rfl : (!true) = false) | exact (rfl : (!false) = true) | exact decide_not.symm | rfl)) ?_
  refine L_q rfl rfl rfl (q_move rfl) ?_
  refine L_dec (d := 17) rfl (fun hsn => ?_) (fun hsn => ?_)
  · -- t17 True
    refine L_skip rfl rfl rfl rfl rfl rfl rfl ?_
    refine L_skip rfl rfl rfl rfl rfl rfl rfl ?_
    refine L_skip rfl rfl rfl rfl rfl rfl rfl ?_
    refine L_q rfl rfl rfl (by first | exact q_pickT rfl rfl | exact q_pickF rfl rfl) ?_
    refine L_then ?_
    refine C_true rfl ?_
    refine C_seq ?_
    refine C_region ?_
    refine L_q rfl rfl rfl (q_assign rfl) ?_
    refine L_then ?_
    refine C_ret ?_
    exact ret_of (res1 rfl rfl) sub_nil (by intro r hr; cases hr) ⟨rfl, rfl⟩
  · -- t17 False
    have hsh := Decidable.not_not.1 hsn
    refine L_qg rfl rfl rfl rfl rfl rfl rfl (q_loadA tb rfl rfl bxo rfl rfl) ?_
    refine L_callg tb rfl rfl rfl rfl rfl rfl (ct_shotlinelaw05_few _ _) (ps_cons (by first | exact gvo | exact gvd gvo (by omega)) no_ps) rfl ?_
    refine L_qg rfl rfl rfl rfl rfl rfl rfl (q_not rfl (by first | exact (rfl : (!true) = false) | exact (rfl : (!false) = true) | exact decide_not.symm | rfl)) ?_
    refine L_q rfl rfl rfl (by first | exact q_pickT rfl rfl | exact q_pickF rfl rfl) ?_
    refine L_then ?_
    refine C_dec rfl (fun hfw => ?_) (fun hfw => ?_)
    · -- t21 True
      refine C_seq ?_
      refine C_region ?_
      refine L_q rfl rfl rfl (q_assign rfl) ?_
      refine L_then ?_
      refine C_ret ?_
      exact ret_of (res1 rfl rfl) sub_nil (by intro r hr; cases hr) ⟨rfl, rfl⟩
    · -- t21 False
      refine C_skip_then ?_
      refine C_seq ?_
      refine C_draw (n := 10) [(0, false), (2, false), (1, true), (3, true), (4, true), (5, false), (6, false), (7, false), (8, false), (9, false)] mixed (by kernel_rfl) ?_
      refine W_q rfl rfl rfl rfl (q_loadA tb rfl rfl bxo rfl rfl) ?_
      refine W_q rfl rfl rfl rfl (q_loadA tb rfl rfl bxo rfl rfl) ?_
      refine W_lo rfl rfl rfl rfl (lo_call tb rfl rfl (ct_shotlinebase_CopyPlan nm sf v u gs ls (by omega) (by omega)) (ps_cons (by first | exact gvo | exact gvd gvo (by omega)) (ps_cons (by first | exact gvo | exact gvd gvo (by omega)) no_ps)) (by rintro y rs ⟨a, b, _, rfl⟩ r hr; simp only [List.mem_cons, List.not_mem_nil, or_false] at hr; rcases hr with rfl | rfl <;> exact sl_sinks _ _ _ _)) ?_
      rintro _ _ ⟨a24, b24, rfl, rfl⟩
      refine W_lo rfl rfl rfl rfl (lo_call tb rfl rfl (ct_shotlineref05_Copy t r (by omega)) (ps_cons (by first | exact gvo | exact gvd gvo (by omega)) no_ps) (by rintro y rs ⟨a, _, rfl⟩ r hr; rw [List.mem_singleton.1 hr]; exact sl_sinks _ _ _ _)) ?_
      rintro _ _ ⟨a26, rfl, rfl⟩
      refine W_callSN tb rfl rfl rfl rfl (ct_exposure_Breaks a26 r nm sf a24 b24 gs ls (by omega) (by omega) (by omega) (by omega)) (ps_cons (by first | exact gvo | exact gvd gvo (by omega)) (ps_cons (by first | exact gvo | exact gvd gvo (by omega)) (ps_cons (by first | exact gvo | exact gvd gvo (by omega)) no_ps))) rfl fun v27 => ?_
      refine W_q rfl rfl rfl rfl (q_move rfl) ?_
      refine W_q rfl rfl rfl rfl (q_ext0 rfl) ?_
      refine W_q rfl rfl rfl rfl (q_ext1 rfl) ?_
      refine W_q rfl rfl rfl rfl (q_assign rfl) ?_
      refine W_q rfl rfl rfl rfl (q_assign rfl) ?_
      refine W_nil ?_
      refine L_then ?_
      refine C_seq ?_
      refine C_draw (n := 10) [(0, false), (2, false), (1, true), (3, true), (4, true), (5, false), (6, false), (7, false), (8, false), (9, false)] mixed (by kernel_rfl) ?_
      refine W_q rfl rfl rfl rfl (q_loadA tb rfl rfl bxo rfl rfl) ?_
      refine W_q rfl rfl rfl rfl (q_loadA tb rfl rfl bxo rfl rfl) ?_
      refine W_lo rfl rfl rfl rfl (lo_call tb rfl rfl (ct_shotlinebase_CopyPlan nm sf v u gs ls (by omega) (by omega)) (ps_cons (by first | exact gvo | exact gvd gvo (by omega)) (ps_cons (by first | exact gvo | exact gvd gvo (by omega)) no_ps)) (by rintro y rs ⟨a, b, _, rfl⟩ r hr; simp only [List.mem_cons, List.not_mem_nil, or_false] at hr; rcases hr with rfl | rfl <;> exact sl_sinks _ _ _ _)) ?_
      rintro _ _ ⟨a32, b32, rfl, rfl⟩
      refine W_lo rfl rfl rfl rfl (lo_call tb rfl rfl (ct_shotlineref05_Copy t r (by omega)) (ps_cons (by first | exact gvo | exact gvd gvo (by omega)) no_ps) (by rintro y rs ⟨a, _, rfl⟩ r hr; rw [List.mem_singleton.1 hr]; exact sl_sinks _ _ _ _)) ?_
      rintro _ _ ⟨a34, rfl, rfl⟩
      refine W_call tb rfl rfl rfl rfl (ct_exposure_FirstWrong a34 r nm sf a32 b32 gs ls (by omega) (by omega) (by omega) (by omega)) (ps_cons (by first | exact gvo | exact gvd gvo (by omega)) (ps_cons (by first | exact gvo | exact gvd gvo (by omega)) (ps_cons (by first | exact gvo | exact gvd gvo (by omega)) no_ps))) rfl ?_
      refine W_q rfl rfl rfl rfl (q_move rfl) ?_
      refine W_q rfl rfl rfl rfl (q_ext0 rfl) ?_
      refine W_q rfl rfl rfl rfl (q_ext1 rfl) ?_
      refine W_q rfl rfl rfl rfl (q_assign rfl) ?_
      refine W_q rfl rfl rfl rfl (q_assign rfl) ?_
      refine W_nil ?_
      refine L_then ?_
      refine C_seq ?_
      refine C_seq ?_
      refine C_region ?_
      refine L_q rfl rfl rfl (q_loadA tb rfl rfl bxo rfl rfl) ?_
      refine L_q rfl rfl rfl (q_loadA tb rfl rfl bxo rfl rfl) ?_
      refine L_call tb rfl rfl (ct_shotlineref05_Both t r nm sf v u gs ls (by omega) (by omega) (by omega)) (ps_cons (by first | exact gvo | exact gvd gvo (by omega)) (ps_cons (by first | exact gvo | exact gvd gvo (by omega)) (ps_cons (by first | exact gvo | exact gvd gvo (by omega)) no_ps))) rfl ?_
      refine L_q rfl rfl rfl (q_assign rfl) ?_
      refine L_then ?_
      refine C_seq ?_
      refine C_region ?_
      refine L_q rfl rfl rfl (q_move rfl) ?_
      refine L_q rfl rfl rfl (q_neq rfl rfl) ?_
      refine L_then ?_
      refine C_dec rfl (fun hb => ?_) (fun hb => ?_)
      · -- t42 True
        rw [brE_1 hb, fwE_1 hb]
        refine C_seq ?_
        refine C_region ?_
        refine L_q rfl rfl rfl (q_move rfl) ?_
        refine L_q rfl rfl rfl (q_move rfl) ?_
        refine L_q rfl rfl rfl (q_true (q_eql rfl rfl) (by simp)) ?_
        refine L_q rfl rfl rfl (q_move rfl) ?_
        refine L_qg rfl rfl rfl rfl rfl rfl rfl (q_move rfl) ?_
        refine L_qg rfl rfl rfl rfl rfl rfl rfl (q_move rfl) ?_
        refine L_qg rfl rfl rfl rfl rfl rfl rfl (q_true (q_eql rfl rfl) (by simp)) ?_
        refine L_q rfl rfl rfl (by first | exact q_pickT rfl rfl | exact q_pickF rfl rfl) ?_
        refine L_q rfl rfl rfl (q_move rfl) ?_
        refine L_qg rfl rfl rfl rfl rfl rfl rfl (q_move rfl) ?_
        refine L_qg rfl rfl rfl rfl rfl rfl rfl (q_len tb rfl rfl (by first | exact gvo | exact gvd gvo (by omega))) ?_
        refine L_qg rfl rfl rfl rfl rfl rfl rfl (q_true (q_eql rfl rfl) (by simp)) ?_
        refine L_q rfl rfl rfl (by first | exact q_pickT rfl rfl | exact q_pickF rfl rfl) ?_
        refine L_q rfl rfl rfl (q_move rfl) ?_
        refine L_qg rfl rfl rfl rfl rfl rfl rfl (q_move rfl) ?_
        refine L_qg rfl rfl rfl rfl rfl rfl rfl (q_true (q_eql rfl rfl) (by simp)) ?_
        refine L_q rfl rfl rfl (by first | exact q_pickT rfl rfl | exact q_pickF rfl rfl) ?_
        refine L_q rfl rfl rfl (q_assign rfl) ?_
        refine L_then ?_
        refine C_ret ?_
        exact ret_of (res1 rfl rfl) sub_nil (by intro r hr; cases hr) ⟨rfl, rfl⟩
      · -- t42 False
        have hb9 := Decidable.not_not.1 hb; obtain ⟨_, H, HR, _⟩ := bothE_ok hb9; have hll := H.ll
        rw [brE_2 hb9]
        have hbl := brs_len (r := r) (sf := sf) (gs := gs) (ls := ls) ls.length; have hbm := len_map cSw (brs r sf gs ls ls.length)
        refine C_skip_then ?_
        refine C_seq ?_
        refine C_region ?_
        refine L_q rfl rfl rfl (q_loadA tb rfl rfl bxo rfl rfl) ?_
        refine L_q rfl rfl rfl (q_loadA tb rfl rfl bxo rfl rfl) ?_
        refine L_callS tb rfl rfl (ct_shotlineref05_Breaks t r nm sf v u gs ls H HR) (ps_cons (by first | exact gvo | exact gvd gvo (by omega)) (ps_cons (by first | exact gvo | exact gvd gvo (by omega)) (ps_cons (by first | exact gvo | exact gvd gvo (by omega)) no_ps))) rfl fun v62 => ?_
        refine L_q rfl rfl rfl (q_assign rfl) ?_
        refine L_then ?_
        refine C_seq ?_
        refine C_seq ?_
        refine C_region ?_
        refine L_q rfl rfl rfl (q_move rfl) ?_
        refine L_q rfl rfl rfl (q_false (q_neq rfl rfl) (by simp)) ?_
        refine L_q rfl rfl rfl (q_move rfl) ?_
        refine L_qg rfl rfl rfl rfl rfl rfl rfl (q_move rfl) ?_
        refine L_qg rfl rfl rfl rfl rfl rfl rfl (q_len tb rfl rfl (by first | exact gvo | exact gvd gvo (by omega))) ?_
        refine L_qg rfl rfl rfl rfl rfl rfl rfl (q_move rfl) ?_
        refine L_qg rfl rfl rfl rfl rfl rfl rfl (q_len tb rfl rfl (by first | exact gvo | exact gvd gvo (by omega))) ?_
        refine L_qg rfl rfl rfl rfl rfl rfl rfl (q_false (q_neq rfl rfl) (by simp)) ?_
        refine L_q rfl rfl rfl (by first | exact q_pickT rfl rfl | exact q_pickF rfl rfl) ?_
        refine L_then ?_
        refine C_false rfl ?_
        refine C_skip_then ?_
        refine C_seq ?_
        refine C_seq ?_
        refine C_region ?_
        refine L_q rfl rfl rfl (q_assign rfl) ?_
        refine L_then ?_
        refine C_block ?_
        refine C_loop (ι := Nat) (fun k => ([(5, v27), (7, .int .i64 (fwE nm sf gs ls r).1), (8, .int .i64 (fwE nm sf gs ls r).2), (10, v62), (11, .int .i64 (k : Int))], [sl v27 93 2 ((brs r sf gs ls ls.length).map cSw), sl v62 93 2 ((brs r sf gs ls ls.length).map cSw)])) (fun k => k ≤ (brs r sf gs ls ls.length).length) (fun k => (brs r sf gs ls ls.length).length - k) 0 (Nat.zero_le _) (fun a w hs => hs.weak ⟨rfl, rfl, rfl, rfl, rfl, trivial⟩ (fun h => h.pk (by repeat (first | with_reducible exact pk_nil | refine pk_box rfl ?_ | refine pk_rd rfl ?_ | refine pk_sl rfl ?_ | with_reducible refine pk_app ?_ | with_reducible refine pk_app0 ?_ | with_reducible refine pk_app0L ?_ | with_reducible exact pk_tl | refine pk_var ?_)))) ?_
        intro k hk8
        dsimp only at hk8 ⊢
        refine C_seq ?_
        refine C_seq ?_
        refine C_region ?_
        refine L_q rfl rfl rfl (q_move rfl) ?_
        refine L_q rfl rfl rfl (q_move rfl) ?_
        refine L_q rfl rfl rfl (q_len tb rfl rfl (by first | exact gvo | exact gvd gvo (by omega))) ?_
        refine L_q rfl rfl rfl (q_lss rfl rfl) ?_
        refine L_then ?_
        refine C_dec rfl (fun h7 => ?_) (fun h7 => ?_)
        · -- t75 True
          obtain ⟨x, hx⟩ := get_some (brs r sf gs ls ls.length) (k := k) (by omega); have helx := map_get cSw hx
          refine C_skip_then ?_
          refine C_seq ?_
          refine C_block ?_
          refine C_seq ?_
          refine C_draw (n := 9) [(0, false), (1, false), (2, false), (3, false), (4, false), (5, false), (6, false), (7, false), (8, false)] mixed (by kernel_rfl) ?_
          refine W_q rfl rfl rfl rfl (q_move rfl) ?_
          refine W_q rfl rfl rfl rfl (q_move rfl) ?_
          refine W_q rfl rfl rfl rfl (by first | exact q_index tb rfl rfl rfl rfl (by first | exact gvo | exact gvd gvo (by omega)) (by omega) (by first | omega | (simp; done) | (simp; omega)) | exact q_indexP tb rfl rfl rfl rfl (by omega) (by omega)) ?_
          refine W_q rfl rfl rfl rfl (q_loadEA tb rfl rfl (by first | exact gvo | exact gvd gvo (by omega)) (i := k) (o := 0) (by omega) helx rfl rfl) ?_
          refine W_q rfl rfl rfl rfl (q_move rfl) ?_
          refine W_q rfl rfl rfl rfl (q_move rfl) ?_
          refine W_q rfl rfl rfl rfl (by first | exact q_index tb rfl rfl rfl rfl (by first | exact gvo | exact gvd gvo (by omega)) (by omega) (by first | omega | (simp; done) | (simp; omega)) | exact q_indexP tb rfl rfl rfl rfl (by omega) (by omega)) ?_
          refine W_q rfl rfl rfl rfl (q_loadEA tb rfl rfl (by first | exact gvo | exact gvd gvo (by omega)) (i := k) (o := 0) (by omega) helx rfl rfl) ?_
          refine W_q rfl rfl rfl rfl (q_false (q_neI (xs := [x.1, x.2]) (ys := [x.1, x.2]) eq93 (by omega) eg93 rfl rfl rfl rfl Iff.rfl) (by simp)) ?_
          refine W_nil ?_
          refine L_then ?_
          refine C_false rfl ?_
          refine C_skip_blk ?_
          refine C_region ?_
          refine L_q rfl rfl rfl (q_move rfl) ?_
          refine L_q rfl rfl rfl (q_add rfl rfl (by first | exact IntWalk.i64_in _ (by omega) | rfl)) ?_
          refine L_q rfl rfl rfl (q_assign rfl) ?_
          refine L_end ?_
          exact fun ac_ wo_ hs_ => ⟨k + 1, (by dsimp only; omega), (by dsimp only; omega), hs_.weak ⟨rfl, rfl, rfl, rfl, rfl, trivial⟩ (fun h => h.pk (by repeat (first | with_reducible exact pk_nil | refine pk_box rfl ?_ | refine pk_rd rfl ?_ | refine pk_sl rfl ?_ | with_reducible refine pk_app ?_ | with_reducible refine pk_app0 ?_ | with_reducible refine pk_app0L ?_ | with_reducible exact pk_tl | refine pk_var ?_)))⟩
        · -- t75 False
          refine C_exit ?_
          change C Try.prog _ _ _ _ _ _ _
          refine C_seq ?_
          refine C_seq ?_
          refine C_region ?_
          refine L_q rfl rfl rfl (q_move rfl) ?_
          refine L_q rfl rfl rfl (q_len tb rfl rfl (by first | exact gvo | exact gvd gvo (by omega))) ?_
          refine L_q rfl rfl rfl (q_eql rfl rfl) ?_
          refine L_then ?_
          refine C_dec rfl (fun h0 => ?_) (fun h0 => ?_)
          · -- t89 True
            rw [fwE_2 hb9 (by omega)]
            refine C_seq ?_
            refine C_region ?_
            refine L_q rfl rfl rfl (q_move rfl) ?_
            refine L_q rfl rfl rfl (q_true (q_eql rfl rfl) (by simp)) ?_
            refine L_q rfl rfl rfl (q_move rfl) ?_
            refine L_qg rfl rfl rfl rfl rfl rfl rfl (q_move rfl) ?_
            refine L_qg rfl rfl rfl rfl rfl rfl rfl (q_true (q_eql rfl rfl) (by simp)) ?_
            refine L_q rfl rfl rfl (by first | exact q_pickT rfl rfl | exact q_pickF rfl rfl) ?_
            refine L_q rfl rfl rfl (q_assign rfl) ?_
            refine L_then ?_
            refine C_ret ?_
            exact ret_of (res1 rfl rfl) sub_nil (by intro r hr; cases hr) ⟨rfl, rfl⟩
          · -- t89 False
            obtain ⟨x, hx⟩ := get_some (brs r sf gs ls ls.length) (k := 0) (by omega); have helx := map_get cSw hx
            rw [fwE_3 hb9 hx]
            refine C_skip_then ?_
            refine C_seq ?_
            refine C_region ?_
            refine L_q rfl rfl rfl (q_move rfl) ?_
            refine L_q rfl rfl rfl (q_true (q_eql rfl rfl) (by simp)) ?_
            refine L_q rfl rfl rfl (q_move rfl) ?_
            refine L_qg rfl rfl rfl rfl rfl rfl rfl (q_move rfl) ?_
            refine L_qg rfl rfl rfl rfl rfl rfl rfl (q_move rfl) ?_
            refine L_qg rfl rfl rfl rfl rfl rfl rfl (by first | exact q_index tb rfl rfl rfl rfl (by first | exact gvo | exact gvd gvo (by omega)) (by omega) (by first | omega | (simp; done) | (simp; omega)) | exact q_indexP tb rfl rfl rfl rfl (by omega) (by omega)) ?_
            refine L_qg rfl rfl rfl rfl rfl rfl rfl (q_fieldE tb rfl rfl rfl (by first | exact gvo | exact gvd gvo (by omega)) (by first | omega | (simp; done) | (simp; omega))) ?_
            refine L_qg rfl rfl rfl rfl rfl rfl rfl (q_loadE tb rfl rfl (by first | exact gvo | exact gvd gvo (by omega)) (i := 0) (o := 0) (by rfl) helx rfl) ?_
            refine L_qg rfl rfl rfl rfl rfl rfl rfl (q_true (q_eql rfl rfl) (by simp)) ?_
            refine L_q rfl rfl rfl (by first | exact q_pickT rfl rfl | exact q_pickF rfl rfl) ?_
            refine L_q rfl rfl rfl (q_assign rfl) ?_
            refine L_then ?_
            refine C_ret ?_
            exact ret_of (res1 rfl rfl) sub_nil (by intro r hr; cases hr) ⟨rfl, rfl⟩
end Go.Proofs.Ytolnohjbpllmhaa
