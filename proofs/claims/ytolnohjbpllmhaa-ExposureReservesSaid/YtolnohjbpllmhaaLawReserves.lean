/-
  Walks: each function named returns what its model says. Conditions: those in front of each theorem.
-/
import Derived.Test.YtolnohjbpllmhaaXY
namespace Go.Proofs.Ytolnohjbpllmhaa
open Go.RowKit

set_option maxRecDepth 100000 in
set_option maxHeartbeats 400000 in
theorem ct_shotlinelaw05_ExposureReserves (t : Value) (r : Ru) (nm : ByteArray) (sf : Int) (v u : Value) (gs : List Gs) (ls : List Dl) (n : Int) : Ct Try.prog 16 [.agg (cPl nm sf v u).toArray, .agg (cRu t r).toArray, .int .i64 n] [(v, 2, gs.map cGs), (u, 3, ls.map cDl), (t, 2, r.tb.map cOw)] (isV (.bool true)) := by
  refine Ct.of (N := 154) Try.func16 rfl rfl rfl fun w => ?_
  refine C_weak (E' := [(0, .agg (cPl nm sf v u).toArray), (1, .agg (cRu t r).toArray), (2, .int .i64 n)]) (rs' := [rd v 2 (gs.map cGs), rd u 3 (ls.map cDl), rd t 2 (r.tb.map cOw)]) ⟨rfl, rfl, rfl, trivial⟩ (fun _ h => h) ?_
  have hlp := len_map cGs gs
  have hl1 := len_map cGs gs
  have hl2 := len_map cDl ls
  have hlt9 := len_map cOw r.tb
  refine C_seq ?_
  refine C_region ?_
  refine L_box rfl rfl rfl fun g3 => ?_
  refine L_box rfl rfl rfl fun g4 => ?_
  refine L_q rfl rfl rfl (q_assign rfl) ?_
  refine L_then ?_
  refine C_seq ?_
  refine C_seq ?_
  refine C_region ?_
  refine L_call tb rfl rfl (ct_shotlinelaw05_awake) no_ps rfl ?_
  refine L_q rfl rfl rfl (q_not rfl (by first | exact (rfl : (!true) = false) | exact (rfl : (!false) = true) | exact decide_not.symm | rfl)) ?_
  refine L_then ?_
  refine C_false rfl ?_
  refine C_skip_then ?_
  refine C_seq ?_
  refine C_seq ?_
  refine C_region ?_
  refine L_q rfl rfl rfl (q_loadA tb rfl rfl bxo rfl rfl) ?_
  refine L_call tb rfl rfl (ct_shotlinelaw05_Brief nm sf v u gs ls) (ps_cons (by first | exact gvo | exact gvd gvo (by omega)) (ps_cons (by first | exact gvo | exact gvd gvo (by omega)) no_ps)) rfl ?_
  refine L_q rfl rfl rfl (q_not rfl (by first | exact (rfl : (!true) = false) | exact (rfl : (!false) = true) | exact decide_not.symm | rfl)) ?_
  refine L_q rfl rfl rfl (q_move rfl) ?_
  refine L_dec (d := 23) rfl (fun hbr => ?_) (fun hbr => ?_)
  · -- t23 True
    refine L_skip rfl rfl rfl rfl rfl rfl rfl ?_
    refine L_skip rfl rfl rfl rfl rfl rfl rfl ?_
    refine L_skip rfl rfl rfl rfl rfl rfl rfl ?_
    refine L_q rfl rfl rfl (by first | exact q_pickT rfl rfl | exact q_pickF rfl rfl) ?_
    refine L_then ?_
    refine C_true rfl ?_
    refine C_seq ?_
    refine C_region ?_
    refine L_q rfl rfl rfl (q_assign rfl) ?_
    refine L_then ?_
    refine C_ret ?_
    exact ret_of (res1 rfl rfl) sub_nil (by intro r hr; cases hr) ⟨rfl, rfl⟩
  · -- t23 False
    have hsh := (Decidable.not_not.1 hbr).1
    refine L_qg rfl rfl rfl rfl rfl rfl rfl (q_loadA tb rfl rfl bxo rfl rfl) ?_
    refine L_callg tb rfl rfl rfl rfl rfl rfl (ct_shotlinelaw05_few _ _) (ps_cons (by first | exact gvo | exact gvd gvo (by omega)) no_ps) rfl ?_
    refine L_qg rfl rfl rfl rfl rfl rfl rfl (q_not rfl (by first | exact (rfl : (!true) = false) | exact (rfl : (!false) = true) | exact decide_not.symm | rfl)) ?_
    refine L_q rfl rfl rfl (by first | exact q_pickT rfl rfl | exact q_pickF rfl rfl) ?_
    refine L_then ?_
    refine C_dec rfl (fun hfw => ?_) (fun hfw => ?_)
    · -- t27 True
      refine C_seq ?_
      refine C_region ?_
      refine L_q rfl rfl rfl (q_assign rfl) ?_
      refine L_then ?_
      refine C_ret ?_
      exact ret_of (res1 rfl rfl) sub_nil (by intro r hr; cases hr) ⟨rfl, rfl⟩
    · -- t27 False
      refine C_skip_then ?_
      refine C_seq ?_
      refine C_draw (n := 10) [(0, false), (2, false), (1, true), (3, true), (4, true), (5, false), (6, false), (7, false), (8, false), (9, false)] mixed (by kernel_rfl) ?_
      refine W_q rfl rfl rfl rfl (q_loadA tb rfl rfl bxo rfl rfl) ?_
      refine W_q rfl rfl rfl rfl (q_loadA tb rfl rfl bxo rfl rfl) ?_
      refine W_lo rfl rfl rfl rfl (lo_call tb rfl rfl (ct_shotlinebase_CopyPlan nm sf v u gs ls (by omega) (by omega)) (ps_cons (by first | exact gvo | exact gvd gvo (by omega)) (ps_cons (by first | exact gvo | exact gvd gvo (by omega)) no_ps)) (by rintro y rs ⟨a, b, _, rfl⟩ r hr; simp only [List.mem_cons, List.not_mem_nil, or_false] at hr; rcases hr with rfl | rfl <;> exact sl_sinks _ _ _ _)) ?_
      rintro _ _ ⟨a30, b30, rfl, rfl⟩
      refine W_lo rfl rfl rfl rfl (lo_call tb rfl rfl (ct_shotlineref05_Copy t r (by omega)) (ps_cons (by first | exact gvo | exact gvd gvo (by omega)) no_ps) (by rintro y rs ⟨a, _, rfl⟩ r hr; rw [List.mem_singleton.1 hr]; exact sl_sinks _ _ _ _)) ?_
      rintro _ _ ⟨a32, rfl, rfl⟩
      refine W_callSN tb rfl rfl rfl rfl (ct_exposure_Reserves a32 r nm sf a30 b30 gs ls (by omega) (by omega) (by omega) (by omega)) (ps_cons (by first | exact gvo | exact gvd gvo (by omega)) (ps_cons (by first | exact gvo | exact gvd gvo (by omega)) (ps_cons (by first | exact gvo | exact gvd gvo (by omega)) no_ps))) rfl fun v33 => ?_
      refine W_q rfl rfl rfl rfl (q_move rfl) ?_
      refine W_q rfl rfl rfl rfl (q_ext0 rfl) ?_
      refine W_q rfl rfl rfl rfl (q_ext1 rfl) ?_
      refine W_q rfl rfl rfl rfl (q_assign rfl) ?_
      refine W_q rfl rfl rfl rfl (q_assign rfl) ?_
      refine W_nil ?_
      refine L_then ?_
      refine C_seq ?_
      refine C_seq ?_
      refine C_region ?_
      refine L_q rfl rfl rfl (q_loadA tb rfl rfl bxo rfl rfl) ?_
      refine L_q rfl rfl rfl (q_loadA tb rfl rfl bxo rfl rfl) ?_
      refine L_call tb rfl rfl (ct_shotlinelaw05_followed t r nm sf v u gs ls (by omega) (by omega) (by omega)) (ps_cons (by first | exact gvo | exact gvd gvo (by omega)) (ps_cons (by first | exact gvo | exact gvd gvo (by omega)) (ps_cons (by first | exact gvo | exact gvd gvo (by omega)) no_ps))) rfl ?_
      refine L_q rfl rfl rfl (q_assign rfl) ?_
      refine L_then ?_
      refine C_seq ?_
      refine C_region ?_
      refine L_q rfl rfl rfl (q_move rfl) ?_
      refine L_q rfl rfl rfl (q_neq rfl rfl) ?_
      refine L_then ?_
      refine C_dec rfl (fun he => ?_) (fun he => ?_)
      · -- t40 True
        rw [reE_1 he]
        refine C_seq ?_
        refine C_region ?_
        refine L_q rfl rfl rfl (q_move rfl) ?_
        refine L_q rfl rfl rfl (q_move rfl) ?_
        refine L_q rfl rfl rfl (q_true (q_eql rfl rfl) (by simp)) ?_
        refine L_q rfl rfl rfl (q_move rfl) ?_
        refine L_qg rfl rfl rfl rfl rfl rfl rfl (q_move rfl) ?_
        refine L_qg rfl rfl rfl rfl rfl rfl rfl (q_len tb rfl rfl (by first | exact gvo | exact gvd gvo (by omega))) ?_
        refine L_qg rfl rfl rfl rfl rfl rfl rfl (q_true (q_eql rfl rfl) (by simp)) ?_
        refine L_q rfl rfl rfl (by first | exact q_pickT rfl rfl | exact q_pickF rfl rfl) ?_
        refine L_q rfl rfl rfl (q_assign rfl) ?_
        refine L_then ?_
        refine C_ret ?_
        exact ret_of (res1 rfl rfl) sub_nil (by intro r hr; cases hr) ⟨rfl, rfl⟩
      · -- t40 False
        have he9 := Decidable.not_not.1 he; obtain ⟨hb0, hT⟩ := toldE_0 he9; obtain ⟨_, H, HR, _⟩ := bothE_ok hb0; have hgl := H.gl; have hTe := H.e ls.length (Nat.le_refl _); have hrl := resM_len (r := r) (sf := sf) (gs := gs) (ls := ls); have hlm : ((resM r sf gs ls).map cSw).length = gs.length := by rw [List.length_map, resM_len]
        rw [reE_2 he9]
        refine C_skip_then ?_
        refine C_seq ?_
        refine C_region ?_
        refine L_q rfl rfl rfl (q_loadA tb rfl rfl bxo rfl rfl) ?_
        refine L_q rfl rfl rfl (q_loadA tb rfl rfl bxo rfl rfl) ?_
        refine L_callS tb rfl rfl (ct_shotlineref05_Reserves t r nm sf v u gs ls H HR (by omega)) (ps_cons (by first | exact gvo | exact gvd gvo (by omega)) (ps_cons (by first | exact gvo | exact gvd gvo (by omega)) (ps_cons (by first | exact gvo | exact gvd gvo (by omega)) no_ps))) rfl fun v51 => ?_
        refine L_q rfl rfl rfl (q_assign rfl) ?_
        refine L_then ?_
        refine C_seq ?_
        refine C_seq ?_
        refine C_region ?_
        refine L_q rfl rfl rfl (q_move rfl) ?_
        refine L_q rfl rfl rfl (q_false (q_neq rfl rfl) (by simp)) ?_
        refine L_q rfl rfl rfl (q_move rfl) ?_
        refine L_qg rfl rfl rfl rfl rfl rfl rfl (q_move rfl) ?_
        refine L_qg rfl rfl rfl rfl rfl rfl rfl (q_len tb rfl rfl (by first | exact gvo | exact gvd gvo (by omega))) ?_
        refine L_qg rfl rfl rfl rfl rfl rfl rfl (q_move rfl) ?_
        refine L_qg rfl rfl rfl rfl rfl rfl rfl (q_len tb rfl rfl (by first | exact gvo | exact gvd gvo (by omega))) ?_
        refine L_qg rfl rfl rfl rfl rfl rfl rfl (q_false (q_neq rfl rfl) (by simp)) ?_
        refine L_q rfl rfl rfl (by first | exact q_pickT rfl rfl | exact q_pickF rfl rfl) ?_
        refine L_then ?_
        refine C_false rfl ?_
        refine C_skip_then ?_
        refine C_seq ?_
        refine C_region ?_
        refine L_q rfl rfl rfl (q_assign rfl) ?_
        refine L_then ?_
        refine C_seq ?_
        refine C_seq ?_
        refine C_region ?_
        refine L_q rfl rfl rfl (q_assign rfl) ?_
        refine L_then ?_
        refine C_block ?_
        refine C_nil 3 1 ?_
        refine C_loop (ι := Nat × Value) (fun q => ([(2, .int .i64 n), (3, .pointer (some ⟨g3, 0, none⟩)), (4, .pointer (some ⟨g4, 0, none⟩)), (7, v33), (10, v51), (11, q.2), (12, .int .i64 (q.1 : Int))], [sl q.2 3 1 ((amK r sf gs ls q.1).map cI), sl v33 109 2 ((resM r sf gs ls).map cSw), sl v51 109 2 ((resM r sf gs ls).map cSw), box g3 44 (cPl nm sf v u), box g4 28 (cRu t r), rd v 2 (gs.map cGs), rd u 3 (ls.map cDl), rd t 2 (r.tb.map cOw)])) (fun q => q.1 ≤ gs.length ∧ ∀ (i : Nat) (x : Int × Int), i < q.1 → (resM r sf gs ls)[i]? = some x → x.1 ≤ 1000000000) (fun q => gs.length - q.1) (0, .slice none 0 0) ⟨Nat.zero_le _, fun i x h => absurd h (Nat.not_lt_zero _)⟩ (fun a w hs => hs.weak ⟨rfl, rfl, rfl, rfl, rfl, rfl, rfl, trivial⟩ (fun h => h.pk (by repeat (first | with_reducible exact pk_nil | refine pk_box rfl ?_ | refine pk_rd rfl ?_ | refine pk_sl rfl ?_ | with_reducible refine pk_app ?_ | with_reducible refine pk_app0 ?_ | with_reducible refine pk_app0L ?_ | with_reducible exact pk_tl | refine pk_var ?_)))) ?_
        rintro ⟨k, y⟩ ⟨hk9, hgd⟩
        dsimp only at hk9 hgd ⊢
        refine C_seq ?_
        refine C_seq ?_
        refine C_region ?_
        refine L_q rfl rfl rfl (q_move rfl) ?_
        refine L_q rfl rfl rfl (q_move rfl) ?_
        refine L_q rfl rfl rfl (q_len tb rfl rfl (by first | exact gvo | exact gvd gvo (by omega))) ?_
        refine L_q rfl rfl rfl (q_lss rfl rfl) ?_
        refine L_then ?_
        refine C_dec rfl (fun h7 => ?_) (fun h7 => ?_)
        · -- t64 True
          obtain ⟨x, hx⟩ := get_some (resM r sf gs ls) (k := k) (by omega); have helx := map_get cSw hx; have hal := amK_len (r := r) (sf := sf) (ls := ls) (gs := gs) (k := k) (by omega); have hnn := ent_nn H HR (by omega) hx
          refine C_skip_then ?_
          refine C_seq ?_
          refine C_block ?_
          refine C_seq ?_
          refine C_seq ?_
          refine C_draw (n := 9) [(0, false), (1, false), (2, false), (3, false), (4, false), (5, false), (6, false), (7, false), (8, false)] mixed (by kernel_rfl) ?_
          refine W_q rfl rfl rfl rfl (q_move rfl) ?_
          refine W_q rfl rfl rfl rfl (q_move rfl) ?_
          refine W_q rfl rfl rfl rfl (by first | exact q_index tb rfl rfl rfl rfl (by first | exact gvo | exact gvd gvo (by omega)) (by omega) (by first | omega | (simp; done) | (simp; omega)) | exact q_indexP tb rfl rfl rfl rfl (by omega) (by omega)) ?_
          refine W_q rfl rfl rfl rfl (q_loadEA tb rfl rfl (by first | exact gvo | exact gvd gvo (by omega)) (i := k) (o := 0) (by omega) helx rfl rfl) ?_
          refine W_q rfl rfl rfl rfl (q_move rfl) ?_
          refine W_q rfl rfl rfl rfl (q_move rfl) ?_
          refine W_q rfl rfl rfl rfl (by first | exact q_index tb rfl rfl rfl rfl (by first | exact gvo | exact gvd gvo (by omega)) (by omega) (by first | omega | (simp; done) | (simp; omega)) | exact q_indexP tb rfl rfl rfl rfl (by omega) (by omega)) ?_
          refine W_q rfl rfl rfl rfl (q_loadEA tb rfl rfl (by first | exact gvo | exact gvd gvo (by omega)) (i := k) (o := 0) (by omega) helx rfl rfl) ?_
          refine W_q rfl rfl rfl rfl (q_false (q_neI (xs := [x.1, x.2]) (ys := [x.1, x.2]) eq109 (by omega) eg109 rfl rfl rfl rfl Iff.rfl) (by simp)) ?_
          refine W_nil ?_
          refine L_then ?_
          refine C_false rfl ?_
          refine C_skip_then ?_
          refine C_seq ?_
          refine C_seq ?_
          refine C_region ?_
          refine L_q rfl rfl rfl (q_move rfl) ?_
          refine L_q rfl rfl rfl (q_move rfl) ?_
          refine L_q rfl rfl rfl (by first | exact q_index tb rfl rfl rfl rfl (by first | exact gvo | exact gvd gvo (by omega)) (by omega) (by first | omega | (simp; done) | (simp; omega)) | exact q_indexP tb rfl rfl rfl rfl (by omega) (by omega)) ?_
          refine L_q rfl rfl rfl (q_fieldE tb rfl rfl rfl (by first | exact gvo | exact gvd gvo (by omega)) (by first | omega | (simp; done) | (simp; omega))) ?_
          refine L_q rfl rfl rfl (q_loadE tb rfl rfl (by first | exact gvo | exact gvd gvo (by omega)) (i := k) (o := 0) (by omega) helx rfl) ?_
          refine L_q rfl rfl rfl (q_gtr rfl rfl) ?_
          refine L_then ?_
          refine C_dec rfl (fun hbig => ?_) (fun hbig => ?_)
          · -- t81 True
            refine C_seq ?_
            refine C_region ?_
            refine L_q rfl rfl rfl (q_assign rfl) ?_
            refine L_then ?_
            refine C_ret ?_
            exact ret_of (res1 rfl rfl) sub_nil (by intro r hr; cases hr) ⟨rfl, rfl⟩
          · -- t81 False
            refine C_skip_then ?_
            refine C_region ?_
            refine L_q rfl rfl rfl (q_move rfl) ?_
            refine L_q rfl rfl rfl (q_move rfl) ?_
            refine L_q rfl rfl rfl (q_move rfl) ?_
            refine L_q rfl rfl rfl (by first | exact q_index tb rfl rfl rfl rfl (by first | exact gvo | exact gvd gvo (by omega)) (by omega) (by first | omega | (simp; done) | (simp; omega)) | exact q_indexP tb rfl rfl rfl rfl (by omega) (by omega)) ?_
            refine L_q rfl rfl rfl (q_fieldE tb rfl rfl rfl (by first | exact gvo | exact gvd gvo (by omega)) (by first | omega | (simp; done) | (simp; omega))) ?_
            refine L_q rfl rfl rfl (q_loadE tb rfl rfl (by first | exact gvo | exact gvd gvo (by omega)) (i := k) (o := 0) (by omega) helx rfl) ?_
            refine L_mk (lo_bslice tb rfl rfl rfl (xs := [cI x.1]) rfl rfl (by simp [cI]) rfl (by omega) rfl) rfl rfl rfl fun v88 => ?_
            first | (refine L_front1 ?_; refine L_append tb rfl rfl rfl (by omega) rfl rfl (by first | exact gvo | exact gvd gvo (by omega)) (by simp [Value.oneCell', cI]) (by simp [maxLen, List.length_map]; omega) (by simp [List.length_map]; omega) rfl fun v89 => ?_) | (refine L_front2 ?_; refine L_append tb rfl rfl rfl (by omega) rfl rfl (by first | exact gvo | exact gvd gvo (by omega)) (by simp [Value.oneCell', cI]) (by simp [maxLen, List.length_map]; omega) (by simp [List.length_map]; omega) rfl fun v89 => ?_) | (refine L_front3 ?_; refine L_append tb rfl rfl rfl (by omega) rfl rfl (by first | exact gvo | exact gvd gvo (by omega)) (by simp [Value.oneCell', cI]) (by simp [maxLen, List.length_map]; omega) (by simp [List.length_map]; omega) rfl fun v89 => ?_) | (refine L_front4 ?_; refine L_append tb rfl rfl rfl (by omega) rfl rfl (by first | exact gvo | exact gvd gvo (by omega)) (by simp [Value.oneCell', cI]) (by simp [maxLen, List.length_map]; omega) (by simp [List.length_map]; omega) rfl fun v89 => ?_) | (refine L_front5 ?_; refine L_append tb rfl rfl rfl (by omega) rfl rfl (by first | exact gvo | exact gvd gvo (by omega)) (by simp [Value.oneCell', cI]) (by simp [maxLen, List.length_map]; omega) (by simp [List.length_map]; omega) rfl fun v89 => ?_) | (refine L_front6 ?_; refine L_append tb rfl rfl rfl (by omega) rfl rfl (by first | exact gvo | exact gvd gvo (by omega)) (by simp [Value.oneCell', cI]) (by simp [maxLen, List.length_map]; omega) (by simp [List.length_map]; omega) rfl fun v89 => ?_) | (refine L_append tb rfl rfl rfl (by omega) rfl rfl (by first | exact gvo | exact gvd gvo (by omega)) (by simp [Value.oneCell', cI]) (by simp [maxLen, List.length_map]; omega) (by simp [List.length_map]; omega) rfl fun v89 => ?_)
            refine L_q rfl rfl rfl (q_assign rfl) ?_
            refine L_blk ?_
            refine C_region ?_
            refine L_q rfl rfl rfl (q_move rfl) ?_
            refine L_q rfl rfl rfl (q_add rfl rfl (by first | exact IntWalk.i64_in _ (by omega) | rfl)) ?_
            refine L_q rfl rfl rfl (q_assign rfl) ?_
            refine L_end ?_
            exact fun ac_ wo_ hs_ => ⟨(k + 1, v89), ⟨by dsimp only; omega, fun i z hi hz => if h9 : i < k then hgd i z h9 hz else (by dsimp only at hi; have e9 := (show i = k by omega); subst e9; rw [hx] at hz; injection hz with hz; rw [← hz]; omega)⟩, (by dsimp only; omega), hs_.weak ⟨rfl, rfl, rfl, rfl, rfl, rfl, rfl, trivial⟩ (fun h => h.pk (by repeat (first | with_reducible exact pk_nil | refine pk_box (by first | rfl | exact am_cells hx) ?_ | refine pk_rd rfl ?_ | refine pk_sl (by first | rfl | exact am_cells hx) ?_ | with_reducible refine pk_app ?_ | with_reducible refine pk_app0 ?_ | with_reducible refine pk_app0L ?_ | with_reducible exact pk_tl | refine pk_var ?_)))⟩
        · -- t64 False
          obtain rfl : k = gs.length := by omega
          rw [amK_all]
          have hall := am_all H HR (by omega) (fun i x h => hgd i x h); have ham := am_ok amM_len hall; have hs0 := shE_4 (nm := nm) hb0 ham hT; have hlA : ((amM r sf gs ls).map cI).length = gs.length := by rw [List.length_map, amM_len]
          refine C_exit ?_
          change C Try.prog _ _ _ _ _ _ _
          refine C_seq ?_
          refine C_draw (n := 12) [(0, false), (2, false), (4, false), (1, true), (3, true), (5, true), (6, true), (7, false), (8, false), (9, false), (10, false), (11, false)] mixed (by kernel_rfl) ?_
          refine W_q rfl rfl rfl rfl (q_loadA tb rfl rfl bxo rfl rfl) ?_
          refine W_q rfl rfl rfl rfl (q_loadA tb rfl rfl bxo rfl rfl) ?_
          refine W_q rfl rfl rfl rfl (q_move rfl) ?_
          refine W_lo rfl rfl rfl rfl (lo_call tb rfl rfl (ct_shotlinebase_CopyPlan nm sf v u gs ls (by omega) (by omega)) (ps_cons (by first | exact gvo | exact gvd gvo (by omega)) (ps_cons (by first | exact gvo | exact gvd gvo (by omega)) no_ps)) (by rintro y rs ⟨a, b, _, rfl⟩ r hr; simp only [List.mem_cons, List.not_mem_nil, or_false] at hr; rcases hr with rfl | rfl <;> exact sl_sinks _ _ _ _)) ?_
          rintro _ _ ⟨a92, b92, rfl, rfl⟩
          refine W_lo rfl rfl rfl rfl (lo_call tb rfl rfl (ct_shotlineref05_Copy t r (by omega)) (ps_cons (by first | exact gvo | exact gvd gvo (by omega)) no_ps) (by rintro y rs ⟨a, _, rfl⟩ r hr; rw [List.mem_singleton.1 hr]; exact sl_sinks _ _ _ _)) ?_
          rintro _ _ ⟨a94, rfl, rfl⟩
          refine W_callS tb rfl rfl rfl rfl (ct_shotlinebase_CopyInts y (amM r sf gs ls) (by rw [amM_len]; omega)) (ps_cons (by first | exact gvo | exact gvd gvo (by omega)) no_ps) rfl fun v96 => ?_
          refine W_call tb rfl rfl rfl rfl (ct_exposure_Survives a94 r nm sf a92 b92 gs ls v96 (amM r sf gs ls) (by omega) (by omega) (by omega) (by omega) (by rw [amM_len]; omega)) (ps_cons (by first | exact gvo | exact gvd gvo (by omega)) (ps_cons (by first | exact gvo | exact gvd gvo (by omega)) (ps_cons (by first | exact gvo | exact gvd gvo (by omega)) (ps_cons (by first | exact gvo | exact gvd gvo (by omega)) no_ps)))) rfl ?_
          rw [svE_3 hs0 (by rw [res_suff H]; decide)]
          refine W_q rfl rfl rfl rfl (q_move rfl) ?_
          refine W_q rfl rfl rfl rfl (q_ext0 rfl) ?_
          refine W_q rfl rfl rfl rfl (q_ext1 rfl) ?_
          refine W_q rfl rfl rfl rfl (q_assign rfl) ?_
          refine W_q rfl rfl rfl rfl (q_assign rfl) ?_
          refine W_nil ?_
          refine L_then ?_
          refine C_seq ?_
          refine C_seq ?_
          refine C_region ?_
          refine L_q rfl rfl rfl (q_move rfl) ?_
          refine L_q rfl rfl rfl (q_false (q_neq rfl rfl) (by simp)) ?_
          refine L_q rfl rfl rfl (q_move rfl) ?_
          refine L_qg rfl rfl rfl rfl rfl rfl rfl (q_move rfl) ?_
          refine L_qg rfl rfl rfl rfl rfl rfl rfl (q_loadA tb rfl rfl bxo rfl rfl) ?_
          refine L_callg tb rfl rfl rfl rfl rfl rfl (ct_shotlineref02_Seconds nm sf v u gs ls H) (ps_cons (by first | exact gvo | exact gvd gvo (by omega)) (ps_cons (by first | exact gvo | exact gvd gvo (by omega)) no_ps)) rfl ?_
          refine L_qg rfl rfl rfl rfl rfl rfl rfl (q_false (q_neq rfl rfl) (by simp)) ?_
          refine L_q rfl rfl rfl (by first | exact q_pickT rfl rfl | exact q_pickF rfl rfl) ?_
          refine L_then ?_
          refine C_false rfl ?_
          refine C_skip_then ?_
          refine C_seq ?_
          refine C_region ?_
          refine L_q rfl rfl rfl (q_move rfl) ?_
          refine L_q rfl rfl rfl (q_move rfl) ?_
          refine L_q rfl rfl rfl (q_len tb rfl rfl (by first | exact gvo | exact gvd gvo (by omega))) ?_
          rw [hlm]
          refine L_call tb rfl rfl (ct_shotlinebase_Mod n (gs.length : Int) (by omega)) no_ps rfl ?_
          refine L_q rfl rfl rfl (q_assign rfl) ?_
          refine L_then ?_
          refine C_seq ?_
          refine C_seq ?_
          obtain ⟨j, hj⟩ : ∃ j : Nat, n % (gs.length : Int) = j := ⟨(n % (gs.length : Int)).toNat, by have := Int.emod_nonneg n (show (gs.length : Int) ≠ 0 by omega); omega⟩
          have hj2 : (j : Int) < gs.length := by have := Int.emod_lt_of_pos n (show (0 : Int) < gs.length by omega); omega
          rw [hj]
          obtain ⟨x, hx⟩ := get_some (resM r sf gs ls) (k := j) (by omega)
          have helx := map_get cSw hx; have hea := map_get cI (amM_get hx)
          refine C_region ?_
          refine L_q rfl rfl rfl (q_move rfl) ?_
          refine L_q rfl rfl rfl (q_move rfl) ?_
          refine L_q rfl rfl rfl (by first | exact q_index tb rfl rfl rfl rfl (by first | exact gvo | exact gvd gvo (by omega)) (by omega) (by first | omega | (simp; done) | (simp; omega)) | exact q_indexP tb rfl rfl rfl rfl (by omega) (by omega)) ?_
          refine L_q rfl rfl rfl (q_fieldE tb rfl rfl rfl (by first | exact gvo | exact gvd gvo (by omega)) (by first | omega | (simp; done) | (simp; omega))) ?_
          refine L_q rfl rfl rfl (q_loadE tb rfl rfl (by first | exact gvo | exact gvd gvo (by omega)) (i := j) (o := 1) (by omega) helx rfl) ?_
          refine L_q rfl rfl rfl (q_lss rfl rfl) ?_
          refine L_q rfl rfl rfl (q_move rfl) ?_
          refine L_dec (d := 118) rfl (fun hneg => ?_) (fun hneg => ?_)
          · -- t118 True
            refine L_skip rfl rfl rfl rfl rfl rfl rfl ?_
            refine L_skip rfl rfl rfl rfl rfl rfl rfl ?_
            refine L_skip rfl rfl rfl rfl rfl rfl rfl ?_
            refine L_skip rfl rfl rfl rfl rfl rfl rfl ?_
            refine L_skip rfl rfl rfl rfl rfl rfl rfl ?_
            refine L_q rfl rfl rfl (by first | exact q_pickT rfl rfl | exact q_pickF rfl rfl) ?_
            refine L_then ?_
            refine C_true rfl ?_
            refine C_seq ?_
            refine C_region ?_
            refine L_q rfl rfl rfl (q_assign rfl) ?_
            refine L_then ?_
            refine C_ret ?_
            exact ret_of (res1 rfl rfl) sub_nil (by intro r hr; cases hr) ⟨rfl, rfl⟩
          · -- t118 False
            refine L_qg rfl rfl rfl rfl rfl rfl rfl (q_move rfl) ?_
            refine L_qg rfl rfl rfl rfl rfl rfl rfl (q_move rfl) ?_
            refine L_qg rfl rfl rfl rfl rfl rfl rfl (by first | exact q_index tb rfl rfl rfl rfl (by first | exact gvo | exact gvd gvo (by omega)) (by omega) (by first | omega | (simp; done) | (simp; omega)) | exact q_indexP tb rfl rfl rfl rfl (by omega) (by omega)) ?_
            refine L_qg rfl rfl rfl rfl rfl rfl rfl (q_loadE tb rfl rfl (by first | exact gvo | exact gvd gvo (by omega)) (i := j) (o := 0) (by omega) hea rfl) ?_
            refine L_qg rfl rfl rfl rfl rfl rfl rfl (q_eql rfl rfl) ?_
            refine L_q rfl rfl rfl (by first | exact q_pickT rfl rfl | exact q_pickF rfl rfl) ?_
            refine L_then ?_
            refine C_dec rfl (fun hzr => ?_) (fun hzr => ?_)
            · -- t124 True
              refine C_seq ?_
              refine C_region ?_
              refine L_q rfl rfl rfl (q_assign rfl) ?_
              refine L_then ?_
              refine C_ret ?_
              exact ret_of (res1 rfl rfl) sub_nil (by intro r hr; cases hr) ⟨rfl, rfl⟩
            · -- t124 False
              have hx1 := ent_nn H HR (by omega) hx; have hx2 := hgd j x (by omega) hx; have hs1 := shE_4 (nm := nm) hb0 (am_set (j := j) (x := x.1) hall (by omega)) hT
              refine C_skip_then ?_
              refine C_seq ?_
              refine C_res (rs' := [sl y 3 1 ((amM r sf gs ls).map cI), sl v33 109 2 ((resM r sf gs ls).map cSw), box g3 44 (cPl nm sf v u), box g4 28 (cRu t r), rd v 2 (gs.map cGs), rd u 3 (ls.map cDl), rd t 2 (r.tb.map cOw)]) (fun _ h => h.pk (by repeat (first | with_reducible exact pk_nil | refine pk_box rfl ?_ | refine pk_rd rfl ?_ | refine pk_sl rfl ?_ | with_reducible refine pk_app ?_ | with_reducible refine pk_app0 ?_ | with_reducible refine pk_app0L ?_ | with_reducible exact pk_tl | refine pk_var ?_))) ?_
              refine C_region ?_
              refine L_q rfl rfl rfl (q_move rfl) ?_
              refine L_q rfl rfl rfl (q_move rfl) ?_
              refine L_q rfl rfl rfl (q_move rfl) ?_
              refine L_q rfl rfl rfl (q_move rfl) ?_
              refine L_q rfl rfl rfl (by first | exact q_index tb rfl rfl rfl rfl (by first | exact gvo | exact gvd gvo (by omega)) (by omega) (by first | omega | (simp; done) | (simp; omega)) | exact q_indexP tb rfl rfl rfl rfl (by omega) (by omega)) ?_
              refine L_q rfl rfl rfl (q_loadE tb rfl rfl (by first | exact gvo | exact gvd gvo (by omega)) (i := j) (o := 0) (by omega) hea rfl) ?_
              refine L_q rfl rfl rfl (q_sub rfl rfl (by first | exact IntWalk.i64_in _ (by omega) | rfl)) ?_
              refine L_q rfl rfl rfl (by first | exact q_index tb rfl rfl rfl rfl (by first | exact gvo | exact gvd gvo (by omega)) (by omega) (by first | omega | (simp; done) | (simp; omega)) | exact q_indexP tb rfl rfl rfl rfl (by omega) (by omega)) ?_
              first | refine L_storeEl tb rfl rfl rfl rfl rfl rfl (i := j) (by omega) (by omega) ?_ | (refine L_front1 ?_; refine L_storeEl tb rfl rfl rfl rfl rfl rfl (i := j) (by omega) (by omega) ?_) | (refine L_front2 ?_; refine L_storeEl tb rfl rfl rfl rfl rfl rfl (i := j) (by omega) (by omega) ?_) | (refine L_front3 ?_; refine L_storeEl tb rfl rfl rfl rfl rfl rfl (i := j) (by omega) (by omega) ?_) | (refine L_front4 ?_; refine L_storeEl tb rfl rfl rfl rfl rfl rfl (i := j) (by omega) (by omega) ?_) | (refine L_front5 ?_; refine L_storeEl tb rfl rfl rfl rfl rfl rfl (i := j) (by omega) (by omega) ?_) | (refine L_front6 ?_; refine L_storeEl tb rfl rfl rfl rfl rfl rfl (i := j) (by omega) (by omega) ?_)
              refine L_then ?_
              refine C_seq ?_
              have e9 : (((amM r sf gs ls).map cI).set j [.int .i64 (x.1 - 1)]) = (((amM r sf gs ls).set j (x.1 - 1))).map cI := by rw [List.map_set]; rfl
              refine C_res (rs' := [sl y 3 1 (((amM r sf gs ls).set j (x.1 - 1)).map cI), sl v33 109 2 ((resM r sf gs ls).map cSw), box g3 44 (cPl nm sf v u), box g4 28 (cRu t r), rd v 2 (gs.map cGs), rd u 3 (ls.map cDl), rd t 2 (r.tb.map cOw)]) (fun _ h => h.pk (by repeat (first | with_reducible exact pk_nil | refine pk_box (by first | rfl | exact e9) ?_ | refine pk_rd rfl ?_ | refine pk_sl (by first | rfl | exact e9) ?_ | with_reducible refine pk_app ?_ | with_reducible refine pk_app0 ?_ | with_reducible refine pk_app0L ?_ | with_reducible exact pk_tl | refine pk_var ?_))) ?_
              refine C_draw (n := 12) [(0, false), (2, false), (4, false), (1, true), (3, true), (5, true), (6, true), (7, false), (8, false), (9, false), (10, false), (11, false)] mixed (by kernel_rfl) ?_
              refine W_q rfl rfl rfl rfl (q_loadA tb rfl rfl bxo rfl rfl) ?_
              refine W_q rfl rfl rfl rfl (q_loadA tb rfl rfl bxo rfl rfl) ?_
              refine W_q rfl rfl rfl rfl (q_move rfl) ?_
              refine W_lo rfl rfl rfl rfl (lo_call tb rfl rfl (ct_shotlinebase_CopyPlan nm sf v u gs ls (by omega) (by omega)) (ps_cons (by first | exact gvo | exact gvd gvo (by omega)) (ps_cons (by first | exact gvo | exact gvd gvo (by omega)) no_ps)) (by rintro y rs ⟨a, b, _, rfl⟩ r hr; simp only [List.mem_cons, List.not_mem_nil, or_false] at hr; rcases hr with rfl | rfl <;> exact sl_sinks _ _ _ _)) ?_
              rintro _ _ ⟨a135, b135, rfl, rfl⟩
              refine W_lo rfl rfl rfl rfl (lo_call tb rfl rfl (ct_shotlineref05_Copy t r (by omega)) (ps_cons (by first | exact gvo | exact gvd gvo (by omega)) no_ps) (by rintro y rs ⟨a, _, rfl⟩ r hr; rw [List.mem_singleton.1 hr]; exact sl_sinks _ _ _ _)) ?_
              rintro _ _ ⟨a137, rfl, rfl⟩
              refine W_callS tb rfl rfl rfl rfl (ct_shotlinebase_CopyInts y ((amM r sf gs ls).set j (x.1 - 1)) (by rw [List.length_set, amM_len]; omega)) (ps_cons (by first | exact gvo | exact gvd gvo (by omega)) no_ps) rfl fun v139 => ?_
              refine W_call tb rfl rfl rfl rfl (ct_exposure_Survives a137 r nm sf a135 b135 gs ls v139 ((amM r sf gs ls).set j (x.1 - 1)) (by omega) (by omega) (by omega) (by omega) (by rw [List.length_set, amM_len]; omega)) (ps_cons (by first | exact gvo | exact gvd gvo (by omega)) (ps_cons (by first | exact gvo | exact gvd gvo (by omega)) (ps_cons (by first | exact gvo | exact gvd gvo (by omega)) (ps_cons (by first | exact gvo | exact gvd gvo (by omega)) no_ps)))) rfl ?_
              rw [svE_2 hs1 (by rw [res_need H hx hneg]; omega), res_need H hx hneg]
              refine W_q rfl rfl rfl rfl (q_move rfl) ?_
              refine W_q rfl rfl rfl rfl (q_ext0 rfl) ?_
              refine W_q rfl rfl rfl rfl (q_ext1 rfl) ?_
              refine W_q rfl rfl rfl rfl (q_assign rfl) ?_
              refine W_q rfl rfl rfl rfl (q_assign rfl) ?_
              refine W_nil ?_
              refine L_then ?_
              refine C_seq ?_
              refine C_region ?_
              refine L_q rfl rfl rfl (q_move rfl) ?_
              refine L_q rfl rfl rfl (q_true (q_eql rfl rfl) (by simp)) ?_
              refine L_q rfl rfl rfl (q_move rfl) ?_
              refine L_qg rfl rfl rfl rfl rfl rfl rfl (q_move rfl) ?_
              refine L_qg rfl rfl rfl rfl rfl rfl rfl (q_move rfl) ?_
              refine L_qg rfl rfl rfl rfl rfl rfl rfl (q_move rfl) ?_
              refine L_qg rfl rfl rfl rfl rfl rfl rfl (by first | exact q_index tb rfl rfl rfl rfl (by first | exact gvo | exact gvd gvo (by omega)) (by omega) (by first | omega | (simp; done) | (simp; omega)) | exact q_indexP tb rfl rfl rfl rfl (by omega) (by omega)) ?_
              refine L_qg rfl rfl rfl rfl rfl rfl rfl (q_fieldE tb rfl rfl rfl (by first | exact gvo | exact gvd gvo (by omega)) (by first | omega | (simp; done) | (simp; omega))) ?_
              refine L_qg rfl rfl rfl rfl rfl rfl rfl (q_loadE tb rfl rfl (by first | exact gvo | exact gvd gvo (by omega)) (i := j) (o := 1) (by omega) helx rfl) ?_
              refine L_qg rfl rfl rfl rfl rfl rfl rfl (q_true (q_eql rfl rfl) (by simp)) ?_
              refine L_q rfl rfl rfl (by first | exact q_pickT rfl rfl | exact q_pickF rfl rfl) ?_
              refine L_q rfl rfl rfl (q_assign rfl) ?_
              refine L_then ?_
              refine C_ret ?_
              exact ret_of (res1 rfl rfl) sub_nil (by intro r hr; cases hr) ⟨rfl, rfl⟩
end Go.Proofs.Ytolnohjbpllmhaa
