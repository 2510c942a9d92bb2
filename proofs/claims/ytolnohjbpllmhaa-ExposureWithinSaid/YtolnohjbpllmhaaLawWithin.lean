/-
  Walks: each function named returns what its model says. Conditions: those in front of each theorem.
-/
import Derived.Test.YtolnohjbpllmhaaXS
import Derived.Test.YtolnohjbpllmhaaXQa
namespace Go.Proofs.Ytolnohjbpllmhaa
open Go.RowKit

set_option maxRecDepth 100000 in
set_option maxHeartbeats 1000000 in
theorem ct_shotlinelaw05_ExposureWithin (t : Value) (r : Ru) (nm : ByteArray) (sf : Int) (v u : Value) (gs : List Gs) (ls : List Dl) : Ct Try.prog 13 [.agg (cPl nm sf v u).toArray, .agg (cRu t r).toArray] [(v, 2, gs.map cGs), (u, 3, ls.map cDl), (t, 2, r.tb.map cOw)] (isV (.bool true)) := by
  refine Ct.of (N := 131) Try.func13 rfl rfl rfl fun w => ?_
  refine C_weak (E' := [(0, .agg (cPl nm sf v u).toArray), (1, .agg (cRu t r).toArray)]) (rs' := [rd v 2 (gs.map cGs), rd u 3 (ls.map cDl), rd t 2 (r.tb.map cOw)]) ⟨rfl, rfl, trivial⟩ (fun _ h => h) ?_
  have hlp := len_map cGs gs
  have hl1 := len_map cGs gs
  have hl2 := len_map cDl ls
  have hlt9 := len_map cOw r.tb
  refine C_seq ?_
  refine C_region ?_
  refine L_box rfl rfl rfl fun g2 => ?_
  refine L_box rfl rfl rfl fun g3 => ?_
  refine L_q rfl rfl rfl (q_assign rfl) ?_
  refine L_then ?_
  refine C_seq ?_
  refine C_seq ?_
  refine C_region ?_
  refine L_call tb rfl rfl (ct_shotlinelaw05_awake) no_ps rfl ?_
  refine L_q rfl rfl rfl (q_not rfl (by first | exact (rfl : (!true) = false) | exact (rfl : (!false) = true) | exact decide_not.symm | rfl)) ?_
  refine L_then ?_
  refine C_false rfl ?_
  refine C_skip_then ?_
  refine C_seq ?_
  refine C_seq ?_
  refine C_region ?_
  refine L_q rfl rfl rfl (q_loadA tb rfl rfl bxo rfl rfl) ?_
  refine L_call tb rfl rfl (ct_shotlinelaw05_Short nm sf v u gs ls) (ps_cons (by first | exact gvo | exact gvd gvo (by omega)) (ps_cons (by first | exact gvo | exact gvd gvo (by omega)) no_ps)) rfl ?_
  refine L_q rfl rfl rfl (q_not rfl (by first | exact (rfl : (!true) = false) | exact (rfl : (!false) = true) | exact decide_not.symm | rfl)) ?_
  refine L_q rfl rfl rfl (q_move rfl) ?_
  refine L_dec (d := 19) rfl (fun hsn => ?_) (fun hsn => ?_)
  · -- t19 True
    refine L_skip rfl rfl rfl rfl rfl rfl rfl ?_
    refine L_skip rfl rfl rfl rfl rfl rfl rfl ?_
    refine L_skip rfl rfl rfl rfl rfl rfl rfl ?_
    refine L_q rfl rfl rfl (by first | exact q_pickT rfl rfl | exact q_pickF rfl rfl) ?_
    refine L_q rfl rfl rfl (q_move rfl) ?_
    refine L_skip rfl rfl rfl rfl rfl rfl rfl ?_
    refine L_skip rfl rfl rfl rfl rfl rfl rfl ?_
    refine L_skip rfl rfl rfl rfl rfl rfl rfl ?_
    refine L_skip rfl rfl rfl rfl rfl rfl rfl ?_
    refine L_q rfl rfl rfl (by first | exact q_pickT rfl rfl | exact q_pickF rfl rfl) ?_
    refine L_then ?_
    refine C_true rfl ?_
    refine C_seq ?_
    refine C_region ?_
    refine L_q rfl rfl rfl (q_assign rfl) ?_
    refine L_then ?_
    refine C_ret ?_
    exact ret_of (res1 rfl rfl) sub_nil (by intro r hr; cases hr) ⟨rfl, rfl⟩
  · -- t19 False
    have hsh := Decidable.not_not.1 hsn
    refine L_qg rfl rfl rfl rfl rfl rfl rfl (q_loadA tb rfl rfl bxo rfl rfl) ?_
    refine L_callg tb rfl rfl rfl rfl rfl rfl (ct_shotlinelaw05_few _ _) (ps_cons (by first | exact gvo | exact gvd gvo (by omega)) no_ps) rfl ?_
    refine L_qg rfl rfl rfl rfl rfl rfl rfl (q_not rfl (by first | exact (rfl : (!true) = false) | exact (rfl : (!false) = true) | exact decide_not.symm | rfl)) ?_
    refine L_q rfl rfl rfl (by first | exact q_pickT rfl rfl | exact q_pickF rfl rfl) ?_
    refine L_q rfl rfl rfl (q_move rfl) ?_
    refine L_dec (d := 24) rfl (fun hfw => ?_) (fun hfw => ?_)
    · -- t24 True
      refine L_skip rfl rfl rfl rfl rfl rfl rfl ?_
      refine L_skip rfl rfl rfl rfl rfl rfl rfl ?_
      refine L_skip rfl rfl rfl rfl rfl rfl rfl ?_
      refine L_skip rfl rfl rfl rfl rfl rfl rfl ?_
      refine L_q rfl rfl rfl (by first | exact q_pickT rfl rfl | exact q_pickF rfl rfl) ?_
      refine L_then ?_
      refine C_true rfl ?_
      refine C_seq ?_
      refine C_region ?_
      refine L_q rfl rfl rfl (q_assign rfl) ?_
      refine L_then ?_
      refine C_ret ?_
      exact ret_of (res1 rfl rfl) sub_nil (by intro r hr; cases hr) ⟨rfl, rfl⟩
    · -- t24 False
      refine L_qg rfl rfl rfl rfl rfl rfl rfl (q_loadA tb rfl rfl bxo rfl rfl) ?_
      refine L_qg rfl rfl rfl rfl rfl rfl rfl (q_loadA tb rfl rfl bxo rfl rfl) ?_
      refine L_callg tb rfl rfl rfl rfl rfl rfl (ct_shotlineref05_Both t r nm sf v u gs ls (by omega) (by omega) (by omega)) (ps_cons (by first | exact gvo | exact gvd gvo (by omega)) (ps_cons (by first | exact gvo | exact gvd gvo (by omega)) (ps_cons (by first | exact gvo | exact gvd gvo (by omega)) no_ps))) rfl ?_
      refine L_qg rfl rfl rfl rfl rfl rfl rfl (q_neq rfl rfl) ?_
      refine L_q rfl rfl rfl (by first | exact q_pickT rfl rfl | exact q_pickF rfl rfl) ?_
      refine L_then ?_
      refine C_dec rfl (fun hb => ?_) (fun hb => ?_)
      · -- t29 True
        refine C_seq ?_
        refine C_region ?_
        refine L_q rfl rfl rfl (q_assign rfl) ?_
        refine L_then ?_
        refine C_ret ?_
        exact ret_of (res1 rfl rfl) sub_nil (by intro r hr; cases hr) ⟨rfl, rfl⟩
      · -- t29 False
        have hb9 := Decidable.not_not.1 hb; obtain ⟨_, H, HR, _⟩ := bothE_ok hb9; have hll := H.ll; have hru := both_ru hb9; have hsf := H.sf
        have hbl := brs_len (r := r) (sf := sf) (gs := gs) (ls := ls) ls.length; have hbm := len_map cSw (brs r sf gs ls ls.length)
        refine C_skip_then ?_
        refine C_seq ?_
        refine C_draw (n := 10) [(0, false), (2, false), (1, true), (3, true), (4, true), (5, false), (6, false), (7, false), (8, false), (9, false)] mixed (by kernel_rfl) ?_
        refine W_q rfl rfl rfl rfl (q_loadA tb rfl rfl bxo rfl rfl) ?_
        refine W_q rfl rfl rfl rfl (q_loadA tb rfl rfl bxo rfl rfl) ?_
        refine W_lo rfl rfl rfl rfl (lo_call tb rfl rfl (ct_shotlinebase_CopyPlan nm sf v u gs ls (by omega) (by omega)) (ps_cons (by first | exact gvo | exact gvd gvo (by omega)) (ps_cons (by first | exact gvo | exact gvd gvo (by omega)) no_ps)) (by rintro y rs ⟨a, b, _, rfl⟩ r hr; simp only [List.mem_cons, List.not_mem_nil, or_false] at hr; rcases hr with rfl | rfl <;> exact sl_sinks _ _ _ _)) ?_
        rintro _ _ ⟨a32, b32, rfl, rfl⟩
        refine W_lo rfl rfl rfl rfl (lo_call tb rfl rfl (ct_shotlineref05_Copy t r (by omega)) (ps_cons (by first | exact gvo | exact gvd gvo (by omega)) no_ps) (by rintro y rs ⟨a, _, rfl⟩ r hr; rw [List.mem_singleton.1 hr]; exact sl_sinks _ _ _ _)) ?_
        rintro _ _ ⟨a34, rfl, rfl⟩
        refine W_callSN tb rfl rfl rfl rfl (ct_exposure_Breaks a34 r nm sf a32 b32 gs ls (by omega) (by omega) (by omega) (by omega)) (ps_cons (by first | exact gvo | exact gvd gvo (by omega)) (ps_cons (by first | exact gvo | exact gvd gvo (by omega)) (ps_cons (by first | exact gvo | exact gvd gvo (by omega)) no_ps))) rfl fun v35 => ?_
        refine W_q rfl rfl rfl rfl (q_move rfl) ?_
        refine W_q rfl rfl rfl rfl (q_ext0 rfl) ?_
        refine W_q rfl rfl rfl rfl (q_ext1 rfl) ?_
        refine W_q rfl rfl rfl rfl (q_assign rfl) ?_
        refine W_q rfl rfl rfl rfl (q_assign rfl) ?_
        refine W_nil ?_
        refine L_then ?_
        refine C_seq ?_
        refine C_seq ?_
        rw [brE_2 hb9]
        have hbm2 : (List.map cSw (brs r sf gs ls ls.length, (0 : Int)).fst).length = (brs r sf gs ls ls.length).length := len_map _ _
        refine C_region ?_
        refine L_q rfl rfl rfl (q_move rfl) ?_
        refine L_q rfl rfl rfl (q_false (q_neq rfl rfl) (by simp)) ?_
        refine L_q rfl rfl rfl (q_move rfl) ?_
        refine L_qg rfl rfl rfl rfl rfl rfl rfl (q_move rfl) ?_
        refine L_qg rfl rfl rfl rfl rfl rfl rfl (q_len tb rfl rfl (by first | exact gvo | exact gvd gvo (by omega))) ?_
        refine L_qg rfl rfl rfl rfl rfl rfl rfl (q_field tb rfl rfl rfl) ?_
        refine L_qg rfl rfl rfl rfl rfl rfl rfl (q_load tb rfl rfl bxo rfl) ?_
        refine L_qg rfl rfl rfl rfl rfl rfl rfl (q_len tb rfl rfl (by first | exact gvo | exact gvd gvo (by omega))) ?_
        refine L_qg rfl rfl rfl rfl rfl rfl rfl (q_mul rfl rfl (by first | exact IntWalk.i64_in _ (by omega) | rfl)) ?_
        refine L_qg rfl rfl rfl rfl rfl rfl rfl (q_false (q_gtr rfl rfl) (decide_eq_false (by omega))) ?_
        refine L_q rfl rfl rfl (by first | exact q_pickT rfl rfl | exact q_pickF rfl rfl) ?_
        refine L_then ?_
        refine C_false rfl ?_
        refine C_skip_then ?_
        refine C_seq ?_
        refine C_seq ?_
        refine C_region ?_
        refine L_q rfl rfl rfl (q_assign rfl) ?_
        refine L_then ?_
        refine C_block ?_
        refine C_loop (ι := Nat) (fun k => ([(2, .pointer (some ⟨g2, 0, none⟩)), (3, .pointer (some ⟨g3, 0, none⟩)), (5, v35), (7, .int .i64 (k : Int))], [sl v35 93 2 ((brs r sf gs ls ls.length).map cSw), box g2 44 (cPl nm sf v u), box g3 28 (cRu t r), rd v 2 (gs.map cGs), rd u 3 (ls.map cDl), rd t 2 (r.tb.map cOw)])) (fun k => k ≤ ls.length) (fun k => ls.length - k) 0 (Nat.zero_le _) (fun a w hs => hs.weak ⟨rfl, rfl, rfl, rfl, trivial⟩ (fun h => h.pk (by repeat (first | with_reducible exact pk_nil | refine pk_box rfl ?_ | refine pk_rd rfl ?_ | refine pk_sl rfl ?_ | with_reducible refine pk_app ?_ | with_reducible refine pk_app0 ?_ | with_reducible refine pk_app0L ?_ | with_reducible exact pk_tl | refine pk_var ?_)))) ?_
        intro k hk8
        dsimp only at hk8 ⊢
        refine C_seq ?_
        refine C_seq ?_
        refine C_region ?_
        refine L_q rfl rfl rfl (q_move rfl) ?_
        refine L_q rfl rfl rfl (q_field tb rfl rfl rfl) ?_
        refine L_q rfl rfl rfl (q_load tb rfl rfl bxo rfl) ?_
        refine L_q rfl rfl rfl (q_len tb rfl rfl (by first | exact gvo | exact gvd gvo (by omega))) ?_
        refine L_q rfl rfl rfl (q_lss rfl rfl) ?_
        refine L_then ?_
        refine C_dec rfl (fun h8 => ?_) (fun h8 => ?_)
        · -- t53 True
          have hat := H.at (k := k) (by omega); have ha2 := hat.d; have ha3 := hat.g; have hdep := H.dep (k := k) (by omega); have hgz := H.gas_ok (k := k) (by omega); have hgk := ckGas_ok hgz; have hel := dl_cell (show k < ls.length by omega); have helg := gas_cell (gs := gs) ha3.1 ha3.2; have hzg : ckGSR (gasAt gs (dlAt ls k).g) sf r = 0 := by rw [ckGSR_3 hgz hsf]; exact hru
          have hany := any_brs (r := r) (sf := sf) (gs := gs) (ls := ls) (i := k) (n := ls.length) (by omega)
          refine C_skip_then ?_
          refine C_seq ?_
          refine C_block ?_
          refine C_seq ?_
          refine C_region ?_
          refine L_q rfl rfl rfl (q_assign rfl) ?_
          refine L_then ?_
          refine C_seq ?_
          refine C_seq ?_
          refine C_region ?_
          refine L_q rfl rfl rfl (q_assign rfl) ?_
          refine L_then ?_
          refine C_block ?_
          refine C_loop (ι := Nat) (fun j => ([(2, .pointer (some ⟨g2, 0, none⟩)), (3, .pointer (some ⟨g3, 0, none⟩)), (5, v35), (7, .int .i64 (k : Int)), (8, .bool (anyK (brs r sf gs ls ls.length) ((k : Nat) : Int) j)), (9, .int .i64 (j : Int))], [sl v35 93 2 ((brs r sf gs ls ls.length).map cSw), box g2 44 (cPl nm sf v u), box g3 28 (cRu t r), rd v 2 (gs.map cGs), rd u 3 (ls.map cDl), rd t 2 (r.tb.map cOw)])) (fun j => j ≤ (brs r sf gs ls ls.length).length) (fun j => (brs r sf gs ls ls.length).length - j) 0 (Nat.zero_le _) (fun a w hs => hs.weak ⟨rfl, rfl, rfl, rfl, rfl, rfl, trivial⟩ (fun h => h.pk (by repeat (first | with_reducible exact pk_nil | refine pk_box rfl ?_ | refine pk_rd rfl ?_ | refine pk_sl rfl ?_ | with_reducible refine pk_app ?_ | with_reducible refine pk_app0 ?_ | with_reducible refine pk_app0L ?_ | with_reducible exact pk_tl | refine pk_var ?_)))) ?_
          intro j hj8
          dsimp only at hj8 ⊢
          refine C_seq ?_
          refine C_seq ?_
          refine C_region ?_
          refine L_q rfl rfl rfl (q_move rfl) ?_
          refine L_q rfl rfl rfl (q_move rfl) ?_
          refine L_q rfl rfl rfl (q_len tb rfl rfl (by first | exact gvo | exact gvd gvo (by omega))) ?_
          refine L_q rfl rfl rfl (q_lss rfl rfl) ?_
          refine L_then ?_
          refine C_dec rfl (fun h9 => ?_) (fun h9 => ?_)
          · -- t59 True
            obtain ⟨x, hx⟩ := get_some (brs r sf gs ls ls.length) (k := j) (by omega); have helx := map_get cSw hx
            refine C_skip_then ?_
            refine C_seq ?_
            refine C_block ?_
            refine C_region ?_
            refine L_q rfl rfl rfl (q_move rfl) ?_
            refine L_q rfl rfl rfl (q_move rfl) ?_
            refine L_bool (d := 63) rfl (fun hp => ?_) (fun hp => ?_)
            · -- t63 True
              refine L_skip rfl rfl rfl rfl rfl rfl rfl ?_
              refine L_skip rfl rfl rfl rfl rfl rfl rfl ?_
              refine L_skip rfl rfl rfl rfl rfl rfl rfl ?_
              refine L_skip rfl rfl rfl rfl rfl rfl rfl ?_
              refine L_skip rfl rfl rfl rfl rfl rfl rfl ?_
              refine L_skip rfl rfl rfl rfl rfl rfl rfl ?_
              refine L_skip rfl rfl rfl rfl rfl rfl rfl ?_
              refine L_q rfl rfl rfl (by first | exact q_pickT rfl rfl | exact q_pickF rfl rfl) ?_
              refine L_q rfl rfl rfl (q_assign rfl) ?_
              refine L_blk ?_
              refine C_region ?_
              refine L_q rfl rfl rfl (q_move rfl) ?_
              refine L_q rfl rfl rfl (q_add rfl rfl (by first | exact IntWalk.i64_in _ (by omega) | rfl)) ?_
              refine L_q rfl rfl rfl (q_assign rfl) ?_
              refine L_end ?_
              exact fun ac_ wo_ hs_ => ⟨j + 1, (by dsimp only; omega), (by dsimp only; omega), hs_.weak ⟨rfl, rfl, rfl, rfl, (by show _ = some (Value.bool (anyK _ _ j || _)); rw [hp]; rfl), rfl, trivial⟩ (fun h => h.pk (by repeat (first | with_reducible exact pk_nil | refine pk_box rfl ?_ | refine pk_rd rfl ?_ | refine pk_sl rfl ?_ | with_reducible refine pk_app ?_ | with_reducible refine pk_app0 ?_ | with_reducible refine pk_app0L ?_ | with_reducible exact pk_tl | refine pk_var ?_)))⟩
            · -- t63 False
              refine L_qg rfl rfl rfl rfl rfl rfl rfl (q_move rfl) ?_
              refine L_qg rfl rfl rfl rfl rfl rfl rfl (q_move rfl) ?_
              refine L_qg rfl rfl rfl rfl rfl rfl rfl (by first | exact q_index tb rfl rfl rfl rfl (by first | exact gvo | exact gvd gvo (by omega)) (by omega) (by first | omega | (simp; done) | (simp; omega)) | exact q_indexP tb rfl rfl rfl rfl (by omega) (by omega)) ?_
              refine L_qg rfl rfl rfl rfl rfl rfl rfl (q_fieldE tb rfl rfl rfl (by first | exact gvo | exact gvd gvo (by omega)) (by first | omega | (simp; done) | (simp; omega))) ?_
              refine L_qg rfl rfl rfl rfl rfl rfl rfl (q_loadE tb rfl rfl (by first | exact gvo | exact gvd gvo (by omega)) (i := j) (o := 0) (by omega) helx rfl) ?_
              refine L_qg rfl rfl rfl rfl rfl rfl rfl (q_move rfl) ?_
              refine L_qg rfl rfl rfl rfl rfl rfl rfl (q_eql rfl rfl) ?_
              refine L_q rfl rfl rfl (by first | exact q_pickT rfl rfl | exact q_pickF rfl rfl) ?_
              refine L_q rfl rfl rfl (q_assign rfl) ?_
              refine L_blk ?_
              refine C_region ?_
              refine L_q rfl rfl rfl (q_move rfl) ?_
              refine L_q rfl rfl rfl (q_add rfl rfl (by first | exact IntWalk.i64_in _ (by omega) | rfl)) ?_
              refine L_q rfl rfl rfl (q_assign rfl) ?_
              refine L_end ?_
              exact fun ac_ wo_ hs_ => ⟨j + 1, (by dsimp only; omega), (by dsimp only; omega), hs_.weak ⟨rfl, rfl, rfl, rfl, (by show _ = some (Value.bool (anyK _ _ j || decide ((((brs r sf gs ls ls.length)[j]?).getD (0, 0)).1 = _))); rw [hp, hx]; rfl), rfl, trivial⟩ (fun h => h.pk (by repeat (first | with_reducible exact pk_nil | refine pk_box rfl ?_ | refine pk_rd rfl ?_ | refine pk_sl rfl ?_ | with_reducible refine pk_app ?_ | with_reducible refine pk_app0 ?_ | with_reducible refine pk_app0L ?_ | with_reducible exact pk_tl | refine pk_var ?_)))⟩
          · -- t59 False
            obtain rfl : j = (brs r sf gs ls ls.length).length := by omega
            refine C_exit ?_
            change C Try.prog _ _ _ _ _ _ _
            refine C_seq ?_
            refine C_region ?_
            refine L_q rfl rfl rfl (q_assign rfl) ?_
            refine L_then ?_
            refine C_seq ?_
            refine C_seq ?_
            refine C_region ?_
            refine L_q rfl rfl rfl (q_move rfl) ?_
            refine L_q rfl rfl rfl (q_gtr rfl rfl) ?_
            refine L_then ?_
            refine C_dec rfl (fun h11 => ?_) (fun h11 => ?_)
            · -- t73 True
              have hel0 := dl_cell (show k - 1 < ls.length by omega); have hd9 : depAt ls k = (dlAt ls (k - 1)).d := depAt_pos (by omega)
              have hin : (brkA r sf gs ls k).length = 0 ↔ _ := brk_within (g := (gasAt gs (dlAt ls k).g)) (sf := sf) (a := depAt ls k) (b := (dlAt ls k).d) (r := r) (by omega) hdep ha2
              rw [hd9] at hin
              refine C_region ?_
              refine L_q rfl rfl rfl (q_field tb rfl rfl rfl) ?_
              refine L_q rfl rfl rfl (q_load tb rfl rfl bxo rfl) ?_
              refine L_q rfl rfl rfl (q_move rfl) ?_
              refine L_q rfl rfl rfl (q_sub rfl rfl (by first | exact IntWalk.i64_in _ (by omega) | rfl)) ?_
              refine L_q rfl rfl rfl (by first | exact q_index tb rfl rfl rfl rfl (by first | exact gvo | exact gvd gvo (by omega)) (by omega) (by first | omega | (simp; done) | (simp; omega)) | exact q_indexP tb rfl rfl rfl rfl (by omega) (by omega)) ?_
              refine L_q rfl rfl rfl (q_fieldE tb rfl rfl rfl (by first | exact gvo | exact gvd gvo (by omega)) (by first | omega | (simp; done) | (simp; omega))) ?_
              refine L_q rfl rfl rfl (q_loadE tb rfl rfl (by first | exact gvo | exact gvd gvo (by omega)) (i := k - 1) (o := 1) (by omega) hel0 rfl) ?_
              refine L_q rfl rfl rfl (q_assign rfl) ?_
              refine L_then ?_
              refine C_seq ?_
              refine C_wideF1 tb (k := 18) [(0, false), (1, false), (2, false), (3, false), (4, false), (5, false), (6, false), (7, false), (8, false), (9, false), (10, false), (11, false), (12, false), (13, true), (14, true), (15, false), (16, false), (17, false)] [.s 19, .q 20] mixed (by kernel_rfl) rfl rfl rfl rfl (by kernel_rfl) rfl ?_
              refine X1_q rfl rfl rfl rfl (q_field tb rfl rfl rfl) ?_
              refine X1_q rfl rfl rfl rfl (q_load tb rfl rfl bxo rfl) ?_
              refine X1_q rfl rfl rfl rfl (q_field tb rfl rfl rfl) ?_
              refine X1_q rfl rfl rfl rfl (q_load tb rfl rfl bxo rfl) ?_
              refine X1_q rfl rfl rfl rfl (q_move rfl) ?_
              refine X1_q rfl rfl rfl rfl (by first | exact q_index tb rfl rfl rfl rfl (by first | exact gvo | exact gvd gvo (by omega)) (by omega) (by first | omega | (simp; done) | (simp; omega)) | exact q_indexP tb rfl rfl rfl rfl (by omega) (by omega)) ?_
              refine X1_q rfl rfl rfl rfl (q_fieldE tb rfl rfl rfl (by first | exact gvo | exact gvd gvo (by omega)) (by first | omega | (simp; done) | (simp; omega))) ?_
              refine X1_q rfl rfl rfl rfl (q_loadE tb rfl rfl (by first | exact gvo | exact gvd gvo (by omega)) (i := k) (o := 2) (by omega) hel rfl) ?_
              refine X1_q rfl rfl rfl rfl (by first | exact q_index tb rfl rfl rfl rfl (by first | exact gvo | exact gvd gvo (by omega)) (by omega) (by first | omega | (simp; done) | (simp; omega)) | exact q_indexP tb rfl rfl rfl rfl (by omega) (by omega)) ?_
              refine X1_q rfl rfl rfl rfl (q_loadEA tb rfl rfl (by first | exact gvo | exact gvd gvo (by omega)) (i := (dlAt ls k).g.toNat) (o := 0) (by omega) helg rfl rfl) ?_
              refine X1_q rfl rfl rfl rfl (q_field tb rfl rfl rfl) ?_
              refine X1_q rfl rfl rfl rfl (q_load tb rfl rfl bxo rfl) ?_
              refine X1_q rfl rfl rfl rfl (q_loadA tb rfl rfl bxo rfl rfl) ?_
              refine X1_lo rfl rfl rfl rfl (lo_call tb rfl rfl (ct_shotlineref05_Copy t r (by omega)) (ps_cons (by first | exact gvo | exact gvd gvo (by omega)) no_ps) (by rintro y rs ⟨a, _, rfl⟩ r hr; rw [List.mem_singleton.1 hr]; exact sl_sinks _ _ _ _)) ?_
              rintro _ _ ⟨a95, rfl, rfl⟩
              dsimp only [List.cons_append, List.nil_append]
              refine X1_v rfl rfl rfl rfl (lo_call tb rfl rfl (ct_exposure_DepthsOf a95 (gasAt gs (dlAt ls k).g) sf r (by omega)) (ps_cons (by first | exact gvo | exact gvd gvo (by omega)) no_ps) isV_sinks) ?_
              refine X1_q rfl rfl rfl rfl (q_move rfl) ?_
              refine X1_q rfl rfl rfl rfl (q_ext0 rfl) ?_
              refine X1_q rfl rfl rfl rfl (q_ext1 rfl) ?_
              refine X1_nil ?_
              intro g11
              try dsimp only [List.cons_append, List.nil_append]
              first | refine X_store tb rfl rfl (List.Perm.refl _) rfl rfl rfl rfl rfl rfl rfl rfl ?_ | refine X_store tb rfl rfl perm1 rfl rfl rfl rfl rfl rfl rfl rfl ?_ | refine X_store tb rfl rfl (perm_front (pre := [_, _])) rfl rfl rfl rfl rfl rfl rfl rfl ?_ | refine X_store tb rfl rfl (perm_front (pre := [_, _, _])) rfl rfl rfl rfl rfl rfl rfl rfl ?_
              refine X_q rfl rfl rfl rfl (q_assign rfl) ?_
              refine X_nil ?_
              dsimp only [List.cons_append, List.nil_append]
              refine L_then ?_
              refine C_seq ?_
              refine C_seq ?_
              refine C_region ?_
              refine L_q rfl rfl rfl (q_move rfl) ?_
              refine L_q rfl rfl rfl (q_neq rfl rfl) ?_
              refine L_q rfl rfl rfl (q_move rfl) ?_
              refine L_dec (d := 101) rfl (fun hdo => ?_) (fun hdo => ?_)
              · -- t101 True
                have hdd : (dLo (gasAt gs (dlAt ls k).g) sf r : Int) > dHi (gasAt gs (dlAt ls k).g) sf r - 1 := Decidable.byContradiction fun hh => hdo (by rw [dofE_3 hzg hh])
                rw [dofE_2 hzg hdd]
                refine L_qg rfl rfl rfl rfl rfl rfl rfl (q_move rfl) ?_
                refine L_qg rfl rfl rfl rfl rfl rfl rfl (q_false (q_neq rfl rfl) (by simp)) ?_
                refine L_q rfl rfl rfl (by first | exact q_pickT rfl rfl | exact q_pickF rfl rfl) ?_
                refine L_then ?_
                refine C_false rfl ?_
                refine C_skip_then ?_
                refine C_seq ?_
                refine C_draw (n := 23) [(0, false), (1, false), (2, false), (3, false), (4, false), (5, false), (6, false), (7, false), (8, true), (9, false), (10, false), (11, false), (12, false), (13, false), (14, false), (15, false), (16, false), (17, false), (18, false), (19, false), (20, false), (21, true), (22, false)] mixed (by kernel_rfl) ?_
                refine W_q rfl rfl rfl rfl (q_move rfl) ?_
                refine W_q rfl rfl rfl rfl (q_false (q_eql rfl rfl) (by decide)) ?_
                refine W_q rfl rfl rfl rfl (q_move rfl) ?_
                refine W_skip rfl rfl rfl rfl rfl rfl rfl rfl ?_
                refine W_skip rfl rfl rfl rfl rfl rfl rfl rfl ?_
                refine W_skip rfl rfl rfl rfl rfl rfl rfl rfl ?_
                refine W_skip rfl rfl rfl rfl rfl rfl rfl rfl ?_
                refine W_skip rfl rfl rfl rfl rfl rfl rfl rfl ?_
                refine W_skipl rfl rfl rfl rfl rfl rfl rfl rfl ?_
                refine W_q rfl rfl rfl rfl (by first | exact q_pickT rfl rfl | exact q_pickF rfl rfl) ?_
                refine W_q rfl rfl rfl rfl (q_move rfl) ?_
                refine W_skip rfl rfl rfl rfl rfl rfl rfl rfl ?_
                refine W_skip rfl rfl rfl rfl rfl rfl rfl rfl ?_
                refine W_skip rfl rfl rfl rfl rfl rfl rfl rfl ?_
                refine W_skip rfl rfl rfl rfl rfl rfl rfl rfl ?_
                refine W_skip rfl rfl rfl rfl rfl rfl rfl rfl ?_
                refine W_skip rfl rfl rfl rfl rfl rfl rfl rfl ?_
                refine W_skip rfl rfl rfl rfl rfl rfl rfl rfl ?_
                refine W_skip rfl rfl rfl rfl rfl rfl rfl rfl ?_
                refine W_skip rfl rfl rfl rfl rfl rfl rfl rfl ?_
                refine W_skip rfl rfl rfl rfl rfl rfl rfl rfl ?_
                refine W_skipl rfl rfl rfl rfl rfl rfl rfl rfl ?_
                refine W_q rfl rfl rfl rfl (by first | exact q_pickT rfl rfl | exact q_pickF rfl rfl) ?_
                refine W_nil ?_
                refine L_q rfl rfl rfl (q_assign rfl) ?_
                refine L_then ?_
                refine C_seq ?_
                refine C_region ?_
                refine L_q rfl rfl rfl (q_move rfl) ?_
                refine L_q rfl rfl rfl (q_move rfl) ?_
                refine L_q rfl rfl rfl (q_false (q_eqlBool Try.underlying4 rfl rfl) (in_any0 hany hin (fun hh => by omega))) ?_
                refine L_then ?_
                refine C_false rfl ?_
                refine C_skip_blk ?_
                refine C_region ?_
                refine L_q rfl rfl rfl (q_move rfl) ?_
                refine L_q rfl rfl rfl (q_add rfl rfl (by first | exact IntWalk.i64_in _ (by omega) | rfl)) ?_
                refine L_q rfl rfl rfl (q_assign rfl) ?_
                refine L_end ?_
                exact fun ac_ wo_ hs_ => ⟨k + 1, (by dsimp only; omega), (by dsimp only; omega), hs_.weak ⟨rfl, rfl, rfl, rfl, trivial⟩ (fun h => h.pk (by repeat (first | with_reducible exact pk_nil | refine pk_box rfl ?_ | refine pk_rd rfl ?_ | refine pk_sl rfl ?_ | with_reducible refine pk_app ?_ | with_reducible refine pk_app0 ?_ | with_reducible refine pk_app0L ?_ | with_reducible exact pk_tl | refine pk_var ?_)))⟩
              · -- t101 False
                have hdd : ¬ (dLo (gasAt gs (dlAt ls k).g) sf r : Int) > dHi (gasAt gs (dlAt ls k).g) sf r - 1 := fun hh => hdo (by rw [dofE_2 hzg hh]; decide)
                rw [dofE_3 hzg hdd]
                refine L_skip rfl rfl rfl rfl rfl rfl rfl ?_
                refine L_skip rfl rfl rfl rfl rfl rfl rfl ?_
                refine L_q rfl rfl rfl (by first | exact q_pickT rfl rfl | exact q_pickF rfl rfl) ?_
                refine L_then ?_
                refine C_false rfl ?_
                refine C_skip_then ?_
                refine C_seq ?_
                refine C_draw (n := 23) [(0, false), (1, false), (2, false), (3, false), (4, false), (5, false), (6, false), (7, false), (8, true), (9, false), (10, false), (11, false), (12, false), (13, false), (14, false), (15, false), (16, false), (17, false), (18, false), (19, false), (20, false), (21, true), (22, false)] mixed (by kernel_rfl) ?_
                refine W_q rfl rfl rfl rfl (q_move rfl) ?_
                refine W_q rfl rfl rfl rfl (q_true (q_eql rfl rfl) (decide_eq_true rfl)) ?_
                refine W_q rfl rfl rfl rfl (q_move rfl) ?_
                refine W_qg rfl rfl rfl rfl rfl rfl rfl rfl (q_move rfl) ?_
                refine W_qg rfl rfl rfl rfl rfl rfl rfl rfl (q_field tb rfl rfl rfl) ?_
                refine W_qg rfl rfl rfl rfl rfl rfl rfl rfl (q_load tb rfl rfl bxo rfl) ?_
                refine W_qg rfl rfl rfl rfl rfl rfl rfl rfl (q_field tb rfl rfl rfl) ?_
                refine W_qg rfl rfl rfl rfl rfl rfl rfl rfl (q_load tb rfl rfl bxo rfl) ?_
                refine W_callg tb rfl rfl rfl rfl rfl rfl rfl rfl (ct_shotlinebase_Within _ _ _) no_ps rfl ?_
                refine W_q rfl rfl rfl rfl (by first | exact q_pickT rfl rfl | exact q_pickF rfl rfl) ?_
                refine W_q rfl rfl rfl rfl (q_move rfl) ?_
                refine W_dec (d := 115) rfl (fun hw1 => ?_) (fun hw1 => ?_)
                · -- t115 True
                  refine W_qg rfl rfl rfl rfl rfl rfl rfl rfl (q_field tb rfl rfl rfl) ?_
                  refine W_qg rfl rfl rfl rfl rfl rfl rfl rfl (q_load tb rfl rfl bxo rfl) ?_
                  refine W_qg rfl rfl rfl rfl rfl rfl rfl rfl (q_move rfl) ?_
                  refine W_qg rfl rfl rfl rfl rfl rfl rfl rfl (by first | exact q_index tb rfl rfl rfl rfl (by first | exact gvo | exact gvd gvo (by omega)) (by omega) (by first | omega | (simp; done) | (simp; omega)) | exact q_indexP tb rfl rfl rfl rfl (by omega) (by omega)) ?_
                  refine W_qg rfl rfl rfl rfl rfl rfl rfl rfl (q_fieldE tb rfl rfl rfl (by first | exact gvo | exact gvd gvo (by omega)) (by first | omega | (simp; done) | (simp; omega))) ?_
                  refine W_qg rfl rfl rfl rfl rfl rfl rfl rfl (q_loadE tb rfl rfl (by first | exact gvo | exact gvd gvo (by omega)) (i := k) (o := 1) (by omega) hel rfl) ?_
                  refine W_qg rfl rfl rfl rfl rfl rfl rfl rfl (q_field tb rfl rfl rfl) ?_
                  refine W_qg rfl rfl rfl rfl rfl rfl rfl rfl (q_load tb rfl rfl bxo rfl) ?_
                  refine W_qg rfl rfl rfl rfl rfl rfl rfl rfl (q_field tb rfl rfl rfl) ?_
                  refine W_qg rfl rfl rfl rfl rfl rfl rfl rfl (q_load tb rfl rfl bxo rfl) ?_
                  refine W_callg tb rfl rfl rfl rfl rfl rfl rfl rfl (ct_shotlinebase_Within _ _ _) no_ps rfl ?_
                  refine W_q rfl rfl rfl rfl (by first | exact q_pickT rfl rfl | exact q_pickF rfl rfl) ?_
                  refine W_nil ?_
                  refine L_q rfl rfl rfl (q_assign rfl) ?_
                  refine L_then ?_
                  refine C_seq ?_
                  refine C_region ?_
                  refine L_q rfl rfl rfl (q_move rfl) ?_
                  refine L_q rfl rfl rfl (q_move rfl) ?_
                  refine L_q rfl rfl rfl (q_false (q_eqlBool Try.underlying4 rfl rfl) (in_any hany hin hw1)) ?_
                  refine L_then ?_
                  refine C_false rfl ?_
                  refine C_skip_blk ?_
                  refine C_region ?_
                  refine L_q rfl rfl rfl (q_move rfl) ?_
                  refine L_q rfl rfl rfl (q_add rfl rfl (by first | exact IntWalk.i64_in _ (by omega) | rfl)) ?_
                  refine L_q rfl rfl rfl (q_assign rfl) ?_
                  refine L_end ?_
                  exact fun ac_ wo_ hs_ => ⟨k + 1, (by dsimp only; omega), (by dsimp only; omega), hs_.weak ⟨rfl, rfl, rfl, rfl, trivial⟩ (fun h => h.pk (by repeat (first | with_reducible exact pk_nil | refine pk_box rfl ?_ | refine pk_rd rfl ?_ | refine pk_sl rfl ?_ | with_reducible refine pk_app ?_ | with_reducible refine pk_app0 ?_ | with_reducible refine pk_app0L ?_ | with_reducible exact pk_tl | refine pk_var ?_)))⟩
                · -- t115 False
                  refine W_skip rfl rfl rfl rfl rfl rfl rfl rfl ?_
                  refine W_skip rfl rfl rfl rfl rfl rfl rfl rfl ?_
                  refine W_skip rfl rfl rfl rfl rfl rfl rfl rfl ?_
                  refine W_skip rfl rfl rfl rfl rfl rfl rfl rfl ?_
                  refine W_skip rfl rfl rfl rfl rfl rfl rfl rfl ?_
                  refine W_skip rfl rfl rfl rfl rfl rfl rfl rfl ?_
                  refine W_skip rfl rfl rfl rfl rfl rfl rfl rfl ?_
                  refine W_skip rfl rfl rfl rfl rfl rfl rfl rfl ?_
                  refine W_skip rfl rfl rfl rfl rfl rfl rfl rfl ?_
                  refine W_skip rfl rfl rfl rfl rfl rfl rfl rfl ?_
                  refine W_skipl rfl rfl rfl rfl rfl rfl rfl rfl ?_
                  refine W_q rfl rfl rfl rfl (by first | exact q_pickT rfl rfl | exact q_pickF rfl rfl) ?_
                  refine W_nil ?_
                  refine L_q rfl rfl rfl (q_assign rfl) ?_
                  refine L_then ?_
                  refine C_seq ?_
                  refine C_region ?_
                  refine L_q rfl rfl rfl (q_move rfl) ?_
                  refine L_q rfl rfl rfl (q_move rfl) ?_
                  refine L_q rfl rfl rfl (q_false (q_eqlBool Try.underlying4 rfl rfl) (in_any0 hany hin (fun hh => hw1 hh.1))) ?_
                  refine L_then ?_
                  refine C_false rfl ?_
                  refine C_skip_blk ?_
                  refine C_region ?_
                  refine L_q rfl rfl rfl (q_move rfl) ?_
                  refine L_q rfl rfl rfl (q_add rfl rfl (by first | exact IntWalk.i64_in _ (by omega) | rfl)) ?_
                  refine L_q rfl rfl rfl (q_assign rfl) ?_
                  refine L_end ?_
                  exact fun ac_ wo_ hs_ => ⟨k + 1, (by dsimp only; omega), (by dsimp only; omega), hs_.weak ⟨rfl, rfl, rfl, rfl, trivial⟩ (fun h => h.pk (by repeat (first | with_reducible exact pk_nil | refine pk_box rfl ?_ | refine pk_rd rfl ?_ | refine pk_sl rfl ?_ | with_reducible refine pk_app ?_ | with_reducible refine pk_app0 ?_ | with_reducible refine pk_app0L ?_ | with_reducible exact pk_tl | refine pk_var ?_)))⟩
            · -- t73 False
              have hd9 : depAt ls k = 0 := by rw [show k = 0 by omega]; rfl
              have hin : (brkA r sf gs ls k).length = 0 ↔ _ := brk_within (g := (gasAt gs (dlAt ls k).g)) (sf := sf) (a := depAt ls k) (b := (dlAt ls k).d) (r := r) (by omega) hdep ha2
              rw [hd9] at hin
              refine C_skip_then ?_
              refine C_seq ?_
              refine C_wideF1 tb (k := 18) [(0, false), (1, false), (2, false), (3, false), (4, false), (5, false), (6, false), (7, false), (8, false), (9, false), (10, false), (11, false), (12, false), (13, true), (14, true), (15, false), (16, false), (17, false)] [.s 19, .q 20] mixed (by kernel_rfl) rfl rfl rfl rfl (by kernel_rfl) rfl ?_
              refine X1_q rfl rfl rfl rfl (q_field tb rfl rfl rfl) ?_
              refine X1_q rfl rfl rfl rfl (q_load tb rfl rfl bxo rfl) ?_
              refine X1_q rfl rfl rfl rfl (q_field tb rfl rfl rfl) ?_
              refine X1_q rfl rfl rfl rfl (q_load tb rfl rfl bxo rfl) ?_
              refine X1_q rfl rfl rfl rfl (q_move rfl) ?_
              refine X1_q rfl rfl rfl rfl (by first | exact q_index tb rfl rfl rfl rfl (by first | exact gvo | exact gvd gvo (by omega)) (by omega) (by first | omega | (simp; done) | (simp; omega)) | exact q_indexP tb rfl rfl rfl rfl (by omega) (by omega)) ?_
              refine X1_q rfl rfl rfl rfl (q_fieldE tb rfl rfl rfl (by first | exact gvo | exact gvd gvo (by omega)) (by first | omega | (simp; done) | (simp; omega))) ?_
              refine X1_q rfl rfl rfl rfl (q_loadE tb rfl rfl (by first | exact gvo | exact gvd gvo (by omega)) (i := k) (o := 2) (by omega) hel rfl) ?_
              refine X1_q rfl rfl rfl rfl (by first | exact q_index tb rfl rfl rfl rfl (by first | exact gvo | exact gvd gvo (by omega)) (by omega) (by first | omega | (simp; done) | (simp; omega)) | exact q_indexP tb rfl rfl rfl rfl (by omega) (by omega)) ?_
              refine X1_q rfl rfl rfl rfl (q_loadEA tb rfl rfl (by first | exact gvo | exact gvd gvo (by omega)) (i := (dlAt ls k).g.toNat) (o := 0) (by omega) helg rfl rfl) ?_
              refine X1_q rfl rfl rfl rfl (q_field tb rfl rfl rfl) ?_
              refine X1_q rfl rfl rfl rfl (q_load tb rfl rfl bxo rfl) ?_
              refine X1_q rfl rfl rfl rfl (q_loadA tb rfl rfl bxo rfl rfl) ?_
              refine X1_lo rfl rfl rfl rfl (lo_call tb rfl rfl (ct_shotlineref05_Copy t r (by omega)) (ps_cons (by first | exact gvo | exact gvd gvo (by omega)) no_ps) (by rintro y rs ⟨a, _, rfl⟩ r hr; rw [List.mem_singleton.1 hr]; exact sl_sinks _ _ _ _)) ?_
              rintro _ _ ⟨a95, rfl, rfl⟩
              dsimp only [List.cons_append, List.nil_append]
              refine X1_v rfl rfl rfl rfl (lo_call tb rfl rfl (ct_exposure_DepthsOf a95 (gasAt gs (dlAt ls k).g) sf r (by omega)) (ps_cons (by first | exact gvo | exact gvd gvo (by omega)) no_ps) isV_sinks) ?_
              refine X1_q rfl rfl rfl rfl (q_move rfl) ?_
              refine X1_q rfl rfl rfl rfl (q_ext0 rfl) ?_
              refine X1_q rfl rfl rfl rfl (q_ext1 rfl) ?_
              refine X1_nil ?_
              intro g11
              try dsimp only [List.cons_append, List.nil_append]
              first | refine X_store tb rfl rfl (List.Perm.refl _) rfl rfl rfl rfl rfl rfl rfl rfl ?_ | refine X_store tb rfl rfl perm1 rfl rfl rfl rfl rfl rfl rfl rfl ?_ | refine X_store tb rfl rfl (perm_front (pre := [_, _])) rfl rfl rfl rfl rfl rfl rfl rfl ?_ | refine X_store tb rfl rfl (perm_front (pre := [_, _, _])) rfl rfl rfl rfl rfl rfl rfl rfl ?_
              refine X_q rfl rfl rfl rfl (q_assign rfl) ?_
              refine X_nil ?_
              dsimp only [List.cons_append, List.nil_append]
              refine L_then ?_
              refine C_seq ?_
              refine C_seq ?_
              refine C_region ?_
              refine L_q rfl rfl rfl (q_move rfl) ?_
              refine L_q rfl rfl rfl (q_neq rfl rfl) ?_
              refine L_q rfl rfl rfl (q_move rfl) ?_
              refine L_dec (d := 101) rfl (fun hdo => ?_) (fun hdo => ?_)
              · -- t101 True
                have hdd : (dLo (gasAt gs (dlAt ls k).g) sf r : Int) > dHi (gasAt gs (dlAt ls k).g) sf r - 1 := Decidable.byContradiction fun hh => hdo (by rw [dofE_3 hzg hh])
                rw [dofE_2 hzg hdd]
                refine L_qg rfl rfl rfl rfl rfl rfl rfl (q_move rfl) ?_
                refine L_qg rfl rfl rfl rfl rfl rfl rfl (q_false (q_neq rfl rfl) (by simp)) ?_
                refine L_q rfl rfl rfl (by first | exact q_pickT rfl rfl | exact q_pickF rfl rfl) ?_
                refine L_then ?_
                refine C_false rfl ?_
                refine C_skip_then ?_
                refine C_seq ?_
                refine C_draw (n := 23) [(0, false), (1, false), (2, false), (3, false), (4, false), (5, false), (6, false), (7, false), (8, true), (9, false), (10, false), (11, false), (12, false), (13, false), (14, false), (15, false), (16, false), (17, false), (18, false), (19, false), (20, false), (21, true), (22, false)] mixed (by kernel_rfl) ?_
                refine W_q rfl rfl rfl rfl (q_move rfl) ?_
                refine W_q rfl rfl rfl rfl (q_false (q_eql rfl rfl) (by decide)) ?_
                refine W_q rfl rfl rfl rfl (q_move rfl) ?_
                refine W_skip rfl rfl rfl rfl rfl rfl rfl rfl ?_
                refine W_skip rfl rfl rfl rfl rfl rfl rfl rfl ?_
                refine W_skip rfl rfl rfl rfl rfl rfl rfl rfl ?_
                refine W_skip rfl rfl rfl rfl rfl rfl rfl rfl ?_
                refine W_skip rfl rfl rfl rfl rfl rfl rfl rfl ?_
                refine W_skipl rfl rfl rfl rfl rfl rfl rfl rfl ?_
                refine W_q rfl rfl rfl rfl (by first | exact q_pickT rfl rfl | exact q_pickF rfl rfl) ?_
                refine W_q rfl rfl rfl rfl (q_move rfl) ?_
                refine W_skip rfl rfl rfl rfl rfl rfl rfl rfl ?_
                refine W_skip rfl rfl rfl rfl rfl rfl rfl rfl ?_
                refine W_skip rfl rfl rfl rfl rfl rfl rfl rfl ?_
                refine W_skip rfl rfl rfl rfl rfl rfl rfl rfl ?_
                refine W_skip rfl rfl rfl rfl rfl rfl rfl rfl ?_
                refine W_skip rfl rfl rfl rfl rfl rfl rfl rfl ?_
                refine W_skip rfl rfl rfl rfl rfl rfl rfl rfl ?_
                refine W_skip rfl rfl rfl rfl rfl rfl rfl rfl ?_
                refine W_skip rfl rfl rfl rfl rfl rfl rfl rfl ?_
                refine W_skip rfl rfl rfl rfl rfl rfl rfl rfl ?_
                refine W_skipl rfl rfl rfl rfl rfl rfl rfl rfl ?_
                refine W_q rfl rfl rfl rfl (by first | exact q_pickT rfl rfl | exact q_pickF rfl rfl) ?_
                refine W_nil ?_
                refine L_q rfl rfl rfl (q_assign rfl) ?_
                refine L_then ?_
                refine C_seq ?_
                refine C_region ?_
                refine L_q rfl rfl rfl (q_move rfl) ?_
                refine L_q rfl rfl rfl (q_move rfl) ?_
                refine L_q rfl rfl rfl (q_false (q_eqlBool Try.underlying4 rfl rfl) (in_any0 hany hin (fun hh => by omega))) ?_
                refine L_then ?_
                refine C_false rfl ?_
                refine C_skip_blk ?_
                refine C_region ?_
                refine L_q rfl rfl rfl (q_move rfl) ?_
                refine L_q rfl rfl rfl (q_add rfl rfl (by first | exact IntWalk.i64_in _ (by omega) | rfl)) ?_
                refine L_q rfl rfl rfl (q_assign rfl) ?_
                refine L_end ?_
                exact fun ac_ wo_ hs_ => ⟨k + 1, (by dsimp only; omega), (by dsimp only; omega), hs_.weak ⟨rfl, rfl, rfl, rfl, trivial⟩ (fun h => h.pk (by repeat (first | with_reducible exact pk_nil | refine pk_box rfl ?_ | refine pk_rd rfl ?_ | refine pk_sl rfl ?_ | with_reducible refine pk_app ?_ | with_reducible refine pk_app0 ?_ | with_reducible refine pk_app0L ?_ | with_reducible exact pk_tl | refine pk_var ?_)))⟩
              · -- t101 False
                have hdd : ¬ (dLo (gasAt gs (dlAt ls k).g) sf r : Int) > dHi (gasAt gs (dlAt ls k).g) sf r - 1 := fun hh => hdo (by rw [dofE_2 hzg hh]; decide)
                rw [dofE_3 hzg hdd]
                refine L_skip rfl rfl rfl rfl rfl rfl rfl ?_
                refine L_skip rfl rfl rfl rfl rfl rfl rfl ?_
                refine L_q rfl rfl rfl (by first | exact q_pickT rfl rfl | exact q_pickF rfl rfl) ?_
                refine L_then ?_
                refine C_false rfl ?_
                refine C_skip_then ?_
                refine C_seq ?_
                refine C_draw (n := 23) [(0, false), (1, false), (2, false), (3, false), (4, false), (5, false), (6, false), (7, false), (8, true), (9, false), (10, false), (11, false), (12, false), (13, false), (14, false), (15, false), (16, false), (17, false), (18, false), (19, false), (20, false), (21, true), (22, false)] mixed (by kernel_rfl) ?_
                refine W_q rfl rfl rfl rfl (q_move rfl) ?_
                refine W_q rfl rfl rfl rfl (q_true (q_eql rfl rfl) (decide_eq_true rfl)) ?_
                refine W_q rfl rfl rfl rfl (q_move rfl) ?_
                refine W_qg rfl rfl rfl rfl rfl rfl rfl rfl (q_move rfl) ?_
                refine W_qg rfl rfl rfl rfl rfl rfl rfl rfl (q_field tb rfl rfl rfl) ?_
                refine W_qg rfl rfl rfl rfl rfl rfl rfl rfl (q_load tb rfl rfl bxo rfl) ?_
                refine W_qg rfl rfl rfl rfl rfl rfl rfl rfl (q_field tb rfl rfl rfl) ?_
                refine W_qg rfl rfl rfl rfl rfl rfl rfl rfl (q_load tb rfl rfl bxo rfl) ?_
                refine W_callg tb rfl rfl rfl rfl rfl rfl rfl rfl (ct_shotlinebase_Within _ _ _) no_ps rfl ?_
                refine W_q rfl rfl rfl rfl (by first | exact q_pickT rfl rfl | exact q_pickF rfl rfl) ?_
                refine W_q rfl rfl rfl rfl (q_move rfl) ?_
                refine W_dec (d := 115) rfl (fun hw1 => ?_) (fun hw1 => ?_)
                · -- t115 True
                  refine W_qg rfl rfl rfl rfl rfl rfl rfl rfl (q_field tb rfl rfl rfl) ?_
                  refine W_qg rfl rfl rfl rfl rfl rfl rfl rfl (q_load tb rfl rfl bxo rfl) ?_
                  refine W_qg rfl rfl rfl rfl rfl rfl rfl rfl (q_move rfl) ?_
                  refine W_qg rfl rfl rfl rfl rfl rfl rfl rfl (by first | exact q_index tb rfl rfl rfl rfl (by first | exact gvo | exact gvd gvo (by omega)) (by omega) (by first | omega | (simp; done) | (simp; omega)) | exact q_indexP tb rfl rfl rfl rfl (by omega) (by omega)) ?_
                  refine W_qg rfl rfl rfl rfl rfl rfl rfl rfl (q_fieldE tb rfl rfl rfl (by first | exact gvo | exact gvd gvo (by omega)) (by first | omega | (simp; done) | (simp; omega))) ?_
                  refine W_qg rfl rfl rfl rfl rfl rfl rfl rfl (q_loadE tb rfl rfl (by first | exact gvo | exact gvd gvo (by omega)) (i := k) (o := 1) (by omega) hel rfl) ?_
                  refine W_qg rfl rfl rfl rfl rfl rfl rfl rfl (q_field tb rfl rfl rfl) ?_
                  refine W_qg rfl rfl rfl rfl rfl rfl rfl rfl (q_load tb rfl rfl bxo rfl) ?_
                  refine W_qg rfl rfl rfl rfl rfl rfl rfl rfl (q_field tb rfl rfl rfl) ?_
                  refine W_qg rfl rfl rfl rfl rfl rfl rfl rfl (q_load tb rfl rfl bxo rfl) ?_
                  refine W_callg tb rfl rfl rfl rfl rfl rfl rfl rfl (ct_shotlinebase_Within _ _ _) no_ps rfl ?_
                  refine W_q rfl rfl rfl rfl (by first | exact q_pickT rfl rfl | exact q_pickF rfl rfl) ?_
                  refine W_nil ?_
                  refine L_q rfl rfl rfl (q_assign rfl) ?_
                  refine L_then ?_
                  refine C_seq ?_
                  refine C_region ?_
                  refine L_q rfl rfl rfl (q_move rfl) ?_
                  refine L_q rfl rfl rfl (q_move rfl) ?_
                  refine L_q rfl rfl rfl (q_false (q_eqlBool Try.underlying4 rfl rfl) (in_any hany hin hw1)) ?_
                  refine L_then ?_
                  refine C_false rfl ?_
                  refine C_skip_blk ?_
                  refine C_region ?_
                  refine L_q rfl rfl rfl (q_move rfl) ?_
                  refine L_q rfl rfl rfl (q_add rfl rfl (by first | exact IntWalk.i64_in _ (by omega) | rfl)) ?_
                  refine L_q rfl rfl rfl (q_assign rfl) ?_
                  refine L_end ?_
                  exact fun ac_ wo_ hs_ => ⟨k + 1, (by dsimp only; omega), (by dsimp only; omega), hs_.weak ⟨rfl, rfl, rfl, rfl, trivial⟩ (fun h => h.pk (by repeat (first | with_reducible exact pk_nil | refine pk_box rfl ?_ | refine pk_rd rfl ?_ | refine pk_sl rfl ?_ | with_reducible refine pk_app ?_ | with_reducible refine pk_app0 ?_ | with_reducible refine pk_app0L ?_ | with_reducible exact pk_tl | refine pk_var ?_)))⟩
                · -- t115 False
                  refine W_skip rfl rfl rfl rfl rfl rfl rfl rfl ?_
                  refine W_skip rfl rfl rfl rfl rfl rfl rfl rfl ?_
                  refine W_skip rfl rfl rfl rfl rfl rfl rfl rfl ?_
                  refine W_skip rfl rfl rfl rfl rfl rfl rfl rfl ?_
                  refine W_skip rfl rfl rfl rfl rfl rfl rfl rfl ?_
                  refine W_skip rfl rfl rfl rfl rfl rfl rfl rfl ?_
                  refine W_skip rfl rfl rfl rfl rfl rfl rfl rfl ?_
                  refine W_skip rfl rfl rfl rfl rfl rfl rfl rfl ?_
                  refine W_skip rfl rfl rfl rfl rfl rfl rfl rfl ?_
                  refine W_skip rfl rfl rfl rfl rfl rfl rfl rfl ?_
                  refine W_skipl rfl rfl rfl rfl rfl rfl rfl rfl ?_
                  refine W_q rfl rfl rfl rfl (by first | exact q_pickT rfl rfl | exact q_pickF rfl rfl) ?_
                  refine W_nil ?_
                  refine L_q rfl rfl rfl (q_assign rfl) ?_
                  refine L_then ?_
                  refine C_seq ?_
                  refine C_region ?_
                  refine L_q rfl rfl rfl (q_move rfl) ?_
                  refine L_q rfl rfl rfl (q_move rfl) ?_
                  refine L_q rfl rfl rfl (q_false (q_eqlBool Try.underlying4 rfl rfl) (in_any0 hany hin (fun hh => hw1 hh.1))) ?_
                  refine L_then ?_
                  refine C_false rfl ?_
                  refine C_skip_blk ?_
                  refine C_region ?_
                  refine L_q rfl rfl rfl (q_move rfl) ?_
                  refine L_q rfl rfl rfl (q_add rfl rfl (by first | exact IntWalk.i64_in _ (by omega) | rfl)) ?_
                  refine L_q rfl rfl rfl (q_assign rfl) ?_
                  refine L_end ?_
                  exact fun ac_ wo_ hs_ => ⟨k + 1, (by dsimp only; omega), (by dsimp only; omega), hs_.weak ⟨rfl, rfl, rfl, rfl, trivial⟩ (fun h => h.pk (by repeat (first | with_reducible exact pk_nil | refine pk_box rfl ?_ | refine pk_rd rfl ?_ | refine pk_sl rfl ?_ | with_reducible refine pk_app ?_ | with_reducible refine pk_app0 ?_ | with_reducible refine pk_app0L ?_ | with_reducible exact pk_tl | refine pk_var ?_)))⟩
        · -- t53 False
          refine C_exit ?_
          change C Try.prog _ _ _ _ _ _ _
          refine C_seq ?_
          refine C_region ?_
          refine L_q rfl rfl rfl (q_assign rfl) ?_
          refine L_then ?_
          refine C_ret ?_
          exact ret_of (res1 rfl rfl) sub_nil (by intro r hr; cases hr) ⟨rfl, rfl⟩
end Go.Proofs.Ytolnohjbpllmhaa
