/-
  Walks: each function named returns what its model says. Conditions: those in front of each theorem.
-/
import Derived.Test.YtolnohjbpllmhaaXN
namespace Go.Proofs.Ytolnohjbpllmhaa
open Go.RowKit

set_option maxRecDepth 100000 in
theorem ct_shotlineref02_Seconds (nm : ByteArray) (sf : Int) (v u : Value) (gs : List Gs) (ls : List Dl) (H : okPl sf gs ls) : Ct Try.prog 30 [.agg (cPl nm sf v u).toArray] [(v, 2, gs.map cGs), (u, 3, ls.map cDl)] (isV (.int .i64 (secAt ls ls.length))) := by
  refine Ct.of (N := 21) Try.func30 rfl rfl rfl fun w => ?_
  refine C_weak (E' := [(0, .agg (cPl nm sf v u).toArray)]) (rs' := [rd v 2 (gs.map cGs), rd u 3 (ls.map cDl)]) ⟨rfl, trivial⟩ (fun _ h => h) ?_
  have hl1 := len_map cGs gs
  have hl2 := len_map cDl ls
  have hll := H.ll; have hgl := H.gl
  refine C_seq ?_
  refine C_region ?_
  refine L_box rfl rfl rfl fun g1 => ?_
  refine L_q rfl rfl rfl (q_assign rfl) ?_
  refine L_then ?_
  refine C_seq ?_
  refine C_region ?_
  refine L_q rfl rfl rfl (q_assign rfl) ?_
  refine L_then ?_
  refine C_seq ?_
  refine C_seq ?_
  refine C_region ?_
  refine L_q rfl rfl rfl (q_assign rfl) ?_
  refine L_then ?_
  refine C_block ?_
  refine C_loop (ι := Nat) (fun k => ([(1, .pointer (some ⟨g1, 0, none⟩)), (3, .int .i64 (secAt ls k)), (4, .int .i64 (k : Int))], [box g1 44 (cPl nm sf v u), rd v 2 (gs.map cGs), rd u 3 (ls.map cDl)])) (fun k => k ≤ ls.length) (fun k => ls.length - k) 0 (Nat.zero_le _) (fun a w hs => hs.weak ⟨rfl, rfl, rfl, trivial⟩ (fun h => h.pk (by repeat (first | with_reducible exact pk_nil | refine pk_box rfl ?_ | refine pk_rd rfl ?_ | refine pk_sl rfl ?_ | with_reducible refine pk_app ?_ | with_reducible refine pk_app0 ?_ | with_reducible refine pk_app0L ?_ | with_reducible exact pk_tl | refine pk_var ?_)))) ?_
  intro k hk9
  dsimp only at hk9 ⊢
  refine C_seq ?_
  refine C_seq ?_
  refine C_region ?_
  refine L_q rfl rfl rfl (q_move rfl) ?_
  refine L_q rfl rfl rfl (q_field tb rfl rfl rfl) ?_
  refine L_q rfl rfl rfl (q_load tb rfl rfl bxo rfl) ?_
  refine L_q rfl rfl rfl (q_len tb rfl rfl (by first | exact gvo | exact gvd gvo (by omega))) ?_
  refine L_q rfl rfl rfl (q_lss rfl rfl) ?_
  refine L_then ?_
  refine C_dec rfl (fun h1 => ?_) (fun h1 => ?_)
  · -- t9 True
    have hel := dl_cell (show k < ls.length by omega)
    have hds := (H.at (k := k) (by omega)).s; have hse := H.e k (by omega)
    refine C_skip_then ?_
    refine C_seq ?_
    refine C_block ?_
    refine C_region ?_
    refine L_q rfl rfl rfl (q_move rfl) ?_
    refine L_q rfl rfl rfl (q_field tb rfl rfl rfl) ?_
    refine L_q rfl rfl rfl (q_load tb rfl rfl bxo rfl) ?_
    refine L_q rfl rfl rfl (q_move rfl) ?_
    refine L_q rfl rfl rfl (by first | exact q_index tb rfl rfl rfl rfl (by first | exact gvo | exact gvd gvo (by omega)) (by omega) (by first | omega | (simp; done) | (simp; omega)) | exact q_indexP tb rfl rfl rfl rfl (by omega) (by omega)) ?_
    refine L_q rfl rfl rfl (q_fieldE tb rfl rfl rfl (by first | exact gvo | exact gvd gvo (by omega)) (by first | omega | (simp; done) | (simp; omega))) ?_
    refine L_q rfl rfl rfl (q_loadE tb rfl rfl (by first | exact gvo | exact gvd gvo (by omega)) (i := k) (o := 0) (by omega) hel rfl) ?_
    refine L_q rfl rfl rfl (q_add rfl rfl (by first | exact IntWalk.i64_in _ (by omega) | rfl)) ?_
    refine L_q rfl rfl rfl (q_assign rfl) ?_
    refine L_blk ?_
    refine C_region ?_
    refine L_q rfl rfl rfl (q_move rfl) ?_
    refine L_q rfl rfl rfl (q_add rfl rfl (by first | exact IntWalk.i64_in _ (by omega) | rfl)) ?_
    refine L_q rfl rfl rfl (q_assign rfl) ?_
    refine L_end ?_
    exact fun ac_ wo_ hs_ => ⟨k + 1, (by dsimp only; omega), (by dsimp only; omega), hs_.weak ⟨rfl, rfl, rfl, trivial⟩ (fun h => h.pk (by repeat (first | with_reducible exact pk_nil | refine pk_box rfl ?_ | refine pk_rd rfl ?_ | refine pk_sl rfl ?_ | with_reducible refine pk_app ?_ | with_reducible refine pk_app0 ?_ | with_reducible refine pk_app0L ?_ | with_reducible exact pk_tl | refine pk_var ?_)))⟩
  · -- t9 False
    refine C_exit ?_
    change C Try.prog _ _ _ _ _ _ _
    refine C_seq ?_
    refine C_region ?_
    refine L_q rfl rfl rfl (q_move rfl) ?_
    refine L_q rfl rfl rfl (q_assign rfl) ?_
    refine L_then ?_
    refine C_ret ?_
    obtain rfl : k = ls.length := by omega
    exact ret_of (res1 rfl rfl) sub_nil (by intro r hr; cases hr) ⟨rfl, rfl⟩
set_option maxRecDepth 100000 in
theorem ct_shotlineref02_GasAt (nm : ByteArray) (sf : Int) (v u : Value) (gs : List Gs) (ls : List Dl) (H : okPl sf gs ls) (σ : Nat) (h1 : (σ : Int) ≤ secAt ls ls.length) (h0 : 0 < ls.length) : Ct Try.prog 98 [.agg (cPl nm sf v u).toArray, .int .i64 (σ : Int)] [(v, 2, gs.map cGs), (u, 3, ls.map cDl)] (isV (.int .i64 (gN ls σ))) := by
  refine Ct.of (N := 31) Try.func98 rfl rfl rfl fun w => ?_
  refine C_weak (E' := [(0, .agg (cPl nm sf v u).toArray), (1, .int .i64 (σ : Int))]) (rs' := [rd v 2 (gs.map cGs), rd u 3 (ls.map cDl)]) ⟨rfl, rfl, trivial⟩ (fun _ h => h) ?_
  have hl1 := len_map cGs gs
  have hl2 := len_map cDl ls
  have hll := H.ll; have hgl := H.gl
  refine C_seq ?_
  refine C_region ?_
  refine L_box rfl rfl rfl fun g2 => ?_
  refine L_q rfl rfl rfl (q_assign rfl) ?_
  refine L_then ?_
  refine C_seq ?_
  refine C_region ?_
  refine L_q rfl rfl rfl (q_assign rfl) ?_
  refine L_then ?_
  refine C_seq ?_
  refine C_seq ?_
  refine C_region ?_
  refine L_q rfl rfl rfl (q_assign rfl) ?_
  refine L_then ?_
  refine C_block ?_
  refine C_loop (ι := Nat) (fun k => ([(1, .int .i64 (σ : Int)), (2, .pointer (some ⟨g2, 0, none⟩)), (5, .int .i64 (secAt ls k)), (6, .int .i64 (k : Int))], [box g2 44 (cPl nm sf v u), rd v 2 (gs.map cGs), rd u 3 (ls.map cDl)])) (fun k => k ≤ ls.length ∧ (secAt ls k < (σ : Int) ∨ k = 0)) (fun k => ls.length - k) 0 ⟨Nat.zero_le _, .inr rfl⟩ (fun a w hs => hs.weak ⟨rfl, rfl, rfl, rfl, trivial⟩ (fun h => h.pk (by repeat (first | with_reducible exact pk_nil | refine pk_box rfl ?_ | refine pk_rd rfl ?_ | refine pk_sl rfl ?_ | with_reducible refine pk_app ?_ | with_reducible refine pk_app0 ?_ | with_reducible refine pk_app0L ?_ | with_reducible exact pk_tl | refine pk_var ?_)))) ?_
  rintro k ⟨hk9, hk2⟩
  dsimp only at hk9 hk2 ⊢
  refine C_seq ?_
  refine C_seq ?_
  refine C_region ?_
  refine L_q rfl rfl rfl (q_move rfl) ?_
  refine L_q rfl rfl rfl (q_field tb rfl rfl rfl) ?_
  refine L_q rfl rfl rfl (q_load tb rfl rfl bxo rfl) ?_
  refine L_q rfl rfl rfl (q_len tb rfl rfl (by first | exact gvo | exact gvd gvo (by omega))) ?_
  refine L_q rfl rfl rfl (q_lss rfl rfl) ?_
  refine L_then ?_
  refine C_dec rfl (fun h1 => ?_) (fun h1 => ?_)
  · -- t11 True
    have hel := dl_cell (show k < ls.length by omega)
    have hds := (H.at (k := k) (by omega)).s; have hse := H.e k (by omega)
    refine C_skip_then ?_
    refine C_seq ?_
    refine C_block ?_
    refine C_seq ?_
    refine C_region ?_
    refine L_q rfl rfl rfl (q_move rfl) ?_
    refine L_q rfl rfl rfl (q_field tb rfl rfl rfl) ?_
    refine L_q rfl rfl rfl (q_load tb rfl rfl bxo rfl) ?_
    refine L_q rfl rfl rfl (q_move rfl) ?_
    refine L_q rfl rfl rfl (by first | exact q_index tb rfl rfl rfl rfl (by first | exact gvo | exact gvd gvo (by omega)) (by omega) (by first | omega | (simp; done) | (simp; omega)) | exact q_indexP tb rfl rfl rfl rfl (by omega) (by omega)) ?_
    refine L_q rfl rfl rfl (q_fieldE tb rfl rfl rfl (by first | exact gvo | exact gvd gvo (by omega)) (by first | omega | (simp; done) | (simp; omega))) ?_
    refine L_q rfl rfl rfl (q_loadE tb rfl rfl (by first | exact gvo | exact gvd gvo (by omega)) (i := k) (o := 0) (by omega) hel rfl) ?_
    refine L_q rfl rfl rfl (q_add rfl rfl (by first | exact IntWalk.i64_in _ (by omega) | rfl)) ?_
    refine L_q rfl rfl rfl (q_assign rfl) ?_
    refine L_then ?_
    refine C_seq ?_
    refine C_region ?_
    refine L_q rfl rfl rfl (q_move rfl) ?_
    refine L_q rfl rfl rfl (q_move rfl) ?_
    refine L_q rfl rfl rfl (q_leq rfl rfl) ?_
    refine L_then ?_
    refine C_dec rfl (fun h2 => ?_) (fun h2 => ?_)
    · -- t24 True
      have e9 := kAt_eq H (k := k) (σ := σ) (by omega) hk2 (by rw [secAt_succ]; omega)
      refine C_seq ?_
      refine C_region ?_
      refine L_q rfl rfl rfl (q_field tb rfl rfl rfl) ?_
      refine L_q rfl rfl rfl (q_load tb rfl rfl bxo rfl) ?_
      refine L_q rfl rfl rfl (q_move rfl) ?_
      refine L_q rfl rfl rfl (by first | exact q_index tb rfl rfl rfl rfl (by first | exact gvo | exact gvd gvo (by omega)) (by omega) (by first | omega | (simp; done) | (simp; omega)) | exact q_indexP tb rfl rfl rfl rfl (by omega) (by omega)) ?_
      refine L_q rfl rfl rfl (q_fieldE tb rfl rfl rfl (by first | exact gvo | exact gvd gvo (by omega)) (by first | omega | (simp; done) | (simp; omega))) ?_
      refine L_q rfl rfl rfl (q_loadE tb rfl rfl (by first | exact gvo | exact gvd gvo (by omega)) (i := k) (o := 2) (by omega) hel rfl) ?_
      refine L_q rfl rfl rfl (q_assign rfl) ?_
      refine L_then ?_
      refine C_ret ?_
      exact ret_of (res1 rfl rfl) sub_nil (by intro r hr; cases hr) ⟨(congrArg (Value.int .i64) (by unfold gN; rw [e9])), rfl⟩
    · -- t24 False
      refine C_skip_blk ?_
      refine C_region ?_
      refine L_q rfl rfl rfl (q_move rfl) ?_
      refine L_q rfl rfl rfl (q_add rfl rfl (by first | exact IntWalk.i64_in _ (by omega) | rfl)) ?_
      refine L_q rfl rfl rfl (q_assign rfl) ?_
      refine L_end ?_
      exact fun ac_ wo_ hs_ => ⟨k + 1, ⟨by omega, .inl (by rw [secAt_succ]; omega)⟩, (by dsimp only; omega), hs_.weak ⟨rfl, rfl, rfl, rfl, trivial⟩ (fun h => h.pk (by repeat (first | with_reducible exact pk_nil | refine pk_box rfl ?_ | refine pk_rd rfl ?_ | refine pk_sl rfl ?_ | with_reducible refine pk_app ?_ | with_reducible refine pk_app0 ?_ | with_reducible refine pk_app0L ?_ | with_reducible exact pk_tl | refine pk_var ?_)))⟩
  · -- t11 False
    exfalso
    obtain rfl : k = ls.length := by omega
    omega
set_option maxRecDepth 100000 in
theorem ct_shotlineref02_Points (nm : ByteArray) (sf : Int) (v u : Value) (gs : List Gs) (ls : List Dl) (H : okPl sf gs ls) : Ct Try.prog 100 [.agg (cPl nm sf v u).toArray] [(v, 2, gs.map cGs), (u, 3, ls.map cDl)] (isSl 168 2 ((ptsK ls ls.length).map cSw)) := by
  refine Ct.of (N := 37) Try.func100 rfl rfl rfl fun w => ?_
  refine C_weak (E' := [(0, .agg (cPl nm sf v u).toArray)]) (rs' := [rd v 2 (gs.map cGs), rd u 3 (ls.map cDl)]) ⟨rfl, trivial⟩ (fun _ h => h) ?_
  have hl1 := len_map cGs gs
  have hl2 := len_map cDl ls
  have hll := H.ll; have hgl := H.gl
  refine C_seq ?_
  refine C_region ?_
  refine L_box rfl rfl rfl fun g1 => ?_
  refine L_q rfl rfl rfl (q_assign rfl) ?_
  refine L_then ?_
  refine C_seq ?_
  refine C_region ?_
  refine L_q rfl rfl rfl (by first | exact q_build tb rfl rfl rfl rfl | exact q_buildArr tb rfl rfl rfl rfl rfl) ?_
  refine L_mk (lo_bslice tb rfl rfl rfl (xs := [cSw (0, 0)]) rfl rfl (by simp [cSw]) rfl (by omega) rfl) rfl rfl rfl fun v6 => ?_
  refine L_q rfl rfl rfl (q_assign rfl) ?_
  refine L_then ?_
  refine C_seq ?_
  refine C_seq ?_
  refine C_res (rs' := [sl v6 168 2 ((ptsK ls 0).map cSw), box g1 44 (cPl nm sf v u), rd v 2 (gs.map cGs), rd u 3 (ls.map cDl)]) (fun _ h => h.pk (by repeat (first | with_reducible exact pk_nil | refine pk_box rfl ?_ | refine pk_rd rfl ?_ | refine pk_sl rfl ?_ | with_reducible refine pk_app ?_ | with_reducible refine pk_app0 ?_ | with_reducible refine pk_app0L ?_ | with_reducible exact pk_tl | refine pk_var ?_))) ?_
  refine C_region ?_
  refine L_q rfl rfl rfl (q_assign rfl) ?_
  refine L_then ?_
  refine C_block ?_
  refine C_loop (ι := Nat × Value) (fun q => ([(1, .pointer (some ⟨g1, 0, none⟩)), (3, q.2), (4, .int .i64 (q.1 : Int))], [sl q.2 168 2 ((ptsK ls q.1).map cSw), box g1 44 (cPl nm sf v u), rd v 2 (gs.map cGs), rd u 3 (ls.map cDl)])) (fun q => q.1 ≤ ls.length) (fun q => ls.length - q.1) (0, v6) (Nat.zero_le _) (fun a w hs => hs.weak ⟨rfl, rfl, rfl, trivial⟩ (fun h => h.pk (by repeat (first | with_reducible exact pk_nil | refine pk_box rfl ?_ | refine pk_rd rfl ?_ | refine pk_sl rfl ?_ | with_reducible refine pk_app ?_ | with_reducible refine pk_app0 ?_ | with_reducible refine pk_app0L ?_ | with_reducible exact pk_tl | refine pk_var ?_)))) ?_
  rintro ⟨k, y⟩ hk9
  dsimp only at hk9 ⊢
  refine C_seq ?_
  refine C_seq ?_
  refine C_region ?_
  refine L_q rfl rfl rfl (q_move rfl) ?_
  refine L_q rfl rfl rfl (q_field tb rfl rfl rfl) ?_
  refine L_q rfl rfl rfl (q_load tb rfl rfl bxo rfl) ?_
  refine L_q rfl rfl rfl (q_len tb rfl rfl (by first | exact gvo | exact gvd gvo (by omega))) ?_
  refine L_q rfl rfl rfl (q_lss rfl rfl) ?_
  refine L_then ?_
  refine C_dec rfl (fun h1 => ?_) (fun h1 => ?_)
  · -- t11 True
    have hel := dl_cell (show k < ls.length by omega)
    have hds := (H.at (k := k) (by omega)).s; have hse := H.e k (by omega)
    have hpl : ((ptsK ls k).map cSw).length = k + 1 := by rw [List.length_map, ptsK_len]
    refine C_skip_then ?_
    refine C_seq ?_
    refine C_block ?_
    refine C_draw (n := 21) [(0, false), (1, false), (2, false), (3, false), (4, false), (5, false), (6, false), (7, false), (8, false), (9, false), (10, false), (11, false), (12, false), (13, false), (14, false), (15, false), (16, false), (17, false), (18, false), (19, false), (20, true)] mixed (by kernel_rfl) ?_
    refine W_q rfl rfl rfl rfl (q_move rfl) ?_
    refine W_q rfl rfl rfl rfl (q_move rfl) ?_
    refine W_q rfl rfl rfl rfl (q_move rfl) ?_
    refine W_q rfl rfl rfl rfl (by first | exact q_index tb rfl rfl rfl rfl (by first | exact gvo | exact gvd gvo (by omega)) (by omega) (by first | omega | (simp; done) | (simp; omega)) | exact q_indexP tb rfl rfl rfl rfl (by omega) (by omega)) ?_
    refine W_q rfl rfl rfl rfl (q_fieldE tb rfl rfl rfl (by first | exact gvo | exact gvd gvo (by omega)) (by first | omega | (simp; done) | (simp; omega))) ?_
    refine W_q rfl rfl rfl rfl (q_loadE tb rfl rfl (by first | exact gvo | exact gvd gvo (by omega)) (i := k) (o := 0) (by omega) (pt_cell (Nat.le_refl k)) rfl) ?_
    refine W_q rfl rfl rfl rfl (q_field tb rfl rfl rfl) ?_
    refine W_q rfl rfl rfl rfl (q_load tb rfl rfl bxo rfl) ?_
    refine W_q rfl rfl rfl rfl (q_move rfl) ?_
    refine W_q rfl rfl rfl rfl (by first | exact q_index tb rfl rfl rfl rfl (by first | exact gvo | exact gvd gvo (by omega)) (by omega) (by first | omega | (simp; done) | (simp; omega)) | exact q_indexP tb rfl rfl rfl rfl (by omega) (by omega)) ?_
    refine W_q rfl rfl rfl rfl (q_fieldE tb rfl rfl rfl (by first | exact gvo | exact gvd gvo (by omega)) (by first | omega | (simp; done) | (simp; omega))) ?_
    refine W_q rfl rfl rfl rfl (q_loadE tb rfl rfl (by first | exact gvo | exact gvd gvo (by omega)) (i := k) (o := 0) (by omega) hel rfl) ?_
    refine W_q rfl rfl rfl rfl (q_add rfl rfl (by first | exact IntWalk.i64_in _ (by omega) | rfl)) ?_
    refine W_q rfl rfl rfl rfl (q_field tb rfl rfl rfl) ?_
    refine W_q rfl rfl rfl rfl (q_load tb rfl rfl bxo rfl) ?_
    refine W_q rfl rfl rfl rfl (q_move rfl) ?_
    refine W_q rfl rfl rfl rfl (by first | exact q_index tb rfl rfl rfl rfl (by first | exact gvo | exact gvd gvo (by omega)) (by omega) (by first | omega | (simp; done) | (simp; omega)) | exact q_indexP tb rfl rfl rfl rfl (by omega) (by omega)) ?_
    refine W_q rfl rfl rfl rfl (q_fieldE tb rfl rfl rfl (by first | exact gvo | exact gvd gvo (by omega)) (by first | omega | (simp; done) | (simp; omega))) ?_
    refine W_q rfl rfl rfl rfl (q_loadE tb rfl rfl (by first | exact gvo | exact gvd gvo (by omega)) (i := k) (o := 1) (by omega) hel rfl) ?_
    refine W_q rfl rfl rfl rfl (by first | exact q_build tb rfl rfl rfl rfl | exact q_buildArr tb rfl rfl rfl rfl rfl) ?_
    refine W_mk rfl (lo_bslice tb rfl rfl rfl (xs := [cSw (secAt ls (k + 1), depAt ls (k + 1))]) rfl rfl (by simp [cSw]) rfl (by omega) rfl) rfl rfl rfl fun v34 => ?_
    refine W_nil ?_
    first | (refine L_front1 ?_; refine L_append tb rfl rfl rfl (by omega) rfl rfl (by first | exact gvo | exact gvd gvo (by omega)) (by simp [Value.oneCell', cSw]) (by simp [maxLen, List.length_map, ptsK_len]; omega) (by simp [List.length_map, ptsK_len]; omega) rfl fun v35 => ?_) | (refine L_front2 ?_; refine L_append tb rfl rfl rfl (by omega) rfl rfl (by first | exact gvo | exact gvd gvo (by omega)) (by simp [Value.oneCell', cSw]) (by simp [maxLen, List.length_map, ptsK_len]; omega) (by simp [List.length_map, ptsK_len]; omega) rfl fun v35 => ?_) | (refine L_front3 ?_; refine L_append tb rfl rfl rfl (by omega) rfl rfl (by first | exact gvo | exact gvd gvo (by omega)) (by simp [Value.oneCell', cSw]) (by simp [maxLen, List.length_map, ptsK_len]; omega) (by simp [List.length_map, ptsK_len]; omega) rfl fun v35 => ?_) | (refine L_front4 ?_; refine L_append tb rfl rfl rfl (by omega) rfl rfl (by first | exact gvo | exact gvd gvo (by omega)) (by simp [Value.oneCell', cSw]) (by simp [maxLen, List.length_map, ptsK_len]; omega) (by simp [List.length_map, ptsK_len]; omega) rfl fun v35 => ?_) | (refine L_front5 ?_; refine L_append tb rfl rfl rfl (by omega) rfl rfl (by first | exact gvo | exact gvd gvo (by omega)) (by simp [Value.oneCell', cSw]) (by simp [maxLen, List.length_map, ptsK_len]; omega) (by simp [List.length_map, ptsK_len]; omega) rfl fun v35 => ?_) | (refine L_front6 ?_; refine L_append tb rfl rfl rfl (by omega) rfl rfl (by first | exact gvo | exact gvd gvo (by omega)) (by simp [Value.oneCell', cSw]) (by simp [maxLen, List.length_map, ptsK_len]; omega) (by simp [List.length_map, ptsK_len]; omega) rfl fun v35 => ?_) | (refine L_append tb rfl rfl rfl (by omega) rfl rfl (by first | exact gvo | exact gvd gvo (by omega)) (by simp [Value.oneCell', cSw]) (by simp [maxLen, List.length_map, ptsK_len]; omega) (by simp [List.length_map, ptsK_len]; omega) rfl fun v35 => ?_)
    refine L_q rfl rfl rfl (q_assign rfl) ?_
    refine L_blk ?_
    refine C_region ?_
    refine L_q rfl rfl rfl (q_move rfl) ?_
    refine L_q rfl rfl rfl (q_add rfl rfl (by first | exact IntWalk.i64_in _ (by omega) | rfl)) ?_
    refine L_q rfl rfl rfl (q_assign rfl) ?_
    refine L_end ?_
    exact fun ac_ wo_ hs_ => ⟨(k + 1, v35), (by dsimp only; omega), (by dsimp only; omega), hs_.weak ⟨rfl, rfl, rfl, trivial⟩ (fun h => h.pk (by repeat (first | with_reducible exact pk_nil | refine pk_box (by first | rfl | exact pt_cells _ _) ?_ | refine pk_rd rfl ?_ | refine pk_sl (by first | rfl | exact pt_cells _ _) ?_ | with_reducible refine pk_app ?_ | with_reducible refine pk_app0 ?_ | with_reducible refine pk_app0L ?_ | with_reducible exact pk_tl | refine pk_var ?_)))⟩
  · -- t11 False
    refine C_exit ?_
    change C Try.prog _ _ _ _ _ _ _
    refine C_seq ?_
    refine C_region ?_
    refine L_q rfl rfl rfl (q_move rfl) ?_
    refine L_q rfl rfl rfl (q_assign rfl) ?_
    refine L_then ?_
    refine C_ret ?_
    obtain rfl : k = ls.length := by omega
    exact ret_of (rs' := [sl y 168 2 ((ptsK ls ls.length).map cSw)]) (res1 rfl rfl) (fun w_ h_ => h_.pk (by repeat (first | with_reducible exact pk_nil | refine pk_box rfl ?_ | refine pk_rd rfl ?_ | refine pk_sl rfl ?_ | with_reducible refine pk_app ?_ | with_reducible refine pk_app0 ?_ | with_reducible refine pk_app0L ?_ | with_reducible exact pk_tl | refine pk_var ?_))) own1 rfl
set_option maxRecDepth 100000 in
set_option maxHeartbeats 1000000 in
theorem ct_shotlineref02_At (v : Value) (sf : Int) (gs : List Gs) (ls : List Dl) (H : okPl sf gs ls) (σ : Nat) (h1 : (σ : Int) ≤ secAt ls ls.length) (h0 : 0 < ls.length) : Ct Try.prog 141 [v, .int .i64 (σ : Int)] [(v, 2, (ptsK ls ls.length).map cSw)] (isV (.tuple #[.int .i64 (atN ls (kAt ls σ) (σ : Int)), .int .i64 (secAt ls (kAt ls σ + 1) - secAt ls (kAt ls σ))])) := by
  refine Ct.of (N := 59) Try.func141 rfl rfl rfl fun w => ?_
  refine C_weak (E' := [(0, v), (1, .int .i64 (σ : Int))]) (rs' := [rd v 2 ((ptsK ls ls.length).map cSw)]) ⟨rfl, rfl, trivial⟩ (fun _ h => h) ?_
  have hpl : ((ptsK ls ls.length).map cSw).length = ls.length + 1 := by rw [List.length_map, ptsK_len]
  have hll := H.ll
  refine C_seq ?_
  refine C_region ?_
  refine L_q rfl rfl rfl (q_assign rfl) ?_
  refine L_q rfl rfl rfl (q_assign rfl) ?_
  refine L_then ?_
  refine C_seq ?_
  refine C_seq ?_
  refine C_region ?_
  refine L_q rfl rfl rfl (q_assign rfl) ?_
  refine L_then ?_
  refine C_block ?_
  refine C_loop (ι := Nat) (fun k => ([(0, v), (1, .int .i64 (σ : Int)), (6, .int .i64 ((k : Int) + 1))], [rd v 2 ((ptsK ls ls.length).map cSw)])) (fun k => k ≤ ls.length ∧ (secAt ls k < (σ : Int) ∨ k = 0)) (fun k => ls.length - k) 0 ⟨Nat.zero_le _, .inr rfl⟩ (fun a w hs => hs.weak ⟨rfl, rfl, rfl, trivial⟩ (fun h => h.pk (by repeat (first | with_reducible exact pk_nil | refine pk_box rfl ?_ | refine pk_rd rfl ?_ | refine pk_sl rfl ?_ | with_reducible refine pk_app ?_ | with_reducible refine pk_app0 ?_ | with_reducible refine pk_app0L ?_ | with_reducible exact pk_tl | refine pk_var ?_)))) ?_
  rintro k ⟨hk9, hk2⟩
  dsimp only at hk9 hk2 ⊢
  refine C_seq ?_
  refine C_seq ?_
  refine C_region ?_
  refine L_q rfl rfl rfl (q_move rfl) ?_
  refine L_q rfl rfl rfl (q_move rfl) ?_
  refine L_q rfl rfl rfl (q_len tb rfl rfl (by first | exact gvo | exact gvd gvo (by omega))) ?_
  refine L_q rfl rfl rfl (q_lss rfl rfl) ?_
  refine L_then ?_
  refine C_dec rfl (fun h1 => ?_) (fun h1 => ?_)
  · -- t12 True
    have hse := H.e k (by omega); have hse2 := H.e (k + 1) (by omega)
    refine C_skip_then ?_
    refine C_seq ?_
    refine C_block ?_
    refine C_seq ?_
    refine C_region ?_
    refine L_q rfl rfl rfl (q_move rfl) ?_
    refine L_q rfl rfl rfl (q_move rfl) ?_
    refine L_q rfl rfl rfl (q_move rfl) ?_
    refine L_q rfl rfl rfl (by first | exact q_index tb rfl rfl rfl rfl (by first | exact gvo | exact gvd gvo (by omega)) (by omega) (by first | omega | (simp; done) | (simp; omega)) | exact q_indexP tb rfl rfl rfl rfl (by omega) (by omega)) ?_
    refine L_q rfl rfl rfl (q_fieldE tb rfl rfl rfl (by first | exact gvo | exact gvd gvo (by omega)) (by first | omega | (simp; done) | (simp; omega))) ?_
    refine L_q rfl rfl rfl (q_loadE tb rfl rfl (by first | exact gvo | exact gvd gvo (by omega)) (i := k + 1) (o := 0) (by omega) (pt_cell (by omega)) rfl) ?_
    refine L_q rfl rfl rfl (q_leq rfl rfl) ?_
    refine L_then ?_
    refine C_dec rfl (fun h2 => ?_) (fun h2 => ?_)
    · -- t21 True
      have e9 := kAt_eq H (k := k) (σ := σ) (by omega) hk2 (by omega)
      have hz0 : k = 0 → secAt ls k = 0 := fun h => by rw [h]; rfl
      obtain ⟨ha1, ha2, ha3, ha4⟩ := atN_in H (k := k) (c := (σ : Int)) (by omega) (by omega) (by omega)
      have hd1 := H.dep (k := k) (by omega); have hd2 := H.dep (k := k + 1) (by omega); have hae : atN ls k (σ : Int) = depAt ls k * (secAt ls (k + 1) - secAt ls k) + (depAt ls (k + 1) - depAt ls k) * ((σ : Int) - secAt ls k) := rfl
      refine C_seq ?_
      refine C_wide [.q 0, .q 1, .q 2, .q 3, .q 4, .q 5, .q 6, .q 7, .q 8, .p 9 10, .s 11, .s 12] mixed (by kernel_rfl) rfl (by kernel_rfl) ?_
      refine X_q rfl rfl rfl rfl (q_move rfl) ?_
      refine X_q rfl rfl rfl rfl (q_move rfl) ?_
      refine X_q rfl rfl rfl rfl (q_sub rfl rfl (by first | exact IntWalk.i64_in _ (by omega) | rfl)) ?_
      refine X_q rfl rfl rfl rfl (by first | exact q_index tb rfl rfl rfl rfl (by first | exact gvo | exact gvd gvo (by omega)) (by omega) (by first | omega | (simp; done) | (simp; omega)) | exact q_indexP tb rfl rfl rfl rfl (by omega) (by omega)) ?_
      refine X_q rfl rfl rfl rfl (q_loadEA tb rfl rfl (by first | exact gvo | exact gvd gvo (by omega)) (i := k) (o := 0) (by omega) (pt_cell (by omega)) rfl rfl) ?_
      refine X_q rfl rfl rfl rfl (q_move rfl) ?_
      refine X_q rfl rfl rfl rfl (q_move rfl) ?_
      refine X_q rfl rfl rfl rfl (by first | exact q_index tb rfl rfl rfl rfl (by first | exact gvo | exact gvd gvo (by omega)) (by omega) (by first | omega | (simp; done) | (simp; omega)) | exact q_indexP tb rfl rfl rfl rfl (by omega) (by omega)) ?_
      refine X_q rfl rfl rfl rfl (q_loadEA tb rfl rfl (by first | exact gvo | exact gvd gvo (by omega)) (i := k + 1) (o := 0) (by omega) (pt_cell (by omega)) rfl rfl) ?_
      refine X_pair tb rfl rfl rfl rfl rfl rfl (by decide) fun g7 g8 => ?_
      first | refine X_store tb rfl rfl (List.Perm.refl _) rfl rfl rfl rfl rfl rfl rfl rfl ?_ | refine X_store tb rfl rfl perm1 rfl rfl rfl rfl rfl rfl rfl rfl ?_ | refine X_store tb rfl rfl (perm_front (pre := [_, _])) rfl rfl rfl rfl rfl rfl rfl rfl ?_ | refine X_store tb rfl rfl (perm_front (pre := [_, _, _])) rfl rfl rfl rfl rfl rfl rfl rfl ?_
      first | refine X_store tb rfl rfl (List.Perm.refl _) rfl rfl rfl rfl rfl rfl rfl rfl ?_ | refine X_store tb rfl rfl perm1 rfl rfl rfl rfl rfl rfl rfl rfl ?_ | refine X_store tb rfl rfl (perm_front (pre := [_, _])) rfl rfl rfl rfl rfl rfl rfl rfl ?_ | refine X_store tb rfl rfl (perm_front (pre := [_, _, _])) rfl rfl rfl rfl rfl rfl rfl rfl ?_
      refine X_nil ?_
      dsimp only [List.cons_append, List.nil_append]
      refine L_then ?_
      refine C_seq ?_
      refine C_res (rs' := [box g8 168 [.int .i64 (secAt ls (k + 1)), .int .i64 (depAt ls (k + 1))], box g7 168 [.int .i64 (secAt ls k), .int .i64 (depAt ls k)], rd v 2 ((ptsK ls ls.length).map cSw)]) (fun _ h => h.pk (by repeat (first | with_reducible exact pk_nil | refine pk_box rfl ?_ | refine pk_rd rfl ?_ | refine pk_sl rfl ?_ | with_reducible refine pk_app ?_ | with_reducible refine pk_app0 ?_ | with_reducible refine pk_app0L ?_ | with_reducible exact pk_tl | refine pk_var ?_))) ?_
      refine C_draw (n := 26) [(0, false), (1, false), (2, false), (3, false), (4, false), (5, false), (6, false), (7, false), (8, false), (9, false), (10, false), (11, false), (12, false), (13, false), (14, false), (15, false), (16, false), (17, false), (18, false), (19, false), (20, false), (21, false), (22, false), (23, false), (24, false), (25, false)] mixed (by kernel_rfl) ?_
      refine W_q rfl rfl rfl rfl (q_field tb rfl rfl rfl) ?_
      refine W_q rfl rfl rfl rfl (q_load tb rfl rfl bxo rfl) ?_
      refine W_q rfl rfl rfl rfl (q_field tb rfl rfl rfl) ?_
      refine W_q rfl rfl rfl rfl (q_load tb rfl rfl bxo rfl) ?_
      refine W_q rfl rfl rfl rfl (q_field tb rfl rfl rfl) ?_
      refine W_q rfl rfl rfl rfl (q_load tb rfl rfl bxo rfl) ?_
      refine W_q rfl rfl rfl rfl (q_sub rfl rfl (by first | exact IntWalk.i64_in _ (by omega) | rfl)) ?_
      refine W_q rfl rfl rfl rfl (q_mul rfl rfl (by first | exact IntWalk.i64_in _ (by omega) | rfl)) ?_
      refine W_q rfl rfl rfl rfl (q_field tb rfl rfl rfl) ?_
      refine W_q rfl rfl rfl rfl (q_load tb rfl rfl bxo rfl) ?_
      refine W_q rfl rfl rfl rfl (q_field tb rfl rfl rfl) ?_
      refine W_q rfl rfl rfl rfl (q_load tb rfl rfl bxo rfl) ?_
      refine W_q rfl rfl rfl rfl (q_sub rfl rfl (by first | exact IntWalk.i64_in _ (by omega) | rfl)) ?_
      refine W_q rfl rfl rfl rfl (q_move rfl) ?_
      refine W_q rfl rfl rfl rfl (q_field tb rfl rfl rfl) ?_
      refine W_q rfl rfl rfl rfl (q_load tb rfl rfl bxo rfl) ?_
      refine W_q rfl rfl rfl rfl (q_sub rfl rfl (by first | exact IntWalk.i64_in _ (by omega) | rfl)) ?_
      refine W_q rfl rfl rfl rfl (q_mul rfl rfl (by first | exact IntWalk.i64_in _ (by omega) | rfl)) ?_
      refine W_q rfl rfl rfl rfl (q_add rfl rfl (by first | exact IntWalk.i64_in _ (by omega) | rfl)) ?_
      refine W_q rfl rfl rfl rfl (q_field tb rfl rfl rfl) ?_
      refine W_q rfl rfl rfl rfl (q_load tb rfl rfl bxo rfl) ?_
      refine W_q rfl rfl rfl rfl (q_field tb rfl rfl rfl) ?_
      refine W_q rfl rfl rfl rfl (q_load tb rfl rfl bxo rfl) ?_
      refine W_q rfl rfl rfl rfl (q_sub rfl rfl (by first | exact IntWalk.i64_in _ (by omega) | rfl)) ?_
      refine W_q rfl rfl rfl rfl (q_assign rfl) ?_
      refine W_q rfl rfl rfl rfl (q_assign rfl) ?_
      refine W_nil ?_
      refine L_then ?_
      refine C_ret ?_
      rw [e9]
      exact ret_of (res2 rfl rfl rfl) sub_nil (by intro r hr; cases hr) ⟨rfl, rfl⟩
    · -- t21 False
      refine C_skip_blk ?_
      refine C_region ?_
      refine L_q rfl rfl rfl (q_move rfl) ?_
      refine L_q rfl rfl rfl (q_add rfl rfl (by first | exact IntWalk.i64_in _ (by omega) | rfl)) ?_
      refine L_q rfl rfl rfl (q_assign rfl) ?_
      refine L_end ?_
      exact fun ac_ wo_ hs_ => ⟨k + 1, ⟨by omega, .inl (by omega)⟩, (by dsimp only; omega), hs_.weak ⟨rfl, rfl, rfl, trivial⟩ (fun h => h.pk (by repeat (first | with_reducible exact pk_nil | refine pk_box rfl ?_ | refine pk_rd rfl ?_ | refine pk_sl rfl ?_ | with_reducible refine pk_app ?_ | with_reducible refine pk_app0 ?_ | with_reducible refine pk_app0L ?_ | with_reducible exact pk_tl | refine pk_var ?_)))⟩
  · -- t12 False
    exfalso
    obtain rfl : k = ls.length := by omega
    omega
set_option maxRecDepth 100000 in
theorem ct_shotlineref02_rounded (n b : Int) (h : 1 ≤ b ∧ -9000000000000000000 ≤ n ∧ n ≤ 9000000000000000000) : Ct Try.prog 142 [.int .i64 n, .int .i64 b] [] (isV (.agg #[.int .i64 (n / b), .int .i64 (upZ n b)])) := by
  refine Ct.of (N := 12) Try.func142 rfl rfl rfl fun w => ?_
  refine C_weak (E' := [(0, .int .i64 n), (1, .int .i64 b)]) (rs' := []) ⟨rfl, rfl, trivial⟩ (fun _ h => h) ?_
  refine C_seq ?_
  refine C_region ?_
  refine L_alloc tb rfl rfl fun g4 => ?_
  refine L_then ?_
  refine C_seq ?_
  refine C_region ?_
  refine L_q rfl rfl rfl (q_move rfl) ?_
  refine L_q rfl rfl rfl (q_move rfl) ?_
  refine L_call tb rfl rfl (ct_shotlinebase_Floor n b h) no_ps rfl ?_
  refine L_q rfl rfl rfl (q_move rfl) ?_
  refine L_q rfl rfl rfl (q_move rfl) ?_
  refine L_call tb rfl rfl (ct_shotlinebase_Ceil n b h) no_ps rfl ?_
  refine L_q rfl rfl rfl (by first | exact q_build tb rfl rfl rfl rfl | exact q_buildArr tb rfl rfl rfl rfl rfl) ?_
  first | refine L_store tb rfl rfl rfl rfl rfl rfl rfl rfl ?_ | (refine L_front1 ?_; refine L_store tb rfl rfl rfl rfl rfl rfl rfl rfl ?_) | (refine L_front2 ?_; refine L_store tb rfl rfl rfl rfl rfl rfl rfl rfl ?_) | (refine L_front3 ?_; refine L_store tb rfl rfl rfl rfl rfl rfl rfl rfl ?_) | (refine L_front4 ?_; refine L_store tb rfl rfl rfl rfl rfl rfl rfl rfl ?_) | (refine L_front5 ?_; refine L_store tb rfl rfl rfl rfl rfl rfl rfl rfl ?_) | (refine L_front6 ?_; refine L_store tb rfl rfl rfl rfl rfl rfl rfl rfl ?_)
  refine L_then ?_
  refine C_ret ?_
  exact ret_of (resC tb rfl rfl rfl bxo rfl) sub_nil (by intro r hr; cases hr) ⟨rfl, rfl⟩
set_option maxRecDepth 100000 in
theorem ct_shotlineref02_DepthAt (v : Value) (sf : Int) (gs : List Gs) (ls : List Dl) (H : okPl sf gs ls) (σ : Nat) (h1 : (σ : Int) ≤ secAt ls ls.length) (h0 : 0 < ls.length) : Ct Try.prog 99 [v, .int .i64 (σ : Int)] [(v, 2, (ptsK ls ls.length).map cSw)] (isV (.agg #[.int .i64 (atN ls (kAt ls σ) (σ : Int) / (secAt ls (kAt ls σ + 1) - secAt ls (kAt ls σ))), .int .i64 ((dpM (legAt sf gs ls (kAt ls σ)) ((σ : Int) - secAt ls (kAt ls σ))))])) := by
  refine Ct.of (N := 16) Try.func99 rfl rfl rfl fun w => ?_
  refine C_weak (E' := [(0, v), (1, .int .i64 (σ : Int))]) (rs' := [rd v 2 ((ptsK ls ls.length).map cSw)]) ⟨rfl, rfl, trivial⟩ (fun _ h => h) ?_
  obtain ⟨hk1, hk2, hk3⟩ := kAt_in H h0 h1
  have hz0 : kAt ls σ = 0 → secAt ls (kAt ls σ) = 0 := fun h => by rw [h]; rfl
  obtain ⟨ha1, ha2, ha3, ha4⟩ := atN_in H (k := kAt ls σ) (c := (σ : Int)) hk1 (by omega) (by omega)
  have hds := (H.at hk1).s; have hsu := secAt_succ ls (kAt ls σ)
  refine C_seq ?_
  refine C_region ?_
  refine L_alloc tb rfl rfl fun g4 => ?_
  refine L_then ?_
  refine C_seq ?_
  refine C_region ?_
  refine L_q rfl rfl rfl (q_move rfl) ?_
  refine L_q rfl rfl rfl (q_move rfl) ?_
  refine L_call tb rfl rfl (ct_shotlineref02_At v sf gs ls H σ h1 h0) (ps_cons (by first | exact gvo | exact gvd gvo (by omega)) no_ps) rfl ?_
  refine L_q rfl rfl rfl (q_move rfl) ?_
  refine L_q rfl rfl rfl (q_ext0 rfl) ?_
  refine L_q rfl rfl rfl (q_ext1 rfl) ?_
  refine L_q rfl rfl rfl (q_assign rfl) ?_
  refine L_q rfl rfl rfl (q_assign rfl) ?_
  refine L_then ?_
  refine C_seq ?_
  refine C_region ?_
  refine L_q rfl rfl rfl (q_move rfl) ?_
  refine L_q rfl rfl rfl (q_move rfl) ?_
  refine L_call tb rfl rfl (ct_shotlineref02_rounded (atN ls (kAt ls σ) (σ : Int)) (secAt ls (kAt ls σ + 1) - secAt ls (kAt ls σ)) (by omega)) no_ps rfl ?_
  first | refine L_store tb rfl rfl rfl rfl rfl rfl rfl rfl ?_ | (refine L_front1 ?_; refine L_store tb rfl rfl rfl rfl rfl rfl rfl rfl ?_) | (refine L_front2 ?_; refine L_store tb rfl rfl rfl rfl rfl rfl rfl rfl ?_) | (refine L_front3 ?_; refine L_store tb rfl rfl rfl rfl rfl rfl rfl rfl ?_) | (refine L_front4 ?_; refine L_store tb rfl rfl rfl rfl rfl rfl rfl rfl ?_) | (refine L_front5 ?_; refine L_store tb rfl rfl rfl rfl rfl rfl rfl rfl ?_) | (refine L_front6 ?_; refine L_store tb rfl rfl rfl rfl rfl rfl rfl rfl ?_)
  refine L_then ?_
  refine C_ret ?_
  rw [← dp_at H hk1]
  exact ret_of (resC tb rfl rfl rfl bxo rfl) sub_nil (by intro r hr; cases hr) ⟨rfl, rfl⟩
set_option maxRecDepth 100000 in
set_option maxHeartbeats 1000000 in
theorem ct_shotlineref05_NeedAt (t : Value) (r : Ru) (nm : ByteArray) (sf : Int) (v u : Value) (gs : List Gs) (ls : List Dl) (H : okPl sf gs ls) (HR : okRu r) (hT : secAt ls ls.length ≤ 20000) (σ : Nat) (h1 : (σ : Int) ≤ secAt ls ls.length) (h0 : 0 < ls.length) : Ct Try.prog 31 [.agg (cPl nm sf v u).toArray, .agg (cRu t r).toArray, .int .i64 (σ : Int)] [(v, 2, gs.map cGs), (u, 3, ls.map cDl), (t, 2, r.tb.map cOw)] (isV (.tuple #[.int .i64 (gN ls σ), .int .i64 (aN r sf gs ls σ)])) := by
  refine Ct.of (N := 31) Try.func31 rfl rfl rfl fun w => ?_
  refine C_weak (E' := [(0, .agg (cPl nm sf v u).toArray), (1, .agg (cRu t r).toArray), (2, .int .i64 (σ : Int))]) (rs' := [rd v 2 (gs.map cGs), rd u 3 (ls.map cDl), rd t 2 (r.tb.map cOw)]) ⟨rfl, rfl, rfl, trivial⟩ (fun _ h => h) ?_
  have hl1 := len_map cGs gs
  have hl2 := len_map cDl ls
  have hsf := H.sf; have hgl := H.gl
  obtain ⟨hk1, hk2, hk3⟩ := kAt_in H h0 h1
  have hz0 : kAt ls σ = 0 → secAt ls (kAt ls σ) = 0 := fun h => by rw [h]; rfl
  have hds := (H.at hk1).s; have hsu := secAt_succ ls (kAt ls σ); have hsl := sec_leg H hk1
  obtain ⟨hu, hbr, hdm, hes⟩ := needA_in H HR hk1 (by omega) (s := (σ : Int) - secAt ls (kAt ls σ)) (by omega)
  have helo := map_get cI (cons_at H (b := r.br) h1 h0)
  have hg9 : 0 ≤ gN ls σ ∧ gN ls σ ≤ gs.length - 1 := (H.at hk1).g
  have hcl : ((consK gs.length ls (amtT sf gs ls r.br (σ : Int)) ls.length).map cI).length = gs.length := by rw [List.length_map, consK_len]
  refine C_seq ?_
  refine C_region ?_
  refine L_box rfl rfl rfl fun g3 => ?_
  refine L_box rfl rfl rfl fun g4 => ?_
  refine L_q rfl rfl rfl (q_assign rfl) ?_
  refine L_q rfl rfl rfl (q_assign rfl) ?_
  refine L_then ?_
  refine C_seq ?_
  refine C_region ?_
  refine L_q rfl rfl rfl (q_loadA tb rfl rfl bxo rfl rfl) ?_
  refine L_q rfl rfl rfl (q_move rfl) ?_
  refine L_call tb rfl rfl (ct_shotlineref02_GasAt nm sf v u gs ls H σ h1 h0) (ps_cons (by first | exact gvo | exact gvd gvo (by omega)) (ps_cons (by first | exact gvo | exact gvd gvo (by omega)) no_ps)) rfl ?_
  refine L_q rfl rfl rfl (q_assign rfl) ?_
  refine L_then ?_
  refine C_seq ?_
  refine C_draw (n := 21) [(0, false), (1, false), (2, false), (3, false), (4, false), (6, false), (9, false), (10, false), (11, false), (12, false), (14, false), (5, true), (7, false), (8, false), (13, true), (15, true), (16, false), (17, true), (18, false), (19, false), (20, false)] mixed (by kernel_rfl) ?_
  refine W_q rfl rfl rfl rfl (q_move rfl) ?_
  refine W_q rfl rfl rfl rfl (q_loadA tb rfl rfl bxo rfl rfl) ?_
  refine W_q rfl rfl rfl rfl (q_field tb rfl rfl rfl) ?_
  refine W_q rfl rfl rfl rfl (q_load tb rfl rfl bxo rfl) ?_
  refine W_q rfl rfl rfl rfl (q_move rfl) ?_
  refine W_q rfl rfl rfl rfl (q_move rfl) ?_
  refine W_q rfl rfl rfl rfl (q_loadA tb rfl rfl bxo rfl rfl) ?_
  refine W_q rfl rfl rfl rfl (q_field tb rfl rfl rfl) ?_
  refine W_q rfl rfl rfl rfl (q_load tb rfl rfl bxo rfl) ?_
  refine W_q rfl rfl rfl rfl (q_loadA tb rfl rfl bxo rfl rfl) ?_
  refine W_q rfl rfl rfl rfl (q_move rfl) ?_
  refine W_callS tb rfl rfl rfl rfl (ct_shotlineref05_ConsumedAt nm sf v u gs ls H r.br (σ : Int) HR.br hT (by omega)) (ps_cons (by first | exact gvo | exact gvd gvo (by omega)) (ps_cons (by first | exact gvo | exact gvd gvo (by omega)) no_ps)) rfl fun v17 => ?_
  refine W_q rfl rfl rfl rfl (by first | exact q_index tb rfl rfl rfl rfl (by first | exact gvo | exact gvd gvo (by omega)) (by omega) (by first | omega | (simp; done) | (simp; omega)) | exact q_indexP tb rfl rfl rfl rfl (by omega) (by omega)) ?_
  refine W_q rfl rfl rfl rfl (q_loadE tb rfl rfl (by first | exact gvo | exact gvd gvo (by omega)) (i := (gN ls σ).toNat) (o := 0) (by omega) helo rfl) ?_
  refine W_callS tb rfl rfl rfl rfl (ct_shotlineref02_Points nm sf v u gs ls H) (ps_cons (by first | exact gvo | exact gvd gvo (by omega)) (ps_cons (by first | exact gvo | exact gvd gvo (by omega)) no_ps)) rfl fun v25 => ?_
  refine W_call tb rfl rfl rfl rfl (ct_shotlineref02_DepthAt v25 sf gs ls H σ h1 h0) (ps_cons (by first | exact gvo | exact gvd gvo (by omega)) no_ps) rfl ?_
  refine W_q rfl rfl rfl rfl (by first | exact q_fieldV (off := 1) (sz := 1) (by kernel_rfl) rfl rfl | exact q_fieldVA (off := 1) (sz := 1) (by kernel_rfl) rfl rfl) ?_
  refine W_call tb rfl rfl rfl rfl (ct_shotlineref05_EscapeFrom t r sf (dpM (legAt sf gs ls (kAt ls σ)) ((σ : Int) - secAt ls (kAt ls σ))) HR hsf hdm) (ps_cons (by first | exact gvo | exact gvd gvo (by omega)) no_ps) rfl ?_
  refine W_q rfl rfl rfl rfl (q_add rfl rfl (by first | exact IntWalk.i64_in _ (by omega) | rfl)) ?_
  refine W_q rfl rfl rfl rfl (q_assign rfl) ?_
  refine W_q rfl rfl rfl rfl (q_assign rfl) ?_
  refine W_nil ?_
  refine L_then ?_
  refine C_ret ?_
  exact ret_of (res2 rfl rfl rfl) sub_nil (by intro r hr; cases hr) ⟨rfl, rfl⟩
end Go.Proofs.Ytolnohjbpllmhaa
