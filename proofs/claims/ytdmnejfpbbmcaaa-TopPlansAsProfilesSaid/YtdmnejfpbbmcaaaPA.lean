/-
  Walks: each function named returns what its model says. Conditions: those in front of each theorem.
-/
import Derived.Test.YtdmnejfpbbmcaaaYB
import Derived.Test.YtdmnejfpbbmcaaaPf
namespace Go.Proofs.Ytdmnejfpbbmcaaa
open Go.RowKit

set_option maxRecDepth 100000 in
theorem ct_rounded2 (n d : Int) (h : 1 ≤ d ∧ d ≤ 1000000000000 ∧ 0 ≤ n ∧ n ≤ 1000000000000000000) : Ct Try.prog 42 [.agg #[.int .i64 n, .int .i64 d]] [] (isV (.agg #[.int .i64 (n / d), .int .i64 (upZ n d)])) := by
 refine Ct.of (N := 18) Try.func42 rfl rfl rfl fun w => ?_
 refine C_weak (E' := [(0, .agg #[.int .i64 n, .int .i64 d])]) (rs' := []) ⟨rfl, trivial⟩ (fun _ h => h) ?_
 have hq0 := Int.ediv_nonneg (show 0 ≤ n by omega) (show 0 ≤ d by omega); have hq3 := Int.ediv_le_self d (show 0 ≤ n by omega); have hp0 := Int.ediv_nonneg (show 0 ≤ n + d - 1 by omega) (show 0 ≤ d by omega); have hp3 := Int.ediv_le_self d (show 0 ≤ n + d - 1 by omega)
 refine C_seq ?_
 refine C_region ?_
 refine L_box rfl rfl rfl fun g1 => ?_
 refine L_alloc tb rfl rfl fun g2 => ?_
 refine L_then ?_
 refine C_seq ?_
 refine C_draw (n := 15) [(0, false), (1, false), (2, false), (3, false), (4, false), (5, false), (6, false), (7, false), (8, false), (9, false), (10, false), (11, false), (12, false), (13, false), (14, false)] mixed (by kernel_rfl) ?_
 refine Yq rfl (q_field tb rfl rfl rfl) ?_
 refine Yq rfl (q_load tb rfl rfl bxo rfl) ?_
 refine Yq rfl (q_field tb rfl rfl rfl) ?_
 refine Yq rfl (q_load tb rfl rfl bxo rfl) ?_
 refine Yq rfl (q_quo rfl rfl (by omega) (by first | exact IntWalk.i64_quo _ _ (by omega) | exact IntWalk.i64_quo' _ _ (by omega) | rfl)) ?_
 refine Yq rfl (q_field tb rfl rfl rfl) ?_
 refine Yq rfl (q_load tb rfl rfl bxo rfl) ?_
 refine Yq rfl (q_field tb rfl rfl rfl) ?_
 refine Yq rfl (q_load tb rfl rfl bxo rfl) ?_
 refine Yq rfl (q_add rfl rfl (by first | exact IntWalk.i64_in _ (by omega) | rfl)) ?_
 refine Yq rfl (q_sub rfl rfl (by first | exact IntWalk.i64_in _ (by omega) | rfl)) ?_
 refine Yq rfl (q_field tb rfl rfl rfl) ?_
 refine Yq rfl (q_load tb rfl rfl bxo rfl) ?_
 refine Yq rfl (q_quo rfl rfl (by omega) (by first | exact IntWalk.i64_quo _ _ (by omega) | exact IntWalk.i64_quo' _ _ (by omega) | rfl)) ?_
 refine Yq rfl (by first | exact q_build tb rfl rfl rfl rfl | exact q_buildArr tb rfl rfl rfl rfl rfl) ?_
 refine W_nil ?_
 refine L_st tb rfl rfl ?_
 refine L_then ?_
 refine C_ret ?_
 exact ret_of (resC tb rfl rfl rfl bxo rfl) sub_nil (by intro r hr; cases hr) ⟨rfl, rfl⟩
set_option maxRecDepth 100000 in
set_option maxHeartbeats 1000000 in
theorem ct_profile_PointsOf (nm : ByteArray) (sf : Int) (v u : Value) (gs : List Gs) (ls : List Dl) (hle : gs.length ≤ 100000) (hle2 : ls.length ≤ 100000) (hnm : nm.size ≤ 1000000000000) (H : okPl sf gs ls) (hz : (ckPl nm sf gs ls).2 = 0) : Ct Try.prog 7 [.agg (cPl nm sf v u).toArray] [(v, 2, gs.map cGs), (u, 3, ls.map cDl)] (isSlN 47 2 ((ptsK ls ls.length).map cSw) (.int .i64 0)) := by
 refine Ct.of (N := 13) Try.func7 rfl rfl rfl fun w => ?_
 refine C_weak (E' := [(0, .agg (cPl nm sf v u).toArray)]) (rs' := [rd v 2 (gs.map cGs), rd u 3 (ls.map cDl)]) ⟨rfl, trivial⟩ (fun _ h => h) ?_
 refine C_form (v := v) gvo (fun Av cv hv _ => ?_)
 subst hv
 refine C_form (v := u) gvo (fun Au cu hu _ => ?_)
 subst hu
 have hl1 := len_map cGs gs
 have hl2 := len_map cDl ls
 have hll := H.ll; have hgl := H.gl
 refine C_seq ?_
 refine C_region ?_
 refine L_box rfl rfl rfl fun g1 => ?_
 refine Jq (q_assign rfl) ?_
 refine Jq (q_assign rfl) ?_
 refine L_then ?_
 refine C_seq ?_
 refine C_seq ?_
 refine C_region ?_
 refine Jq (q_loadA tb rfl rfl bxo rfl rfl) ?_
 refine L_mk (lo_bslice tb rfl rfl rfl (xs := [cPl nm sf (.slice Av (gs.map cGs).length cv) (.slice Au (ls.map cDl).length cu)]) rfl rfl (by simp [cPl]) rfl (by omega) rfl) rfl rfl rfl fun v6 => ?_
 refine L_call tb rfl rfl (ct_profile_check v6 nm sf (.slice Av (gs.map cGs).length cv) (.slice Au (ls.map cDl).length cu) gs ls hle hle2 hnm) (ps_cons gvo (ps_cons gvo (ps_cons gvo no_ps))) rfl ?_
 refine Jq (q_assign rfl) ?_
 refine L_then ?_
 refine C_seq ?_
 refine C_region ?_
 refine Jq (q_move rfl) ?_
 refine Jq (q_neq rfl rfl) ?_
 refine L_then ?_
 refine C_dec rfl (fun h1z => ?_) (fun h1z => ?_)
 exact absurd hz h1z
 refine C_skip_then ?_
 refine C_seq ?_
 refine C_region ?_
 refine Jq (q_loadA tb rfl rfl bxo rfl rfl) ?_
 refine L_callS tb rfl rfl (ct_profile_trackOf nm sf (.slice Av (gs.map cGs).length cv) (.slice Au (ls.map cDl).length cu) gs ls H) (ps_cons gvo (ps_cons gvo no_ps)) rfl fun v12 => ?_
 refine Jq (q_assign rfl) ?_
 refine Jq (q_assign rfl) ?_
 refine L_then ?_
 refine C_ret ?_
 exact ret_of (rs' := [sl v12 47 2 ((ptsK ls ls.length).map cSw)]) (res2 rfl rfl rfl) (fun w_ h_ => h_.pk (by repeat (first | with_reducible exact pk_nil | refine pk_box rfl ?_ | refine pk_rd rfl ?_ | refine pk_sl rfl ?_ | with_reducible refine pk_app ?_ | with_reducible refine pk_app0 ?_ | with_reducible refine pk_app0L ?_ | with_reducible exact pk_tl | refine pk_var ?_))) own1 ⟨_, rfl, rfl⟩
set_option maxRecDepth 100000 in
set_option maxHeartbeats 1000000 in
theorem ct_profile_PlanSeconds (nm : ByteArray) (sf : Int) (v u : Value) (gs : List Gs) (ls : List Dl) (hle : gs.length ≤ 100000) (hle2 : ls.length ≤ 100000) (hnm : nm.size ≤ 1000000000000) (H : okPl sf gs ls) (hz : (ckPl nm sf gs ls).2 = 0) : Ct Try.prog 8 [.agg (cPl nm sf v u).toArray] [(v, 2, gs.map cGs), (u, 3, ls.map cDl)] (isV (.tuple #[.int .i64 (secAt ls ls.length), .int .i64 0])) := by
 refine Ct.of (N := 14) Try.func8 rfl rfl rfl fun w => ?_
 refine C_weak (E' := [(0, .agg (cPl nm sf v u).toArray)]) (rs' := [rd v 2 (gs.map cGs), rd u 3 (ls.map cDl)]) ⟨rfl, trivial⟩ (fun _ h => h) ?_
 refine C_form (v := v) gvo (fun Av cv hv _ => ?_)
 subst hv
 refine C_form (v := u) gvo (fun Au cu hu _ => ?_)
 subst hu
 have hl1 := len_map cGs gs
 have hl2 := len_map cDl ls
 have hll := H.ll; have hgl := H.gl
 refine C_seq ?_
 refine C_region ?_
 refine L_box rfl rfl rfl fun g1 => ?_
 refine Jq (q_assign rfl) ?_
 refine Jq (q_assign rfl) ?_
 refine L_then ?_
 refine C_seq ?_
 refine C_seq ?_
 refine C_region ?_
 refine Jq (q_loadA tb rfl rfl bxo rfl rfl) ?_
 refine L_mk (lo_bslice tb rfl rfl rfl (xs := [cPl nm sf (.slice Av (gs.map cGs).length cv) (.slice Au (ls.map cDl).length cu)]) rfl rfl (by simp [cPl]) rfl (by omega) rfl) rfl rfl rfl fun v6 => ?_
 refine L_call tb rfl rfl (ct_profile_check v6 nm sf (.slice Av (gs.map cGs).length cv) (.slice Au (ls.map cDl).length cu) gs ls hle hle2 hnm) (ps_cons gvo (ps_cons gvo (ps_cons gvo no_ps))) rfl ?_
 refine Jq (q_assign rfl) ?_
 refine L_then ?_
 refine C_seq ?_
 refine C_region ?_
 refine Jq (q_move rfl) ?_
 refine Jq (q_neq rfl rfl) ?_
 refine L_then ?_
 refine C_dec rfl (fun h1z => ?_) (fun h1z => ?_)
 exact absurd hz h1z
 refine C_skip_then ?_
 refine C_seq ?_
 refine C_region ?_
 refine Jq (q_loadA tb rfl rfl bxo rfl rfl) ?_
 refine L_callS tb rfl rfl (ct_profile_trackOf nm sf (.slice Av (gs.map cGs).length cv) (.slice Au (ls.map cDl).length cu) gs ls H) (ps_cons gvo (ps_cons gvo no_ps)) rfl fun v12 => ?_
 refine L_call tb rfl rfl (ct_profile_track_end v12 ls (by omega)) (ps_cons gvo no_ps) rfl ?_
 refine Jq (q_assign rfl) ?_
 refine Jq (q_assign rfl) ?_
 refine L_then ?_
 refine C_ret ?_
 exact ret_of (res2 rfl rfl rfl) sub_nil (by intro r hr; cases hr) ⟨rfl, rfl⟩
set_option maxRecDepth 100000 in
set_option maxHeartbeats 1000000 in
theorem ct_profile_CheckPoints (v : Value) (sf : Int) (gs : List Gs) (ls : List Dl) (H : okPl sf gs ls) (h0 : 0 < ls.length) : Ct Try.prog 45 [v] [(v, 2, (ptsK ls ls.length).map cSw)] (isV (.int .i64 0)) := by
 refine Ct.of (N := 46) Try.func45 rfl rfl rfl fun w => ?_
 refine C_weak (E' := [(0, v)]) (rs' := [rd v 2 ((ptsK ls ls.length).map cSw)]) ⟨rfl, trivial⟩ (fun _ h => h) ?_
 have hpl : ((ptsK ls ls.length).map cSw).length = ls.length + 1 := by rw [List.length_map, ptsK_len]
 have hll := H.ll
 refine C_seq ?_
 refine C_region ?_
 refine Jq (q_assign rfl) ?_
 refine L_then ?_
 refine C_seq ?_
 refine C_block ?_
 refine C_seq ?_
 refine C_region ?_
 refine Jq (q_move rfl) ?_
 refine Jq (q_len tb rfl rfl gvo) ?_
 refine Jq (q_lss rfl rfl) ?_
 refine Jq (q_assign rfl) ?_
 refine L_then ?_
 refine C_dec rfl (fun h1 => ?_) (fun h1 => ?_)
 exfalso; omega
 refine C_seq ?_
 refine C_region ?_
 refine Jq (q_move rfl) ?_
 refine Jq (q_len tb rfl rfl gvo) ?_
 refine Jq (q_gtr rfl rfl) ?_
 refine Jq (q_assign rfl) ?_
 refine L_then ?_
 refine C_dec rfl (fun h2 => ?_) (fun h2 => ?_)
 exfalso; omega
 refine C_skip_blk ?_
 refine C_seq ?_
 refine C_seq ?_
 refine C_region ?_
 refine Jq (q_move rfl) ?_
 refine Jq (q_len tb rfl rfl gvo) ?_
 refine Jq (q_move rfl) ?_
 refine L_then ?_
 refine C_block ?_
 refine C_loop (ι := Nat) (fun k => ([(0, v), (13, v), (14, .int .i64 ((ptsK ls ls.length).map cSw).length), (15, .int .i64 (k : Int))], [rd v 2 ((ptsK ls ls.length).map cSw)])) (fun k => k ≤ ls.length + 1) (fun k => ls.length + 1 - k) 0 (Nat.zero_le _) (fun a w hs => hs.weak ⟨rfl, rfl, rfl, rfl, trivial⟩ (fun h => h.pk (by repeat (first | with_reducible exact pk_nil | refine pk_box rfl ?_ | refine pk_rd rfl ?_ | refine pk_sl rfl ?_ | with_reducible refine pk_app ?_ | with_reducible refine pk_app0 ?_ | with_reducible refine pk_app0L ?_ | with_reducible exact pk_tl | refine pk_var ?_)))) ?_
 intro k hk9
 dsimp only at hk9 ⊢
 refine C_seq ?_
 refine C_region ?_
 refine Jq (q_lss rfl rfl) ?_
 refine L_then ?_
 refine C_seq ?_
 refine C_dec rfl (fun h3 => ?_) (fun h3 => ?_)
 have hel := pt_cell (ls := ls) (k := ls.length) (i := k) (by omega)
 have hse := H.e k (by omega); have hdp := H.dep (k := k) (by omega)
 have hpr : 0 < k → secAt ls (k - 1) < secAt ls k := fun h => by have h3 := (H.at (k := k - 1) (by omega)).s; have h2 := secAt_succ ls (k - 1); rw [show k - 1 + 1 = k by omega] at h2; omega
 refine C_skip_then ?_
 refine C_seq ?_
 refine C_block ?_
 refine C_seq ?_
 refine C_region ?_
 refine Jq (q_move rfl) ?_
 refine Jq (by first | exact q_index tb rfl rfl rfl rfl gvo (by omega) (by first | omega | (simp; done) | (simp; omega)) | exact q_indexP tb rfl rfl rfl rfl (by omega) (by omega)) ?_
 refine Jq (q_loadEA tb rfl rfl gvo (i := k) (o := 0) (by omega) hel rfl rfl) ?_
 refine L_alloc tb rfl rfl fun g4 => ?_
 refine Jq (q_assign rfl) ?_
 refine L_st tb rfl rfl ?_
 refine L_then ?_
 refine C_block ?_
 refine C_seq ?_
 refine C_region ?_
 refine Jq (q_field tb rfl rfl rfl) ?_
 refine Jq (q_load tb rfl rfl bxo rfl) ?_
 refine L_call tb rfl rfl (ct_profile_within _ _ _) no_ps rfl ?_
 refine Jq (q_not rfl decide_not.symm) ?_
 refine Jq (q_move rfl) ?_
 refine L_dec (d := 25) rfl (fun h4 => ?_) (fun h4 => ?_)
 exfalso; omega
 refine Jg (q_field tb rfl rfl rfl) ?_
 refine Jg (q_load tb rfl rfl bxo rfl) ?_
 refine L_callg tb rfl rfl rfl rfl rfl rfl (ct_profile_within _ _ _) no_ps rfl ?_
 refine Jg (q_not rfl decide_not.symm) ?_
 refine Jq (q_pickF rfl rfl) ?_
 refine Jq (q_assign rfl) ?_
 refine L_then ?_
 refine C_dec rfl (fun h5 => ?_) (fun h5 => ?_)
 exfalso; omega
 refine C_seq ?_
 refine C_draw (n := 13) [(0, false), (1, false), (2, false), (3, false), (4, false), (5, false), (6, false), (7, false), (8, false), (9, false), (10, false), (11, false), (12, false)] mixed (by kernel_rfl) ?_
 refine Yq rfl (q_move rfl) ?_
 refine Yq rfl (q_gtr rfl rfl) ?_
 refine Yq rfl (q_move rfl) ?_
 refine W_dec (d := 34) rfl (fun h6 => ?_) (fun h6 => ?_)
 refine Yg rfl (q_field tb rfl rfl rfl) ?_
 refine Yg rfl (q_load tb rfl rfl bxo rfl) ?_
 refine Yg rfl (q_move rfl) ?_
 refine Yg rfl (q_move rfl) ?_
 refine Yg rfl (q_sub rfl rfl (by first | exact IntWalk.i64_in _ (by omega) | rfl)) ?_
 refine Yg rfl (by first | exact q_index tb rfl rfl rfl rfl gvo (by omega) (by first | omega | (simp; done) | (simp; omega)) | exact q_indexP tb rfl rfl rfl rfl (by omega) (by omega)) ?_
 refine Yg rfl (q_fieldE tb rfl rfl rfl gvo (by first | omega | (simp; done) | (simp; omega))) ?_
 refine Yg rfl (q_loadE tb rfl rfl gvo (i := k - 1) (o := 0) (by omega) (pt_cell (by omega)) rfl) ?_
 refine Yg rfl (q_leq rfl rfl) ?_
 refine Yq rfl (q_pickT rfl rfl) ?_
 refine W_nil ?_
 refine Jq (q_assign rfl) ?_
 refine L_then ?_
 refine C_dec rfl (fun h7 => ?_) (fun h7 => ?_)
 exfalso; omega
 refine C_skip_blk2 ?_
 refine C_region ?_
 refine Jq (q_add rfl rfl (by first | exact IntWalk.i64_in _ (by omega) | rfl)) ?_
 refine Jq (q_move rfl) ?_
 refine L_end ?_
 exact fun ac_ wo_ hs_ => ⟨k + 1, (by dsimp only; omega), (by dsimp only; omega), hs_.weak ⟨rfl, rfl, rfl, rfl, trivial⟩ (fun h => h.pk (by repeat (first | with_reducible exact pk_nil | refine pk_box rfl ?_ | refine pk_rd rfl ?_ | refine pk_sl rfl ?_ | with_reducible refine pk_app ?_ | with_reducible refine pk_app0 ?_ | with_reducible refine pk_app0L ?_ | with_reducible exact pk_tl | refine pk_var ?_)))⟩
 refine Yk rfl ?_
 refine Yk rfl ?_
 refine Yk rfl ?_
 refine Yk rfl ?_
 refine Yk rfl ?_
 refine Yk rfl ?_
 refine Yk rfl ?_
 refine Yk rfl ?_
 refine Yk rfl ?_
 refine Yq rfl (q_pickF rfl rfl) ?_
 refine W_nil ?_
 refine Jq (q_assign rfl) ?_
 refine L_then ?_
 refine C_false rfl ?_
 refine C_skip_blk2 ?_
 refine C_region ?_
 refine Jq (q_add rfl rfl (by first | exact IntWalk.i64_in _ (by omega) | rfl)) ?_
 refine Jq (q_move rfl) ?_
 refine L_end ?_
 exact fun ac_ wo_ hs_ => ⟨k + 1, (by dsimp only; omega), (by dsimp only; omega), hs_.weak ⟨rfl, rfl, rfl, rfl, trivial⟩ (fun h => h.pk (by repeat (first | with_reducible exact pk_nil | refine pk_box rfl ?_ | refine pk_rd rfl ?_ | refine pk_sl rfl ?_ | with_reducible refine pk_app ?_ | with_reducible refine pk_app0 ?_ | with_reducible refine pk_app0L ?_ | with_reducible exact pk_tl | refine pk_var ?_)))⟩
 refine C_exit ?_
 change C Try.prog _ _ _ _ _ _ _
 refine C_seq ?_
 refine C_region ?_
 refine Jq (q_assign rfl) ?_
 refine L_then ?_
 refine C_ret ?_
 exact ret_of (res1 rfl rfl) sub_nil (by intro r hr; cases hr) ⟨rfl, rfl⟩
set_option maxRecDepth 100000 in
set_option maxHeartbeats 1000000 in
theorem ct_profile_DepthOf (v : Value) (sf : Int) (gs : List Gs) (ls : List Dl) (H : okPl sf gs ls) (σ : Nat) (h1 : (σ : Int) ≤ secAt ls ls.length) (h0 : 0 < ls.length) : Ct Try.prog 14 [v, .int .i64 (σ : Int)] [(v, 2, (ptsK ls ls.length).map cSw)] (isV (.tuple #[.agg #[.int .i64 (dpL ls σ), .int .i64 (dpH ls σ)], .int .i64 0])) := by
 refine Ct.of (N := 32) Try.func14 rfl rfl rfl fun w => ?_
 refine C_weak (E' := [(0, v), (1, .int .i64 (σ : Int))]) (rs' := [rd v 2 ((ptsK ls ls.length).map cSw)]) ⟨rfl, rfl, trivial⟩ (fun _ h => h) ?_
 have hpl : ((ptsK ls ls.length).map cSw).length = ls.length + 1 := by rw [List.length_map, ptsK_len]
 have hll := H.ll
 have hs00 : secAt ls 0 = 0 := rfl
 obtain ⟨hk1, hk2, hk3⟩ := kAt_in H h0 h1
 obtain ⟨q1, q2, q3, q4⟩ := atR_spec H h0 h1
 refine C_seq ?_
 refine C_region ?_
 refine L_alloc tb rfl rfl fun g4 => ?_
 refine Jq (q_assign rfl) ?_
 refine L_then ?_
 refine C_seq ?_
 refine C_seq ?_
 refine C_region ?_
 refine Jq (q_move rfl) ?_
 refine L_call tb rfl rfl (ct_profile_CheckPoints v sf gs ls H h0) (ps_cons gvo no_ps) rfl ?_
 refine Jq (q_assign rfl) ?_
 refine L_then ?_
 refine C_seq ?_
 refine C_region ?_
 refine Jq (q_move rfl) ?_
 refine Jq (q_false (q_neq rfl rfl) (decide_eq_false (fun h => h rfl))) ?_
 refine L_then ?_
 refine C_false rfl ?_
 refine C_skip_then ?_
 refine C_seq ?_
 refine C_seq ?_
 refine C_draw (n := 14) [(0, false), (1, false), (2, false), (3, false), (4, false), (5, false), (6, false), (7, false), (8, false), (9, false), (10, false), (11, false), (12, true), (13, false)] mixed (by kernel_rfl) ?_
 refine Yq rfl (q_move rfl) ?_
 refine Yq rfl (q_move rfl) ?_
 refine Yq rfl (by first | exact q_index tb rfl rfl rfl rfl gvo (by omega) (by first | omega | (simp; done) | (simp; omega)) | exact q_indexP tb rfl rfl rfl rfl (by omega) (by omega)) ?_
 refine Yq rfl (q_fieldE tb rfl rfl rfl gvo (by first | omega | (simp; done) | (simp; omega))) ?_
 refine Yq rfl (q_loadE tb rfl rfl gvo (i := 0) (o := 0) (by omega) (pt_cell (by omega)) rfl) ?_
 refine Yq rfl (q_move rfl) ?_
 refine Yq rfl (q_move rfl) ?_
 refine Yq rfl (q_len tb rfl rfl gvo) ?_
 refine Yq rfl (q_sub rfl rfl (by first | exact IntWalk.i64_in _ (by omega) | rfl)) ?_
 refine Yq rfl (by first | exact q_index tb rfl rfl rfl rfl gvo (by omega) (by first | omega | (simp; done) | (simp; omega)) | exact q_indexP tb rfl rfl rfl rfl (by omega) (by omega)) ?_
 refine Yq rfl (q_fieldE tb rfl rfl rfl gvo (by first | omega | (simp; done) | (simp; omega))) ?_
 refine Yq rfl (q_loadE tb rfl rfl gvo (i := ls.length) (o := 0) (by omega) (pt_cell (by omega)) rfl) ?_
 refine W_call tb rfl rfl rfl rfl (ct_profile_within _ _ _) no_ps rfl ?_
 refine Yq rfl (q_not rfl decide_not.symm) ?_
 refine W_nil ?_
 refine L_then ?_
 refine C_dec rfl (fun h2 => ?_) (fun h2 => ?_)
 exfalso; omega
 refine C_skip_then ?_
 refine C_seq ?_
 refine C_region ?_
 refine Jq (q_move rfl) ?_
 refine Jq (q_move rfl) ?_
 refine L_call tb rfl rfl (ct_profile_track_at v sf gs ls H σ h1 h0) (ps_cons gvo no_ps) rfl ?_
 refine L_call tb rfl rfl (ct_profile_ratio_rounded (atR ls σ).1 (atR ls σ).2 (by omega)) no_ps rfl ?_
 refine L_st tb rfl rfl ?_
 refine Jq (q_assign rfl) ?_
 refine L_then ?_
 refine C_ret ?_
 rw [← q3, ← q4]
 exact ret_of (resCT tb rfl rfl rfl rfl bxo rfl) sub_nil (by intro r hr; cases hr) ⟨rfl, rfl⟩
set_option maxRecDepth 100000 in
set_option maxHeartbeats 2000000 in
theorem ct_profile_MeanDepth (nm : ByteArray) (sf : Int) (v u : Value) (gs : List Gs) (ls : List Dl) (hle : gs.length ≤ 100000) (hle2 : ls.length ≤ 100000) (hnm : nm.size ≤ 1000000000000) (H : okPl sf gs ls) (hz : (ckPl nm sf gs ls).2 = 0) (h0 : 0 < ls.length) : Ct Try.prog 10 [.agg (cPl nm sf v u).toArray] [(v, 2, gs.map cGs), (u, 3, ls.map cDl)] (isV (.tuple #[.agg #[.int .i64 (mnK ls ls.length / (2 * secAt ls ls.length)), .int .i64 (upZ (mnK ls ls.length) (2 * secAt ls ls.length))], .int .i64 0])) := by
 refine Ct.of (N := 56) Try.func10 rfl rfl rfl fun w => ?_
 refine C_weak (E' := [(0, .agg (cPl nm sf v u).toArray)]) (rs' := [rd v 2 (gs.map cGs), rd u 3 (ls.map cDl)]) ⟨rfl, trivial⟩ (fun _ h => h) ?_
 refine C_form (v := v) gvo (fun Av cv hv _ => ?_)
 subst hv
 refine C_form (v := u) gvo (fun Au cu hu _ => ?_)
 subst hu
 have hl1 := len_map cGs gs
 have hl2 := len_map cDl ls
 have hll := H.ll; have hgl := H.gl
 have hdr : (((ptsK ls ls.length).map cSw).drop 1).length = ls.length := by rw [List.length_drop, List.length_map, ptsK_len]; omega
 have hpl : ((ptsK ls ls.length).map cSw).length = ls.length + 1 := by rw [List.length_map, ptsK_len]
 have hup := sec_up H.pos (i := 0) ls.length (Nat.zero_le _) (Nat.le_refl _)
 have hs00 : secAt ls 0 = 0 := rfl
 have hse9 := H.e ls.length (Nat.le_refl _)
 have hmn9 := mnK_in H (Nat.le_refl ls.length)
 refine C_seq ?_
 refine C_region ?_
 refine L_box rfl rfl rfl fun g1 => ?_
 refine L_alloc tb rfl rfl fun g2 => ?_
 refine Jq (q_assign rfl) ?_
 refine L_then ?_
 refine C_seq ?_
 refine C_seq ?_
 refine C_region ?_
 refine Jq (q_loadA tb rfl rfl bxo rfl rfl) ?_
 refine L_mk (lo_bslice tb rfl rfl rfl (xs := [cPl nm sf (.slice Av (gs.map cGs).length cv) (.slice Au (ls.map cDl).length cu)]) rfl rfl (by simp [cPl]) rfl (by omega) rfl) rfl rfl rfl fun v10 => ?_
 refine L_call tb rfl rfl (ct_profile_check v10 nm sf (.slice Av (gs.map cGs).length cv) (.slice Au (ls.map cDl).length cu) gs ls hle hle2 hnm) (ps_cons (by first | exact gvo | exact gvd gvo (by omega)) (ps_cons (by first | exact gvo | exact gvd gvo (by omega)) (ps_cons (by first | exact gvo | exact gvd gvo (by omega)) no_ps))) rfl ?_
 refine Jq (q_assign rfl) ?_
 refine L_then ?_
 refine C_seq ?_
 refine C_region ?_
 refine Jq (q_move rfl) ?_
 refine Jq (q_neq rfl rfl) ?_
 refine L_then ?_
 refine C_dec rfl (fun h1z => ?_) (fun h1z => ?_)
 exact absurd hz h1z
 refine C_skip_then ?_
 refine C_seq ?_
 refine C_region ?_
 refine Jq (q_loadA tb rfl rfl bxo rfl rfl) ?_
 refine L_callS tb rfl rfl (ct_profile_trackOf nm sf (.slice Av (gs.map cGs).length cv) (.slice Au (ls.map cDl).length cu) gs ls H) (ps_cons (by first | exact gvo | exact gvd gvo (by omega)) (ps_cons (by first | exact gvo | exact gvd gvo (by omega)) no_ps)) rfl fun v17 => ?_
 refine Jq (q_assign rfl) ?_
 refine L_then ?_
 refine C_seq ?_
 refine C_seq ?_
 refine C_region ?_
 refine Jq (q_move rfl) ?_
 refine L_call tb rfl rfl (ct_profile_track_end v17 ls (by omega)) (ps_cons (by first | exact gvo | exact gvd gvo (by omega)) no_ps) rfl ?_
 refine Jq (q_eql rfl rfl) ?_
 refine L_then ?_
 refine C_dec rfl (fun h20 => ?_) (fun h20 => ?_)
 exfalso; omega
 refine C_skip_then ?_
 refine C_seq ?_
 refine C_region ?_
 refine Jq (q_assign rfl) ?_
 refine L_then ?_
 refine C_seq ?_
 refine C_seq ?_
 refine C_region ?_
 refine Jq (q_move rfl) ?_
 refine Jq (q_from tb rfl rfl rfl rfl (by first | exact gvo | exact gvd gvo (by omega)) (by omega) (by first | omega | (simp; done) | (simp; omega))) ?_
 refine Jq (q_len tb rfl rfl (by first | exact gvo | exact gvd gvo (by omega))) ?_
 refine Jq (q_move rfl) ?_
 refine L_then ?_
 refine C_block ?_
 refine C_loop (ι := Nat) (fun k => ([(2, .pointer (some ⟨g2, 0, none⟩)), (5, v17), (6, .int .i64 ((mnK ls k))), (23, (dropV v17 1 2)), (24, .int .i64 (((ptsK ls ls.length).map cSw).drop 1).length), (25, .int .i64 (k : Int))], [sl v17 47 2 ((ptsK ls ls.length).map cSw), box g2 38 [.int .i64 0, .int .i64 0], rd (.slice Av (gs.map cGs).length cv) 2 (gs.map cGs), rd (.slice Au (ls.map cDl).length cu) 3 (ls.map cDl)])) (fun k => k ≤ ls.length) (fun k => ls.length - k) 0 (Nat.zero_le _) (fun a w hs => hs.weak ⟨rfl, rfl, rfl, rfl, rfl, rfl, trivial⟩ (fun h => h.pk (by repeat (first | with_reducible exact pk_nil | refine pk_box rfl ?_ | refine pk_rd rfl ?_ | refine pk_sl rfl ?_ | with_reducible refine pk_app ?_ | with_reducible refine pk_app0 ?_ | with_reducible refine pk_app0L ?_ | with_reducible exact pk_tl | refine pk_var ?_)))) ?_
 intro k hk9
 dsimp only at hk9 ⊢
 refine C_seq ?_
 refine C_region ?_
 refine Jq (q_lss rfl rfl) ?_
 refine L_then ?_
 refine C_seq ?_
 refine C_dec rfl (fun h3 => ?_) (fun h3 => ?_)
 have hel : (((ptsK ls ls.length).map cSw).drop 1)[k]? = some (cSw (secAt ls (k + 1), depAt ls (k + 1))) := by rw [List.getElem?_drop, show 1 + k = k + 1 by omega]; exact pt_cell (by omega)
 have hd1 := H.dep (k := k) (by omega); have hd2 := H.dep (k := k + 1) (by omega); have hse := H.e k (by omega); have hse2 := H.e (k + 1) (by omega); have hsu := secAt_succ ls k; have hds := (H.at (k := k) (by omega)).s
 have hmk := mnK_in H (k := k) (by omega); have hmk2 := mnK_in H (k := k + 1) (by omega); have hmm := mulB (a := depAt ls k + depAt ls (k + 1)) (b := secAt ls (k + 1) - secAt ls k) (A := 60000) (B := 1000000) (by omega) (by omega)
 refine C_skip_then ?_
 refine C_seq ?_
 refine C_block ?_
 refine C_seq ?_
 refine C_region ?_
 refine Jq (q_move rfl) ?_
 refine Jq (by first | exact q_index tb rfl rfl rfl rfl (by first | exact gvo | exact gvd gvo (by omega)) (by omega) (by first | omega | (simp; done) | (simp; omega)) | exact q_indexP tb rfl rfl rfl rfl (by omega) (by omega)) ?_
 refine Jq (by first | exact q_loadA tb rfl rfl bxo rfl rfl | exact q_loadEA tb rfl rfl (by first | exact gvo | exact gvd gvo (by omega)) (i := k) (o := 0) (by omega) hel rfl rfl) ?_
 refine L_alloc tb rfl rfl fun g8 => ?_
 refine Jq (q_assign rfl) ?_
 refine L_st tb rfl rfl ?_
 refine L_then ?_
 refine C_draw (n := 19) [(0, false), (1, false), (2, false), (3, false), (4, false), (5, false), (6, false), (7, false), (8, false), (9, false), (10, false), (11, false), (12, false), (13, false), (14, false), (15, false), (16, false), (17, false), (18, false)] mixed (by kernel_rfl) ?_
 refine Yq rfl (q_move rfl) ?_
 refine Yq rfl (q_move rfl) ?_
 refine Yq rfl (q_move rfl) ?_
 refine Yq rfl (by first | exact q_index tb rfl rfl rfl rfl (by first | exact gvo | exact gvd gvo (by omega)) (by omega) (by first | omega | (simp; done) | (simp; omega)) | exact q_indexP tb rfl rfl rfl rfl (by omega) (by omega)) ?_
 refine Yq rfl (by first | exact q_field tb rfl rfl rfl | exact q_fieldE tb rfl rfl rfl (by first | exact gvo | exact gvd gvo (by omega)) (by first | omega | (simp; done) | (simp; omega))) ?_
 refine Yq rfl (by first | exact q_load tb rfl rfl bxo rfl | exact q_loadE tb rfl rfl (by first | exact gvo | exact gvd gvo (by omega)) (i := k) (o := 1) (by omega) (pt_cell (by omega)) rfl) ?_
 refine Yq rfl (q_field tb rfl rfl rfl) ?_
 refine Yq rfl (q_load tb rfl rfl bxo rfl) ?_
 refine Yq rfl (q_add rfl rfl (by first | exact IntWalk.i64_in _ (by omega) | rfl)) ?_
 refine Yq rfl (q_field tb rfl rfl rfl) ?_
 refine Yq rfl (q_load tb rfl rfl bxo rfl) ?_
 refine Yq rfl (q_move rfl) ?_
 refine Yq rfl (q_move rfl) ?_
 refine Yq rfl (by first | exact q_index tb rfl rfl rfl rfl (by first | exact gvo | exact gvd gvo (by omega)) (by omega) (by first | omega | (simp; done) | (simp; omega)) | exact q_indexP tb rfl rfl rfl rfl (by omega) (by omega)) ?_
 refine Yq rfl (by first | exact q_field tb rfl rfl rfl | exact q_fieldE tb rfl rfl rfl (by first | exact gvo | exact gvd gvo (by omega)) (by first | omega | (simp; done) | (simp; omega))) ?_
 refine Yq rfl (by first | exact q_load tb rfl rfl bxo rfl | exact q_loadE tb rfl rfl (by first | exact gvo | exact gvd gvo (by omega)) (i := k) (o := 0) (by omega) (pt_cell (by omega)) rfl) ?_
 refine Yq rfl (q_sub rfl rfl (by first | exact IntWalk.i64_in _ (by omega) | rfl)) ?_
 refine Yq rfl (q_mul rfl rfl (wr (b := (depAt ls k + depAt ls (k + 1)) * (secAt ls (k + 1) - secAt ls k)) rfl (by omega))) ?_
 refine Yq rfl (q_add rfl rfl (wr (b := mnK ls (k + 1)) rfl (by omega))) ?_
 refine W_nil ?_
 refine Jq (q_assign rfl) ?_
 refine L_blk ?_
 refine C_region ?_
 refine Jq (q_add rfl rfl (by first | exact IntWalk.i64_in _ (by omega) | rfl)) ?_
 refine Jq (q_move rfl) ?_
 refine L_end ?_
 exact fun ac_ wo_ hs_ => ⟨k + 1, (by dsimp only; omega), (by dsimp only; omega), hs_.weak ⟨rfl, rfl, rfl, rfl, rfl, rfl, trivial⟩ (fun h => h.pk (by repeat (first | with_reducible exact pk_nil | refine pk_box rfl ?_ | refine pk_rd rfl ?_ | refine pk_sl rfl ?_ | with_reducible refine pk_app ?_ | with_reducible refine pk_app0 ?_ | with_reducible refine pk_app0L ?_ | with_reducible exact pk_tl | refine pk_var ?_)))⟩
 obtain rfl : k = ls.length := by omega
 refine C_exit ?_
 change C Try.prog _ _ _ _ _ _ _
 refine C_seq ?_
 refine C_region ?_
 refine Jq (q_move rfl) ?_
 refine Jq (q_move rfl) ?_
 refine L_call tb rfl rfl (ct_profile_track_end v17 ls (by omega)) (ps_cons (by first | exact gvo | exact gvd gvo (by omega)) no_ps) rfl ?_
 refine Jq (q_mul rfl rfl (by first | exact IntWalk.i64_in _ (by omega) | rfl)) ?_
 refine Jq (by first | exact q_build tb rfl rfl rfl rfl | exact q_buildArr tb rfl rfl rfl rfl rfl) ?_
 refine L_call tb rfl rfl (ct_rounded2 (mnK ls ls.length) (2 * secAt ls ls.length) (by omega)) no_ps rfl ?_
 refine L_st tb rfl rfl ?_
 refine Jq (q_assign rfl) ?_
 refine L_then ?_
 refine C_ret ?_
 exact ret_of (resCT tb rfl rfl rfl rfl bxo rfl) sub_nil (by intro r hr; cases hr) ⟨rfl, rfl⟩
end Go.Proofs.Ytdmnejfpbbmcaaa
