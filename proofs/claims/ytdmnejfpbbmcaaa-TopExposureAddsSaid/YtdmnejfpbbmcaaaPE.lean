/-
  Walks: each function named returns what its model says. Conditions: those in front of each theorem.
-/
import Derived.Test.YtdmnejfpbbmcaaaPD
import Derived.Test.YtdmnejfpbbmcaaaAd
import Derived.Test.YtdmnejfpbbmcaaaShDag
namespace Go.Proofs.Ytdmnejfpbbmcaaa
open Go.RowKit

set_option maxRecDepth 100000 in
set_option maxHeartbeats 1000000 in
theorem ct_check2 (z : Value) (nm : ByteArray) (sf : Int) (v u : Value) (gs : List Gs) (ls : List Dl) (v2 u2 : Value) (ls2 : List Dl) (hle : gs.length ≤ 100000) (hle2 : ls.length ≤ 100000) (hle3 : ls2.length ≤ 100000) (hnm : nm.size ≤ 1000000000000) (hz : (ckPl nm sf gs ls).2 = 0) (hz2 : (ckPl nm sf gs ls2).2 = 0) : Ct Try.prog 38 [z] [(z, 4, [cPl nm sf v u, cPl nm sf v2 u2]), (v, 2, gs.map cGs), (u, 3, ls.map cDl), (v2, 2, gs.map cGs), (u2, 3, ls2.map cDl)] (isV (.int .i64 0)) := by
 refine Ct.of (N := 22) Try.func38 rfl rfl rfl fun w => ?_
 refine C_weak (E' := [(0, z)]) (rs' := [rd z 4 ([cPl nm sf v u, cPl nm sf v2 u2]), rd v 2 (gs.map cGs), rd u 3 (ls.map cDl), rd v2 2 (gs.map cGs), rd u2 3 (ls2.map cDl)]) ⟨rfl, trivial⟩ (fun _ h => h) ?_
 refine C_form (v := v) gvo (fun Av cv hv _ => ?_)
 subst hv
 refine C_form (v := u) gvo (fun Au cu hu _ => ?_)
 subst hu
 refine C_form (v := v2) gvo (fun Av2 cv2 hv2 _ => ?_)
 subst hv2
 refine C_form (v := u2) gvo (fun Au2 cu2 hu2 _ => ?_)
 subst hu2
 have hl1 := len_map cGs gs
 have hl2 := len_map cDl ls
 have hl3 := len_map cDl ls2
 refine C_seq ?_
 refine C_region ?_
 refine Jq (q_assign rfl) ?_
 refine L_then ?_
 refine C_seq ?_
 refine C_seq ?_
 refine C_region ?_
 refine Jq (q_move rfl) ?_
 refine Jq (q_len tb rfl rfl gvo) ?_
 refine Jq (q_move rfl) ?_
 refine L_then ?_
 refine C_block ?_
 refine C_loop (ι := Nat) (fun k => ([(7, z), (8, .int .i64 2), (9, .int .i64 (k : Int))], [rd z 4 [cPl nm sf (.slice Av (gs.map cGs).length cv) (.slice Au (ls.map cDl).length cu), cPl nm sf (.slice Av2 (gs.map cGs).length cv2) (.slice Au2 (ls2.map cDl).length cu2)], rd (.slice Av (gs.map cGs).length cv) 2 (gs.map cGs), rd (.slice Au (ls.map cDl).length cu) 3 (ls.map cDl), rd (.slice Av2 (gs.map cGs).length cv2) 2 (gs.map cGs), rd (.slice Au2 (ls2.map cDl).length cu2) 3 (ls2.map cDl)])) (fun k => k ≤ 2) (fun k => 2 - k) 0 (Nat.zero_le _) (fun a w hs => hs.weak ⟨rfl, rfl, rfl, trivial⟩ (fun h => h.pk (by repeat (first | with_reducible exact pk_nil | refine pk_box rfl ?_ | refine pk_rd rfl ?_ | refine pk_sl rfl ?_ | with_reducible refine pk_app ?_ | with_reducible refine pk_app0 ?_ | with_reducible refine pk_app0L ?_ | with_reducible exact pk_tl | refine pk_var ?_)))) ?_
 intro k hk9
 dsimp only at hk9 ⊢
 refine C_seq ?_
 refine C_region ?_
 refine Jq (q_lss rfl rfl) ?_
 refine L_then ?_
 refine C_seq ?_
 refine C_dec rfl (fun h1 => ?_) (fun h1 => ?_)
 obtain rfl | rfl : k = 0 ∨ k = 1 := by omega
 refine C_skip_then ?_
 refine C_seq ?_
 refine C_block ?_
 refine C_seq ?_
 refine C_region ?_
 refine Jq (by first | exact q_index tb rfl rfl rfl rfl gvo (by omega) (by first | omega | (simp; done) | (simp; omega)) | exact q_indexP tb rfl rfl rfl rfl (by omega) (by omega)) ?_
 refine Jq (q_loadEA tb rfl rfl gvo (i := 0) (o := 0) (by omega) rfl rfl rfl) ?_
 refine L_alloc tb rfl rfl fun g4 => ?_
 refine L_st tb rfl rfl ?_
 refine L_then ?_
 refine C_seq ?_
 refine C_region ?_
 refine Jq (q_loadA tb rfl rfl bxo rfl rfl) ?_
 refine L_call tb rfl rfl (ct_profile_CheckPlan nm sf (.slice Av (gs.map cGs).length cv) (.slice Au (ls.map cDl).length cu) gs ls hle hle2 hnm) (ps_cons gvo (ps_cons gvo no_ps)) rfl ?_
 refine Jq (q_move rfl) ?_
 refine Jq (q_ext0 rfl) ?_
 refine Jq (q_ext1 rfl) ?_
 refine Jq (q_assign rfl) ?_
 refine Jq (q_assign rfl) ?_
 refine L_then ?_
 refine C_seq ?_
 refine C_region ?_
 refine Jq (q_move rfl) ?_
 refine Jq (q_neq rfl rfl) ?_
 refine L_then ?_
 refine C_dec rfl (fun h1 => ?_) (fun h1 => ?_)
 exact absurd hz h1
 refine C_skip_blk ?_
 refine C_region ?_
 refine Jq (q_add rfl rfl (by first | exact IntWalk.i64_in _ (by omega) | rfl)) ?_
 refine Jq (q_move rfl) ?_
 refine L_end ?_
 exact fun ac_ wo_ hs_ => ⟨1, (by dsimp only; omega), (by dsimp only; omega), hs_.weak ⟨rfl, rfl, rfl, trivial⟩ (fun h => h.pk (by repeat (first | with_reducible exact pk_nil | refine pk_box rfl ?_ | refine pk_rd rfl ?_ | refine pk_sl rfl ?_ | with_reducible refine pk_app ?_ | with_reducible refine pk_app0 ?_ | with_reducible refine pk_app0L ?_ | with_reducible exact pk_tl | refine pk_var ?_)))⟩
 refine C_skip_then ?_
 refine C_seq ?_
 refine C_block ?_
 refine C_seq ?_
 refine C_region ?_
 refine Jq (by first | exact q_index tb rfl rfl rfl rfl gvo (by omega) (by first | omega | (simp; done) | (simp; omega)) | exact q_indexP tb rfl rfl rfl rfl (by omega) (by omega)) ?_
 refine Jq (q_loadEA tb rfl rfl gvo (i := 1) (o := 0) (by omega) rfl rfl rfl) ?_
 refine L_alloc tb rfl rfl fun g4 => ?_
 refine L_st tb rfl rfl ?_
 refine L_then ?_
 refine C_seq ?_
 refine C_region ?_
 refine Jq (q_loadA tb rfl rfl bxo rfl rfl) ?_
 refine L_call tb rfl rfl (ct_profile_CheckPlan nm sf (.slice Av2 (gs.map cGs).length cv2) (.slice Au2 (ls2.map cDl).length cu2) gs ls2 hle hle3 hnm) (ps_cons gvo (ps_cons gvo no_ps)) rfl ?_
 refine Jq (q_move rfl) ?_
 refine Jq (q_ext0 rfl) ?_
 refine Jq (q_ext1 rfl) ?_
 refine Jq (q_assign rfl) ?_
 refine Jq (q_assign rfl) ?_
 refine L_then ?_
 refine C_seq ?_
 refine C_region ?_
 refine Jq (q_move rfl) ?_
 refine Jq (q_neq rfl rfl) ?_
 refine L_then ?_
 refine C_dec rfl (fun h1 => ?_) (fun h1 => ?_)
 exact absurd hz2 h1
 refine C_skip_blk ?_
 refine C_region ?_
 refine Jq (q_add rfl rfl (by first | exact IntWalk.i64_in _ (by omega) | rfl)) ?_
 refine Jq (q_move rfl) ?_
 refine L_end ?_
 exact fun ac_ wo_ hs_ => ⟨2, (by dsimp only; omega), (by dsimp only; omega), hs_.weak ⟨rfl, rfl, rfl, trivial⟩ (fun h => h.pk (by repeat (first | with_reducible exact pk_nil | refine pk_box rfl ?_ | refine pk_rd rfl ?_ | refine pk_sl rfl ?_ | with_reducible refine pk_app ?_ | with_reducible refine pk_app0 ?_ | with_reducible refine pk_app0L ?_ | with_reducible exact pk_tl | refine pk_var ?_)))⟩
 refine C_exit ?_
 change C Try.prog _ _ _ _ _ _ _
 refine C_seq ?_
 refine C_region ?_
 refine Jq (q_assign rfl) ?_
 refine L_then ?_
 refine C_ret ?_
 exact ret_of (res1 rfl rfl) sub_nil (by intro r hr; cases hr) ⟨rfl, rfl⟩
set_option maxRecDepth 100000 in
set_option maxHeartbeats 1000000 in
theorem ct_followed0 (nm : ByteArray) (sf : Int) (v u : Value) (gs : List Gs) (ls : List Dl) (hle : gs.length ≤ 100000) (hle2 : ls.length ≤ 100000) (hnm : nm.size ≤ 1000000000000) (H : okPl sf gs ls) (hz : (ckPl nm sf gs ls).2 = 0) (σ : Nat) (h1 : (σ : Int) ≤ secAt ls ls.length) : Ct Try.prog 43 [.agg (cPl nm sf v u).toArray, .int .i64 (σ : Int)] [(v, 2, gs.map cGs), (u, 3, ls.map cDl)] (isSlN 47 2 ((ptsK ls ls.length).map cSw) (.int .i64 0)) := by
 refine Ct.of (N := 22) Try.func43 rfl rfl rfl fun w => ?_
 refine C_weak (E' := [(0, .agg (cPl nm sf v u).toArray), (1, .int .i64 (σ : Int))]) (rs' := [rd v 2 (gs.map cGs), rd u 3 (ls.map cDl)]) ⟨rfl, rfl, trivial⟩ (fun _ h => h) ?_
 refine C_form (v := v) gvo (fun Av cv hv _ => ?_)
 subst hv
 refine C_form (v := u) gvo (fun Au cu hu _ => ?_)
 subst hu
 have hl1 := len_map cGs gs
 have hl2 := len_map cDl ls
 have hll := H.ll; have hgl := H.gl
 refine C_seq ?_
 refine C_region ?_
 refine L_box rfl rfl rfl fun g2 => ?_
 refine Jq (q_assign rfl) ?_
 refine Jq (q_assign rfl) ?_
 refine L_then ?_
 refine C_seq ?_
 refine C_seq ?_
 refine C_region ?_
 refine Jq (q_loadA tb rfl rfl bxo rfl rfl) ?_
 refine L_mk (lo_bslice tb rfl rfl rfl (xs := [cPl nm sf (.slice Av (gs.map cGs).length cv) (.slice Au (ls.map cDl).length cu)]) rfl rfl (by simp [cPl]) rfl (by omega) rfl) rfl rfl rfl fun v9 => ?_
 refine L_call tb rfl rfl (ct_profile_check v9 nm sf (.slice Av (gs.map cGs).length cv) (.slice Au (ls.map cDl).length cu) gs ls hle hle2 hnm) (ps_cons gvo (ps_cons gvo (ps_cons gvo no_ps))) rfl ?_
 refine Jq (q_assign rfl) ?_
 refine L_then ?_
 refine C_seq ?_
 refine C_region ?_
 refine Jq (q_move rfl) ?_
 refine Jq (q_neq rfl rfl) ?_
 refine L_then ?_
 refine C_dec rfl (fun h1z => ?_) (fun h1z => ?_)
 exact absurd hz h1z
 refine C_skip_then ?_
 refine C_seq ?_
 refine C_region ?_
 refine Jq (q_loadA tb rfl rfl bxo rfl rfl) ?_
 refine L_callS tb rfl rfl (ct_profile_trackOf nm sf (.slice Av (gs.map cGs).length cv) (.slice Au (ls.map cDl).length cu) gs ls H) (ps_cons gvo (ps_cons gvo no_ps)) rfl fun v15 => ?_
 refine Jq (q_assign rfl) ?_
 refine L_then ?_
 refine C_seq ?_
 refine C_seq ?_
 refine C_region ?_
 refine Jq (q_move rfl) ?_
 refine Jq (q_move rfl) ?_
 refine L_call tb rfl rfl (ct_profile_track_end v15 ls (by omega)) (ps_cons gvo no_ps) rfl ?_
 refine L_call tb rfl rfl (ct_profile_within _ _ _) no_ps rfl ?_
 refine Jq (q_not rfl decide_not.symm) ?_
 refine L_then ?_
 refine C_dec rfl (fun h2 => ?_) (fun h2 => ?_)
 exfalso; omega
 refine C_skip_then ?_
 refine C_seq ?_
 refine C_region ?_
 refine Jq (q_move rfl) ?_
 refine Jq (q_assign rfl) ?_
 refine Jq (q_assign rfl) ?_
 refine L_then ?_
 refine C_ret ?_
 exact ret_of (rs' := [sl v15 47 2 ((ptsK ls ls.length).map cSw)]) (res2 rfl rfl rfl) (fun w_ h_ => h_.pk (by repeat (first | with_reducible exact pk_nil | refine pk_box rfl ?_ | refine pk_rd rfl ?_ | refine pk_sl rfl ?_ | with_reducible refine pk_app ?_ | with_reducible refine pk_app0 ?_ | with_reducible refine pk_app0L ?_ | with_reducible exact pk_tl | refine pk_var ?_))) own1 ⟨_, rfl, rfl⟩
set_option maxRecDepth 100000 in
set_option maxHeartbeats 1000000 in
theorem ct_at0 (v : Value) : Ct Try.prog 44 [v, .int .i64 0] [(v, 2, ([(0, 0)] : List (Int × Int)).map cSw)] (isV (.agg #[.int .i64 0, .int .i64 1])) := by
 refine Ct.of (N := 63) Try.func44 rfl rfl rfl fun w => ?_
 refine C_weak (E' := [(0, v), (1, .int .i64 0)]) (rs' := [rd v 2 (([(0, 0)] : List (Int × Int)).map cSw)]) ⟨rfl, rfl, trivial⟩ (fun _ h => h) ?_
 have hix : ixZ (([(0, 0)] : List (Int × Int)).drop 1) 0 = -1 := rfl
 have hl1 : (([(0, 0)] : List (Int × Int)).map cSw).length = 1 := rfl
 refine C_seq ?_
 refine C_region ?_
 refine L_alloc tb rfl rfl fun g4 => ?_
 refine L_then ?_
 refine C_seq ?_
 refine C_region ?_
 refine Jq (q_move rfl) ?_
 refine Jq (q_move rfl) ?_
 refine L_call tb rfl rfl (ct_legL v [(0, 0)] 0 ⟨show 1 ≤ 1 by omega, show 1 ≤ 100000 by omega⟩) (ps_cons gvo no_ps) rfl ?_
 refine Jq (q_assign rfl) ?_
 refine L_then ?_
 refine C_seq ?_
 refine C_seq ?_
 refine C_region ?_
 refine Jq (q_move rfl) ?_
 refine Jq (q_eql rfl rfl) ?_
 refine Jq (q_move rfl) ?_
 refine L_dec (d := 13) rfl (fun h1 => ?_) (fun h1 => ?_)
 iterate 6 refine Jk ?_
 refine Jq (q_pickT rfl rfl) ?_
 refine L_then ?_
 refine C_true rfl ?_
 refine C_seq ?_
 refine C_region ?_
 refine Jq (q_move rfl) ?_
 refine Jq (by first | exact q_index tb rfl rfl rfl rfl gvo (by omega) (by first | omega | (simp; done) | (simp; omega)) | exact q_indexP tb rfl rfl rfl rfl (by omega) (by omega)) ?_
 refine Jq (by first | exact q_field tb rfl rfl rfl | exact q_fieldE tb rfl rfl rfl gvo (by first | omega | (simp; done) | (simp; omega))) ?_
 refine Jq (by first | exact q_load tb rfl rfl bxo rfl | exact q_loadE tb rfl rfl gvo (i := 0) (o := 1) (by omega) rfl rfl) ?_
 refine Jq (by first | exact q_build tb rfl rfl rfl rfl | exact q_buildArr tb rfl rfl rfl rfl rfl) ?_
 refine L_st tb rfl rfl ?_
 refine L_then ?_
 refine C_ret ?_
 exact ret_of (resC tb rfl rfl rfl bxo rfl) sub_nil (by intro r hr; cases hr) ⟨rfl, rfl⟩
 exfalso; omega
set_option maxRecDepth 100000 in
set_option maxHeartbeats 1000000 in
theorem ct_Before0 (nm : ByteArray) (sf : Int) (v u : Value) (gs : List Gs) (hle : gs.length ≤ 100000) (hnm : nm.size ≤ 1000000000000) (H : okPl sf gs []) (hz : (ckPl nm sf gs []).2 = 0) : Ct Try.prog 21 [.agg (cPl nm sf v u).toArray, .int .i64 0] [(v, 2, gs.map cGs), (u, 3, ([] : List Dl).map cDl)] (fun y rs => ∃ a b, y = .tuple #[.agg (cPl nm sf a b).toArray, .int .i64 0] ∧ rs = [sl b 82 3 (([] : List Dl).map cDl), sl a 80 2 (gs.map cGs)]) := by
 refine Ct.of (N := 73) Try.func21 rfl rfl rfl fun w => ?_
 refine C_weak (E' := [(0, .agg (cPl nm sf v u).toArray), (1, .int .i64 0)]) (rs' := [rd v 2 (gs.map cGs), rd u 3 (([] : List Dl).map cDl)]) ⟨rfl, rfl, trivial⟩ (fun _ h => h) ?_
 refine C_form (v := v) gvo (fun Av cv hv _ => ?_)
 subst hv
 refine C_form (v := u) gvo (fun Au cu hu _ => ?_)
 subst hu
 have hl1 := len_map cGs gs
 have hgl := H.gl
 refine C_seq ?_
 refine C_region ?_
 refine L_box rfl rfl rfl fun g2 => ?_
 refine L_alloc tb rfl rfl fun g4 => ?_
 refine Jq (q_assign rfl) ?_
 refine L_then ?_
 refine C_seq ?_
 refine C_region ?_
 refine Jq (q_loadA tb rfl rfl bxo rfl rfl) ?_
 refine Jq (q_move rfl) ?_
 refine L_callSN tb rfl rfl (ct_followed0 nm sf (.slice Av (gs.map cGs).length cv) (.slice Au (([] : List Dl).map cDl).length cu) gs [] hle (by decide) hnm H hz 0 (Int.le_refl _)) (ps_cons (by first | exact gvo | exact gvd gvo (by omega)) (ps_cons (by first | exact gvo | exact gvd gvo (by omega)) no_ps)) rfl fun v14 => ?_
 refine Jq (q_move rfl) ?_
 refine Jq (q_ext0 rfl) ?_
 refine Jq (q_ext1 rfl) ?_
 refine Jq (q_assign rfl) ?_
 refine Jq (q_assign rfl) ?_
 refine L_then ?_
 refine C_seq ?_
 refine C_seq ?_
 refine C_region ?_
 refine Jq (q_move rfl) ?_
 refine Jq (q_false (q_neq rfl rfl) (decide_eq_false (fun h => h rfl))) ?_
 refine L_then ?_
 refine C_false rfl ?_
 refine C_skip_then ?_
 refine C_seq ?_
 refine C_res (rs' := [sl v14 47 2 (([(0, 0)] : List (Int × Int)).map cSw), box g2 25 (cPl nm sf (.slice Av (gs.map cGs).length cv) (.slice Au (([] : List Dl).map cDl).length cu)), box g4 25 [.string ⟨#[]⟩, .int .i64 0, .slice none 0 0, .slice none 0 0], rd (.slice Av (gs.map cGs).length cv) 2 (gs.map cGs), rd (.slice Au (([] : List Dl).map cDl).length cu) 3 (([] : List Dl).map cDl)]) (fun _ h => h.pk (by repeat (first | with_reducible exact pk_nil | refine pk_box rfl ?_ | refine pk_rd rfl ?_ | refine pk_sl rfl ?_ | with_reducible refine pk_app ?_ | with_reducible refine pk_app0 ?_ | with_reducible refine pk_app0L ?_ | with_reducible exact pk_tl | refine pk_var ?_))) ?_
 refine C_region ?_
 refine Jq (q_move rfl) ?_
 refine Jq (q_move rfl) ?_
 refine L_call tb rfl rfl (ct_at0 v14) (ps_cons (by first | exact gvo | exact gvd gvo (by omega)) no_ps) rfl ?_
 refine L_call tb rfl rfl (ct_profile_ratio_rounded 0 1 (by omega)) no_ps rfl ?_
 refine L_alloc tb rfl rfl fun g8 => ?_
 refine L_st tb rfl rfl ?_
 refine L_then ?_
 refine C_seq ?_
 refine C_seq ?_
 refine C_region ?_
 refine Jq (q_field tb rfl rfl rfl) ?_
 refine Jq (q_load tb rfl rfl bxo rfl) ?_
 refine Jq (q_field tb rfl rfl rfl) ?_
 refine Jq (q_load tb rfl rfl bxo rfl) ?_
 refine Jq (q_false (q_neq rfl rfl) (by decide)) ?_
 refine L_then ?_
 refine C_false rfl ?_
 refine C_skip_then ?_
 refine C_seq ?_
 refine C_drawA1 tb (n := 9) (k := 8) [(0, false), (1, false), (2, false), (3, false), (4, false), (5, false), (6, true), (7, false)] mixed rfl rfl rfl (by kernel_rfl) rfl ?_
 refine Yq rfl (q_field tb rfl rfl rfl) ?_
 refine Yq rfl (q_load tb rfl rfl bxo rfl) ?_
 refine Yq rfl (q_field tb rfl rfl rfl) ?_
 refine Yq rfl (q_load tb rfl rfl bxo rfl) ?_
 refine Yq rfl (q_field tb rfl rfl rfl) ?_
 refine Yq rfl (q_load tb rfl rfl bxo rfl) ?_
 refine W_callSF tb rfl rfl rfl rfl (ct_Clone_cGs (.slice Av (gs.map cGs).length cv) gs hle) (ps_cons (by first | exact gvo | exact gvd gvo (by omega)) no_ps) rfl fun A37 n37 c37 => ?_
 refine Yq rfl (by first | exact q_build tb rfl rfl rfl rfl | exact q_buildArr tb rfl rfl rfl rfl rfl) ?_
 refine W_nil ?_
 intro g9
 refine L_st tb rfl rfl ?_
 refine L_then ?_
 refine C_seq ?_
 refine C_seq ?_
 refine C_region ?_
 refine Jq (q_move rfl) ?_
 refine Jq (q_false (q_gtr rfl rfl) (by decide)) ?_
 refine L_then ?_
 refine C_false rfl ?_
 refine C_skip_then ?_
 refine C_seq ?_
 refine C_region ?_
 refine Jq (q_loadA tb rfl rfl bxo rfl rfl) ?_
 refine L_st tb rfl rfl ?_
 refine Jq (q_assign rfl) ?_
 refine L_then ?_
 refine C_ret ?_
 exact ret_of (rs' := [sl (.slice none 0 0) 82 3 (([] : List Dl).map cDl), sl (.slice A37 n37 c37) 80 2 (gs.map cGs)]) (resCT tb rfl rfl rfl rfl bxo rfl) (fun w_ h_ => ws_nil (h_.pk (by repeat (first | with_reducible exact pk_nil | refine pk_box rfl ?_ | refine pk_rd rfl ?_ | refine pk_sl rfl ?_ | with_reducible refine pk_app ?_ | with_reducible refine pk_app0 ?_ | with_reducible refine pk_app0L ?_ | with_reducible exact pk_tl | refine pk_var ?_)))) (by intro r hr; simp only [List.mem_cons, List.not_mem_nil, or_false] at hr; rcases hr with rfl | rfl <;> exact sl_own _ _ _ _) ⟨_, _, rfl, rfl⟩
theorem ct_Before_all (nm : ByteArray) (sf : Int) (v u : Value) (gs : List Gs) (ls : List Dl) (hle : gs.length ≤ 100000) (hle2 : ls.length ≤ 100000) (hnm : nm.size ≤ 1000000000000) (H : okPl sf gs ls) (hz : (ckPl nm sf gs ls).2 = 0) (σ : Nat) (h1 : (σ : Int) ≤ secAt ls ls.length) (hw : 0 < ls.length → dpL ls σ = dpH ls σ) :
  Ct Try.prog 21 [.agg (cPl nm sf v u).toArray, .int .i64 (σ : Int)] [(v, 2, gs.map cGs), (u, 3, ls.map cDl)] (fun y rs => ∃ a b, y = .tuple #[.agg (cPl nm sf a b).toArray, .int .i64 0] ∧ rs = [sl b 82 3 ((bfL ls σ).map cDl), sl a 80 2 (gs.map cGs)]) := by
 rcases Nat.eq_zero_or_pos ls.length with h | h
 · have e : ls = [] := List.eq_nil_of_length_eq_zero h
   subst e
   obtain rfl : σ = 0 := by
    have : secAt ([] : List Dl) ([] : List Dl).length = 0 := rfl
    omega
   exact ct_Before0 nm sf v u gs hle hnm H hz
 · exact ct_Before_yes nm sf v u gs ls hle hle2 hnm H hz σ h1 h (hw h)

set_option maxRecDepth 100000 in
set_option maxHeartbeats 1000000 in
theorem ct_shotlinetop_restOf (nm : ByteArray) (sf : Int) (v u : Value) (gs : List Gs) (ls : List Dl) (H : okPl sf gs ls) (σ : Nat) : Ct Try.prog 24 [.agg (cPl nm sf v u).toArray, .int .i64 (σ : Int)] [(v, 2, gs.map cGs), (u, 3, ls.map cDl)] (isSl 82 3 ((rsK ls σ ls.length).map cDl)) := by
 refine Ct.of (N := 41) Try.func24 rfl rfl rfl fun w => ?_
 refine C_weak (E' := [(0, .agg (cPl nm sf v u).toArray), (1, .int .i64 (σ : Int))]) (rs' := [rd v 2 (gs.map cGs), rd u 3 (ls.map cDl)]) ⟨rfl, rfl, trivial⟩ (fun _ h => h) ?_
 have hl1 := len_map cGs gs
 have hl2 := len_map cDl ls
 have hll := H.ll
 refine C_seq ?_
 refine C_region ?_
 refine L_box rfl rfl rfl fun g2 => ?_
 refine Jq (q_assign rfl) ?_
 refine L_then ?_
 refine C_seq ?_
 refine C_region ?_
 refine Jq (q_assign rfl) ?_
 refine L_then ?_
 refine C_seq ?_
 refine C_region ?_
 refine Jq (q_assign rfl) ?_
 refine L_then ?_
 refine C_seq ?_
 refine C_seq ?_
 refine C_region ?_
 refine Jq (q_assign rfl) ?_
 refine L_then ?_
 refine C_block ?_
 refine C_nil 82 3 ?_
 refine C_loop (ι := Nat × Value) (fun q => ([(1, .int .i64 (σ : Int)), (2, .pointer (some ⟨g2, 0, none⟩)), (5, q.2), (6, .int .i64 ((secAt ls q.1))), (7, .int .i64 (q.1 : Int))], [sl q.2 82 3 ((rsK ls σ q.1).map cDl), box g2 25 (cPl nm sf v u), rd v 2 (gs.map cGs), rd u 3 (ls.map cDl)])) (fun q => q.1 ≤ ls.length) (fun q => ls.length - q.1) (0, .slice none 0 0) (Nat.zero_le _) (fun a w hs => hs.weak ⟨rfl, rfl, rfl, rfl, rfl, trivial⟩ (fun h => h.pk (by repeat (first | with_reducible exact pk_nil | refine pk_box rfl ?_ | refine pk_rd rfl ?_ | refine pk_sl rfl ?_ | with_reducible refine pk_app ?_ | with_reducible refine pk_app0 ?_ | with_reducible refine pk_app0L ?_ | with_reducible exact pk_tl | refine pk_var ?_)))) ?_
 rintro ⟨k, y⟩ hk9
 dsimp only at hk9 ⊢
 refine C_seq ?_
 refine C_seq ?_
 refine C_region ?_
 refine Jq (q_move rfl) ?_
 refine Jq (q_field tb rfl rfl rfl) ?_
 refine Jq (q_load tb rfl rfl bxo rfl) ?_
 refine Jq (q_len tb rfl rfl gvo) ?_
 refine Jq (q_lss rfl rfl) ?_
 refine L_then ?_
 refine C_dec rfl (fun h1 => ?_) (fun h1 => ?_)
 have hel := dl_cell (show k < ls.length by omega)
 have hds := (H.at (k := k) (by omega)).s; have hse := H.e k (by omega); have hse2 := H.e (k + 1) (by omega); have hsu := secAt_succ ls k; have hrl := rsK_len (ls := ls) (σ := σ) k; have hrl2 := len_map cDl (rsK ls σ k)
 refine C_skip_then ?_
 refine C_seq ?_
 refine C_block ?_
 refine C_seq ?_
 refine C_region ?_
 refine Jq (q_field tb rfl rfl rfl) ?_
 refine Jq (q_load tb rfl rfl bxo rfl) ?_
 refine Jq (q_move rfl) ?_
 refine Jq (by first | exact q_index tb rfl rfl rfl rfl gvo (by omega) (by first | omega | (simp; done) | (simp; omega)) | exact q_indexP tb rfl rfl rfl rfl (by omega) (by omega)) ?_
 refine Jq (q_loadEA tb rfl rfl gvo (i := k) (o := 0) (by omega) hel rfl rfl) ?_
 refine L_alloc tb rfl rfl fun g8 => ?_
 refine L_st tb rfl rfl ?_
 refine L_then ?_
 refine C_seq ?_
 refine C_region ?_
 refine Jq (q_move rfl) ?_
 refine Jq (q_assign rfl) ?_
 refine L_then ?_
 refine C_seq ?_
 refine C_region ?_
 refine Jq (q_move rfl) ?_
 refine Jq (q_field tb rfl rfl rfl) ?_
 refine Jq (q_load tb rfl rfl bxo rfl) ?_
 refine Jq (q_add rfl rfl (by first | exact IntWalk.i64_in _ (by omega) | rfl)) ?_
 refine Jq (q_assign rfl) ?_
 refine L_then ?_
 refine C_seq ?_
 refine C_seq ?_
 refine C_region ?_
 refine Jq (q_move rfl) ?_
 refine Jq (q_move rfl) ?_
 refine Jq (q_leq rfl rfl) ?_
 refine L_then ?_
 refine C_dec rfl (fun h29 => ?_) (fun h29 => ?_)
 have eR : (rsK ls σ k).map cDl = (rsK ls σ (k + 1)).map cDl := by rw [rsK_skip (by omega)]
 refine C_exit ?_
 change C Try.prog _ _ _ _ _ _ _
 refine C_region ?_
 refine Jq (q_move rfl) ?_
 refine Jq (q_add rfl rfl (by first | exact IntWalk.i64_in _ (by omega) | rfl)) ?_
 refine Jq (q_assign rfl) ?_
 refine L_end ?_
 exact fun ac_ wo_ hs_ => ⟨(k + 1, y), (by dsimp only; omega), (by dsimp only; omega), hs_.weak ⟨rfl, rfl, rfl, en hsu.symm, rfl, trivial⟩ (fun h => h.pk (pk_sl eR (pk_box rfl (pk_rd rfl (pk_rd rfl pk_nil)))))⟩
 have eR : (rsK ls σ k).map cDl ++ [cDl (⟨secAt ls (k + 1) - max (secAt ls k) (σ : Int), (dlAt ls k).d, (dlAt ls k).g⟩ : Dl)] = (rsK ls σ (k + 1)).map cDl := by rw [rsK_take (by omega), List.map_append]; rfl
 refine C_skip_then ?_
 refine C_seq ?_
 refine C_region ?_
 refine Jq (q_move rfl) ?_
 refine Jq (q_move rfl) ?_
 refine Jq (q_move rfl) ?_
 refine Jq (q_max rfl rfl) ?_
 refine Jq (q_sub rfl rfl (by first | exact IntWalk.i64_in _ (by omega) | rfl)) ?_
 refine Jq (q_field tb rfl rfl rfl) ?_
 refine L_st tb rfl rfl ?_
 refine L_then ?_
 refine C_region ?_
 refine Jq (q_move rfl) ?_
 refine Jq (q_loadA tb rfl rfl bxo rfl rfl) ?_
 refine L_mk (lo_bslice tb rfl rfl rfl (xs := [cDl (⟨secAt ls (k + 1) - max (secAt ls k) (σ : Int), (dlAt ls k).d, (dlAt ls k).g⟩ : Dl)]) rfl rfl (by simp [cDl]) rfl (by omega) rfl) rfl rfl rfl fun v38 => ?_
 refine L_ap tb rfl rfl rfl rfl gvo (by simp [Value.oneCell', cDl]) (by simp [maxLen]; omega) (by simp; omega) fun v39 => ?_
 refine Jq (q_assign rfl) ?_
 refine L_blk ?_
 refine C_region ?_
 refine Jq (q_move rfl) ?_
 refine Jq (q_add rfl rfl (by first | exact IntWalk.i64_in _ (by omega) | rfl)) ?_
 refine Jq (q_assign rfl) ?_
 refine L_end ?_
 exact fun ac_ wo_ hs_ => ⟨(k + 1, v39), (by dsimp only; omega), (by dsimp only; omega), hs_.weak ⟨rfl, rfl, rfl, en hsu.symm, rfl, trivial⟩ (fun h => h.pk (pk_sl eR (pk_box rfl (pk_rd rfl (pk_rd rfl pk_nil)))))⟩
 obtain rfl : k = ls.length := by omega
 refine C_exit ?_
 change C Try.prog _ _ _ _ _ _ _
 refine C_seq ?_
 refine C_region ?_
 refine Jq (q_move rfl) ?_
 refine Jq (q_assign rfl) ?_
 refine L_then ?_
 refine C_ret ?_
 exact ret_of (rs' := [sl y 82 3 ((rsK ls σ ls.length).map cDl)]) (res1 rfl rfl) (fun w_ h_ => h_.pk (by repeat (first | with_reducible exact pk_nil | refine pk_box rfl ?_ | refine pk_rd rfl ?_ | refine pk_sl rfl ?_ | with_reducible refine pk_app ?_ | with_reducible refine pk_app0 ?_ | with_reducible refine pk_app0L ?_ | with_reducible exact pk_tl | refine pk_var ?_))) own1 rfl
set_option maxRecDepth 100000 in
set_option maxHeartbeats 1000000 in
theorem ct_slices_Grow_shotline_api_DiveLeg_shotline_api_DiveLeg (n : Nat) (hn : n ≤ 100000) : Ct Try.prog 84 [.slice none 0 0, .int .i64 (n : Int)] [] (isSlF 82 3 []) := by
 refine Ct.of (N := 27) Try.func84 rfl rfl rfl fun w => ?_
 refine C_weak (E' := [(0, .slice none 0 0), (1, .int .i64 (n : Int))]) (rs' := []) ⟨rfl, rfl, trivial⟩ (fun _ h => h) ?_
 refine C_seq ?_
 refine C_region ?_
 refine Jq (q_assign rfl) ?_
 refine L_then ?_
 refine C_seq ?_
 refine C_seq ?_
 refine C_region ?_
 refine Jq (q_move rfl) ?_
 refine Jq (q_lss rfl rfl) ?_
 refine L_then ?_
 refine C_dec rfl (fun h1 => ?_) (fun h1 => ?_)
 exfalso; omega
 refine C_skip_then ?_
 refine C_seq ?_
 refine C_seq ?_
 refine C_region ?_
 refine Jq (q_move rfl) ?_
 refine Jq (q_move rfl) ?_
 refine Jq (q_capF tb rfl rfl) ?_
 refine Jq (q_move rfl) ?_
 refine Jq (q_lenF tb rfl rfl) ?_
 refine Jq (q_sub rfl rfl (by first | exact IntWalk.i64_in _ (by omega) | rfl)) ?_
 refine Jq (q_sub rfl rfl (by first | exact IntWalk.i64_in _ (by omega) | rfl)) ?_
 refine Jq (q_assign rfl) ?_
 refine L_then ?_
 refine C_seq ?_
 refine C_region ?_
 refine Jq (q_move rfl) ?_
 refine Jq (q_gtr rfl rfl) ?_
 refine L_then ?_
 refine C_dec rfl (fun h2 => ?_) (fun h2 => ?_)
 refine C_region ?_
 refine Jq (q_move rfl) ?_
 refine Jq (q_move rfl) ?_
 refine Jq (q_capF tb rfl rfl) ?_
 refine Jq (q_toF tb rfl rfl rfl rfl (Int.le_refl _) (Int.le_refl _)) ?_
 refine Jq (q_move rfl) ?_
 refine L_lo rfl rfl rfl (lo_appZ (n := n) tb rfl rfl rfl (by omega) Try.underlying3 rfl (by exact congrArg some (congrArg (Value.int .i64) (by omega))) (by omega) (by omega) (by unfold maxLen; omega)) ?_
 rintro _ _ ⟨g22, c22, rfl, rfl⟩
 refine Jq (q_move rfl) ?_
 refine Jq (q_lenF tb rfl rfl) ?_
 refine Jq (q_to0 tb rfl rfl rfl rfl) ?_
 refine Jq (q_assign rfl) ?_
 refine L_then ?_
 refine C_seq ?_
 refine C_region ?_
 refine Jq (q_move rfl) ?_
 refine Jq (q_assign rfl) ?_
 refine L_then ?_
 refine C_ret ?_
 exact ret_of (rs' := [sl (.slice (some ⟨g22, 0, none⟩) 0 c22) 82 3 []]) (res1 rfl rfl) (fun w_ h_ => h_.pk (by repeat (first | with_reducible exact pk_nil | refine pk_box rfl ?_ | refine pk_rd rfl ?_ | refine pk_sl rfl ?_ | with_reducible refine pk_app ?_ | with_reducible refine pk_app0 ?_ | with_reducible refine pk_app0L ?_ | with_reducible exact pk_tl | refine pk_var ?_))) own1 ⟨rfl, _, _, _, rfl⟩
 refine C_skip_then ?_
 refine C_seq ?_
 refine C_region ?_
 refine Jq (q_move rfl) ?_
 refine Jq (q_assign rfl) ?_
 refine L_then ?_
 refine C_ret ?_
 exact ret_of (rs' := [sl (.slice none 0 0) 82 3 []]) (res1 rfl rfl) (fun w_ h_ => ws_nil (sub_nil w_ h_)) own1 ⟨rfl, _, _, _, rfl⟩
end Go.Proofs.Ytdmnejfpbbmcaaa
