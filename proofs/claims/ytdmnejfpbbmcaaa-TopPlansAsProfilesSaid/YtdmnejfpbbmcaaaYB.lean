/-
  Walks: each function named returns what its model says. Conditions: those in front of each theorem.
-/
import Derived.Test.YtdmnejfpbbmcaaaShTreeP
import Derived.Test.YtdmnejfpbbmcaaaYA
namespace Go.Proofs.Ytdmnejfpbbmcaaa
set_option maxRecDepth 100000
set_option maxHeartbeats 4000000
open Go.RowKit

set_option maxRecDepth 100000 in
set_option maxHeartbeats 1000000 in
theorem ct_profile_followed (nm : ByteArray) (sf : Int) (v u : Value) (gs : List Gs) (ls : List Dl) (hle : gs.length ≤ 100000) (hle2 : ls.length ≤ 100000) (hnm : nm.size ≤ 1000000000000) (H : okPl sf gs ls) (hz : (ckPl nm sf gs ls).2 = 0) (σ : Nat) (h1 : (σ : Int) ≤ secAt ls ls.length) (h0 : 0 < ls.length) : Ct Try.prog 43 [.agg (cPl nm sf v u).toArray, .int .i64 (σ : Int)] [(v, 2, gs.map cGs), (u, 3, ls.map cDl)] (isSlN 47 2 ((ptsK ls ls.length).map cSw) (.int .i64 0)) := by
 refine Ct.of (N := 22) Try.func43 rfl rfl rfl fun w => ?_
 refine C_weak (E' := [(0, .agg (cPl nm sf v u).toArray), (1, .int .i64 (σ : Int))]) (rs' := [rd v 2 (gs.map cGs), rd u 3 (ls.map cDl)]) ⟨rfl, rfl, trivial⟩ (fun _ h => h) ?_
 refine C_form (v := v) gvo (fun Av cv hv _ => ?_)
 subst hv
 refine C_form (v := u) gvo (fun Au cu hu _ => ?_)
 subst hu
 have hl1 := len_map cGs gs
 have hl2 := len_map cDl ls
 have hll := H.ll; have hgl := H.gl
 refine C_seq ?_
 refine C_region ?_
 refine L_box rfl rfl rfl fun g2 => ?_
 refine Jq (q_assign rfl) ?_
 refine Jq (q_assign rfl) ?_
 refine L_then ?_
 refine C_seq ?_
 refine C_seq ?_
 refine C_region ?_
 refine Jq (q_loadA tb rfl rfl bxo rfl rfl) ?_
 refine L_mk (lo_bslice tb rfl rfl rfl (xs := [cPl nm sf (.slice Av (gs.map cGs).length cv) (.slice Au (ls.map cDl).length cu)]) rfl rfl (by simp [cPl]) rfl (by omega) rfl) rfl rfl rfl fun v9 => ?_
 refine L_call tb rfl rfl (ct_profile_check v9 nm sf (.slice Av (gs.map cGs).length cv) (.slice Au (ls.map cDl).length cu) gs ls hle hle2 hnm) (ps_cons gvo (ps_cons gvo (ps_cons gvo no_ps))) rfl ?_
 refine Jq (q_assign rfl) ?_
 refine L_then ?_
 refine C_seq ?_
 refine C_region ?_
 refine Jq (q_move rfl) ?_
 refine Jq (q_neq rfl rfl) ?_
 refine L_then ?_
 refine C_dec rfl (fun h1z => ?_) (fun h1z => ?_)
 exact absurd hz h1z
 refine C_skip_then ?_
 refine C_seq ?_
 refine C_region ?_
 refine Jq (q_loadA tb rfl rfl bxo rfl rfl) ?_
 refine L_callS tb rfl rfl (ct_profile_trackOf nm sf (.slice Av (gs.map cGs).length cv) (.slice Au (ls.map cDl).length cu) gs ls H) (ps_cons gvo (ps_cons gvo no_ps)) rfl fun v15 => ?_
 refine Jq (q_assign rfl) ?_
 refine L_then ?_
 refine C_seq ?_
 refine C_seq ?_
 refine C_region ?_
 refine Jq (q_move rfl) ?_
 refine Jq (q_move rfl) ?_
 refine L_call tb rfl rfl (ct_profile_track_end v15 ls (by omega)) (ps_cons gvo no_ps) rfl ?_
 refine L_call tb rfl rfl (ct_profile_within _ _ _) no_ps rfl ?_
 refine Jq (q_not rfl decide_not.symm) ?_
 refine L_then ?_
 refine C_dec rfl (fun h2 => ?_) (fun h2 => ?_)
 exfalso; omega
 refine C_skip_then ?_
 refine C_seq ?_
 refine C_region ?_
 refine Jq (q_move rfl) ?_
 refine Jq (q_assign rfl) ?_
 refine Jq (q_assign rfl) ?_
 refine L_then ?_
 refine C_ret ?_
 exact ret_of (rs' := [sl v15 47 2 ((ptsK ls ls.length).map cSw)]) (res2 rfl rfl rfl) (fun w_ h_ => h_.pk (by repeat (first | with_reducible exact pk_nil | refine pk_box rfl ?_ | refine pk_rd rfl ?_ | refine pk_sl rfl ?_ | with_reducible refine pk_app ?_ | with_reducible refine pk_app0 ?_ | with_reducible refine pk_app0L ?_ | with_reducible exact pk_tl | refine pk_var ?_))) own1 ⟨_, rfl, rfl⟩
set_option maxRecDepth 100000 in
set_option maxHeartbeats 1000000 in
theorem ct_profile_DepthAt (nm : ByteArray) (sf : Int) (v u : Value) (gs : List Gs) (ls : List Dl) (hle : gs.length ≤ 100000) (hle2 : ls.length ≤ 100000) (hnm : nm.size ≤ 1000000000000) (H : okPl sf gs ls) (hz : (ckPl nm sf gs ls).2 = 0) (σ : Nat) (h1 : (σ : Int) ≤ secAt ls ls.length) (h0 : 0 < ls.length) : Ct Try.prog 13 [.agg (cPl nm sf v u).toArray, .int .i64 (σ : Int)] [(v, 2, gs.map cGs), (u, 3, ls.map cDl)] (isV (.tuple #[.agg #[.int .i64 (dpL ls σ), .int .i64 (dpH ls σ)], .int .i64 0])) := by
 refine Ct.of (N := 22) Try.func13 rfl rfl rfl fun w => ?_
 refine C_weak (E' := [(0, .agg (cPl nm sf v u).toArray), (1, .int .i64 (σ : Int))]) (rs' := [rd v 2 (gs.map cGs), rd u 3 (ls.map cDl)]) ⟨rfl, rfl, trivial⟩ (fun _ h => h) ?_
 have hl1 := len_map cGs gs
 have hl2 := len_map cDl ls
 obtain ⟨hk1, hk2, hk3⟩ := kAt_in H h0 h1
 obtain ⟨q1, q2, q3, q4⟩ := atR_spec H h0 h1
 have hel := dl_cell hk1
 refine C_seq ?_
 refine C_region ?_
 refine L_box rfl rfl rfl fun g2 => ?_
 refine L_alloc tb rfl rfl fun g4 => ?_
 refine Jq (q_assign rfl) ?_
 refine L_then ?_
 refine C_seq ?_
 refine C_region ?_
 refine Jq (q_loadA tb rfl rfl bxo rfl rfl) ?_
 refine Jq (q_move rfl) ?_
 refine L_callSN tb rfl rfl (ct_profile_followed nm sf v u gs ls hle hle2 hnm H hz σ h1 h0) (ps_cons gvo (ps_cons gvo no_ps)) rfl fun v11 => ?_
 refine Jq (q_move rfl) ?_
 refine Jq (q_ext0 rfl) ?_
 refine Jq (q_ext1 rfl) ?_
 refine Jq (q_assign rfl) ?_
 refine Jq (q_assign rfl) ?_
 refine L_then ?_
 refine C_seq ?_
 refine C_seq ?_
 refine C_region ?_
 refine Jq (q_move rfl) ?_
 refine Jq (q_false (q_neq rfl rfl) (by simp)) ?_
 refine L_then ?_
 refine C_false rfl ?_
 refine C_skip_then ?_
 refine C_seq ?_
 refine C_region ?_
 refine Jq (q_move rfl) ?_
 refine Jq (q_move rfl) ?_
 refine L_call tb rfl rfl (ct_profile_track_at v11 sf gs ls H σ h1 h0) (ps_cons gvo no_ps) rfl ?_
 refine L_call tb rfl rfl (ct_profile_ratio_rounded (atR ls σ).1 (atR ls σ).2 (by omega)) no_ps rfl ?_
 refine L_st tb rfl rfl ?_
 refine Jq (q_assign rfl) ?_
 refine L_then ?_
 refine C_ret ?_
 rw [← q3, ← q4]
 exact ret_of (resCT tb rfl rfl rfl rfl bxo rfl) sub_nil (by intro r hr; cases hr) ⟨rfl, rfl⟩
end Go.Proofs.Ytdmnejfpbbmcaaa
