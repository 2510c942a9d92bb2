/-
  Walks: each function named returns what its model says. Conditions: those in front of each theorem.
-/
import Derived.Test.YtdmnejfpbbmcaaaShTreeP
import Derived.Test.YtdmnejfpbbmcaaaYA
namespace Go.Proofs.Ytdmnejfpbbmcaaa
set_option maxRecDepth 100000
set_option maxHeartbeats 4000000
open Go.RowKit

set_option maxRecDepth 100000 in
theorem ct_Clone_cGs (v : Value) (es : List Gs) (hle : es.length ≤ 100000) : Ct Try.prog 55 [v] [(v, 2, es.map cGs)] (isSl 80 2 (es.map cGs)) := by
 refine Ct.of (N := 8) Try.func55 rfl rfl rfl fun w => ?_
 refine C_weak (E' := [(0, v)]) (rs' := [rd v 2 (es.map cGs)]) ⟨rfl, trivial⟩ (fun _ h => h) ?_
 have hl := len_map cGs es
 refine C_form (v := v) gr0 (fun Av cv hv hnil => ?_)
 subst hv
 refine C_seq ?_
 refine C_region ?_
 refine Jq (q_assign rfl) ?_
 refine L_then ?_
 refine C_seq ?_
 refine C_seq ?_
 refine C_region ?_
 refine Jq (q_move rfl) ?_
 refine Jq (q_eqlNil tb rfl rfl) ?_
 refine L_then ?_
 refine C_bool rfl (fun h0 => ?_) (fun h0 => ?_)
 refine C_seq ?_
 refine C_region ?_
 refine Jq (q_assign rfl) ?_
 refine L_then ?_
 refine C_ret ?_
 exact ret_of (rs' := [sl (.slice none 0 0) 80 2 (es.map cGs)]) (res1 rfl rfl) (fun w_ h_ => by rw [hnil (Option.isNone_iff_eq_none.1 h0)]; exact ws_nil (sub_nil w_ h_)) own1 rfl
 refine C_skip_then ?_
 refine C_seq ?_
 refine C_region ?_
 refine L_mk (lo_bslice tb rfl rfl rfl (xs := []) rfl rfl (by simp) rfl (by omega) rfl) rfl rfl rfl fun v5 => ?_
 refine Jq (q_move rfl) ?_
 refine L_ap tb rfl rfl rfl rfl gvo (oneGs es) (by simp [maxLen]; omega) (by simp; omega) fun v7 => ?_
 refine Jq (q_assign rfl) ?_
 refine L_then ?_
 refine C_ret ?_
 exact ret_of (rs' := [sl v7 80 2 (es.map cGs)]) (res1 rfl rfl) (fun _ h => h.sub (by repeat (first | exact List.Sublist.refl _ | apply List.Sublist.cons_cons | apply List.Sublist.cons))) own1 rfl
set_option maxRecDepth 100000 in
theorem ct_Clone_cDl (v : Value) (es : List Dl) (hle : es.length ≤ 100000) : Ct Try.prog 57 [v] [(v, 3, es.map cDl)] (isSl 82 3 (es.map cDl)) := by
 refine Ct.of (N := 8) Try.func57 rfl rfl rfl fun w => ?_
 refine C_weak (E' := [(0, v)]) (rs' := [rd v 3 (es.map cDl)]) ⟨rfl, trivial⟩ (fun _ h => h) ?_
 have hl := len_map cDl es
 refine C_form (v := v) gr0 (fun Av cv hv hnil => ?_)
 subst hv
 refine C_seq ?_
 refine C_region ?_
 refine Jq (q_assign rfl) ?_
 refine L_then ?_
 refine C_seq ?_
 refine C_seq ?_
 refine C_region ?_
 refine Jq (q_move rfl) ?_
 refine Jq (q_eqlNil tb rfl rfl) ?_
 refine L_then ?_
 refine C_bool rfl (fun h0 => ?_) (fun h0 => ?_)
 refine C_seq ?_
 refine C_region ?_
 refine Jq (q_assign rfl) ?_
 refine L_then ?_
 refine C_ret ?_
 exact ret_of (rs' := [sl (.slice none 0 0) 82 3 (es.map cDl)]) (res1 rfl rfl) (fun w_ h_ => by rw [hnil (Option.isNone_iff_eq_none.1 h0)]; exact ws_nil (sub_nil w_ h_)) own1 rfl
 refine C_skip_then ?_
 refine C_seq ?_
 refine C_region ?_
 refine L_mk (lo_bslice tb rfl rfl rfl (xs := []) rfl rfl (by simp) rfl (by omega) rfl) rfl rfl rfl fun v5 => ?_
 refine Jq (q_move rfl) ?_
 refine L_ap tb rfl rfl rfl rfl gvo (oneDl es) (by simp [maxLen]; omega) (by simp; omega) fun v7 => ?_
 refine Jq (q_assign rfl) ?_
 refine L_then ?_
 refine C_ret ?_
 exact ret_of (rs' := [sl v7 82 3 (es.map cDl)]) (res1 rfl rfl) (fun _ h => h.sub (by repeat (first | exact List.Sublist.refl _ | apply List.Sublist.cons_cons | apply List.Sublist.cons))) own1 rfl
set_option maxRecDepth 100000 in
set_option maxHeartbeats 1000000 in
theorem ct_profile_followed (nm : ByteArray) (sf : Int) (v u : Value) (gs : List Gs) (ls : List Dl) (hle : gs.length ≤ 100000) (hle2 : ls.length ≤ 100000) (hnm : nm.size ≤ 1000000000000) (H : okPl sf gs ls) (hz : (ckPl nm sf gs ls).2 = 0) (σ : Nat) (h1 : (σ : Int) ≤ secAt ls ls.length) (h0 : 0 < ls.length) : Ct Try.prog 43 [.agg (cPl nm sf v u).toArray, .int .i64 (σ : Int)] [(v, 2, gs.map cGs), (u, 3, ls.map cDl)] (isSlN 47 2 ((ptsK ls ls.length).map cSw) (.int .i64 0)) := by
 refine Ct.of (N := 22) Try.func43 rfl rfl rfl fun w => ?_
 refine C_weak (E' := [(0, .agg (cPl nm sf v u).toArray), (1, .int .i64 (σ : Int))]) (rs' := [rd v 2 (gs.map cGs), rd u 3 (ls.map cDl)]) ⟨rfl, rfl, trivial⟩ (fun _ h => h) ?_
 refine C_form (v := v) gvo (fun Av cv hv _ => ?_)
 subst hv
 refine C_form (v := u) gvo (fun Au cu hu _ => ?_)
 subst hu
 have hl1 := len_map cGs gs
 have hl2 := len_map cDl ls
 have hll := H.ll; have hgl := H.gl
 refine C_seq ?_
 refine C_region ?_
 refine L_box rfl rfl rfl fun g2 => ?_
 refine Jq (q_assign rfl) ?_
 refine Jq (q_assign rfl) ?_
 refine L_then ?_
 refine C_seq ?_
 refine C_seq ?_
 refine C_region ?_
 refine Jq (q_loadA tb rfl rfl bxo rfl rfl) ?_
 refine L_mk (lo_bslice tb rfl rfl rfl (xs := [cPl nm sf (.slice Av (gs.map cGs).length cv) (.slice Au (ls.map cDl).length cu)]) rfl rfl (by simp [cPl]) rfl (by omega) rfl) rfl rfl rfl fun v9 => ?_
 refine L_call tb rfl rfl (ct_profile_check v9 nm sf (.slice Av (gs.map cGs).length cv) (.slice Au (ls.map cDl).length cu) gs ls hle hle2 hnm) (ps_cons gvo (ps_cons gvo (ps_cons gvo no_ps))) rfl ?_
 refine Jq (q_assign rfl) ?_
 refine L_then ?_
 refine C_seq ?_
 refine C_region ?_
 refine Jq (q_move rfl) ?_
 refine Jq (q_neq rfl rfl) ?_
 refine L_then ?_
 refine C_dec rfl (fun h1z => ?_) (fun h1z => ?_)
 exact absurd hz h1z
 refine C_skip_then ?_
 refine C_seq ?_
 refine C_region ?_
 refine Jq (q_loadA tb rfl rfl bxo rfl rfl) ?_
 refine L_callS tb rfl rfl (ct_profile_trackOf nm sf (.slice Av (gs.map cGs).length cv) (.slice Au (ls.map cDl).length cu) gs ls H) (ps_cons gvo (ps_cons gvo no_ps)) rfl fun v15 => ?_
 refine Jq (q_assign rfl) ?_
 refine L_then ?_
 refine C_seq ?_
 refine C_seq ?_
 refine C_region ?_
 refine Jq (q_move rfl) ?_
 refine Jq (q_move rfl) ?_
 refine L_call tb rfl rfl (ct_profile_track_end v15 ls (by omega)) (ps_cons gvo no_ps) rfl ?_
 refine L_call tb rfl rfl (ct_profile_within _ _ _) no_ps rfl ?_
 refine Jq (q_not rfl decide_not.symm) ?_
 refine L_then ?_
 refine C_dec rfl (fun h2 => ?_) (fun h2 => ?_)
 exfalso; omega
 refine C_skip_then ?_
 refine C_seq ?_
 refine C_region ?_
 refine Jq (q_move rfl) ?_
 refine Jq (q_assign rfl) ?_
 refine Jq (q_assign rfl) ?_
 refine L_then ?_
 refine C_ret ?_
 exact ret_of (rs' := [sl v15 47 2 ((ptsK ls ls.length).map cSw)]) (res2 rfl rfl rfl) (fun w_ h_ => h_.pk (by repeat (first | with_reducible exact pk_nil | refine pk_box rfl ?_ | refine pk_rd rfl ?_ | refine pk_sl rfl ?_ | with_reducible refine pk_app ?_ | with_reducible refine pk_app0 ?_ | with_reducible refine pk_app0L ?_ | with_reducible exact pk_tl | refine pk_var ?_))) own1 ⟨_, rfl, rfl⟩
set_option maxRecDepth 100000 in
set_option maxHeartbeats 1000000 in
theorem ct_Before_no (nm : ByteArray) (sf : Int) (v u : Value) (gs : List Gs) (ls : List Dl) (hle : gs.length ≤ 100000) (hle2 : ls.length ≤ 100000) (hnm : nm.size ≤ 1000000000000) (H : okPl sf gs ls) (hz : (ckPl nm sf gs ls).2 = 0) (σ : Nat) (h1 : (σ : Int) ≤ secAt ls ls.length) (h0 : 0 < ls.length) (hw : ¬ dpL ls σ = dpH ls σ) : Ct Try.prog 21 [.agg (cPl nm sf v u).toArray, .int .i64 (σ : Int)] [(v, 2, gs.map cGs), (u, 3, ls.map cDl)] (isV (.tuple #[.agg #[.string ⟨#[]⟩, .int .i64 0, .slice none 0 0, .slice none 0 0], .int .i64 3])) := by
 refine Ct.of (N := 73) Try.func21 rfl rfl rfl fun w => ?_
 refine C_weak (E' := [(0, .agg (cPl nm sf v u).toArray), (1, .int .i64 (σ : Int))]) (rs' := [rd v 2 (gs.map cGs), rd u 3 (ls.map cDl)]) ⟨rfl, rfl, trivial⟩ (fun _ h => h) ?_
 refine C_form (v := v) gvo (fun Av cv hv _ => ?_)
 subst hv
 refine C_form (v := u) gvo (fun Au cu hu _ => ?_)
 subst hu
 have hl1 := len_map cGs gs
 have hl2 := len_map cDl ls
 obtain ⟨hk1, hk2, hk3⟩ := kAt_in H h0 h1
 obtain ⟨q1, q2, q3, q4⟩ := atR_spec H h0 h1
 have hel := dl_cell hk1
 have hll := H.ll; have hgl := H.gl; have hse := H.e (kAt ls σ) (by omega); have hse2 := H.e (kAt ls σ + 1) (by omega)
 have htk : (ls.take (kAt ls σ + 1)).length = kAt ls σ + 1 := by rw [List.length_take]; omega
 have htm : ((ls.take (kAt ls σ + 1)).map cDl).length = kAt ls σ + 1 := by rw [List.length_map]; exact htk
 have hpt := pt_cell (ls := ls) (k := ls.length) (i := kAt ls σ) (by omega)
 have hpl : ((ptsK ls ls.length).map cSw).length = ls.length + 1 := by rw [List.length_map, ptsK_len]
 refine C_seq ?_
 refine C_region ?_
 refine L_box rfl rfl rfl fun g2 => ?_
 refine L_alloc tb rfl rfl fun g4 => ?_
 refine Jq (q_assign rfl) ?_
 refine L_then ?_
 refine C_seq ?_
 refine C_region ?_
 refine Jq (q_loadA tb rfl rfl bxo rfl rfl) ?_
 refine Jq (q_move rfl) ?_
 refine L_callSN tb rfl rfl (ct_profile_followed nm sf (.slice Av (gs.map cGs).length cv) (.slice Au (ls.map cDl).length cu) gs ls hle hle2 hnm H hz σ h1 h0) (ps_cons (by first | exact gvo | exact gvd gvo (by omega)) (ps_cons (by first | exact gvo | exact gvd gvo (by omega)) no_ps)) rfl fun v14 => ?_
 refine Jq (q_move rfl) ?_
 refine Jq (q_ext0 rfl) ?_
 refine Jq (q_ext1 rfl) ?_
 refine Jq (q_assign rfl) ?_
 refine Jq (q_assign rfl) ?_
 refine L_then ?_
 refine C_seq ?_
 refine C_seq ?_
 refine C_region ?_
 refine Jq (q_move rfl) ?_
 refine Jq (q_false (q_neq rfl rfl) (by simp)) ?_
 refine L_then ?_
 refine C_false rfl ?_
 refine C_skip_then ?_
 refine C_seq ?_
 refine C_region ?_
 refine Jq (q_move rfl) ?_
 refine Jq (q_move rfl) ?_
 refine L_call tb rfl rfl (ct_profile_track_at v14 sf gs ls H σ h1 h0) (ps_cons (by first | exact gvo | exact gvd gvo (by omega)) no_ps) rfl ?_
 refine L_call tb rfl rfl (ct_profile_ratio_rounded (atR ls σ).1 (atR ls σ).2 (by omega)) no_ps rfl ?_
 rw [q3, q4]
 refine L_alloc tb rfl rfl fun g8 => ?_
 refine L_st tb rfl rfl ?_
 refine L_then ?_
 refine C_seq ?_
 refine C_seq ?_
 refine C_region ?_
 refine Jq (q_field tb rfl rfl rfl) ?_
 refine Jq (q_load tb rfl rfl bxo rfl) ?_
 refine Jq (q_field tb rfl rfl rfl) ?_
 refine Jq (q_load tb rfl rfl bxo rfl) ?_
 refine Jq (q_neq rfl rfl) ?_
 refine L_then ?_
 refine C_dec rfl (fun h29 => ?_) (fun h29 => ?_)
 refine C_seq ?_
 refine C_region ?_
 refine Jq (by first | exact q_build tb rfl rfl rfl rfl | exact q_buildArr tb rfl rfl rfl rfl rfl) ?_
 refine L_st tb rfl rfl ?_
 refine Jq (q_assign rfl) ?_
 refine L_then ?_
 refine C_ret ?_
 exact ret_of (rs' := []) (resCT tb rfl rfl rfl rfl bxo rfl) sub_nil (by intro r hr; cases hr) ⟨rfl, rfl⟩
 exfalso; first | exact hw h29 | exact h29 hw | omega
set_option maxRecDepth 100000 in
set_option maxHeartbeats 1000000 in
theorem ct_Before_yes (nm : ByteArray) (sf : Int) (v u : Value) (gs : List Gs) (ls : List Dl) (hle : gs.length ≤ 100000) (hle2 : ls.length ≤ 100000) (hnm : nm.size ≤ 1000000000000) (H : okPl sf gs ls) (hz : (ckPl nm sf gs ls).2 = 0) (σ : Nat) (h1 : (σ : Int) ≤ secAt ls ls.length) (h0 : 0 < ls.length) (hw : dpL ls σ = dpH ls σ) : Ct Try.prog 21 [.agg (cPl nm sf v u).toArray, .int .i64 (σ : Int)] [(v, 2, gs.map cGs), (u, 3, ls.map cDl)] (fun y rs => ∃ a b, y = .tuple #[.agg (cPl nm sf a b).toArray, .int .i64 0] ∧ rs = [sl b 82 3 ((bfL ls σ).map cDl), sl a 80 2 (gs.map cGs)]) := by
 refine Ct.of (N := 73) Try.func21 rfl rfl rfl fun w => ?_
 refine C_weak (E' := [(0, .agg (cPl nm sf v u).toArray), (1, .int .i64 (σ : Int))]) (rs' := [rd v 2 (gs.map cGs), rd u 3 (ls.map cDl)]) ⟨rfl, rfl, trivial⟩ (fun _ h => h) ?_
 refine C_form (v := v) gvo (fun Av cv hv _ => ?_)
 subst hv
 refine C_form (v := u) gvo (fun Au cu hu _ => ?_)
 subst hu
 have hl1 := len_map cGs gs
 have hl2 := len_map cDl ls
 obtain ⟨hk1, hk2, hk3⟩ := kAt_in H h0 h1
 obtain ⟨q1, q2, q3, q4⟩ := atR_spec H h0 h1
 have hel := dl_cell hk1
 have hll := H.ll; have hgl := H.gl; have hse := H.e (kAt ls σ) (by omega); have hse2 := H.e (kAt ls σ + 1) (by omega)
 have htk : (ls.take (kAt ls σ + 1)).length = kAt ls σ + 1 := by rw [List.length_take]; omega
 have htm : ((ls.take (kAt ls σ + 1)).map cDl).length = kAt ls σ + 1 := by rw [List.length_map]; exact htk
 have hpt := pt_cell (ls := ls) (k := ls.length) (i := kAt ls σ) (by omega)
 have hpl : ((ptsK ls ls.length).map cSw).length = ls.length + 1 := by rw [List.length_map, ptsK_len]
 refine C_seq ?_
 refine C_region ?_
 refine L_box rfl rfl rfl fun g2 => ?_
 refine L_alloc tb rfl rfl fun g4 => ?_
 refine Jq (q_assign rfl) ?_
 refine L_then ?_
 refine C_seq ?_
 refine C_region ?_
 refine Jq (q_loadA tb rfl rfl bxo rfl rfl) ?_
 refine Jq (q_move rfl) ?_
 refine L_callSN tb rfl rfl (ct_profile_followed nm sf (.slice Av (gs.map cGs).length cv) (.slice Au (ls.map cDl).length cu) gs ls hle hle2 hnm H hz σ h1 h0) (ps_cons (by first | exact gvo | exact gvd gvo (by omega)) (ps_cons (by first | exact gvo | exact gvd gvo (by omega)) no_ps)) rfl fun v14 => ?_
 refine Jq (q_move rfl) ?_
 refine Jq (q_ext0 rfl) ?_
 refine Jq (q_ext1 rfl) ?_
 refine Jq (q_assign rfl) ?_
 refine Jq (q_assign rfl) ?_
 refine L_then ?_
 refine C_seq ?_
 refine C_seq ?_
 refine C_region ?_
 refine Jq (q_move rfl) ?_
 refine Jq (q_false (q_neq rfl rfl) (by simp)) ?_
 refine L_then ?_
 refine C_false rfl ?_
 refine C_skip_then ?_
 refine C_seq ?_
 refine C_region ?_
 refine Jq (q_move rfl) ?_
 refine Jq (q_move rfl) ?_
 refine L_call tb rfl rfl (ct_profile_track_at v14 sf gs ls H σ h1 h0) (ps_cons (by first | exact gvo | exact gvd gvo (by omega)) no_ps) rfl ?_
 refine L_call tb rfl rfl (ct_profile_ratio_rounded (atR ls σ).1 (atR ls σ).2 (by omega)) no_ps rfl ?_
 rw [q3, q4]
 refine L_alloc tb rfl rfl fun g8 => ?_
 refine L_st tb rfl rfl ?_
 refine L_then ?_
 refine C_seq ?_
 refine C_seq ?_
 refine C_region ?_
 refine Jq (q_field tb rfl rfl rfl) ?_
 refine Jq (q_load tb rfl rfl bxo rfl) ?_
 refine Jq (q_field tb rfl rfl rfl) ?_
 refine Jq (q_load tb rfl rfl bxo rfl) ?_
 refine Jq (q_neq rfl rfl) ?_
 refine L_then ?_
 refine C_dec rfl (fun h29 => ?_) (fun h29 => ?_)
 exfalso; first | exact hw h29 | exact h29 hw | omega
 refine C_skip_then ?_
 refine C_seq ?_
 refine C_drawA1 tb (n := 9) (k := 8) [(0, false), (1, false), (2, false), (3, false), (4, false), (5, false), (6, true), (7, false)] mixed rfl rfl rfl (by kernel_rfl) rfl ?_
 refine Yq rfl (q_field tb rfl rfl rfl) ?_
 refine Yq rfl (q_load tb rfl rfl bxo rfl) ?_
 refine Yq rfl (q_field tb rfl rfl rfl) ?_
 refine Yq rfl (q_load tb rfl rfl bxo rfl) ?_
 refine Yq rfl (q_field tb rfl rfl rfl) ?_
 refine Yq rfl (q_load tb rfl rfl bxo rfl) ?_
 refine W_callSF tb rfl rfl rfl rfl (ct_Clone_cGs (.slice Av (gs.map cGs).length cv) gs hle) (ps_cons (by first | exact gvo | exact gvd gvo (by omega)) no_ps) rfl fun A37 n37 c37 => ?_
 refine Yq rfl (by first | exact q_build tb rfl rfl rfl rfl | exact q_buildArr tb rfl rfl rfl rfl rfl) ?_
 refine W_nil ?_
 intro g9
 refine L_st tb rfl rfl ?_
 refine L_then ?_
 refine C_seq ?_
 refine C_seq ?_
 refine C_region ?_
 refine Jq (q_move rfl) ?_
 refine Jq (q_gtr rfl rfl) ?_
 refine L_then ?_
 refine C_dec rfl (fun h40 => ?_) (fun h40 => ?_)
 refine C_seq ?_
 refine C_region ?_
 refine Jq (q_move rfl) ?_
 refine Jq (q_move rfl) ?_
 refine L_call tb rfl rfl (ct_profile_track_leg v14 sf gs ls H σ h1 h0) (ps_cons (by first | exact gvo | exact gvd gvo (by omega)) no_ps) rfl ?_
 refine Jq (q_assign rfl) ?_
 refine L_then ?_
 refine C_seq ?_
 refine C_region ?_
 refine Jq (q_field tb rfl rfl rfl) ?_
 refine Jq (q_load tb rfl rfl bxo rfl) ?_
 refine Jq (q_move rfl) ?_
 refine Jq (q_to tb rfl rfl rfl rfl (by first | exact gvo | exact gvd gvo (by omega)) (by omega) (by first | omega | (simp; done) | (simp; omega))) ?_
 refine L_callSF tb rfl rfl (ct_Clone_cDl (takeV (.slice Au (ls.map cDl).length cu) (kAt ls σ + 1)) (ls.take (kAt ls σ + 1)) (by omega)) (ps_cons (by rw [List.map_take]; exact gvt gvo (by omega)) no_ps) rfl fun A48 n48 c48 => ?_
 refine Jq (q_field tb rfl rfl rfl) ?_
 refine L_st tb rfl rfl ?_
 refine L_then ?_
 refine C_res (rs' := [sl (.slice A48 n48 c48) 82 3 ((ls.take (kAt ls σ + 1)).map cDl), box g9 25 (cPl nm sf (.slice A37 n37 c37) (.slice A48 n48 c48)), box g8 38 [.int .i64 (dpL ls σ), .int .i64 (dpH ls σ)], box g4 25 [.string ⟨#[]⟩, .int .i64 0, .slice none 0 0, .slice none 0 0], sl (.slice A37 n37 c37) 80 2 (gs.map cGs), sl v14 47 2 ((ptsK ls ls.length).map cSw), rd (.slice Av (gs.map cGs).length cv) 2 (gs.map cGs), rd (.slice Au (ls.map cDl).length cu) 3 (ls.map cDl)]) (fun _ h => h.pk (by repeat (first | with_reducible exact pk_nil | refine pk_box rfl ?_ | refine pk_rd rfl ?_ | refine pk_sl rfl ?_ | with_reducible refine pk_app ?_ | with_reducible refine pk_app0 ?_ | with_reducible refine pk_app0L ?_ | with_reducible exact pk_tl | refine pk_var ?_))) ?_
 refine Kp.C_treeOS (ι := Unit) (.q 0 (.q 1 (.q 2 (.q 3 (.q 4 (.q 5 (.q 6 (.q 7 (.q 8 (.q 9 (.q 10 (.q 11 (.q 12 (.q 13 (.q 14 (.q 15 (.q 16 (.q 17 (.s 18 (.s 19 (.s 20 (.s 21 (.s 22 (.s 23 .nil)))))))))))))))))))))))) (fun q => ([(4, .pointer (some ⟨g4, 0, none⟩)), (9, .pointer (some ⟨g9, 0, none⟩))], [sl (.slice A48 n48 c48) 82 3 ((bfL ls σ).map cDl), box g9 25 (cPl nm sf (.slice A37 n37 c37) (.slice A48 n48 c48)), box g4 25 [.string ⟨#[]⟩, .int .i64 0, .slice none 0 0, .slice none 0 0], sl (.slice A37 n37 c37) 80 2 (gs.map cGs)])) mixed (by kernel_rfl) rfl (by kernel_rfl) ?_ ?_
 refine Kp.Zq rfl (q_field tb rfl rfl rfl) ?_
 refine Kp.Zq rfl (q_load tb rfl rfl bxo rfl) ?_
 refine Kp.Zq rfl (q_move rfl) ?_
 refine Kp.Zq rfl (q_sub rfl rfl (by first | exact IntWalk.i64_in _ (by omega) | rfl)) ?_
 refine Kp.Zq rfl (q_field tb rfl rfl rfl) ?_
 refine Kp.Zq rfl (q_load tb rfl rfl bxo rfl) ?_
 refine Kp.Zq rfl (q_move rfl) ?_
 refine Kp.Zq rfl (q_sub rfl rfl (by first | exact IntWalk.i64_in _ (by omega) | rfl)) ?_
 refine Kp.Zq rfl (q_move rfl) ?_
 refine Kp.Zq rfl (q_move rfl) ?_
 refine Kp.Zq rfl (q_move rfl) ?_
 refine Kp.Zq rfl (q_sub rfl rfl (by first | exact IntWalk.i64_in _ (by omega) | rfl)) ?_
 refine Kp.Zq rfl (by first | exact q_index tb rfl rfl rfl rfl (by first | exact gvo | exact gvd gvo (by omega)) (by omega) (by first | omega | (simp; done) | (simp; omega)) | exact q_indexP tb rfl rfl rfl rfl (by omega) (by omega)) ?_
 refine Kp.Zq rfl (by first | exact q_field tb rfl rfl rfl | exact q_fieldE tb rfl rfl rfl (by first | exact gvo | exact gvd gvo (by omega)) (by first | omega | (simp; done) | (simp; omega))) ?_
 refine Kp.Zq rfl (by first | exact q_load tb rfl rfl bxo rfl | exact q_loadE tb rfl rfl (by first | exact gvo | exact gvd gvo (by omega)) (i := kAt ls σ) (o := 0) (by omega) hpt rfl) ?_
 refine Kp.Zq rfl (q_sub rfl rfl (by first | exact IntWalk.i64_in _ (by omega) | rfl)) ?_
 refine Kp.Zq rfl (q_field tb rfl rfl rfl) ?_
 refine Kp.Zq rfl (q_load tb rfl rfl bxo rfl) ?_
 refine Kp.Z_s ?_
 refine Kp.Sq rfl (by first | exact q_index tb rfl rfl rfl rfl (by first | exact gvo | exact gs0 | exact gv1 gs0) (by omega) (by first | omega | (simp; done) | (simp; omega)) | exact q_indexP tb rfl rfl rfl rfl (by omega) (by omega)) ?_
 refine Kp.Z_s ?_
 refine Kp.Sq rfl (q_fieldE tb rfl rfl rfl (by first | exact gvo | exact gs0 | exact gv1 gs0) (by first | omega | (simp; done) | (simp; omega))) ?_
 refine Kp.Z_s ?_
 first | refine Kp.St_storeFld tb rfl rfl (List.Perm.refl _) rfl rfl rfl rfl rfl rfl (of := 0) (i := kAt ls σ) (take_cell hk1) (by omega) (by omega) ?_ | refine Kp.St_storeFld tb rfl rfl perm1 rfl rfl rfl rfl rfl rfl (of := 0) (i := kAt ls σ) (take_cell hk1) (by omega) (by omega) ?_ | refine Kp.St_storeFld tb rfl rfl Kp.perm2 rfl rfl rfl rfl rfl rfl (of := 0) (i := kAt ls σ) (take_cell hk1) (by omega) (by omega) ?_ | refine Kp.St_storeFld tb rfl rfl Kp.perm3 rfl rfl rfl rfl rfl rfl (of := 0) (i := kAt ls σ) (take_cell hk1) (by omega) (by omega) ?_ | refine Kp.St_storeFld tb rfl rfl (perm_front (pre := [_, _])) rfl rfl rfl rfl rfl rfl (of := 0) (i := kAt ls σ) (take_cell hk1) (by omega) (by omega) ?_ | refine Kp.St_storeFld tb rfl rfl (perm_front (pre := [_, _, _])) rfl rfl rfl rfl rfl rfl (of := 0) (i := kAt ls σ) (take_cell hk1) (by omega) (by omega) ?_ | refine Kp.St_storeFld tb rfl rfl (perm_front (pre := [_, _, _, _])) rfl rfl rfl rfl rfl rfl (of := 0) (i := kAt ls σ) (take_cell hk1) (by omega) (by omega) ?_
 refine Kp.Z_s ?_
 refine Kp.Sq rfl (by first | exact q_index tb rfl rfl rfl rfl (by first | exact gvo | exact gs0 | exact gv1 gs0) (by omega) (by first | omega | (simp; done) | (simp; omega)) | exact q_indexP tb rfl rfl rfl rfl (by omega) (by omega)) ?_
 refine Kp.Z_s ?_
 refine Kp.Sq rfl (q_fieldE tb rfl rfl rfl (by first | exact gvo | exact gs0 | exact gv1 gs0) (by first | omega | (simp; done) | (simp; omega))) ?_
 refine Kp.Z_s ?_
 first | refine Kp.St_storeFld tb rfl rfl (List.Perm.refl _) rfl rfl rfl rfl rfl rfl (of := 1) (i := kAt ls σ) (by rw [List.getElem?_set_self (by omega)]) (by omega) (by omega) ?_ | refine Kp.St_storeFld tb rfl rfl perm1 rfl rfl rfl rfl rfl rfl (of := 1) (i := kAt ls σ) (by rw [List.getElem?_set_self (by omega)]) (by omega) (by omega) ?_ | refine Kp.St_storeFld tb rfl rfl Kp.perm2 rfl rfl rfl rfl rfl rfl (of := 1) (i := kAt ls σ) (by rw [List.getElem?_set_self (by omega)]) (by omega) (by omega) ?_ | refine Kp.St_storeFld tb rfl rfl Kp.perm3 rfl rfl rfl rfl rfl rfl (of := 1) (i := kAt ls σ) (by rw [List.getElem?_set_self (by omega)]) (by omega) (by omega) ?_ | refine Kp.St_storeFld tb rfl rfl (perm_front (pre := [_, _])) rfl rfl rfl rfl rfl rfl (of := 1) (i := kAt ls σ) (by rw [List.getElem?_set_self (by omega)]) (by omega) (by omega) ?_ | refine Kp.St_storeFld tb rfl rfl (perm_front (pre := [_, _, _])) rfl rfl rfl rfl rfl rfl (of := 1) (i := kAt ls σ) (by rw [List.getElem?_set_self (by omega)]) (by omega) (by omega) ?_ | refine Kp.St_storeFld tb rfl rfl (perm_front (pre := [_, _, _, _])) rfl rfl rfl rfl rfl rfl (of := 1) (i := kAt ls σ) (by rw [List.getElem?_set_self (by omega)]) (by omega) (by omega) ?_
 refine Kp.Z_nil ?_
 try dsimp only [List.append, List.cons_append, List.nil_append]
 exact ⟨(), fun a_ w_ hs_ => hs_.weak ⟨rfl, rfl, trivial⟩ (fun h => h.pk (by repeat (first | with_reducible exact pk_nil | refine pk_box (by first | rfl | exact (bf_cells2 hk1 (by omega))) ?_ | refine pk_rd rfl ?_ | refine pk_sl (by first | rfl | exact (bf_cells2 hk1 (by omega))) ?_ | with_reducible refine pk_app ?_ | with_reducible refine pk_app0 ?_ | with_reducible refine pk_app0L ?_ | with_reducible exact pk_tl | refine pk_var ?_)))⟩
 (intro _; dsimp only)
 refine L_then ?_
 refine C_seq ?_
 refine C_region ?_
 refine Jq (q_loadA tb rfl rfl bxo rfl rfl) ?_
 refine L_st tb rfl rfl ?_
 refine Jq (q_assign rfl) ?_
 refine L_then ?_
 refine C_ret ?_
 exact ret_of (rs' := [sl (.slice A48 n48 c48) 82 3 ((bfL ls σ).map cDl), sl (.slice A37 n37 c37) 80 2 (gs.map cGs)]) (resCT tb rfl rfl rfl rfl bxo rfl) (fun w_ h_ => h_.pk (by repeat (first | with_reducible exact pk_nil | refine pk_box (by first | rfl | exact bf_cells2 hk1 (by omega)) ?_ | refine pk_rd rfl ?_ | refine pk_sl (by first | rfl | exact bf_cells2 hk1 (by omega)) ?_ | with_reducible refine pk_app ?_ | with_reducible refine pk_app0 ?_ | with_reducible refine pk_app0L ?_ | with_reducible exact pk_tl | refine pk_var ?_))) (by intro r hr; simp only [List.mem_cons, List.not_mem_nil, or_false] at hr; rcases hr with rfl | rfl <;> exact sl_own _ _ _ _) ⟨_, _, rfl, rfl⟩
 refine C_skip_then ?_
 refine C_seq ?_
 refine C_region ?_
 refine Jq (q_loadA tb rfl rfl bxo rfl rfl) ?_
 refine L_st tb rfl rfl ?_
 refine Jq (q_assign rfl) ?_
 refine L_then ?_
 refine C_ret ?_
 exact ret_of (rs' := [sl (.slice none 0 0) 82 3 ((bfL ls σ).map cDl), sl (.slice A37 n37 c37) 80 2 (gs.map cGs)]) (resCT tb rfl rfl rfl rfl bxo rfl) (fun w_ h_ => by rw [bfL_0 (by omega)]; exact ws_nil (h_.pk (by repeat (first | with_reducible exact pk_nil | refine pk_box rfl ?_ | refine pk_rd rfl ?_ | refine pk_sl rfl ?_ | with_reducible refine pk_app ?_ | with_reducible refine pk_app0 ?_ | with_reducible refine pk_app0L ?_ | with_reducible exact pk_tl | refine pk_var ?_)))) (by intro r hr; simp only [List.mem_cons, List.not_mem_nil, or_false] at hr; rcases hr with rfl | rfl <;> exact sl_own _ _ _ _) ⟨_, _, rfl, rfl⟩
end Go.Proofs.Ytdmnejfpbbmcaaa
