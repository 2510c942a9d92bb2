/-
  Walks: each function named returns what its model says. Conditions: those in front of each theorem.
-/
import Derived.Test.YtdmnejfpbbmcaaaPN
namespace Go.Proofs.Ytdmnejfpbbmcaaa
open Go.RowKit

set_option maxRecDepth 100000 in
set_option maxHeartbeats 1000000 in
theorem ct_profile_Normal (nm : ByteArray) (sf : Int) (v u : Value) (gs : List Gs) (ls : List Dl) (hle : gs.length ≤ 100000) (hle2 : ls.length ≤ 100000) (hnm : nm.size ≤ 1000000000000) (H : okPl sf gs ls) (hz : (ckPl nm sf gs ls).2 = 0) : Ct Try.prog 9 [.agg (cPl nm sf v u).toArray] [(v, 2, gs.map cGs), (u, 3, ls.map cDl)] (fun y rs => ∃ (A B : Option Addr) (n c m d : Nat), y = .tuple #[.agg (cPl nm sf (.slice A n c) (.slice B m d)).toArray, .int .i64 0] ∧ rs = [sl (.slice B m d) 82 3 ((nfL gs ls).map cDl), sl (.slice A n c) 80 2 ((nfG gs ls).map cGs)]) := by
 refine Ct.of (N := 14) Try.func9 rfl rfl rfl fun w => ?_
 refine C_weak (E' := [(0, .agg (cPl nm sf v u).toArray)]) (rs' := [rd v 2 (gs.map cGs), rd u 3 (ls.map cDl)]) ⟨rfl, trivial⟩ (fun _ h => h) ?_
 refine C_form (v := v) gvo (fun Av cv hv _ => ?_)
 subst hv
 refine C_form (v := u) gvo (fun Au cu hu _ => ?_)
 subst hu
 have hl1 := len_map cGs gs
 have hl2 := len_map cDl ls
 have hll := H.ll; have hgl := H.gl
 refine C_seq ?_
 refine C_region ?_
 refine L_box rfl rfl rfl fun g1 => ?_
 refine L_alloc tb rfl rfl fun g2 => ?_
 refine Jq (q_assign rfl) ?_
 refine L_then ?_
 refine C_seq ?_
 refine C_seq ?_
 refine C_region ?_
 refine Jq (q_loadA tb rfl rfl bxo rfl rfl) ?_
 refine L_mk (lo_bslice tb rfl rfl rfl (xs := [cPl nm sf (.slice Av (gs.map cGs).length cv) (.slice Au (ls.map cDl).length cu)]) rfl rfl (by simp [cPl]) rfl (by omega) rfl) rfl rfl rfl fun v6 => ?_
 refine L_call tb rfl rfl (ct_profile_check v6 nm sf (.slice Av (gs.map cGs).length cv) (.slice Au (ls.map cDl).length cu) gs ls hle hle2 hnm) (ps_cons gvo (ps_cons gvo (ps_cons gvo no_ps))) rfl ?_
 refine Jq (q_assign rfl) ?_
 refine L_then ?_
 refine C_seq ?_
 refine C_region ?_
 refine Jq (q_move rfl) ?_
 refine Jq (q_neq rfl rfl) ?_
 refine L_then ?_
 refine C_dec rfl (fun h1z => ?_) (fun h1z => ?_)
 exact absurd hz h1z
 refine C_skip_then ?_
 refine C_seq ?_
 refine C_region ?_
 refine Jq (q_loadA tb rfl rfl bxo rfl rfl) ?_
 refine L_lo rfl rfl rfl (lo_call tb rfl rfl (ct_profile_normal nm sf (.slice Av (gs.map cGs).length cv) (.slice Au (ls.map cDl).length cu) gs ls H) (ps_cons gvo (ps_cons gvo no_ps)) (by rintro y rs ⟨_, _, _, _, _, _, _, rfl⟩ r hr; simp only [List.mem_cons, List.not_mem_nil, or_false] at hr; rcases hr with rfl | rfl <;> exact sl_sinks _ _ _ _)) ?_
 rintro _ _ ⟨A13, B13, n13, c13, m13, d13, rfl, rfl⟩
 refine L_st tb rfl rfl ?_
 refine Jq (q_assign rfl) ?_
 refine L_then ?_
 refine C_ret ?_
 exact ret_of (rs' := [sl (.slice B13 m13 d13) 82 3 ((nfL gs ls).map cDl), sl (.slice A13 n13 c13) 80 2 ((nfG gs ls).map cGs)]) (resCT tb rfl rfl rfl rfl bxo rfl) (fun w_ h_ => h_.pk (by repeat (first | with_reducible exact pk_nil | refine pk_box rfl ?_ | refine pk_rd rfl ?_ | refine pk_sl rfl ?_ | with_reducible refine pk_app ?_ | with_reducible refine pk_app0 ?_ | with_reducible refine pk_app0L ?_ | with_reducible exact pk_tl | refine pk_var ?_))) (by intro r hr; simp only [List.mem_cons, List.not_mem_nil, or_false] at hr; rcases hr with rfl | rfl <;> exact sl_own _ _ _ _) ⟨A13, B13, n13, c13, m13, d13, rfl, rfl⟩
end Go.Proofs.Ytdmnejfpbbmcaaa
