/-
  Walks: each function named returns what its model says. Conditions: those in front of each theorem.
-/
import Derived.Test.YtdmnejfpbbmcaaaPE
import Derived.Test.YtdmnejfpbbmcaaaYC
namespace Go.Proofs.Ytdmnejfpbbmcaaa
open Go.RowKit

set_option maxRecDepth 100000 in
set_option maxHeartbeats 1000000 in
theorem ct_slices_Concat_shotline_api_DiveLeg_shotline_api_DiveLeg (z u u2 : Value) (l1 l2 : List Dl) (h : l1.length + l2.length ≤ 100000) : Ct Try.prog 60 [z] [(z, 1, [[u], [u2]]), (u, 3, l1.map cDl), (u2, 3, l2.map cDl)] (isSl 82 3 ((l1 ++ l2).map cDl)) := by
 refine Ct.of (N := 36) Try.func60 rfl rfl rfl fun w => ?_
 refine C_weak (E' := [(0, z)]) (rs' := [rd z 1 ([[u], [u2]]), rd u 3 (l1.map cDl), rd u2 3 (l2.map cDl)]) ⟨rfl, trivial⟩ (fun _ h => h) ?_
 have hl1 := len_map cDl l1; have hl2 := len_map cDl l2
 have c0 : ccN l1 l2 0 = 0 := rfl; have c1 : ccN l1 l2 1 = l1.length := rfl; have c2 : ccN l1 l2 2 = l1.length + l2.length := rfl
 have d0 : (ccL l1 l2 0).length = 0 := rfl; have d1 : (ccL l1 l2 1).length = l1.length := rfl
 have e1 : (ccL l1 l2 0).map cDl ++ l1.map cDl = (ccL l1 l2 1).map cDl := rfl
 have e2 : (ccL l1 l2 1).map cDl ++ l2.map cDl = (ccL l1 l2 2).map cDl := List.map_append.symm
 refine C_seq ?_
 refine C_region ?_
 refine Jq (q_assign rfl) ?_
 refine L_then ?_
 refine C_seq ?_
 refine C_region ?_
 refine Jq (q_assign rfl) ?_
 refine L_then ?_
 refine C_seq ?_
 refine C_seq ?_
 refine C_region ?_
 refine Jq (q_move rfl) ?_
 refine Jq (q_len tb rfl rfl gvo) ?_
 refine Jq (q_move rfl) ?_
 refine L_then ?_
 refine C_block ?_
 refine C_loop (ι := Nat) (fun k => ([(0, z), (3, .int .i64 (ccN l1 l2 k : Int)), (9, z), (10, .int .i64 2), (11, .int .i64 (k : Int))], [rd z 1 [[u], [u2]], rd u 3 (l1.map cDl), rd u2 3 (l2.map cDl)])) (fun k => k ≤ 2) (fun k => 2 - k) 0 (Nat.zero_le _) (fun a w hs => hs.weak ⟨rfl, rfl, rfl, rfl, rfl, trivial⟩ (fun h => h.pk (by repeat (first | with_reducible exact pk_nil | refine pk_box rfl ?_ | refine pk_rd rfl ?_ | refine pk_sl rfl ?_ | with_reducible refine pk_app ?_ | with_reducible refine pk_app0 ?_ | with_reducible refine pk_app0L ?_ | with_reducible exact pk_tl | refine pk_var ?_)))) ?_
 intro k hk9
 dsimp only at hk9 ⊢
 refine C_seq ?_
 refine C_region ?_
 refine Jq (q_lss rfl rfl) ?_
 refine L_then ?_
 refine C_seq ?_
 refine C_dec rfl (fun h1 => ?_) (fun h1 => ?_)
 obtain rfl | rfl : k = 0 ∨ k = 1 := by omega
 refine C_skip_then ?_
 refine C_seq ?_
 refine C_block ?_
 refine C_seq ?_
 refine C_region ?_
 refine Jq (by first | exact q_index tb rfl rfl rfl rfl gvo (by omega) (by first | omega | (simp; done) | (simp; omega)) | exact q_indexP tb rfl rfl rfl rfl (by omega) (by omega)) ?_
 refine Jq (q_loadE tb rfl rfl gvo (i := 0) (o := 0) (by omega) rfl rfl) ?_
 refine Jq (q_assign rfl) ?_
 refine L_then ?_
 refine C_seq ?_
 refine C_region ?_
 refine Jq (q_move rfl) ?_
 refine Jq (q_move rfl) ?_
 refine Jq (q_len tb rfl rfl gvo) ?_
 refine Jq (q_add rfl rfl (by first | exact IntWalk.i64_in _ (by omega) | rfl)) ?_
 refine Jq (q_assign rfl) ?_
 refine L_then ?_
 refine C_seq ?_
 refine C_region ?_
 refine Jq (q_move rfl) ?_
 refine Jq (q_lss rfl rfl) ?_
 refine L_then ?_
 refine C_dec rfl (fun h2 => ?_) (fun h2 => ?_)
 exfalso; omega
 refine C_skip_blk ?_
 refine C_region ?_
 refine Jq (q_add rfl rfl (by first | exact IntWalk.i64_in _ (by omega) | rfl)) ?_
 refine Jq (q_move rfl) ?_
 refine L_end ?_
 exact fun ac_ wo_ hs_ => ⟨1, (by dsimp only; omega), (by dsimp only; omega), hs_.weak ⟨rfl, en (by omega), rfl, rfl, rfl, trivial⟩ (fun h => h.pk (by repeat (first | with_reducible exact pk_nil | refine pk_box rfl ?_ | refine pk_rd rfl ?_ | refine pk_sl rfl ?_ | with_reducible refine pk_app ?_ | with_reducible refine pk_app0 ?_ | with_reducible refine pk_app0L ?_ | with_reducible exact pk_tl | refine pk_var ?_)))⟩
 refine C_skip_then ?_
 refine C_seq ?_
 refine C_block ?_
 refine C_seq ?_
 refine C_region ?_
 refine Jq (by first | exact q_index tb rfl rfl rfl rfl gvo (by omega) (by first | omega | (simp; done) | (simp; omega)) | exact q_indexP tb rfl rfl rfl rfl (by omega) (by omega)) ?_
 refine Jq (q_loadE tb rfl rfl gvo (i := 1) (o := 0) (by omega) rfl rfl) ?_
 refine Jq (q_assign rfl) ?_
 refine L_then ?_
 refine C_seq ?_
 refine C_region ?_
 refine Jq (q_move rfl) ?_
 refine Jq (q_move rfl) ?_
 refine Jq (q_len tb rfl rfl gvo) ?_
 refine Jq (q_add rfl rfl (by first | exact IntWalk.i64_in _ (by omega) | rfl)) ?_
 refine Jq (q_assign rfl) ?_
 refine L_then ?_
 refine C_seq ?_
 refine C_region ?_
 refine Jq (q_move rfl) ?_
 refine Jq (q_lss rfl rfl) ?_
 refine L_then ?_
 refine C_dec rfl (fun h3 => ?_) (fun h3 => ?_)
 exfalso; omega
 refine C_skip_blk ?_
 refine C_region ?_
 refine Jq (q_add rfl rfl (by first | exact IntWalk.i64_in _ (by omega) | rfl)) ?_
 refine Jq (q_move rfl) ?_
 refine L_end ?_
 exact fun ac_ wo_ hs_ => ⟨2, (by dsimp only; omega), (by dsimp only; omega), hs_.weak ⟨rfl, en (by omega), rfl, rfl, rfl, trivial⟩ (fun h => h.pk (by repeat (first | with_reducible exact pk_nil | refine pk_box rfl ?_ | refine pk_rd rfl ?_ | refine pk_sl rfl ?_ | with_reducible refine pk_app ?_ | with_reducible refine pk_app0 ?_ | with_reducible refine pk_app0L ?_ | with_reducible exact pk_tl | refine pk_var ?_)))⟩
 obtain rfl : k = 2 := by omega
 refine C_exit ?_
 change C Try.prog _ _ _ _ _ _ _
 refine C_seq ?_
 refine C_region ?_
 refine Jq (q_move rfl) ?_
 refine L_lo rfl rfl rfl (lo_call tb rfl rfl (ct_slices_Grow_shotline_api_DiveLeg_shotline_api_DiveLeg (ccN l1 l2 2) (by omega)) no_ps (by rintro y rs ⟨rfl, _⟩ r hr; rw [List.mem_singleton.1 hr]; exact sl_sinks _ _ _ _)) ?_
 rintro _ _ ⟨rfl, A24, n24, c24, rfl⟩
 refine Jq (q_assign rfl) ?_
 refine L_then ?_
 refine C_seq ?_
 refine C_seq ?_
 refine C_region ?_
 refine Jq (q_move rfl) ?_
 refine Jq (q_len tb rfl rfl gvo) ?_
 refine Jq (q_move rfl) ?_
 refine L_then ?_
 refine C_block ?_
 refine C_loop (ι := Nat × Value) (fun q => ([(6, q.2), (25, z), (26, .int .i64 2), (27, .int .i64 (q.1 : Int))], [sl q.2 82 3 ((ccL l1 l2 q.1).map cDl), rd z 1 [[u], [u2]], rd u 3 (l1.map cDl), rd u2 3 (l2.map cDl)])) (fun q => q.1 ≤ 2) (fun q => 2 - q.1) (0, .slice A24 n24 c24) (Nat.zero_le _) (fun a w hs => hs.weak ⟨rfl, rfl, rfl, rfl, trivial⟩ (fun h => h.pk (by repeat (first | with_reducible exact pk_nil | refine pk_box rfl ?_ | refine pk_rd rfl ?_ | refine pk_sl rfl ?_ | with_reducible refine pk_app ?_ | with_reducible refine pk_app0 ?_ | with_reducible refine pk_app0L ?_ | with_reducible exact pk_tl | refine pk_var ?_)))) ?_
 rintro ⟨k, y⟩ hk9
 dsimp only at hk9 ⊢
 refine C_seq ?_
 refine C_region ?_
 refine Jq (q_lss rfl rfl) ?_
 refine L_then ?_
 refine C_seq ?_
 refine C_dec rfl (fun h4 => ?_) (fun h4 => ?_)
 obtain rfl | rfl : k = 0 ∨ k = 1 := by omega
 refine C_skip_then ?_
 refine C_seq ?_
 refine C_block ?_
 refine C_seq ?_
 refine C_region ?_
 refine Jq (by first | exact q_index tb rfl rfl rfl rfl gvo (by omega) (by first | omega | (simp; done) | (simp; omega)) | exact q_indexP tb rfl rfl rfl rfl (by omega) (by omega)) ?_
 refine Jq (q_loadE tb rfl rfl gvo (i := 0) (o := 0) (by omega) rfl rfl) ?_
 refine Jq (q_assign rfl) ?_
 refine L_then ?_
 refine C_region ?_
 refine Jq (q_move rfl) ?_
 refine Jq (q_move rfl) ?_
 refine L_ap tb rfl rfl rfl rfl gvo (by first | exact oneDl l1 | exact oneDl l2) (by simp only [List.length_map, maxLen]; omega) (by simp only [List.length_map]; omega) fun v33 => ?_
 refine Jq (q_assign rfl) ?_
 refine L_blk ?_
 refine C_region ?_
 refine Jq (q_add rfl rfl (by first | exact IntWalk.i64_in _ (by omega) | rfl)) ?_
 refine Jq (q_move rfl) ?_
 refine L_end ?_
 exact fun ac_ wo_ hs_ => ⟨(1, v33), (by dsimp only; omega), (by dsimp only; omega), hs_.weak ⟨rfl, rfl, rfl, rfl, trivial⟩ (fun h => h.pk (pk_sl e1 (pk_rd rfl (pk_rd rfl (pk_rd rfl pk_nil)))))⟩
 refine C_skip_then ?_
 refine C_seq ?_
 refine C_block ?_
 refine C_seq ?_
 refine C_region ?_
 refine Jq (by first | exact q_index tb rfl rfl rfl rfl gvo (by omega) (by first | omega | (simp; done) | (simp; omega)) | exact q_indexP tb rfl rfl rfl rfl (by omega) (by omega)) ?_
 refine Jq (q_loadE tb rfl rfl gvo (i := 1) (o := 0) (by omega) rfl rfl) ?_
 refine Jq (q_assign rfl) ?_
 refine L_then ?_
 refine C_region ?_
 refine Jq (q_move rfl) ?_
 refine Jq (q_move rfl) ?_
 refine L_ap tb rfl rfl rfl rfl gvo (by first | exact oneDl l1 | exact oneDl l2) (by simp only [List.length_map, maxLen]; omega) (by simp only [List.length_map]; omega) fun v33 => ?_
 refine Jq (q_assign rfl) ?_
 refine L_blk ?_
 refine C_region ?_
 refine Jq (q_add rfl rfl (by first | exact IntWalk.i64_in _ (by omega) | rfl)) ?_
 refine Jq (q_move rfl) ?_
 refine L_end ?_
 exact fun ac_ wo_ hs_ => ⟨(2, v33), (by dsimp only; omega), (by dsimp only; omega), hs_.weak ⟨rfl, rfl, rfl, rfl, trivial⟩ (fun h => h.pk (pk_sl e2 (pk_rd rfl (pk_rd rfl (pk_rd rfl pk_nil)))))⟩
 obtain rfl : k = 2 := by omega
 refine C_exit ?_
 change C Try.prog _ _ _ _ _ _ _
 refine C_seq ?_
 refine C_region ?_
 refine Jq (q_move rfl) ?_
 refine Jq (q_assign rfl) ?_
 refine L_then ?_
 refine C_ret ?_
 exact ret_of (rs' := [sl y 82 3 ((l1 ++ l2).map cDl)]) (res1 rfl rfl) (fun w_ h_ => h_.pk (pk_sl rfl pk_nil)) own1 rfl
set_option maxRecDepth 100000 in
set_option maxHeartbeats 2000000 in
theorem ct_profile_Extended (nm : ByteArray) (sf : Int) (v u : Value) (gs : List Gs) (ls : List Dl) (x : Value) (l2 : List Dl) (hle : gs.length ≤ 100000) (hle2 : ls.length ≤ 100000) (hle3 : (ls ++ l2).length ≤ 100000) (hnm : nm.size ≤ 1000000000000) (hz : (ckPl nm sf gs ls).2 = 0) (hz2 : (ckPl nm sf gs (ls ++ l2)).2 = 0) : Ct Try.prog 23 [.agg (cPl nm sf v u).toArray, x] [(v, 2, gs.map cGs), (u, 3, ls.map cDl), (x, 3, l2.map cDl)] (fun y rs => ∃ (A B : Option Addr) (n c m d : Nat), y = .tuple #[.agg (cPl nm sf (.slice A n c) (.slice B m d)).toArray, .int .i64 0] ∧ rs = [sl (.slice B m d) 82 3 ((ls ++ l2).map cDl), sl (.slice A n c) 80 2 (gs.map cGs)]) := by
 refine Ct.of (N := 30) Try.func23 rfl rfl rfl fun w => ?_
 refine C_weak (E' := [(0, .agg (cPl nm sf v u).toArray), (1, x)]) (rs' := [rd v 2 (gs.map cGs), rd u 3 (ls.map cDl), rd x 3 (l2.map cDl)]) ⟨rfl, rfl, trivial⟩ (fun _ h => h) ?_
 refine C_form (v := v) gvo (fun Av cv hv _ => ?_)
 subst hv
 refine C_form (v := u) gvo (fun Au cu hu _ => ?_)
 subst hu
 refine C_form (v := x) gvo (fun Ax cx hx _ => ?_)
 subst hx
 have hl1 := len_map cGs gs
 have hl2 := len_map cDl ls
 have hl3 := len_map cDl l2
 have hla : (ls ++ l2).length = ls.length + l2.length := List.length_append
 refine C_seq ?_
 refine C_region ?_
 refine L_box rfl rfl rfl fun g2 => ?_
 refine L_alloc tb rfl rfl fun g4 => ?_
 refine Jq (q_assign rfl) ?_
 refine L_then ?_
 refine C_seq ?_
 refine Kp.C_treeO0 (ι := Nat × Option Addr × Nat × Option Addr × Nat) (.q 0 (.q 1 (.q 2 (.q 3 (.q 4 (.q 5 (.q 7 (.q 8 (.q 9 (.s3 6 10 13 (.s2 10 13 (.s2 11 13 (.q 12 (.s 13 (.s 14 .nil))) (.s 11 (.q 12 (.s 14 .nil)))) (.s 10 (.s 11 (.q 12 (.s 14 .nil))))) (.s2 6 13 (.s2 11 13 (.q 12 (.s 13 (.s 14 .nil))) (.s 11 (.q 12 (.s 14 .nil)))) (.s 6 (.s 11 (.q 12 (.s 14 .nil))))) (.s2 6 10 (.s 10 (.s 11 (.q 12 (.s 14 .nil)))) (.s 6 (.s 11 (.q 12 (.s 14 .nil))))))))))))))) (fun q => ([(2, .pointer (some ⟨g2, 0, none⟩)), (4, .pointer (some ⟨g4, 0, none⟩)), (6, .pointer (some ⟨q.1, 0, none⟩))], [box q.1 25 (cPl nm sf (.slice q.2.1 (gs.map cGs).length q.2.2.1) (.slice q.2.2.2.1 ((ls ++ l2).map cDl).length q.2.2.2.2)), sl (.slice q.2.2.2.1 ((ls ++ l2).map cDl).length q.2.2.2.2) 82 3 ((ls ++ l2).map cDl), sl (.slice q.2.1 (gs.map cGs).length q.2.2.1) 80 2 (gs.map cGs), box g4 25 [.string ⟨#[]⟩, .int .i64 0, .slice none 0 0, .slice none 0 0], box g2 25 (cPl nm sf (.slice Av (gs.map cGs).length cv) (.slice Au (ls.map cDl).length cu)), rd (.slice Av (gs.map cGs).length cv) 2 (gs.map cGs), rd (.slice Au (ls.map cDl).length cu) 3 (ls.map cDl), rd (.slice Ax (l2.map cDl).length cx) 3 (l2.map cDl)])) mixed (by kernel_rfl) rfl (by kernel_rfl) ?_ ?_
 refine Kp.Zq rfl (q_field tb rfl rfl rfl) ?_
 refine Kp.Zq rfl (q_load tb rfl rfl bxo rfl) ?_
 refine Kp.Zq rfl (q_field tb rfl rfl rfl) ?_
 refine Kp.Zq rfl (q_load tb rfl rfl bxo rfl) ?_
 refine Kp.Zq rfl (q_field tb rfl rfl rfl) ?_
 refine Kp.Zq rfl (q_load tb rfl rfl bxo rfl) ?_
 refine Kp.Zq rfl (q_field tb rfl rfl rfl) ?_
 refine Kp.Zq rfl (q_load tb rfl rfl bxo rfl) ?_
 refine Kp.Zq rfl (q_move rfl) ?_
 refine Kp.Z_s3 ?_ ?_ ?_
 refine Kp.St_mkF rfl rfl rfl rfl (lo_call tb rfl rfl (ct_Clone_cGs (.slice Av (gs.map cGs).length cv) gs hle) (ps_cons gvo no_ps) isSl_sinks) fun A14 c14 => ?_
 refine Kp.Z_s2 ?_ ?_
 refine Kp.St_mk rfl rfl rfl rfl (lo_bslice tb rfl rfl rfl (xs := [[(.slice Au (ls.map cDl).length cu)], [(.slice Ax (l2.map cDl).length cx)]]) rfl rfl (by simp) rfl (by omega) rfl) fun v18 => ?_
 refine Kp.Z_s2 ?_ ?_
 refine Kp.St_mkF rfl rfl rfl rfl (lo_call tb rfl rfl (ct_slices_Concat_shotline_api_DiveLeg_shotline_api_DiveLeg v18 (.slice Au (ls.map cDl).length cu) (.slice Ax (l2.map cDl).length cx) ls l2 (by omega)) (ps_cons gvo (ps_cons gvo (ps_cons gvo no_ps))) isSl_sinks) fun A19 c19 => ?_
 refine Kp.Zq rfl (by first | exact q_build tb rfl rfl rfl rfl | exact q_buildArr tb rfl rfl rfl rfl rfl) ?_
 refine Kp.Z_s ?_
 refine Kp.St_alloc tb rfl rfl rfl rfl fun g6 => ?_
 refine Kp.Z_s ?_
 first | refine Kp.St_store tb rfl rfl (List.Perm.refl _) rfl rfl rfl rfl rfl rfl rfl rfl ?_ | refine Kp.St_store tb rfl rfl perm1 rfl rfl rfl rfl rfl rfl rfl rfl ?_ | refine Kp.St_store tb rfl rfl Kp.perm2 rfl rfl rfl rfl rfl rfl rfl rfl ?_ | refine Kp.St_store tb rfl rfl Kp.perm3 rfl rfl rfl rfl rfl rfl rfl rfl ?_ | refine Kp.St_store tb rfl rfl (perm_front (pre := [_, _])) rfl rfl rfl rfl rfl rfl rfl rfl ?_ | refine Kp.St_store tb rfl rfl (perm_front (pre := [_, _, _])) rfl rfl rfl rfl rfl rfl rfl rfl ?_ | refine Kp.St_store tb rfl rfl (perm_front (pre := [_, _, _, _])) rfl rfl rfl rfl rfl rfl rfl rfl ?_
 refine Kp.Z_nil ?_
 try dsimp only [List.append, List.cons_append, List.nil_append]
 exact ⟨(g6, A14, c14, A19, c19), fun a_ w_ hs_ => hs_.weak ⟨rfl, rfl, rfl, trivial⟩ (fun h_ => h_.pk (pk_box rfl (pk_sl rfl (pk_sl rfl (pk_box rfl (pk_box rfl (pk_rd rfl (pk_rd rfl (pk_rd rfl pk_nil)))))))))⟩
 refine Kp.St_alloc tb rfl rfl rfl rfl fun g6 => ?_
 refine Kp.Z_s ?_
 refine Kp.St_mkF rfl rfl rfl rfl (lo_call tb rfl rfl (ct_slices_Concat_shotline_api_DiveLeg_shotline_api_DiveLeg v18 (.slice Au (ls.map cDl).length cu) (.slice Ax (l2.map cDl).length cx) ls l2 (by omega)) (ps_cons gvo (ps_cons gvo (ps_cons gvo no_ps))) isSl_sinks) fun A19 c19 => ?_
 refine Kp.Zq rfl (by first | exact q_build tb rfl rfl rfl rfl | exact q_buildArr tb rfl rfl rfl rfl rfl) ?_
 refine Kp.Z_s ?_
 first | refine Kp.St_store tb rfl rfl (List.Perm.refl _) rfl rfl rfl rfl rfl rfl rfl rfl ?_ | refine Kp.St_store tb rfl rfl perm1 rfl rfl rfl rfl rfl rfl rfl rfl ?_ | refine Kp.St_store tb rfl rfl Kp.perm2 rfl rfl rfl rfl rfl rfl rfl rfl ?_ | refine Kp.St_store tb rfl rfl Kp.perm3 rfl rfl rfl rfl rfl rfl rfl rfl ?_ | refine Kp.St_store tb rfl rfl (perm_front (pre := [_, _])) rfl rfl rfl rfl rfl rfl rfl rfl ?_ | refine Kp.St_store tb rfl rfl (perm_front (pre := [_, _, _])) rfl rfl rfl rfl rfl rfl rfl rfl ?_ | refine Kp.St_store tb rfl rfl (perm_front (pre := [_, _, _, _])) rfl rfl rfl rfl rfl rfl rfl rfl ?_
 refine Kp.Z_nil ?_
 try dsimp only [List.append, List.cons_append, List.nil_append]
 exact ⟨(g6, A14, c14, A19, c19), fun a_ w_ hs_ => hs_.weak ⟨rfl, rfl, rfl, trivial⟩ (fun h_ => h_.pk (pk_box rfl (pk_sl rfl (pk_sl rfl (pk_box rfl (pk_box rfl (pk_rd rfl (pk_rd rfl (pk_rd rfl pk_nil)))))))))⟩
 refine Kp.St_alloc tb rfl rfl rfl rfl fun g6 => ?_
 refine Kp.Z_s ?_
 refine Kp.St_mk rfl rfl rfl rfl (lo_bslice tb rfl rfl rfl (xs := [[(.slice Au (ls.map cDl).length cu)], [(.slice Ax (l2.map cDl).length cx)]]) rfl rfl (by simp) rfl (by omega) rfl) fun v18 => ?_
 refine Kp.Z_s ?_
 refine Kp.St_mkF rfl rfl rfl rfl (lo_call tb rfl rfl (ct_slices_Concat_shotline_api_DiveLeg_shotline_api_DiveLeg v18 (.slice Au (ls.map cDl).length cu) (.slice Ax (l2.map cDl).length cx) ls l2 (by omega)) (ps_cons gvo (ps_cons gvo (ps_cons gvo no_ps))) isSl_sinks) fun A19 c19 => ?_
 refine Kp.Zq rfl (by first | exact q_build tb rfl rfl rfl rfl | exact q_buildArr tb rfl rfl rfl rfl rfl) ?_
 refine Kp.Z_s ?_
 first | refine Kp.St_store tb rfl rfl (List.Perm.refl _) rfl rfl rfl rfl rfl rfl rfl rfl ?_ | refine Kp.St_store tb rfl rfl perm1 rfl rfl rfl rfl rfl rfl rfl rfl ?_ | refine Kp.St_store tb rfl rfl Kp.perm2 rfl rfl rfl rfl rfl rfl rfl rfl ?_ | refine Kp.St_store tb rfl rfl Kp.perm3 rfl rfl rfl rfl rfl rfl rfl rfl ?_ | refine Kp.St_store tb rfl rfl (perm_front (pre := [_, _])) rfl rfl rfl rfl rfl rfl rfl rfl ?_ | refine Kp.St_store tb rfl rfl (perm_front (pre := [_, _, _])) rfl rfl rfl rfl rfl rfl rfl rfl ?_ | refine Kp.St_store tb rfl rfl (perm_front (pre := [_, _, _, _])) rfl rfl rfl rfl rfl rfl rfl rfl ?_
 refine Kp.Z_nil ?_
 try dsimp only [List.append, List.cons_append, List.nil_append]
 exact ⟨(g6, A14, c14, A19, c19), fun a_ w_ hs_ => hs_.weak ⟨rfl, rfl, rfl, trivial⟩ (fun h_ => h_.pk (pk_box rfl (pk_sl rfl (pk_sl rfl (pk_box rfl (pk_box rfl (pk_rd rfl (pk_rd rfl (pk_rd rfl pk_nil)))))))))⟩
 refine Kp.St_mk rfl rfl rfl rfl (lo_bslice tb rfl rfl rfl (xs := [[(.slice Au (ls.map cDl).length cu)], [(.slice Ax (l2.map cDl).length cx)]]) rfl rfl (by simp) rfl (by omega) rfl) fun v18 => ?_
 refine Kp.Z_s2 ?_ ?_
 refine Kp.St_mkF rfl rfl rfl rfl (lo_call tb rfl rfl (ct_Clone_cGs (.slice Av (gs.map cGs).length cv) gs hle) (ps_cons gvo no_ps) isSl_sinks) fun A14 c14 => ?_
 refine Kp.Z_s2 ?_ ?_
 refine Kp.St_mkF rfl rfl rfl rfl (lo_call tb rfl rfl (ct_slices_Concat_shotline_api_DiveLeg_shotline_api_DiveLeg v18 (.slice Au (ls.map cDl).length cu) (.slice Ax (l2.map cDl).length cx) ls l2 (by omega)) (ps_cons gvo (ps_cons gvo (ps_cons gvo no_ps))) isSl_sinks) fun A19 c19 => ?_
 refine Kp.Zq rfl (by first | exact q_build tb rfl rfl rfl rfl | exact q_buildArr tb rfl rfl rfl rfl rfl) ?_
 refine Kp.Z_s ?_
 refine Kp.St_alloc tb rfl rfl rfl rfl fun g6 => ?_
 refine Kp.Z_s ?_
 first | refine Kp.St_store tb rfl rfl (List.Perm.refl _) rfl rfl rfl rfl rfl rfl rfl rfl ?_ | refine Kp.St_store tb rfl rfl perm1 rfl rfl rfl rfl rfl rfl rfl rfl ?_ | refine Kp.St_store tb rfl rfl Kp.perm2 rfl rfl rfl rfl rfl rfl rfl rfl ?_ | refine Kp.St_store tb rfl rfl Kp.perm3 rfl rfl rfl rfl rfl rfl rfl rfl ?_ | refine Kp.St_store tb rfl rfl (perm_front (pre := [_, _])) rfl rfl rfl rfl rfl rfl rfl rfl ?_ | refine Kp.St_store tb rfl rfl (perm_front (pre := [_, _, _])) rfl rfl rfl rfl rfl rfl rfl rfl ?_ | refine Kp.St_store tb rfl rfl (perm_front (pre := [_, _, _, _])) rfl rfl rfl rfl rfl rfl rfl rfl ?_
 refine Kp.Z_nil ?_
 try dsimp only [List.append, List.cons_append, List.nil_append]
 exact ⟨(g6, A14, c14, A19, c19), fun a_ w_ hs_ => hs_.weak ⟨rfl, rfl, rfl, trivial⟩ (fun h_ => h_.pk (pk_box rfl (pk_sl rfl (pk_sl rfl (pk_box rfl (pk_box rfl (pk_rd rfl (pk_rd rfl (pk_rd rfl pk_nil)))))))))⟩
 refine Kp.St_alloc tb rfl rfl rfl rfl fun g6 => ?_
 refine Kp.Z_s ?_
 refine Kp.St_mkF rfl rfl rfl rfl (lo_call tb rfl rfl (ct_slices_Concat_shotline_api_DiveLeg_shotline_api_DiveLeg v18 (.slice Au (ls.map cDl).length cu) (.slice Ax (l2.map cDl).length cx) ls l2 (by omega)) (ps_cons gvo (ps_cons gvo (ps_cons gvo no_ps))) isSl_sinks) fun A19 c19 => ?_
 refine Kp.Zq rfl (by first | exact q_build tb rfl rfl rfl rfl | exact q_buildArr tb rfl rfl rfl rfl rfl) ?_
 refine Kp.Z_s ?_
 first | refine Kp.St_store tb rfl rfl (List.Perm.refl _) rfl rfl rfl rfl rfl rfl rfl rfl ?_ | refine Kp.St_store tb rfl rfl perm1 rfl rfl rfl rfl rfl rfl rfl rfl ?_ | refine Kp.St_store tb rfl rfl Kp.perm2 rfl rfl rfl rfl rfl rfl rfl rfl ?_ | refine Kp.St_store tb rfl rfl Kp.perm3 rfl rfl rfl rfl rfl rfl rfl rfl ?_ | refine Kp.St_store tb rfl rfl (perm_front (pre := [_, _])) rfl rfl rfl rfl rfl rfl rfl rfl ?_ | refine Kp.St_store tb rfl rfl (perm_front (pre := [_, _, _])) rfl rfl rfl rfl rfl rfl rfl rfl ?_ | refine Kp.St_store tb rfl rfl (perm_front (pre := [_, _, _, _])) rfl rfl rfl rfl rfl rfl rfl rfl ?_
 refine Kp.Z_nil ?_
 try dsimp only [List.append, List.cons_append, List.nil_append]
 exact ⟨(g6, A14, c14, A19, c19), fun a_ w_ hs_ => hs_.weak ⟨rfl, rfl, rfl, trivial⟩ (fun h_ => h_.pk (pk_box rfl (pk_sl rfl (pk_sl rfl (pk_box rfl (pk_box rfl (pk_rd rfl (pk_rd rfl (pk_rd rfl pk_nil)))))))))⟩
 refine Kp.St_alloc tb rfl rfl rfl rfl fun g6 => ?_
 refine Kp.Z_s ?_
 refine Kp.St_mkF rfl rfl rfl rfl (lo_call tb rfl rfl (ct_Clone_cGs (.slice Av (gs.map cGs).length cv) gs hle) (ps_cons gvo no_ps) isSl_sinks) fun A14 c14 => ?_
 refine Kp.Z_s ?_
 refine Kp.St_mkF rfl rfl rfl rfl (lo_call tb rfl rfl (ct_slices_Concat_shotline_api_DiveLeg_shotline_api_DiveLeg v18 (.slice Au (ls.map cDl).length cu) (.slice Ax (l2.map cDl).length cx) ls l2 (by omega)) (ps_cons gvo (ps_cons gvo (ps_cons gvo no_ps))) isSl_sinks) fun A19 c19 => ?_
 refine Kp.Zq rfl (by first | exact q_build tb rfl rfl rfl rfl | exact q_buildArr tb rfl rfl rfl rfl rfl) ?_
 refine Kp.Z_s ?_
 first | refine Kp.St_store tb rfl rfl (List.Perm.refl _) rfl rfl rfl rfl rfl rfl rfl rfl ?_ | refine Kp.St_store tb rfl rfl perm1 rfl rfl rfl rfl rfl rfl rfl rfl ?_ | refine Kp.St_store tb rfl rfl Kp.perm2 rfl rfl rfl rfl rfl rfl rfl rfl ?_ | refine Kp.St_store tb rfl rfl Kp.perm3 rfl rfl rfl rfl rfl rfl rfl rfl ?_ | refine Kp.St_store tb rfl rfl (perm_front (pre := [_, _])) rfl rfl rfl rfl rfl rfl rfl rfl ?_ | refine Kp.St_store tb rfl rfl (perm_front (pre := [_, _, _])) rfl rfl rfl rfl rfl rfl rfl rfl ?_ | refine Kp.St_store tb rfl rfl (perm_front (pre := [_, _, _, _])) rfl rfl rfl rfl rfl rfl rfl rfl ?_
 refine Kp.Z_nil ?_
 try dsimp only [List.append, List.cons_append, List.nil_append]
 exact ⟨(g6, A14, c14, A19, c19), fun a_ w_ hs_ => hs_.weak ⟨rfl, rfl, rfl, trivial⟩ (fun h_ => h_.pk (pk_box rfl (pk_sl rfl (pk_sl rfl (pk_box rfl (pk_box rfl (pk_rd rfl (pk_rd rfl (pk_rd rfl pk_nil)))))))))⟩
 refine Kp.St_alloc tb rfl rfl rfl rfl fun g6 => ?_
 refine Kp.Z_s2 ?_ ?_
 refine Kp.St_mkF rfl rfl rfl rfl (lo_call tb rfl rfl (ct_Clone_cGs (.slice Av (gs.map cGs).length cv) gs hle) (ps_cons gvo no_ps) isSl_sinks) fun A14 c14 => ?_
 refine Kp.Z_s ?_
 refine Kp.St_mk rfl rfl rfl rfl (lo_bslice tb rfl rfl rfl (xs := [[(.slice Au (ls.map cDl).length cu)], [(.slice Ax (l2.map cDl).length cx)]]) rfl rfl (by simp) rfl (by omega) rfl) fun v18 => ?_
 refine Kp.Z_s ?_
 refine Kp.St_mkF rfl rfl rfl rfl (lo_call tb rfl rfl (ct_slices_Concat_shotline_api_DiveLeg_shotline_api_DiveLeg v18 (.slice Au (ls.map cDl).length cu) (.slice Ax (l2.map cDl).length cx) ls l2 (by omega)) (ps_cons gvo (ps_cons gvo (ps_cons gvo no_ps))) isSl_sinks) fun A19 c19 => ?_
 refine Kp.Zq rfl (by first | exact q_build tb rfl rfl rfl rfl | exact q_buildArr tb rfl rfl rfl rfl rfl) ?_
 refine Kp.Z_s ?_
 first | refine Kp.St_store tb rfl rfl (List.Perm.refl _) rfl rfl rfl rfl rfl rfl rfl rfl ?_ | refine Kp.St_store tb rfl rfl perm1 rfl rfl rfl rfl rfl rfl rfl rfl ?_ | refine Kp.St_store tb rfl rfl Kp.perm2 rfl rfl rfl rfl rfl rfl rfl rfl ?_ | refine Kp.St_store tb rfl rfl Kp.perm3 rfl rfl rfl rfl rfl rfl rfl rfl ?_ | refine Kp.St_store tb rfl rfl (perm_front (pre := [_, _])) rfl rfl rfl rfl rfl rfl rfl rfl ?_ | refine Kp.St_store tb rfl rfl (perm_front (pre := [_, _, _])) rfl rfl rfl rfl rfl rfl rfl rfl ?_ | refine Kp.St_store tb rfl rfl (perm_front (pre := [_, _, _, _])) rfl rfl rfl rfl rfl rfl rfl rfl ?_
 refine Kp.Z_nil ?_
 try dsimp only [List.append, List.cons_append, List.nil_append]
 exact ⟨(g6, A14, c14, A19, c19), fun a_ w_ hs_ => hs_.weak ⟨rfl, rfl, rfl, trivial⟩ (fun h_ => h_.pk (pk_box rfl (pk_sl rfl (pk_sl rfl (pk_box rfl (pk_box rfl (pk_rd rfl (pk_rd rfl (pk_rd rfl pk_nil)))))))))⟩
 refine Kp.St_mk rfl rfl rfl rfl (lo_bslice tb rfl rfl rfl (xs := [[(.slice Au (ls.map cDl).length cu)], [(.slice Ax (l2.map cDl).length cx)]]) rfl rfl (by simp) rfl (by omega) rfl) fun v18 => ?_
 refine Kp.Z_s ?_
 refine Kp.St_mkF rfl rfl rfl rfl (lo_call tb rfl rfl (ct_Clone_cGs (.slice Av (gs.map cGs).length cv) gs hle) (ps_cons gvo no_ps) isSl_sinks) fun A14 c14 => ?_
 refine Kp.Z_s ?_
 refine Kp.St_mkF rfl rfl rfl rfl (lo_call tb rfl rfl (ct_slices_Concat_shotline_api_DiveLeg_shotline_api_DiveLeg v18 (.slice Au (ls.map cDl).length cu) (.slice Ax (l2.map cDl).length cx) ls l2 (by omega)) (ps_cons gvo (ps_cons gvo (ps_cons gvo no_ps))) isSl_sinks) fun A19 c19 => ?_
 refine Kp.Zq rfl (by first | exact q_build tb rfl rfl rfl rfl | exact q_buildArr tb rfl rfl rfl rfl rfl) ?_
 refine Kp.Z_s ?_
 first | refine Kp.St_store tb rfl rfl (List.Perm.refl _) rfl rfl rfl rfl rfl rfl rfl rfl ?_ | refine Kp.St_store tb rfl rfl perm1 rfl rfl rfl rfl rfl rfl rfl rfl ?_ | refine Kp.St_store tb rfl rfl Kp.perm2 rfl rfl rfl rfl rfl rfl rfl rfl ?_ | refine Kp.St_store tb rfl rfl Kp.perm3 rfl rfl rfl rfl rfl rfl rfl rfl ?_ | refine Kp.St_store tb rfl rfl (perm_front (pre := [_, _])) rfl rfl rfl rfl rfl rfl rfl rfl ?_ | refine Kp.St_store tb rfl rfl (perm_front (pre := [_, _, _])) rfl rfl rfl rfl rfl rfl rfl rfl ?_ | refine Kp.St_store tb rfl rfl (perm_front (pre := [_, _, _, _])) rfl rfl rfl rfl rfl rfl rfl rfl ?_
 refine Kp.Z_nil ?_
 try dsimp only [List.append, List.cons_append, List.nil_append]
 exact ⟨(g6, A14, c14, A19, c19), fun a_ w_ hs_ => hs_.weak ⟨rfl, rfl, rfl, trivial⟩ (fun h_ => h_.pk (pk_box rfl (pk_sl rfl (pk_sl rfl (pk_box rfl (pk_box rfl (pk_rd rfl (pk_rd rfl (pk_rd rfl pk_nil)))))))))⟩
 (rintro ⟨g6, A14, c14, A19, c19⟩; dsimp only)
 refine L_then ?_
 refine C_seq ?_
 refine C_seq ?_
 refine C_region ?_
 refine Jq (q_loadA tb rfl rfl bxo rfl rfl) ?_
 refine Jq (q_loadA tb rfl rfl bxo rfl rfl) ?_
 refine L_mk (lo_bslice tb rfl rfl rfl (xs := [cPl nm sf (.slice Av (gs.map cGs).length cv) (.slice Au (ls.map cDl).length cu), cPl nm sf (.slice A14 (gs.map cGs).length c14) (.slice A19 ((ls ++ l2).map cDl).length c19)]) rfl rfl (by simp [cPl]) rfl (by omega) rfl) rfl rfl rfl fun v23 => ?_
 refine L_call tb rfl rfl (ct_check2 v23 nm sf (.slice Av (gs.map cGs).length cv) (.slice Au (ls.map cDl).length cu) gs ls (.slice A14 (gs.map cGs).length c14) (.slice A19 ((ls ++ l2).map cDl).length c19) (ls ++ l2) hle hle2 hle3 hnm hz hz2) (ps_cons gvo (ps_cons gvo (ps_cons gvo (ps_cons gvo (ps_cons gvo no_ps))))) rfl ?_
 refine Jq (q_assign rfl) ?_
 refine L_then ?_
 refine C_seq ?_
 refine C_region ?_
 refine Jq (q_move rfl) ?_
 refine Jq (q_false (q_neq rfl rfl) (decide_eq_false (fun h => h rfl))) ?_
 refine L_then ?_
 refine C_false rfl ?_
 refine C_skip_then ?_
 refine C_seq ?_
 refine C_region ?_
 refine Jq (q_loadA tb rfl rfl bxo rfl rfl) ?_
 refine L_st tb rfl rfl ?_
 refine Jq (q_assign rfl) ?_
 refine L_then ?_
 refine C_ret ?_
 exact ret_of (rs' := [sl (.slice A19 ((ls ++ l2).map cDl).length c19) 82 3 ((ls ++ l2).map cDl), sl (.slice A14 (gs.map cGs).length c14) 80 2 (gs.map cGs)]) (resCT tb rfl rfl rfl rfl bxo rfl) (fun w_ h_ => h_.pk (pk_sl rfl (pk_sl rfl pk_nil))) (by intro r hr; simp only [List.mem_cons, List.not_mem_nil, or_false] at hr; rcases hr with rfl | rfl <;> exact sl_own _ _ _ _) ⟨A14, A19, _, c14, _, c19, rfl, rfl⟩
set_option maxRecDepth 100000 in
set_option maxHeartbeats 1000000 in
theorem ct_Equal_cGs (v u : Value) (es : List Gs) (hle : es.length ≤ 100000) : Ct Try.prog 61 [v, u] [(v, 2, es.map cGs), (u, 2, es.map cGs)] (isV (.bool true)) := by
 refine Ct.of (N := 26) Try.func61 rfl rfl rfl fun w => ?_
 refine C_weak (E' := [(0, v), (1, u)]) (rs' := [rd v 2 (es.map cGs), rd u 2 (es.map cGs)]) ⟨rfl, rfl, trivial⟩ (fun _ h => h) ?_
 have hl := len_map cGs es
 refine C_seq ?_
 refine C_region ?_
 refine Jq (q_assign rfl) ?_
 refine L_then ?_
 refine C_seq ?_
 refine C_seq ?_
 refine C_region ?_
 refine Jq (q_move rfl) ?_
 refine Jq (q_len tb rfl rfl gvo) ?_
 refine Jq (q_move rfl) ?_
 refine Jq (q_len tb rfl rfl gvo) ?_
 refine Jq (q_neq rfl rfl) ?_
 refine L_then ?_
 refine C_dec rfl (fun h1 => ?_) (fun h1 => ?_)
 exfalso; omega
 refine C_skip_then ?_
 refine C_seq ?_
 refine C_seq ?_
 refine C_region ?_
 refine Jq (q_move rfl) ?_
 refine Jq (q_len tb rfl rfl gvo) ?_
 refine Jq (q_move rfl) ?_
 refine L_then ?_
 refine C_block ?_
 refine C_loop (ι := Nat) (fun k => ([(0, v), (1, u), (12, .int .i64 (es.map cGs).length), (13, .int .i64 (k : Int))], [rd v 2 (es.map cGs), rd u 2 (es.map cGs)])) (fun k => k ≤ es.length) (fun k => es.length - k) 0 (Nat.zero_le _) (fun a w hs => hs.weak ⟨rfl, rfl, rfl, rfl, trivial⟩ (fun h => h.pk (by repeat (first | with_reducible exact pk_nil | refine pk_box rfl ?_ | refine pk_rd rfl ?_ | refine pk_sl rfl ?_ | with_reducible refine pk_app ?_ | with_reducible refine pk_app0 ?_ | with_reducible refine pk_app0L ?_ | with_reducible exact pk_tl | refine pk_var ?_)))) ?_
 intro k hk
 dsimp only at hk ⊢
 refine C_seq ?_
 refine C_region ?_
 refine Jq (q_lss rfl rfl) ?_
 refine L_then ?_
 refine C_seq ?_
 refine C_dec rfl (fun h2 => ?_) (fun h2 => ?_)
 obtain ⟨x, hx⟩ := get_some es (k := k) (by omega); have hel := map_get cGs hx
 refine C_skip_then ?_
 refine C_seq ?_
 refine C_block ?_
 refine C_seq ?_
 refine C_region ?_
 refine Jq (q_move rfl) ?_
 refine Jq (q_assign rfl) ?_
 refine L_then ?_
 refine C_seq ?_
 refine C_draw (n := 9) [(0, false), (1, false), (2, false), (3, false), (4, false), (5, false), (6, false), (7, false), (8, false)] mixed (by kernel_rfl) ?_
 refine Yq rfl (q_move rfl) ?_
 refine Yq rfl (q_move rfl) ?_
 refine Yq rfl (by first | exact q_index tb rfl rfl rfl rfl gvo (by omega) (by first | omega | (simp; done) | (simp; omega)) | exact q_indexP tb rfl rfl rfl rfl (by omega) (by omega)) ?_
 refine Yq rfl (q_loadEA tb rfl rfl gvo (i := k) (o := 0) (by omega) hel rfl rfl) ?_
 refine Yq rfl (q_move rfl) ?_
 refine Yq rfl (q_move rfl) ?_
 refine Yq rfl (by first | exact q_index tb rfl rfl rfl rfl gvo (by omega) (by first | omega | (simp; done) | (simp; omega)) | exact q_indexP tb rfl rfl rfl rfl (by omega) (by omega)) ?_
 refine Yq rfl (q_loadEA tb rfl rfl gvo (i := k) (o := 0) (by omega) hel rfl rfl) ?_
 refine Yq rfl (q_false (q_neI (p := True) (xs := [x.o, x.h]) (ys := [x.o, x.h]) eq80 (by omega) eg80 rfl rfl rfl rfl (by simp)) (by simp)) ?_
 refine W_nil ?_
 refine L_then ?_
 refine C_false rfl ?_
 refine C_skip_blk ?_
 refine C_region ?_
 refine Jq (q_add rfl rfl (by first | exact IntWalk.i64_in _ (by omega) | rfl)) ?_
 refine Jq (q_move rfl) ?_
 refine L_end ?_
 exact fun ac_ wo_ hs_ => ⟨k + 1, (by dsimp only; omega), (by dsimp only; omega), hs_.weak ⟨rfl, rfl, rfl, rfl, trivial⟩ (fun h => h.pk (by repeat (first | with_reducible exact pk_nil | refine pk_box rfl ?_ | refine pk_rd rfl ?_ | refine pk_sl rfl ?_ | with_reducible refine pk_app ?_ | with_reducible refine pk_app0 ?_ | with_reducible refine pk_app0L ?_ | with_reducible exact pk_tl | refine pk_var ?_)))⟩
 refine C_exit ?_
 change C Try.prog _ _ _ _ _ _ _
 refine C_seq ?_
 refine C_region ?_
 refine Jq (q_assign rfl) ?_
 refine L_then ?_
 refine C_ret ?_
 exact ret_of (res1 rfl rfl) sub_nil (by intro r hr; cases hr) ⟨rfl, rfl⟩
set_option maxRecDepth 100000 in
set_option maxHeartbeats 1000000 in
theorem ct_Equal_cDl (v u : Value) (es : List Dl) (hle : es.length ≤ 100000) : Ct Try.prog 62 [v, u] [(v, 3, es.map cDl), (u, 3, es.map cDl)] (isV (.bool true)) := by
 refine Ct.of (N := 26) Try.func62 rfl rfl rfl fun w => ?_
 refine C_weak (E' := [(0, v), (1, u)]) (rs' := [rd v 3 (es.map cDl), rd u 3 (es.map cDl)]) ⟨rfl, rfl, trivial⟩ (fun _ h => h) ?_
 have hl := len_map cDl es
 refine C_seq ?_
 refine C_region ?_
 refine Jq (q_assign rfl) ?_
 refine L_then ?_
 refine C_seq ?_
 refine C_seq ?_
 refine C_region ?_
 refine Jq (q_move rfl) ?_
 refine Jq (q_len tb rfl rfl gvo) ?_
 refine Jq (q_move rfl) ?_
 refine Jq (q_len tb rfl rfl gvo) ?_
 refine Jq (q_neq rfl rfl) ?_
 refine L_then ?_
 refine C_dec rfl (fun h1 => ?_) (fun h1 => ?_)
 exfalso; omega
 refine C_skip_then ?_
 refine C_seq ?_
 refine C_seq ?_
 refine C_region ?_
 refine Jq (q_move rfl) ?_
 refine Jq (q_len tb rfl rfl gvo) ?_
 refine Jq (q_move rfl) ?_
 refine L_then ?_
 refine C_block ?_
 refine C_loop (ι := Nat) (fun k => ([(0, v), (1, u), (12, .int .i64 (es.map cDl).length), (13, .int .i64 (k : Int))], [rd v 3 (es.map cDl), rd u 3 (es.map cDl)])) (fun k => k ≤ es.length) (fun k => es.length - k) 0 (Nat.zero_le _) (fun a w hs => hs.weak ⟨rfl, rfl, rfl, rfl, trivial⟩ (fun h => h.pk (by repeat (first | with_reducible exact pk_nil | refine pk_box rfl ?_ | refine pk_rd rfl ?_ | refine pk_sl rfl ?_ | with_reducible refine pk_app ?_ | with_reducible refine pk_app0 ?_ | with_reducible refine pk_app0L ?_ | with_reducible exact pk_tl | refine pk_var ?_)))) ?_
 intro k hk
 dsimp only at hk ⊢
 refine C_seq ?_
 refine C_region ?_
 refine Jq (q_lss rfl rfl) ?_
 refine L_then ?_
 refine C_seq ?_
 refine C_dec rfl (fun h2 => ?_) (fun h2 => ?_)
 obtain ⟨x, hx⟩ := get_some es (k := k) (by omega); have hel := map_get cDl hx
 refine C_skip_then ?_
 refine C_seq ?_
 refine C_block ?_
 refine C_seq ?_
 refine C_region ?_
 refine Jq (q_move rfl) ?_
 refine Jq (q_assign rfl) ?_
 refine L_then ?_
 refine C_seq ?_
 refine C_draw (n := 9) [(0, false), (1, false), (2, false), (3, false), (4, false), (5, false), (6, false), (7, false), (8, false)] mixed (by kernel_rfl) ?_
 refine Yq rfl (q_move rfl) ?_
 refine Yq rfl (q_move rfl) ?_
 refine Yq rfl (by first | exact q_index tb rfl rfl rfl rfl gvo (by omega) (by first | omega | (simp; done) | (simp; omega)) | exact q_indexP tb rfl rfl rfl rfl (by omega) (by omega)) ?_
 refine Yq rfl (q_loadEA tb rfl rfl gvo (i := k) (o := 0) (by omega) hel rfl rfl) ?_
 refine Yq rfl (q_move rfl) ?_
 refine Yq rfl (q_move rfl) ?_
 refine Yq rfl (by first | exact q_index tb rfl rfl rfl rfl gvo (by omega) (by first | omega | (simp; done) | (simp; omega)) | exact q_indexP tb rfl rfl rfl rfl (by omega) (by omega)) ?_
 refine Yq rfl (q_loadEA tb rfl rfl gvo (i := k) (o := 0) (by omega) hel rfl rfl) ?_
 refine Yq rfl (q_false (q_neI (p := True) (xs := [x.s, x.d, x.g]) (ys := [x.s, x.d, x.g]) eq82 (by omega) eg82 rfl rfl rfl rfl (by simp)) (by simp)) ?_
 refine W_nil ?_
 refine L_then ?_
 refine C_false rfl ?_
 refine C_skip_blk ?_
 refine C_region ?_
 refine Jq (q_add rfl rfl (by first | exact IntWalk.i64_in _ (by omega) | rfl)) ?_
 refine Jq (q_move rfl) ?_
 refine L_end ?_
 exact fun ac_ wo_ hs_ => ⟨k + 1, (by dsimp only; omega), (by dsimp only; omega), hs_.weak ⟨rfl, rfl, rfl, rfl, trivial⟩ (fun h => h.pk (by repeat (first | with_reducible exact pk_nil | refine pk_box rfl ?_ | refine pk_rd rfl ?_ | refine pk_sl rfl ?_ | with_reducible refine pk_app ?_ | with_reducible refine pk_app0 ?_ | with_reducible refine pk_app0L ?_ | with_reducible exact pk_tl | refine pk_var ?_)))⟩
 refine C_exit ?_
 change C Try.prog _ _ _ _ _ _ _
 refine C_seq ?_
 refine C_region ?_
 refine Jq (q_assign rfl) ?_
 refine L_then ?_
 refine C_ret ?_
 exact ret_of (res1 rfl rfl) sub_nil (by intro r hr; cases hr) ⟨rfl, rfl⟩
set_option maxRecDepth 100000 in
set_option maxHeartbeats 2000000 in
theorem ct_profile_SameDive (nm : ByteArray) (sf : Int) (v u : Value) (gs : List Gs) (ls : List Dl) (v2 u2 : Value) (ls2 : List Dl) (hle : gs.length ≤ 100000) (hle2 : ls.length ≤ 100000) (hle3 : ls2.length ≤ 100000) (hnm : nm.size ≤ 1000000000000) (H : okPl sf gs ls) (H2 : okPl sf gs ls2) (hz : (ckPl nm sf gs ls).2 = 0) (hz2 : (ckPl nm sf gs ls2).2 = 0) (hG : nfG gs ls2 = nfG gs ls) (hL : nfL gs ls2 = nfL gs ls) : Ct Try.prog 25 [.agg (cPl nm sf v u).toArray, .agg (cPl nm sf v2 u2).toArray] [(v, 2, gs.map cGs), (u, 3, ls.map cDl), (v2, 2, gs.map cGs), (u2, 3, ls2.map cDl)] (isV (.tuple #[.bool true, .int .i64 0])) := by
 refine Ct.of (N := 37) Try.func25 rfl rfl rfl fun w => ?_
 refine C_weak (E' := [(0, .agg (cPl nm sf v u).toArray), (1, .agg (cPl nm sf v2 u2).toArray)]) (rs' := [rd v 2 (gs.map cGs), rd u 3 (ls.map cDl), rd v2 2 (gs.map cGs), rd u2 3 (ls2.map cDl)]) ⟨rfl, rfl, trivial⟩ (fun _ h => h) ?_
 refine C_form (v := v) gvo (fun Av cv hv _ => ?_)
 subst hv
 refine C_form (v := u) gvo (fun Au cu hu _ => ?_)
 subst hu
 refine C_form (v := v2) gvo (fun Av2 cv2 hv2 _ => ?_)
 subst hv2
 refine C_form (v := u2) gvo (fun Au2 cu2 hu2 _ => ?_)
 subst hu2
 have hl1 := len_map cGs gs
 have hl2 := len_map cDl ls
 have hl3 := len_map cDl ls2
 have hN := nf_plan H; have hNg := hN.gl; have hNl := hN.ll
 have eL : (nfL gs ls2).map cDl = (nfL gs ls).map cDl := by rw [hL]
 have eG : (nfG gs ls2).map cGs = (nfG gs ls).map cGs := by rw [hG]
 refine C_seq ?_
 refine C_region ?_
 refine L_box rfl rfl rfl fun g2 => ?_
 refine L_box rfl rfl rfl fun g3 => ?_
 refine Jq (q_assign rfl) ?_
 refine Jq (q_assign rfl) ?_
 refine L_then ?_
 refine C_seq ?_
 refine C_seq ?_
 refine C_region ?_
 refine Jq (q_loadA tb rfl rfl bxo rfl rfl) ?_
 refine Jq (q_loadA tb rfl rfl bxo rfl rfl) ?_
 refine L_mk (lo_bslice tb rfl rfl rfl (xs := [cPl nm sf (.slice Av (gs.map cGs).length cv) (.slice Au (ls.map cDl).length cu), cPl nm sf (.slice Av2 (gs.map cGs).length cv2) (.slice Au2 (ls2.map cDl).length cu2)]) rfl rfl (by simp [cPl]) rfl (by omega) rfl) rfl rfl rfl fun v9 => ?_
 refine L_call tb rfl rfl (ct_check2 v9 nm sf (.slice Av (gs.map cGs).length cv) (.slice Au (ls.map cDl).length cu) gs ls (.slice Av2 (gs.map cGs).length cv2) (.slice Au2 (ls2.map cDl).length cu2) ls2 hle hle2 hle3 hnm hz hz2) (ps_cons gvo (ps_cons gvo (ps_cons gvo (ps_cons gvo (ps_cons gvo no_ps))))) rfl ?_
 refine Jq (q_assign rfl) ?_
 refine L_then ?_
 refine C_seq ?_
 refine C_region ?_
 refine Jq (q_move rfl) ?_
 refine Jq (q_false (q_neq rfl rfl) (decide_eq_false (fun h => h rfl))) ?_
 refine L_then ?_
 refine C_false rfl ?_
 refine C_skip_then ?_
 refine C_seq ?_
 refine C_draw (n := 4) [(0, false), (2, false), (1, true), (3, true)] mixed (by kernel_rfl) ?_
 refine Yq rfl (q_loadA tb rfl rfl bxo rfl rfl) ?_
 refine Yq rfl (q_loadA tb rfl rfl bxo rfl rfl) ?_
 refine W_lo rfl rfl rfl rfl (lo_call tb rfl rfl (ct_profile_normal nm sf (.slice Av (gs.map cGs).length cv) (.slice Au (ls.map cDl).length cu) gs ls H) (ps_cons gvo (ps_cons gvo no_ps)) (by rintro y rs ⟨_, _, _, _, _, _, _, rfl⟩ r hr; simp only [List.mem_cons, List.not_mem_nil, or_false] at hr; rcases hr with rfl | rfl <;> exact sl_sinks _ _ _ _)) ?_
 rintro _ _ ⟨A15, B15, n15, c15, m15, d15, rfl, rfl⟩
 refine W_lo rfl rfl rfl rfl (lo_call tb rfl rfl (ct_profile_normal nm sf (.slice Av2 (gs.map cGs).length cv2) (.slice Au2 (ls2.map cDl).length cu2) gs ls2 H2) (ps_cons gvo (ps_cons gvo no_ps)) (by rintro y rs ⟨_, _, _, _, _, _, _, rfl⟩ r hr; simp only [List.mem_cons, List.not_mem_nil, or_false] at hr; rcases hr with rfl | rfl <;> exact sl_sinks _ _ _ _)) ?_
 rintro _ _ ⟨A17, B17, n17, c17, m17, d17, rfl, rfl⟩
 refine W_nil ?_
 refine L_st tb rfl rfl ?_
 refine L_st tb rfl rfl ?_
 refine L_then ?_
 refine C_seq ?_
 refine C_res (rs' := [box g2 25 (cPl nm sf (.slice A15 n15 c15) (.slice B15 m15 d15)), box g3 25 (cPl nm sf (.slice A17 n17 c17) (.slice B17 m17 d17)), sl (.slice B15 m15 d15) 82 3 ((nfL gs ls).map cDl), sl (.slice A15 n15 c15) 80 2 ((nfG gs ls).map cGs), sl (.slice B17 m17 d17) 82 3 ((nfL gs ls).map cDl), sl (.slice A17 n17 c17) 80 2 ((nfG gs ls).map cGs)]) (fun _ h => h.pk (pk_box rfl (pk_box rfl (pk_sl rfl (pk_sl rfl (pk_sl eL (pk_sl eG pk_nil))))))) ?_
 refine C_region ?_
 refine Jq (q_field tb rfl rfl rfl) ?_
 refine Jq (q_load tb rfl rfl bxo rfl) ?_
 refine Jq (q_field tb rfl rfl rfl) ?_
 refine Jq (q_load tb rfl rfl bxo rfl) ?_
 refine Jq (q_true (q_eql rfl rfl) (by simp)) ?_
 refine Jq (q_move rfl) ?_
 refine Jg (q_field tb rfl rfl rfl) ?_
 refine Jg (q_load tb rfl rfl bxo rfl) ?_
 refine Jg (q_field tb rfl rfl rfl) ?_
 refine Jg (q_load tb rfl rfl bxo rfl) ?_
 refine L_callg tb rfl rfl rfl rfl rfl rfl (ct_Equal_cGs (.slice A15 n15 c15) (.slice A17 n17 c17) (nfG gs ls) (by omega)) (ps_cons gvo (ps_cons gvo no_ps)) rfl ?_
 refine Jq (q_pickT rfl rfl) ?_
 refine Jq (q_move rfl) ?_
 refine Jg (q_field tb rfl rfl rfl) ?_
 refine Jg (q_load tb rfl rfl bxo rfl) ?_
 refine Jg (q_field tb rfl rfl rfl) ?_
 refine Jg (q_load tb rfl rfl bxo rfl) ?_
 refine L_callg tb rfl rfl rfl rfl rfl rfl (ct_Equal_cDl (.slice B15 m15 d15) (.slice B17 m17 d17) (nfL gs ls) (by omega)) (ps_cons gvo (ps_cons gvo no_ps)) rfl ?_
 refine Jq (q_pickT rfl rfl) ?_
 refine Jq (q_assign rfl) ?_
 refine Jq (q_assign rfl) ?_
 refine L_then ?_
 refine C_ret ?_
 exact ret_of (res2 rfl rfl rfl) sub_nil (by intro r hr; cases hr) ⟨rfl, rfl⟩
end Go.Proofs.Ytdmnejfpbbmcaaa
