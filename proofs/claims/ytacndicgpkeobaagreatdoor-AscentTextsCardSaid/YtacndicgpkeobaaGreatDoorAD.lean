/-
  Walks: each function named returns what its model says. Conditions: those in front of each theorem.
-/
import Derived.Test.YtacndicgpkeobaaGreatDoorAC
import Derived.Test.YtacndicgpkeobaaGreatDoorShTreeH
namespace Go.Proofs.YtacndicgpkeobaaGreatDoor
set_option maxRecDepth 100000
set_option maxHeartbeats 4000000
open Go.RowKit

set_option maxRecDepth 100000 in
set_option maxHeartbeats 4000000 in
theorem ct_ascent_task_generate (v u z : Value) (x : Asc) (H : okAsc x) : Ct Tryz.prog 55 [.agg (cAt v u z x).toArray] [(v, 4, x.ts.map cCp), (u, 4, x.ls.map cLd), (z, 3, x.gs.map cAg)] (isSc 117 3 (genA x)) := by
 refine Ct.of (N := 79) Tryz.func55 rfl rfl rfl fun w => ?_
 refine C_weak (E' := [(0, .agg (cAt v u z x).toArray)]) (rs' := [rd v 4 (x.ts.map cCp), rd u 4 (x.ls.map cLd), rd z 3 (x.gs.map cAg)]) ⟨rfl, trivial⟩ (fun _ h => h) ?_
 have hl1 := len_map cCp x.ts
 have hl2 := len_map cLd x.ls
 have hl3 := len_map cAg x.gs
 have hde := H.de; have hsu := H.su; have hbl := beh_len H; have hrs := H.r.st; have hrf := H.r.fi
 refine C_form (v := v) gvo (fun Av cv hv _ => ?_)
 subst hv
 refine C_form (v := u) gvo (fun Au cu hu _ => ?_)
 subst hu
 refine C_form (v := z) gvo (fun Az cz hz _ => ?_)
 subst hz
 refine C_seq ?_
 refine C_region ?_
 refine L_box rfl rfl rfl fun g1 => ?_
 refine L_alloc tb rfl rfl fun g2 => ?_
 refine Jq (q_assign rfl) ?_
 refine L_then ?_
 refine C_seq ?_
 refine C_region ?_
 refine L_alloc tb rfl rfl fun g4 => ?_
 refine L_then ?_
 refine C_seq ?_
 refine C_seq ?_
 refine C_region ?_
 refine Jq (q_assign rfl) ?_
 refine L_then ?_
 refine C_block ?_
 refine C_nil 3 1 ?_
 refine C_nil 117 3 ?_
 refine C_loop (ι := Asc × Int × List Dl × List Int × Value × Value × Value) (fun q => ([(1, .pointer (some ⟨g1, 0, none⟩)), (2, .pointer (some ⟨g2, 0, none⟩)), (4, .pointer (some ⟨g4, 0, none⟩)), (5, .int .i64 q.2.1)], [rd q.2.2.2.2.1 4 (q.1.ls.map cLd), sl q.2.2.2.2.2.1 117 3 (q.2.2.1.map cDl), sl q.2.2.2.2.2.2 3 1 (q.2.2.2.1.map cI), box g4 80 [q.2.2.2.2.2.1, q.2.2.2.2.2.2], box g1 100 (cAt (.slice Av (x.ts.map cCp).length cv) q.2.2.2.2.1 (.slice Az (x.gs.map cAg).length cz) q.1), box g2 80 [.slice none 0 0, .slice none 0 0], rd (.slice Av (x.ts.map cCp).length cv) 4 (q.1.ts.map cCp), rd (.slice Az (x.gs.map cAg).length cz) 3 (q.1.gs.map cAg)])) (fun q => okAsc q.1 ∧ q.2.2.1.length ≤ 400 ∧ q.2.2.2.1.length = q.2.2.1.length ∧ (0 ≤ q.2.1 ∧ q.2.1 ≤ 60) ∧ genN (400 - q.2.2.1.length) q.1 q.2.1 q.2.2.1 q.2.2.2.1 = genA x) (fun q => 400 - q.2.2.1.length) (x, 0, [], [], .slice Au (x.ls.map cLd).length cu, .slice none 0 0, .slice none 0 0) ⟨H, Nat.zero_le _, rfl, by dsimp only; omega, rfl⟩ (fun a w hs => hs.weak ⟨rfl, rfl, rfl, rfl, trivial⟩ (fun h => h.pk (by repeat (first | with_reducible exact pk_nil | refine pk_box rfl ?_ | refine pk_rd rfl ?_ | refine pk_sl rfl ?_ | with_reducible refine pk_app ?_ | with_reducible refine pk_app0 ?_ | with_reducible refine pk_app0L ?_ | with_reducible exact pk_tl | refine pk_var ?_)))) ?_
 rintro ⟨X, s9, L, F, u9, a9, b9⟩ ⟨hX, hL4, hFL, hs9, hgen⟩
 dsimp only at hX hL4 hFL hs9 hgen ⊢
 refine C_form (v := u9) gvo (fun A9 c9 hv9 _ => ?_)
 subst hv9
 refine C_form (v := a9) gvo (fun A8 c8 hv8 _ => ?_)
 subst hv8
 refine C_form (v := b9) gvo (fun A7 c7 hv7 _ => ?_)
 subst hv7
 have hXde := hX.de; have hXbl := beh_len hX; have hXst := hX.r.st; have hXgi := gasA_in X X.de
 have hl4 := len_map cDl L; have hl5 := len_map cI F
 refine C_seq ?_
 refine C_seq ?_
 refine C_region ?_
 refine Jq (q_field tb rfl rfl rfl) ?_
 refine Jq (q_field tb rfl rfl rfl) ?_
 refine Jq (q_load tb rfl rfl bxo rfl) ?_
 refine Jq (q_neq rfl rfl) ?_
 refine L_then ?_
 refine C_dec rfl (fun h1 => ?_) (fun h1 => ?_)
 have hd : ¬ X.de = 0 := by omega
 refine C_skip_then ?_
 refine C_block ?_
 refine C_seq ?_
 refine C_region ?_
 refine Jq (q_loadA tb rfl rfl bxo rfl rfl) ?_
 refine Jq (q_field tb rfl rfl rfl) ?_
 refine Jq (q_field tb rfl rfl rfl) ?_
 refine Jq (q_load tb rfl rfl bxo rfl) ?_
 refine L_call tb rfl rfl (ct_ascent_task_gas _ _ _ X (by omega) X.de) (ps_cons gvo no_ps) rfl ?_
 refine Jq (q_assign rfl) ?_
 refine L_then ?_
 refine C_seq ?_
 refine C_block ?_
 refine C_seq ?_
 refine C_region ?_
 refine Jq (q_field tb rfl rfl rfl) ?_
 refine Jq (q_load tb rfl rfl bxo rfl) ?_
 refine Jq (q_len tb rfl rfl gvo) ?_
 refine Jq (q_eql rfl rfl) ?_
 refine Jq (q_assign rfl) ?_
 refine L_then ?_
 refine C_dec rfl (fun h2 => ?_) (fun h2 => ?_)
 refine C_seq ?_
 refine C_region ?_
 refine Jq (by first | exact q_build tb rfl rfl rfl rfl | exact q_buildArr tb rfl rfl rfl rfl rfl) ?_
 refine L_st tb rfl rfl ?_
 refine Jq (q_assign rfl) ?_
 refine L_then ?_
 refine C_ret ?_
 have e8 : 400 - L.length = 0 := by omega
 rw [e8] at hgen
 have e9 : ((([], []), 8) : Sch) = genA x := by rw [← hgen]; exact (gen_8 hd).symm
 rw [← e9]
 exact ret_of (rs' := [sl (.slice none 0 0) 117 3 [], sl (.slice none 0 0) 3 1 []]) (resCT tb rfl rfl rfl rfl bxo rfl) (fun w_ h_ => ws_nil (ws_nil (sub_nil w_ h_))) own2 ⟨_, _, _, _, _, _, rfl, rfl⟩
 refine C_seq ?_
 refine C_region ?_
 refine Jq (q_move rfl) ?_
 refine Jq (q_lss rfl rfl) ?_
 refine Jq (q_assign rfl) ?_
 refine L_then ?_
 refine C_dec rfl (fun hg => ?_) (fun hg => ?_)
 refine C_seq ?_
 refine C_region ?_
 refine Jq (by first | exact q_build tb rfl rfl rfl rfl | exact q_buildArr tb rfl rfl rfl rfl rfl) ?_
 refine L_st tb rfl rfl ?_
 refine Jq (q_assign rfl) ?_
 refine L_then ?_
 refine C_ret ?_
 have e9 : ((([], []), 14) : Sch) = genA x := by rw [← hgen]; exact (gen_14 hd (by omega) hg).symm
 rw [← e9]
 exact ret_of (rs' := [sl (.slice none 0 0) 117 3 [], sl (.slice none 0 0) 3 1 []]) (resCT tb rfl rfl rfl rfl bxo rfl) (fun w_ h_ => ws_nil (ws_nil (sub_nil w_ h_))) own2 ⟨_, _, _, _, _, _, rfl, rfl⟩
 have hnx := nxt_in hX.r (d := X.de) (by omega)
 refine C_skip_blk ?_
 refine C_seq ?_
 refine C_drawA1 tb (n := 10) (k := 9) [(0, false), (1, false), (3, false), (4, false), (5, false), (7, false), (2, true), (6, true), (8, true)] mixed rfl rfl rfl (by kernel_rfl) rfl ?_
 refine Yq rfl (q_loadA tb rfl rfl bxo rfl rfl) ?_
 refine Yq rfl (q_loadA tb rfl rfl bxo rfl rfl) ?_
 refine Yq rfl (q_field tb rfl rfl rfl) ?_
 refine Yq rfl (q_field tb rfl rfl rfl) ?_
 refine Yq rfl (q_load tb rfl rfl bxo rfl) ?_
 refine Yq rfl (q_move rfl) ?_
 refine W_call tb rfl rfl rfl rfl (ct_ascent_task_rules _ _ _ X) no_ps rfl ?_
 refine W_call tb rfl rfl rfl rfl (ct_ascent_rules_next X.r hX.r X.de (by omega)) no_ps rfl ?_
 refine W_call tb rfl rfl rfl rfl (ct_ascent_task_up _ _ _ X hX (nxtR X.r X.de) (gasA X X.de) (by omega)) no_ps rfl ?_
 refine W_nil ?_
 intro g7
 refine L_st tb rfl rfl ?_
 refine L_then ?_
 refine C_seq ?_
 refine C_region ?_
 refine Jq (q_loadA tb rfl rfl bxo rfl rfl) ?_
 refine Jq (q_loadA tb rfl rfl bxo rfl rfl) ?_
 refine L_call tb rfl rfl (ct_ascent_task_decided _ _ _ X (gUp X) hX (gUp_ok hX hd hg)) (ps_cons gvo (ps_cons gvo (ps_cons gvo no_ps))) rfl ?_
 refine Jq (q_move rfl) ?_
 refine Jq (q_ext0 rfl) ?_
 refine Jq (q_ext1 rfl) ?_
 refine Jq (q_assign rfl) ?_
 refine Jq (q_assign rfl) ?_
 refine L_then ?_
 refine C_cut (ι := Dl × Int × Int) (fun q => ([(1, .pointer (some ⟨g1, 0, none⟩)), (2, .pointer (some ⟨g2, 0, none⟩)), (4, .pointer (some ⟨g4, 0, none⟩)), (5, .int .i64 q.2.2), (7, .pointer (some ⟨g7, 0, none⟩)), (9, .int .i64 q.2.1)], [sl (.slice A8 (L.map cDl).length c8) 117 3 (L.map cDl), sl (.slice A7 (F.map cI).length c7) 3 1 (F.map cI), box g4 80 [(.slice A8 (L.map cDl).length c8), (.slice A7 (F.map cI).length c7)], box g7 117 (cDl q.1), rd (.slice A9 (X.ls.map cLd).length c9) 4 (X.ls.map cLd), box g1 100 (cAt (.slice Av (x.ts.map cCp).length cv) (.slice A9 (X.ls.map cLd).length c9) (.slice Az (x.gs.map cAg).length cz) X), box g2 80 [.slice none 0 0, .slice none 0 0], rd (.slice Av (x.ts.map cCp).length cv) 4 (X.ts.map cCp), rd (.slice Az (x.gs.map cAg).length cz) 3 (X.gs.map cAg)])) (fun q => okAl X q.1 ∧ (0 ≤ q.2.2 ∧ q.2.2 ≤ 60) ∧ genN (400 - L.length) X s9 L F = genN (400 - L.length - 1) (bhA X q.1) q.2.2 (L ++ [q.1]) (F ++ [q.2.1])) ?_ ?_
 refine C_seq ?_
 refine C_region ?_
 refine Jq (q_move rfl) ?_
 refine Jq (q_eql rfl rfl) ?_
 refine L_then ?_
 refine C_dec rfl (fun h1 => ?_) (fun h1 => ?_)
 refine C_region ?_
 refine Jq (q_assign rfl) ?_
 refine L_end ?_
 exact fun ac_ wo_ hs_ => ⟨(gUp X, (dcA X (gUp X)).2, 0), ⟨gUp_ok hX hd hg, by dsimp only; omega, gen_up hd (by omega) hg h1⟩, hs_.weak ⟨rfl, rfl, rfl, rfl, rfl, rfl, trivial⟩ (fun h => h.pk (by repeat (first | with_reducible exact pk_nil | refine pk_box rfl ?_ | refine pk_rd rfl ?_ | refine pk_sl rfl ?_ | with_reducible refine pk_app ?_ | with_reducible refine pk_app0 ?_ | with_reducible refine pk_app0L ?_ | with_reducible exact pk_tl | refine pk_var ?_)))⟩
 refine C_seq ?_
 refine C_seq ?_
 refine C_region ?_
 refine Jq (q_move rfl) ?_
 refine Jq (q_eql rfl rfl) ?_
 refine L_then ?_
 refine C_dec rfl (fun h4 => ?_) (fun h4 => ?_)
 refine C_seq ?_
 refine C_region ?_
 refine Jq (by first | exact q_build tb rfl rfl rfl rfl | exact q_buildArr tb rfl rfl rfl rfl rfl) ?_
 refine L_st tb rfl rfl ?_
 refine Jq (q_assign rfl) ?_
 refine L_then ?_
 refine C_ret ?_
 have e9 : ((([], []), 12) : Sch) = genA x := by rw [← hgen]; exact (gen_12 hd (by omega) hg h1 h4).symm
 rw [← e9]
 exact ret_of (rs' := [sl (.slice none 0 0) 117 3 [], sl (.slice none 0 0) 3 1 []]) (resCT tb rfl rfl rfl rfl bxo rfl) (fun w_ h_ => ws_nil (ws_nil (sub_nil w_ h_))) own2 ⟨_, _, _, _, _, _, rfl, rfl⟩
 refine C_skip_then ?_
 refine C_seq ?_
 refine C_region ?_
 refine Jq (q_move rfl) ?_
 refine Jq (q_add rfl rfl (by first | exact IntWalk.i64_in _ (by omega) | rfl)) ?_
 refine Jq (q_assign rfl) ?_
 refine L_then ?_
 refine C_seq ?_
 refine C_region ?_
 refine Jq (q_loadA tb rfl rfl bxo rfl rfl) ?_
 refine Jq (q_move rfl) ?_
 refine L_call tb rfl rfl (ct_ascent_task_stay _ _ _ X (gasA X X.de)) no_ps rfl ?_
 refine L_st tb rfl rfl ?_
 refine L_then ?_
 refine C_seq ?_
 refine C_region ?_
 refine Jq (q_loadA tb rfl rfl bxo rfl rfl) ?_
 refine Jq (q_loadA tb rfl rfl bxo rfl rfl) ?_
 refine L_call tb rfl rfl (ct_ascent_task_decided _ _ _ X (gSy X) hX (gSy_ok hX hg)) (ps_cons gvo (ps_cons gvo (ps_cons gvo no_ps))) rfl ?_
 refine Jq (q_move rfl) ?_
 refine Jq (q_ext0 rfl) ?_
 refine Jq (q_ext1 rfl) ?_
 refine Jq (q_assign rfl) ?_
 refine Jq (q_assign rfl) ?_
 refine L_then ?_
 refine C_seq ?_
 refine C_region ?_
 refine Jq (q_move rfl) ?_
 refine Jq (q_neq rfl rfl) ?_
 refine L_then ?_
 refine C_dec rfl (fun h5 => ?_) (fun h5 => ?_)
 refine C_seq ?_
 refine C_region ?_
 refine Jq (by first | exact q_build tb rfl rfl rfl rfl | exact q_buildArr tb rfl rfl rfl rfl rfl) ?_
 refine L_st tb rfl rfl ?_
 refine Jq (q_assign rfl) ?_
 refine L_then ?_
 refine C_ret ?_
 have e9 : ((([], []), 26) : Sch) = genA x := by rw [← hgen]; exact (gen_26 hd (by omega) hg h1 h4 h5).symm
 rw [← e9]
 exact ret_of (rs' := [sl (.slice none 0 0) 117 3 [], sl (.slice none 0 0) 3 1 []]) (resCT tb rfl rfl rfl rfl bxo rfl) (fun w_ h_ => ws_nil (ws_nil (sub_nil w_ h_))) own2 ⟨_, _, _, _, _, _, rfl, rfl⟩
 refine C_skip ?_
 exact fun ac_ wo_ hs_ => ⟨(gSy X, (dcA X (gSy X)).2, s9 + 1), ⟨gSy_ok hX hg, by dsimp only; omega, gen_sy hd (by omega) hg h1 h4 (Decidable.not_not.1 h5)⟩, hs_.weak ⟨rfl, rfl, rfl, rfl, rfl, rfl, trivial⟩ (fun h => h.pk (by repeat (first | with_reducible exact pk_nil | refine pk_box rfl ?_ | refine pk_rd rfl ?_ | refine pk_sl rfl ?_ | with_reducible refine pk_app ?_ | with_reducible refine pk_app0 ?_ | with_reducible refine pk_app0L ?_ | with_reducible exact pk_tl | refine pk_var ?_)))⟩
 rintro ⟨y, f, s8⟩ ⟨hy, hs8, hg8⟩
 dsimp only at hy hs8 hg8 ⊢
 refine C_seq ?_
 refine Kp.C_treeH2 (n := 11) (ι := Value × Value) (.q 0 (.q 1 (.q 2 (.q 5 (.q 6 (.q 7 (.s2 3 8 (.s2 4 8 (.q 10 (.s 8 (.s 9 .nil))) (.s 4 (.q 10 (.s 9 .nil)))) (.s 3 (.s 4 (.q 10 (.s 9 .nil))))))))))) (fun q => ([(1, .pointer (some ⟨g1, 0, none⟩)), (2, .pointer (some ⟨g2, 0, none⟩)), (4, .pointer (some ⟨g4, 0, none⟩)), (5, .int .i64 s8), (7, .pointer (some ⟨g7, 0, none⟩)), (67, q.1), (72, q.2), (73, .pointer (some ⟨g4, 0, none⟩))], [box g4 80 [(.slice A8 (L.map cDl).length c8), (.slice A7 (F.map cI).length c7)], sl q.1 117 3 ((L ++ [y]).map cDl), sl q.2 3 1 ((F ++ [f]).map cI), box g7 117 (cDl y), rd (.slice A9 (X.ls.map cLd).length c9) 4 (X.ls.map cLd), box g1 100 (cAt (.slice Av (x.ts.map cCp).length cv) (.slice A9 (X.ls.map cLd).length c9) (.slice Az (x.gs.map cAg).length cz) X), box g2 80 [.slice none 0 0, .slice none 0 0], rd (.slice Av (x.ts.map cCp).length cv) 4 (X.ts.map cCp), rd (.slice Az (x.gs.map cAg).length cz) 3 (X.gs.map cAg)])) mixed (by kernel_rfl) ?_ ?_
 refine Kp.Zq rfl (q_field tb rfl rfl rfl) ?_
 refine Kp.Zq rfl (q_load tb rfl rfl bxo rfl) ?_
 refine Kp.Zq rfl (q_loadA tb rfl rfl bxo rfl rfl) ?_
 refine Kp.Zq rfl (q_field tb rfl rfl rfl) ?_
 refine Kp.Zq rfl (q_load tb rfl rfl bxo rfl) ?_
 refine Kp.Zq rfl (q_move rfl) ?_
 refine Kp.Z_s2 ?_ ?_
 refine Kp.St_mk rfl rfl rfl rfl (lo_bslice tb rfl rfl rfl (xs := [cDl y]) rfl rfl (by simp [cDl]) rfl (by omega) rfl) fun v66 => ?_
 refine Kp.Z_s2 ?_ ?_
 first | refine Kp.St_append tb rfl rfl rfl (List.Perm.refl _) rfl rfl rfl (by omega) rfl rfl gvo (by simp [Value.oneCell', cDl]) (by simp [maxLen]; omega) (by simp; omega) fun v67 => ?_ | refine Kp.St_append tb rfl rfl rfl perm1 rfl rfl rfl (by omega) rfl rfl gvo (by simp [Value.oneCell', cDl]) (by simp [maxLen]; omega) (by simp; omega) fun v67 => ?_ | refine Kp.St_append tb rfl rfl rfl Kp.perm2 rfl rfl rfl (by omega) rfl rfl gvo (by simp [Value.oneCell', cDl]) (by simp [maxLen]; omega) (by simp; omega) fun v67 => ?_ | refine Kp.St_append tb rfl rfl rfl Kp.perm3 rfl rfl rfl (by omega) rfl rfl gvo (by simp [Value.oneCell', cDl]) (by simp [maxLen]; omega) (by simp; omega) fun v67 => ?_ | refine Kp.St_append tb rfl rfl rfl (perm_front (pre := [_, _])) rfl rfl rfl (by omega) rfl rfl gvo (by simp [Value.oneCell', cDl]) (by simp [maxLen]; omega) (by simp; omega) fun v67 => ?_ | refine Kp.St_append tb rfl rfl rfl (perm_front (pre := [_, _, _])) rfl rfl rfl (by omega) rfl rfl gvo (by simp [Value.oneCell', cDl]) (by simp [maxLen]; omega) (by simp; omega) fun v67 => ?_ | refine Kp.St_append tb rfl rfl rfl (perm_front (pre := [_, _, _, _])) rfl rfl rfl (by omega) rfl rfl gvo (by simp [Value.oneCell', cDl]) (by simp [maxLen]; omega) (by simp; omega) fun v67 => ?_
 refine Kp.Zq rfl (q_field tb rfl rfl rfl) ?_
 refine Kp.Z_s ?_
 refine Kp.St_mk rfl rfl rfl rfl (lo_bslice tb rfl rfl rfl (xs := [[_]]) rfl rfl (by simp) rfl (by omega) rfl) fun v71 => ?_
 refine Kp.Z_s ?_
 first | refine Kp.St_append tb rfl rfl rfl (List.Perm.refl _) rfl rfl rfl (by omega) rfl rfl gvo (by simp [Value.oneCell']) (by simp [maxLen]; omega) (by simp; omega) fun v72 => ?_ | refine Kp.St_append tb rfl rfl rfl perm1 rfl rfl rfl (by omega) rfl rfl gvo (by simp [Value.oneCell']) (by simp [maxLen]; omega) (by simp; omega) fun v72 => ?_ | refine Kp.St_append tb rfl rfl rfl Kp.perm2 rfl rfl rfl (by omega) rfl rfl gvo (by simp [Value.oneCell']) (by simp [maxLen]; omega) (by simp; omega) fun v72 => ?_ | refine Kp.St_append tb rfl rfl rfl Kp.perm3 rfl rfl rfl (by omega) rfl rfl gvo (by simp [Value.oneCell']) (by simp [maxLen]; omega) (by simp; omega) fun v72 => ?_ | refine Kp.St_append tb rfl rfl rfl (perm_front (pre := [_, _])) rfl rfl rfl (by omega) rfl rfl gvo (by simp [Value.oneCell']) (by simp [maxLen]; omega) (by simp; omega) fun v72 => ?_ | refine Kp.St_append tb rfl rfl rfl (perm_front (pre := [_, _, _])) rfl rfl rfl (by omega) rfl rfl gvo (by simp [Value.oneCell']) (by simp [maxLen]; omega) (by simp; omega) fun v72 => ?_ | refine Kp.St_append tb rfl rfl rfl (perm_front (pre := [_, _, _, _])) rfl rfl rfl (by omega) rfl rfl gvo (by simp [Value.oneCell']) (by simp [maxLen]; omega) (by simp; omega) fun v72 => ?_
 refine Kp.Z_nil ?_
 try dsimp only [List.append, List.cons_append, List.nil_append]
 exact ⟨(v67, v72), fun a_ w_ hs_ => hs_.weak ⟨rfl, rfl, rfl, rfl, rfl, rfl, rfl, rfl, trivial⟩ (fun h_ => h_.pk (by repeat (first | with_reducible exact pk_nil | refine pk_box (by first | rfl | exact (dl_snoc _ _) | exact (ci_snoc _ _)) ?_ | refine pk_rd rfl ?_ | refine pk_sl (by first | rfl | exact (dl_snoc _ _) | exact (ci_snoc _ _)) ?_ | with_reducible refine pk_app ?_ | with_reducible refine pk_app0 ?_ | with_reducible refine pk_app0L ?_ | with_reducible exact pk_tl | refine pk_var ?_)))⟩
 refine Kp.St_mk rfl rfl rfl rfl (lo_bslice tb rfl rfl rfl (xs := [[_]]) rfl rfl (by simp) rfl (by omega) rfl) fun v71 => ?_
 refine Kp.Z_s ?_
 first | refine Kp.St_append tb rfl rfl rfl (List.Perm.refl _) rfl rfl rfl (by omega) rfl rfl gvo (by simp [Value.oneCell', cDl]) (by simp [maxLen]; omega) (by simp; omega) fun v67 => ?_ | refine Kp.St_append tb rfl rfl rfl perm1 rfl rfl rfl (by omega) rfl rfl gvo (by simp [Value.oneCell', cDl]) (by simp [maxLen]; omega) (by simp; omega) fun v67 => ?_ | refine Kp.St_append tb rfl rfl rfl Kp.perm2 rfl rfl rfl (by omega) rfl rfl gvo (by simp [Value.oneCell', cDl]) (by simp [maxLen]; omega) (by simp; omega) fun v67 => ?_ | refine Kp.St_append tb rfl rfl rfl Kp.perm3 rfl rfl rfl (by omega) rfl rfl gvo (by simp [Value.oneCell', cDl]) (by simp [maxLen]; omega) (by simp; omega) fun v67 => ?_ | refine Kp.St_append tb rfl rfl rfl (perm_front (pre := [_, _])) rfl rfl rfl (by omega) rfl rfl gvo (by simp [Value.oneCell', cDl]) (by simp [maxLen]; omega) (by simp; omega) fun v67 => ?_ | refine Kp.St_append tb rfl rfl rfl (perm_front (pre := [_, _, _])) rfl rfl rfl (by omega) rfl rfl gvo (by simp [Value.oneCell', cDl]) (by simp [maxLen]; omega) (by simp; omega) fun v67 => ?_ | refine Kp.St_append tb rfl rfl rfl (perm_front (pre := [_, _, _, _])) rfl rfl rfl (by omega) rfl rfl gvo (by simp [Value.oneCell', cDl]) (by simp [maxLen]; omega) (by simp; omega) fun v67 => ?_
 refine Kp.Zq rfl (q_field tb rfl rfl rfl) ?_
 refine Kp.Z_s ?_
 first | refine Kp.St_append tb rfl rfl rfl (List.Perm.refl _) rfl rfl rfl (by omega) rfl rfl gvo (by simp [Value.oneCell']) (by simp [maxLen]; omega) (by simp; omega) fun v72 => ?_ | refine Kp.St_append tb rfl rfl rfl perm1 rfl rfl rfl (by omega) rfl rfl gvo (by simp [Value.oneCell']) (by simp [maxLen]; omega) (by simp; omega) fun v72 => ?_ | refine Kp.St_append tb rfl rfl rfl Kp.perm2 rfl rfl rfl (by omega) rfl rfl gvo (by simp [Value.oneCell']) (by simp [maxLen]; omega) (by simp; omega) fun v72 => ?_ | refine Kp.St_append tb rfl rfl rfl Kp.perm3 rfl rfl rfl (by omega) rfl rfl gvo (by simp [Value.oneCell']) (by simp [maxLen]; omega) (by simp; omega) fun v72 => ?_ | refine Kp.St_append tb rfl rfl rfl (perm_front (pre := [_, _])) rfl rfl rfl (by omega) rfl rfl gvo (by simp [Value.oneCell']) (by simp [maxLen]; omega) (by simp; omega) fun v72 => ?_ | refine Kp.St_append tb rfl rfl rfl (perm_front (pre := [_, _, _])) rfl rfl rfl (by omega) rfl rfl gvo (by simp [Value.oneCell']) (by simp [maxLen]; omega) (by simp; omega) fun v72 => ?_ | refine Kp.St_append tb rfl rfl rfl (perm_front (pre := [_, _, _, _])) rfl rfl rfl (by omega) rfl rfl gvo (by simp [Value.oneCell']) (by simp [maxLen]; omega) (by simp; omega) fun v72 => ?_
 refine Kp.Z_nil ?_
 try dsimp only [List.append, List.cons_append, List.nil_append]
 exact ⟨(v67, v72), fun a_ w_ hs_ => hs_.weak ⟨rfl, rfl, rfl, rfl, rfl, rfl, rfl, rfl, trivial⟩ (fun h_ => h_.pk (by repeat (first | with_reducible exact pk_nil | refine pk_box (by first | rfl | exact (dl_snoc _ _) | exact (ci_snoc _ _)) ?_ | refine pk_rd rfl ?_ | refine pk_sl (by first | rfl | exact (dl_snoc _ _) | exact (ci_snoc _ _)) ?_ | with_reducible refine pk_app ?_ | with_reducible refine pk_app0 ?_ | with_reducible refine pk_app0L ?_ | with_reducible exact pk_tl | refine pk_var ?_)))⟩
 refine Kp.St_mk rfl rfl rfl rfl (lo_bslice tb rfl rfl rfl (xs := [[_]]) rfl rfl (by simp) rfl (by omega) rfl) fun v71 => ?_
 refine Kp.Z_s ?_
 refine Kp.St_mk rfl rfl rfl rfl (lo_bslice tb rfl rfl rfl (xs := [cDl y]) rfl rfl (by simp [cDl]) rfl (by omega) rfl) fun v66 => ?_
 refine Kp.Z_s ?_
 first | refine Kp.St_append tb rfl rfl rfl (List.Perm.refl _) rfl rfl rfl (by omega) rfl rfl gvo (by simp [Value.oneCell', cDl]) (by simp [maxLen]; omega) (by simp; omega) fun v67 => ?_ | refine Kp.St_append tb rfl rfl rfl perm1 rfl rfl rfl (by omega) rfl rfl gvo (by simp [Value.oneCell', cDl]) (by simp [maxLen]; omega) (by simp; omega) fun v67 => ?_ | refine Kp.St_append tb rfl rfl rfl Kp.perm2 rfl rfl rfl (by omega) rfl rfl gvo (by simp [Value.oneCell', cDl]) (by simp [maxLen]; omega) (by simp; omega) fun v67 => ?_ | refine Kp.St_append tb rfl rfl rfl Kp.perm3 rfl rfl rfl (by omega) rfl rfl gvo (by simp [Value.oneCell', cDl]) (by simp [maxLen]; omega) (by simp; omega) fun v67 => ?_ | refine Kp.St_append tb rfl rfl rfl (perm_front (pre := [_, _])) rfl rfl rfl (by omega) rfl rfl gvo (by simp [Value.oneCell', cDl]) (by simp [maxLen]; omega) (by simp; omega) fun v67 => ?_ | refine Kp.St_append tb rfl rfl rfl (perm_front (pre := [_, _, _])) rfl rfl rfl (by omega) rfl rfl gvo (by simp [Value.oneCell', cDl]) (by simp [maxLen]; omega) (by simp; omega) fun v67 => ?_ | refine Kp.St_append tb rfl rfl rfl (perm_front (pre := [_, _, _, _])) rfl rfl rfl (by omega) rfl rfl gvo (by simp [Value.oneCell', cDl]) (by simp [maxLen]; omega) (by simp; omega) fun v67 => ?_
 refine Kp.Zq rfl (q_field tb rfl rfl rfl) ?_
 refine Kp.Z_s ?_
 first | refine Kp.St_append tb rfl rfl rfl (List.Perm.refl _) rfl rfl rfl (by omega) rfl rfl gvo (by simp [Value.oneCell']) (by simp [maxLen]; omega) (by simp; omega) fun v72 => ?_ | refine Kp.St_append tb rfl rfl rfl perm1 rfl rfl rfl (by omega) rfl rfl gvo (by simp [Value.oneCell']) (by simp [maxLen]; omega) (by simp; omega) fun v72 => ?_ | refine Kp.St_append tb rfl rfl rfl Kp.perm2 rfl rfl rfl (by omega) rfl rfl gvo (by simp [Value.oneCell']) (by simp [maxLen]; omega) (by simp; omega) fun v72 => ?_ | refine Kp.St_append tb rfl rfl rfl Kp.perm3 rfl rfl rfl (by omega) rfl rfl gvo (by simp [Value.oneCell']) (by simp [maxLen]; omega) (by simp; omega) fun v72 => ?_ | refine Kp.St_append tb rfl rfl rfl (perm_front (pre := [_, _])) rfl rfl rfl (by omega) rfl rfl gvo (by simp [Value.oneCell']) (by simp [maxLen]; omega) (by simp; omega) fun v72 => ?_ | refine Kp.St_append tb rfl rfl rfl (perm_front (pre := [_, _, _])) rfl rfl rfl (by omega) rfl rfl gvo (by simp [Value.oneCell']) (by simp [maxLen]; omega) (by simp; omega) fun v72 => ?_ | refine Kp.St_append tb rfl rfl rfl (perm_front (pre := [_, _, _, _])) rfl rfl rfl (by omega) rfl rfl gvo (by simp [Value.oneCell']) (by simp [maxLen]; omega) (by simp; omega) fun v72 => ?_
 refine Kp.Z_nil ?_
 try dsimp only [List.append, List.cons_append, List.nil_append]
 exact ⟨(v67, v72), fun a_ w_ hs_ => hs_.weak ⟨rfl, rfl, rfl, rfl, rfl, rfl, rfl, rfl, trivial⟩ (fun h_ => h_.pk (by repeat (first | with_reducible exact pk_nil | refine pk_box (by first | rfl | exact (dl_snoc _ _) | exact (ci_snoc _ _)) ?_ | refine pk_rd rfl ?_ | refine pk_sl (by first | rfl | exact (dl_snoc _ _) | exact (ci_snoc _ _)) ?_ | with_reducible refine pk_app ?_ | with_reducible refine pk_app0 ?_ | with_reducible refine pk_app0L ?_ | with_reducible exact pk_tl | refine pk_var ?_)))⟩
 (rintro ⟨v67, v72⟩; dsimp only; refine L_form (v := v67) gvo (fun A67 c67 hv67 _ => ?_); subst hv67; refine L_form (v := v72) gvo (fun A72 c72 hv72 _ => ?_); subst hv72)
 refine L_st tb rfl rfl ?_
 refine Jq (q_field tb rfl rfl rfl) ?_
 refine L_st tb rfl rfl ?_
 refine L_then ?_
 refine C_region ?_
 refine Jq (q_loadA tb rfl rfl bxo rfl rfl) ?_
 refine Jq (q_loadA tb rfl rfl bxo rfl rfl) ?_
 refine L_lo rfl rfl rfl (lo_call tb rfl rfl (ct_ascent_task_behind _ _ _ X y hX hy) (ps_cons gvo (ps_cons gvo (ps_cons gvo no_ps))) isBh_sinks) ?_
 rintro _ _ ⟨A77, n77, c77, rfl, rfl⟩
 refine L_st tb rfl rfl ?_
 refine L_end ?_
 exact fun ac_ wo_ hs_ => ⟨(bhA X y, s8, L ++ [y], F ++ [f], .slice A77 n77 c77, .slice A67 ((L ++ [y]).map cDl).length c67, .slice A72 ((F ++ [f]).map cI).length c72), ⟨bh_ok hX hy, by simp only [List.length_append, List.length_singleton]; omega, by simp only [List.length_append, List.length_singleton]; omega, hs8, by rw [← hgen, hg8]; simp only [List.length_append, List.length_singleton, Nat.sub_sub]⟩, (by simp only [List.length_append, List.length_singleton]; omega), hs_.weak ⟨rfl, rfl, rfl, rfl, trivial⟩ (fun h_ => sl_to_rd (show WS _ _ (sl (.slice A77 n77 c77) 134 4 ((bhA X y).ls.map cLd) :: _) _ from h_.pk (by repeat (first | with_reducible exact pk_nil | refine pk_box rfl ?_ | refine pk_rd rfl ?_ | refine pk_sl rfl ?_ | with_reducible refine pk_app ?_ | with_reducible refine pk_app0 ?_ | with_reducible refine pk_app0L ?_ | with_reducible exact pk_tl | refine pk_var ?_))))⟩
 have hd : X.de = 0 := by omega
 refine C_exit ?_
 change C Tryz.prog _ _ _ _ _ _ _
 refine C_seq ?_
 refine C_region ?_
 refine Jq (q_loadA tb rfl rfl bxo rfl rfl) ?_
 refine L_st tb rfl rfl ?_
 refine Jq (q_assign rfl) ?_
 refine L_then ?_
 refine C_ret ?_
 have e9 : (((L, F), 0) : Sch) = genA x := by rw [← hgen]; exact (gen_0 hd).symm
 rw [← e9]
 exact ret_of (rs' := [sl _ 117 3 (L.map cDl), sl _ 3 1 (F.map cI)]) (resCT tb rfl rfl rfl rfl bxo rfl) (fun w_ h_ => h_.pk (by repeat (first | with_reducible exact pk_nil | refine pk_box rfl ?_ | refine pk_rd rfl ?_ | refine pk_sl rfl ?_ | with_reducible refine pk_app ?_ | with_reducible refine pk_app0 ?_ | with_reducible refine pk_app0L ?_ | with_reducible exact pk_tl | refine pk_var ?_))) own2 ⟨_, _, _, _, _, _, rfl, rfl⟩
set_option maxRecDepth 100000 in
set_option maxHeartbeats 2000000 in
theorem ct_ascent_Generate (v u z : Value) (x : Asc) (hle1 : x.ts.length ≤ 100000) (hle2 : x.ls.length ≤ 100000) (hle3 : x.gs.length ≤ 100000) : Ct Tryz.prog 46 [.agg (cAt v u z x).toArray] [(v, 4, x.ts.map cCp), (u, 4, x.ls.map cLd), (z, 3, x.gs.map cAg)] (isSc 117 3 (gnE x)) := by
 refine Ct.of (N := 19) Tryz.func46 rfl rfl rfl fun w => ?_
 refine C_weak (E' := [(0, .agg (cAt v u z x).toArray)]) (rs' := [rd v 4 (x.ts.map cCp), rd u 4 (x.ls.map cLd), rd z 3 (x.gs.map cAg)]) ⟨rfl, trivial⟩ (fun _ h => h) ?_
 have hl1 := len_map cCp x.ts
 have hl2 := len_map cLd x.ls
 have hl3 := len_map cAg x.gs
 refine C_seq ?_
 refine C_region ?_
 refine L_box rfl rfl rfl fun g1 => ?_
 refine L_alloc tb rfl rfl fun g2 => ?_
 refine Jq (q_assign rfl) ?_
 refine L_then ?_
 refine C_seq ?_
 refine C_region ?_
 refine Jq (q_loadA tb rfl rfl bxo rfl rfl) ?_
 refine L_lo rfl rfl rfl (lo_call tb rfl rfl (ct_ascent_open v u z x (by omega) (by omega) (by omega)) (ps_cons gvo (ps_cons gvo (ps_cons gvo no_ps))) isTk_sinks) ?_
 rintro _ _ ⟨A8, n8, c8, B8, m8, d8, C8, k8, e8, rfl, rfl⟩
 refine Jq (q_move rfl) ?_
 refine Jq (q_ext0 rfl) ?_
 refine Jq (q_ext1 rfl) ?_
 refine L_alloc tb rfl rfl fun g4 => ?_
 refine L_st tb rfl rfl ?_
 refine Jq (q_assign rfl) ?_
 refine L_then ?_
 refine C_seq ?_
 refine C_seq ?_
 refine C_region ?_
 refine Jq (q_move rfl) ?_
 refine Jq (q_neq rfl rfl) ?_
 refine L_then ?_
 refine C_dec rfl (fun h1 => ?_) (fun h1 => ?_)
 refine C_seq ?_
 refine C_region ?_
 refine Jq (by first | exact q_build tb rfl rfl rfl rfl | exact q_buildArr tb rfl rfl rfl rfl rfl) ?_
 refine Jq (q_move rfl) ?_
 refine L_st tb rfl rfl ?_
 refine Jq (q_assign rfl) ?_
 refine L_then ?_
 refine C_ret ?_
 rw [gnE_1 h1]
 exact ret_of (rs' := [sl (.slice none 0 0) 117 3 [], sl (.slice none 0 0) 3 1 []]) (resCT tb rfl rfl rfl rfl bxo rfl) (fun w_ h_ => ws_nil (ws_nil (sub_nil w_ h_))) own2 ⟨_, _, _, _, _, _, rfl, rfl⟩
 have hz := Decidable.not_not.1 h1
 rw [opA_2 hz]
 have H := ckAsc_ok hz
 refine C_skip_then ?_
 refine C_seq ?_
 refine C_region ?_
 refine Jq (q_loadA tb rfl rfl bxo rfl rfl) ?_
 refine L_lo rfl rfl rfl (lo_call tb rfl rfl (ct_ascent_task_generate _ _ _ x H) (ps_cons gvo (ps_cons gvo (ps_cons gvo no_ps))) isSc_sinks) ?_
 rintro _ _ ⟨A16, n16, c16, B16, m16, d16, rfl, rfl⟩
 refine Jq (q_ext0 rfl) ?_
 refine Jq (q_ext1 rfl) ?_
 refine L_st tb rfl rfl ?_
 refine Jq (q_assign rfl) ?_
 refine L_then ?_
 refine C_ret ?_
 rw [gnE_2 hz]
 exact ret_of (rs' := [sl _ 117 3 ((genA x).1.1.map cDl), sl _ 3 1 ((genA x).1.2.map cI)]) (resCT tb rfl rfl rfl rfl bxo rfl) (fun w_ h_ => h_.pk (by repeat (first | with_reducible exact pk_nil | refine pk_box rfl ?_ | refine pk_rd rfl ?_ | refine pk_sl rfl ?_ | with_reducible refine pk_app ?_ | with_reducible refine pk_app0 ?_ | with_reducible refine pk_app0L ?_ | with_reducible exact pk_tl | refine pk_var ?_))) own2 ⟨_, _, _, _, _, _, rfl, rfl⟩
end Go.Proofs.YtacndicgpkeobaaGreatDoor
