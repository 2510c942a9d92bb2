/-
  Walks: each function named returns what its model says. Conditions: those in front of each theorem.
-/
import Derived.Test.YthilaakeimfedaaGreatDoorAB
import Derived.Test.YthilaakeimfedaaGreatDoorT
namespace Go.Proofs.YthilaakeimfedaaGreatDoor
set_option maxRecDepth 100000
set_option maxHeartbeats 4000000
open Go.RowKit

set_option maxRecDepth 100000 in
theorem ct_ascent_task_rules (v u z : Value) (x : Asc) : Ct Tryz.prog 173 [.agg (cAt v u z x).toArray] [] (isV (.agg (cRl x.r).toArray)) := by
 refine Ct.of (N := 7) Tryz.func173 rfl rfl rfl fun w => ?_
 refine C_weak (E' := [(0, .agg (cAt v u z x).toArray)]) (rs' := []) ⟨rfl, trivial⟩ (fun _ h => h) ?_
 refine C_seq ?_
 refine C_region ?_
 refine L_box rfl rfl rfl fun g1 => ?_
 refine L_alloc tb rfl rfl fun g2 => ?_
 refine L_then ?_
 refine C_seq ?_
 refine C_region ?_
 refine Jq (q_field tb rfl rfl rfl) ?_
 refine Jq (q_field tb rfl rfl rfl) ?_
 refine Jq (q_loadA tb rfl rfl bxo rfl rfl) ?_
 refine Jq (by first | exact q_build tb rfl rfl rfl rfl | exact q_buildArr tb rfl rfl rfl rfl rfl) ?_
 refine L_st tb rfl rfl ?_
 refine L_then ?_
 refine C_ret ?_
 exact ret_of (resC tb rfl rfl rfl bxo rfl) sub_nil (by intro r hr; cases hr) ⟨rfl, rfl⟩
set_option maxRecDepth 100000 in
theorem ct_ascent_task_check (v u z : Value) (x : Asc) (y : Dl) (H : okAsc x) : Ct Tryz.prog 118 [.agg (cAt v u z x).toArray, .agg (cDl y).toArray] [(z, 3, x.gs.map cAg)] (isV (.int .i64 (ckAl x y))) := by
 refine Ct.of (N := 58) Tryz.func118 rfl rfl rfl fun w => ?_
 refine C_weak (E' := [(0, .agg (cAt v u z x).toArray), (1, .agg (cDl y).toArray)]) (rs' := [rd z 3 (x.gs.map cAg)]) ⟨rfl, rfl, trivial⟩ (fun _ h => h) ?_
 have hl1 := len_map cCp x.ts
 have hl2 := len_map cLd x.ls
 have hl3 := len_map cAg x.gs
 have hde := H.de; have hsu := H.su; have hbl := beh_len H; have hrs := H.r.st; have hrf := H.r.fi
 refine C_seq ?_
 refine C_region ?_
 refine L_box rfl rfl rfl fun g2 => ?_
 refine L_box rfl rfl rfl fun g3 => ?_
 refine Jq (q_assign rfl) ?_
 refine L_then ?_
 refine C_seq ?_
 refine C_block ?_
 refine C_seq ?_
 refine C_region ?_
 refine Jq (q_field tb rfl rfl rfl) ?_
 refine Jq (q_load tb rfl rfl bxo rfl) ?_
 refine L_call tb rfl rfl (ct_ascent_isSeconds _) no_ps rfl ?_
 refine Jq (q_not rfl decide_not.symm) ?_
 refine Jq (q_move rfl) ?_
 refine L_dec (d := 10) rfl (fun h1 => ?_) (fun h1 => ?_)
 iterate 4 refine Jk ?_
 refine Jq (q_pickT rfl rfl) ?_
 refine Jq (q_assign rfl) ?_
 refine L_then ?_
 refine C_true rfl ?_
 refine C_seq ?_
 refine C_region ?_
 refine Jq (q_assign rfl) ?_
 refine L_then ?_
 refine C_ret ?_
 exact ret_of (res1 rfl rfl) sub_nil (by intro r hr; cases hr) ⟨(congrArg (Value.int .i64) (by exact (al_1 (by omega)).symm)), rfl⟩
 refine Jg (q_field tb rfl rfl rfl) ?_
 refine Jg (q_load tb rfl rfl bxo rfl) ?_
 refine L_callg tb rfl rfl rfl rfl rfl rfl (ct_ascent_isDepth _) no_ps rfl ?_
 refine Jg (q_not rfl decide_not.symm) ?_
 refine Jq (q_pickF rfl rfl) ?_
 refine Jq (q_assign rfl) ?_
 refine L_then ?_
 refine C_dec rfl (fun a1 => ?_) (fun a1 => ?_)
 refine C_seq ?_
 refine C_region ?_
 refine Jq (q_assign rfl) ?_
 refine L_then ?_
 refine C_ret ?_
 exact ret_of (res1 rfl rfl) sub_nil (by intro r hr; cases hr) ⟨(congrArg (Value.int .i64) (by exact (al_1 (by omega)).symm)), rfl⟩
 have hA : (1 ≤ y.s ∧ y.s ≤ 100000) ∧ 0 ≤ y.d ∧ y.d ≤ 30000 := by omega
 refine C_seq ?_
 refine C_region ?_
 refine Jq (q_field tb rfl rfl rfl) ?_
 refine Jq (q_load tb rfl rfl bxo rfl) ?_
 refine Jq (q_field tb rfl rfl rfl) ?_
 refine Jq (q_field tb rfl rfl rfl) ?_
 refine Jq (q_load tb rfl rfl bxo rfl) ?_
 refine Jq (q_len tb rfl rfl gvo) ?_
 refine Jq (q_sub rfl rfl (by first | exact IntWalk.i64_in _ (by omega) | rfl)) ?_
 refine L_call tb rfl rfl (ct_ascent_within _ _ _) no_ps rfl ?_
 refine Jq (q_not rfl decide_not.symm) ?_
 refine Jq (q_assign rfl) ?_
 refine L_then ?_
 refine C_dec rfl (fun a2 => ?_) (fun a2 => ?_)
 refine C_seq ?_
 refine C_region ?_
 refine Jq (q_assign rfl) ?_
 refine L_then ?_
 refine C_ret ?_
 exact ret_of (res1 rfl rfl) sub_nil (by intro r hr; cases hr) ⟨(congrArg (Value.int .i64) (by rw [hl3] at a2; exact (al_2 hA a2).symm)), rfl⟩
 have hB : 0 ≤ y.g ∧ y.g ≤ (x.gs.length : Int) - 1 := by omega
 have hel := ag_cell (l := x.gs) (i := y.g) (by omega) (by omega)
 refine C_seq ?_
 refine C_draw (n := 12) [(0, false), (1, false), (2, false), (3, false), (4, false), (5, false), (6, false), (7, false), (8, false), (9, false), (10, false), (11, false)] mixed (by kernel_rfl) ?_
 refine Yq rfl (q_field tb rfl rfl rfl) ?_
 refine Yq rfl (q_field tb rfl rfl rfl) ?_
 refine Yq rfl (q_load tb rfl rfl bxo rfl) ?_
 refine Yq rfl (q_field tb rfl rfl rfl) ?_
 refine Yq rfl (q_field tb rfl rfl rfl) ?_
 refine Yq rfl (q_load tb rfl rfl bxo rfl) ?_
 refine Yq rfl (q_field tb rfl rfl rfl) ?_
 refine Yq rfl (q_load tb rfl rfl bxo rfl) ?_
 refine Yq rfl (by first | exact q_index tb rfl rfl rfl rfl gvo (by omega) (by first | omega | (simp; done) | (simp; omega)) | exact q_indexP tb rfl rfl rfl rfl (by omega) (by omega)) ?_
 refine Yq rfl (q_fieldE tb rfl rfl rfl gvo (by first | omega | (simp; done) | (simp; omega))) ?_
 refine Yq rfl (q_loadE tb rfl rfl gvo (i := y.g.toNat) (o := 2) (by omega) hel rfl) ?_
 refine Yq rfl (q_gtr rfl rfl) ?_
 refine W_nil ?_
 refine Jq (q_assign rfl) ?_
 refine L_then ?_
 refine C_dec rfl (fun a3 => ?_) (fun a3 => ?_)
 refine C_seq ?_
 refine C_region ?_
 refine Jq (q_assign rfl) ?_
 refine L_then ?_
 refine C_ret ?_
 exact ret_of (res1 rfl rfl) sub_nil (by intro r hr; cases hr) ⟨(congrArg (Value.int .i64) (by rw [al_3 hA hB, if_pos a3])), rfl⟩
 refine C_seq ?_
 refine C_region ?_
 refine Jq (q_field tb rfl rfl rfl) ?_
 refine Jq (q_load tb rfl rfl bxo rfl) ?_
 refine Jq (q_field tb rfl rfl rfl) ?_
 refine Jq (q_field tb rfl rfl rfl) ?_
 refine Jq (q_load tb rfl rfl bxo rfl) ?_
 refine Jq (q_gtr rfl rfl) ?_
 refine Jq (q_assign rfl) ?_
 refine L_then ?_
 refine C_dec rfl (fun a4 => ?_) (fun a4 => ?_)
 refine C_seq ?_
 refine C_region ?_
 refine Jq (q_assign rfl) ?_
 refine L_then ?_
 refine C_ret ?_
 exact ret_of (res1 rfl rfl) sub_nil (by intro r hr; cases hr) ⟨(congrArg (Value.int .i64) (by rw [al_3 hA hB, if_neg a3, if_pos a4])), rfl⟩
 refine C_seq ?_
 refine C_draw (n := 11) [(0, false), (1, false), (2, false), (4, false), (5, false), (6, false), (7, false), (8, false), (3, true), (9, true), (10, false)] mixed (by kernel_rfl) ?_
 refine Yq rfl (q_field tb rfl rfl rfl) ?_
 refine Yq rfl (q_load tb rfl rfl bxo rfl) ?_
 refine Yq rfl (q_loadA tb rfl rfl bxo rfl rfl) ?_
 refine Yq rfl (q_field tb rfl rfl rfl) ?_
 refine Yq rfl (q_field tb rfl rfl rfl) ?_
 refine Yq rfl (q_load tb rfl rfl bxo rfl) ?_
 refine Yq rfl (q_field tb rfl rfl rfl) ?_
 refine Yq rfl (q_load tb rfl rfl bxo rfl) ?_
 refine W_call tb rfl rfl rfl rfl (ct_ascent_task_rules _ _ _ x) no_ps rfl ?_
 refine W_call tb rfl rfl rfl rfl (ct_ascent_rules_rise x.r H.r x.de y.d (by omega) (by omega) (by omega)) no_ps rfl ?_
 refine Yq rfl (q_lss rfl rfl) ?_
 refine W_nil ?_
 refine Jq (q_assign rfl) ?_
 refine L_then ?_
 refine C_dec rfl (fun a5 => ?_) (fun a5 => ?_)
 refine C_seq ?_
 refine C_region ?_
 refine Jq (q_assign rfl) ?_
 refine L_then ?_
 refine C_ret ?_
 exact ret_of (res1 rfl rfl) sub_nil (by intro r hr; cases hr) ⟨(congrArg (Value.int .i64) (by rw [al_3 hA hB, if_neg a3, if_neg a4, if_pos a5])), rfl⟩
 refine C_skip_blk ?_
 refine C_seq ?_
 refine C_region ?_
 refine Jq (q_assign rfl) ?_
 refine L_then ?_
 refine C_ret ?_
 exact ret_of (res1 rfl rfl) sub_nil (by intro r hr; cases hr) ⟨(congrArg (Value.int .i64) (by rw [al_3 hA hB, if_neg a3, if_neg a4, if_neg a5])), rfl⟩
set_option maxRecDepth 100000 in
set_option maxHeartbeats 2000000 in
theorem ct_ascent_task_tissues (v u z : Value) (x : Asc) (y : Dl) (H : okAsc x) (hy : okAl x y) : Ct Tryz.prog 114 [.agg (cAt v u z x).toArray, .agg (cDl y).toArray] [(v, 4, x.ts.map cCp), (u, 4, x.ls.map cLd), (z, 3, x.gs.map cAg)] (isTt 66 139 x.ts x.ls (lgA x y) (faA x)) := by
 refine Ct.of (N := 44) Tryz.func114 rfl rfl rfl fun w => ?_
 refine C_weak (E' := [(0, .agg (cAt v u z x).toArray), (1, .agg (cDl y).toArray)]) (rs' := [rd v 4 (x.ts.map cCp), rd u 4 (x.ls.map cLd), rd z 3 (x.gs.map cAg)]) ⟨rfl, rfl, trivial⟩ (fun _ h => h) ?_
 have hl1 := len_map cCp x.ts
 have hl2 := len_map cLd x.ls
 have hl3 := len_map cAg x.gs
 have hde := H.de; have hsu := H.su; have hbl := beh_len H; have hrs := H.r.st; have hrf := H.r.fi
 have hyg := hy.g; have hyd := hy.d; have hys := hy.s; have hel := ag_cell (l := x.gs) (i := y.g) (by omega) (by omega)
 refine C_seq ?_
 refine C_region ?_
 refine L_box rfl rfl rfl fun g2 => ?_
 refine L_box rfl rfl rfl fun g3 => ?_
 refine L_alloc tb rfl rfl fun g4 => ?_
 refine L_then ?_
 refine C_seq ?_
 refine C_draw (n := 39) [(0, false), (1, false), (2, false), (4, false), (5, false), (6, false), (8, false), (9, false), (10, false), (11, false), (12, false), (13, false), (14, false), (15, false), (16, false), (17, false), (18, false), (19, false), (20, false), (21, false), (22, false), (23, false), (24, false), (25, false), (26, false), (27, false), (28, false), (29, false), (30, false), (31, false), (32, false), (34, false), (35, false), (36, false), (3, true), (7, true), (33, true), (37, true), (38, false)] mixed (by kernel_rfl) ?_
 refine Yq rfl (q_field tb rfl rfl rfl) ?_
 refine Yq rfl (q_field tb rfl rfl rfl) ?_
 refine Yq rfl (q_load tb rfl rfl bxo rfl) ?_
 refine Yq rfl (q_field tb rfl rfl rfl) ?_
 refine Yq rfl (q_field tb rfl rfl rfl) ?_
 refine Yq rfl (q_load tb rfl rfl bxo rfl) ?_
 refine Yq rfl (q_field tb rfl rfl rfl) ?_
 refine Yq rfl (q_field tb rfl rfl rfl) ?_
 refine Yq rfl (q_load tb rfl rfl bxo rfl) ?_
 refine Yq rfl (q_field tb rfl rfl rfl) ?_
 refine Yq rfl (q_field tb rfl rfl rfl) ?_
 refine Yq rfl (q_load tb rfl rfl bxo rfl) ?_
 refine Yq rfl (q_add rfl rfl (by first | exact IntWalk.i64_in _ (by omega) | rfl)) ?_
 refine Yq rfl (q_field tb rfl rfl rfl) ?_
 refine Yq rfl (q_field tb rfl rfl rfl) ?_
 refine Yq rfl (q_load tb rfl rfl bxo rfl) ?_
 refine Yq rfl (q_field tb rfl rfl rfl) ?_
 refine Yq rfl (q_load tb rfl rfl bxo rfl) ?_
 refine Yq rfl (q_add rfl rfl (by first | exact IntWalk.i64_in _ (by omega) | rfl)) ?_
 refine Yq rfl (q_field tb rfl rfl rfl) ?_
 refine Yq rfl (q_load tb rfl rfl bxo rfl) ?_
 refine Yq rfl (q_field tb rfl rfl rfl) ?_
 refine Yq rfl (q_field tb rfl rfl rfl) ?_
 refine Yq rfl (q_load tb rfl rfl bxo rfl) ?_
 refine Yq rfl (q_field tb rfl rfl rfl) ?_
 refine Yq rfl (q_load tb rfl rfl bxo rfl) ?_
 refine Yq rfl (by first | exact q_index tb rfl rfl rfl rfl gvo (by omega) (by first | omega | (simp; done) | (simp; omega)) | exact q_indexP tb rfl rfl rfl rfl (by omega) (by omega)) ?_
 refine Yq rfl (q_fieldE tb rfl rfl rfl gvo (by first | omega | (simp; done) | (simp; omega))) ?_
 refine Yq rfl (q_loadEA tb rfl rfl gvo (i := y.g.toNat) (o := 0) (by omega) hel rfl rfl) ?_
 refine Yq rfl (by first | exact q_build tb rfl rfl rfl rfl | exact q_buildArr tb rfl rfl rfl rfl rfl) ?_
 refine Yq rfl (q_loadA tb rfl rfl bxo rfl rfl) ?_
 refine Yq rfl (q_field tb rfl rfl rfl) ?_
 refine Yq rfl (q_field tb rfl rfl rfl) ?_
 refine Yq rfl (q_load tb rfl rfl bxo rfl) ?_
 refine W_callSF tb rfl rfl rfl rfl (ct_CloneTable v x.ts (by omega)) (ps_cons gvo no_ps) rfl fun A8 n8 c8 => ?_
 refine W_callSF tb rfl rfl rfl rfl (ct_CloneLoads u x.ls (by omega)) (ps_cons gvo no_ps) rfl fun A12 n12 c12 => ?_
 refine W_call tb rfl rfl rfl rfl (ct_ascent_task_rules _ _ _ x) no_ps rfl ?_
 refine W_call tb rfl rfl rfl rfl (ct_ascent_rules_factor x.r H.r x.de (by omega)) no_ps rfl ?_
 refine Yq rfl (by first | exact q_build tb rfl rfl rfl rfl | exact q_buildArr tb rfl rfl rfl rfl rfl) ?_
 refine W_nil ?_
 refine L_st tb rfl rfl ?_
 refine L_then ?_
 refine C_ret ?_
 exact ret_of (rs' := [sl _ 66 4 (x.ts.map cCp), sl _ 139 4 (x.ls.map cLd)]) (resC tb rfl rfl rfl bxo rfl) (fun w_ h_ => h_.pk (by repeat (first | with_reducible exact pk_nil | refine pk_box rfl ?_ | refine pk_rd rfl ?_ | refine pk_sl rfl ?_ | with_reducible refine pk_app ?_ | with_reducible refine pk_app0 ?_ | with_reducible refine pk_app0L ?_ | with_reducible exact pk_tl | refine pk_var ?_))) own2 ⟨_, _, _, _, _, _, rfl, rfl⟩
set_option maxRecDepth 100000 in
set_option maxHeartbeats 2000000 in
theorem ct_ascent_task_behind (v u z : Value) (x : Asc) (y : Dl) (H : okAsc x) (hy : okAl x y) : Ct Tryz.prog 97 [.agg (cAt v u z x).toArray, .agg (cDl y).toArray] [(v, 4, x.ts.map cCp), (u, 4, x.ls.map cLd), (z, 3, x.gs.map cAg)] (isBh 139 v z (bhA x y)) := by
 refine Ct.of (N := 30) Tryz.func97 rfl rfl rfl fun w => ?_
 refine C_weak (E' := [(0, .agg (cAt v u z x).toArray), (1, .agg (cDl y).toArray)]) (rs' := [rd v 4 (x.ts.map cCp), rd u 4 (x.ls.map cLd), rd z 3 (x.gs.map cAg)]) ⟨rfl, rfl, trivial⟩ (fun _ h => h) ?_
 have hl1 := len_map cCp x.ts
 have hl2 := len_map cLd x.ls
 have hl3 := len_map cAg x.gs
 have hde := H.de; have hsu := H.su; have hbl := beh_len H; have hrs := H.r.st; have hrf := H.r.fi
 refine C_form (v := v) gvo (fun Av cv hv _ => ?_)
 subst hv
 refine C_form (v := u) gvo (fun Au cu hu _ => ?_)
 subst hu
 refine C_form (v := z) gvo (fun Az cz hz _ => ?_)
 subst hz
 refine C_seq ?_
 refine C_region ?_
 refine L_box rfl rfl rfl fun g2 => ?_
 refine L_box rfl rfl rfl fun g3 => ?_
 refine L_alloc tb rfl rfl fun g4 => ?_
 refine L_then ?_
 refine C_seq ?_
 refine C_region ?_
 refine Jq (q_loadA tb rfl rfl bxo rfl rfl) ?_
 refine Jq (q_loadA tb rfl rfl bxo rfl rfl) ?_
 refine L_lo rfl rfl rfl (lo_call tb rfl rfl (ct_ascent_task_tissues _ _ _ x y H hy) (ps_cons gvo (ps_cons gvo (ps_cons gvo no_ps))) isTt_sinks) ?_
 rintro _ _ ⟨A8, n8, c8, B8, m8, d8, rfl, rfl⟩
 refine L_alloc tb rfl rfl fun g5 => ?_
 refine L_st tb rfl rfl ?_
 refine L_then ?_
 refine C_seq ?_
 refine C_region ?_
 refine Jq (q_field tb rfl rfl rfl) ?_
 refine Jq (q_load tb rfl rfl bxo rfl) ?_
 refine Jq (q_field tb rfl rfl rfl) ?_
 refine Jq (q_load tb rfl rfl bxo rfl) ?_
 refine Jq (q_field tb rfl rfl rfl) ?_
 refine Jq (q_loadA tb rfl rfl bxo rfl rfl) ?_
 refine Jq (q_field tb rfl rfl rfl) ?_
 refine Jq (q_field tb rfl rfl rfl) ?_
 refine Jq (q_field tb rfl rfl rfl) ?_
 refine Jq (q_load tb rfl rfl bxo rfl) ?_
 refine L_callSN tb rfl rfl (ct_tissue_Loaded _ _ (lgA x y) x.r.fi x.ts x.ls (by omega) (by omega)) (ps_cons gvo (ps_cons gvo no_ps)) rfl fun v20 => ?_
 rw [bh_E H hy]
 dsimp only
 refine L_form (v := v20) gvo (fun A20 c20 hv20 _ => ?_)
 subst hv20
 refine Jq (q_move rfl) ?_
 refine Jq (q_ext0 rfl) ?_
 refine Jq (q_ext1 rfl) ?_
 refine Jq (q_field tb rfl rfl rfl) ?_
 refine Jq (q_field tb rfl rfl rfl) ?_
 refine L_st tb rfl rfl ?_
 refine L_then ?_
 refine C_seq ?_
 refine C_region ?_
 refine Jq (q_field tb rfl rfl rfl) ?_
 refine Jq (q_load tb rfl rfl bxo rfl) ?_
 refine Jq (q_field tb rfl rfl rfl) ?_
 refine Jq (q_field tb rfl rfl rfl) ?_
 refine L_st tb rfl rfl ?_
 refine L_then ?_
 refine C_seq ?_
 refine C_region ?_
 refine Jq (q_loadA tb rfl rfl bxo rfl rfl) ?_
 refine L_st tb rfl rfl ?_
 refine L_then ?_
 refine C_ret ?_
 exact ret_of (rs' := [sl _ 139 4 ((bhA x y).ls.map cLd)]) (resC tb rfl rfl rfl bxo rfl) (fun w_ h_ => h_.pk (by repeat (first | with_reducible exact pk_nil | refine pk_box rfl ?_ | refine pk_rd rfl ?_ | refine pk_sl rfl ?_ | with_reducible refine pk_app ?_ | with_reducible refine pk_app0 ?_ | with_reducible refine pk_app0L ?_ | with_reducible exact pk_tl | refine pk_var ?_))) own1 ⟨_, _, _, rfl, rfl⟩
set_option maxRecDepth 100000 in
set_option maxHeartbeats 2000000 in
theorem ct_ascent_task_decided (v u z : Value) (x : Asc) (y : Dl) (H : okAsc x) (hy : okAl x y) : Ct Tryz.prog 96 [.agg (cAt v u z x).toArray, .agg (cDl y).toArray] [(v, 4, x.ts.map cCp), (u, 4, x.ls.map cLd), (z, 3, x.gs.map cAg)] (isV (.tuple #[.int .i64 (dcA x y).1, .int .i64 (dcA x y).2])) := by
 refine Ct.of (N := 23) Tryz.func96 rfl rfl rfl fun w => ?_
 refine C_weak (E' := [(0, .agg (cAt v u z x).toArray), (1, .agg (cDl y).toArray)]) (rs' := [rd v 4 (x.ts.map cCp), rd u 4 (x.ls.map cLd), rd z 3 (x.gs.map cAg)]) ⟨rfl, rfl, trivial⟩ (fun _ h => h) ?_
 have hl1 := len_map cCp x.ts
 have hl2 := len_map cLd x.ls
 have hl3 := len_map cAg x.gs
 have hde := H.de; have hsu := H.su; have hbl := beh_len H; have hrs := H.r.st; have hrf := H.r.fi
 refine C_seq ?_
 refine C_region ?_
 refine L_box rfl rfl rfl fun g2 => ?_
 refine L_box rfl rfl rfl fun g3 => ?_
 refine Jq (q_assign rfl) ?_
 refine Jq (q_assign rfl) ?_
 refine L_then ?_
 refine C_seq ?_
 refine C_draw (n := 15) [(0, false), (1, false), (3, false), (4, false), (5, false), (6, false), (2, true), (7, true), (8, false), (9, false), (10, false), (11, false), (12, false), (13, false), (14, false)] mixed (by kernel_rfl) ?_
 refine Yq rfl (q_loadA tb rfl rfl bxo rfl rfl) ?_
 refine Yq rfl (q_loadA tb rfl rfl bxo rfl rfl) ?_
 refine Yq rfl (q_field tb rfl rfl rfl) ?_
 refine Yq rfl (q_field tb rfl rfl rfl) ?_
 refine Yq rfl (q_field tb rfl rfl rfl) ?_
 refine Yq rfl (q_load tb rfl rfl bxo rfl) ?_
 refine W_lo rfl rfl rfl rfl (lo_call tb rfl rfl (ct_ascent_task_tissues _ _ _ x y H hy) (ps_cons gvo (ps_cons gvo (ps_cons gvo no_ps))) isTt_sinks) ?_
 rintro _ _ ⟨A12, n12, c12, B12, m12, d12, rfl, rfl⟩
 refine W_call tb rfl rfl rfl rfl (ct_tissue_Decided _ _ (lgA x y) (faA x) x.r.fi x.ts x.ls (by omega) (by omega)) (ps_cons gvo (ps_cons gvo no_ps)) rfl ?_
 rw [dc_E H hy]
 refine Yq rfl (q_move rfl) ?_
 refine Yq rfl (q_ext0 rfl) ?_
 refine Yq rfl (q_ext1 rfl) ?_
 refine Yq rfl (q_ext2 rfl) ?_
 refine Yq rfl (q_assign rfl) ?_
 refine Yq rfl (q_assign rfl) ?_
 refine Yq rfl (q_assign rfl) ?_
 refine W_nil ?_
 refine L_then ?_
 refine C_seq ?_
 refine C_region ?_
 refine Jq (q_move rfl) ?_
 refine Jq (q_move rfl) ?_
 refine Jq (q_assign rfl) ?_
 refine Jq (q_assign rfl) ?_
 refine L_then ?_
 refine C_ret ?_
 exact ret_of (res2 rfl rfl rfl) sub_nil (by intro r hr; cases hr) ⟨rfl, rfl⟩
set_option maxRecDepth 100000 in
theorem ct_ascent_task_up (v u z : Value) (x : Asc) (H : okAsc x) (to g : Int) (ht : 0 ≤ to ∧ to ≤ x.de) : Ct Tryz.prog 165 [.agg (cAt v u z x).toArray, .int .i64 to, .int .i64 g] [] (isV (.agg (cDl (upA x to g)).toArray)) := by
 refine Ct.of (N := 17) Tryz.func165 rfl rfl rfl fun w => ?_
 refine C_weak (E' := [(0, .agg (cAt v u z x).toArray), (1, .int .i64 to), (2, .int .i64 g)]) (rs' := []) ⟨rfl, rfl, rfl, trivial⟩ (fun _ h => h) ?_
 have hl1 := len_map cCp x.ts
 have hl2 := len_map cLd x.ls
 have hl3 := len_map cAg x.gs
 have hde := H.de; have hsu := H.su; have hbl := beh_len H; have hrs := H.r.st; have hrf := H.r.fi
 refine C_seq ?_
 refine C_region ?_
 refine L_box rfl rfl rfl fun g3 => ?_
 refine L_alloc tb rfl rfl fun g6 => ?_
 refine L_then ?_
 refine C_seq ?_
 refine C_draw (n := 10) [(0, false), (2, false), (3, false), (4, false), (5, false), (7, false), (8, false), (1, true), (6, true), (9, false)] mixed (by kernel_rfl) ?_
 refine Yq rfl (q_loadA tb rfl rfl bxo rfl rfl) ?_
 refine Yq rfl (q_field tb rfl rfl rfl) ?_
 refine Yq rfl (q_field tb rfl rfl rfl) ?_
 refine Yq rfl (q_load tb rfl rfl bxo rfl) ?_
 refine Yq rfl (q_move rfl) ?_
 refine Yq rfl (q_move rfl) ?_
 refine Yq rfl (q_move rfl) ?_
 refine W_call tb rfl rfl rfl rfl (ct_ascent_task_rules _ _ _ x) no_ps rfl ?_
 refine W_call tb rfl rfl rfl rfl (ct_ascent_rules_rise x.r H.r x.de to (by omega) (by omega) (by omega)) no_ps rfl ?_
 refine Yq rfl (by first | exact q_build tb rfl rfl rfl rfl | exact q_buildArr tb rfl rfl rfl rfl rfl) ?_
 refine W_nil ?_
 refine L_st tb rfl rfl ?_
 refine L_then ?_
 refine C_ret ?_
 exact ret_of (resC tb rfl rfl rfl bxo rfl) sub_nil (by intro r hr; cases hr) ⟨rfl, rfl⟩
set_option maxRecDepth 100000 in
theorem ct_ascent_task_stay (v u z : Value) (x : Asc) (g : Int) : Ct Tryz.prog 94 [.agg (cAt v u z x).toArray, .int .i64 g] [] (isV (.agg (cDl (syA x g)).toArray)) := by
 refine Ct.of (N := 14) Tryz.func94 rfl rfl rfl fun w => ?_
 refine C_weak (E' := [(0, .agg (cAt v u z x).toArray), (1, .int .i64 g)]) (rs' := []) ⟨rfl, rfl, trivial⟩ (fun _ h => h) ?_
 refine C_seq ?_
 refine C_region ?_
 refine L_box rfl rfl rfl fun g2 => ?_
 refine L_alloc tb rfl rfl fun g4 => ?_
 refine L_then ?_
 refine C_seq ?_
 refine C_region ?_
 refine Jq (q_field tb rfl rfl rfl) ?_
 refine Jq (q_field tb rfl rfl rfl) ?_
 refine Jq (q_field tb rfl rfl rfl) ?_
 refine Jq (q_load tb rfl rfl bxo rfl) ?_
 refine Jq (q_field tb rfl rfl rfl) ?_
 refine Jq (q_field tb rfl rfl rfl) ?_
 refine Jq (q_load tb rfl rfl bxo rfl) ?_
 refine Jq (q_move rfl) ?_
 refine Jq (by first | exact q_build tb rfl rfl rfl rfl | exact q_buildArr tb rfl rfl rfl rfl rfl) ?_
 refine L_st tb rfl rfl ?_
 refine L_then ?_
 refine C_ret ?_
 exact ret_of (resC tb rfl rfl rfl bxo rfl) sub_nil (by intro r hr; cases hr) ⟨rfl, rfl⟩
end Go.Proofs.YthilaakeimfedaaGreatDoor
