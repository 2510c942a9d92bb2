/-
  Walks: each function named returns what its model says. Conditions: those in front of each theorem.
-/
import Derived.Test.YtacndicgpkeobaaGreatDoorBE
import Derived.Test.YtacndicgpkeobaaGreatDoorBB
import Derived.Test.YtacndicgpkeobaaGreatDoorAC
import Derived.Test.YtacndicgpkeobaaGreatDoorShTreeI
namespace Go.Proofs.YtacndicgpkeobaaGreatDoor
open Go.RowKit

set_option maxRecDepth 100000 in
set_option maxHeartbeats 4000000 in
theorem ct_shotlineref04_Changed (v u z : Value) (x : Asc) (kd val : Int) (H : okAsc x) : Ct Tryz.prog 14 [.agg (cAt v u z x).toArray, .agg #[.int .i64 kd, .int .i64 val]] [(v, 4, x.ts.map cCp), (u, 4, x.ls.map cLd), (z, 3, x.gs.map cAg)] (isRg v u z x (chgA x kd val) (chgE x kd val)) := by
 refine Ct.of (N := 79) Tryz.func14 rfl rfl rfl fun w => ?_
 refine C_weak (E' := [(0, .agg (cAt v u z x).toArray), (1, .agg #[.int .i64 kd, .int .i64 val])]) (rs' := [rd v 4 (x.ts.map cCp), rd u 4 (x.ls.map cLd), rd z 3 (x.gs.map cAg)]) ⟨rfl, rfl, trivial⟩ (fun _ h => h) ?_
 have hl1 := len_map cCp x.ts
 have hl2 := len_map cLd x.ls
 have hl3 := len_map cAg x.gs
 have hde := H.de; have hsu := H.su; have hbl := beh_len H; have hrs := H.r.st; have hrf := H.r.fi
 refine C_form (v := v) gvo (fun Av cv hv _ => ?_)
 subst hv
 refine C_form (v := u) gvo (fun Au cu hu _ => ?_)
 subst hu
 refine C_form (v := z) gvo (fun Az cz hz _ => ?_)
 subst hz
 have hgl1 := H.g1; have hgl8 := H.g8; have hxgi := gasA_in x x.de
 refine C_seq ?_
 refine C_region ?_
 refine L_box rfl rfl rfl fun g2 => ?_
 refine L_box rfl rfl rfl fun g3 => ?_
 refine L_alloc tb rfl rfl fun g4 => ?_
 refine Jq (q_assign rfl) ?_
 refine L_then ?_
 refine C_seq ?_
 refine C_seq ?_
 refine C_region ?_
 refine Jq (q_field tb rfl rfl rfl) ?_
 refine Jq (q_load tb rfl rfl bxo rfl) ?_
 refine L_then ?_
 refine C_block ?_
 refine C_seq ?_
 refine C_region ?_
 refine Jq (q_eql rfl rfl) ?_
 refine Jq (q_assign rfl) ?_
 refine L_then ?_
 refine C_dec rfl (fun k0 => ?_) (fun k0 => ?_)
 refine C_seq ?_
 refine C_seq ?_
 refine C_region ?_
 refine Jq (q_field tb rfl rfl rfl) ?_
 refine Jq (q_load tb rfl rfl bxo rfl) ?_
 refine L_call tb rfl rfl (ct_shotlinebase_Within val 1 100000) no_ps rfl ?_
 refine Jq (q_not rfl decide_not.symm) ?_
 refine L_then ?_
 refine C_dec rfl (fun c15 => ?_) (fun c15 => ?_)
 refine C_seq ?_
 refine C_region ?_
 refine Jq (by first | exact q_build tb rfl rfl rfl rfl | exact q_buildArr tb rfl rfl rfl rfl rfl) ?_
 refine L_st tb rfl rfl ?_
 refine Jq (q_assign rfl) ?_
 refine L_then ?_
 refine C_ret ?_
 obtain ⟨e1, e2⟩ := chg_0a (x := x) k0 c15
 have e3 : chgA x kd val = zAsc := if_pos (by rw [e1]; decide)
 rw [e1, e3]
 exact ret_of (rs' := [sl (.slice none 0 0) 120 4 [], sl (.slice none 0 0) 134 4 [], sl (.slice none 0 0) 112 3 []]) (resCT tb rfl rfl rfl rfl bxo rfl) (fun w_ h_ => ws_nil (ws_nil (ws_nil (sub_nil w_ h_)))) own3 ⟨rf_nil, own3⟩
 refine C_skip_then ?_
 refine C_seq ?_
 refine C_region ?_
 refine Jq (q_loadA tb rfl rfl bxo rfl rfl) ?_
 refine Jq (q_field tb rfl rfl rfl) ?_
 refine Jq (q_load tb rfl rfl bxo rfl) ?_
 refine L_call tb rfl rfl (ct_shotlineref04_GasFor _ _ _ x (by omega) x.de) (ps_cons (by first | exact gvo | exact gvd gvo (by omega)) no_ps) rfl ?_
 refine Jq (q_assign rfl) ?_
 refine L_then ?_
 refine C_seq ?_
 refine C_seq ?_
 refine C_region ?_
 refine Jq (q_move rfl) ?_
 refine Jq (q_lss rfl rfl) ?_
 refine L_then ?_
 refine C_dec rfl (fun c22 => ?_) (fun c22 => ?_)
 refine C_seq ?_
 refine C_region ?_
 refine Jq (by first | exact q_build tb rfl rfl rfl rfl | exact q_buildArr tb rfl rfl rfl rfl rfl) ?_
 refine L_st tb rfl rfl ?_
 refine Jq (q_assign rfl) ?_
 refine L_then ?_
 refine C_ret ?_
 obtain ⟨e1, e2⟩ := chg_0b (x := x) k0 (Decidable.not_not.1 c15) c22
 have e3 : chgA x kd val = zAsc := if_pos (by rw [e1]; decide)
 rw [e1, e3]
 exact ret_of (rs' := [sl (.slice none 0 0) 120 4 [], sl (.slice none 0 0) 134 4 [], sl (.slice none 0 0) 112 3 []]) (resCT tb rfl rfl rfl rfl bxo rfl) (fun w_ h_ => ws_nil (ws_nil (ws_nil (sub_nil w_ h_)))) own3 ⟨rf_nil, own3⟩
 have hv1 := Decidable.not_not.1 c15
 refine C_skip_then ?_
 refine C_seq ?_
 refine C_region ?_
 refine Jq (q_loadA tb rfl rfl bxo rfl rfl) ?_
 refine Jq (q_field tb rfl rfl rfl) ?_
 refine Jq (q_load tb rfl rfl bxo rfl) ?_
 refine Jq (q_field tb rfl rfl rfl) ?_
 refine Jq (q_load tb rfl rfl bxo rfl) ?_
 refine Jq (q_move rfl) ?_
 refine Jq (by first | exact q_build tb rfl rfl rfl rfl | exact q_buildArr tb rfl rfl rfl rfl rfl) ?_
 refine L_lo rfl rfl rfl (lo_call tb rfl rfl (ct_shotlineref04_Moved _ _ _ x ⟨val, x.de, gasA x x.de⟩ H ⟨hv1, H.de, by show 0 ≤ gasA x x.de ∧ gasA x x.de ≤ (x.gs.length : Int) - 1; omega⟩) (ps_cons (by first | exact gvo | exact gvd gvo (by omega)) (ps_cons (by first | exact gvo | exact gvd gvo (by omega)) (ps_cons (by first | exact gvo | exact gvd gvo (by omega)) no_ps))) isBh_sinks) ?_
 rintro _ _ ⟨A31, n31, c31, rfl, rfl⟩
 refine L_st tb rfl rfl ?_
 refine Jq (q_assign rfl) ?_
 refine L_then ?_
 refine C_ret ?_
 obtain ⟨e1, e2⟩ := chg_0c (x := x) k0 hv1 c22
 have e3 : chgA x kd val = chgX x kd val := (if_neg (fun hh => hh e1)).trans (chgX_ok e1).symm
 rw [e1, e3, e2]
 exact ret_of (rs' := [sl _ 134 4 ((bhA x ⟨val, x.de, gasA x x.de⟩).ls.map cLd)]) (resCT tb rfl rfl rfl rfl bxo rfl) (fun w_ h_ => h_.pk (by repeat (first | with_reducible exact pk_nil | refine pk_box rfl ?_ | refine pk_rd rfl ?_ | refine pk_sl rfl ?_ | with_reducible refine pk_app ?_ | with_reducible refine pk_app0 ?_ | with_reducible refine pk_app0L ?_ | with_reducible exact pk_tl | refine pk_var ?_))) own1 ⟨⟨_, _, _, _, _, _, _, _, _, rfl, (by intro r hr; rw [List.mem_singleton.1 hr]; exact sl_sinks _ _ _ _), fun R g1 _ g3 => ⟨gv1 g1, gs0, gv1 g3⟩⟩, own1⟩
 refine C_seq ?_
 refine C_region ?_
 refine Jq (q_eql rfl rfl) ?_
 refine Jq (q_assign rfl) ?_
 refine L_then ?_
 refine C_dec rfl (fun k1 => ?_) (fun k1 => ?_)
 refine C_seq ?_
 refine C_seq ?_
 refine C_region ?_
 refine Jq (q_field tb rfl rfl rfl) ?_
 refine Jq (q_load tb rfl rfl bxo rfl) ?_
 refine Jq (q_field tb rfl rfl rfl) ?_
 refine Jq (q_load tb rfl rfl bxo rfl) ?_
 refine Jq (q_len tb rfl rfl (by first | exact gvo | exact gvd gvo (by omega))) ?_
 refine Jq (q_sub rfl rfl (by first | exact IntWalk.i64_in _ (by omega) | rfl)) ?_
 rw [hl3]
 refine L_call tb rfl rfl (ct_shotlinebase_Within val 0 ((x.gs.length : Int) - 1)) no_ps rfl ?_
 refine Jq (q_not rfl decide_not.symm) ?_
 refine L_then ?_
 refine C_dec rfl (fun c41 => ?_) (fun c41 => ?_)
 refine C_seq ?_
 refine C_region ?_
 refine Jq (by first | exact q_build tb rfl rfl rfl rfl | exact q_buildArr tb rfl rfl rfl rfl rfl) ?_
 refine L_st tb rfl rfl ?_
 refine Jq (q_assign rfl) ?_
 refine L_then ?_
 refine C_ret ?_
 obtain ⟨e1, e2⟩ := chg_1a (x := x) k0 k1 c41
 have e3 : chgA x kd val = zAsc := if_pos (by rw [e1]; decide)
 rw [e1, e3]
 exact ret_of (rs' := [sl (.slice none 0 0) 120 4 [], sl (.slice none 0 0) 134 4 [], sl (.slice none 0 0) 112 3 []]) (resCT tb rfl rfl rfl rfl bxo rfl) (fun w_ h_ => ws_nil (ws_nil (ws_nil (sub_nil w_ h_)))) own3 ⟨rf_nil, own3⟩
 refine C_skip_then ?_
 refine C_seq ?_
 refine C_seq ?_
 refine C_region ?_
 refine Jq (q_field tb rfl rfl rfl) ?_
 refine Jq (q_load tb rfl rfl bxo rfl) ?_
 refine Jq (q_len tb rfl rfl (by first | exact gvo | exact gvd gvo (by omega))) ?_
 refine Jq (q_eql rfl rfl) ?_
 refine L_then ?_
 refine C_dec rfl (fun c46 => ?_) (fun c46 => ?_)
 refine C_seq ?_
 refine C_region ?_
 refine Jq (by first | exact q_build tb rfl rfl rfl rfl | exact q_buildArr tb rfl rfl rfl rfl rfl) ?_
 refine L_st tb rfl rfl ?_
 refine Jq (q_assign rfl) ?_
 refine L_then ?_
 refine C_ret ?_
 obtain ⟨e1, e2⟩ := chg_1b (x := x) k0 k1 (Decidable.not_not.1 c41) (by omega)
 have e3 : chgA x kd val = zAsc := if_pos (by rw [e1]; decide)
 rw [e1, e3]
 exact ret_of (rs' := [sl (.slice none 0 0) 120 4 [], sl (.slice none 0 0) 134 4 [], sl (.slice none 0 0) 112 3 []]) (resCT tb rfl rfl rfl rfl bxo rfl) (fun w_ h_ => ws_nil (ws_nil (ws_nil (sub_nil w_ h_)))) own3 ⟨rf_nil, own3⟩
 have hv2 := Decidable.not_not.1 c41
 refine C_skip_then ?_
 refine C_seq ?_
 refine Kp.C_treeH0 (n := 15) (ι := Value) (.q 1 (.q 2 (.q 3 (.q 4 (.q 5 (.q 7 (.q 8 (.q 9 (.q 10 (.q 11 (.q 12 (.s 0 (.s 6 (.s 13 (.q 14 .nil))))))))))))))) (fun q => ([(2, .pointer (some ⟨g2, 0, none⟩)), (3, .pointer (some ⟨g3, 0, none⟩)), (4, .pointer (some ⟨g4, 0, none⟩)), (61, q), (62, .pointer (some ⟨g2, 4, none⟩))], [sl q 112 3 ((cutG x.gs val).map cAg), box g2 28 (cAt (.slice Av (x.ts.map cCp).length cv) (.slice Au (x.ls.map cLd).length cu) (.slice Az x.gs.length cz) x), box g3 30 [.int .i64 kd, .int .i64 val], box g4 28 (cAt (.slice none 0 0) (.slice none 0 0) (.slice none 0 0) zAsc), rd (.slice Av (x.ts.map cCp).length cv) 4 (x.ts.map cCp), rd (.slice Au (x.ls.map cLd).length cu) 4 (x.ls.map cLd), rd (.slice Az x.gs.length cz) 3 (x.gs.map cAg)])) mixed (by kernel_rfl) ?_ ?_
 refine Kp.Zq rfl (q_field tb rfl rfl rfl) ?_
 refine Kp.Zq rfl (q_load tb rfl rfl bxo rfl) ?_
 refine Kp.Zq rfl (q_field tb rfl rfl rfl) ?_
 refine Kp.Zq rfl (q_load tb rfl rfl bxo rfl) ?_
 refine Kp.Zq rfl (q_to tb rfl rfl rfl rfl (by first | exact gvo | exact gvd gvo (by omega)) (by omega) (by first | omega | (simp; done) | (simp; omega))) ?_
 refine Kp.Zq rfl (q_field tb rfl rfl rfl) ?_
 refine Kp.Zq rfl (q_load tb rfl rfl bxo rfl) ?_
 refine Kp.Zq rfl (q_field tb rfl rfl rfl) ?_
 refine Kp.Zq rfl (q_load tb rfl rfl bxo rfl) ?_
 refine Kp.Zq rfl (q_add rfl rfl (by first | exact IntWalk.i64_in _ (by omega) | rfl)) ?_
 refine Kp.Zq rfl (q_from tb rfl rfl rfl rfl (by first | exact gvo | exact gvd gvo (by omega)) (by omega) (by first | omega | (simp; done) | (simp; omega))) ?_
 refine Kp.Z_s ?_
 refine Kp.St_mk rfl rfl rfl rfl (lo_bslice tb rfl rfl rfl (xs := []) rfl rfl (by simp) rfl (by omega) rfl) fun v48 => ?_
 refine Kp.Z_s ?_
 first | refine Kp.St_append tb rfl rfl rfl (List.Perm.refl _) rfl rfl rfl (by omega) rfl rfl (gvt gvo (by omega)) (fun q hq => oneAg x.gs q (flat_of_take hq)) (by simp [maxLen]; omega) (by simp; omega) fun v54 => ?_ | refine Kp.St_append tb rfl rfl rfl perm1 rfl rfl rfl (by omega) rfl rfl (gvt gvo (by omega)) (fun q hq => oneAg x.gs q (flat_of_take hq)) (by simp [maxLen]; omega) (by simp; omega) fun v54 => ?_ | refine Kp.St_append tb rfl rfl rfl Kp.perm2 rfl rfl rfl (by omega) rfl rfl (gvt gvo (by omega)) (fun q hq => oneAg x.gs q (flat_of_take hq)) (by simp [maxLen]; omega) (by simp; omega) fun v54 => ?_ | refine Kp.St_append tb rfl rfl rfl Kp.perm3 rfl rfl rfl (by omega) rfl rfl (gvt gvo (by omega)) (fun q hq => oneAg x.gs q (flat_of_take hq)) (by simp [maxLen]; omega) (by simp; omega) fun v54 => ?_ | refine Kp.St_append tb rfl rfl rfl (perm_front (pre := [_, _])) rfl rfl rfl (by omega) rfl rfl (gvt gvo (by omega)) (fun q hq => oneAg x.gs q (flat_of_take hq)) (by simp [maxLen]; omega) (by simp; omega) fun v54 => ?_ | refine Kp.St_append tb rfl rfl rfl (perm_front (pre := [_, _, _])) rfl rfl rfl (by omega) rfl rfl (gvt gvo (by omega)) (fun q hq => oneAg x.gs q (flat_of_take hq)) (by simp [maxLen]; omega) (by simp; omega) fun v54 => ?_ | refine Kp.St_append tb rfl rfl rfl (perm_front (pre := [_, _, _, _])) rfl rfl rfl (by omega) rfl rfl (gvt gvo (by omega)) (fun q hq => oneAg x.gs q (flat_of_take hq)) (by simp [maxLen]; omega) (by simp; omega) fun v54 => ?_
 refine Kp.Z_s ?_
 first | refine Kp.St_append tb rfl rfl rfl (List.Perm.refl _) rfl rfl rfl (by omega) rfl rfl (gvd gvo (by omega)) (fun q hq => oneAg x.gs q (flat_of_drop hq)) (by simp [maxLen]; omega) (by simp; omega) fun v61 => ?_ | refine Kp.St_append tb rfl rfl rfl perm1 rfl rfl rfl (by omega) rfl rfl (gvd gvo (by omega)) (fun q hq => oneAg x.gs q (flat_of_drop hq)) (by simp [maxLen]; omega) (by simp; omega) fun v61 => ?_ | refine Kp.St_append tb rfl rfl rfl Kp.perm2 rfl rfl rfl (by omega) rfl rfl (gvd gvo (by omega)) (fun q hq => oneAg x.gs q (flat_of_drop hq)) (by simp [maxLen]; omega) (by simp; omega) fun v61 => ?_ | refine Kp.St_append tb rfl rfl rfl Kp.perm3 rfl rfl rfl (by omega) rfl rfl (gvd gvo (by omega)) (fun q hq => oneAg x.gs q (flat_of_drop hq)) (by simp [maxLen]; omega) (by simp; omega) fun v61 => ?_ | refine Kp.St_append tb rfl rfl rfl (perm_front (pre := [_, _])) rfl rfl rfl (by omega) rfl rfl (gvd gvo (by omega)) (fun q hq => oneAg x.gs q (flat_of_drop hq)) (by simp [maxLen]; omega) (by simp; omega) fun v61 => ?_ | refine Kp.St_append tb rfl rfl rfl (perm_front (pre := [_, _, _])) rfl rfl rfl (by omega) rfl rfl (gvd gvo (by omega)) (fun q hq => oneAg x.gs q (flat_of_drop hq)) (by simp [maxLen]; omega) (by simp; omega) fun v61 => ?_ | refine Kp.St_append tb rfl rfl rfl (perm_front (pre := [_, _, _, _])) rfl rfl rfl (by omega) rfl rfl (gvd gvo (by omega)) (fun q hq => oneAg x.gs q (flat_of_drop hq)) (by simp [maxLen]; omega) (by simp; omega) fun v61 => ?_
 refine Kp.Zq rfl (q_field tb rfl rfl rfl) ?_
 refine Kp.Z_nil ?_
 try dsimp only [List.append, List.cons_append, List.nil_append]
 exact ⟨v61, fun a_ w_ hs_ => hs_.weak ⟨rfl, rfl, rfl, rfl, rfl, trivial⟩ (fun h_ => h_.pk (by repeat (first | with_reducible exact pk_nil | refine pk_box (by first | rfl | exact (cut_app hv2)) ?_ | refine pk_rd rfl ?_ | refine pk_sl (by first | rfl | exact (cut_app hv2)) ?_ | with_reducible refine pk_app ?_ | with_reducible refine pk_app0 ?_ | with_reducible refine pk_app0L ?_ | with_reducible exact pk_tl | refine pk_var ?_)))⟩
 (intro v61; dsimp only; refine L_form (v := v61) gvo (fun A61 c61 hv61 _ => ?_); subst hv61)
 refine L_st tb rfl rfl ?_
 refine L_then ?_
 refine C_seq ?_
 refine C_region ?_
 refine Jq (q_loadA tb rfl rfl bxo rfl rfl) ?_
 refine L_st tb rfl rfl ?_
 refine Jq (q_assign rfl) ?_
 refine L_then ?_
 refine C_ret ?_
 obtain ⟨e1, e2⟩ := chg_1c (x := x) k0 k1 hv2 (by omega)
 have e3 : chgA x kd val = chgX x kd val := (if_neg (fun hh => hh e1)).trans (chgX_ok e1).symm
 rw [e1, e3, e2]
 exact ret_of (rs' := [sl _ 112 3 ((cutG x.gs val).map cAg)]) (resCT tb rfl rfl rfl rfl bxo rfl) (fun w_ h_ => h_.pk (by repeat (first | with_reducible exact pk_nil | refine pk_box rfl ?_ | refine pk_rd rfl ?_ | refine pk_sl rfl ?_ | with_reducible refine pk_app ?_ | with_reducible refine pk_app0 ?_ | with_reducible refine pk_app0L ?_ | with_reducible exact pk_tl | refine pk_var ?_))) own1 ⟨⟨_, _, _, _, _, _, _, _, _, rfl, (by intro r hr; rw [List.mem_singleton.1 hr]; exact sl_sinks _ _ _ _), fun R g1 g2 _ => ⟨gv1 g1, gv1 g2, gs0⟩⟩, own1⟩
 refine C_seq ?_
 refine C_region ?_
 refine Jq (q_eql rfl rfl) ?_
 refine Jq (q_assign rfl) ?_
 refine L_then ?_
 refine C_dec rfl (fun k2 => ?_) (fun k2 => ?_)
 refine C_seq ?_
 refine C_region ?_
 refine Jq (q_field tb rfl rfl rfl) ?_
 refine Jq (q_load tb rfl rfl bxo rfl) ?_
 refine Jq (q_field tb rfl rfl rfl) ?_
 refine Jq (q_field tb rfl rfl rfl) ?_
 refine L_st tb rfl rfl ?_
 refine L_then ?_
 refine C_seq ?_
 refine C_seq ?_
 refine C_region ?_
 refine Jq (q_field tb rfl rfl rfl) ?_
 refine Jq (q_loadA tb rfl rfl bxo rfl rfl) ?_
 refine L_call tb rfl rfl (ct_shotlineref04_CheckRules (loR x.r val)) no_ps rfl ?_
 refine Jq (q_assign rfl) ?_
 refine L_then ?_
 refine C_seq ?_
 refine C_region ?_
 refine Jq (q_move rfl) ?_
 refine Jq (q_neq rfl rfl) ?_
 refine L_then ?_
 refine C_dec rfl (fun c74 => ?_) (fun c74 => ?_)
 refine C_seq ?_
 refine C_region ?_
 refine Jq (by first | exact q_build tb rfl rfl rfl rfl | exact q_buildArr tb rfl rfl rfl rfl rfl) ?_
 refine Jq (q_move rfl) ?_
 refine L_st tb rfl rfl ?_
 refine Jq (q_assign rfl) ?_
 refine L_then ?_
 refine C_ret ?_
 obtain ⟨e1, e2⟩ := chg_2 (x := x) (v := val) k2
 have e3 : chgA x kd val = zAsc := if_pos (by rw [e1]; exact c74)
 rw [e1, e3]
 exact ret_of (rs' := [sl (.slice none 0 0) 120 4 [], sl (.slice none 0 0) 134 4 [], sl (.slice none 0 0) 112 3 []]) (resCT tb rfl rfl rfl rfl bxo rfl) (fun w_ h_ => ws_nil (ws_nil (ws_nil (sub_nil w_ h_)))) own3 ⟨rf_nil, own3⟩
 refine C_skip_then ?_
 refine C_seq ?_
 refine C_region ?_
 refine Jq (q_loadA tb rfl rfl bxo rfl rfl) ?_
 refine L_st tb rfl rfl ?_
 refine Jq (q_assign rfl) ?_
 refine L_then ?_
 refine C_ret ?_
 obtain ⟨e0, e2⟩ := chg_2 (x := x) (v := val) k2
 have e1 : chgE x kd val = 0 := e0.trans (Decidable.not_not.1 c74)
 have e3 : chgA x kd val = chgX x kd val := (if_neg (fun hh => hh e1)).trans (chgX_ok e1).symm
 rw [e1, e3, e2]
 exact ret_of (rs' := []) (resCT tb rfl rfl rfl rfl bxo rfl) (fun w_ h_ => h_.pk pk_nil) (by intro r hr; cases hr) ⟨⟨_, _, _, _, _, _, _, _, _, rfl, (by intro r hr; cases hr), fun R g1 g2 g3 => ⟨g1, g2, g3⟩⟩, (by intro r hr; cases hr)⟩
 refine C_skip_blk ?_
 refine C_seq ?_
 refine C_region ?_
 refine Jq (by first | exact q_build tb rfl rfl rfl rfl | exact q_buildArr tb rfl rfl rfl rfl rfl) ?_
 refine L_st tb rfl rfl ?_
 refine Jq (q_assign rfl) ?_
 refine L_then ?_
 refine C_ret ?_
 obtain ⟨e1, e2⟩ := chg_3 (x := x) (v := val) k0 k1 k2
 have e3 : chgA x kd val = zAsc := if_pos (by rw [e1]; decide)
 rw [e1, e3]
 exact ret_of (rs' := [sl (.slice none 0 0) 120 4 [], sl (.slice none 0 0) 134 4 [], sl (.slice none 0 0) 112 3 []]) (resCT tb rfl rfl rfl rfl bxo rfl) (fun w_ h_ => ws_nil (ws_nil (ws_nil (sub_nil w_ h_)))) own3 ⟨rf_nil, own3⟩
end Go.Proofs.YtacndicgpkeobaaGreatDoor
namespace Go.Proofs.YtacndicgpkeobaaGreatDoor
open Go.RowKit

set_option maxRecDepth 100000 in
set_option maxHeartbeats 2000000 in
theorem ct_shotlineref04_Variants (v u z : Value) (x : Asc) (wv : Value) (cs : List (Int × Int)) (H : okAsc x) (hcs : cs.length ≤ 10) : Ct Tryz.prog 17 [.agg (cAt v u z x).toArray, wv] [(v, 4, x.ts.map cCp), (u, 4, x.ls.map cLd), (z, 3, x.gs.map cAg), (wv, 2, cs.map cSp)] (isSl 3 1 ((varA x :: cs.map (varC x)).map cI)) := by
 refine Ct.of (N := 38) Tryz.func17 rfl rfl rfl fun w => ?_
 refine C_weak (E' := [(0, .agg (cAt v u z x).toArray), (1, wv)]) (rs' := [rd v 4 (x.ts.map cCp), rd u 4 (x.ls.map cLd), rd z 3 (x.gs.map cAg), rd wv 2 (cs.map cSp)]) ⟨rfl, rfl, trivial⟩ (fun _ h => h) ?_
 have hl1 := len_map cCp x.ts
 have hl2 := len_map cLd x.ls
 have hl3 := len_map cAg x.gs
 have hde := H.de; have hsu := H.su; have hbl := beh_len H; have hrs := H.r.st; have hrf := H.r.fi
 refine C_form (v := v) gvo (fun Av cv hv _ => ?_)
 subst hv
 refine C_form (v := u) gvo (fun Au cu hu _ => ?_)
 subst hu
 refine C_form (v := z) gvo (fun Az cz hz _ => ?_)
 subst hz
 have hlc := len_map cSp cs
 refine C_seq ?_
 refine C_region ?_
 refine L_box rfl rfl rfl fun g2 => ?_
 refine Jq (q_assign rfl) ?_
 refine L_then ?_
 refine C_seq ?_
 refine C_region ?_
 refine Jq (q_loadA tb rfl rfl bxo rfl rfl) ?_
 refine L_call tb rfl rfl (ct_shotlineref04_variant _ _ _ x H) (ps_cons gvo (ps_cons gvo (ps_cons gvo no_ps))) rfl ?_
 refine L_mk (lo_bslice tb rfl rfl rfl (xs := [[_]]) rfl rfl (by simp) rfl (by omega) rfl) rfl rfl rfl fun v11 => ?_
 refine Jq (q_assign rfl) ?_
 refine L_then ?_
 refine C_seq ?_
 refine C_seq ?_
 refine C_region ?_
 refine Jq (q_assign rfl) ?_
 refine L_then ?_
 refine C_block ?_
 refine C_res (rs' := [sl v11 3 1 ((varA x :: (cs.take 0).map (varC x)).map cI), box g2 28 (cAt (.slice Av (x.ts.map cCp).length cv) (.slice Au (x.ls.map cLd).length cu) (.slice Az (x.gs.map cAg).length cz) x), rd (.slice Av (x.ts.map cCp).length cv) 4 (x.ts.map cCp), rd (.slice Au (x.ls.map cLd).length cu) 4 (x.ls.map cLd), rd (.slice Az (x.gs.map cAg).length cz) 3 (x.gs.map cAg), rd wv 2 (cs.map cSp)]) (fun _ h_ => h_.pk (by repeat (first | with_reducible exact pk_nil | refine pk_box rfl ?_ | refine pk_rd rfl ?_ | refine pk_sl rfl ?_ | with_reducible refine pk_app ?_ | with_reducible refine pk_app0 ?_ | with_reducible refine pk_app0L ?_ | with_reducible exact pk_tl | refine pk_var ?_))) ?_
 refine C_loop (ι := Nat × Value) (fun q => ([(1, wv), (2, .pointer (some ⟨g2, 0, none⟩)), (5, q.2), (6, .int .i64 (q.1 : Int))], [sl q.2 3 1 ((varA x :: (cs.take q.1).map (varC x)).map cI), box g2 28 (cAt (.slice Av (x.ts.map cCp).length cv) (.slice Au (x.ls.map cLd).length cu) (.slice Az (x.gs.map cAg).length cz) x), rd (.slice Av (x.ts.map cCp).length cv) 4 (x.ts.map cCp), rd (.slice Au (x.ls.map cLd).length cu) 4 (x.ls.map cLd), rd (.slice Az (x.gs.map cAg).length cz) 3 (x.gs.map cAg), rd wv 2 (cs.map cSp)])) (fun q => q.1 ≤ cs.length) (fun q => cs.length - q.1) (0, v11) (Nat.zero_le _) (fun a w hs => hs.weak ⟨rfl, rfl, rfl, rfl, trivial⟩ (fun h => h.pk (by repeat (first | with_reducible exact pk_nil | refine pk_box rfl ?_ | refine pk_rd rfl ?_ | refine pk_sl rfl ?_ | with_reducible refine pk_app ?_ | with_reducible refine pk_app0 ?_ | with_reducible refine pk_app0L ?_ | with_reducible exact pk_tl | refine pk_var ?_)))) ?_
 rintro ⟨k, vs⟩ hk
 dsimp only at hk ⊢
 have hnl : (varA x :: (cs.take k).map (varC x)).length ≤ 20 := by simp; omega
 have hnm := len_map cI (varA x :: (cs.take k).map (varC x))
 refine C_seq ?_
 refine C_seq ?_
 refine C_region ?_
 refine Jq (q_move rfl) ?_
 refine Jq (q_move rfl) ?_
 refine Jq (q_len tb rfl rfl gvo) ?_
 refine Jq (q_lss rfl rfl) ?_
 refine L_then ?_
 refine C_dec rfl (fun h1 => ?_) (fun h1 => ?_)
 obtain ⟨q9, hq9⟩ := get_some cs (k := k) (by omega); have helq := map_get cSp hq9
 refine C_skip_then ?_
 refine C_seq ?_
 refine C_block ?_
 refine C_seq ?_
 refine C_wideF1 tb (k := 9) [(0, false), (1, false), (2, false), (3, false), (4, false), (5, true), (6, false), (7, false), (8, false)] [.s 10, .q 11] mixed (by kernel_rfl) rfl rfl rfl rfl (by kernel_rfl) rfl ?_
 refine X1_q rfl rfl rfl rfl (q_loadA tb rfl rfl bxo rfl rfl) ?_
 refine X1_q rfl rfl rfl rfl (q_move rfl) ?_
 refine X1_q rfl rfl rfl rfl (q_move rfl) ?_
 refine X1_q rfl rfl rfl rfl (by first | exact q_index tb rfl rfl rfl rfl gvo (by omega) (by first | omega | (simp; done) | (simp; omega)) | exact q_indexP tb rfl rfl rfl rfl (by omega) (by omega)) ?_
 refine X1_q rfl rfl rfl rfl (q_loadEA tb rfl rfl gvo (i := k) (o := 0) (by omega) helq rfl rfl) ?_
 refine X1_lo rfl rfl rfl rfl (lo_call tb rfl rfl (ct_shotlineref04_Changed _ _ _ x q9.1 q9.2 H) (ps_cons gvo (ps_cons gvo (ps_cons gvo no_ps))) isRg_sinks) ?_
 rintro _ rs24 ⟨⟨A24, n24, c24, B24, m24, d24, C24, k24, e24, rfl, hsk24, hG24⟩, ho24⟩
 dsimp only [List.cons_append, List.nil_append]
 refine X1_q rfl rfl rfl rfl (q_move rfl) ?_
 refine X1_q rfl rfl rfl rfl (q_ext0 rfl) ?_
 refine X1_q rfl rfl rfl rfl (q_ext1 rfl) ?_
 refine X1_nil ?_
 intro g7
 try dsimp only [List.cons_append, List.nil_append]
 first | refine X_store tb rfl rfl (List.Perm.refl _) rfl rfl rfl rfl rfl rfl rfl rfl ?_ | refine X_store tb rfl rfl perm1 rfl rfl rfl rfl rfl rfl rfl rfl ?_ | refine X_store tb rfl rfl (perm_front (pre := [_, _])) rfl rfl rfl rfl rfl rfl rfl rfl ?_ | refine X_store tb rfl rfl (perm_front (pre := [_, _, _])) rfl rfl rfl rfl rfl rfl rfl rfl ?_
 refine X_q rfl rfl rfl rfl (q_assign rfl) ?_
 refine X_nil ?_
 dsimp only [List.cons_append, List.nil_append]
 refine L_then ?_
 refine C_seq ?_
 refine C_region ?_
 refine Jq (q_move rfl) ?_
 refine Jq (q_neq rfl rfl) ?_
 refine L_then ?_
 refine C_dec rfl (fun h28 => ?_) (fun h28 => ?_)
 refine C_region ?_
 refine Jq (q_move rfl) ?_
 refine L_mk (lo_bslice tb rfl rfl rfl (xs := [[_]]) rfl rfl (by simp) rfl (by omega) rfl) rfl rfl rfl fun v30 => ?_
 refine L_ap tb rfl rfl rfl rfl gvo (by simp [Value.oneCell']) (by simp [maxLen]; omega) (by simp; omega) fun v31 => ?_
 refine Jq (q_assign rfl) ?_
 refine L_blk ?_
 refine C_region ?_
 refine Jq (q_move rfl) ?_
 refine Jq (q_add rfl rfl (by first | exact IntWalk.i64_in _ (by omega) | rfl)) ?_
 refine Jq (q_assign rfl) ?_
 refine L_end ?_
 have e7 : varC x q9 = -1 := if_pos h28
 have e8 := var_next (x := x) hq9
 rw [varC_eq, e7] at e8
 have e9 := (ci_snoc (varA x :: (cs.take k).map (varC x)) (-1)).trans (congrArg (List.map cI) e8)
 exact fun ac_ wo_ hs_ => ⟨(k + 1, v31), (by dsimp only; omega), (by dsimp only; omega), hs_.weak ⟨rfl, rfl, rfl, rfl, trivial⟩ (fun h_ => h_.pk (by repeat (first | with_reducible exact pk_nil | refine pk_box (by first | rfl | exact e9) ?_ | refine pk_rd rfl ?_ | refine pk_sl (by first | rfl | exact e9) ?_ | with_reducible refine pk_app ?_ | with_reducible refine pk_app0 ?_ | with_reducible refine pk_app0L ?_ | with_reducible exact pk_tl | refine pk_var ?_)))⟩
 have hA : okAsc (chgA x q9.1 q9.2) := by unfold chgA; rw [if_neg h28]; exact chg_ok H (Decidable.not_not.1 h28)
 refine C_region ?_
 refine Jq (q_move rfl) ?_
 refine Jq (q_loadA tb rfl rfl bxo rfl rfl) ?_
 refine L_call tb rfl rfl (ct_shotlineref04_variant _ _ _ (chgA x q9.1 q9.2) hA) (ps_cons (by refine gv1 ?_; rw [List.append_nil]; refine And.left (hG24 _ ?_ ?_ ?_) <;> exact gvo) (ps_cons (by refine gv1 ?_; rw [List.append_nil]; refine And.left (And.right (hG24 _ ?_ ?_ ?_)) <;> exact gvo) (ps_cons (by refine gv1 ?_; rw [List.append_nil]; refine And.right (And.right (hG24 _ ?_ ?_ ?_)) <;> exact gvo) no_ps))) rfl ?_
 refine L_mk (lo_bslice tb rfl rfl rfl (xs := [[_]]) rfl rfl (by simp) rfl (by omega) rfl) rfl rfl rfl fun v35 => ?_
 refine L_ap tb rfl rfl rfl rfl gvo (by simp [Value.oneCell']) (by simp [maxLen]; omega) (by simp; omega) fun v36 => ?_
 refine Jq (q_assign rfl) ?_
 refine L_blk ?_
 refine C_region ?_
 refine Jq (q_move rfl) ?_
 refine Jq (q_add rfl rfl (by first | exact IntWalk.i64_in _ (by omega) | rfl)) ?_
 refine Jq (q_assign rfl) ?_
 refine L_end ?_
 have e7 : varC x q9 = varA (chgA x q9.1 q9.2) := by unfold varC chgA; rw [if_neg h28, if_neg h28]
 have e8 := var_next (x := x) hq9
 rw [varC_eq, e7] at e8
 have e9 := (ci_snoc (varA x :: (cs.take k).map (varC x)) (varA (chgA x q9.1 q9.2))).trans (congrArg (List.map cI) e8)
 exact fun ac_ wo_ hs_ => ⟨(k + 1, v36), (by dsimp only; omega), (by dsimp only; omega), hs_.weak ⟨rfl, rfl, rfl, rfl, trivial⟩ (fun h_ => h_.pk (by repeat (first | with_reducible exact pk_nil | refine pk_box (by first | rfl | exact e9) ?_ | refine pk_rd rfl ?_ | refine pk_sl (by first | rfl | exact e9) ?_ | with_reducible refine pk_app ?_ | with_reducible refine pk_app0 ?_ | with_reducible refine pk_app0L ?_ | with_reducible exact pk_tl | refine pk_var ?_)))⟩
 refine C_exit ?_
 change C Tryz.prog _ _ _ _ _ _ _
 refine C_seq ?_
 refine C_region ?_
 refine Jq (q_move rfl) ?_
 refine Jq (q_assign rfl) ?_
 refine L_then ?_
 refine C_ret ?_
 obtain rfl : k = cs.length := by omega
 have e9 : (varA x :: (cs.take cs.length).map (varC x)).map cI = (varA x :: cs.map (varC x)).map cI := by rw [List.take_length]
 exact ret_of (rs' := [sl vs 3 1 ((varA x :: cs.map (varC x)).map cI)]) (res1 rfl rfl) (fun w_ h_ => h_.pk (by repeat (first | with_reducible exact pk_nil | refine pk_box (by first | rfl | exact e9) ?_ | refine pk_rd rfl ?_ | refine pk_sl (by first | rfl | exact e9) ?_ | with_reducible refine pk_app ?_ | with_reducible refine pk_app0 ?_ | with_reducible refine pk_app0L ?_ | with_reducible exact pk_tl | refine pk_var ?_))) own1 rfl
end Go.Proofs.YtacndicgpkeobaaGreatDoor
