/-
  Walks: each function named returns what its model says. Conditions: those in front of each theorem.
-/
import Derived.Test.YthilaakeimfedaaGreatDoorAs16
namespace Go.Proofs.YthilaakeimfedaaGreatDoor
open Go.RowKit

set_option maxRecDepth 100000 in
set_option maxHeartbeats 4000000 in
theorem ct_ascent_Begun (v u z : Value) (x : Asc) (nm : ByteArray) (sf : Int) (pv pu : Value) (gs : List Gs) (ls : List Dl) (hle1 : x.ts.length ≤ 100000) (hle2 : x.ls.length ≤ 100000) (hle3 : x.gs.length ≤ 100000) (hlg : gs.length ≤ 100000) (hll : ls.length ≤ 100000) : Ct Tryz.prog 71 [.agg (cAt v u z x).toArray, .agg (cPl nm sf pv pu).toArray] [(v, 4, x.ts.map cCp), (u, 4, x.ls.map cLd), (z, 3, x.gs.map cAg), (pv, 2, gs.map cGs), (pu, 3, ls.map cDl)] (isTk 66 139 144 (bgA x sf gs ls) (bgE x sf gs ls)) := by
 refine Ct.of (N := 82) Tryz.func71 rfl rfl rfl fun w => ?_
 refine C_weak (E' := [(0, .agg (cAt v u z x).toArray), (1, .agg (cPl nm sf pv pu).toArray)]) (rs' := [rd v 4 (x.ts.map cCp), rd u 4 (x.ls.map cLd), rd z 3 (x.gs.map cAg), rd pv 2 (gs.map cGs), rd pu 3 (ls.map cDl)]) ⟨rfl, rfl, trivial⟩ (fun _ h => h) ?_
 have hl1 := len_map cCp x.ts
 have hl2 := len_map cLd x.ls
 have hl3 := len_map cAg x.gs
 have hp1 := len_map cGs gs; have hp2 := len_map cDl ls
 refine C_seq ?_
 refine C_region ?_
 refine L_box rfl rfl rfl fun g2 => ?_
 refine L_box rfl rfl rfl fun g3 => ?_
 refine L_alloc tb rfl rfl fun g4 => ?_
 refine Jq (q_assign rfl) ?_
 refine L_then ?_
 refine C_seq ?_
 refine C_region ?_
 refine Jq (q_loadA tb rfl rfl bxo rfl rfl) ?_
 refine L_lo rfl rfl rfl (lo_call tb rfl rfl (ct_ascent_open v u z x (by omega) (by omega) (by omega)) (ps_cons gvo (ps_cons gvo (ps_cons gvo no_ps))) isTk_sinks) ?_
 rintro _ _ ⟨A13, n13, c13, B13, m13, d13, C13, k13, e13, rfl, rfl⟩
 refine Jq (q_move rfl) ?_
 refine Jq (q_ext0 rfl) ?_
 refine Jq (q_ext1 rfl) ?_
 refine L_alloc tb rfl rfl fun g6 => ?_
 refine L_st tb rfl rfl ?_
 refine Jq (q_assign rfl) ?_
 refine L_then ?_
 refine C_seq ?_
 refine C_block ?_
 refine C_seq ?_
 refine C_region ?_
 refine Jq (q_move rfl) ?_
 refine Jq (q_neq rfl rfl) ?_
 refine Jq (q_assign rfl) ?_
 refine L_then ?_
 refine C_dec rfl (fun h1 => ?_) (fun h1 => ?_)
 refine C_seq ?_
 refine C_region ?_
 refine Jq (by first | exact q_build tb rfl rfl rfl rfl | exact q_buildArr tb rfl rfl rfl rfl rfl) ?_
 refine Jq (q_move rfl) ?_
 refine L_st tb rfl rfl ?_
 refine Jq (q_assign rfl) ?_
 refine L_then ?_
 refine C_ret ?_
 obtain ⟨r1, r2⟩ := bg_1 (x := x) (sf := sf) (gs := gs) (ls := ls) h1
 rw [r1, r2]
 exact ret_of (rs' := [sl (.slice none 0 0) 66 4 [], sl (.slice none 0 0) 139 4 [], sl (.slice none 0 0) 144 3 []]) (resCT tb rfl rfl rfl rfl bxo rfl) (fun w_ h_ => ws_nil (ws_nil (ws_nil (sub_nil w_ h_)))) own3 ⟨_, _, _, _, _, _, _, _, _, rfl, rfl⟩
 have hz := Decidable.not_not.1 h1
 rw [opA_2 hz]
 have H := ckAsc_ok hz
 have hbl := beh_len H; have hsu := H.su; have hde := H.de; have hrf := H.r.fi
 obtain ⟨r1, r2⟩ := bg_2 (x := x) (sf := sf) (gs := gs) (ls := ls) hz
 rw [r1, r2]
 refine C_seq ?_
 refine C_region ?_
 refine Jq (q_field tb rfl rfl rfl) ?_
 refine Jq (q_load tb rfl rfl bxo rfl) ?_
 refine Jq (q_neq rfl rfl) ?_
 refine Jq (q_assign rfl) ?_
 refine L_then ?_
 refine C_dec rfl (fun h2 => ?_) (fun h2 => ?_)
 refine C_seq ?_
 refine C_region ?_
 refine Jq (by first | exact q_build tb rfl rfl rfl rfl | exact q_buildArr tb rfl rfl rfl rfl rfl) ?_
 refine L_st tb rfl rfl ?_
 refine Jq (q_assign rfl) ?_
 refine L_then ?_
 refine C_ret ?_
 obtain ⟨e1, e2⟩ := beg_1 (x := x) (sf := sf) (gs := gs) (ls := ls) h2
 rw [e1, e2]
 exact ret_of (rs' := [sl (.slice none 0 0) 66 4 [], sl (.slice none 0 0) 139 4 [], sl (.slice none 0 0) 144 3 []]) (resCT tb rfl rfl rfl rfl bxo rfl) (fun w_ h_ => ws_nil (ws_nil (ws_nil (sub_nil w_ h_)))) own3 ⟨_, _, _, _, _, _, _, _, _, rfl, rfl⟩
 refine C_seq ?_
 refine C_region ?_
 refine Jq (q_field tb rfl rfl rfl) ?_
 refine Jq (q_load tb rfl rfl bxo rfl) ?_
 refine Jq (q_field tb rfl rfl rfl) ?_
 refine Jq (q_load tb rfl rfl bxo rfl) ?_
 refine Jq (q_neq rfl rfl) ?_
 refine Jq (q_assign rfl) ?_
 refine L_then ?_
 refine C_dec rfl (fun h3 => ?_) (fun h3 => ?_)
 refine C_seq ?_
 refine C_region ?_
 refine Jq (by first | exact q_build tb rfl rfl rfl rfl | exact q_buildArr tb rfl rfl rfl rfl rfl) ?_
 refine L_st tb rfl rfl ?_
 refine Jq (q_assign rfl) ?_
 refine L_then ?_
 refine C_ret ?_
 obtain ⟨e1, e2⟩ := beg_2 (x := x) (sf := sf) (gs := gs) (ls := ls) h2 h3
 rw [e1, e2]
 exact ret_of (rs' := [sl (.slice none 0 0) 66 4 [], sl (.slice none 0 0) 139 4 [], sl (.slice none 0 0) 144 3 []]) (resCT tb rfl rfl rfl rfl bxo rfl) (fun w_ h_ => ws_nil (ws_nil (ws_nil (sub_nil w_ h_)))) own3 ⟨_, _, _, _, _, _, _, _, _, rfl, rfl⟩
 refine C_skip_blk ?_
 refine C_seq ?_
 refine C_region ?_
 refine Jq (q_loadA tb rfl rfl bxo rfl rfl) ?_
 refine L_callSN tb rfl rfl (ct_tissue_LegsOf nm sf _ _ gs ls (by omega) (by omega)) (ps_cons gvo (ps_cons gvo no_ps)) rfl fun v35 => ?_
 refine Jq (q_move rfl) ?_
 refine Jq (q_ext0 rfl) ?_
 refine Jq (q_ext1 rfl) ?_
 refine Jq (q_assign rfl) ?_
 refine Jq (q_assign rfl) ?_
 refine L_then ?_
 refine C_seq ?_
 refine C_seq ?_
 refine C_region ?_
 refine Jq (q_move rfl) ?_
 refine Jq (q_neq rfl rfl) ?_
 refine L_then ?_
 refine C_dec rfl (fun h4 => ?_) (fun h4 => ?_)
 refine C_seq ?_
 refine C_region ?_
 refine Jq (by first | exact q_build tb rfl rfl rfl rfl | exact q_buildArr tb rfl rfl rfl rfl rfl) ?_
 refine Jq (q_move rfl) ?_
 refine L_st tb rfl rfl ?_
 refine Jq (q_assign rfl) ?_
 refine L_then ?_
 refine C_ret ?_
 rw [beg_3 h2 h3, beg_4 h2 h3 h4]
 exact ret_of (rs' := [sl (.slice none 0 0) 66 4 [], sl (.slice none 0 0) 139 4 [], sl (.slice none 0 0) 144 3 []]) (resCT tb rfl rfl rfl rfl bxo rfl) (fun w_ h_ => ws_nil (ws_nil (ws_nil (sub_nil w_ h_)))) own3 ⟨_, _, _, _, _, _, _, _, _, rfl, rfl⟩
 have hln := legsE_len (Decidable.not_not.1 h4)
 have hlx := len_map cLg (legsE sf gs ls).1
 have hfc := fol_c (sf := sf) (gs := gs) (ls := ls) H
 refine C_skip_then ?_
 refine C_seq ?_
 refine C_region ?_
 refine Jq (q_field tb rfl rfl rfl) ?_
 refine Jq (q_field tb rfl rfl rfl) ?_
 refine Jq (q_load tb rfl rfl bxo rfl) ?_
 refine Jq (q_field tb rfl rfl rfl) ?_
 refine Jq (q_field tb rfl rfl rfl) ?_
 refine Jq (q_load tb rfl rfl bxo rfl) ?_
 refine Jq (q_move rfl) ?_
 refine Jq (q_field tb rfl rfl rfl) ?_
 refine Jq (q_field tb rfl rfl rfl) ?_
 refine Jq (q_load tb rfl rfl bxo rfl) ?_
 refine L_lo rfl rfl rfl (lo_call tb rfl rfl (ct_tissue_Followed _ _ _ x.r.fi x.ts x.ls (legsE sf gs ls).1 (by omega) (by omega) (by omega)) (ps_cons gvo (ps_cons gvo (ps_cons gvo no_ps))) FolP_sinks) ?_
 rintro _ _ ⟨s53, vs53, rfl, rfl, hl53⟩
 refine Jq (q_move rfl) ?_
 rw [hfc] at hl53 ⊢
 rw [if_pos rfl] at hl53
 refine Jq (q_ext0 rfl) ?_
 refine Jq (q_ext1 rfl) ?_
 refine Jq (q_assign rfl) ?_
 refine Jq (q_assign rfl) ?_
 refine L_then ?_
 refine C_seq ?_
 refine C_seq ?_
 refine C_region ?_
 refine Jq (q_move rfl) ?_
 refine Jq (q_false (q_neq rfl rfl) (decide_eq_false fun h => h rfl)) ?_
 refine L_then ?_
 refine C_false rfl ?_
 refine C_skip_then ?_
 refine C_seq ?_
 refine C_seq ?_
 refine C_region ?_
 refine Jq (q_move rfl) ?_
 refine Jq (q_len tb rfl rfl gvo) ?_
 refine Jq (q_assign rfl) ?_
 refine L_then ?_
 refine C_seq ?_
 refine C_region ?_
 refine Jq (q_move rfl) ?_
 refine Jq (q_gtr rfl rfl) ?_
 refine L_then ?_
 refine C_dec rfl (fun h6 => ?_) (fun h6 => ?_)
 have hne : (legsE sf gs ls).1.length ≠ 0 := by omega
 obtain ⟨v9, t9, rfl⟩ : ∃ a b, vs53 = a :: b := by
  cases vs53 with
  | nil => exact absurd hl53 (by rw [List.length_nil]; omega)
  | cons a b => exact ⟨a, b, rfl⟩
 rw [List.length_cons] at hl53
 refine C_res (rs' := [box g6 156 (cAt (.slice A13 n13 c13) (.slice B13 m13 d13) (.slice C13 k13 e13) x), sl v9 139 4 ((folM x.ts x.ls (legsE sf gs ls).1 (fnA x) (t9.length + 1)).map cLd), sl s53 23 1 ((v9 :: t9).reverse.map fun q => [q]), sl (.slice A13 n13 c13) 66 4 (x.ts.map cCp), sl (.slice C13 k13 e13) 144 3 (x.gs.map cAg), box g4 28 [.slice none 0 0, .slice none 0 0, .int .i64 0, .int .i64 0, .slice none 0 0, .int .i64 0, .int .i64 0, .int .i64 0, .int .i64 0, .int .i64 0, .int .i64 0, .int .i64 0], box g3 118 (cPl nm sf pv pu), box g2 28 (cAt v u z x), rd pv 2 (gs.map cGs), rd pu 3 (ls.map cDl)]) (fun _ h_ => by rw [show x.r.fi.toNat = fnA x from rfl, rlR] at h_; exact h_.pk (by repeat (first | with_reducible exact pk_nil | refine pk_box rfl ?_ | refine pk_rd rfl ?_ | refine pk_sl rfl ?_ | with_reducible refine pk_app ?_ | with_reducible refine pk_app0 ?_ | with_reducible refine pk_app0L ?_ | with_reducible exact pk_tl | refine pk_var ?_))) ?_
 have hk9 : t9.length + 1 = ls.length := by omega
 rw [hk9]
 obtain ⟨y, he⟩ := get_some ls (k := ls.length - 1) (by omega)
 have hel := map_get cDl he
 have hell : ((v9 :: t9).reverse.map fun q => [q])[ls.length - 1]? = some [v9] := by rw [List.map_reverse]; exact rev_last hk9
 refine C_form (v := v9) gvo (fun A9 c9 hv9 _ => ?_)
 subst hv9
 have hll9 : ((Value.slice A9 ((folM x.ts x.ls (legsE sf gs ls).1 (fnA x) ls.length).map cLd).length c9 :: t9).reverse.map fun q => [q]).length = ls.length := by rw [List.length_map, List.length_reverse, List.length_cons]; exact hk9
 have hdp : y.d = dpK x.de ls ls.length := by have h9 := dpK_s (d := x.de) he; rw [show ls.length - 1 + 1 = ls.length by omega] at h9; exact h9
 refine Kp.C_own1 [.q 0, .q 1, .q 2, .q 3, .q 4, .q 5, .q 6, .q 7, .q 8, .q 9, .q 10, .q 11, .q 12, .q 13, .s 14, .q 15, .q 16, .s 17] mixed (by kernel_rfl) rfl (by kernel_rfl) ?_
 refine Kp.X_q rfl rfl rfl rfl (q_move rfl) ?_
 refine Kp.X_q rfl rfl rfl rfl (q_move rfl) ?_
 refine Kp.X_q rfl rfl rfl rfl (q_sub rfl rfl (by first | exact IntWalk.i64_in _ (by omega) | rfl)) ?_
 refine Kp.X_q rfl rfl rfl rfl (by first | exact q_index tb rfl rfl rfl rfl gvo (by omega) (by first | omega | (simp; done) | (simp; omega)) | exact q_indexP tb rfl rfl rfl rfl (by omega) (by omega)) ?_
 refine Kp.X_q rfl rfl rfl rfl (q_loadE tb rfl rfl gvo (i := ls.length - 1) (o := 0) (by omega) hell rfl) ?_
 refine Kp.X_q rfl rfl rfl rfl (q_field tb rfl rfl rfl) ?_
 refine Kp.X_q rfl rfl rfl rfl (q_load tb rfl rfl bxo rfl) ?_
 refine Kp.X_q rfl rfl rfl rfl (q_move rfl) ?_
 refine Kp.X_q rfl rfl rfl rfl (q_sub rfl rfl (by first | exact IntWalk.i64_in _ (by omega) | rfl)) ?_
 refine Kp.X_q rfl rfl rfl rfl (by first | exact q_index tb rfl rfl rfl rfl gvo (by omega) (by first | omega | (simp; done) | (simp; omega)) | exact q_indexP tb rfl rfl rfl rfl (by omega) (by omega)) ?_
 refine Kp.X_q rfl rfl rfl rfl (q_fieldE tb rfl rfl rfl gvo (by first | omega | (simp; done) | (simp; omega))) ?_
 refine Kp.X_q rfl rfl rfl rfl (q_loadE tb rfl rfl gvo (i := ls.length - 1) (o := 1) (by omega) hel rfl) ?_
 refine Kp.X_q rfl rfl rfl rfl (q_field tb rfl rfl rfl) ?_
 refine Kp.X_q rfl rfl rfl rfl (q_field tb rfl rfl rfl) ?_
 first | refine Kp.X_store tb rfl rfl (List.Perm.refl _) rfl rfl rfl rfl rfl rfl rfl rfl ?_ | refine Kp.X_store tb rfl rfl perm1 rfl rfl rfl rfl rfl rfl rfl rfl ?_ | refine Kp.X_store tb rfl rfl (perm_front (pre := [_, _])) rfl rfl rfl rfl rfl rfl rfl rfl ?_ | refine Kp.X_store tb rfl rfl (perm_front (pre := [_, _, _])) rfl rfl rfl rfl rfl rfl rfl rfl ?_
 refine Kp.X_q rfl rfl rfl rfl (q_field tb rfl rfl rfl) ?_
 refine Kp.X_q rfl rfl rfl rfl (q_field tb rfl rfl rfl) ?_
 first | refine Kp.X_store tb rfl rfl (List.Perm.refl _) rfl rfl rfl rfl rfl rfl rfl rfl ?_ | refine Kp.X_store tb rfl rfl perm1 rfl rfl rfl rfl rfl rfl rfl rfl ?_ | refine Kp.X_store tb rfl rfl (perm_front (pre := [_, _])) rfl rfl rfl rfl rfl rfl rfl rfl ?_ | refine Kp.X_store tb rfl rfl (perm_front (pre := [_, _, _])) rfl rfl rfl rfl rfl rfl rfl rfl ?_
 refine Kp.X_nil ?_
 dsimp only [List.cons_append, List.nil_append]
 refine L_then ?_
 refine C_seq ?_
 refine C_region ?_
 refine Jq (q_field tb rfl rfl rfl) ?_
 refine Jq (q_loadA tb rfl rfl bxo rfl rfl) ?_
 refine L_st tb rfl rfl ?_
 refine Jq (q_assign rfl) ?_
 refine L_then ?_
 refine C_ret ?_
 rw [beg_3 h2 h3, beg_5 h2 h3 h4, Decidable.not_not.1 h4, hdp]
 exact ret_of (rs' := [sl _ 66 4 ((bgX x sf gs ls ls.length).ts.map cCp), sl _ 139 4 ((bgX x sf gs ls ls.length).ls.map cLd), sl _ 144 3 ((bgX x sf gs ls ls.length).gs.map cAg)]) (resCT tb rfl rfl rfl rfl bxo rfl) (fun w_ h_ => h_.pk (by repeat (first | with_reducible exact pk_nil | refine pk_box rfl ?_ | refine pk_rd rfl ?_ | refine pk_sl rfl ?_ | with_reducible refine pk_app ?_ | with_reducible refine pk_app0 ?_ | with_reducible refine pk_app0L ?_ | with_reducible exact pk_tl | refine pk_var ?_))) own3 ⟨_, _, _, _, _, _, _, _, _, rfl, rfl⟩
 have hl0 : ls.length = 0 := by omega
 have hX0 : bgX x sf gs ls ls.length = x := by rw [hl0]; rfl
 refine C_skip_then ?_
 refine C_seq ?_
 refine C_region ?_
 refine Jq (q_field tb rfl rfl rfl) ?_
 refine Jq (q_loadA tb rfl rfl bxo rfl rfl) ?_
 refine L_st tb rfl rfl ?_
 refine Jq (q_assign rfl) ?_
 refine L_then ?_
 refine C_ret ?_
 rw [beg_3 h2 h3, beg_5 h2 h3 h4, Decidable.not_not.1 h4, hX0]
 exact ret_of (rs' := [sl _ 66 4 (x.ts.map cCp), sl _ 139 4 (x.ls.map cLd), sl _ 144 3 (x.gs.map cAg)]) (resCT tb rfl rfl rfl rfl bxo rfl) (fun w_ h_ => h_.pk (by repeat (first | with_reducible exact pk_nil | refine pk_box rfl ?_ | refine pk_rd rfl ?_ | refine pk_sl rfl ?_ | with_reducible refine pk_app ?_ | with_reducible refine pk_app0 ?_ | with_reducible refine pk_app0L ?_ | with_reducible exact pk_tl | refine pk_var ?_))) own3 ⟨_, _, _, _, _, _, _, _, _, rfl, rfl⟩
end Go.Proofs.YthilaakeimfedaaGreatDoor
