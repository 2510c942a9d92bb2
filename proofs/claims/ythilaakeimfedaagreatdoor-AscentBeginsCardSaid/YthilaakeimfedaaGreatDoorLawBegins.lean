/-
  Walks: each function named returns what its model says. Conditions: those in front of each theorem.
-/
import Derived.Test.YthilaakeimfedaaGreatDoorAV
import Derived.Test.YthilaakeimfedaaGreatDoorAR
import Derived.Test.YthilaakeimfedaaGreatDoorLH
import Derived.Test.YthilaakeimfedaaGreatDoorLHs
namespace Go.Proofs.YthilaakeimfedaaGreatDoor
open Go.RowKit

set_option maxRecDepth 100000 in
set_option maxHeartbeats 4000000 in
theorem ct_ascent_Begun (v u z : Value) (x : Asc) (nm : ByteArray) (sf : Int) (pv pu : Value) (gs : List Gs) (ls : List Dl) (hle1 : x.ts.length ≤ 100000) (hle2 : x.ls.length ≤ 100000) (hle3 : x.gs.length ≤ 100000) (hlg : gs.length ≤ 100000) (hll : ls.length ≤ 100000) : Ct Tryz.prog 71 [.agg (cAt v u z x).toArray, .agg (cPl nm sf pv pu).toArray] [(v, 4, x.ts.map cCp), (u, 4, x.ls.map cLd), (z, 3, x.gs.map cAg), (pv, 2, gs.map cGs), (pu, 3, ls.map cDl)] (isTk 66 139 144 (bgA x sf gs ls) (bgE x sf gs ls)) := by
 refine Ct.of (N := 82) Tryz.func71 rfl rfl rfl fun w => ?_
 refine C_weak (E' := [(0, .agg (cAt v u z x).toArray), (1, .agg (cPl nm sf pv pu).toArray)]) (rs' := [rd v 4 (x.ts.map cCp), rd u 4 (x.ls.map cLd), rd z 3 (x.gs.map cAg), rd pv 2 (gs.map cGs), rd pu 3 (ls.map cDl)]) ⟨rfl, rfl, trivial⟩ (fun _ h => h) ?_
 have hl1 := len_map cCp x.ts
 have hl2 := len_map cLd x.ls
 have hl3 := len_map cAg x.gs
 have hp1 := len_map cGs gs; have hp2 := len_map cDl ls
 refine C_seq ?_
 refine C_region ?_
 refine L_box rfl rfl rfl fun g2 => ?_
 refine L_box rfl rfl rfl fun g3 => ?_
 refine L_alloc tb rfl rfl fun g4 => ?_
 refine Jq (q_assign rfl) ?_
 refine L_then ?_
 refine C_seq ?_
 refine C_region ?_
 refine Jq (q_loadA tb rfl rfl bxo rfl rfl) ?_
 refine L_lo rfl rfl rfl (lo_call tb rfl rfl (ct_ascent_open v u z x (by omega) (by omega) (by omega)) (ps_cons gvo (ps_cons gvo (ps_cons gvo no_ps))) isTk_sinks) ?_
 rintro _ _ ⟨A13, n13, c13, B13, m13, d13, C13, k13, e13, rfl, rfl⟩
 refine Jq (q_move rfl) ?_
 refine Jq (q_ext0 rfl) ?_
 refine Jq (q_ext1 rfl) ?_
 refine L_alloc tb rfl rfl fun g6 => ?_
 refine L_st tb rfl rfl ?_
 refine Jq (q_assign rfl) ?_
 refine L_then ?_
 refine C_seq ?_
 refine C_block ?_
 refine C_seq ?_
 refine C_region ?_
 refine Jq (q_move rfl) ?_
 refine Jq (q_neq rfl rfl) ?_
 refine Jq (q_assign rfl) ?_
 refine L_then ?_
 refine C_dec rfl (fun h1 => ?_) (fun h1 => ?_)
 refine C_seq ?_
 refine C_region ?_
 refine Jq (by first | exact q_build tb rfl rfl rfl rfl | exact q_buildArr tb rfl rfl rfl rfl rfl) ?_
 refine Jq (q_move rfl) ?_
 refine L_st tb rfl rfl ?_
 refine Jq (q_assign rfl) ?_
 refine L_then ?_
 refine C_ret ?_
 obtain ⟨r1, r2⟩ := bg_1 (x := x) (sf := sf) (gs := gs) (ls := ls) h1
 rw [r1, r2]
 exact ret_of (rs' := [sl (.slice none 0 0) 66 4 [], sl (.slice none 0 0) 139 4 [], sl (.slice none 0 0) 144 3 []]) (resCT tb rfl rfl rfl rfl bxo rfl) (fun w_ h_ => ws_nil (ws_nil (ws_nil (sub_nil w_ h_)))) own3 ⟨_, _, _, _, _, _, _, _, _, rfl, rfl⟩
 have hz := Decidable.not_not.1 h1
 rw [opA_2 hz]
 have H := ckAsc_ok hz
 have hbl := beh_len H; have hsu := H.su; have hde := H.de; have hrf := H.r.fi
 obtain ⟨r1, r2⟩ := bg_2 (x := x) (sf := sf) (gs := gs) (ls := ls) hz
 rw [r1, r2]
 refine C_seq ?_
 refine C_region ?_
 refine Jq (q_field tb rfl rfl rfl) ?_
 refine Jq (q_load tb rfl rfl bxo rfl) ?_
 refine Jq (q_neq rfl rfl) ?_
 refine Jq (q_assign rfl) ?_
 refine L_then ?_
 refine C_dec rfl (fun h2 => ?_) (fun h2 => ?_)
 refine C_seq ?_
 refine C_region ?_
 refine Jq (by first | exact q_build tb rfl rfl rfl rfl | exact q_buildArr tb rfl rfl rfl rfl rfl) ?_
 refine L_st tb rfl rfl ?_
 refine Jq (q_assign rfl) ?_
 refine L_then ?_
 refine C_ret ?_
 obtain ⟨e1, e2⟩ := beg_1 (x := x) (sf := sf) (gs := gs) (ls := ls) h2
 rw [e1, e2]
 exact ret_of (rs' := [sl (.slice none 0 0) 66 4 [], sl (.slice none 0 0) 139 4 [], sl (.slice none 0 0) 144 3 []]) (resCT tb rfl rfl rfl rfl bxo rfl) (fun w_ h_ => ws_nil (ws_nil (ws_nil (sub_nil w_ h_)))) own3 ⟨_, _, _, _, _, _, _, _, _, rfl, rfl⟩
 refine C_seq ?_
 refine C_region ?_
 refine Jq (q_field tb rfl rfl rfl) ?_
 refine Jq (q_load tb rfl rfl bxo rfl) ?_
 refine Jq (q_field tb rfl rfl rfl) ?_
 refine Jq (q_load tb rfl rfl bxo rfl) ?_
 refine Jq (q_neq rfl rfl) ?_
 refine Jq (q_assign rfl) ?_
 refine L_then ?_
 refine C_dec rfl (fun h3 => ?_) (fun h3 => ?_)
 refine C_seq ?_
 refine C_region ?_
 refine Jq (by first | exact q_build tb rfl rfl rfl rfl | exact q_buildArr tb rfl rfl rfl rfl rfl) ?_
 refine L_st tb rfl rfl ?_
 refine Jq (q_assign rfl) ?_
 refine L_then ?_
 refine C_ret ?_
 obtain ⟨e1, e2⟩ := beg_2 (x := x) (sf := sf) (gs := gs) (ls := ls) h2 h3
 rw [e1, e2]
 exact ret_of (rs' := [sl (.slice none 0 0) 66 4 [], sl (.slice none 0 0) 139 4 [], sl (.slice none 0 0) 144 3 []]) (resCT tb rfl rfl rfl rfl bxo rfl) (fun w_ h_ => ws_nil (ws_nil (ws_nil (sub_nil w_ h_)))) own3 ⟨_, _, _, _, _, _, _, _, _, rfl, rfl⟩
 refine C_skip_blk ?_
 refine C_seq ?_
 refine C_region ?_
 refine Jq (q_loadA tb rfl rfl bxo rfl rfl) ?_
 refine L_callSN tb rfl rfl (ct_tissue_LegsOf nm sf _ _ gs ls (by omega) (by omega)) (ps_cons gvo (ps_cons gvo no_ps)) rfl fun v35 => ?_
 refine Jq (q_move rfl) ?_
 refine Jq (q_ext0 rfl) ?_
 refine Jq (q_ext1 rfl) ?_
 refine Jq (q_assign rfl) ?_
 refine Jq (q_assign rfl) ?_
 refine L_then ?_
 refine C_seq ?_
 refine C_seq ?_
 refine C_region ?_
 refine Jq (q_move rfl) ?_
 refine Jq (q_neq rfl rfl) ?_
 refine L_then ?_
 refine C_dec rfl (fun h4 => ?_) (fun h4 => ?_)
 refine C_seq ?_
 refine C_region ?_
 refine Jq (by first | exact q_build tb rfl rfl rfl rfl | exact q_buildArr tb rfl rfl rfl rfl rfl) ?_
 refine Jq (q_move rfl) ?_
 refine L_st tb rfl rfl ?_
 refine Jq (q_assign rfl) ?_
 refine L_then ?_
 refine C_ret ?_
 rw [beg_3 h2 h3, beg_4 h2 h3 h4]
 exact ret_of (rs' := [sl (.slice none 0 0) 66 4 [], sl (.slice none 0 0) 139 4 [], sl (.slice none 0 0) 144 3 []]) (resCT tb rfl rfl rfl rfl bxo rfl) (fun w_ h_ => ws_nil (ws_nil (ws_nil (sub_nil w_ h_)))) own3 ⟨_, _, _, _, _, _, _, _, _, rfl, rfl⟩
 have hln := legsE_len (Decidable.not_not.1 h4)
 have hlx := len_map cLg (legsE sf gs ls).1
 have hfc := fol_c (sf := sf) (gs := gs) (ls := ls) H
 refine C_skip_then ?_
 refine C_seq ?_
 refine C_region ?_
 refine Jq (q_field tb rfl rfl rfl) ?_
 refine Jq (q_field tb rfl rfl rfl) ?_
 refine Jq (q_load tb rfl rfl bxo rfl) ?_
 refine Jq (q_field tb rfl rfl rfl) ?_
 refine Jq (q_field tb rfl rfl rfl) ?_
 refine Jq (q_load tb rfl rfl bxo rfl) ?_
 refine Jq (q_move rfl) ?_
 refine Jq (q_field tb rfl rfl rfl) ?_
 refine Jq (q_field tb rfl rfl rfl) ?_
 refine Jq (q_load tb rfl rfl bxo rfl) ?_
 refine L_lo rfl rfl rfl (lo_call tb rfl rfl (ct_tissue_Followed _ _ _ x.r.fi x.ts x.ls (legsE sf gs ls).1 (by omega) (by omega) (by omega)) (ps_cons gvo (ps_cons gvo (ps_cons gvo no_ps))) FolP_sinks) ?_
 rintro _ _ ⟨s53, vs53, rfl, rfl, hl53⟩
 refine Jq (q_move rfl) ?_
 rw [hfc] at hl53 ⊢
 rw [if_pos rfl] at hl53
 refine Jq (q_ext0 rfl) ?_
 refine Jq (q_ext1 rfl) ?_
 refine Jq (q_assign rfl) ?_
 refine Jq (q_assign rfl) ?_
 refine L_then ?_
 refine C_seq ?_
 refine C_seq ?_
 refine C_region ?_
 refine Jq (q_move rfl) ?_
 refine Jq (q_false (q_neq rfl rfl) (decide_eq_false fun h => h rfl)) ?_
 refine L_then ?_
 refine C_false rfl ?_
 refine C_skip_then ?_
 refine C_seq ?_
 refine C_seq ?_
 refine C_region ?_
 refine Jq (q_move rfl) ?_
 refine Jq (q_len tb rfl rfl gvo) ?_
 refine Jq (q_assign rfl) ?_
 refine L_then ?_
 refine C_seq ?_
 refine C_region ?_
 refine Jq (q_move rfl) ?_
 refine Jq (q_gtr rfl rfl) ?_
 refine L_then ?_
 refine C_dec rfl (fun h6 => ?_) (fun h6 => ?_)
 have hne : (legsE sf gs ls).1.length ≠ 0 := by omega
 obtain ⟨v9, t9, rfl⟩ : ∃ a b, vs53 = a :: b := by
  cases vs53 with
  | nil => exact absurd hl53 (by rw [List.length_nil]; omega)
  | cons a b => exact ⟨a, b, rfl⟩
 rw [List.length_cons] at hl53
 refine C_res (rs' := [box g6 156 (cAt (.slice A13 n13 c13) (.slice B13 m13 d13) (.slice C13 k13 e13) x), sl v9 139 4 ((folM x.ts x.ls (legsE sf gs ls).1 (fnA x) (t9.length + 1)).map cLd), sl s53 23 1 ((v9 :: t9).reverse.map fun q => [q]), sl (.slice A13 n13 c13) 66 4 (x.ts.map cCp), sl (.slice C13 k13 e13) 144 3 (x.gs.map cAg), box g4 28 [.slice none 0 0, .slice none 0 0, .int .i64 0, .int .i64 0, .slice none 0 0, .int .i64 0, .int .i64 0, .int .i64 0, .int .i64 0, .int .i64 0, .int .i64 0, .int .i64 0], box g3 118 (cPl nm sf pv pu), box g2 28 (cAt v u z x), rd pv 2 (gs.map cGs), rd pu 3 (ls.map cDl)]) (fun _ h_ => by rw [show x.r.fi.toNat = fnA x from rfl, rlR] at h_; exact h_.pk (by repeat (first | with_reducible exact pk_nil | refine pk_box rfl ?_ | refine pk_rd rfl ?_ | refine pk_sl rfl ?_ | with_reducible refine pk_app ?_ | with_reducible refine pk_app0 ?_ | with_reducible refine pk_app0L ?_ | with_reducible exact pk_tl | refine pk_var ?_))) ?_
 have hk9 : t9.length + 1 = ls.length := by omega
 rw [hk9]
 obtain ⟨y, he⟩ := get_some ls (k := ls.length - 1) (by omega)
 have hel := map_get cDl he
 have hell : ((v9 :: t9).reverse.map fun q => [q])[ls.length - 1]? = some [v9] := by rw [List.map_reverse]; exact rev_last hk9
 refine C_form (v := v9) gvo (fun A9 c9 hv9 _ => ?_)
 subst hv9
 have hll9 : ((Value.slice A9 ((folM x.ts x.ls (legsE sf gs ls).1 (fnA x) ls.length).map cLd).length c9 :: t9).reverse.map fun q => [q]).length = ls.length := by rw [List.length_map, List.length_reverse, List.length_cons]; exact hk9
 have hdp : y.d = dpK x.de ls ls.length := by have h9 := dpK_s (d := x.de) he; rw [show ls.length - 1 + 1 = ls.length by omega] at h9; exact h9
 refine Kp.C_own1 [.q 0, .q 1, .q 2, .q 3, .q 4, .q 5, .q 6, .q 7, .q 8, .q 9, .q 10, .q 11, .q 12, .q 13, .s 14, .q 15, .q 16, .s 17] mixed (by kernel_rfl) rfl (by kernel_rfl) ?_
 refine Kp.X_q rfl rfl rfl rfl (q_move rfl) ?_
 refine Kp.X_q rfl rfl rfl rfl (q_move rfl) ?_
 refine Kp.X_q rfl rfl rfl rfl (q_sub rfl rfl (by first | exact IntWalk.i64_in _ (by omega) | rfl)) ?_
 refine Kp.X_q rfl rfl rfl rfl (by first | exact q_index tb rfl rfl rfl rfl gvo (by omega) (by first | omega | (simp; done) | (simp; omega)) | exact q_indexP tb rfl rfl rfl rfl (by omega) (by omega)) ?_
 refine Kp.X_q rfl rfl rfl rfl (q_loadE tb rfl rfl gvo (i := ls.length - 1) (o := 0) (by omega) hell rfl) ?_
 refine Kp.X_q rfl rfl rfl rfl (q_field tb rfl rfl rfl) ?_
 refine Kp.X_q rfl rfl rfl rfl (q_load tb rfl rfl bxo rfl) ?_
 refine Kp.X_q rfl rfl rfl rfl (q_move rfl) ?_
 refine Kp.X_q rfl rfl rfl rfl (q_sub rfl rfl (by first | exact IntWalk.i64_in _ (by omega) | rfl)) ?_
 refine Kp.X_q rfl rfl rfl rfl (by first | exact q_index tb rfl rfl rfl rfl gvo (by omega) (by first | omega | (simp; done) | (simp; omega)) | exact q_indexP tb rfl rfl rfl rfl (by omega) (by omega)) ?_
 refine Kp.X_q rfl rfl rfl rfl (q_fieldE tb rfl rfl rfl gvo (by first | omega | (simp; done) | (simp; omega))) ?_
 refine Kp.X_q rfl rfl rfl rfl (q_loadE tb rfl rfl gvo (i := ls.length - 1) (o := 1) (by omega) hel rfl) ?_
 refine Kp.X_q rfl rfl rfl rfl (q_field tb rfl rfl rfl) ?_
 refine Kp.X_q rfl rfl rfl rfl (q_field tb rfl rfl rfl) ?_
 first | refine Kp.X_store tb rfl rfl (List.Perm.refl _) rfl rfl rfl rfl rfl rfl rfl rfl ?_ | refine Kp.X_store tb rfl rfl perm1 rfl rfl rfl rfl rfl rfl rfl rfl ?_ | refine Kp.X_store tb rfl rfl (perm_front (pre := [_, _])) rfl rfl rfl rfl rfl rfl rfl rfl ?_ | refine Kp.X_store tb rfl rfl (perm_front (pre := [_, _, _])) rfl rfl rfl rfl rfl rfl rfl rfl ?_
 refine Kp.X_q rfl rfl rfl rfl (q_field tb rfl rfl rfl) ?_
 refine Kp.X_q rfl rfl rfl rfl (q_field tb rfl rfl rfl) ?_
 first | refine Kp.X_store tb rfl rfl (List.Perm.refl _) rfl rfl rfl rfl rfl rfl rfl rfl ?_ | refine Kp.X_store tb rfl rfl perm1 rfl rfl rfl rfl rfl rfl rfl rfl ?_ | refine Kp.X_store tb rfl rfl (perm_front (pre := [_, _])) rfl rfl rfl rfl rfl rfl rfl rfl ?_ | refine Kp.X_store tb rfl rfl (perm_front (pre := [_, _, _])) rfl rfl rfl rfl rfl rfl rfl rfl ?_
 refine Kp.X_nil ?_
 dsimp only [List.cons_append, List.nil_append]
 refine L_then ?_
 refine C_seq ?_
 refine C_region ?_
 refine Jq (q_field tb rfl rfl rfl) ?_
 refine Jq (q_loadA tb rfl rfl bxo rfl rfl) ?_
 refine L_st tb rfl rfl ?_
 refine Jq (q_assign rfl) ?_
 refine L_then ?_
 refine C_ret ?_
 rw [beg_3 h2 h3, beg_5 h2 h3 h4, Decidable.not_not.1 h4, hdp]
 exact ret_of (rs' := [sl _ 66 4 ((bgX x sf gs ls ls.length).ts.map cCp), sl _ 139 4 ((bgX x sf gs ls ls.length).ls.map cLd), sl _ 144 3 ((bgX x sf gs ls ls.length).gs.map cAg)]) (resCT tb rfl rfl rfl rfl bxo rfl) (fun w_ h_ => h_.pk (by repeat (first | with_reducible exact pk_nil | refine pk_box rfl ?_ | refine pk_rd rfl ?_ | refine pk_sl rfl ?_ | with_reducible refine pk_app ?_ | with_reducible refine pk_app0 ?_ | with_reducible refine pk_app0L ?_ | with_reducible exact pk_tl | refine pk_var ?_))) own3 ⟨_, _, _, _, _, _, _, _, _, rfl, rfl⟩
 have hl0 : ls.length = 0 := by omega
 have hX0 : bgX x sf gs ls ls.length = x := by rw [hl0]; rfl
 refine C_skip_then ?_
 refine C_seq ?_
 refine C_region ?_
 refine Jq (q_field tb rfl rfl rfl) ?_
 refine Jq (q_loadA tb rfl rfl bxo rfl rfl) ?_
 refine L_st tb rfl rfl ?_
 refine Jq (q_assign rfl) ?_
 refine L_then ?_
 refine C_ret ?_
 rw [beg_3 h2 h3, beg_5 h2 h3 h4, Decidable.not_not.1 h4, hX0]
 exact ret_of (rs' := [sl _ 66 4 (x.ts.map cCp), sl _ 139 4 (x.ls.map cLd), sl _ 144 3 (x.gs.map cAg)]) (resCT tb rfl rfl rfl rfl bxo rfl) (fun w_ h_ => h_.pk (by repeat (first | with_reducible exact pk_nil | refine pk_box rfl ?_ | refine pk_rd rfl ?_ | refine pk_sl rfl ?_ | with_reducible refine pk_app ?_ | with_reducible refine pk_app0 ?_ | with_reducible refine pk_app0L ?_ | with_reducible exact pk_tl | refine pk_var ?_))) own3 ⟨_, _, _, _, _, _, _, _, _, rfl, rfl⟩
end Go.Proofs.YthilaakeimfedaaGreatDoor
namespace Go.Proofs.YthilaakeimfedaaGreatDoor
open Go.RowKit

set_option maxRecDepth 100000 in
set_option maxHeartbeats 4000000 in
theorem ct_shotlinelaw04_AscentBegins (v u z : Value) (x : Asc) (nm : ByteArray) (sf : Int) (pv pu : Value) (gs : List Gs) (ls : List Dl) (s : Int) : CtQ KQ Tryz.prog 14 [.agg (cAt v u z x).toArray, .agg (cPl nm sf pv pu).toArray, .int .i64 s] [(v, 4, x.ts.map cCp), (u, 4, x.ls.map cLd), (z, 3, x.gs.map cAg), (pv, 2, gs.map cGs), (pu, 3, ls.map cDl)] (isV (.bool true)) := by
 refine CtQ.of (N := 110) Tryz.func14 rfl rfl rfl fun w hQ => ?_
 refine C_weak (E' := [(0, .agg (cAt v u z x).toArray), (1, .agg (cPl nm sf pv pu).toArray), (2, .int .i64 s)]) (rs' := [rd v 4 (x.ts.map cCp), rd u 4 (x.ls.map cLd), rd z 3 (x.gs.map cAg), rd pv 2 (gs.map cGs), rd pu 3 (ls.map cDl)]) ⟨rfl, rfl, rfl, trivial⟩ (fun _ h => h) ?_
 have hl1 := len_map cCp x.ts
 have hl2 := len_map cLd x.ls
 have hl3 := len_map cAg x.gs
 have hp1 := len_map cGs gs; have hp2 := len_map cDl ls
 refine C_seq ?_
 refine C_region ?_
 refine L_box rfl rfl rfl fun g3 => ?_
 refine L_box rfl rfl rfl fun g4 => ?_
 refine Jq (q_assign rfl) ?_
 refine L_then ?_
 refine C_seq ?_
 refine C_seq ?_
 refine C_region ?_
 refine L_lo rfl rfl rfl (lo_callQ tb stQ hQ rfl rfl (ct_shotlinelaw04_awake) no_ps isV_sinks) ?_
 rintro _ _ ⟨rfl, rfl⟩
 refine Jq (q_not rfl rfl) ?_
 refine L_then ?_
 refine C_false rfl ?_
 refine C_skip_then ?_
 refine C_seq ?_
 refine C_seq ?_
 refine C_region ?_
 refine Jq (q_loadA tb rfl rfl bxo rfl rfl) ?_
 refine L_call tb rfl rfl (ct_shotlinelaw04_Light v u z x) (ps_cons gvo (ps_cons gvo (ps_cons gvo no_ps))) rfl ?_
 refine Jq (q_not rfl decide_not.symm) ?_
 refine Jq (q_move rfl) ?_
 refine L_dec (d := 21) rfl (fun hl => ?_) (fun hl => ?_)
 iterate 5 refine Jk ?_
 iterate 4 refine Ju ?_
 refine Jk ?_
 refine Jq (q_pickT rfl rfl) ?_
 refine Jq (q_move rfl) ?_
 iterate 4 refine Jk ?_
 refine Jq (q_pickT rfl rfl) ?_
 refine Jq (q_move rfl) ?_
 iterate 4 refine Jk ?_
 refine Jq (q_pickT rfl rfl) ?_
 refine L_then ?_
 refine C_true rfl ?_
 refine C_seq ?_
 refine C_region ?_
 refine Jq (q_assign rfl) ?_
 refine L_then ?_
 refine C_ret ?_
 exact ret_of (res1 rfl rfl) sub_nil (by intro r hr; cases hr) ⟨rfl, rfl⟩
 refine Jg (q_field tb rfl rfl rfl) ?_
 refine Jg (q_load tb rfl rfl bxo rfl) ?_
 refine Jg (q_len tb rfl rfl gvo) ?_
 refine Jg (q_gtr rfl rfl) ?_
 refine Jg (q_move rfl) ?_
 refine L_dec (d := 26) rfl (fun hq0 => ?_) (fun hq0 => ?_)
 refine Jg (q_field tb rfl rfl rfl) ?_
 refine Jg (q_load tb rfl rfl bxo rfl) ?_
 refine Jg (q_len tb rfl rfl gvo) ?_
 refine Jg (q_leq rfl rfl) ?_
 refine Jg (q_pickT rfl rfl) ?_
 refine Jq (q_pickF rfl rfl) ?_
 refine Jq (q_move rfl) ?_
 refine L_dec (d := 33) rfl (fun h5 => ?_) (fun h5 => ?_)
 iterate 4 refine Jk ?_
 refine Jq (q_pickT rfl rfl) ?_
 refine Jq (q_move rfl) ?_
 iterate 4 refine Jk ?_
 refine Jq (q_pickT rfl rfl) ?_
 refine L_then ?_
 refine C_true rfl ?_
 refine C_seq ?_
 refine C_region ?_
 refine Jq (q_assign rfl) ?_
 refine L_then ?_
 refine C_ret ?_
 exact ret_of (res1 rfl rfl) sub_nil (by intro r hr; cases hr) ⟨rfl, rfl⟩
 refine Jg (q_field tb rfl rfl rfl) ?_
 refine Jg (q_load tb rfl rfl bxo rfl) ?_
 refine Jg (q_len tb rfl rfl gvo) ?_
 refine Jg (q_gtr rfl rfl) ?_
 refine Jq (q_pickF rfl rfl) ?_
 refine Jq (q_move rfl) ?_
 refine L_dec (d := 39) rfl (fun hq1 => ?_) (fun hq1 => ?_)
 iterate 4 refine Jk ?_
 refine Jq (q_pickT rfl rfl) ?_
 refine L_then ?_
 refine C_true rfl ?_
 refine C_seq ?_
 refine C_region ?_
 refine Jq (q_assign rfl) ?_
 refine L_then ?_
 refine C_ret ?_
 exact ret_of (res1 rfl rfl) sub_nil (by intro r hr; cases hr) ⟨rfl, rfl⟩
 refine Jg (q_field tb rfl rfl rfl) ?_
 refine Jg (q_load tb rfl rfl bxo rfl) ?_
 refine Jg (q_len tb rfl rfl gvo) ?_
 refine Jg (q_gtr rfl rfl) ?_
 refine Jq (q_pickF rfl rfl) ?_
 refine L_then ?_
 refine C_dec rfl (fun hq2 => ?_) (fun hq2 => ?_)
 refine C_seq ?_
 refine C_region ?_
 refine Jq (q_assign rfl) ?_
 refine L_then ?_
 refine C_ret ?_
 exact ret_of (res1 rfl rfl) sub_nil (by intro r hr; cases hr) ⟨rfl, rfl⟩
 have hL := light_len (Decidable.not_not.1 hl)
 refine C_skip_then ?_
 refine C_seq ?_
 refine C_wideF1 tb (k := 8) [(0, false), (2, false), (1, true), (3, true), (4, true), (5, false), (6, false), (7, false)] [.s 9, .q 10] mixed (by kernel_rfl) rfl rfl rfl rfl (by kernel_rfl) rfl ?_
 refine X1_q rfl rfl rfl rfl (q_loadA tb rfl rfl bxo rfl rfl) ?_
 refine X1_q rfl rfl rfl rfl (q_loadA tb rfl rfl bxo rfl rfl) ?_
 refine X1_lo rfl rfl rfl rfl (lo_call tb rfl rfl (ct_shotlinelaw04_own v u z x (by omega) (by omega) (by omega)) (ps_cons gvo (ps_cons gvo (ps_cons gvo no_ps))) isTo_sinks) ?_
 rintro _ _ ⟨A47, n47, c47, B47, m47, d47, C47, k47, e47, rfl, rfl⟩
 dsimp only [List.cons_append, List.nil_append]
 refine X1_lo rfl rfl rfl rfl (lo_call tb rfl rfl (ct_shotlinebase_CopyPlan nm sf pv pu gs ls (by omega) (by omega)) (ps_cons gvo (ps_cons gvo no_ps)) (by rintro y rs ⟨a, b, _, rfl⟩ r hr; simp only [List.mem_cons, List.not_mem_nil, or_false] at hr; rcases hr with rfl | rfl <;> exact sl_sinks _ _ _ _)) ?_
 rintro _ _ ⟨a49, b49, rfl, rfl⟩
 dsimp only [List.cons_append, List.nil_append]
 refine X1_lo rfl rfl rfl rfl (lo_call tb rfl rfl (ct_ascent_Begun _ _ _ x nm sf _ _ gs ls (by omega) (by omega) (by omega) (by omega) (by omega)) (ps_cons gvo (ps_cons gvo (ps_cons gvo (ps_cons gvo (ps_cons gvo no_ps))))) isTk_sinks) ?_
 rintro _ _ ⟨A50, n50, c50, B50, m50, d50, C50, k50, e50, rfl, rfl⟩
 dsimp only [List.cons_append, List.nil_append]
 refine X1_q rfl rfl rfl rfl (q_move rfl) ?_
 refine X1_q rfl rfl rfl rfl (q_ext0 rfl) ?_
 refine X1_q rfl rfl rfl rfl (q_ext1 rfl) ?_
 refine X1_nil ?_
 intro g7
 try dsimp only [List.cons_append, List.nil_append]
 first | refine X_store tb rfl rfl (List.Perm.refl _) rfl rfl rfl rfl rfl rfl rfl rfl ?_ | refine X_store tb rfl rfl perm1 rfl rfl rfl rfl rfl rfl rfl rfl ?_ | refine X_store tb rfl rfl (perm_front (pre := [_, _])) rfl rfl rfl rfl rfl rfl rfl rfl ?_ | refine X_store tb rfl rfl (perm_front (pre := [_, _, _])) rfl rfl rfl rfl rfl rfl rfl rfl ?_
 refine X_q rfl rfl rfl rfl (q_assign rfl) ?_
 refine X_nil ?_
 dsimp only [List.cons_append, List.nil_append]
 refine L_then ?_
 refine C_seq ?_
 refine C_region ?_
 refine Jq (q_loadA tb rfl rfl bxo rfl rfl) ?_
 refine L_lo rfl rfl rfl (lo_call tb rfl rfl (ct_shotlinelaw04_own v u z x (by omega) (by omega) (by omega)) (ps_cons gvo (ps_cons gvo (ps_cons gvo no_ps))) isTo_sinks) ?_
 rintro _ _ ⟨A55, n55, c55, B55, m55, d55, C55, k55, e55, rfl, rfl⟩
 refine Jq (q_move rfl) ?_
 refine L_lo rfl rfl rfl (lo_call tb rfl rfl (ct_ascent_Rested _ _ _ x (by omega) (by omega) (by omega) s) (ps_cons gvo (ps_cons gvo (ps_cons gvo no_ps))) isTk_sinks) ?_
 rintro _ _ ⟨A57, n57, c57, B57, m57, d57, C57, k57, e57, rfl, rfl⟩
 refine Jq (q_move rfl) ?_
 refine Jq (q_ext0 rfl) ?_
 refine Jq (q_ext1 rfl) ?_
 refine L_alloc tb rfl rfl fun g9 => ?_
 refine L_st tb rfl rfl ?_
 refine Jq (q_assign rfl) ?_
 refine L_then ?_
 refine C_seq ?_
 refine C_seq ?_
 refine C_region ?_
 refine Jq (q_loadA tb rfl rfl bxo rfl rfl) ?_
 refine L_call tb rfl rfl (ct_shotlineref04_CheckTask v u z x (by omega) (by omega) (by omega)) (ps_cons gvo (ps_cons gvo (ps_cons gvo no_ps))) rfl ?_
 refine Jq (q_assign rfl) ?_
 refine L_then ?_
 refine C_seq ?_
 refine C_region ?_
 refine Jq (q_move rfl) ?_
 refine Jq (q_neq rfl rfl) ?_
 refine L_then ?_
 refine C_dec rfl (fun hc => ?_) (fun hc => ?_)
 obtain ⟨r1, r2⟩ := bg_1 (x := x) (sf := sf) (gs := gs) (ls := ls) hc
 obtain ⟨r3, r4⟩ := rs_1 (x := x) (s := s) hc
 rw [r1, r2, r3, r4]
 refine C_seq ?_
 refine C_region ?_
 refine Jq (q_move rfl) ?_
 refine Jq (q_move rfl) ?_
 refine Jq (q_true (q_eql rfl rfl) (decide_eq_true rfl)) ?_
 refine Jq (q_move rfl) ?_
 refine Jg (q_move rfl) ?_
 refine Jg (q_move rfl) ?_
 refine Jg (q_true (q_eql rfl rfl) (decide_eq_true rfl)) ?_
 refine Jq (q_pickT rfl rfl) ?_
 refine Jq (q_move rfl) ?_
 refine Jg (q_loadA tb rfl rfl bxo rfl rfl) ?_
 refine L_callg tb rfl rfl rfl rfl rfl rfl (ct_shotlinelaw04_none _ _ _) (ps_cons gvo (ps_cons gvo (ps_cons gvo no_ps))) rfl ?_
 refine Jq (q_pickT rfl rfl) ?_
 refine Jq (q_move rfl) ?_
 refine Jg (q_loadA tb rfl rfl bxo rfl rfl) ?_
 refine L_callg tb rfl rfl rfl rfl rfl rfl (ct_shotlinelaw04_none _ _ _) (ps_cons gvo (ps_cons gvo (ps_cons gvo no_ps))) rfl ?_
 refine Jq (q_pickT rfl rfl) ?_
 refine Jq (q_assign rfl) ?_
 refine L_then ?_
 refine C_ret ?_
 exact ret_of (res1 rfl rfl) sub_nil (by intro r hr; cases hr) ⟨rfl, rfl⟩
 have hz := Decidable.not_not.1 hc
 have H := ckAsc_ok hz
 obtain ⟨r1, r2⟩ := bg_2 (x := x) (sf := sf) (gs := gs) (ls := ls) hz
 obtain ⟨r3, r4⟩ := rs_2 (x := x) (s := s) hz
 rw [r1, r2, r3, r4]
 have hb9 := beg_len H sf gs ls
 have hr9 := res_len H s
 refine C_skip_then ?_
 refine C_seq ?_
 refine C_region ?_
 refine Jq (q_loadA tb rfl rfl bxo rfl rfl) ?_
 refine Jq (q_loadA tb rfl rfl bxo rfl rfl) ?_
 refine L_lo rfl rfl rfl (lo_call tb rfl rfl (ct_shotlineref04_Begun _ _ _ x nm sf _ _ gs ls H (by omega) (by omega)) (ps_cons gvo (ps_cons gvo (ps_cons gvo (ps_cons gvo (ps_cons gvo no_ps))))) isRf_sinks) ?_
 rintro _ rs83 ⟨A83, n83, c83, B83, m83, d83, C83, k83, e83, rfl, hsk83, hG83⟩
 refine Jq (q_move rfl) ?_
 refine Jq (q_ext0 rfl) ?_
 refine Jq (q_ext1 rfl) ?_
 refine L_alloc tb rfl rfl fun g12 => ?_
 refine L_st tb rfl rfl ?_
 refine Jq (q_assign rfl) ?_
 refine L_then ?_
 refine C_seq ?_
 refine C_region ?_
 refine Jq (q_loadA tb rfl rfl bxo rfl rfl) ?_
 refine Jq (q_move rfl) ?_
 refine L_lo rfl rfl rfl (lo_call tb rfl rfl (ct_shotlineref04_Rested _ _ _ x s H) (ps_cons gvo (ps_cons gvo (ps_cons gvo no_ps))) isRf_sinks) ?_
 rintro _ rs89 ⟨A89, n89, c89, B89, m89, d89, C89, k89, e89, rfl, hsk89, hG89⟩
 refine Jq (q_move rfl) ?_
 refine Jq (q_ext0 rfl) ?_
 refine Jq (q_ext1 rfl) ?_
 refine L_alloc tb rfl rfl fun g14 => ?_
 refine L_st tb rfl rfl ?_
 refine Jq (q_assign rfl) ?_
 refine L_then ?_
 refine C_seq ?_
 refine C_region ?_
 refine Jq (q_move rfl) ?_
 refine Jq (q_move rfl) ?_
 refine Jq (q_true (q_eql rfl rfl) (decide_eq_true rfl)) ?_
 refine Jq (q_move rfl) ?_
 refine Jg (q_move rfl) ?_
 refine Jg (q_move rfl) ?_
 refine Jg (q_true (q_eql rfl rfl) (decide_eq_true rfl)) ?_
 refine Jq (q_pickT rfl rfl) ?_
 refine Jq (q_move rfl) ?_
 refine Jg (q_loadA tb rfl rfl bxo rfl rfl) ?_
 refine Jg (q_loadA tb rfl rfl bxo rfl rfl) ?_
 refine L_callg tb rfl rfl rfl rfl rfl rfl (ct_shotlinelaw04_same _ _ _ _ _ _ (begA x sf gs ls) hb9.1 hb9.2.1 hb9.2.2) (ps_cons gvo (ps_cons gvo (ps_cons gvo (ps_cons (gv1 (gv_r (gv1 (hG83 _ gvo gvo gvo).1))) (ps_cons (gv1 (gv_r (gv1 (hG83 _ gvo gvo gvo).2.1))) (ps_cons (gv1 (gv_r (gv1 (hG83 _ gvo gvo gvo).2.2))) no_ps)))))) rfl ?_
 refine Jq (q_pickT rfl rfl) ?_
 refine Jq (q_move rfl) ?_
 refine Jg (q_loadA tb rfl rfl bxo rfl rfl) ?_
 refine Jg (q_loadA tb rfl rfl bxo rfl rfl) ?_
 refine L_callg tb rfl rfl rfl rfl rfl rfl (ct_shotlinelaw04_same _ _ _ _ _ _ (resA x s) hr9.1 hr9.2.1 hr9.2.2) (ps_cons gvo (ps_cons gvo (ps_cons gvo (ps_cons (gv1 (hG89 _ gvo gvo gvo).1) (ps_cons (gv1 (hG89 _ gvo gvo gvo).2.1) (ps_cons (gv1 (hG89 _ gvo gvo gvo).2.2) no_ps)))))) rfl ?_
 refine Jq (q_pickT rfl rfl) ?_
 refine Jq (q_assign rfl) ?_
 refine L_then ?_
 refine C_ret ?_
 exact ret_of (res1 rfl rfl) sub_nil (by intro r hr; cases hr) ⟨rfl, rfl⟩
 iterate 4 refine Jk ?_
 refine Jg (q_pickF rfl rfl) ?_
 refine Jq (q_pickF rfl rfl) ?_
 refine Jq (q_move rfl) ?_
 refine Jg (q_field tb rfl rfl rfl) ?_
 refine Jg (q_load tb rfl rfl bxo rfl) ?_
 refine Jg (q_len tb rfl rfl gvo) ?_
 refine Jg (q_gtr rfl rfl) ?_
 refine Jq (q_pickF rfl rfl) ?_
 refine Jq (q_move rfl) ?_
 refine L_dec (d := 39) rfl (fun hq1 => ?_) (fun hq1 => ?_)
 iterate 4 refine Jk ?_
 refine Jq (q_pickT rfl rfl) ?_
 refine L_then ?_
 refine C_true rfl ?_
 refine C_seq ?_
 refine C_region ?_
 refine Jq (q_assign rfl) ?_
 refine L_then ?_
 refine C_ret ?_
 exact ret_of (res1 rfl rfl) sub_nil (by intro r hr; cases hr) ⟨rfl, rfl⟩
 refine Jg (q_field tb rfl rfl rfl) ?_
 refine Jg (q_load tb rfl rfl bxo rfl) ?_
 refine Jg (q_len tb rfl rfl gvo) ?_
 refine Jg (q_gtr rfl rfl) ?_
 refine Jq (q_pickF rfl rfl) ?_
 refine L_then ?_
 refine C_dec rfl (fun hq2 => ?_) (fun hq2 => ?_)
 refine C_seq ?_
 refine C_region ?_
 refine Jq (q_assign rfl) ?_
 refine L_then ?_
 refine C_ret ?_
 exact ret_of (res1 rfl rfl) sub_nil (by intro r hr; cases hr) ⟨rfl, rfl⟩
 have hL := light_len (Decidable.not_not.1 hl)
 refine C_skip_then ?_
 refine C_seq ?_
 refine C_wideF1 tb (k := 8) [(0, false), (2, false), (1, true), (3, true), (4, true), (5, false), (6, false), (7, false)] [.s 9, .q 10] mixed (by kernel_rfl) rfl rfl rfl rfl (by kernel_rfl) rfl ?_
 refine X1_q rfl rfl rfl rfl (q_loadA tb rfl rfl bxo rfl rfl) ?_
 refine X1_q rfl rfl rfl rfl (q_loadA tb rfl rfl bxo rfl rfl) ?_
 refine X1_lo rfl rfl rfl rfl (lo_call tb rfl rfl (ct_shotlinelaw04_own v u z x (by omega) (by omega) (by omega)) (ps_cons gvo (ps_cons gvo (ps_cons gvo no_ps))) isTo_sinks) ?_
 rintro _ _ ⟨A47, n47, c47, B47, m47, d47, C47, k47, e47, rfl, rfl⟩
 dsimp only [List.cons_append, List.nil_append]
 refine X1_lo rfl rfl rfl rfl (lo_call tb rfl rfl (ct_shotlinebase_CopyPlan nm sf pv pu gs ls (by omega) (by omega)) (ps_cons gvo (ps_cons gvo no_ps)) (by rintro y rs ⟨a, b, _, rfl⟩ r hr; simp only [List.mem_cons, List.not_mem_nil, or_false] at hr; rcases hr with rfl | rfl <;> exact sl_sinks _ _ _ _)) ?_
 rintro _ _ ⟨a49, b49, rfl, rfl⟩
 dsimp only [List.cons_append, List.nil_append]
 refine X1_lo rfl rfl rfl rfl (lo_call tb rfl rfl (ct_ascent_Begun _ _ _ x nm sf _ _ gs ls (by omega) (by omega) (by omega) (by omega) (by omega)) (ps_cons gvo (ps_cons gvo (ps_cons gvo (ps_cons gvo (ps_cons gvo no_ps))))) isTk_sinks) ?_
 rintro _ _ ⟨A50, n50, c50, B50, m50, d50, C50, k50, e50, rfl, rfl⟩
 dsimp only [List.cons_append, List.nil_append]
 refine X1_q rfl rfl rfl rfl (q_move rfl) ?_
 refine X1_q rfl rfl rfl rfl (q_ext0 rfl) ?_
 refine X1_q rfl rfl rfl rfl (q_ext1 rfl) ?_
 refine X1_nil ?_
 intro g7
 try dsimp only [List.cons_append, List.nil_append]
 first | refine X_store tb rfl rfl (List.Perm.refl _) rfl rfl rfl rfl rfl rfl rfl rfl ?_ | refine X_store tb rfl rfl perm1 rfl rfl rfl rfl rfl rfl rfl rfl ?_ | refine X_store tb rfl rfl (perm_front (pre := [_, _])) rfl rfl rfl rfl rfl rfl rfl rfl ?_ | refine X_store tb rfl rfl (perm_front (pre := [_, _, _])) rfl rfl rfl rfl rfl rfl rfl rfl ?_
 refine X_q rfl rfl rfl rfl (q_assign rfl) ?_
 refine X_nil ?_
 dsimp only [List.cons_append, List.nil_append]
 refine L_then ?_
 refine C_seq ?_
 refine C_region ?_
 refine Jq (q_loadA tb rfl rfl bxo rfl rfl) ?_
 refine L_lo rfl rfl rfl (lo_call tb rfl rfl (ct_shotlinelaw04_own v u z x (by omega) (by omega) (by omega)) (ps_cons gvo (ps_cons gvo (ps_cons gvo no_ps))) isTo_sinks) ?_
 rintro _ _ ⟨A55, n55, c55, B55, m55, d55, C55, k55, e55, rfl, rfl⟩
 refine Jq (q_move rfl) ?_
 refine L_lo rfl rfl rfl (lo_call tb rfl rfl (ct_ascent_Rested _ _ _ x (by omega) (by omega) (by omega) s) (ps_cons gvo (ps_cons gvo (ps_cons gvo no_ps))) isTk_sinks) ?_
 rintro _ _ ⟨A57, n57, c57, B57, m57, d57, C57, k57, e57, rfl, rfl⟩
 refine Jq (q_move rfl) ?_
 refine Jq (q_ext0 rfl) ?_
 refine Jq (q_ext1 rfl) ?_
 refine L_alloc tb rfl rfl fun g9 => ?_
 refine L_st tb rfl rfl ?_
 refine Jq (q_assign rfl) ?_
 refine L_then ?_
 refine C_seq ?_
 refine C_seq ?_
 refine C_region ?_
 refine Jq (q_loadA tb rfl rfl bxo rfl rfl) ?_
 refine L_call tb rfl rfl (ct_shotlineref04_CheckTask v u z x (by omega) (by omega) (by omega)) (ps_cons gvo (ps_cons gvo (ps_cons gvo no_ps))) rfl ?_
 refine Jq (q_assign rfl) ?_
 refine L_then ?_
 refine C_seq ?_
 refine C_region ?_
 refine Jq (q_move rfl) ?_
 refine Jq (q_neq rfl rfl) ?_
 refine L_then ?_
 refine C_dec rfl (fun hc => ?_) (fun hc => ?_)
 obtain ⟨r1, r2⟩ := bg_1 (x := x) (sf := sf) (gs := gs) (ls := ls) hc
 obtain ⟨r3, r4⟩ := rs_1 (x := x) (s := s) hc
 rw [r1, r2, r3, r4]
 refine C_seq ?_
 refine C_region ?_
 refine Jq (q_move rfl) ?_
 refine Jq (q_move rfl) ?_
 refine Jq (q_true (q_eql rfl rfl) (decide_eq_true rfl)) ?_
 refine Jq (q_move rfl) ?_
 refine Jg (q_move rfl) ?_
 refine Jg (q_move rfl) ?_
 refine Jg (q_true (q_eql rfl rfl) (decide_eq_true rfl)) ?_
 refine Jq (q_pickT rfl rfl) ?_
 refine Jq (q_move rfl) ?_
 refine Jg (q_loadA tb rfl rfl bxo rfl rfl) ?_
 refine L_callg tb rfl rfl rfl rfl rfl rfl (ct_shotlinelaw04_none _ _ _) (ps_cons gvo (ps_cons gvo (ps_cons gvo no_ps))) rfl ?_
 refine Jq (q_pickT rfl rfl) ?_
 refine Jq (q_move rfl) ?_
 refine Jg (q_loadA tb rfl rfl bxo rfl rfl) ?_
 refine L_callg tb rfl rfl rfl rfl rfl rfl (ct_shotlinelaw04_none _ _ _) (ps_cons gvo (ps_cons gvo (ps_cons gvo no_ps))) rfl ?_
 refine Jq (q_pickT rfl rfl) ?_
 refine Jq (q_assign rfl) ?_
 refine L_then ?_
 refine C_ret ?_
 exact ret_of (res1 rfl rfl) sub_nil (by intro r hr; cases hr) ⟨rfl, rfl⟩
 have hz := Decidable.not_not.1 hc
 have H := ckAsc_ok hz
 obtain ⟨r1, r2⟩ := bg_2 (x := x) (sf := sf) (gs := gs) (ls := ls) hz
 obtain ⟨r3, r4⟩ := rs_2 (x := x) (s := s) hz
 rw [r1, r2, r3, r4]
 have hb9 := beg_len H sf gs ls
 have hr9 := res_len H s
 refine C_skip_then ?_
 refine C_seq ?_
 refine C_region ?_
 refine Jq (q_loadA tb rfl rfl bxo rfl rfl) ?_
 refine Jq (q_loadA tb rfl rfl bxo rfl rfl) ?_
 refine L_lo rfl rfl rfl (lo_call tb rfl rfl (ct_shotlineref04_Begun _ _ _ x nm sf _ _ gs ls H (by omega) (by omega)) (ps_cons gvo (ps_cons gvo (ps_cons gvo (ps_cons gvo (ps_cons gvo no_ps))))) isRf_sinks) ?_
 rintro _ rs83 ⟨A83, n83, c83, B83, m83, d83, C83, k83, e83, rfl, hsk83, hG83⟩
 refine Jq (q_move rfl) ?_
 refine Jq (q_ext0 rfl) ?_
 refine Jq (q_ext1 rfl) ?_
 refine L_alloc tb rfl rfl fun g12 => ?_
 refine L_st tb rfl rfl ?_
 refine Jq (q_assign rfl) ?_
 refine L_then ?_
 refine C_seq ?_
 refine C_region ?_
 refine Jq (q_loadA tb rfl rfl bxo rfl rfl) ?_
 refine Jq (q_move rfl) ?_
 refine L_lo rfl rfl rfl (lo_call tb rfl rfl (ct_shotlineref04_Rested _ _ _ x s H) (ps_cons gvo (ps_cons gvo (ps_cons gvo no_ps))) isRf_sinks) ?_
 rintro _ rs89 ⟨A89, n89, c89, B89, m89, d89, C89, k89, e89, rfl, hsk89, hG89⟩
 refine Jq (q_move rfl) ?_
 refine Jq (q_ext0 rfl) ?_
 refine Jq (q_ext1 rfl) ?_
 refine L_alloc tb rfl rfl fun g14 => ?_
 refine L_st tb rfl rfl ?_
 refine Jq (q_assign rfl) ?_
 refine L_then ?_
 refine C_seq ?_
 refine C_region ?_
 refine Jq (q_move rfl) ?_
 refine Jq (q_move rfl) ?_
 refine Jq (q_true (q_eql rfl rfl) (decide_eq_true rfl)) ?_
 refine Jq (q_move rfl) ?_
 refine Jg (q_move rfl) ?_
 refine Jg (q_move rfl) ?_
 refine Jg (q_true (q_eql rfl rfl) (decide_eq_true rfl)) ?_
 refine Jq (q_pickT rfl rfl) ?_
 refine Jq (q_move rfl) ?_
 refine Jg (q_loadA tb rfl rfl bxo rfl rfl) ?_
 refine Jg (q_loadA tb rfl rfl bxo rfl rfl) ?_
 refine L_callg tb rfl rfl rfl rfl rfl rfl (ct_shotlinelaw04_same _ _ _ _ _ _ (begA x sf gs ls) hb9.1 hb9.2.1 hb9.2.2) (ps_cons gvo (ps_cons gvo (ps_cons gvo (ps_cons (gv1 (gv_r (gv1 (hG83 _ gvo gvo gvo).1))) (ps_cons (gv1 (gv_r (gv1 (hG83 _ gvo gvo gvo).2.1))) (ps_cons (gv1 (gv_r (gv1 (hG83 _ gvo gvo gvo).2.2))) no_ps)))))) rfl ?_
 refine Jq (q_pickT rfl rfl) ?_
 refine Jq (q_move rfl) ?_
 refine Jg (q_loadA tb rfl rfl bxo rfl rfl) ?_
 refine Jg (q_loadA tb rfl rfl bxo rfl rfl) ?_
 refine L_callg tb rfl rfl rfl rfl rfl rfl (ct_shotlinelaw04_same _ _ _ _ _ _ (resA x s) hr9.1 hr9.2.1 hr9.2.2) (ps_cons gvo (ps_cons gvo (ps_cons gvo (ps_cons (gv1 (hG89 _ gvo gvo gvo).1) (ps_cons (gv1 (hG89 _ gvo gvo gvo).2.1) (ps_cons (gv1 (hG89 _ gvo gvo gvo).2.2) no_ps)))))) rfl ?_
 refine Jq (q_pickT rfl rfl) ?_
 refine Jq (q_assign rfl) ?_
 refine L_then ?_
 refine C_ret ?_
 exact ret_of (res1 rfl rfl) sub_nil (by intro r hr; cases hr) ⟨rfl, rfl⟩
end Go.Proofs.YthilaakeimfedaaGreatDoor
