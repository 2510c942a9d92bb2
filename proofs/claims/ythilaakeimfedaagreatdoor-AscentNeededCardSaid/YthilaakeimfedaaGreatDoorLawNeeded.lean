/-
  Walks: each function named returns what its model says. Conditions: those in front of each theorem.
-/
import Derived.Test.YthilaakeimfedaaGreatDoorAR
import Derived.Test.YthilaakeimfedaaGreatDoorLH
import Derived.Test.YthilaakeimfedaaGreatDoorLHs
import Derived.Test.YthilaakeimfedaaGreatDoorLHe
import Derived.Test.YthilaakeimfedaaGreatDoorAU
namespace Go.Proofs.YthilaakeimfedaaGreatDoor
open Go.RowKit

set_option maxRecDepth 100000 in
set_option maxHeartbeats 4000000 in
theorem ct_shotlinelaw04_AscentNeeded (v u z : Value) (x : Asc) : CtQ KQ Tryz.prog 12 [.agg (cAt v u z x).toArray] [(v, 4, x.ts.map cCp), (u, 4, x.ls.map cLd), (z, 3, x.gs.map cAg)] (isV (.bool true)) := by
 refine CtQ.of (N := 179) Tryz.func12 rfl rfl rfl fun w hQ => ?_
 refine C_weak (E' := [(0, .agg (cAt v u z x).toArray)]) (rs' := [rd v 4 (x.ts.map cCp), rd u 4 (x.ls.map cLd), rd z 3 (x.gs.map cAg)]) ⟨rfl, trivial⟩ (fun _ h => h) ?_
 have hl1 := len_map cCp x.ts
 have hl2 := len_map cLd x.ls
 have hl3 := len_map cAg x.gs
 refine C_seq ?_
 refine C_region ?_
 refine L_box rfl rfl rfl fun g1 => ?_
 refine Jq (q_assign rfl) ?_
 refine L_then ?_
 refine C_seq ?_
 refine C_seq ?_
 refine C_region ?_
 refine L_lo rfl rfl rfl (lo_callQ tb stQ hQ rfl rfl (ct_shotlinelaw04_awake) no_ps isV_sinks) ?_
 rintro _ _ ⟨rfl, rfl⟩
 refine Jq (q_not rfl rfl) ?_
 refine L_then ?_
 refine C_false rfl ?_
 refine C_skip_then ?_
 refine C_seq ?_
 refine C_seq ?_
 refine C_region ?_
 refine Jq (q_loadA tb rfl rfl bxo rfl rfl) ?_
 refine L_call tb rfl rfl (ct_shotlinelaw04_Light v u z x) (ps_cons gvo (ps_cons gvo (ps_cons gvo no_ps))) rfl ?_
 refine Jq (q_not rfl decide_not.symm) ?_
 refine L_then ?_
 refine C_dec rfl (fun hl => ?_) (fun hl => ?_)
 refine C_seq ?_
 refine C_region ?_
 refine Jq (q_assign rfl) ?_
 refine L_then ?_
 refine C_ret ?_
 exact ret_of (res1 rfl rfl) sub_nil (by intro r hr; cases hr) ⟨rfl, rfl⟩
 have hL := light_len (Decidable.not_not.1 hl)
 refine C_skip_then ?_
 refine C_seq ?_
 refine C_region ?_
 refine Jq (q_loadA tb rfl rfl bxo rfl rfl) ?_
 refine L_lo rfl rfl rfl (lo_call tb rfl rfl (ct_shotlinelaw04_own v u z x (by omega) (by omega) (by omega)) (ps_cons gvo (ps_cons gvo (ps_cons gvo no_ps))) isTo_sinks) ?_
 rintro _ _ ⟨A24, n24, c24, B24, m24, d24, C24, k24, e24, rfl, rfl⟩
 refine L_lo rfl rfl rfl (lo_call tb rfl rfl (ct_ascent_Generate _ _ _ x (by omega) (by omega) (by omega)) (ps_cons gvo (ps_cons gvo (ps_cons gvo no_ps))) isSc_sinks) ?_
 rintro _ _ ⟨A25, n25, c25, B25, m25, d25, rfl, rfl⟩
 refine Jq (q_move rfl) ?_
 refine Jq (q_ext0 rfl) ?_
 refine Jq (q_ext1 rfl) ?_
 refine L_alloc tb rfl rfl fun g3 => ?_
 refine L_st tb rfl rfl ?_
 refine Jq (q_assign rfl) ?_
 refine L_then ?_
 refine C_seq ?_
 refine C_seq ?_
 refine C_region ?_
 refine Jq (q_move rfl) ?_
 refine Jq (q_neq rfl rfl) ?_
 refine L_then ?_
 refine C_dec rfl (fun he => ?_) (fun he => ?_)
 rw [gn_bad he]
 refine C_seq ?_
 refine C_region ?_
 refine Jq (q_field tb rfl rfl rfl) ?_
 refine Jq (q_load tb rfl rfl bxo rfl) ?_
 refine Jq (q_len tb rfl rfl gvo) ?_
 refine Jq (q_true (q_eql rfl rfl) (decide_eq_true rfl)) ?_
 refine Jq (q_assign rfl) ?_
 refine L_then ?_
 refine C_ret ?_
 exact ret_of (res1 rfl rfl) sub_nil (by intro r hr; cases hr) ⟨rfl, rfl⟩
 obtain ⟨hz, he0⟩ := gn_ok (Decidable.not_not.1 he)
 rw [gnE_2 hz]
 have H := ckAsc_ok hz
 obtain ⟨hw1, hw2, hw3⟩ := gen_flw H he0
 have hfo := found_of H he0
 obtain ⟨hgS, _⟩ := gen_chk H he0
 rw [he0]
 obtain ⟨L, hLe⟩ : ∃ L, L = (genA x).1.1 := ⟨_, rfl⟩
 obtain ⟨F, hFe⟩ : ∃ F, F = (genA x).1.2 := ⟨_, rfl⟩
 rw [← hLe] at hw1 hw2 hw3 hfo hgS ⊢
 rw [← hFe] at hw2 hw3 hgS ⊢
 have hSn := hgS.n; have hSl := hgS.l
 have hfe : flwE x L F = 0 := by rw [flwE_3 hz hgS.ck]; exact hw1
 have hl4 := len_map cDl L; have hl5 := len_map cI F
 have hsl9 := stpA_len x L
 have hlq := len_map cSp (stpA x L)
 refine C_skip_then ?_
 refine C_seq ?_
 refine C_draw (n := 10) [(0, false), (2, false), (1, true), (3, true), (4, true), (5, false), (6, false), (7, false), (8, false), (9, false)] mixed (by kernel_rfl) ?_
 refine Yq rfl (q_loadA tb rfl rfl bxo rfl rfl) ?_
 refine Yq rfl (q_loadA tb rfl rfl bxo rfl rfl) ?_
 refine W_lo rfl rfl rfl rfl (lo_call tb rfl rfl (ct_shotlinelaw04_own v u z x (by omega) (by omega) (by omega)) (ps_cons gvo (ps_cons gvo (ps_cons gvo no_ps))) isTo_sinks) ?_
 rintro _ _ ⟨A36, n36, c36, B36, m36, d36, C36, k36, e36, rfl, rfl⟩
 refine W_lo rfl rfl rfl rfl (lo_call tb rfl rfl (ct_shotlinelaw04_schedule _ _ L F (by omega) (by omega)) (ps_cons gvo (ps_cons gvo no_ps)) isSo_sinks) ?_
 rintro _ _ ⟨A38, n38, c38, B38, m38, d38, rfl, rfl⟩
 refine W_lo rfl rfl rfl rfl (lo_call tb rfl rfl (ct_ascent_Following _ _ _ x _ _ L F (by omega) (by omega) (by omega) (by omega) (by omega)) (ps_cons gvo (ps_cons gvo (ps_cons gvo (ps_cons gvo (ps_cons gvo no_ps))))) FlwP_sinks) ?_
 rintro _ _ ⟨s39, T39, rfl, rfl, hl39⟩
 refine Yq rfl (q_move rfl) ?_
 rw [hfe] at hl39 ⊢
 rw [if_pos rfl] at hl39
 refine Yq rfl (q_ext0 rfl) ?_
 refine Yq rfl (q_ext1 rfl) ?_
 refine Yq rfl (q_assign rfl) ?_
 refine Yq rfl (q_assign rfl) ?_
 refine W_nil ?_
 refine L_then ?_
 refine C_seq ?_
 refine C_draw (n := 10) [(0, false), (2, false), (1, true), (3, true), (4, true), (5, false), (6, false), (7, false), (8, false), (9, false)] mixed (by kernel_rfl) ?_
 refine Yq rfl (q_loadA tb rfl rfl bxo rfl rfl) ?_
 refine Yq rfl (q_loadA tb rfl rfl bxo rfl rfl) ?_
 refine W_lo rfl rfl rfl rfl (lo_call tb rfl rfl (ct_shotlinelaw04_own v u z x (by omega) (by omega) (by omega)) (ps_cons gvo (ps_cons gvo (ps_cons gvo no_ps))) isTo_sinks) ?_
 rintro _ _ ⟨A44, n44, c44, B44, m44, d44, C44, k44, e44, rfl, rfl⟩
 refine W_lo rfl rfl rfl rfl (lo_call tb rfl rfl (ct_shotlinelaw04_schedule _ _ L F (by omega) (by omega)) (ps_cons gvo (ps_cons gvo no_ps)) isSo_sinks) ?_
 rintro _ _ ⟨A46, n46, c46, B46, m46, d46, rfl, rfl⟩
 refine W_lo rfl rfl rfl rfl (lo_call tb rfl rfl (ct_ascent_StopsOf _ _ _ x _ _ L F (by omega) (by omega) (by omega) (by omega) (by omega)) (ps_cons gvo (ps_cons gvo (ps_cons gvo (ps_cons gvo (ps_cons gvo no_ps))))) isSp_sinks) ?_
 rintro _ _ ⟨a47, rfl, rfl⟩
 refine Yq rfl (q_move rfl) ?_
 rw [spL_2 hw2, hw2]
 refine Yq rfl (q_ext0 rfl) ?_
 refine Yq rfl (q_ext1 rfl) ?_
 refine Yq rfl (q_assign rfl) ?_
 refine Yq rfl (q_assign rfl) ?_
 refine W_nil ?_
 refine L_then ?_
 refine C_seq ?_
 refine C_seq ?_
 refine C_region ?_
 refine Jq (q_move rfl) ?_
 refine Jq (q_false (q_neq rfl rfl) (decide_eq_false fun h => h rfl)) ?_
 refine Jq (q_move rfl) ?_
 refine Jg (q_move rfl) ?_
 refine Jg (q_false (q_neq rfl rfl) (decide_eq_false fun h => h rfl)) ?_
 refine Jq (q_pickF rfl rfl) ?_
 refine Jq (q_move rfl) ?_
 refine Jg (q_move rfl) ?_
 refine Jg (q_len tb rfl rfl gvo) ?_
 refine Jg (q_field tb rfl rfl rfl) ?_
 refine Jg (q_load tb rfl rfl bxo rfl) ?_
 refine Jg (q_len tb rfl rfl gvo) ?_
 refine Jg (q_false (q_neq rfl rfl) (decide_eq_false fun h => h (by rw [tkC_len, List.length_map, hl39]))) ?_
 refine Jq (q_pickF rfl rfl) ?_
 refine Jq (q_move rfl) ?_
 refine Jg (q_field tb rfl rfl rfl) ?_
 refine Jg (q_load tb rfl rfl bxo rfl) ?_
 refine Jg (q_len tb rfl rfl gvo) ?_
 refine Jg (q_field tb rfl rfl rfl) ?_
 refine Jg (q_load tb rfl rfl bxo rfl) ?_
 refine Jg (q_len tb rfl rfl gvo) ?_
 refine Jg (q_false (q_neq rfl rfl) (decide_eq_false fun h => h (by rw [List.length_map, List.length_map, hSl]))) ?_
 refine Jq (q_pickF rfl rfl) ?_
 refine L_then ?_
 refine C_false rfl ?_
 refine C_skip_then ?_
 refine C_seq ?_
 refine C_seq ?_
 refine C_region ?_
 refine Jq (q_assign rfl) ?_
 refine L_then ?_
 refine C_block ?_
 refine C_res (rs' := (sl a47 105 2 ((stpA x L).map cSp) :: sl s39 28 12 (tkC x L T39) :: sl (.slice A25 n25 c25) 51 3 (L.map cDl) :: sl (.slice B25 m25 d25) 3 1 (F.map cI) :: box g3 74 [(.slice A25 n25 c25), (.slice B25 m25 d25)] :: box g1 28 (cAt v u z x) :: rd v 4 (x.ts.map cCp) :: rd u 4 (x.ls.map cLd) :: rd z 3 (x.gs.map cAg) :: tkR 66 139 144 x L T39)) (fun _ h_ => h_.pk (by repeat (first | with_reducible exact pk_nil | refine pk_box rfl ?_ | refine pk_rd rfl ?_ | refine pk_sl rfl ?_ | with_reducible refine pk_app ?_ | with_reducible refine pk_app0 ?_ | with_reducible refine pk_app0L ?_ | with_reducible exact pk_tl | refine pk_var ?_))) ?_
 refine C_loop (ι := Nat) (fun k => ([(1, .pointer (some ⟨g1, 0, none⟩)), (3, .pointer (some ⟨g3, 0, none⟩)), (5, s39), (7, a47), (9, .int .i64 (k : Int))], (sl a47 105 2 ((stpA x L).map cSp) :: sl s39 28 12 (tkC x L T39) :: sl (.slice A25 n25 c25) 51 3 (L.map cDl) :: sl (.slice B25 m25 d25) 3 1 (F.map cI) :: box g3 74 [(.slice A25 n25 c25), (.slice B25 m25 d25)] :: box g1 28 (cAt v u z x) :: rd v 4 (x.ts.map cCp) :: rd u 4 (x.ls.map cLd) :: rd z 3 (x.gs.map cAg) :: tkR 66 139 144 x L T39))) (fun k => k ≤ (stpA x L).length) (fun k => (stpA x L).length - k) 0 (Nat.zero_le _) (fun a w hs => hs.weak ⟨rfl, rfl, rfl, rfl, rfl, trivial⟩ (fun h => h)) ?_
 intro k hk
 dsimp only at hk ⊢
 refine C_seq ?_
 refine C_seq ?_
 refine C_region ?_
 refine Jq (q_move rfl) ?_
 refine Jq (q_move rfl) ?_
 refine Jq (q_len tb rfl rfl gvo) ?_
 refine Jq (q_lss rfl rfl) ?_
 refine L_then ?_
 refine C_dec rfl (fun h5 => ?_) (fun h5 => ?_)
 obtain ⟨p9, hp9⟩ := get_some (stpA x L) (k := k) (by omega); have helS := map_get cSp hp9; have hgd := stp_ok hfo p9 (List.mem_of_getElem? hp9); have hgr := H.r.gr; have hp0 := hgd.2.2
 refine C_skip_then ?_
 refine C_seq ?_
 refine C_block ?_
 refine C_seq ?_
 refine C_draw (n := 31) [(0, false), (1, false), (2, false), (3, false), (4, false), (5, false), (6, false), (7, false), (8, false), (9, false), (10, false), (11, false), (12, false), (13, false), (14, false), (15, false), (16, false), (17, false), (18, false), (19, false), (20, false), (21, false), (22, false), (23, false), (24, false), (25, false), (26, false), (27, false), (28, false), (29, false), (30, false)] mixed (by kernel_rfl) ?_
 refine Yq rfl (q_move rfl) ?_
 refine Yq rfl (q_move rfl) ?_
 refine Yq rfl (by first | exact q_index tb rfl rfl rfl rfl gvo (by omega) (by first | omega | (simp; done) | (simp; omega)) | exact q_indexP tb rfl rfl rfl rfl (by omega) (by omega)) ?_
 refine Yq rfl (q_fieldE tb rfl rfl rfl gvo (by first | omega | (simp; done) | (simp; omega))) ?_
 refine Yq rfl (q_loadE tb rfl rfl gvo (i := k) (o := 0) (by omega) helS rfl) ?_
 refine Yq rfl (q_field tb rfl rfl rfl) ?_
 refine Yq rfl (q_load tb rfl rfl bxo rfl) ?_
 refine Yq rfl (q_neq rfl rfl) ?_
 refine Yq rfl (q_move rfl) ?_
 refine W_dec (d := 87) rfl (fun hd1 => ?_) (fun hd1 => ?_)
 refine Yg rfl (q_move rfl) ?_
 refine Yg rfl (q_move rfl) ?_
 refine Yg rfl (by first | exact q_index tb rfl rfl rfl rfl gvo (by omega) (by first | omega | (simp; done) | (simp; omega)) | exact q_indexP tb rfl rfl rfl rfl (by omega) (by omega)) ?_
 refine Yg rfl (q_fieldE tb rfl rfl rfl gvo (by first | omega | (simp; done) | (simp; omega))) ?_
 refine Yg rfl (q_loadE tb rfl rfl gvo (i := k) (o := 0) (by omega) helS rfl) ?_
 refine Yg rfl (q_field tb rfl rfl rfl) ?_
 refine Yg rfl (q_field tb rfl rfl rfl) ?_
 refine Yg rfl (q_load tb rfl rfl bxo rfl) ?_
 refine Yg rfl (q_rem rfl rfl (by omega) (IntWalk.rem_in _ _ (by omega))) ?_
 refine Yg rfl (q_false (q_neq rfl rfl) (decide_eq_false fun h => h (hgd.1.resolve_left hd1))) ?_
 refine Yq rfl (q_pickT rfl rfl) ?_
 refine Yq rfl (q_move rfl) ?_
 refine Yg rfl (q_move rfl) ?_
 refine Yg rfl (q_move rfl) ?_
 refine Yg rfl (by first | exact q_index tb rfl rfl rfl rfl gvo (by omega) (by first | omega | (simp; done) | (simp; omega)) | exact q_indexP tb rfl rfl rfl rfl (by omega) (by omega)) ?_
 refine Yg rfl (q_fieldE tb rfl rfl rfl gvo (by first | omega | (simp; done) | (simp; omega))) ?_
 refine Yg rfl (q_loadE tb rfl rfl gvo (i := k) (o := 1) (by omega) helS rfl) ?_
 refine Yg rfl (q_field tb rfl rfl rfl) ?_
 refine Yg rfl (q_field tb rfl rfl rfl) ?_
 refine Yg rfl (q_load tb rfl rfl bxo rfl) ?_
 refine Yg rfl (q_false (q_lss rfl rfl) (decide_eq_false (by have := hgd.2.1; omega))) ?_
 refine Yq rfl (q_pickF rfl rfl) ?_
 refine W_nil ?_
 refine L_then ?_
 refine C_false rfl ?_
 refine C_skip_blk ?_
 refine C_region ?_
 refine Jq (q_move rfl) ?_
 refine Jq (q_add rfl rfl (by first | exact IntWalk.i64_in _ (by omega) | rfl)) ?_
 refine Jq (q_assign rfl) ?_
 refine L_end ?_
 exact fun ac_ wo_ hs_ => ⟨k + 1, (by omega), (by dsimp only; omega), hs_.weak ⟨rfl, rfl, rfl, rfl, rfl, trivial⟩ (fun h => h)⟩
 refine Yk rfl ?_
 refine Yk rfl ?_
 refine Yk rfl ?_
 refine Yk rfl ?_
 refine Yk rfl ?_
 refine Yk rfl ?_
 refine Yk rfl ?_
 refine Yk rfl ?_
 refine Yk rfl ?_
 refine Yk rfl ?_
 refine Yq rfl (q_pickF rfl rfl) ?_
 refine Yq rfl (q_move rfl) ?_
 refine Yg rfl (q_move rfl) ?_
 refine Yg rfl (q_move rfl) ?_
 refine Yg rfl (by first | exact q_index tb rfl rfl rfl rfl gvo (by omega) (by first | omega | (simp; done) | (simp; omega)) | exact q_indexP tb rfl rfl rfl rfl (by omega) (by omega)) ?_
 refine Yg rfl (q_fieldE tb rfl rfl rfl gvo (by first | omega | (simp; done) | (simp; omega))) ?_
 refine Yg rfl (q_loadE tb rfl rfl gvo (i := k) (o := 1) (by omega) helS rfl) ?_
 refine Yg rfl (q_field tb rfl rfl rfl) ?_
 refine Yg rfl (q_field tb rfl rfl rfl) ?_
 refine Yg rfl (q_load tb rfl rfl bxo rfl) ?_
 refine Yg rfl (q_false (q_lss rfl rfl) (decide_eq_false (by have := hgd.2.1; omega))) ?_
 refine Yq rfl (q_pickF rfl rfl) ?_
 refine W_nil ?_
 refine L_then ?_
 refine C_false rfl ?_
 refine C_skip_blk ?_
 refine C_region ?_
 refine Jq (q_move rfl) ?_
 refine Jq (q_add rfl rfl (by first | exact IntWalk.i64_in _ (by omega) | rfl)) ?_
 refine Jq (q_assign rfl) ?_
 refine L_end ?_
 exact fun ac_ wo_ hs_ => ⟨k + 1, (by omega), (by dsimp only; omega), hs_.weak ⟨rfl, rfl, rfl, rfl, rfl, trivial⟩ (fun h => h)⟩
 refine C_exit ?_
 change C Tryz.prog _ _ _ _ _ _ _
 refine C_seq ?_
 refine C_seq ?_
 refine C_region ?_
 refine Jq (q_assign rfl) ?_
 refine L_then ?_
 refine C_block ?_
 refine C_res (rs' := (sl s39 28 12 (tkC x L T39) :: sl (.slice A25 n25 c25) 51 3 (L.map cDl) :: sl (.slice B25 m25 d25) 3 1 (F.map cI) :: box g3 74 [(.slice A25 n25 c25), (.slice B25 m25 d25)] :: box g1 28 (cAt v u z x) :: rd v 4 (x.ts.map cCp) :: rd u 4 (x.ls.map cLd) :: rd z 3 (x.gs.map cAg) :: tkR 66 139 144 x L T39)) (fun _ h_ => h_.pk (by repeat (first | with_reducible exact pk_nil | refine pk_box rfl ?_ | refine pk_rd rfl ?_ | refine pk_sl rfl ?_ | with_reducible refine pk_app ?_ | with_reducible refine pk_app0 ?_ | with_reducible refine pk_app0L ?_ | with_reducible exact pk_tl | refine pk_var ?_))) ?_
 refine C_loop (ι := Nat) (fun k => ([(1, .pointer (some ⟨g1, 0, none⟩)), (3, .pointer (some ⟨g3, 0, none⟩)), (5, s39), (10, .int .i64 (k : Int))], (sl s39 28 12 (tkC x L T39) :: sl (.slice A25 n25 c25) 51 3 (L.map cDl) :: sl (.slice B25 m25 d25) 3 1 (F.map cI) :: box g3 74 [(.slice A25 n25 c25), (.slice B25 m25 d25)] :: box g1 28 (cAt v u z x) :: rd v 4 (x.ts.map cCp) :: rd u 4 (x.ls.map cLd) :: rd z 3 (x.gs.map cAg) :: tkR 66 139 144 x L T39))) (fun k => 1 ≤ k ∧ (k ≤ L.length ∨ k = 1)) (fun k => L.length - k) 1 ⟨Nat.le_refl _, .inr rfl⟩ (fun a w hs => hs.weak ⟨rfl, rfl, rfl, rfl, trivial⟩ (fun h => h)) ?_
 rintro k ⟨hk1, hk2⟩
 dsimp only at hk1 hk2 ⊢
 refine C_seq ?_
 refine C_seq ?_
 refine C_region ?_
 refine Jq (q_move rfl) ?_
 refine Jq (q_field tb rfl rfl rfl) ?_
 refine Jq (q_load tb rfl rfl bxo rfl) ?_
 refine Jq (q_len tb rfl rfl gvo) ?_
 refine Jq (q_lss rfl rfl) ?_
 refine L_then ?_
 refine C_dec rfl (fun h9 => ?_) (fun h9 => ?_)
 obtain ⟨y9, hly⟩ := get_some L (k := k - 1) (by omega); have hely := map_get cDl hly; obtain ⟨z9, hlz⟩ := get_some L (k := k - 1 + 1) (by omega); have helz := map_get cDl hlz
 refine C_skip_then ?_
 refine C_seq ?_
 refine C_block ?_
 refine C_seq ?_
 refine C_region ?_
 refine Jq (q_loadA tb rfl rfl bxo rfl rfl) ?_
 refine L_lo rfl rfl rfl (lo_call tb rfl rfl (ct_shotlinelaw04_own v u z x (by omega) (by omega) (by omega)) (ps_cons gvo (ps_cons gvo (ps_cons gvo no_ps))) isTo_sinks) ?_
 rintro _ _ ⟨A118, n118, c118, B118, m118, d118, C118, k118, e118, rfl, rfl⟩
 refine L_alloc tb rfl rfl fun g11 => ?_
 refine L_st tb rfl rfl ?_
 refine L_then ?_
 refine C_cut (ι := Value × Value × Value) (fun q => ([(1, .pointer (some ⟨g1, 0, none⟩)), (3, .pointer (some ⟨g3, 0, none⟩)), (5, s39), (10, .int .i64 (k : Int)), (11, .pointer (some ⟨g11, 0, none⟩))], (box g11 28 (cAt q.1 q.2.1 q.2.2 (behA x L (k - 1))) :: sl (.slice A118 n118 c118) 66 4 (x.ts.map cCp) :: sl (.slice B118 m118 d118) 139 4 (x.ls.map cLd) :: sl (.slice C118 k118 e118) 144 3 (x.gs.map cAg) :: sl s39 28 12 (tkC x L T39) :: sl (.slice A25 n25 c25) 51 3 (L.map cDl) :: sl (.slice B25 m25 d25) 3 1 (F.map cI) :: box g3 74 [(.slice A25 n25 c25), (.slice B25 m25 d25)] :: box g1 28 (cAt v u z x) :: rd v 4 (x.ts.map cCp) :: rd u 4 (x.ls.map cLd) :: rd z 3 (x.gs.map cAg) :: tkR 66 139 144 x L T39))) (fun q => GvR (sl (.slice A118 n118 c118) 66 4 (x.ts.map cCp) :: sl (.slice B118 m118 d118) 139 4 (x.ls.map cLd) :: sl (.slice C118 k118 e118) 144 3 (x.gs.map cAg) :: sl s39 28 12 (tkC x L T39) :: sl (.slice A25 n25 c25) 51 3 (L.map cDl) :: sl (.slice B25 m25 d25) 3 1 (F.map cI) :: box g3 74 [(.slice A25 n25 c25), (.slice B25 m25 d25)] :: box g1 28 (cAt v u z x) :: rd v 4 (x.ts.map cCp) :: rd u 4 (x.ls.map cLd) :: rd z 3 (x.gs.map cAg) :: tkR 66 139 144 x L T39) q.1 4 ((behA x L (k - 1)).ts.map cCp) ∧ GvR (sl (.slice A118 n118 c118) 66 4 (x.ts.map cCp) :: sl (.slice B118 m118 d118) 139 4 (x.ls.map cLd) :: sl (.slice C118 k118 e118) 144 3 (x.gs.map cAg) :: sl s39 28 12 (tkC x L T39) :: sl (.slice A25 n25 c25) 51 3 (L.map cDl) :: sl (.slice B25 m25 d25) 3 1 (F.map cI) :: box g3 74 [(.slice A25 n25 c25), (.slice B25 m25 d25)] :: box g1 28 (cAt v u z x) :: rd v 4 (x.ts.map cCp) :: rd u 4 (x.ls.map cLd) :: rd z 3 (x.gs.map cAg) :: tkR 66 139 144 x L T39) q.2.1 4 ((behA x L (k - 1)).ls.map cLd) ∧ GvR (sl (.slice A118 n118 c118) 66 4 (x.ts.map cCp) :: sl (.slice B118 m118 d118) 139 4 (x.ls.map cLd) :: sl (.slice C118 k118 e118) 144 3 (x.gs.map cAg) :: sl s39 28 12 (tkC x L T39) :: sl (.slice A25 n25 c25) 51 3 (L.map cDl) :: sl (.slice B25 m25 d25) 3 1 (F.map cI) :: box g3 74 [(.slice A25 n25 c25), (.slice B25 m25 d25)] :: box g1 28 (cAt v u z x) :: rd v 4 (x.ts.map cCp) :: rd u 4 (x.ls.map cLd) :: rd z 3 (x.gs.map cAg) :: tkR 66 139 144 x L T39) q.2.2 3 ((behA x L (k - 1)).gs.map cAg)) ?_ ?_
 refine C_seq ?_
 refine C_region ?_
 refine Jq (q_move rfl) ?_
 refine Jq (q_gtr rfl rfl) ?_
 refine L_then ?_
 refine C_dec rfl (fun h10 => ?_) (fun h10 => ?_)
 refine C_res (rs' := (box g11 28 (cAt (.slice A118 n118 c118) (.slice B118 m118 d118) (.slice C118 k118 e118) x) :: sl (.slice A118 n118 c118) 66 4 (x.ts.map cCp) :: sl (.slice B118 m118 d118) 139 4 (x.ls.map cLd) :: sl (.slice C118 k118 e118) 144 3 (x.gs.map cAg) :: sl s39 28 12 (tkC x L T39) :: sl (.slice A25 n25 c25) 51 3 (L.map cDl) :: sl (.slice B25 m25 d25) 3 1 (F.map cI) :: box g3 74 [(.slice A25 n25 c25), (.slice B25 m25 d25)] :: box g1 28 (cAt v u z x) :: rd v 4 (x.ts.map cCp) :: rd u 4 (x.ls.map cLd) :: rd z 3 (x.gs.map cAg) :: tkR 66 139 144 x L T39)) (fun _ h_ => h_.pk (by repeat (first | with_reducible exact pk_nil | refine pk_box rfl ?_ | refine pk_rd rfl ?_ | refine pk_sl rfl ?_ | with_reducible refine pk_app ?_ | with_reducible refine pk_app0 ?_ | with_reducible refine pk_app0L ?_ | with_reducible exact pk_tl | refine pk_var ?_))) ?_
 have hk3 : k - 2 + 1 = k - 1 := by omega
 obtain ⟨⟨q1, q2, q3⟩, hqa⟩ := rev_at (k := k - 2) hl39 (by omega)
 have helA := tkC_get (x := x) (L := L) hqa
 have hg1 := gv_tk1 (x := x) (L := L) (tc := 66) (tl := 139) (tg := 144) hqa
 have hg2 := gv_tk2 (x := x) (L := L) (tc := 66) (tl := 139) (tg := 144) hqa
 have hg3 := gv_tk3 (x := x) (L := L) (tc := 66) (tl := 139) (tg := 144) hqa
 rw [hk3] at helA hg1 hg2 hg3
 dsimp only at helA hg1 hg2 hg3
 refine C_form (v := q1) (gv1 (gv1 (gv1 (gv1 (gv1 (gv1 (gv1 (gv1 (gv1 (gv1 (gv1 (gv1 (hg1))))))))))))) (fun Aq1 cq1 hvq1 _ => ?_)
 subst hvq1
 refine C_form (v := q2) (gv1 (gv1 (gv1 (gv1 (gv1 (gv1 (gv1 (gv1 (gv1 (gv1 (gv1 (gv1 (hg2))))))))))))) (fun Aq2 cq2 hvq2 _ => ?_)
 subst hvq2
 refine C_form (v := q3) (gv1 (gv1 (gv1 (gv1 (gv1 (gv1 (gv1 (gv1 (gv1 (gv1 (gv1 (gv1 (hg3))))))))))))) (fun Aq3 cq3 hvq3 _ => ?_)
 subst hvq3
 have htl9 := tkC_len (x := x) (L := L) T39
 refine C_region ?_
 refine Jq (q_move rfl) ?_
 refine Jq (q_move rfl) ?_
 refine Jq (q_sub rfl rfl (by first | exact IntWalk.i64_in _ (by omega) | rfl)) ?_
 refine Jq (by first | exact q_index tb rfl rfl rfl rfl gvo (by omega) (by first | omega | (simp; done) | (simp; omega)) | exact q_indexP tb rfl rfl rfl rfl (by omega) (by omega)) ?_
 refine Jq (q_loadEA tb rfl rfl gvo (i := k - 2) (o := 0) (by omega) helA rfl rfl) ?_
 refine L_st tb rfl rfl ?_
 refine L_end ?_
 exact fun ac_ wo_ hs_ => ⟨(.slice Aq1 ((behA x L (k - 1)).ts.map cCp).length cq1, .slice Aq2 ((behA x L (k - 1)).ls.map cLd).length cq2, .slice Aq3 ((behA x L (k - 1)).gs.map cAg).length cq3), ⟨gv1 (gv1 (gv1 (gv1 (gv1 (gv1 (gv1 (gv1 (gv1 (gv1 (gv1 (hg1))))))))))), gv1 (gv1 (gv1 (gv1 (gv1 (gv1 (gv1 (gv1 (gv1 (gv1 (gv1 (hg2))))))))))), gv1 (gv1 (gv1 (gv1 (gv1 (gv1 (gv1 (gv1 (gv1 (gv1 (gv1 (hg3)))))))))))⟩, hs_.weak ⟨rfl, rfl, rfl, rfl, rfl, trivial⟩ (fun h_ => h_.pk (by repeat (first | with_reducible exact pk_nil | refine pk_box rfl ?_ | refine pk_rd rfl ?_ | refine pk_sl rfl ?_ | with_reducible refine pk_app ?_ | with_reducible refine pk_app0 ?_ | with_reducible refine pk_app0L ?_ | with_reducible exact pk_tl | refine pk_var ?_)))⟩
 obtain rfl : k = 1 := by omega
 refine C_skip ?_
 exact fun ac_ wo_ hs_ => ⟨(.slice A118 n118 c118, .slice B118 m118 d118, .slice C118 k118 e118), ⟨gvo, gvo, gvo⟩, hs_.weak ⟨rfl, rfl, rfl, rfl, rfl, trivial⟩ (fun h_ => h_.pk (by repeat (first | with_reducible exact pk_nil | refine pk_box rfl ?_ | refine pk_rd rfl ?_ | refine pk_sl rfl ?_ | with_reducible refine pk_app ?_ | with_reducible refine pk_app0 ?_ | with_reducible refine pk_app0L ?_ | with_reducible exact pk_tl | refine pk_var ?_)))⟩
 rintro ⟨p1, p2, p3⟩ ⟨hp1, hp2, hp3⟩
 dsimp only at hp1 hp2 hp3 ⊢
 refine C_seq ?_
 refine C_seq ?_
 refine C_draw (n := 21) [(0, false), (1, false), (2, false), (3, false), (4, false), (5, false), (6, false), (7, false), (8, false), (9, false), (10, false), (11, false), (12, false), (13, false), (14, false), (15, false), (16, false), (17, false), (18, false), (19, false), (20, false)] mixed (by kernel_rfl) ?_
 refine Yq rfl (q_field tb rfl rfl rfl) ?_
 refine Yq rfl (q_load tb rfl rfl bxo rfl) ?_
 refine Yq rfl (q_move rfl) ?_
 refine Yq rfl (q_sub rfl rfl (by first | exact IntWalk.i64_in _ (by omega) | rfl)) ?_
 refine Yq rfl (by first | exact q_index tb rfl rfl rfl rfl gvo (by omega) (by first | omega | (simp; done) | (simp; omega)) | exact q_indexP tb rfl rfl rfl rfl (by omega) (by omega)) ?_
 refine Yq rfl (q_fieldE tb rfl rfl rfl gvo (by first | omega | (simp; done) | (simp; omega))) ?_
 refine Yq rfl (q_loadE tb rfl rfl gvo (i := k - 1) (o := 1) (by omega) hely rfl) ?_
 refine Yq rfl (q_field tb rfl rfl rfl) ?_
 refine Yq rfl (q_load tb rfl rfl bxo rfl) ?_
 refine Yq rfl (q_neq rfl rfl) ?_
 refine Yq rfl (q_move rfl) ?_
 refine W_dec (d := 136) rfl (fun hn1 => ?_) (fun hn1 => ?_)
 refine Yk rfl ?_
 refine Yk rfl ?_
 refine Yk rfl ?_
 refine Yk rfl ?_
 refine Yk rfl ?_
 refine Yk rfl ?_
 refine Yk rfl ?_
 refine Yk rfl ?_
 refine Yk rfl ?_
 refine Yq rfl (q_pickT rfl rfl) ?_
 refine W_nil ?_
 refine L_then ?_
 refine C_true rfl ?_
 refine C_exit ?_
 change C Tryz.prog _ _ _ _ _ _ _
 refine C_region ?_
 refine Jq (q_move rfl) ?_
 refine Jq (q_add rfl rfl (by first | exact IntWalk.i64_in _ (by omega) | rfl)) ?_
 refine Jq (q_assign rfl) ?_
 refine L_end ?_
 exact fun ac_ wo_ hs_ => ⟨k + 1, ⟨by omega, by omega⟩, (by dsimp only; omega), hs_.weak ⟨rfl, rfl, rfl, rfl, trivial⟩ (fun h_ => h_.pk (by repeat (first | with_reducible exact pk_nil | refine pk_box rfl ?_ | refine pk_rd rfl ?_ | refine pk_sl rfl ?_ | with_reducible refine pk_app ?_ | with_reducible refine pk_app0 ?_ | with_reducible refine pk_app0L ?_ | with_reducible exact pk_tl | refine pk_var ?_)))⟩
 refine Yg rfl (q_field tb rfl rfl rfl) ?_
 refine Yg rfl (q_load tb rfl rfl bxo rfl) ?_
 refine Yg rfl (q_move rfl) ?_
 refine Yg rfl (by first | exact q_index tb rfl rfl rfl rfl gvo (by omega) (by first | omega | (simp; done) | (simp; omega)) | exact q_indexP tb rfl rfl rfl rfl (by omega) (by omega)) ?_
 refine Yg rfl (q_fieldE tb rfl rfl rfl gvo (by first | omega | (simp; done) | (simp; omega))) ?_
 refine Yg rfl (q_loadE tb rfl rfl gvo (i := k - 1 + 1) (o := 1) (by omega) helz rfl) ?_
 refine Yg rfl (q_field tb rfl rfl rfl) ?_
 refine Yg rfl (q_load tb rfl rfl bxo rfl) ?_
 refine Yg rfl (q_eql rfl rfl) ?_
 refine Yq rfl (q_pickF rfl rfl) ?_
 refine W_nil ?_
 refine L_then ?_
 refine C_dec rfl (fun hn2 => ?_) (fun hn2 => ?_)
 refine C_exit ?_
 change C Tryz.prog _ _ _ _ _ _ _
 refine C_region ?_
 refine Jq (q_move rfl) ?_
 refine Jq (q_add rfl rfl (by first | exact IntWalk.i64_in _ (by omega) | rfl)) ?_
 refine Jq (q_assign rfl) ?_
 refine L_end ?_
 exact fun ac_ wo_ hs_ => ⟨k + 1, ⟨by omega, by omega⟩, (by dsimp only; omega), hs_.weak ⟨rfl, rfl, rfl, rfl, trivial⟩ (fun h_ => h_.pk (by repeat (first | with_reducible exact pk_nil | refine pk_box rfl ?_ | refine pk_rd rfl ?_ | refine pk_sl rfl ?_ | with_reducible refine pk_app ?_ | with_reducible refine pk_app0 ?_ | with_reducible refine pk_app0L ?_ | with_reducible exact pk_tl | refine pk_var ?_)))⟩
 obtain ⟨HX, hck, hno⟩ := need hfo hly hlz (Decidable.not_not.1 hn1) hn2
 have haz : alE (behA x L (k - 1)) z9 = 0 := by rw [alE_2 HX.ck]; exact hck
 obtain ⟨e1, e2, e3, e4⟩ := to_2 haz
 have hbX := beh_len HX
 have hal := (ckAl_ok hck).1
 have hfn := fnA_in H
 have hrf := H.r.fi
 refine C_skip_then ?_
 refine C_seq ?_
 refine C_region ?_
 refine Jq (q_assign rfl) ?_
 refine L_then ?_
 refine C_block ?_
 refine C_loop (ι := Nat) (fun j => ([(1, .pointer (some ⟨g1, 0, none⟩)), (3, .pointer (some ⟨g3, 0, none⟩)), (5, s39), (10, .int .i64 (k : Int)), (11, .pointer (some ⟨g11, 0, none⟩)), (12, .int .i64 (j : Int))], (box g11 28 (cAt p1 p2 p3 (behA x L (k - 1))) :: sl (.slice A118 n118 c118) 66 4 (x.ts.map cCp) :: sl (.slice B118 m118 d118) 139 4 (x.ls.map cLd) :: sl (.slice C118 k118 e118) 144 3 (x.gs.map cAg) :: sl s39 28 12 (tkC x L T39) :: sl (.slice A25 n25 c25) 51 3 (L.map cDl) :: sl (.slice B25 m25 d25) 3 1 (F.map cI) :: box g3 74 [(.slice A25 n25 c25), (.slice B25 m25 d25)] :: box g1 28 (cAt v u z x) :: rd v 4 (x.ts.map cCp) :: rd u 4 (x.ls.map cLd) :: rd z 3 (x.gs.map cAg) :: tkR 66 139 144 x L T39))) (fun j => j ≤ fnA x + 1) (fun j => fnA x + 1 - j) 0 (Nat.zero_le _) (fun a w hs => hs.weak ⟨rfl, rfl, rfl, rfl, rfl, rfl, trivial⟩ (fun h => h)) ?_
 intro j hj
 dsimp only at hj ⊢
 refine C_seq ?_
 refine C_seq ?_
 refine C_region ?_
 refine Jq (q_move rfl) ?_
 refine Jq (q_field tb rfl rfl rfl) ?_
 refine Jq (q_field tb rfl rfl rfl) ?_
 refine Jq (q_load tb rfl rfl bxo rfl) ?_
 refine Jq (q_leq rfl rfl) ?_
 refine L_then ?_
 refine C_dec rfl (fun h14 => ?_) (fun h14 => ?_)
 refine C_skip_then ?_
 refine C_seq ?_
 refine C_block ?_
 refine C_seq ?_
 refine C_wideF1 tb (k := 11) [(0, false), (2, false), (3, false), (4, false), (5, false), (6, false), (1, true), (7, true), (8, false), (9, false), (10, false)] [.s 12, .q 13] mixed (by kernel_rfl) rfl rfl rfl rfl (by kernel_rfl) rfl ?_
 refine X1_q rfl rfl rfl rfl (q_loadA tb rfl rfl bxo rfl rfl) ?_
 refine X1_q rfl rfl rfl rfl (q_field tb rfl rfl rfl) ?_
 refine X1_q rfl rfl rfl rfl (q_load tb rfl rfl bxo rfl) ?_
 refine X1_q rfl rfl rfl rfl (q_move rfl) ?_
 refine X1_q rfl rfl rfl rfl (by first | exact q_index tb rfl rfl rfl rfl gvo (by omega) (by first | omega | (simp; done) | (simp; omega)) | exact q_indexP tb rfl rfl rfl rfl (by omega) (by omega)) ?_
 refine X1_q rfl rfl rfl rfl (q_loadEA tb rfl rfl gvo (i := k - 1 + 1) (o := 0) (by omega) helz rfl rfl) ?_
 refine X1_lo rfl rfl rfl rfl (lo_call tb rfl rfl (ct_shotlinelaw04_own p1 p2 p3 (behA x L (k - 1)) (by omega) (by omega) (by omega)) (ps_cons (by first | exact gv1 hp1 | exact gv1 (gv1 hp1)) (ps_cons (by first | exact gv1 hp2 | exact gv1 (gv1 hp2)) (ps_cons (by first | exact gv1 hp3 | exact gv1 (gv1 hp3)) no_ps))) isTo_sinks) ?_
 rintro _ _ ⟨A156, n156, c156, B156, m156, d156, C156, k156, e156, rfl, rfl⟩
 dsimp only [List.cons_append, List.nil_append]
 refine X1_lo rfl rfl rfl rfl (lo_call tb rfl rfl (ct_ascent_TaskOf _ _ _ (behA x L (k - 1)) z9 (by omega) (by omega) (by omega)) (ps_cons gvo (ps_cons gvo (ps_cons gvo no_ps))) isTe_sinks) ?_
 rintro _ _ ⟨A162, n162, c162, B162, m162, d162, rfl, rfl⟩
 dsimp only [List.cons_append, List.nil_append]
 refine X1_q rfl rfl rfl rfl (q_move rfl) ?_
 rw [e1, e2, e3, e4, haz]
 refine X1_q rfl rfl rfl rfl (q_ext0 rfl) ?_
 refine X1_q rfl rfl rfl rfl (q_ext1 rfl) ?_
 refine X1_nil ?_
 intro g13
 try dsimp only [List.cons_append, List.nil_append]
 first | refine X_store tb rfl rfl (List.Perm.refl _) rfl rfl rfl rfl rfl rfl rfl rfl ?_ | refine X_store tb rfl rfl perm1 rfl rfl rfl rfl rfl rfl rfl rfl ?_ | refine X_store tb rfl rfl (perm_front (pre := [_, _])) rfl rfl rfl rfl rfl rfl rfl rfl ?_ | refine X_store tb rfl rfl (perm_front (pre := [_, _, _])) rfl rfl rfl rfl rfl rfl rfl rfl ?_
 refine X_q rfl rfl rfl rfl (q_assign rfl) ?_
 refine X_nil ?_
 dsimp only [List.cons_append, List.nil_append]
 refine L_then ?_
 refine C_seq ?_
 refine C_seq ?_
 refine C_region ?_
 refine Jq (q_move rfl) ?_
 refine Jq (q_false (q_neq rfl rfl) (decide_eq_false fun h => h rfl)) ?_
 refine L_then ?_
 refine C_false rfl ?_
 refine C_skip_then ?_
 refine C_seq ?_
 refine C_region ?_
 refine Jq (q_loadA tb rfl rfl bxo rfl rfl) ?_
 refine Jq (q_move rfl) ?_
 refine L_call tb rfl rfl (ct_tissue_Kept _ _ (lgA (behA x L (k - 1)) z9) (faA (behA x L (k - 1))) (j : Int) (behA x L (k - 1)).ts (behA x L (k - 1)).ls (by omega) (by omega)) (ps_cons gvo (ps_cons gvo no_ps)) rfl ?_
 refine Jq (q_move rfl) ?_
 rw [kp_E HX hal (by omega)]
 refine Jq (q_ext0 rfl) ?_
 refine Jq (q_ext1 rfl) ?_
 refine Jq (q_assign rfl) ?_
 refine Jq (q_assign rfl) ?_
 refine L_then ?_
 refine C_seq ?_
 refine C_region ?_
 refine Jq (q_move rfl) ?_
 refine Jq (q_false (q_neq rfl rfl) (decide_eq_false fun h => h rfl)) ?_
 refine Jq (q_move rfl) ?_
 refine Jg (q_move rfl) ?_
 refine Jg (q_false (q_eql rfl rfl) (decide_eq_false fun h => hno j (by show j ≤ fnA x; omega) h)) ?_
 refine Jq (q_pickF rfl rfl) ?_
 refine L_then ?_
 refine C_false rfl ?_
 refine C_skip_blk ?_
 refine C_region ?_
 refine Jq (q_move rfl) ?_
 refine Jq (q_add rfl rfl (by first | exact IntWalk.i64_in _ (by omega) | rfl)) ?_
 refine Jq (q_assign rfl) ?_
 refine L_end ?_
 exact fun ac_ wo_ hs_ => ⟨j + 1, (by omega), (by dsimp only; omega), hs_.weak ⟨rfl, rfl, rfl, rfl, rfl, rfl, trivial⟩ (fun h_ => h_.pk (by repeat (first | with_reducible exact pk_nil | refine pk_box rfl ?_ | refine pk_rd rfl ?_ | refine pk_sl rfl ?_ | with_reducible refine pk_app ?_ | with_reducible refine pk_app0 ?_ | with_reducible refine pk_app0L ?_ | with_reducible exact pk_tl | refine pk_var ?_)))⟩
 refine C_exit ?_
 change C Tryz.prog _ _ _ _ _ _ _
 refine C_region ?_
 refine Jq (q_move rfl) ?_
 refine Jq (q_add rfl rfl (by first | exact IntWalk.i64_in _ (by omega) | rfl)) ?_
 refine Jq (q_assign rfl) ?_
 refine L_end ?_
 exact fun ac_ wo_ hs_ => ⟨k + 1, ⟨by omega, by omega⟩, (by dsimp only; omega), hs_.weak ⟨rfl, rfl, rfl, rfl, trivial⟩ (fun h_ => h_.pk (by repeat (first | with_reducible exact pk_nil | refine pk_box rfl ?_ | refine pk_rd rfl ?_ | refine pk_sl rfl ?_ | with_reducible refine pk_app ?_ | with_reducible refine pk_app0 ?_ | with_reducible refine pk_app0L ?_ | with_reducible exact pk_tl | refine pk_var ?_)))⟩
 refine C_exit ?_
 change C Tryz.prog _ _ _ _ _ _ _
 refine C_seq ?_
 refine C_region ?_
 refine Jq (q_assign rfl) ?_
 refine L_then ?_
 refine C_ret ?_
 exact ret_of (res1 rfl rfl) sub_nil (by intro r hr; cases hr) ⟨rfl, rfl⟩
end Go.Proofs.YthilaakeimfedaaGreatDoor
