/-
  Walks: each function named returns what its model says. Conditions: those in front of each theorem.
-/
import Derived.Test.YthilaakeimfedaaGreatDoorAR
import Derived.Test.YthilaakeimfedaaGreatDoorLH
import Derived.Test.YthilaakeimfedaaGreatDoorLHs
import Derived.Test.YthilaakeimfedaaGreatDoorLHe
import Derived.Test.YthilaakeimfedaaGreatDoorAU
namespace Go.Proofs.YthilaakeimfedaaGreatDoor
open Go.RowKit

set_option maxRecDepth 100000 in
set_option maxHeartbeats 4000000 in
theorem ct_shotlinelaw04_AscentFollows (v u z : Value) (x : Asc) (a b : Value) (L : List Dl) (F : List Int) : CtQ KQ Tryz.prog 11 [.agg (cAt v u z x).toArray, .agg #[a, b]] [(v, 4, x.ts.map cCp), (u, 4, x.ls.map cLd), (z, 3, x.gs.map cAg), (a, 3, L.map cDl), (b, 1, F.map cI)] (isV (.bool true)) := by
 refine CtQ.of (N := 154) Tryz.func11 rfl rfl rfl fun w hQ => ?_
 refine C_weak (E' := [(0, .agg (cAt v u z x).toArray), (1, .agg #[a, b])]) (rs' := [rd v 4 (x.ts.map cCp), rd u 4 (x.ls.map cLd), rd z 3 (x.gs.map cAg), rd a 3 (L.map cDl), rd b 1 (F.map cI)]) ⟨rfl, rfl, trivial⟩ (fun _ h => h) ?_
 have hl1 := len_map cCp x.ts
 have hl2 := len_map cLd x.ls
 have hl3 := len_map cAg x.gs
 have hl4 := len_map cDl L
 have hl5 := len_map cI F
 refine C_seq ?_
 refine C_region ?_
 refine L_box rfl rfl rfl fun g2 => ?_
 refine L_box rfl rfl rfl fun g3 => ?_
 refine Jq (q_assign rfl) ?_
 refine L_then ?_
 refine C_seq ?_
 refine C_seq ?_
 refine C_region ?_
 refine L_lo rfl rfl rfl (lo_callQ tb stQ hQ rfl rfl (ct_shotlinelaw04_awake) no_ps isV_sinks) ?_
 rintro _ _ ⟨rfl, rfl⟩
 refine Jq (q_not rfl rfl) ?_
 refine L_then ?_
 refine C_false rfl ?_
 refine C_skip_then ?_
 refine C_seq ?_
 refine C_seq ?_
 refine C_region ?_
 refine Jq (q_loadA tb rfl rfl bxo rfl rfl) ?_
 refine L_call tb rfl rfl (ct_shotlinelaw04_Light v u z x) (ps_cons gvo (ps_cons gvo (ps_cons gvo no_ps))) rfl ?_
 refine Jq (q_not rfl decide_not.symm) ?_
 refine Jq (q_move rfl) ?_
 refine L_dec (d := 22) rfl (fun hl => ?_) (fun hl => ?_)
 iterate 3 refine Jk ?_
 refine Jq (q_pickT rfl rfl) ?_
 refine L_then ?_
 refine C_true rfl ?_
 refine C_seq ?_
 refine C_region ?_
 refine Jq (q_assign rfl) ?_
 refine L_then ?_
 refine C_ret ?_
 exact ret_of (res1 rfl rfl) sub_nil (by intro r hr; cases hr) ⟨rfl, rfl⟩
 refine Jg (q_loadA tb rfl rfl bxo rfl rfl) ?_
 refine L_callg tb rfl rfl rfl rfl rfl rfl (ct_shotlinelaw04_short a b L F) (ps_cons gvo (ps_cons gvo no_ps)) rfl ?_
 refine Jg (q_not rfl decide_not.symm) ?_
 refine Jq (q_pickF rfl rfl) ?_
 refine L_then ?_
 refine C_dec rfl (fun hs => ?_) (fun hs => ?_)
 refine C_seq ?_
 refine C_region ?_
 refine Jq (q_assign rfl) ?_
 refine L_then ?_
 refine C_ret ?_
 exact ret_of (res1 rfl rfl) sub_nil (by intro r hr; cases hr) ⟨rfl, rfl⟩
 have hL := light_len (Decidable.not_not.1 hl)
 have hsh := Decidable.not_not.1 hs
 obtain ⟨hs1, hs2⟩ := hsh
 have hlb4 : L.length ≤ 402 := by omega
 refine C_skip_then ?_
 refine C_seq ?_
 refine C_draw (n := 10) [(0, false), (2, false), (1, true), (3, true), (4, true), (5, false), (6, false), (7, false), (8, false), (9, false)] mixed (by kernel_rfl) ?_
 refine Yq rfl (q_loadA tb rfl rfl bxo rfl rfl) ?_
 refine Yq rfl (q_loadA tb rfl rfl bxo rfl rfl) ?_
 refine W_lo rfl rfl rfl rfl (lo_call tb rfl rfl (ct_shotlinelaw04_own v u z x (by omega) (by omega) (by omega)) (ps_cons gvo (ps_cons gvo (ps_cons gvo no_ps))) isTo_sinks) ?_
 rintro _ _ ⟨A29, n29, c29, B29, m29, d29, C29, k29, e29, rfl, rfl⟩
 refine W_lo rfl rfl rfl rfl (lo_call tb rfl rfl (ct_shotlinelaw04_schedule a b L F (by omega) (by omega)) (ps_cons gvo (ps_cons gvo no_ps)) isSo_sinks) ?_
 rintro _ _ ⟨A31, n31, c31, B31, m31, d31, rfl, rfl⟩
 refine W_lo rfl rfl rfl rfl (lo_call tb rfl rfl (ct_ascent_Following _ _ _ x _ _ L F (by omega) (by omega) (by omega) (by omega) (by omega)) (ps_cons gvo (ps_cons gvo (ps_cons gvo (ps_cons gvo (ps_cons gvo no_ps))))) FlwP_sinks) ?_
 rintro _ _ ⟨s32, T32, rfl, rfl, hl32⟩
 refine Yq rfl (q_move rfl) ?_
 refine Yq rfl (q_ext0 rfl) ?_
 refine Yq rfl (q_ext1 rfl) ?_
 refine Yq rfl (q_assign rfl) ?_
 refine Yq rfl (q_assign rfl) ?_
 refine W_nil ?_
 refine L_then ?_
 refine C_seq ?_
 refine C_region ?_
 refine Jq (q_loadA tb rfl rfl bxo rfl rfl) ?_
 refine L_lo rfl rfl rfl (lo_call tb rfl rfl (ct_shotlinelaw04_schedule a b L F (by omega) (by omega)) (ps_cons gvo (ps_cons gvo no_ps)) isSo_sinks) ?_
 rintro _ _ ⟨A37, n37, c37, B37, m37, d37, rfl, rfl⟩
 refine L_call tb rfl rfl (ct_ascent_SecondsOf _ _ L F (by omega) (by omega)) (ps_cons gvo (ps_cons gvo no_ps)) rfl ?_
 refine Jq (q_move rfl) ?_
 rw [so_2]
 refine Jq (q_ext0 rfl) ?_
 refine Jq (q_ext1 rfl) ?_
 refine Jq (q_assign rfl) ?_
 refine Jq (q_assign rfl) ?_
 refine L_then ?_
 refine C_seq ?_
 refine C_draw (n := 10) [(0, false), (2, false), (1, true), (3, true), (4, true), (5, false), (6, false), (7, false), (8, false), (9, false)] mixed (by kernel_rfl) ?_
 refine Yq rfl (q_loadA tb rfl rfl bxo rfl rfl) ?_
 refine Yq rfl (q_loadA tb rfl rfl bxo rfl rfl) ?_
 refine W_lo rfl rfl rfl rfl (lo_call tb rfl rfl (ct_shotlinelaw04_own v u z x (by omega) (by omega) (by omega)) (ps_cons gvo (ps_cons gvo (ps_cons gvo no_ps))) isTo_sinks) ?_
 rintro _ _ ⟨A43, n43, c43, B43, m43, d43, C43, k43, e43, rfl, rfl⟩
 refine W_lo rfl rfl rfl rfl (lo_call tb rfl rfl (ct_shotlinelaw04_schedule a b L F (by omega) (by omega)) (ps_cons gvo (ps_cons gvo no_ps)) isSo_sinks) ?_
 rintro _ _ ⟨A45, n45, c45, B45, m45, d45, rfl, rfl⟩
 refine W_lo rfl rfl rfl rfl (lo_call tb rfl rfl (ct_ascent_StopsOf _ _ _ x _ _ L F (by omega) (by omega) (by omega) (by omega) (by omega)) (ps_cons gvo (ps_cons gvo (ps_cons gvo (ps_cons gvo (ps_cons gvo no_ps))))) isSp_sinks) ?_
 rintro _ _ ⟨a46, rfl, rfl⟩
 refine Yq rfl (q_move rfl) ?_
 refine Yq rfl (q_ext0 rfl) ?_
 refine Yq rfl (q_ext1 rfl) ?_
 refine Yq rfl (q_assign rfl) ?_
 refine Yq rfl (q_assign rfl) ?_
 refine W_nil ?_
 refine L_then ?_
 refine C_seq ?_
 refine C_region ?_
 refine Jq (q_loadA tb rfl rfl bxo rfl rfl) ?_
 refine L_call tb rfl rfl (ct_shotlineref04_Alone a b L F (by omega) (by omega)) (ps_cons gvo (ps_cons gvo no_ps)) rfl ?_
 refine Jq (q_assign rfl) ?_
 refine L_then ?_
 refine C_cut (ι := Unit) (fun _p => ([(2, .pointer (some ⟨g2, 0, none⟩)), (3, .pointer (some ⟨g3, 0, none⟩)), (5, s32), (6, .int .i64 ((flwE x L F))), (9, a46), (10, .int .i64 ((wsE x L F))), (11, .int .i64 ((ckSch L F)))], (sl a46 105 2 ((spL x L F).map cSp) :: sl s32 28 12 (tkC x L T32) :: box g3 74 [a, b] :: box g2 28 (cAt v u z x) :: rd v 4 (x.ts.map cCp) :: rd u 4 (x.ls.map cLd) :: rd z 3 (x.gs.map cAg) :: rd a 3 (L.map cDl) :: rd b 1 (F.map cI) :: tkR 66 139 144 x L T32))) (fun _p => True) ?_ ?_
 refine C_seq ?_
 refine C_region ?_
 refine Jq (q_move rfl) ?_
 refine Jq (q_move rfl) ?_
 refine Jq (q_false (q_neq rfl rfl) (decide_eq_false fun h => h rfl)) ?_
 refine Jq (q_move rfl) ?_
 refine Jg (q_move rfl) ?_
 refine Jg (q_neq rfl rfl) ?_
 refine Jg (q_move rfl) ?_
 refine L_dec (d := 57) rfl (fun hs1 => ?_) (fun hs1 => ?_)
 rw [soE_1 hs1]
 dsimp only
 refine Jg (q_move rfl) ?_
 refine Jg (q_false (q_neq rfl rfl) (decide_eq_false fun h => h rfl)) ?_
 refine Jg (q_pickT rfl rfl) ?_
 refine Jq (q_pickF rfl rfl) ?_
 refine Jq (q_move rfl) ?_
 refine Jg (q_move rfl) ?_
 refine Jg (q_false (q_eql rfl rfl) (decide_eq_false hs1)) ?_
 refine Jg (q_move rfl) ?_
 iterate 4 refine Jk ?_
 refine Jg (q_pickF rfl rfl) ?_
 refine Jq (q_pickF rfl rfl) ?_
 refine L_then ?_
 refine C_false rfl ?_
 refine C_skip ?_
 exact fun ac_ wo_ hs_ => ⟨(), trivial, hs_.weak ⟨rfl, rfl, rfl, rfl, rfl, rfl, rfl, trivial⟩ (fun h_ => h_.pk (by repeat (first | with_reducible exact pk_nil | refine pk_box rfl ?_ | refine pk_rd rfl ?_ | refine pk_sl rfl ?_ | with_reducible refine pk_app ?_ | with_reducible refine pk_app0 ?_ | with_reducible refine pk_app0L ?_ | with_reducible exact pk_tl | refine pk_var ?_)))⟩
 have hsk := Decidable.not_not.1 hs1
 have hS := ckSch_ok hsk
 have hSn := hS.n; have hSl := hS.l
 rw [soE_2 hsk]
 dsimp only
 iterate 2 refine Jk ?_
 refine Jg (q_pickF rfl rfl) ?_
 refine Jq (q_pickF rfl rfl) ?_
 refine Jq (q_move rfl) ?_
 refine Jg (q_move rfl) ?_
 refine Jg (q_true (q_eql rfl rfl) (decide_eq_true hsk)) ?_
 refine Jg (q_move rfl) ?_
 refine Jg (q_move rfl) ?_
 refine Jg (q_loadA tb rfl rfl bxo rfl rfl) ?_
 refine L_callg tb rfl rfl rfl rfl rfl rfl (ct_shotlineref04_SecondsOf a b L (sch_sec hS) (by omega)) (ps_cons gvo no_ps) rfl ?_
 refine Jg (q_false (q_neq rfl rfl) (decide_eq_false fun h => h rfl)) ?_
 refine Jg (q_pickT rfl rfl) ?_
 refine Jq (q_pickF rfl rfl) ?_
 refine L_then ?_
 refine C_false rfl ?_
 refine C_skip ?_
 exact fun ac_ wo_ hs_ => ⟨(), trivial, hs_.weak ⟨rfl, rfl, rfl, rfl, rfl, rfl, rfl, trivial⟩ (fun h_ => h_.pk (by repeat (first | with_reducible exact pk_nil | refine pk_box rfl ?_ | refine pk_rd rfl ?_ | refine pk_sl rfl ?_ | with_reducible refine pk_app ?_ | with_reducible refine pk_app0 ?_ | with_reducible refine pk_app0L ?_ | with_reducible exact pk_tl | refine pk_var ?_)))⟩
 intro _ _
 refine C_cut (ι := Unit) (fun _p => ([(2, .pointer (some ⟨g2, 0, none⟩)), (3, .pointer (some ⟨g3, 0, none⟩)), (5, s32), (6, .int .i64 ((flwE x L F))), (9, a46), (10, .int .i64 ((wsE x L F))), (11, .int .i64 ((wsE x L F)))], (sl a46 105 2 ((spL x L F).map cSp) :: sl s32 28 12 (tkC x L T32) :: box g3 74 [a, b] :: box g2 28 (cAt v u z x) :: rd v 4 (x.ts.map cCp) :: rd u 4 (x.ls.map cLd) :: rd z 3 (x.gs.map cAg) :: rd a 3 (L.map cDl) :: rd b 1 (F.map cI) :: tkR 66 139 144 x L T32))) (fun _p => True) ?_ ?_
 refine C_seq ?_
 refine C_region ?_
 refine Jq (q_loadA tb rfl rfl bxo rfl rfl) ?_
 refine L_call tb rfl rfl (ct_shotlineref04_CheckTask v u z x (by omega) (by omega) (by omega)) (ps_cons gvo (ps_cons gvo (ps_cons gvo no_ps))) rfl ?_
 refine Jq (q_assign rfl) ?_
 refine L_then ?_
 refine C_seq ?_
 refine C_region ?_
 refine Jq (q_move rfl) ?_
 refine Jq (q_neq rfl rfl) ?_
 refine L_then ?_
 refine C_dec rfl (fun hc => ?_) (fun hc => ?_)
 refine C_region ?_
 refine Jq (q_move rfl) ?_
 refine Jq (q_assign rfl) ?_
 refine L_end ?_
 exact fun ac_ wo_ hs_ => ⟨(), trivial, hs_.weak ⟨rfl, rfl, rfl, rfl, rfl, rfl, en (by rw [wsE_1 hc]), trivial⟩ (fun h_ => h_.pk (by repeat (first | with_reducible exact pk_nil | refine pk_box rfl ?_ | refine pk_rd rfl ?_ | refine pk_sl rfl ?_ | with_reducible refine pk_app ?_ | with_reducible refine pk_app0 ?_ | with_reducible refine pk_app0L ?_ | with_reducible exact pk_tl | refine pk_var ?_)))⟩
 refine C_skip ?_
 exact fun ac_ wo_ hs_ => ⟨(), trivial, hs_.weak ⟨rfl, rfl, rfl, rfl, rfl, rfl, en (by rw [wsE_2 (Decidable.not_not.1 hc)]), trivial⟩ (fun h_ => h_.pk (by repeat (first | with_reducible exact pk_nil | refine pk_box rfl ?_ | refine pk_rd rfl ?_ | refine pk_sl rfl ?_ | with_reducible refine pk_app ?_ | with_reducible refine pk_app0 ?_ | with_reducible refine pk_app0L ?_ | with_reducible exact pk_tl | refine pk_var ?_)))⟩
 intro _ _
 refine C_seq ?_
 refine C_seq ?_
 refine C_region ?_
 refine Jq (q_move rfl) ?_
 refine Jq (q_neq rfl rfl) ?_
 refine L_then ?_
 refine C_dec rfl (fun h1 => ?_) (fun h1 => ?_)
 have hT0 : T32 = [] := List.eq_nil_of_length_eq_zero (by rw [hl32, if_neg (by rw [flw_ws h1]; exact h1)])
 subst hT0
 rw [flw_ws h1, spL_1 h1]
 refine C_seq ?_
 refine C_region ?_
 refine Jq (q_move rfl) ?_
 refine Jq (q_move rfl) ?_
 refine Jq (q_true (q_eql rfl rfl) (decide_eq_true rfl)) ?_
 refine Jq (q_move rfl) ?_
 refine Jg (q_move rfl) ?_
 refine Jg (q_move rfl) ?_
 refine Jg (q_true (q_eql rfl rfl) (decide_eq_true rfl)) ?_
 refine Jq (q_pickT rfl rfl) ?_
 refine Jq (q_move rfl) ?_
 refine Jg (q_move rfl) ?_
 refine Jg (q_len tb rfl rfl gvo) ?_
 refine Jg (q_move rfl) ?_
 refine Jg (q_len tb rfl rfl gvo) ?_
 refine Jg (q_add rfl rfl (by first | exact IntWalk.i64_in _ (by omega) | rfl)) ?_
 refine Jg (q_true (q_eql rfl rfl) (decide_eq_true rfl)) ?_
 refine Jq (q_pickT rfl rfl) ?_
 refine Jq (q_assign rfl) ?_
 refine L_then ?_
 refine C_ret ?_
 exact ret_of (res1 rfl rfl) sub_nil (by intro r hr; cases hr) ⟨rfl, rfl⟩
 have hz := Decidable.not_not.1 h1
 obtain ⟨H, hS, _⟩ := wsE_ok hz
 have hSn := hS.n; have hSl := hS.l
 rw [flwE_3 H.ck hS.ck] at hl32 ⊢
 rw [spL_2 hz, hz]
 have hsl9 := stpA_len x L
 have hlq := len_map cSp (stpA x L)
 refine C_skip_then ?_
 refine C_seq ?_
 refine C_region ?_
 refine Jq (q_loadA tb rfl rfl bxo rfl rfl) ?_
 refine Jq (q_loadA tb rfl rfl bxo rfl rfl) ?_
 refine L_callS tb rfl rfl (ct_shotlineref04_StopsOf v u z x a b L F hS) (ps_cons gvo no_ps) rfl fun v97 => ?_
 refine Jq (q_assign rfl) ?_
 refine L_then ?_
 refine C_seq ?_
 refine C_seq ?_
 refine C_region ?_
 refine Jq (q_move rfl) ?_
 refine Jq (q_false (q_neq rfl rfl) (decide_eq_false fun h => h rfl)) ?_
 refine Jq (q_move rfl) ?_
 refine Jg (q_move rfl) ?_
 refine Jg (q_len tb rfl rfl gvo) ?_
 refine Jg (q_move rfl) ?_
 refine Jg (q_len tb rfl rfl gvo) ?_
 refine Jg (q_false (q_neq rfl rfl) (decide_eq_false fun h => h rfl)) ?_
 refine Jq (q_pickF rfl rfl) ?_
 refine L_then ?_
 refine C_false rfl ?_
 refine C_skip_then ?_
 refine C_seq ?_
 refine C_seq ?_
 refine C_region ?_
 refine Jq (q_assign rfl) ?_
 refine L_then ?_
 refine C_block ?_
 refine C_loop (ι := Nat) (fun k => ([(2, .pointer (some ⟨g2, 0, none⟩)), (3, .pointer (some ⟨g3, 0, none⟩)), (5, s32), (6, .int .i64 ((flwF x L))), (9, a46), (10, .int .i64 0), (13, v97), (14, .int .i64 (k : Int))], (sl v97 105 2 ((stpA x L).map cSp) :: sl a46 105 2 ((stpA x L).map cSp) :: sl s32 28 12 (tkC x L T32) :: box g3 74 [a, b] :: box g2 28 (cAt v u z x) :: rd v 4 (x.ts.map cCp) :: rd u 4 (x.ls.map cLd) :: rd z 3 (x.gs.map cAg) :: rd a 3 (L.map cDl) :: rd b 1 (F.map cI) :: tkR 66 139 144 x L T32))) (fun k => k ≤ (stpA x L).length) (fun k => (stpA x L).length - k) 0 (Nat.zero_le _) (fun a w hs => hs.weak ⟨rfl, rfl, rfl, rfl, rfl, rfl, rfl, rfl, trivial⟩ (fun h => h)) ?_
 intro k hk
 dsimp only at hk ⊢
 refine C_seq ?_
 refine C_seq ?_
 refine C_region ?_
 refine Jq (q_move rfl) ?_
 refine Jq (q_move rfl) ?_
 refine Jq (q_len tb rfl rfl gvo) ?_
 refine Jq (q_lss rfl rfl) ?_
 refine L_then ?_
 refine C_dec rfl (fun h11 => ?_) (fun h11 => ?_)
 obtain ⟨p9, hp9⟩ := get_some (stpA x L) (k := k) (by omega); have helS := map_get cSp hp9
 refine C_skip_then ?_
 refine C_seq ?_
 refine C_block ?_
 refine C_seq ?_
 refine C_draw (n := 9) [(0, false), (1, false), (2, false), (3, false), (4, false), (5, false), (6, false), (7, false), (8, false)] mixed (by kernel_rfl) ?_
 refine Yq rfl (q_move rfl) ?_
 refine Yq rfl (q_move rfl) ?_
 refine Yq rfl (by first | exact q_index tb rfl rfl rfl rfl gvo (by omega) (by first | omega | (simp; done) | (simp; omega)) | exact q_indexP tb rfl rfl rfl rfl (by omega) (by omega)) ?_
 refine Yq rfl (q_loadEA tb rfl rfl gvo (i := k) (o := 0) (by omega) helS rfl rfl) ?_
 refine Yq rfl (q_move rfl) ?_
 refine Yq rfl (q_move rfl) ?_
 refine Yq rfl (by first | exact q_index tb rfl rfl rfl rfl gvo (by omega) (by first | omega | (simp; done) | (simp; omega)) | exact q_indexP tb rfl rfl rfl rfl (by omega) (by omega)) ?_
 refine Yq rfl (q_loadEA tb rfl rfl gvo (i := k) (o := 0) (by omega) helS rfl rfl) ?_
 refine Yq rfl (q_false (q_neI (xs := [p9.1, p9.2]) (ys := [p9.1, p9.2]) eq105 (by omega) eg105 rfl rfl rfl rfl Iff.rfl) (by simp)) ?_
 refine W_nil ?_
 refine L_then ?_
 refine C_false rfl ?_
 refine C_skip_blk ?_
 refine C_region ?_
 refine Jq (q_move rfl) ?_
 refine Jq (q_add rfl rfl (by first | exact IntWalk.i64_in _ (by omega) | rfl)) ?_
 refine Jq (q_assign rfl) ?_
 refine L_end ?_
 exact fun ac_ wo_ hs_ => ⟨k + 1, (by omega), (by dsimp only; omega), hs_.weak ⟨rfl, rfl, rfl, rfl, rfl, rfl, rfl, rfl, trivial⟩ (fun h => h)⟩
 refine C_exit ?_
 change C Tryz.prog _ _ _ _ _ _ _
 refine C_seq ?_
 refine C_region ?_
 refine Jq (q_loadA tb rfl rfl bxo rfl rfl) ?_
 refine Jq (q_loadA tb rfl rfl bxo rfl rfl) ?_
 refine L_lo rfl rfl rfl (lo_call tb rfl rfl (ct_shotlineref04_Following v u z x a b L F H hS) (ps_cons gvo (ps_cons gvo (ps_cons gvo (ps_cons gvo no_ps)))) FlrP_sinks) ?_
 rintro _ _ ⟨s125, T125, rfl, rfl, hl125⟩
 refine Jq (q_move rfl) ?_
 refine Jq (q_ext0 rfl) ?_
 refine Jq (q_ext1 rfl) ?_
 refine Jq (q_assign rfl) ?_
 refine Jq (q_assign rfl) ?_
 refine L_then ?_
 refine C_seq ?_
 refine C_seq ?_
 refine C_region ?_
 refine Jq (q_move rfl) ?_
 refine Jq (q_move rfl) ?_
 refine Jq (q_false (q_neq rfl rfl) (decide_eq_false fun h => h rfl)) ?_
 refine Jq (q_move rfl) ?_
 refine Jg (q_move rfl) ?_
 refine Jg (q_len tb rfl rfl gvo) ?_
 refine Jg (q_move rfl) ?_
 refine Jg (q_len tb rfl rfl gvo) ?_
 refine Jg (q_false (q_neq rfl rfl) (decide_eq_false fun h => h (by rw [tkC_len, tkC_len, List.length_map, hl32, hl125]))) ?_
 refine Jq (q_pickF rfl rfl) ?_
 refine L_then ?_
 refine C_false rfl ?_
 refine C_skip_then ?_
 refine C_seq ?_
 refine C_seq ?_
 refine C_region ?_
 refine Jq (q_assign rfl) ?_
 refine L_then ?_
 refine C_block ?_
 refine C_loop (ι := Nat) (fun k => ([(2, .pointer (some ⟨g2, 0, none⟩)), (3, .pointer (some ⟨g3, 0, none⟩)), (5, s32), (15, s125), (16, .int .i64 (k : Int))], ((sl s125 28 12 (tkC x L (T125.map fun u => (v, u, z))) :: luR 139 x L T125) ++ (sl v97 105 2 ((stpA x L).map cSp) :: sl a46 105 2 ((stpA x L).map cSp) :: sl s32 28 12 (tkC x L T32) :: box g3 74 [a, b] :: box g2 28 (cAt v u z x) :: rd v 4 (x.ts.map cCp) :: rd u 4 (x.ls.map cLd) :: rd z 3 (x.gs.map cAg) :: rd a 3 (L.map cDl) :: rd b 1 (F.map cI) :: tkR 66 139 144 x L T32)))) (fun k => k ≤ T32.length) (fun k => T32.length - k) 0 (Nat.zero_le _) (fun a w hs => hs.weak ⟨rfl, rfl, rfl, rfl, rfl, trivial⟩ (fun h => h)) ?_
 intro k hk
 dsimp only at hk ⊢
 refine C_seq ?_
 refine C_seq ?_
 refine C_region ?_
 refine Jq (q_move rfl) ?_
 refine Jq (q_move rfl) ?_
 refine Jq (q_len tb rfl rfl gvo) ?_
 rw [tkC_len]
 refine Jq (q_lss rfl rfl) ?_
 refine L_then ?_
 refine C_dec rfl (fun h14 => ?_) (fun h14 => ?_)
 have hfl9 : flwF x L = 0 := Decidable.byContradiction fun hh => by rw [if_neg hh] at hl32; omega
 rw [if_pos hfl9] at hl32 hl125
 obtain ⟨qa, hqa⟩ := rev_at (k := k) hl32 (by omega); have helA := tkC_get (x := x) (L := L) hqa; obtain ⟨ub, hub⟩ := rev_at (k := k) hl125 (by omega); have helB := tk_at (x := x) (L := L) (v := v) (w := z) hub
 have htl1 := tkC_len (x := x) (L := L) T32
 have htl2 : (tkC x L (T125.map fun u => (v, u, z))).length = T125.length := (tkC_len _).trans (List.length_map _)
 have hbo := beh_len (beh_ok H (L := L) (k := k + 1) (by omega) fun i hi => flw_all hfl9 i)
 refine C_skip_then ?_
 refine C_seq ?_
 refine C_block ?_
 refine C_seq ?_
 refine C_draw (n := 10) [(0, false), (1, false), (2, false), (3, false), (4, false), (5, false), (6, false), (7, false), (8, true), (9, false)] mixed (by kernel_rfl) ?_
 refine Yq rfl (q_move rfl) ?_
 refine Yq rfl (q_move rfl) ?_
 refine Yq rfl (by first | exact q_index tb rfl rfl rfl rfl gvo (by omega) (by first | omega | (simp; done) | (simp; omega)) | exact q_indexP tb rfl rfl rfl rfl (by omega) (by omega)) ?_
 refine Yq rfl (q_loadEA tb rfl rfl gvo (i := k) (o := 0) (by omega) helA rfl rfl) ?_
 refine Yq rfl (q_move rfl) ?_
 refine Yq rfl (q_move rfl) ?_
 refine Yq rfl (by first | exact q_index tb rfl rfl rfl rfl gvo (by omega) (by first | omega | (simp; done) | (simp; omega)) | exact q_indexP tb rfl rfl rfl rfl (by omega) (by omega)) ?_
 refine Yq rfl (q_loadEA tb rfl rfl gvo (i := k) (o := 0) (by omega) helB rfl rfl) ?_
 refine W_call tb rfl rfl rfl rfl (ct_shotlinelaw04_same _ _ _ _ _ _ (behA x L (k + 1)) (by omega) (by omega) (by omega)) (ps_cons (by first | exact gv_r (gv1 (gv1 (gv1 (gv1 (gv1 (gv1 (gv1 (gv1 ((gv_tk1 hqa)))))))))) | exact gv_r (gv1 (gv1 (gv1 (gv1 (gv1 (gv1 (gv1 (gv1 (gv1 ((gv_tk1 hqa))))))))))) | exact gv_r (gv1 (gv1 (gv1 (gv1 (gv1 (gv1 (gv1 (gv1 (gv1 (gv1 ((gv_tk1 hqa)))))))))))) | exact gv_r (gv1 (gv1 (gv1 (gv1 (gv1 (gv1 (gv1 (gv1 (gv1 (gv1 (gv1 ((gv_tk1 hqa)))))))))))))) (ps_cons (by first | exact gv_r (gv1 (gv1 (gv1 (gv1 (gv1 (gv1 (gv1 (gv1 ((gv_tk2 hqa)))))))))) | exact gv_r (gv1 (gv1 (gv1 (gv1 (gv1 (gv1 (gv1 (gv1 (gv1 ((gv_tk2 hqa))))))))))) | exact gv_r (gv1 (gv1 (gv1 (gv1 (gv1 (gv1 (gv1 (gv1 (gv1 (gv1 ((gv_tk2 hqa)))))))))))) | exact gv_r (gv1 (gv1 (gv1 (gv1 (gv1 (gv1 (gv1 (gv1 (gv1 (gv1 (gv1 ((gv_tk2 hqa)))))))))))))) (ps_cons (by first | exact gv_r (gv1 (gv1 (gv1 (gv1 (gv1 (gv1 (gv1 (gv1 ((gv_tk3 hqa)))))))))) | exact gv_r (gv1 (gv1 (gv1 (gv1 (gv1 (gv1 (gv1 (gv1 (gv1 ((gv_tk3 hqa))))))))))) | exact gv_r (gv1 (gv1 (gv1 (gv1 (gv1 (gv1 (gv1 (gv1 (gv1 (gv1 ((gv_tk3 hqa)))))))))))) | exact gv_r (gv1 (gv1 (gv1 (gv1 (gv1 (gv1 (gv1 (gv1 (gv1 (gv1 (gv1 ((gv_tk3 hqa)))))))))))))) (ps_cons (by rw [(beh_same x L (k + 1)).1]; exact gvo) (ps_cons (by first | exact gv_l ((gv_lu hub)) | exact gv_l (gv1 ((gv_lu hub))) | exact gv_l (gv1 (gv1 ((gv_lu hub))))) (ps_cons (by rw [(beh_same x L (k + 1)).2.2.1]; exact gvo) no_ps)))))) rfl ?_
 refine Yq rfl (q_not rfl rfl) ?_
 refine W_nil ?_
 refine L_then ?_
 refine C_false rfl ?_
 refine C_skip_blk ?_
 refine C_region ?_
 refine Jq (q_move rfl) ?_
 refine Jq (q_add rfl rfl (by first | exact IntWalk.i64_in _ (by omega) | rfl)) ?_
 refine Jq (q_assign rfl) ?_
 refine L_end ?_
 exact fun ac_ wo_ hs_ => ⟨k + 1, (by omega), (by dsimp only; omega), hs_.weak ⟨rfl, rfl, rfl, rfl, rfl, trivial⟩ (fun h => h)⟩
 refine C_exit ?_
 change C Tryz.prog _ _ _ _ _ _ _
 refine C_seq ?_
 refine C_region ?_
 refine Jq (q_assign rfl) ?_
 refine L_then ?_
 refine C_ret ?_
 exact ret_of (res1 rfl rfl) sub_nil (by intro r hr; cases hr) ⟨rfl, rfl⟩
end Go.Proofs.YthilaakeimfedaaGreatDoor
