/-
  Walks: each function named returns what its model says. Conditions: those in front of each theorem.
-/
import Derived.Test.YthilaakeimfedaaGreatDoorAS
namespace Go.Proofs.YthilaakeimfedaaGreatDoor
open Go.RowKit

theorem ct_openOk (v u z : Value) (x : Asc) (H : okAsc x) : Ct Tryz.prog 92 [.agg (cAt v u z x).toArray] [(v, 4, x.ts.map cCp), (u, 4, x.ls.map cLd), (z, 3, x.gs.map cAg)] (isTk 66 139 144 x 0) := by
 have hbl := beh_len H
 have h := ct_ascent_open v u z x (by omega) (by omega) (by omega)
 rw [opA_2 H.ck, H.ck] at h
 exact h

set_option maxRecDepth 100000 in
set_option maxHeartbeats 2000000 in
theorem ct_ascent_copied (v u z : Value) (x : Asc) (H : okAsc x) : Ct Tryz.prog 128 [.agg (cAt v u z x).toArray] [(v, 4, x.ts.map cCp), (u, 4, x.ls.map cLd), (z, 3, x.gs.map cAg)] (isTo 66 139 144 x) := by
 refine Ct.of (N := 13) Tryz.func128 rfl rfl rfl fun w => ?_
 refine C_weak (E' := [(0, .agg (cAt v u z x).toArray)]) (rs' := [rd v 4 (x.ts.map cCp), rd u 4 (x.ls.map cLd), rd z 3 (x.gs.map cAg)]) ⟨rfl, trivial⟩ (fun _ h => h) ?_
 have hl1 := len_map cCp x.ts
 have hl2 := len_map cLd x.ls
 have hl3 := len_map cAg x.gs
 have hde := H.de; have hsu := H.su; have hbl := beh_len H; have hrs := H.r.st; have hrf := H.r.fi
 refine C_seq ?_
 refine C_region ?_
 refine L_box rfl rfl rfl fun g1 => ?_
 refine L_alloc tb rfl rfl fun g2 => ?_
 refine L_then ?_
 refine C_seq ?_
 refine C_region ?_
 refine Jq (q_field tb rfl rfl rfl) ?_
 refine Jq (q_loadA tb rfl rfl bxo rfl rfl) ?_
 refine L_lo rfl rfl rfl (lo_call tb rfl rfl (ct_openOk v u z x H) (ps_cons gvo (ps_cons gvo (ps_cons gvo no_ps))) isTk_sinks) ?_
 rintro _ _ ⟨A8, n8, c8, B8, m8, d8, C8, k8, e8, rfl, rfl⟩
 refine Jq (q_move rfl) ?_
 refine Jq (q_ext0 rfl) ?_
 refine Jq (q_ext1 rfl) ?_
 refine L_alloc tb rfl rfl fun g3 => ?_
 refine L_st tb rfl rfl ?_
 refine Jq (q_assign rfl) ?_
 refine L_then ?_
 refine C_seq ?_
 refine C_region ?_
 refine Jq (q_field tb rfl rfl rfl) ?_
 refine Jq (q_loadA tb rfl rfl bxo rfl rfl) ?_
 refine L_st tb rfl rfl ?_
 refine L_then ?_
 refine C_ret ?_
 exact ret_of (rs' := [sl _ 66 4 (x.ts.map cCp), sl _ 139 4 (x.ls.map cLd), sl _ 144 3 (x.gs.map cAg)]) (resC tb rfl rfl rfl bxo rfl) (fun w_ h_ => h_.pk (by repeat (first | with_reducible exact pk_nil | refine pk_box rfl ?_ | refine pk_rd rfl ?_ | refine pk_sl rfl ?_ | with_reducible refine pk_app ?_ | with_reducible refine pk_app0 ?_ | with_reducible refine pk_app0L ?_ | with_reducible exact pk_tl | refine pk_var ?_))) own3 ⟨_, _, _, _, _, _, _, _, _, rfl, rfl⟩
set_option maxRecDepth 100000 in
set_option maxHeartbeats 4000000 in
theorem ct_ascent_Following (v u z : Value) (x : Asc) (a b : Value) (L : List Dl) (F : List Int) (hle1 : x.ts.length ≤ 100000) (hle2 : x.ls.length ≤ 100000) (hle3 : x.gs.length ≤ 100000) (hla : L.length ≤ 1000000) (hlb : F.length ≤ 1000000) : Ct Tryz.prog 60 [.agg (cAt v u z x).toArray, .agg #[a, b]] [(v, 4, x.ts.map cCp), (u, 4, x.ls.map cLd), (z, 3, x.gs.map cAg), (a, 3, L.map cDl), (b, 1, F.map cI)] (FlwP 28 66 139 144 x L (flwE x L F)) := by
 refine Ct.of (N := 44) Tryz.func60 rfl rfl rfl fun w => ?_
 refine C_weak (E' := [(0, .agg (cAt v u z x).toArray), (1, .agg #[a, b])]) (rs' := [rd v 4 (x.ts.map cCp), rd u 4 (x.ls.map cLd), rd z 3 (x.gs.map cAg), rd a 3 (L.map cDl), rd b 1 (F.map cI)]) ⟨rfl, rfl, trivial⟩ (fun _ h => h) ?_
 have hl1 := len_map cCp x.ts
 have hl2 := len_map cLd x.ls
 have hl3 := len_map cAg x.gs
 have hl4 := len_map cDl L
 have hl5 := len_map cI F
 refine C_seq ?_
 refine C_region ?_
 refine L_box rfl rfl rfl fun g2 => ?_
 refine L_box rfl rfl rfl fun g3 => ?_
 refine Jq (q_assign rfl) ?_
 refine Jq (q_assign rfl) ?_
 refine L_then ?_
 refine C_seq ?_
 refine C_region ?_
 refine Jq (q_loadA tb rfl rfl bxo rfl rfl) ?_
 refine Jq (q_loadA tb rfl rfl bxo rfl rfl) ?_
 refine L_lo rfl rfl rfl (lo_call tb rfl rfl (ct_ascent_withSchedule v u z x a b L F (by omega) (by omega) (by omega) (by omega) (by omega)) (ps_cons gvo (ps_cons gvo (ps_cons gvo (ps_cons gvo (ps_cons gvo no_ps))))) isTk_sinks) ?_
 rintro _ _ ⟨A15, n15, c15, B15, m15, d15, C15, k15, e15, rfl, rfl⟩
 refine Jq (q_move rfl) ?_
 refine Jq (q_ext0 rfl) ?_
 refine Jq (q_ext1 rfl) ?_
 refine L_alloc tb rfl rfl fun g6 => ?_
 refine L_st tb rfl rfl ?_
 refine Jq (q_assign rfl) ?_
 refine L_then ?_
 refine C_seq ?_
 refine C_seq ?_
 refine C_region ?_
 refine Jq (q_move rfl) ?_
 refine Jq (q_neq rfl rfl) ?_
 refine L_then ?_
 refine C_dec rfl (fun h1 => ?_) (fun h1 => ?_)
 refine C_seq ?_
 refine C_region ?_
 refine Jq (q_move rfl) ?_
 refine Jq (q_assign rfl) ?_
 refine Jq (q_assign rfl) ?_
 refine L_then ?_
 refine C_ret ?_
 rw [flw_ws h1]
 exact ret_of (rs' := [sl (.slice none 0 0) 28 12 []]) (res2 rfl rfl rfl) (fun w_ h_ => ws_nil (sub_nil w_ h_)) own1 (FlwP_bad h1)
 have hz := Decidable.not_not.1 h1
 obtain ⟨H, hS, hcs⟩ := wsE_ok hz
 rw [opA_2 H.ck]
 have hSn := hS.n; have hSl := hS.l
 refine C_skip_then ?_
 refine C_seq ?_
 refine C_region ?_
 refine Jq (q_assign rfl) ?_
 refine L_then ?_
 refine C_seq ?_
 refine C_seq ?_
 refine C_region ?_
 refine Jq (q_field tb rfl rfl rfl) ?_
 refine Jq (q_load tb rfl rfl bxo rfl) ?_
 refine Jq (q_len tb rfl rfl gvo) ?_
 refine Jq (q_move rfl) ?_
 refine L_then ?_
 refine C_block ?_
 refine C_nil 28 12 ?_
 refine C_res (rs' := (rd (.slice B15 m15 d15) 4 ((behA x L 0).ls.map cLd) :: sl (.slice none 0 0) 28 12 (tkC x L []) :: box g6 156 (cAt (.slice A15 n15 c15) (.slice B15 m15 d15) (.slice C15 k15 e15) (behA x L 0)) :: sl (.slice A15 n15 c15) 66 4 ((behA x L 0).ts.map cCp) :: sl (.slice C15 k15 e15) 144 3 ((behA x L 0).gs.map cAg) :: box g3 74 [a, b] :: box g2 28 (cAt v u z x) :: rd a 3 (L.map cDl) :: rd b 1 (F.map cI) :: [])) (fun _ h_ => sl_to_rd (show WS _ _ (sl (.slice B15 m15 d15) 139 4 (x.ls.map cLd) :: _) _ from h_.pk (by repeat (first | with_reducible exact pk_nil | refine pk_box rfl ?_ | refine pk_rd rfl ?_ | refine pk_sl rfl ?_ | with_reducible refine pk_app ?_ | with_reducible refine pk_app0 ?_ | with_reducible refine pk_app0L ?_ | with_reducible exact pk_tl | refine pk_var ?_)))) ?_
 refine C_loop (ι := Nat × Value × List Tri × Value) (fun q => ([(2, .pointer (some ⟨g2, 0, none⟩)), (3, .pointer (some ⟨g3, 0, none⟩)), (6, .pointer (some ⟨g6, 0, none⟩)), (8, q.2.2.2), (22, a), (23, .int .i64 (L.map cDl).length), (24, .int .i64 (q.1 : Int))], (rd q.2.1 4 ((behA x L q.1).ls.map cLd) :: sl q.2.2.2 28 12 (tkC x L q.2.2.1) :: box g6 156 (cAt (.slice A15 n15 c15) q.2.1 (.slice C15 k15 e15) (behA x L q.1)) :: sl (.slice A15 n15 c15) 66 4 ((behA x L q.1).ts.map cCp) :: sl (.slice C15 k15 e15) 144 3 ((behA x L q.1).gs.map cAg) :: box g3 74 [a, b] :: box g2 28 (cAt v u z x) :: rd a 3 (L.map cDl) :: rd b 1 (F.map cI) :: tkR 66 139 144 x L q.2.2.1))) (fun q => q.1 ≤ L.length ∧ okAsc (behA x L q.1) ∧ flwF (behA x L q.1) (L.drop q.1) = flwF x L ∧ q.2.2.1.length = q.1) (fun q => L.length - q.1) (0, .slice B15 m15 d15, [], .slice none 0 0) ⟨Nat.zero_le _, H, rfl, rfl⟩ (fun a w hs => hs.weak ⟨rfl, rfl, rfl, rfl, rfl, rfl, rfl, trivial⟩ (fun h => h)) ?_
 rintro ⟨k, u9, T, s9⟩ ⟨hk, hX, hf, hTl⟩
 dsimp only at hk hX hf hTl ⊢
 subst hTl
 obtain ⟨X, hXe⟩ : ∃ X, X = (behA x L T.length) := ⟨_, rfl⟩
 rw [← hXe] at hX hf ⊢
 refine C_form (v := u9) gvo (fun A9 c9 hv9 _ => ?_)
 subst hv9
 have hXde := hX.de; have hXbl := beh_len hX; have hXst := hX.r.st; have hXgi := gasA_in X X.de
 have htl := tkC_len (x := x) (L := L) T
 refine C_seq ?_
 refine C_region ?_
 refine Jq (q_lss rfl rfl) ?_
 refine L_then ?_
 refine C_seq ?_
 refine C_dec rfl (fun h2 => ?_) (fun h2 => ?_)
 obtain ⟨y, f, he, hf9, han⟩ := sch_at hS (k := T.length) (by omega); have hel := map_get cDl he; have hef := map_get cI hf9; obtain ⟨_, _, _, hf6⟩ := han
 refine C_skip_then ?_
 refine C_seq ?_
 refine C_block ?_
 refine C_seq ?_
 refine C_region ?_
 refine Jq (by first | exact q_index tb rfl rfl rfl rfl gvo (by omega) (by first | omega | (simp; done) | (simp; omega)) | exact q_indexP tb rfl rfl rfl rfl (by omega) (by omega)) ?_
 refine Jq (q_loadEA tb rfl rfl gvo (i := T.length) (o := 0) (by omega) hel rfl rfl) ?_
 refine L_alloc tb rfl rfl fun g10 => ?_
 refine L_st tb rfl rfl ?_
 refine L_then ?_
 refine C_seq ?_
 refine C_seq ?_
 refine C_region ?_
 refine Jq (q_loadA tb rfl rfl bxo rfl rfl) ?_
 refine Jq (q_loadA tb rfl rfl bxo rfl rfl) ?_
 refine L_call tb rfl rfl (ct_ascent_task_check _ _ _ X y hX) (ps_cons gvo no_ps) rfl ?_
 refine Jq (q_assign rfl) ?_
 refine L_then ?_
 refine C_seq ?_
 refine C_region ?_
 refine Jq (q_move rfl) ?_
 refine Jq (q_neq rfl rfl) ?_
 refine L_then ?_
 refine C_dec rfl (fun h5 => ?_) (fun h5 => ?_)
 refine C_seq ?_
 refine C_region ?_
 refine Jq (q_move rfl) ?_
 refine Jq (q_assign rfl) ?_
 refine Jq (q_assign rfl) ?_
 refine L_then ?_
 refine C_ret ?_
 have e9 : flwE x L F = ckAl X y := by rw [flwE_3 H.ck hS.ck, ← hf]; exact flw_yes he h5
 rw [e9]
 exact ret_of (rs' := [sl (.slice none 0 0) 28 12 []]) (res2 rfl rfl rfl) (fun w_ h_ => ws_nil (sub_nil w_ h_)) own1 (FlwP_bad h5)
 have hk0 := Decidable.not_not.1 h5
 have hy := (ckAl_ok hk0).1
 have hb : bhA X y = (behA x L (T.length + 1)) := by rw [hXe]; exact (behA_s he).symm
 have hbo := bh_ok hX hy
 refine C_skip_then ?_
 refine C_seq ?_
 refine C_region ?_
 refine Jq (q_loadA tb rfl rfl bxo rfl rfl) ?_
 refine Jq (q_loadA tb rfl rfl bxo rfl rfl) ?_
 refine L_lo rfl rfl rfl (lo_call tb rfl rfl (ct_ascent_task_behind _ _ _ X y hX hy) (ps_cons gvo (ps_cons gvo (ps_cons gvo no_ps))) isBh_sinks) ?_
 rintro _ _ ⟨A36, n36, c36, rfl, rfl⟩
 refine L_st tb rfl rfl ?_
 refine L_then ?_
 refine C_region ?_
 refine Jq (q_move rfl) ?_
 refine Jq (q_loadA tb rfl rfl bxo rfl rfl) ?_
 refine L_lo rfl rfl rfl (lo_call tb rfl rfl (ct_ascent_copied _ _ _ (bhA X y) hbo) (ps_cons gvo (ps_cons gvo (ps_cons gvo no_ps))) isTo_sinks) ?_
 rintro _ _ ⟨A39, n39, c39, B39, m39, d39, C39, k39, e39, rfl, rfl⟩
 refine L_mk (lo_bslice tb rfl rfl rfl (xs := [cAt (.slice A39 n39 c39) (.slice B39 m39 d39) (.slice C39 k39 e39) (bhA X y)]) rfl rfl (by simp [cAt]) rfl (by omega) rfl) rfl rfl rfl fun v40 => ?_
 refine L_res (rs' := (sl s9 28 12 (tkC x L T) :: sl v40 28 12 [cAt (.slice A39 n39 c39) (.slice B39 m39 d39) (.slice C39 k39 e39) (bhA X y)] :: sl (.slice A36 n36 c36) 139 4 ((bhA X y).ls.map cLd) :: sl (.slice A39 n39 c39) 66 4 ((bhA X y).ts.map cCp) :: sl (.slice B39 m39 d39) 139 4 ((bhA X y).ls.map cLd) :: sl (.slice C39 k39 e39) 144 3 ((bhA X y).gs.map cAg) :: box g6 156 (cAt (.slice A15 n15 c15) (.slice A36 n36 c36) (.slice C15 k15 e15) (bhA X y)) :: sl (.slice A15 n15 c15) 66 4 (X.ts.map cCp) :: sl (.slice C15 k15 e15) 144 3 (X.gs.map cAg) :: box g3 74 [a, b] :: box g2 28 (cAt v u z x) :: rd a 3 (L.map cDl) :: rd b 1 (F.map cI) :: tkR 66 139 144 x L T)) (fun _ h_ => h_.pk (by repeat (first | with_reducible exact pk_nil | refine pk_box rfl ?_ | refine pk_rd rfl ?_ | refine pk_sl rfl ?_ | with_reducible refine pk_app ?_ | with_reducible refine pk_app0 ?_ | with_reducible refine pk_app0L ?_ | with_reducible exact pk_tl | refine pk_var ?_))) ?_
 refine L_ap tb rfl rfl rfl rfl gvo (by simp [Value.oneCell', cAt]) (by simp [maxLen]; omega) (by simp; omega) fun v41 => ?_
 refine Jq (q_assign rfl) ?_
 refine L_blk ?_
 refine C_region ?_
 refine Jq (q_add rfl rfl (by first | exact IntWalk.i64_in _ (by omega) | rfl)) ?_
 refine Jq (q_move rfl) ?_
 refine L_end ?_
 have e8 : X.ts.map cCp = (behA x L (T.length + 1)).ts.map cCp := by rw [← hb]; rfl
 have e7 : X.gs.map cAg = (behA x L (T.length + 1)).gs.map cAg := by rw [← hb]; rfl
 rw [hb]
 exact fun ac_ wo_ hs_ => ⟨(T.length + 1, .slice A36 n36 c36, (.slice A39 n39 c39, .slice B39 m39 d39, .slice C39 k39 e39) :: T, v41), ⟨by dsimp only; omega, hb ▸ bh_ok hX hy, by dsimp only; rw [← hb, ← hf]; exact (flw_no he (fun hh => hh hk0)).symm, rfl⟩, (by dsimp only; omega), hs_.weak ⟨rfl, rfl, rfl, rfl, rfl, rfl, rfl, trivial⟩ (fun h_ => sl_to_rd (show WS _ _ (sl (.slice A36 n36 c36) 139 4 ((behA x L (T.length + 1)).ls.map cLd) :: sl v41 28 12 (tkC x L T ++ [cAt (.slice A39 n39 c39) (.slice B39 m39 d39) (.slice C39 k39 e39) (behA x L (T.length + 1))]) :: box g6 156 (cAt (.slice A15 n15 c15) (.slice A36 n36 c36) (.slice C15 k15 e15) (behA x L (T.length + 1))) :: sl (.slice A15 n15 c15) 66 4 ((behA x L (T.length + 1)).ts.map cCp) :: sl (.slice C15 k15 e15) 144 3 ((behA x L (T.length + 1)).gs.map cAg) :: box g3 74 [a, b] :: box g2 28 (cAt v u z x) :: rd a 3 (L.map cDl) :: rd b 1 (F.map cI) :: sl (.slice A39 n39 c39) 66 4 ((behA x L (T.length + 1)).ts.map cCp) :: sl (.slice B39 m39 d39) 139 4 ((behA x L (T.length + 1)).ls.map cLd) :: sl (.slice C39 k39 e39) 144 3 ((behA x L (T.length + 1)).gs.map cAg) :: tkR 66 139 144 x L T) _ from h_.pk (by repeat (first | with_reducible exact pk_nil | refine pk_box (by first | rfl | exact e8 | exact e7) ?_ | refine pk_rd rfl ?_ | refine pk_sl (by first | rfl | exact e8 | exact e7) ?_ | with_reducible refine pk_app ?_ | with_reducible refine pk_app0 ?_ | with_reducible refine pk_app0L ?_ | with_reducible exact pk_tl | refine pk_var ?_))))⟩
 refine C_exit ?_
 change C Tryz.prog _ _ _ _ _ _ _
 refine C_seq ?_
 refine C_region ?_
 refine Jq (q_move rfl) ?_
 refine Jq (q_assign rfl) ?_
 refine Jq (q_assign rfl) ?_
 refine L_then ?_
 refine C_ret ?_
 have hlt : T.length = L.length := by omega
 have e9 : flwE x L F = 0 := by rw [flwE_3 H.ck hS.ck, ← hf]; exact flw_end (by omega)
 rw [e9]
 exact ret_of (rs' := sl s9 28 12 (tkC x L T) :: tkR 66 139 144 x L T) (res2 rfl rfl rfl) (fun w_ h_ => h_.pk (by repeat (first | with_reducible exact pk_nil | refine pk_box rfl ?_ | refine pk_rd rfl ?_ | refine pk_sl rfl ?_ | with_reducible refine pk_app ?_ | with_reducible refine pk_app0 ?_ | with_reducible refine pk_app0L ?_ | with_reducible exact pk_tl | refine pk_var ?_))) FlwP_own ⟨_, _, rfl, rfl, by rw [if_pos rfl]; exact hlt⟩
end Go.Proofs.YthilaakeimfedaaGreatDoor
