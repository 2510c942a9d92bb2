/-
  Walks: each function named returns what its model says. Conditions: those in front of each theorem.
-/
import Derived.Test.YthilaakeimfedaaGreatDoorAT
import Derived.Test.YthilaakeimfedaaGreatDoorAs12
namespace Go.Proofs.YthilaakeimfedaaGreatDoor
set_option maxRecDepth 100000
set_option maxHeartbeats 4000000
open Go.RowKit

theorem ct_ascent_StopsOf (v u z : Value) (x : Asc) (a b : Value) (L : List Dl) (F : List Int) (hle1 : x.ts.length ≤ 100000) (hle2 : x.ls.length ≤ 100000) (hle3 : x.gs.length ≤ 100000) (hla : L.length ≤ 1000000) (hlb : F.length ≤ 1000000) : Ct Tryz.prog 61 [.agg (cAt v u z x).toArray, .agg #[a, b]] [(v, 4, x.ts.map cCp), (u, 4, x.ls.map cLd), (z, 3, x.gs.map cAg), (a, 3, L.map cDl), (b, 1, F.map cI)] (isSp 105 (spL x L F) (wsE x L F)) := by
 refine Ct.of (N := 67) Tryz.func61 rfl rfl rfl fun w => ?_
 refine C_weak (E' := [(0, .agg (cAt v u z x).toArray), (1, .agg #[a, b])]) (rs' := [rd v 4 (x.ts.map cCp), rd u 4 (x.ls.map cLd), rd z 3 (x.gs.map cAg), rd a 3 (L.map cDl), rd b 1 (F.map cI)]) ⟨rfl, rfl, trivial⟩ (fun _ h => h) ?_
 have hl1 := len_map cCp x.ts
 have hl2 := len_map cLd x.ls
 have hl3 := len_map cAg x.gs
 have hl4 := len_map cDl L
 have hl5 := len_map cI F
 refine C_seq ?_
 refine C_region ?_
 refine L_box rfl rfl rfl fun g2 => ?_
 refine L_box rfl rfl rfl fun g3 => ?_
 refine Jq (q_assign rfl) ?_
 refine Jq (q_assign rfl) ?_
 refine L_then ?_
 refine C_seq ?_
 refine C_seq ?_
 refine C_region ?_
 refine Jq (q_loadA tb rfl rfl bxo rfl rfl) ?_
 refine Jq (q_loadA tb rfl rfl bxo rfl rfl) ?_
 refine L_lo rfl rfl rfl (lo_call tb rfl rfl (ct_ascent_withSchedule v u z x a b L F (by omega) (by omega) (by omega) (by omega) (by omega)) (ps_cons gvo (ps_cons gvo (ps_cons gvo (ps_cons gvo (ps_cons gvo no_ps))))) isTk_sinks) ?_
 rintro _ _ ⟨A17, n17, c17, B17, m17, d17, C17, k17, e17, rfl, rfl⟩
 refine Jq (q_move rfl) ?_
 refine Jq (q_ext0 rfl) ?_
 refine Jq (q_ext1 rfl) ?_
 refine L_alloc tb rfl rfl fun g6 => ?_
 refine L_st tb rfl rfl ?_
 refine Jq (q_assign rfl) ?_
 refine L_then ?_
 refine C_seq ?_
 refine C_region ?_
 refine Jq (q_move rfl) ?_
 refine Jq (q_neq rfl rfl) ?_
 refine L_then ?_
 refine C_dec rfl (fun h1 => ?_) (fun h1 => ?_)
 refine C_seq ?_
 refine C_region ?_
 refine Jq (q_move rfl) ?_
 refine Jq (q_assign rfl) ?_
 refine Jq (q_assign rfl) ?_
 refine L_then ?_
 refine C_ret ?_
 rw [spL_1 h1]
 exact ret_of (rs' := [sl (.slice none 0 0) 105 2 []]) (res2 rfl rfl rfl) (fun w_ h_ => ws_nil (sub_nil w_ h_)) own1 ⟨_, rfl, rfl⟩
 have hz := Decidable.not_not.1 h1
 obtain ⟨H, hS, _⟩ := wsE_ok hz
 rw [spL_2 hz, hz]
 have hSn := hS.n; have hSl := hS.l
 refine C_skip_then ?_
 refine C_seq ?_
 refine C_region ?_
 refine Jq (q_assign rfl) ?_
 refine L_then ?_
 refine C_seq ?_
 refine C_region ?_
 refine Jq (q_field tb rfl rfl rfl) ?_
 refine Jq (q_load tb rfl rfl bxo rfl) ?_
 refine Jq (q_assign rfl) ?_
 refine Jq (q_assign rfl) ?_
 refine L_then ?_
 refine C_seq ?_
 refine C_seq ?_
 refine C_region ?_
 refine Jq (q_field tb rfl rfl rfl) ?_
 refine Jq (q_load tb rfl rfl bxo rfl) ?_
 refine Jq (q_len tb rfl rfl gvo) ?_
 refine Jq (q_move rfl) ?_
 refine L_then ?_
 refine C_block ?_
 refine C_nil 105 2 ?_
 refine C_res (rs' := [sl (.slice none 0 0) 105 2 (([] : List (Int × Int)).map cSp), box g3 74 [a, b], rd a 3 (L.map cDl), rd b 1 (F.map cI)]) (fun _ h_ => h_.pk (by repeat (first | with_reducible exact pk_nil | refine pk_box rfl ?_ | refine pk_rd rfl ?_ | refine pk_sl rfl ?_ | with_reducible refine pk_app ?_ | with_reducible refine pk_app0 ?_ | with_reducible refine pk_app0L ?_ | with_reducible exact pk_tl | refine pk_var ?_))) ?_
 refine C_loop (ι := Nat × Int × Bool × List (Int × Int) × Value) (fun q => ([(2, .pointer (some ⟨g2, 0, none⟩)), (3, .pointer (some ⟨g3, 0, none⟩)), (8, q.2.2.2.2), (9, .int .i64 q.2.1), (10, .bool q.2.2.1), (26, a), (27, .int .i64 (L.map cDl).length), (28, .int .i64 (q.1 : Int))], [sl q.2.2.2.2 105 2 (q.2.2.2.1.map cSp), box g3 74 [a, b], rd a 3 (L.map cDl), rd b 1 (F.map cI)])) (fun q => q.1 ≤ L.length ∧ (∀ p ∈ q.2.2.2.1, stW q.1 p) ∧ (q.2.2.1 = true → 1 ≤ q.2.2.2.1.length) ∧ q.2.2.2.1.length ≤ q.1 ∧ stpF (L.drop q.1) q.2.1 q.2.2.1 q.2.2.2.1 = stpF L x.de false []) (fun q => L.length - q.1) (0, x.de, false, [], .slice none 0 0) ⟨Nat.zero_le _, stW_0 0, fun h => (by cases h), Nat.le_refl _, rfl⟩ (fun a w hs => hs.weak ⟨rfl, rfl, rfl, rfl, rfl, rfl, rfl, rfl, trivial⟩ (fun h => h.pk (by repeat (first | with_reducible exact pk_nil | refine pk_box rfl ?_ | refine pk_rd rfl ?_ | refine pk_sl rfl ?_ | with_reducible refine pk_app ?_ | with_reducible refine pk_app0 ?_ | with_reducible refine pk_app0L ?_ | with_reducible exact pk_tl | refine pk_var ?_)))) ?_
 rintro ⟨k, d, st9, out, s9⟩ ⟨hk, hob, hst9, hol, hf⟩
 dsimp only at hk hob hst9 hol hf ⊢
 have hlo := len_map cSp out
 refine C_seq ?_
 refine C_region ?_
 refine Jq (q_lss rfl rfl) ?_
 refine L_then ?_
 refine C_seq ?_
 refine C_dec rfl (fun h2 => ?_) (fun h2 => ?_)
 obtain ⟨y, f, he, hf9, han⟩ := sch_at hS (k := k) (by omega); have hel := map_get cDl he; have hef := map_get cI hf9; have hys : 0 ≤ y.s ∧ y.s ≤ 100000 := (by have := han.1; omega)
 refine C_skip_then ?_
 refine C_seq ?_
 refine C_block ?_
 refine C_seq ?_
 refine C_region ?_
 refine Jq (by first | exact q_index tb rfl rfl rfl rfl gvo (by omega) (by first | omega | (simp; done) | (simp; omega)) | exact q_indexP tb rfl rfl rfl rfl (by omega) (by omega)) ?_
 refine Jq (q_loadEA tb rfl rfl gvo (i := k) (o := 0) (by omega) hel rfl rfl) ?_
 refine L_alloc tb rfl rfl fun g12 => ?_
 refine L_st tb rfl rfl ?_
 refine L_then ?_
 refine C_seq ?_
 refine C_region ?_
 refine Jq (q_field tb rfl rfl rfl) ?_
 refine Jq (q_load tb rfl rfl bxo rfl) ?_
 refine Jq (q_move rfl) ?_
 refine Jq (q_eql rfl rfl) ?_
 refine Jq (q_assign rfl) ?_
 refine L_then ?_
 refine C_seq ?_
 refine C_block ?_
 refine C_seq ?_
 refine C_region ?_
 refine Jq (q_move rfl) ?_
 refine Jq (q_move rfl) ?_
 refine L_dec (d := 38) rfl (fun h13 => ?_) (fun h13 => ?_)
 refine Jg (q_move rfl) ?_
 refine Jq (q_pickT rfl rfl) ?_
 refine Jq (q_assign rfl) ?_
 refine L_then ?_
 refine C_bool rfl (fun h36 => ?_) (fun h36 => ?_)
 have hst1 : st9 = true := h36
 have hst9 := hst9 hst1
 obtain ⟨p9, hp9⟩ := get_some out (k := out.length - 1) (by omega); have hel9 := map_get cSp hp9; have hpb := hob p9 (List.mem_of_getElem? hp9); unfold stW at hpb
 refine C_draw (n := 12) [(0, false), (1, false), (2, false), (3, false), (4, false), (5, false), (6, false), (7, false), (8, false), (9, false), (10, false), (11, false)] mixed (by kernel_rfl) ?_
 refine Yq rfl (q_move rfl) ?_
 refine Yq rfl (q_move rfl) ?_
 refine Yq rfl (q_len tb rfl rfl gvo) ?_
 refine Yq rfl (q_sub rfl rfl (by first | exact IntWalk.i64_in _ (by omega) | rfl)) ?_
 refine Yq rfl (by first | exact q_index tb rfl rfl rfl rfl gvo (by omega) (by first | omega | (simp; done) | (simp; omega)) | exact q_indexP tb rfl rfl rfl rfl (by omega) (by omega)) ?_
 refine Yq rfl (q_fieldE tb rfl rfl rfl gvo (by first | omega | (simp; done) | (simp; omega))) ?_
 refine Yq rfl (q_loadE tb rfl rfl gvo (i := out.length - 1) (o := 1) (by omega) hel9 rfl) ?_
 refine Yq rfl (q_field tb rfl rfl rfl) ?_
 refine Yq rfl (q_load tb rfl rfl bxo rfl) ?_
 refine Yq rfl (q_add rfl rfl (by first | exact IntWalk.i64_in _ (by omega) | rfl)) ?_
 refine Yq rfl (by first | exact q_index tb rfl rfl rfl rfl gvo (by omega) (by first | omega | (simp; done) | (simp; omega)) | exact q_indexP tb rfl rfl rfl rfl (by omega) (by omega)) ?_
 refine Yq rfl (q_fieldE tb rfl rfl rfl gvo (by first | omega | (simp; done) | (simp; omega))) ?_
 refine W_nil ?_
 first | refine L_storeFld tb rfl rfl rfl rfl rfl rfl (i := out.length - 1) (o := 1) hel9 (by omega) (by omega) ?_ | (refine L_front1 ?_; refine L_storeFld tb rfl rfl rfl rfl rfl rfl (i := out.length - 1) (o := 1) hel9 (by omega) (by omega) ?_) | (refine L_front2 ?_; refine L_storeFld tb rfl rfl rfl rfl rfl rfl (i := out.length - 1) (o := 1) hel9 (by omega) (by omega) ?_) | (refine L_front3 ?_; refine L_storeFld tb rfl rfl rfl rfl rfl rfl (i := out.length - 1) (o := 1) hel9 (by omega) (by omega) ?_) | (refine L_front4 ?_; refine L_storeFld tb rfl rfl rfl rfl rfl rfl (i := out.length - 1) (o := 1) hel9 (by omega) (by omega) ?_) | (refine L_front5 ?_; refine L_storeFld tb rfl rfl rfl rfl rfl rfl (i := out.length - 1) (o := 1) hel9 (by omega) (by omega) ?_) | (refine L_front6 ?_; refine L_storeFld tb rfl rfl rfl rfl rfl rfl (i := out.length - 1) (o := 1) hel9 (by omega) (by omega) ?_)
 refine L_blk ?_
 refine C_region ?_
 refine Jq (q_field tb rfl rfl rfl) ?_
 refine Jq (q_load tb rfl rfl bxo rfl) ?_
 refine Jq (q_move rfl) ?_
 refine Jq (q_assign rfl) ?_
 refine Jq (q_assign rfl) ?_
 refine L_blk ?_
 refine C_region ?_
 refine Jq (q_add rfl rfl (by first | exact IntWalk.i64_in _ (by omega) | rfl)) ?_
 refine Jq (q_move rfl) ?_
 refine L_end ?_
 have e9 := sp_bump (s := y.s) (by omega) hp9
 exact fun ac_ wo_ hs_ => ⟨(k + 1, y.d, true, bump out y.s, s9), ⟨by dsimp only; omega, stW_s hys hob, fun _ => by dsimp only; rw [bump_len]; omega, by dsimp only; rw [bump_len]; omega, by dsimp only; rw [← hf, hst1]; exact (stp_1 he h13).symm⟩, (by dsimp only; omega), hs_.weak ⟨rfl, rfl, rfl, rfl, (show some (Value.bool (decide (y.d = d))) = some (Value.bool true) by rw [decide_eq_true h13]), rfl, rfl, rfl, trivial⟩ (fun h_ => h_.pk (by repeat (first | with_reducible exact pk_nil | refine pk_box (by first | rfl | exact e9) ?_ | refine pk_rd rfl ?_ | refine pk_sl (by first | rfl | exact e9) ?_ | with_reducible refine pk_app ?_ | with_reducible refine pk_app0 ?_ | with_reducible refine pk_app0L ?_ | with_reducible exact pk_tl | refine pk_var ?_)))⟩
 have hst0 : st9 = false := h36
 refine C_seq ?_
 refine C_region ?_
 refine Jq (q_move rfl) ?_
 refine Jq (q_assign rfl) ?_
 refine L_then ?_
 refine C_dec rfl (fun h53 => ?_) (fun h53 => ?_)
 refine C_region ?_
 refine Jq (q_move rfl) ?_
 refine Jq (q_move rfl) ?_
 refine Jq (q_field tb rfl rfl rfl) ?_
 refine Jq (q_load tb rfl rfl bxo rfl) ?_
 refine Jq (by first | exact q_build tb rfl rfl rfl rfl | exact q_buildArr tb rfl rfl rfl rfl rfl) ?_
 refine L_mk (lo_bslice tb rfl rfl rfl (xs := [cSp (d, y.s)]) rfl rfl (by simp [cSp]) rfl (by omega) rfl) rfl rfl rfl fun v60 => ?_
 refine L_ap tb rfl rfl rfl rfl gvo (by simp [Value.oneCell', cSp]) (by simp [maxLen]; omega) (by simp; omega) fun v61 => ?_
 refine Jq (q_assign rfl) ?_
 refine L_blk ?_
 refine C_region ?_
 refine Jq (q_field tb rfl rfl rfl) ?_
 refine Jq (q_load tb rfl rfl bxo rfl) ?_
 refine Jq (q_move rfl) ?_
 refine Jq (q_assign rfl) ?_
 refine Jq (q_assign rfl) ?_
 refine L_blk ?_
 refine C_region ?_
 refine Jq (q_add rfl rfl (by first | exact IntWalk.i64_in _ (by omega) | rfl)) ?_
 refine Jq (q_move rfl) ?_
 refine L_end ?_
 have e9 := sp_snoc out (d, y.s)
 exact fun ac_ wo_ hs_ => ⟨(k + 1, y.d, true, out ++ [(d, y.s)], v61), ⟨by dsimp only; omega, stW_a hys hob, fun _ => by simp, by dsimp only; rw [List.length_append, List.length_singleton]; omega, by dsimp only; rw [← hf, hst0]; exact (stp_2 he h13).symm⟩, (by dsimp only; omega), hs_.weak ⟨rfl, rfl, rfl, rfl, (show some (Value.bool (decide (y.d = d))) = some (Value.bool true) by rw [decide_eq_true h13]), rfl, rfl, rfl, trivial⟩ (fun h_ => h_.pk (by repeat (first | with_reducible exact pk_nil | refine pk_box (by first | rfl | exact e9) ?_ | refine pk_rd rfl ?_ | refine pk_sl (by first | rfl | exact e9) ?_ | with_reducible refine pk_app ?_ | with_reducible refine pk_app0 ?_ | with_reducible refine pk_app0L ?_ | with_reducible exact pk_tl | refine pk_var ?_)))⟩
 exact absurd h13 h53
 refine Jk ?_
 refine Jq (q_pickF rfl rfl) ?_
 refine Jq (q_assign rfl) ?_
 refine L_then ?_
 refine C_false rfl ?_
 refine C_seq ?_
 refine C_region ?_
 refine Jq (q_move rfl) ?_
 refine Jq (q_assign rfl) ?_
 refine L_then ?_
 refine C_dec rfl (fun h53 => ?_) (fun h53 => ?_)
 exact absurd h53 h13
 refine C_skip_blk ?_
 refine C_region ?_
 refine Jq (q_field tb rfl rfl rfl) ?_
 refine Jq (q_load tb rfl rfl bxo rfl) ?_
 refine Jq (q_move rfl) ?_
 refine Jq (q_assign rfl) ?_
 refine Jq (q_assign rfl) ?_
 refine L_blk ?_
 refine C_region ?_
 refine Jq (q_add rfl rfl (by first | exact IntWalk.i64_in _ (by omega) | rfl)) ?_
 refine Jq (q_move rfl) ?_
 refine L_end ?_
 exact fun ac_ wo_ hs_ => ⟨(k + 1, y.d, false, out, s9), ⟨by dsimp only; omega, stW_n hob, fun h => (by cases h), by dsimp only; omega, by dsimp only; rw [← hf]; exact (stp_3 he h13).symm⟩, (by dsimp only; omega), hs_.weak ⟨rfl, rfl, rfl, rfl, (show some (Value.bool (decide (y.d = d))) = some (Value.bool false) by rw [decide_eq_false h13]), rfl, rfl, rfl, trivial⟩ (fun h => h.pk (by repeat (first | with_reducible exact pk_nil | refine pk_box rfl ?_ | refine pk_rd rfl ?_ | refine pk_sl rfl ?_ | with_reducible refine pk_app ?_ | with_reducible refine pk_app0 ?_ | with_reducible refine pk_app0L ?_ | with_reducible exact pk_tl | refine pk_var ?_)))⟩
 refine C_exit ?_
 change C Tryz.prog _ _ _ _ _ _ _
 refine C_seq ?_
 refine C_region ?_
 refine Jq (q_move rfl) ?_
 refine Jq (q_assign rfl) ?_
 refine Jq (q_assign rfl) ?_
 refine L_then ?_
 refine C_ret ?_
 have e9 : out = stpA x L := by unfold stpA; rw [← hf]; exact (stp_4 (by omega)).symm
 rw [← e9]
 exact ret_of (rs' := [sl s9 105 2 (out.map cSp)]) (res2 rfl rfl rfl) (fun w_ h_ => h_.pk (by repeat (first | with_reducible exact pk_nil | refine pk_box rfl ?_ | refine pk_rd rfl ?_ | refine pk_sl rfl ?_ | with_reducible refine pk_app ?_ | with_reducible refine pk_app0 ?_ | with_reducible refine pk_app0L ?_ | with_reducible exact pk_tl | refine pk_var ?_))) own1 ⟨_, rfl, rfl⟩
theorem ct_shotlineref04_StopsOf (v u z : Value) (x : Asc) (a b : Value) (L : List Dl) (F : List Int) (hS : okSch L F) : Ct Tryz.prog 64 [.agg (cAt v u z x).toArray, .agg #[a, b]] [(a, 3, L.map cDl)] (isSl 105 2 ((stpA x L).map cSp)) := by
 refine Ct.of (N := 55) Tryz.func64 rfl rfl rfl fun w => ?_
 refine C_weak (E' := [(0, .agg (cAt v u z x).toArray), (1, .agg #[a, b])]) (rs' := [rd a 3 (L.map cDl)]) ⟨rfl, rfl, trivial⟩ (fun _ h => h) ?_
 have hl4 := len_map cDl L
 have hl5 := len_map cI F
 have hSn := hS.n; have hSl := hS.l
 refine C_seq ?_
 refine C_region ?_
 refine L_box rfl rfl rfl fun g2 => ?_
 refine L_box rfl rfl rfl fun g3 => ?_
 refine Jq (q_assign rfl) ?_
 refine L_then ?_
 refine C_seq ?_
 refine C_region ?_
 refine Jq (q_assign rfl) ?_
 refine L_then ?_
 refine C_seq ?_
 refine C_region ?_
 refine Jq (q_field tb rfl rfl rfl) ?_
 refine Jq (q_load tb rfl rfl bxo rfl) ?_
 refine Jq (q_assign rfl) ?_
 refine Jq (q_assign rfl) ?_
 refine L_then ?_
 refine C_seq ?_
 refine C_seq ?_
 refine C_region ?_
 refine Jq (q_assign rfl) ?_
 refine L_then ?_
 refine C_block ?_
 refine C_nil 105 2 ?_
 refine C_res (rs' := [sl (.slice none 0 0) 105 2 (([] : List (Int × Int)).map cSp), box g3 74 [a, b], rd a 3 (L.map cDl)]) (fun _ h_ => h_.pk (by repeat (first | with_reducible exact pk_nil | refine pk_box rfl ?_ | refine pk_rd rfl ?_ | refine pk_sl rfl ?_ | with_reducible refine pk_app ?_ | with_reducible refine pk_app0 ?_ | with_reducible refine pk_app0L ?_ | with_reducible exact pk_tl | refine pk_var ?_))) ?_
 refine C_loop (ι := Nat × Int × Bool × List (Int × Int) × Value) (fun q => ([(2, .pointer (some ⟨g2, 0, none⟩)), (3, .pointer (some ⟨g3, 0, none⟩)), (5, q.2.2.2.2), (6, .int .i64 q.2.1), (7, .bool q.2.2.1), (8, .int .i64 (q.1 : Int))], [sl q.2.2.2.2 105 2 (q.2.2.2.1.map cSp), box g3 74 [a, b], rd a 3 (L.map cDl)])) (fun q => q.1 ≤ L.length ∧ (∀ p ∈ q.2.2.2.1, stW q.1 p) ∧ (q.2.2.1 = true → 1 ≤ q.2.2.2.1.length) ∧ q.2.2.2.1.length ≤ q.1 ∧ stpF (L.drop q.1) q.2.1 q.2.2.1 q.2.2.2.1 = stpF L x.de false []) (fun q => L.length - q.1) (0, x.de, false, [], .slice none 0 0) ⟨Nat.zero_le _, stW_0 0, fun h => (by cases h), Nat.le_refl _, rfl⟩ (fun a w hs => hs.weak ⟨rfl, rfl, rfl, rfl, rfl, rfl, trivial⟩ (fun h => h.pk (by repeat (first | with_reducible exact pk_nil | refine pk_box rfl ?_ | refine pk_rd rfl ?_ | refine pk_sl rfl ?_ | with_reducible refine pk_app ?_ | with_reducible refine pk_app0 ?_ | with_reducible refine pk_app0L ?_ | with_reducible exact pk_tl | refine pk_var ?_)))) ?_
 rintro ⟨k, d, st9, out, s9⟩ ⟨hk, hob, hst9, hol, hf⟩
 dsimp only at hk hob hst9 hol hf ⊢
 have hlo := len_map cSp out
 refine C_seq ?_
 refine C_seq ?_
 refine C_region ?_
 refine Jq (q_move rfl) ?_
 refine Jq (q_field tb rfl rfl rfl) ?_
 refine Jq (q_load tb rfl rfl bxo rfl) ?_
 refine Jq (q_len tb rfl rfl gvo) ?_
 refine Jq (q_lss rfl rfl) ?_
 refine L_then ?_
 refine C_dec rfl (fun h1 => ?_) (fun h1 => ?_)
 obtain ⟨y, f, he, hf9, han⟩ := sch_at hS (k := k) (by omega); have hel := map_get cDl he; have hef := map_get cI hf9; have hys : 0 ≤ y.s ∧ y.s ≤ 100000 := (by have := han.1; omega)
 refine C_skip_then ?_
 refine C_seq ?_
 refine C_block ?_
 refine C_seq ?_
 refine C_region ?_
 refine Jq (q_field tb rfl rfl rfl) ?_
 refine Jq (q_load tb rfl rfl bxo rfl) ?_
 refine Jq (q_move rfl) ?_
 refine Jq (by first | exact q_index tb rfl rfl rfl rfl gvo (by omega) (by first | omega | (simp; done) | (simp; omega)) | exact q_indexP tb rfl rfl rfl rfl (by omega) (by omega)) ?_
 refine Jq (q_loadEA tb rfl rfl gvo (i := k) (o := 0) (by omega) hel rfl rfl) ?_
 refine L_alloc tb rfl rfl fun g9 => ?_
 refine L_st tb rfl rfl ?_
 refine L_then ?_
 refine C_seq ?_
 refine C_seq ?_
 refine C_region ?_
 refine Jq (q_field tb rfl rfl rfl) ?_
 refine Jq (q_load tb rfl rfl bxo rfl) ?_
 refine Jq (q_move rfl) ?_
 refine Jq (q_neq rfl rfl) ?_
 refine L_then ?_
 refine C_dec rfl (fun h13 => ?_) (fun h13 => ?_)
 refine C_seq ?_
 refine C_region ?_
 refine Jq (q_field tb rfl rfl rfl) ?_
 refine Jq (q_load tb rfl rfl bxo rfl) ?_
 refine Jq (q_assign rfl) ?_
 refine Jq (q_assign rfl) ?_
 refine L_then ?_
 refine C_exit ?_
 change C Tryz.prog _ _ _ _ _ _ _
 refine C_region ?_
 refine Jq (q_move rfl) ?_
 refine Jq (q_add rfl rfl (by first | exact IntWalk.i64_in _ (by omega) | rfl)) ?_
 refine Jq (q_assign rfl) ?_
 refine L_end ?_
 exact fun ac_ wo_ hs_ => ⟨(k + 1, y.d, false, out, s9), ⟨by dsimp only; omega, stW_n hob, fun h => (by cases h), by dsimp only; omega, by dsimp only; rw [← hf]; exact (stp_3 he h13).symm⟩, (by dsimp only; omega), hs_.weak ⟨rfl, rfl, rfl, rfl, rfl, rfl, trivial⟩ (fun h => h.pk (by repeat (first | with_reducible exact pk_nil | refine pk_box rfl ?_ | refine pk_rd rfl ?_ | refine pk_sl rfl ?_ | with_reducible refine pk_app ?_ | with_reducible refine pk_app0 ?_ | with_reducible refine pk_app0L ?_ | with_reducible exact pk_tl | refine pk_var ?_)))⟩
 have h13 := Decidable.not_not.1 h13
 refine C_skip_then ?_
 refine C_seq ?_
 refine C_seq ?_
 refine C_region ?_
 refine Jq (q_move rfl) ?_
 refine L_then ?_
 refine C_bool rfl (fun h36 => ?_) (fun h36 => ?_)
 have hst1 : st9 = true := h36
 have hst9 := hst9 hst1
 obtain ⟨p9, hp9⟩ := get_some out (k := out.length - 1) (by omega); have hel9 := map_get cSp hp9; have hpb := hob p9 (List.mem_of_getElem? hp9); unfold stW at hpb
 refine C_draw (n := 16) [(0, false), (1, false), (2, false), (3, false), (4, false), (5, false), (6, false), (7, false), (8, false), (9, false), (10, false), (11, false), (12, false), (13, false), (14, false), (15, false)] mixed (by kernel_rfl) ?_
 refine Yq rfl (q_move rfl) ?_
 refine Yq rfl (q_move rfl) ?_
 refine Yq rfl (q_len tb rfl rfl gvo) ?_
 refine Yq rfl (q_sub rfl rfl (by first | exact IntWalk.i64_in _ (by omega) | rfl)) ?_
 refine Yq rfl (q_move rfl) ?_
 refine Yq rfl (q_move rfl) ?_
 refine Yq rfl (q_len tb rfl rfl gvo) ?_
 refine Yq rfl (q_sub rfl rfl (by first | exact IntWalk.i64_in _ (by omega) | rfl)) ?_
 refine Yq rfl (by first | exact q_index tb rfl rfl rfl rfl gvo (by omega) (by first | omega | (simp; done) | (simp; omega)) | exact q_indexP tb rfl rfl rfl rfl (by omega) (by omega)) ?_
 refine Yq rfl (q_fieldE tb rfl rfl rfl gvo (by first | omega | (simp; done) | (simp; omega))) ?_
 refine Yq rfl (q_loadE tb rfl rfl gvo (i := out.length - 1) (o := 1) (by omega) hel9 rfl) ?_
 refine Yq rfl (q_field tb rfl rfl rfl) ?_
 refine Yq rfl (q_load tb rfl rfl bxo rfl) ?_
 refine Yq rfl (q_add rfl rfl (by first | exact IntWalk.i64_in _ (by omega) | rfl)) ?_
 refine Yq rfl (by first | exact q_index tb rfl rfl rfl rfl gvo (by omega) (by first | omega | (simp; done) | (simp; omega)) | exact q_indexP tb rfl rfl rfl rfl (by omega) (by omega)) ?_
 refine Yq rfl (q_fieldE tb rfl rfl rfl gvo (by first | omega | (simp; done) | (simp; omega))) ?_
 refine W_nil ?_
 first | refine L_storeFld tb rfl rfl rfl rfl rfl rfl (i := out.length - 1) (o := 1) hel9 (by omega) (by omega) ?_ | (refine L_front1 ?_; refine L_storeFld tb rfl rfl rfl rfl rfl rfl (i := out.length - 1) (o := 1) hel9 (by omega) (by omega) ?_) | (refine L_front2 ?_; refine L_storeFld tb rfl rfl rfl rfl rfl rfl (i := out.length - 1) (o := 1) hel9 (by omega) (by omega) ?_) | (refine L_front3 ?_; refine L_storeFld tb rfl rfl rfl rfl rfl rfl (i := out.length - 1) (o := 1) hel9 (by omega) (by omega) ?_) | (refine L_front4 ?_; refine L_storeFld tb rfl rfl rfl rfl rfl rfl (i := out.length - 1) (o := 1) hel9 (by omega) (by omega) ?_) | (refine L_front5 ?_; refine L_storeFld tb rfl rfl rfl rfl rfl rfl (i := out.length - 1) (o := 1) hel9 (by omega) (by omega) ?_) | (refine L_front6 ?_; refine L_storeFld tb rfl rfl rfl rfl rfl rfl (i := out.length - 1) (o := 1) hel9 (by omega) (by omega) ?_)
 refine L_then ?_
 refine C_region ?_
 refine Jq (q_assign rfl) ?_
 refine L_blk ?_
 refine C_region ?_
 refine Jq (q_move rfl) ?_
 refine Jq (q_add rfl rfl (by first | exact IntWalk.i64_in _ (by omega) | rfl)) ?_
 refine Jq (q_assign rfl) ?_
 refine L_end ?_
 have e9 := sp_bump (s := y.s) (by omega) hp9
 exact fun ac_ wo_ hs_ => ⟨(k + 1, y.d, true, bump out y.s, s9), ⟨by dsimp only; omega, stW_s hys hob, fun _ => by dsimp only; rw [bump_len]; omega, by dsimp only; rw [bump_len]; omega, by dsimp only; rw [← hf, hst1]; exact (stp_1 he h13).symm⟩, (by dsimp only; omega), hs_.weak ⟨rfl, rfl, rfl, en (by dsimp only; omega), rfl, rfl, trivial⟩ (fun h_ => h_.pk (by repeat (first | with_reducible exact pk_nil | refine pk_box (by first | rfl | exact e9) ?_ | refine pk_rd rfl ?_ | refine pk_sl (by first | rfl | exact e9) ?_ | with_reducible refine pk_app ?_ | with_reducible refine pk_app0 ?_ | with_reducible refine pk_app0L ?_ | with_reducible exact pk_tl | refine pk_var ?_)))⟩
 have hst0 : st9 = false := h36
 refine C_region ?_
 refine Jq (q_move rfl) ?_
 refine Jq (q_move rfl) ?_
 refine Jq (q_field tb rfl rfl rfl) ?_
 refine Jq (q_load tb rfl rfl bxo rfl) ?_
 refine Jq (by first | exact q_build tb rfl rfl rfl rfl | exact q_buildArr tb rfl rfl rfl rfl rfl) ?_
 refine L_mk (lo_bslice tb rfl rfl rfl (xs := [cSp (d, y.s)]) rfl rfl (by simp [cSp]) rfl (by omega) rfl) rfl rfl rfl fun v52 => ?_
 refine L_ap tb rfl rfl rfl rfl gvo (by simp [Value.oneCell', cSp]) (by simp [maxLen]; omega) (by simp; omega) fun v53 => ?_
 refine Jq (q_assign rfl) ?_
 refine L_then ?_
 refine C_region ?_
 refine Jq (q_assign rfl) ?_
 refine L_blk ?_
 refine C_region ?_
 refine Jq (q_move rfl) ?_
 refine Jq (q_add rfl rfl (by first | exact IntWalk.i64_in _ (by omega) | rfl)) ?_
 refine Jq (q_assign rfl) ?_
 refine L_end ?_
 have e9 := sp_snoc out (d, y.s)
 exact fun ac_ wo_ hs_ => ⟨(k + 1, y.d, true, out ++ [(d, y.s)], v53), ⟨by dsimp only; omega, stW_a hys hob, fun _ => by simp, by dsimp only; rw [List.length_append, List.length_singleton]; omega, by dsimp only; rw [← hf, hst0]; exact (stp_2 he h13).symm⟩, (by dsimp only; omega), hs_.weak ⟨rfl, rfl, rfl, en (by dsimp only; omega), rfl, rfl, trivial⟩ (fun h_ => h_.pk (by repeat (first | with_reducible exact pk_nil | refine pk_box (by first | rfl | exact e9) ?_ | refine pk_rd rfl ?_ | refine pk_sl (by first | rfl | exact e9) ?_ | with_reducible refine pk_app ?_ | with_reducible refine pk_app0 ?_ | with_reducible refine pk_app0L ?_ | with_reducible exact pk_tl | refine pk_var ?_)))⟩
 refine C_exit ?_
 change C Tryz.prog _ _ _ _ _ _ _
 refine C_seq ?_
 refine C_region ?_
 refine Jq (q_move rfl) ?_
 refine Jq (q_assign rfl) ?_
 refine L_then ?_
 refine C_ret ?_
 have e9 : out = stpA x L := by unfold stpA; rw [← hf]; exact (stp_4 (by omega)).symm
 rw [← e9]
 exact ret_of (rs' := [sl s9 105 2 (out.map cSp)]) (res1 rfl rfl) (fun w_ h_ => h_.pk (by repeat (first | with_reducible exact pk_nil | refine pk_box rfl ?_ | refine pk_rd rfl ?_ | refine pk_sl rfl ?_ | with_reducible refine pk_app ?_ | with_reducible refine pk_app0 ?_ | with_reducible refine pk_app0L ?_ | with_reducible exact pk_tl | refine pk_var ?_))) own1 rfl
theorem ct_shotlineref04_Following (v u z : Value) (x : Asc) (a b : Value) (L : List Dl) (F : List Int) (H : okAsc x) (hS : okSch L F) : Ct Tryz.prog 65 [.agg (cAt v u z x).toArray, .agg #[a, b]] [(v, 4, x.ts.map cCp), (u, 4, x.ls.map cLd), (z, 3, x.gs.map cAg), (a, 3, L.map cDl)] (FlrP 28 139 v z x L (flwF x L)) := by
 refine Ct.of (N := 38) Tryz.func65 rfl rfl rfl fun w => ?_
 refine C_weak (E' := [(0, .agg (cAt v u z x).toArray), (1, .agg #[a, b])]) (rs' := [rd v 4 (x.ts.map cCp), rd u 4 (x.ls.map cLd), rd z 3 (x.gs.map cAg), rd a 3 (L.map cDl)]) ⟨rfl, rfl, trivial⟩ (fun _ h => h) ?_
 have hl1 := len_map cCp x.ts
 have hl2 := len_map cLd x.ls
 have hl3 := len_map cAg x.gs
 have hde := H.de; have hsu := H.su; have hbl := beh_len H; have hrs := H.r.st; have hrf := H.r.fi
 refine C_form (v := v) gvo (fun Av cv hv _ => ?_)
 subst hv
 refine C_form (v := u) gvo (fun Au cu hu _ => ?_)
 subst hu
 refine C_form (v := z) gvo (fun Az cz hz _ => ?_)
 subst hz
 have hl4 := len_map cDl L
 have hl5 := len_map cI F
 have hSn := hS.n; have hSl := hS.l
 refine C_seq ?_
 refine C_region ?_
 refine L_box rfl rfl rfl fun g2 => ?_
 refine L_box rfl rfl rfl fun g3 => ?_
 refine Jq (q_assign rfl) ?_
 refine Jq (q_assign rfl) ?_
 refine L_then ?_
 refine C_seq ?_
 refine C_region ?_
 refine Jq (q_assign rfl) ?_
 refine L_then ?_
 refine C_seq ?_
 refine C_seq ?_
 refine C_region ?_
 refine Jq (q_assign rfl) ?_
 refine L_then ?_
 refine C_block ?_
 refine C_nil 28 12 ?_
 refine C_res (rs' := (sl (.slice none 0 0) 28 12 (tkC x L (([] : List Value).map fun u => ((.slice Av (x.ts.map cCp).length cv), u, (.slice Az (x.gs.map cAg).length cz)))) :: box g2 28 (cAt (.slice Av (x.ts.map cCp).length cv) (.slice Au (x.ls.map cLd).length cu) (.slice Az (x.gs.map cAg).length cz) (behA x L 0)) :: rd (.slice Av (x.ts.map cCp).length cv) 4 ((behA x L 0).ts.map cCp) :: rd (.slice Az (x.gs.map cAg).length cz) 3 ((behA x L 0).gs.map cAg) :: box g3 74 [a, b] :: rd a 3 (L.map cDl) :: rd (.slice Au (x.ls.map cLd).length cu) 4 (x.ls.map cLd) :: [])) (fun _ h_ => h_.pk (by repeat (first | with_reducible exact pk_nil | refine pk_box rfl ?_ | refine pk_rd rfl ?_ | refine pk_sl rfl ?_ | with_reducible refine pk_app ?_ | with_reducible refine pk_app0 ?_ | with_reducible refine pk_app0L ?_ | with_reducible exact pk_tl | refine pk_var ?_))) ?_
 refine C_loop (ι := Nat × Value × List Value × Value) (fun q => ([(2, .pointer (some ⟨g2, 0, none⟩)), (3, .pointer (some ⟨g3, 0, none⟩)), (6, q.2.2.2), (7, .int .i64 (q.1 : Int))], (sl q.2.2.2 28 12 (tkC x L (q.2.2.1.map fun u => ((.slice Av (x.ts.map cCp).length cv), u, (.slice Az (x.gs.map cAg).length cz)))) :: box g2 28 (cAt (.slice Av (x.ts.map cCp).length cv) q.2.1 (.slice Az (x.gs.map cAg).length cz) (behA x L q.1)) :: rd (.slice Av (x.ts.map cCp).length cv) 4 ((behA x L q.1).ts.map cCp) :: rd (.slice Az (x.gs.map cAg).length cz) 3 ((behA x L q.1).gs.map cAg) :: box g3 74 [a, b] :: rd a 3 (L.map cDl) :: rd (.slice Au (x.ls.map cLd).length cu) 4 (x.ls.map cLd) :: luR 139 x L q.2.2.1))) (fun q => q.1 ≤ L.length ∧ okAsc (behA x L q.1) ∧ flwF (behA x L q.1) (L.drop q.1) = flwF x L ∧ q.2.2.1.length = q.1 ∧ GvR (rd (.slice Au (x.ls.map cLd).length cu) 4 (x.ls.map cLd) :: luR 139 x L q.2.2.1) q.2.1 4 ((behA x L q.1).ls.map cLd)) (fun q => L.length - q.1) (0, (.slice Au (x.ls.map cLd).length cu), [], .slice none 0 0) ⟨Nat.zero_le _, H, rfl, rfl, gr0⟩ (fun a w hs => hs.weak ⟨rfl, rfl, rfl, rfl, trivial⟩ (fun h => h)) ?_
 rintro ⟨k, u9, T, s9⟩ ⟨hk, hX, hf, hTl, hgu⟩
 dsimp only at hk hX hf hTl hgu ⊢
 subst hTl
 obtain ⟨X, hXe⟩ : ∃ X, X = (behA x L T.length) := ⟨_, rfl⟩
 rw [← hXe] at hX hf hgu ⊢
 refine C_form (v := u9) (gv1 (gv1 (gv1 (gv1 (gv1 (gv1 hgu)))))) (fun A9 c9 hv9 _ => ?_)
 subst hv9
 have hXde := hX.de; have hXbl := beh_len hX; have hXst := hX.r.st; have hXgi := gasA_in X X.de
 have htl := tkC_len (x := x) (L := L) (T.map fun u => ((.slice Av (x.ts.map cCp).length cv), u, (.slice Az (x.gs.map cAg).length cz)))
 rw [List.length_map] at htl
 refine C_seq ?_
 refine C_seq ?_
 refine C_region ?_
 refine Jq (q_move rfl) ?_
 refine Jq (q_field tb rfl rfl rfl) ?_
 refine Jq (q_load tb rfl rfl bxo rfl) ?_
 refine Jq (q_len tb rfl rfl gvo) ?_
 refine Jq (q_lss rfl rfl) ?_
 refine L_then ?_
 refine C_dec rfl (fun h1 => ?_) (fun h1 => ?_)
 obtain ⟨y, f, he, hf9, han⟩ := sch_at hS (k := T.length) (by omega); have hel := map_get cDl he; have hef := map_get cI hf9
 refine C_skip_then ?_
 refine C_seq ?_
 refine C_block ?_
 refine C_seq ?_
 refine C_seq ?_
 refine C_draw (n := 7) [(0, false), (1, false), (2, false), (3, false), (4, false), (5, false), (6, true)] mixed (by kernel_rfl) ?_
 refine Yq rfl (q_loadA tb rfl rfl bxo rfl rfl) ?_
 refine Yq rfl (q_field tb rfl rfl rfl) ?_
 refine Yq rfl (q_load tb rfl rfl bxo rfl) ?_
 refine Yq rfl (q_move rfl) ?_
 refine Yq rfl (by first | exact q_index tb rfl rfl rfl rfl gvo (by omega) (by first | omega | (simp; done) | (simp; omega)) | exact q_indexP tb rfl rfl rfl rfl (by omega) (by omega)) ?_
 refine Yq rfl (q_loadEA tb rfl rfl gvo (i := T.length) (o := 0) (by omega) hel rfl rfl) ?_
 refine W_call tb rfl rfl rfl rfl (ct_shotlineref04_LegErr _ _ _ X y hX) (ps_cons gvo no_ps) rfl ?_
 refine W_nil ?_
 refine Jq (q_assign rfl) ?_
 refine L_then ?_
 refine C_seq ?_
 refine C_region ?_
 refine Jq (q_move rfl) ?_
 refine Jq (q_neq rfl rfl) ?_
 refine L_then ?_
 refine C_dec rfl (fun h5 => ?_) (fun h5 => ?_)
 refine C_seq ?_
 refine C_region ?_
 refine Jq (q_move rfl) ?_
 refine Jq (q_assign rfl) ?_
 refine Jq (q_assign rfl) ?_
 refine L_then ?_
 refine C_ret ?_
 have e9 : flwF x L = ckAl X y := by rw [← hf]; exact flw_yes he h5
 rw [e9]
 exact ret_of (rs' := [sl (.slice none 0 0) 28 12 []]) (res2 rfl rfl rfl) (fun w_ h_ => ws_nil (sub_nil w_ h_)) own1 (FlrP_bad h5)
 have hk0 := Decidable.not_not.1 h5
 have hy := (ckAl_ok hk0).1
 have hb : bhA X y = (behA x L (T.length + 1)) := by rw [hXe]; exact (behA_s he).symm
 have hbo := bh_ok hX hy
 refine C_skip_then ?_
 refine C_seq ?_
 refine C_draw (n := 7) [(0, false), (1, false), (2, false), (3, false), (4, false), (5, false), (6, true)] mixed (by kernel_rfl) ?_
 refine Yq rfl (q_loadA tb rfl rfl bxo rfl rfl) ?_
 refine Yq rfl (q_field tb rfl rfl rfl) ?_
 refine Yq rfl (q_load tb rfl rfl bxo rfl) ?_
 refine Yq rfl (q_move rfl) ?_
 refine Yq rfl (by first | exact q_index tb rfl rfl rfl rfl gvo (by omega) (by first | omega | (simp; done) | (simp; omega)) | exact q_indexP tb rfl rfl rfl rfl (by omega) (by omega)) ?_
 refine Yq rfl (q_loadEA tb rfl rfl gvo (i := T.length) (o := 0) (by omega) hel rfl rfl) ?_
 refine W_lo rfl rfl rfl rfl (lo_call tb rfl rfl (ct_shotlineref04_Moved _ _ _ X y hX hy) (ps_cons gvo (ps_cons (by first | exact gv1 (gv1 (gv1 (gv1 (gv1 (hgu))))) | exact gv1 (gv1 (gv1 (gv1 (gv1 (gv1 (hgu)))))) | exact gv1 (gv1 (gv1 (gv1 (gv1 (gv1 (gv1 (hgu))))))) | exact gv1 (gv1 (gv1 (gv1 (gv1 (gv1 (gv1 (gv1 (hgu)))))))) | exact gv1 (gv1 (gv1 (gv1 (gv1 (gv1 (gv1 (gv1 (gv1 (hgu))))))))) | exact gv1 (gv1 (gv1 (gv1 (gv1 (gv1 (gv1 (gv1 (gv1 (gv1 (hgu))))))))))) (ps_cons gvo no_ps))) isBh_sinks) ?_
 rintro _ _ ⟨A32, n32, c32, rfl, rfl⟩
 refine W_nil ?_
 refine L_st tb rfl rfl ?_
 refine L_then ?_
 refine C_region ?_
 refine Jq (q_move rfl) ?_
 refine Jq (q_loadA tb rfl rfl bxo rfl rfl) ?_
 refine L_mk (lo_bslice tb rfl rfl rfl (xs := [cAt (.slice Av (x.ts.map cCp).length cv) (.slice A32 n32 c32) (.slice Az (x.gs.map cAg).length cz) (bhA X y)]) rfl rfl (by simp [cAt]) rfl (by omega) rfl) rfl rfl rfl fun v35 => ?_
 refine L_ap tb rfl rfl rfl rfl gvo (by simp [Value.oneCell', cAt]) (by rw [tkC_len, List.length_map]; simp [maxLen]; omega) (by rw [tkC_len, List.length_map]; simp; omega) fun v36 => ?_
 refine Jq (q_assign rfl) ?_
 refine L_blk ?_
 refine C_region ?_
 refine Jq (q_move rfl) ?_
 refine Jq (q_add rfl rfl (by first | exact IntWalk.i64_in _ (by omega) | rfl)) ?_
 refine Jq (q_assign rfl) ?_
 refine L_end ?_
 have e8 : X.ts.map cCp = (behA x L (T.length + 1)).ts.map cCp := by rw [← hb]; rfl
 have e7 : X.gs.map cAg = (behA x L (T.length + 1)).gs.map cAg := by rw [← hb]; rfl
 rw [hb]
 have e6 := tk_cons (x := x) (L := L) (v := (.slice Av (x.ts.map cCp).length cv)) (w := (.slice Az (x.gs.map cAg).length cz)) (u := .slice A32 n32 c32) (T := T)
 exact fun ac_ wo_ hs_ => ⟨(T.length + 1, .slice A32 n32 c32, .slice A32 n32 c32 :: T, v36), ⟨by dsimp only; omega, hb ▸ bh_ok hX hy, by dsimp only; rw [← hb, ← hf]; exact (flw_no he (fun hh => hh hk0)).symm, rfl, ⟨_, .tail _ (.head _), sl_gives _ _ _ _⟩⟩, (by dsimp only; omega), hs_.weak ⟨rfl, rfl, rfl, rfl, trivial⟩ (fun h_ => (show WS _ _ (sl v36 28 12 (tkC x L ((.slice A32 n32 c32 :: T).map fun u => ((.slice Av (x.ts.map cCp).length cv), u, (.slice Az (x.gs.map cAg).length cz)))) :: box g2 28 (cAt (.slice Av (x.ts.map cCp).length cv) (.slice A32 n32 c32) (.slice Az (x.gs.map cAg).length cz) (behA x L (T.length + 1))) :: rd (.slice Av (x.ts.map cCp).length cv) 4 ((behA x L (T.length + 1)).ts.map cCp) :: rd (.slice Az (x.gs.map cAg).length cz) 3 ((behA x L (T.length + 1)).gs.map cAg) :: box g3 74 [a, b] :: rd a 3 (L.map cDl) :: rd (.slice Au (x.ls.map cLd).length cu) 4 (x.ls.map cLd) :: sl (.slice A32 n32 c32) 139 4 ((behA x L (T.length + 1)).ls.map cLd) :: luR 139 x L T) _ from h_.pk (by repeat (first | with_reducible exact pk_nil | refine pk_box (by first | rfl | exact e6) ?_ | refine pk_rd (by first | rfl | exact e8 | exact e7) ?_ | refine pk_sl (by first | rfl | exact e6) ?_ | with_reducible refine pk_app ?_ | with_reducible refine pk_app0 ?_ | with_reducible refine pk_app0L ?_ | with_reducible exact pk_tl | refine pk_var ?_))))⟩
 refine C_exit ?_
 change C Tryz.prog _ _ _ _ _ _ _
 refine C_seq ?_
 refine C_region ?_
 refine Jq (q_move rfl) ?_
 refine Jq (q_assign rfl) ?_
 refine Jq (q_assign rfl) ?_
 refine L_then ?_
 refine C_ret ?_
 have hlt : T.length = L.length := by omega
 have e9 : flwF x L = 0 := by rw [← hf]; exact flw_end (by omega)
 rw [e9]
 exact ret_of (rs' := sl s9 28 12 (tkC x L (T.map fun u => ((.slice Av (x.ts.map cCp).length cv), u, (.slice Az (x.gs.map cAg).length cz)))) :: luR 139 x L T) (res2 rfl rfl rfl) (fun w_ h_ => h_.pk (by repeat (first | with_reducible exact pk_nil | refine pk_box rfl ?_ | refine pk_rd rfl ?_ | refine pk_sl rfl ?_ | with_reducible refine pk_app ?_ | with_reducible refine pk_app0 ?_ | with_reducible refine pk_app0L ?_ | with_reducible exact pk_tl | refine pk_var ?_))) FlrP_own ⟨_, _, rfl, rfl, by rw [if_pos rfl]; exact hlt⟩
end Go.Proofs.YthilaakeimfedaaGreatDoor
