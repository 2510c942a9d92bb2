/-
  Walks: each function named returns what its model says. Conditions: those in front of each theorem.
-/
import Derived.Test.YtacndicgpkeobaaGreatDoorAP
import Derived.Test.YtacndicgpkeobaaGreatDoorAE
import Derived.Test.YtacndicgpkeobaaGreatDoorAs11
import Derived.Test.YtacndicgpkeobaaGreatDoorAs3
namespace Go.Proofs.YtacndicgpkeobaaGreatDoor
set_option maxRecDepth 100000
set_option maxHeartbeats 4000000
open Go.RowKit

theorem ct_ascent_Print (a b : Value) (L : List Dl) (F : List Int) (hla : L.length ≤ 1000000) (hlb : F.length ≤ 1000000) : CtQ KQ Tryz.prog 42 [.agg #[a, b]] [(a, 3, L.map cDl), (b, 1, F.map cI)] (isV (.tuple #[.string (bs (prE L F)), .int .i64 (ckSch L F)])) := by
 refine CtQ.of (N := 47) Tryz.func42 rfl rfl rfl fun w hQ => ?_
 refine C_weak (E' := [(0, .agg #[a, b])]) (rs' := [rd a 3 (L.map cDl), rd b 1 (F.map cI)]) ⟨rfl, trivial⟩ (fun _ h => h) ?_
 have hl4 := len_map cDl L
 have hl5 := len_map cI F
 refine C_seq ?_
 refine C_region ?_
 refine L_box rfl rfl rfl fun g1 => ?_
 refine Jq (q_assign rfl) ?_
 refine Jq (q_assign rfl) ?_
 refine L_then ?_
 refine C_seq ?_
 refine C_seq ?_
 refine C_region ?_
 refine Jq (q_loadA tb rfl rfl bxo rfl rfl) ?_
 refine L_call tb rfl rfl (ct_ascent_checkAlone _ _ L F (by omega) (by omega)) (ps_cons gvo (ps_cons gvo no_ps)) rfl ?_
 refine Jq (q_assign rfl) ?_
 refine L_then ?_
 refine C_seq ?_
 refine C_region ?_
 refine Jq (q_move rfl) ?_
 refine Jq (q_neq rfl rfl) ?_
 refine L_then ?_
 refine C_dec rfl (fun h1 => ?_) (fun h1 => ?_)
 refine C_seq ?_
 refine C_region ?_
 refine Jq (q_move rfl) ?_
 refine Jq (q_assign rfl) ?_
 refine Jq (q_assign rfl) ?_
 refine L_then ?_
 refine C_ret ?_
 rw [prE_1 h1]
 exact ret_of (res2 rfl rfl rfl) sub_nil (by intro r hr; cases hr) ⟨rfl, rfl⟩
 have hz := Decidable.not_not.1 h1
 have hS := ckSch_ok hz
 have hSn := hS.n; have hSl := hS.l
 refine C_skip_then ?_
 refine C_seq ?_
 refine C_region ?_
 refine L_alloc tb rfl rfl fun g5 => ?_
 refine L_then ?_
 refine C_seq ?_
 refine C_seq ?_
 refine C_region ?_
 refine Jq (q_field tb rfl rfl rfl) ?_
 refine Jq (q_load tb rfl rfl bxo rfl) ?_
 refine Jq (q_len tb rfl rfl gvo) ?_
 refine Jq (q_move rfl) ?_
 refine L_then ?_
 refine C_block ?_
 refine C_nil 5 1 ?_
 refine C_loop (ι := Nat × Value × Value) (fun q => ([(1, .pointer (some ⟨g1, 0, none⟩)), (5, .pointer (some ⟨g5, 0, none⟩)), (16, a), (17, .int .i64 (L.map cDl).length), (18, .int .i64 (q.1 : Int))], [box g5 138 [q.2.1, q.2.2], sl q.2.2 5 1 ((prK L F q.1).map cU), box g1 80 [a, b], rd a 3 (L.map cDl), rd b 1 (F.map cI)])) (fun q => q.1 ≤ L.length ∧ (q.2.1 = .pointer none ∨ q.2.1 = .pointer (some ⟨g5, 0, none⟩))) (fun q => L.length - q.1) (0, .pointer none, .slice none 0 0) ⟨Nat.zero_le _, .inl rfl⟩ (fun a w hs => hs.weak ⟨rfl, rfl, rfl, rfl, rfl, trivial⟩ (fun h => h.pk (by repeat (first | with_reducible exact pk_nil | refine pk_box rfl ?_ | refine pk_rd rfl ?_ | refine pk_sl rfl ?_ | with_reducible refine pk_app ?_ | with_reducible refine pk_app0 ?_ | with_reducible refine pk_app0L ?_ | with_reducible exact pk_tl | refine pk_var ?_)))) ?_
 rintro ⟨k, p9, v9⟩ ⟨hk, hp⟩
 dsimp only at hk hp ⊢
 have hpk := prK_len hS k hk
 refine C_seq ?_
 refine C_region ?_
 refine Jq (q_lss rfl rfl) ?_
 refine L_then ?_
 refine C_seq ?_
 refine C_dec rfl (fun h2 => ?_) (fun h2 => ?_)
 obtain ⟨y, f, he, hf9, han⟩ := sch_at hS (k := k) (by omega); have hel := map_get cDl he; have hef := map_get cI hf9
 refine C_skip_then ?_
 refine C_seq ?_
 refine C_block ?_
 refine C_seq ?_
 refine C_region ?_
 refine Jq (q_move rfl) ?_
 refine Jq (by first | exact q_index tb rfl rfl rfl rfl gvo (by omega) (by first | omega | (simp; done) | (simp; omega)) | exact q_indexP tb rfl rfl rfl rfl (by omega) (by omega)) ?_
 refine Jq (q_loadEA tb rfl rfl gvo (i := k) (o := 0) (by omega) hel rfl rfl) ?_
 refine L_alloc tb rfl rfl fun g7 => ?_
 refine Jq (q_assign rfl) ?_
 refine L_st tb rfl rfl ?_
 refine L_then ?_
 refine C_seq ?_
 refine C_region ?_
 refine L_res (rs' := [box g5 138 [p9, v9], sl v9 5 1 ((prK L F k).map cU), box g7 117 (cDl y), box g1 80 [a, b], rd a 3 (L.map cDl), rd b 1 (F.map cI)]) (fun _ h_ => h_.pk (by repeat (first | with_reducible exact pk_nil | refine pk_box rfl ?_ | refine pk_rd rfl ?_ | refine pk_sl rfl ?_ | with_reducible refine pk_app ?_ | with_reducible refine pk_app0 ?_ | with_reducible refine pk_app0L ?_ | with_reducible exact pk_tl | refine pk_var ?_))) ?_
 refine L_callI tb (post := fun _ rs9 => ∃ A n c, rs9 = box g5 138 [.pointer (some ⟨g5, 0, none⟩), .slice A n c] :: sl (.slice A n c) 5 1 ((prK L F k ++ [108, 101, 103]).map cU) :: [box g7 117 (cDl y), box g1 80 [a, b], rd a 3 (L.map cDl), rd b 1 (F.map cI)]) rfl rfl rfl (ct_WriteString _ _ _ g5 p9 v9 (prK L F k) hp [108, 101, 103] (by rw [show ([108, 101, 103] : List UInt8).length = 3 from rfl]; omega)) (fun y9 rs9 hy9 => ?_)
 obtain ⟨A23, n23, c23, rfl⟩ := hy9
 refine L_then ?_
 refine C_seq ?_
 refine C_seq ?_
 refine C_draw (n := 13) [(0, false), (1, false), (2, false), (3, false), (4, false), (5, false), (6, false), (7, false), (8, false), (9, false), (10, false), (11, false), (12, false)] mixed (by kernel_rfl) ?_
 refine Yq rfl (q_field tb rfl rfl rfl) ?_
 refine Yq rfl (q_load tb rfl rfl bxo rfl) ?_
 refine Yq rfl (q_field tb rfl rfl rfl) ?_
 refine Yq rfl (q_load tb rfl rfl bxo rfl) ?_
 refine Yq rfl (q_field tb rfl rfl rfl) ?_
 refine Yq rfl (q_load tb rfl rfl bxo rfl) ?_
 refine Yq rfl (q_field tb rfl rfl rfl) ?_
 refine Yq rfl (q_load tb rfl rfl bxo rfl) ?_
 refine Yq rfl (q_move rfl) ?_
 refine Yq rfl (by first | exact q_index tb rfl rfl rfl rfl gvo (by omega) (by first | omega | (simp; done) | (simp; omega)) | exact q_indexP tb rfl rfl rfl rfl (by omega) (by omega)) ?_
 refine Yq rfl (q_loadE tb rfl rfl gvo (i := k) (o := 0) (by omega) hef rfl) ?_
 refine Yq rfl (by first | exact q_build tb rfl rfl rfl rfl | exact q_buildArr tb rfl rfl rfl rfl rfl) ?_
 refine Yq rfl (q_move rfl) ?_
 refine W_nil ?_
 refine L_then ?_
 refine C_block ?_
 refine C_loop (ι := Nat × Value) (fun q => ([(1, .pointer (some ⟨g1, 0, none⟩)), (5, .pointer (some ⟨g5, 0, none⟩)), (16, a), (17, .int .i64 (L.map cDl).length), (18, .int .i64 (k : Int)), (35, .agg (cNum y f).toArray), (36, .int .i64 (q.1 : Int))], [box g5 138 [.pointer (some ⟨g5, 0, none⟩), q.2], sl q.2 5 1 ((prK L F k ++ ptJ y f q.1).map cU), box g1 80 [a, b], rd a 3 (L.map cDl), rd b 1 (F.map cI)])) (fun q => q.1 ≤ 4) (fun q => 4 - q.1) (0, .slice A23 n23 c23) (Nat.zero_le _) (fun a w hs => hs.weak ⟨rfl, rfl, rfl, rfl, rfl, rfl, rfl, trivial⟩ (fun h => h.pk (by repeat (first | with_reducible exact pk_nil | refine pk_box rfl ?_ | refine pk_rd rfl ?_ | refine pk_sl rfl ?_ | with_reducible refine pk_app ?_ | with_reducible refine pk_app0 ?_ | with_reducible refine pk_app0L ?_ | with_reducible exact pk_tl | refine pk_var ?_)))) ?_
 rintro ⟨j, u9⟩ hj
 dsimp only at hj ⊢
 have hpj := ptJ_len han j; have hnl := num_len han j
 refine C_seq ?_
 refine C_region ?_
 refine Jq (q_lss rfl rfl) ?_
 refine L_then ?_
 refine C_seq ?_
 refine C_dec rfl (fun h3 => ?_) (fun h3 => ?_)
 refine C_skip_then ?_
 refine C_seq ?_
 refine C_block ?_
 refine C_seq ?_
 refine C_region ?_
 refine Jq (q_indexV tb rfl rfl rfl rfl (by omega) (by omega) (num_cell y f (by omega))) ?_
 refine Jq (q_assign rfl) ?_
 refine L_then ?_
 refine C_region ?_
 refine Jq (q_move rfl) ?_
 refine L_lo rfl rfl rfl (lo_callQ tb stQ hQ rfl rfl (ct_ItoaQ (nuA y f j) (num_in han j)) no_ps isV_sinks) ?_
 rintro _ _ ⟨rfl, rfl⟩
 refine Jq (t_cat (a := [32]) (b := Lib.itoa (nuA y f j)) rfl rfl (by rw [List.length_singleton]; omega) rfl) ?_
 refine L_callI tb (post := fun _ rs9 => ∃ A n c, rs9 = box g5 138 [.pointer (some ⟨g5, 0, none⟩), .slice A n c] :: sl (.slice A n c) 5 1 ((prK L F k ++ ptJ y f j ++ ([32] ++ Lib.itoa (nuA y f j))).map cU) :: [box g1 80 [a, b], rd a 3 (L.map cDl), rd b 1 (F.map cI)]) rfl rfl rfl (ct_WriteString _ _ _ g5 (.pointer (some ⟨g5, 0, none⟩)) u9 (prK L F k ++ ptJ y f j) (.inr rfl) ([32] ++ Lib.itoa (nuA y f j)) (by simp only [List.length_append, List.length_cons, List.length_nil]; omega)) (fun y9 rs9 hy9 => ?_)
 obtain ⟨A42, n42, c42, rfl⟩ := hy9
 refine L_blk ?_
 refine C_region ?_
 refine Jq (q_add rfl rfl (by first | exact IntWalk.i64_in _ (by omega) | rfl)) ?_
 refine Jq (q_move rfl) ?_
 refine L_end ?_
 rw [ptJ_s]
 exact fun ac_ wo_ hs_ => ⟨(j + 1, .slice A42 n42 c42), (by dsimp only; omega), (by dsimp only; omega), hs_.weak ⟨rfl, rfl, rfl, rfl, rfl, rfl, rfl, trivial⟩ (fun h => h.pk (by repeat (first | with_reducible exact pk_nil | refine pk_box rfl ?_ | refine pk_rd rfl ?_ | refine pk_sl rfl ?_ | with_reducible refine pk_app ?_ | with_reducible refine pk_app0 ?_ | with_reducible refine pk_app0L ?_ | with_reducible exact pk_tl | refine pk_var ?_)))⟩
 obtain rfl : j = 4 := by omega
 refine C_exit ?_
 change C Tryz.prog _ _ _ _ _ _ _
 refine C_region ?_
 refine L_callI tb (post := fun _ rs9 => ∃ A n c, rs9 = box g5 138 [.pointer (some ⟨g5, 0, none⟩), .slice A n c] :: sl (.slice A n c) 5 1 ((prK L F k ++ ptJ y f 4 ++ [10]).map cU) :: [box g1 80 [a, b], rd a 3 (L.map cDl), rd b 1 (F.map cI)]) rfl rfl rfl (ct_WriteNl _ _ _ g5 (.pointer (some ⟨g5, 0, none⟩)) u9 (prK L F k ++ ptJ y f 4) (.inr rfl) (by rw [List.length_append]; omega)) (fun y9 rs9 hy9 => ?_)
 obtain ⟨A44, n44, c44, rfl⟩ := hy9
 refine L_blk ?_
 refine C_region ?_
 refine Jq (q_add rfl rfl (by first | exact IntWalk.i64_in _ (by omega) | rfl)) ?_
 refine Jq (q_move rfl) ?_
 refine L_end ?_
 rw [prK_s he hf9]
 exact fun ac_ wo_ hs_ => ⟨(k + 1, .pointer (some ⟨g5, 0, none⟩), .slice A44 n44 c44), ⟨by dsimp only; omega, .inr rfl⟩, (by dsimp only; omega), hs_.weak ⟨rfl, rfl, rfl, rfl, rfl, trivial⟩ (fun h => h.pk (by repeat (first | with_reducible exact pk_nil | refine pk_box rfl ?_ | refine pk_rd rfl ?_ | refine pk_sl rfl ?_ | with_reducible refine pk_app ?_ | with_reducible refine pk_app0 ?_ | with_reducible refine pk_app0L ?_ | with_reducible exact pk_tl | refine pk_var ?_)))⟩
 obtain rfl : k = L.length := by omega
 refine C_exit ?_
 change C Tryz.prog _ _ _ _ _ _ _
 refine C_seq ?_
 refine C_region ?_
 refine L_res (rs' := [box g5 138 [p9, v9], sl v9 5 1 ((prK L F L.length).map cU)]) (fun _ h_ => h_.pk (by repeat (first | with_reducible exact pk_nil | refine pk_box rfl ?_ | refine pk_rd rfl ?_ | refine pk_sl rfl ?_ | with_reducible refine pk_app ?_ | with_reducible refine pk_app0 ?_ | with_reducible refine pk_app0L ?_ | with_reducible exact pk_tl | refine pk_var ?_))) ?_
 refine L_bsU tb rfl rfl rfl hp (fun w_ h1_ h2_ => Tryz.Builder_String_any _ g5 (prK L F L.length) w_ h1_ h2_) ?_
 refine Jq (q_assign rfl) ?_
 refine Jq (q_assign rfl) ?_
 refine L_then ?_
 refine C_ret ?_
 rw [prE_2 hz, hz]
 exact ret_of (res2 rfl rfl rfl) sub_nil (by intro r hr; cases hr) ⟨rfl, rfl⟩
set_option maxRecDepth 100000 in
set_option maxHeartbeats 1000000 in
theorem ct_shotlinelaw04_At1000 (n : Int) : Ct Tryz.prog 47 [.int .i64 n] [] (isTo 120 134 112 (exA (ldA n n) 1000)) := by
 refine Ct.of (N := 15) Tryz.func47 rfl rfl rfl fun w => ?_
 refine C_weak (E' := [(0, .int .i64 n)]) (rs' := []) ⟨rfl, trivial⟩ (fun _ h => h) ?_
 refine C_seq ?_
 refine C_region ?_
 refine L_alloc tb rfl rfl fun g2 => ?_
 refine L_then ?_
 refine C_seq ?_
 refine C_region ?_
 refine Jq (by first | exact q_build tb rfl rfl rfl rfl | exact q_buildArr tb rfl rfl rfl rfl rfl) ?_
 refine L_mk (lo_bslice tb rfl rfl rfl (xs := [cCp oneA]) rfl rfl (by simp [cCp]) rfl (by omega) rfl) rfl rfl rfl fun v4 => ?_
 refine L_form (v := v4) gvo (fun A4 c4 hv4 _ => ?_)
 subst hv4
 refine Jq (q_move rfl) ?_
 refine Jq (q_move rfl) ?_
 refine Jq (by first | exact q_build tb rfl rfl rfl rfl | exact q_buildArr tb rfl rfl rfl rfl rfl) ?_
 refine Jq (by first | exact q_build tb rfl rfl rfl rfl | exact q_buildArr tb rfl rfl rfl rfl rfl) ?_
 refine L_mk (lo_bslice tb rfl rfl rfl (xs := [cLd (ldA n n)]) rfl rfl (by simp [cLd]) rfl (by omega) rfl) rfl rfl rfl fun v9 => ?_
 refine L_form (v := v9) gvo (fun A9 c9 hv9 _ => ?_)
 subst hv9
 refine Jq (by first | exact q_build tb rfl rfl rfl rfl | exact q_buildArr tb rfl rfl rfl rfl rfl) ?_
 refine Jq (by first | exact q_build tb rfl rfl rfl rfl | exact q_buildArr tb rfl rfl rfl rfl rfl) ?_
 refine L_mk (lo_bslice tb rfl rfl rfl (xs := [cAg ⟨⟨210, 0⟩, 30000⟩]) rfl rfl (by simp [cAg]) rfl (by omega) rfl) rfl rfl rfl fun v12 => ?_
 refine L_form (v := v12) gvo (fun A12 c12 hv12 _ => ?_)
 subst hv12
 refine Jq (by first | exact q_build tb rfl rfl rfl rfl | exact q_buildArr tb rfl rfl rfl rfl rfl) ?_
 refine Jq (by first | exact q_build tb rfl rfl rfl rfl | exact q_buildArr tb rfl rfl rfl rfl rfl) ?_
 refine L_st tb rfl rfl ?_
 refine L_then ?_
 refine C_ret ?_
 exact ret_of (rs' := [sl _ 120 4 ((exA (ldA n n) 1000).ts.map cCp), sl _ 134 4 ((exA (ldA n n) 1000).ls.map cLd), sl _ 112 3 ((exA (ldA n n) 1000).gs.map cAg)]) (resC tb rfl rfl rfl bxo rfl) (fun w_ h_ => h_.pk (by repeat (first | with_reducible exact pk_nil | refine pk_box rfl ?_ | refine pk_rd rfl ?_ | refine pk_sl rfl ?_ | with_reducible refine pk_app ?_ | with_reducible refine pk_app0 ?_ | with_reducible refine pk_app0L ?_ | with_reducible exact pk_tl | refine pk_var ?_))) own3 ⟨_, _, _, _, _, _, _, _, _, rfl, rfl⟩
theorem ct_ascent_NoStopSeconds (v u z : Value) (x : Asc) (hle1 : x.ts.length ≤ 100000) (hle2 : x.ls.length ≤ 100000) (hle3 : x.gs.length ≤ 100000) : Ct Tryz.prog 49 [.agg (cAt v u z x).toArray] [(v, 4, x.ts.map cCp), (u, 4, x.ls.map cLd), (z, 3, x.gs.map cAg)] (isV (.tuple #[.int .i64 (nsE x).1, .int .i64 (nsE x).2])) := by
 refine Ct.of (N := 76) Tryz.func49 rfl rfl rfl fun w => ?_
 refine C_weak (E' := [(0, .agg (cAt v u z x).toArray)]) (rs' := [rd v 4 (x.ts.map cCp), rd u 4 (x.ls.map cLd), rd z 3 (x.gs.map cAg)]) ⟨rfl, trivial⟩ (fun _ h => h) ?_
 have hl1 := len_map cCp x.ts
 have hl2 := len_map cLd x.ls
 have hl3 := len_map cAg x.gs
 refine C_seq ?_
 refine C_region ?_
 refine L_box rfl rfl rfl fun g1 => ?_
 refine Jq (q_assign rfl) ?_
 refine Jq (q_assign rfl) ?_
 refine L_then ?_
 refine C_seq ?_
 refine C_region ?_
 refine Jq (q_loadA tb rfl rfl bxo rfl rfl) ?_
 refine L_lo rfl rfl rfl (lo_call tb rfl rfl (ct_ascent_open v u z x (by omega) (by omega) (by omega)) (ps_cons gvo (ps_cons gvo (ps_cons gvo no_ps))) isTk_sinks) ?_
 rintro _ _ ⟨A15, n15, c15, B15, m15, d15, C15, k15, e15, rfl, rfl⟩
 refine Jq (q_move rfl) ?_
 refine Jq (q_ext0 rfl) ?_
 refine Jq (q_ext1 rfl) ?_
 refine L_alloc tb rfl rfl fun g4 => ?_
 refine L_st tb rfl rfl ?_
 refine Jq (q_assign rfl) ?_
 refine L_then ?_
 refine C_seq ?_
 refine C_seq ?_
 refine C_region ?_
 refine Jq (q_move rfl) ?_
 refine Jq (q_neq rfl rfl) ?_
 refine L_then ?_
 refine C_dec rfl (fun h1 => ?_) (fun h1 => ?_)
 refine C_seq ?_
 refine C_region ?_
 refine Jq (q_move rfl) ?_
 refine Jq (q_assign rfl) ?_
 refine Jq (q_assign rfl) ?_
 refine L_then ?_
 refine C_ret ?_
 rw [nsE_1 h1]
 exact ret_of (res2 rfl rfl rfl) sub_nil (by intro r hr; cases hr) ⟨rfl, rfl⟩
 have hz := Decidable.not_not.1 h1
 rw [opA_2 hz]
 have H := ckAsc_ok hz
 have hxst := H.r.st; have hxgi := gasA_in x x.de
 refine C_skip_then ?_
 refine C_seq ?_
 refine C_region ?_
 refine Jq (q_loadA tb rfl rfl bxo rfl rfl) ?_
 refine L_call tb rfl rfl (ct_ascent_task_direct _ _ _ x H) (ps_cons gvo (ps_cons gvo (ps_cons gvo no_ps))) rfl ?_
 refine Jq (q_move rfl) ?_
 refine Jq (q_ext0 rfl) ?_
 refine Jq (q_ext1 rfl) ?_
 refine Jq (q_assign rfl) ?_
 refine Jq (q_assign rfl) ?_
 refine L_then ?_
 refine C_seq ?_
 refine C_block ?_
 refine C_seq ?_
 refine C_region ?_
 refine Jq (q_move rfl) ?_
 refine Jq (q_neq rfl rfl) ?_
 refine Jq (q_assign rfl) ?_
 refine L_then ?_
 refine C_dec rfl (fun u3 => ?_) (fun u3 => ?_)
 refine C_seq ?_
 refine C_region ?_
 refine Jq (q_move rfl) ?_
 refine Jq (q_assign rfl) ?_
 refine Jq (q_assign rfl) ?_
 refine L_then ?_
 refine C_ret ?_
 rw [nsE_2 hz, nsA_1 u3]
 exact ret_of (res2 rfl rfl rfl) sub_nil (by intro r hr; cases hr) ⟨rfl, rfl⟩
 have hd0 := Decidable.not_not.1 u3
 have hg0 := dir_gas H hd0
 refine C_seq ?_
 refine C_region ?_
 refine Jq (q_move rfl) ?_
 refine Jq (q_neq rfl rfl) ?_
 refine Jq (q_assign rfl) ?_
 refine L_then ?_
 refine C_dec rfl (fun u4 => ?_) (fun u4 => ?_)
 refine C_seq ?_
 refine C_region ?_
 refine Jq (q_assign rfl) ?_
 refine Jq (q_assign rfl) ?_
 refine L_then ?_
 refine C_ret ?_
 rw [nsE_2 hz, nsA_2 hd0 u4]
 exact ret_of (res2 rfl rfl rfl) sub_nil (by intro r hr; cases hr) ⟨rfl, rfl⟩
 refine C_skip_blk ?_
 refine C_seq ?_
 refine C_drawA1 tb (n := 8) (k := 7) [(0, false), (1, false), (2, false), (3, false), (4, false), (5, true), (6, true)] mixed rfl rfl rfl (by kernel_rfl) rfl ?_
 refine Yq rfl (q_loadA tb rfl rfl bxo rfl rfl) ?_
 refine Yq rfl (q_loadA tb rfl rfl bxo rfl rfl) ?_
 refine Yq rfl (q_field tb rfl rfl rfl) ?_
 refine Yq rfl (q_field tb rfl rfl rfl) ?_
 refine Yq rfl (q_load tb rfl rfl bxo rfl) ?_
 refine W_call tb rfl rfl rfl rfl (ct_ascent_task_gas _ _ _ x (by omega) x.de) (ps_cons gvo no_ps) rfl ?_
 refine W_call tb rfl rfl rfl rfl (ct_ascent_task_stay _ _ _ x (gasA x x.de)) no_ps rfl ?_
 refine W_nil ?_
 intro g7
 refine L_st tb rfl rfl ?_
 refine L_then ?_
 refine C_seq ?_
 refine C_seq ?_
 refine C_region ?_
 refine Jq (q_move rfl) ?_
 refine L_then ?_
 refine C_block ?_
 refine C_res (rs' := [rd (.slice B15 m15 d15) 4 (x.ls.map cLd), box g4 100 (cAt (.slice A15 n15 c15) (.slice B15 m15 d15) (.slice C15 k15 e15) x), box g7 117 (cDl (syA x (gasA x x.de))), box g1 28 (cAt v u z x), sl (.slice A15 n15 c15) 120 4 (x.ts.map cCp), sl (.slice C15 k15 e15) 112 3 (x.gs.map cAg)]) (fun _ h_ => sl_to_rd (show WS _ _ (sl (.slice B15 m15 d15) 134 4 (x.ls.map cLd) :: _) _ from h_.pk (by repeat (first | with_reducible exact pk_nil | refine pk_box rfl ?_ | refine pk_rd rfl ?_ | refine pk_sl rfl ?_ | with_reducible refine pk_app ?_ | with_reducible refine pk_app0 ?_ | with_reducible refine pk_app0L ?_ | with_reducible exact pk_tl | refine pk_var ?_)))) ?_
 refine C_loop (ι := Nat × Asc × Value) (fun q => ([(1, .pointer (some ⟨g1, 0, none⟩)), (4, .pointer (some ⟨g4, 0, none⟩)), (7, .pointer (some ⟨g7, 0, none⟩)), (40, .int .i64 (q.1 : Int))], [rd q.2.2 4 (q.2.1.ls.map cLd), box g4 100 (cAt (.slice A15 n15 c15) q.2.2 (.slice C15 k15 e15) q.2.1), box g7 117 (cDl (syA x (gasA x x.de))), box g1 28 (cAt v u z x), sl (.slice A15 n15 c15) 120 4 (q.2.1.ts.map cCp), sl (.slice C15 k15 e15) 112 3 (q.2.1.gs.map cAg)])) (fun q => q.1 ≤ 60 ∧ okAsc q.2.1 ∧ q.2.1.de = x.de ∧ q.2.1.r = x.r ∧ q.2.1.gs.length = x.gs.length ∧ nsF (gasA x x.de) (60 - q.1) q.2.1 q.1 = nsF (gasA x x.de) 60 x 0) (fun q => 60 - q.1) (0, x, .slice B15 m15 d15) ⟨Nat.zero_le _, H, rfl, rfl, rfl, rfl⟩ (fun a w hs => hs.weak ⟨rfl, rfl, rfl, rfl, trivial⟩ (fun h => h.pk (by repeat (first | with_reducible exact pk_nil | refine pk_box rfl ?_ | refine pk_rd rfl ?_ | refine pk_sl rfl ?_ | with_reducible refine pk_app ?_ | with_reducible refine pk_app0 ?_ | with_reducible refine pk_app0L ?_ | with_reducible exact pk_tl | refine pk_var ?_)))) ?_
 rintro ⟨k, X, u9⟩ ⟨hk, hX, hXd, hXr, hXg, hf⟩
 dsimp only at hk hX hXd hXr hXg hf ⊢
 refine C_form (v := u9) gvo (fun A9 c9 hv9 _ => ?_)
 subst hv9
 have hXde := hX.de; have hXbl := beh_len hX; have hXst := hX.r.st; have hXgi := gasA_in X X.de
 have hks := k_st hk hxst
 have hsy : okAl X (syA x (gasA x x.de)) := by rw [← sy_eq hXd hXr]; exact sy_ok hX (by omega)
 refine C_seq ?_
 refine C_region ?_
 refine Jq (q_lss rfl rfl) ?_
 refine L_then ?_
 refine C_seq ?_
 refine C_dec rfl (fun h4 => ?_) (fun h4 => ?_)
 refine C_skip_then ?_
 refine C_seq ?_
 refine C_block ?_
 refine C_seq ?_
 refine C_region ?_
 refine Jq (q_move rfl) ?_
 refine Jq (q_assign rfl) ?_
 refine L_then ?_
 refine C_seq ?_
 refine C_seq ?_
 refine C_region ?_
 refine Jq (q_loadA tb rfl rfl bxo rfl rfl) ?_
 refine Jq (q_loadA tb rfl rfl bxo rfl rfl) ?_
 refine L_call tb rfl rfl (ct_ascent_task_decided _ _ _ X (syA x (gasA x x.de)) hX hsy) (ps_cons gvo (ps_cons gvo (ps_cons gvo no_ps))) rfl ?_
 refine Jq (q_move rfl) ?_
 refine Jq (q_ext0 rfl) ?_
 refine Jq (q_ext1 rfl) ?_
 refine Jq (q_assign rfl) ?_
 refine Jq (q_assign rfl) ?_
 refine L_then ?_
 refine C_seq ?_
 refine C_region ?_
 refine Jq (q_move rfl) ?_
 refine Jq (q_neq rfl rfl) ?_
 refine L_then ?_
 refine C_dec rfl (fun u6 => ?_) (fun u6 => ?_)
 rw [← sy_eq hXd hXr] at u6
 refine C_seq ?_
 refine C_region ?_
 refine Jq (q_move rfl) ?_
 refine Jq (q_field tb rfl rfl rfl) ?_
 refine Jq (q_field tb rfl rfl rfl) ?_
 refine Jq (q_load tb rfl rfl bxo rfl) ?_
 refine Jq (q_mul rfl rfl (by first | exact IntWalk.i64_in _ (by omega) | rfl)) ?_
 refine Jq (q_assign rfl) ?_
 refine Jq (q_assign rfl) ?_
 refine L_then ?_
 refine C_ret ?_
 have e9 : nsF (gasA x x.de) 60 x 0 = (k : Int) := by rw [← hf]; exact ns_1 (by omega) u6
 rw [nsE_2 hz, nsA_3 hd0 u4, e9]
 exact ret_of (res2 rfl rfl rfl) sub_nil (by intro r hr; cases hr) ⟨rfl, rfl⟩
 rw [← sy_eq hXd hXr] at u6
 refine C_skip_then ?_
 refine C_seq ?_
 refine C_region ?_
 refine Jq (q_loadA tb rfl rfl bxo rfl rfl) ?_
 refine Jq (q_loadA tb rfl rfl bxo rfl rfl) ?_
 refine L_lo rfl rfl rfl (lo_call tb rfl rfl (ct_ascent_task_behind _ _ _ X (syA x (gasA x x.de)) hX hsy) (ps_cons gvo (ps_cons gvo (ps_cons gvo no_ps))) isBh_sinks) ?_
 rintro _ _ ⟨A58, n58, c58, rfl, rfl⟩
 refine L_st tb rfl rfl ?_
 refine L_then ?_
 refine C_seq ?_
 refine C_region ?_
 refine Jq (q_loadA tb rfl rfl bxo rfl rfl) ?_
 refine L_call tb rfl rfl (ct_ascent_task_direct _ _ _ (bhA X (syA x (gasA x x.de))) (bh_ok hX hsy)) (ps_cons gvo (ps_cons gvo (ps_cons gvo no_ps))) rfl ?_
 refine Jq (q_move rfl) ?_
 refine Jq (q_ext0 rfl) ?_
 refine Jq (q_ext1 rfl) ?_
 refine Jq (q_assign rfl) ?_
 refine Jq (q_assign rfl) ?_
 refine L_then ?_
 refine C_seq ?_
 refine C_region ?_
 refine Jq (q_move rfl) ?_
 refine Jq (q_neq rfl rfl) ?_
 refine L_then ?_
 refine C_dec rfl (fun u7 => ?_) (fun u7 => ?_)
 rw [← sy_eq hXd hXr] at u7
 refine C_seq ?_
 refine C_region ?_
 refine Jq (q_move rfl) ?_
 refine Jq (q_field tb rfl rfl rfl) ?_
 refine Jq (q_field tb rfl rfl rfl) ?_
 refine Jq (q_load tb rfl rfl bxo rfl) ?_
 refine Jq (q_mul rfl rfl (by first | exact IntWalk.i64_in _ (by omega) | rfl)) ?_
 refine Jq (q_assign rfl) ?_
 refine Jq (q_assign rfl) ?_
 refine L_then ?_
 refine C_ret ?_
 have e9 : nsF (gasA x x.de) 60 x 0 = (k : Int) := by rw [← hf]; exact ns_2 (by omega) u6 u7
 rw [nsE_2 hz, nsA_3 hd0 u4, e9]
 exact ret_of (res2 rfl rfl rfl) sub_nil (by intro r hr; cases hr) ⟨rfl, rfl⟩
 rw [← sy_eq hXd hXr] at u7
 refine C_skip_blk ?_
 refine C_region ?_
 refine Jq (q_add rfl rfl (by first | exact IntWalk.i64_in _ (by omega) | rfl)) ?_
 refine Jq (q_move rfl) ?_
 refine L_end ?_
 exact fun ac_ wo_ hs_ => ⟨(k + 1, bhA X (syA x (gasA x x.de)), .slice A58 n58 c58), ⟨by dsimp only; omega, bh_ok hX hsy, show (syA x (gasA x x.de)).d = x.de from rfl, hXr, hXg, by rw [← hf, ns_3 (by omega) u6 u7, sy_eq hXd hXr]; rfl⟩, (by dsimp only; omega), hs_.weak ⟨rfl, rfl, rfl, rfl, trivial⟩ (fun h_ => sl_to_rd (show WS _ _ (sl (.slice A58 n58 c58) 134 4 ((bhA X (syA x (gasA x x.de))).ls.map cLd) :: _) _ from h_.pk (by repeat (first | with_reducible exact pk_nil | refine pk_box rfl ?_ | refine pk_rd rfl ?_ | refine pk_sl rfl ?_ | with_reducible refine pk_app ?_ | with_reducible refine pk_app0 ?_ | with_reducible refine pk_app0L ?_ | with_reducible exact pk_tl | refine pk_var ?_))))⟩
 refine C_exit ?_
 change C Tryz.prog _ _ _ _ _ _ _
 refine C_seq ?_
 refine C_region ?_
 refine Jq (q_field tb rfl rfl rfl) ?_
 refine Jq (q_field tb rfl rfl rfl) ?_
 refine Jq (q_load tb rfl rfl bxo rfl) ?_
 refine Jq (q_mul rfl rfl (by first | exact IntWalk.i64_in _ (by omega) | rfl)) ?_
 refine Jq (q_assign rfl) ?_
 refine Jq (q_assign rfl) ?_
 refine L_then ?_
 refine C_ret ?_
 obtain rfl : k = 60 := by omega
 have e9 : nsF (gasA x x.de) 60 x 0 = (60 : Int) := by rw [← hf]; rfl
 rw [nsE_2 hz, nsA_3 hd0 u4, e9]
 exact ret_of (res2 rfl rfl rfl) sub_nil (by intro r hr; cases hr) ⟨rfl, rfl⟩
end Go.Proofs.YtacndicgpkeobaaGreatDoor
