/-
  Walks: each function named returns what its model says. Conditions: those in front of each theorem.
-/
import Derived.Test.YtacndicgpkeobaaGreatDoorTE
import Derived.Test.YtacndicgpkeobaaGreatDoorAE
import Derived.Test.YtacndicgpkeobaaGreatDoorShTreeH
import Derived.Test.YtacndicgpkeobaaGreatDoorTG
namespace Go.Proofs.YtacndicgpkeobaaGreatDoor
open Go.RowKit

set_option maxRecDepth 100000 in
set_option maxHeartbeats 4000000 in
theorem ct_shotlineref04_Parse (t : Tx) (hl : t.length ≤ 1000000) : Ct Tryz.prog 40 [.string (bs t)] [] (PsP 117 3 (parA t)) := by
 refine Ct.of (N := 101) Tryz.func40 rfl rfl rfl fun w => ?_
 refine C_weak (E' := [(0, .string (bs t))]) (rs' := []) ⟨rfl, trivial⟩ (fun _ h => h) ?_
 have hcn := cutF_cnt (m := 10) t []; have hcl := cnt_le t 10; have hpm := len_map cT (cutF 10 [] t); have hp1 := cutF_ne (m := 10) (l := t) (cur := [])
 refine C_seq ?_
 refine C_region ?_
 refine L_alloc tb rfl rfl fun g2 => ?_
 refine Jq (q_assign rfl) ?_
 refine Jq (q_assign rfl) ?_
 refine L_then ?_
 refine C_seq ?_
 refine C_seq ?_
 refine C_region ?_
 refine Jq (q_move rfl) ?_
 refine Jq (t_len Tryz.underlying9 rfl) ?_
 refine Jq (q_gtr rfl rfl) ?_
 refine L_then ?_
 refine C_dec rfl (fun h1 => ?_) (fun h1 => ?_)
 refine C_seq ?_
 refine C_region ?_
 refine Jq (by first | exact q_build tb rfl rfl rfl rfl | exact q_buildArr tb rfl rfl rfl rfl rfl) ?_
 refine L_st tb rfl rfl ?_
 refine Jq (q_assign rfl) ?_
 refine Jq (q_assign rfl) ?_
 refine L_then ?_
 refine C_ret ?_
 rw [parA_8 (show t.length > 60000 by omega)]
 exact ret_of (rs' := [sl nilS 117 3 [], sl nilS 3 1 []]) (resATT tb rfl rfl rfl rfl rfl bxo rfl) (fun w_ h_ => ws_nil (ws_nil (sub_nil w_ h_))) own2 ⟨none, none, 0, 0, 0, 0, rfl, rfl⟩
 refine C_skip_then ?_
 refine C_seq ?_
 refine C_region ?_
 refine Jq (q_move rfl) ?_
 refine L_callS tb rfl rfl (ct_shotlinebase_Cut t 10 hl) no_ps rfl fun v18 => ?_
 refine Jq (q_assign rfl) ?_
 refine L_then ?_
 refine C_seq ?_
 refine C_region ?_
 refine L_alloc tb rfl rfl fun g6 => ?_
 refine L_then ?_
 refine C_seq ?_
 refine C_seq ?_
 refine C_region ?_
 refine Jq (q_assign rfl) ?_
 refine L_then ?_
 refine C_block ?_
 refine C_nil 3 1 ?_
 refine C_nil 117 3 ?_
 refine C_loop (ι := Nat × List Dl × List Int × Value × Value) (fun q9 => ([(2, .pointer (some ⟨g2, 0, none⟩)), (5, v18), (6, .pointer (some ⟨g6, 0, none⟩)), (7, .int .i64 ((q9.1 : Int)))], [sl q9.2.2.2.1 117 3 (q9.2.1.map cDl), sl q9.2.2.2.2 3 1 (q9.2.2.1.map cI), box g6 80 [q9.2.2.2.1, q9.2.2.2.2], sl v18 9 1 ((cutF 10 [] t).map cT), box g2 80 [nilS, nilS]])) (fun q9 => q9.1 ≤ (cutF 10 [] t).length ∧ q9.2.1.length = q9.1 ∧ q9.2.2.1.length = q9.1 ∧ parF (cutF 10 [] t) [] [] 0 = parF ((cutF 10 [] t).drop q9.1) q9.2.1 q9.2.2.1 (q9.1 : Int)) (fun q9 => (cutF 10 [] t).length - q9.1) (0, [], [], nilS, nilS) ⟨Nat.zero_le _, rfl, rfl, rfl⟩ (fun a w hs => hs.weak ⟨rfl, rfl, rfl, rfl, trivial⟩ (fun h => h.pk (by repeat (first | with_reducible exact pk_nil | refine pk_box rfl ?_ | refine pk_rd rfl ?_ | refine pk_sl rfl ?_ | with_reducible refine pk_app ?_ | with_reducible refine pk_app0 ?_ | with_reducible refine pk_app0L ?_ | with_reducible exact pk_tl | refine pk_var ?_)))) ?_
 rintro ⟨k, L, F, a9, b9⟩ ⟨hk, hL, hF, hG⟩
 dsimp only at hk hL hF hG ⊢
 refine C_form (v := a9) gvo (fun A8 c8 hv8 _ => ?_)
 subst hv8
 refine C_form (v := b9) gvo (fun B8 d8 hw8 _ => ?_)
 subst hw8
 have hl4 := len_map cDl L; have hl5 := len_map cI F
 refine C_seq ?_
 refine C_seq ?_
 refine C_region ?_
 refine Jq (q_move rfl) ?_
 refine Jq (q_move rfl) ?_
 refine Jq (q_len tb rfl rfl gvo) ?_
 refine Jq (q_lss rfl rfl) ?_
 refine L_then ?_
 refine C_dec rfl (fun h2 => ?_) (fun h2 => ?_)
 obtain ⟨p, hp⟩ := get_some (cutF 10 [] t) (k := k) (by omega); have hel := map_get cT hp
 refine C_skip_then ?_
 refine C_seq ?_
 refine C_block ?_
 refine C_seq ?_
 refine C_seq ?_
 refine C_region ?_
 refine Jq (q_move rfl) ?_
 refine Jq (q_move rfl) ?_
 refine Jq (q_len tb rfl rfl gvo) ?_
 refine Jq (q_sub rfl rfl (by first | exact IntWalk.i64_in _ (by omega) | rfl)) ?_
 refine Jq (q_eql rfl rfl) ?_
 refine L_then ?_
 refine C_dec rfl (fun h29 => ?_) (fun h29 => ?_)
 refine C_seq ?_
 refine C_seq ?_
 refine C_region ?_
 refine Jq (q_move rfl) ?_
 refine Jq (q_move rfl) ?_
 refine Jq (by first | exact q_index tb rfl rfl rfl rfl gvo (by omega) (by first | omega | (simp; done) | (simp; omega)) | exact q_indexP tb rfl rfl rfl rfl (by omega) (by omega)) ?_
 refine Jq (q_loadE tb rfl rfl gvo (i := k) (o := 0) (by omega) hel rfl) ?_
 refine Jq (t_ne (a := p) (b := []) rfl rfl) ?_
 refine L_then ?_
 refine C_dec rfl (fun h34 => ?_) (fun h34 => ?_)
 refine C_seq ?_
 refine C_region ?_
 refine Jq (by first | exact q_build tb rfl rfl rfl rfl | exact q_buildArr tb rfl rfl rfl rfl rfl) ?_
 refine Jq (q_move rfl) ?_
 refine Jq (q_add rfl rfl (by first | exact IntWalk.i64_in _ (by omega) | rfl)) ?_
 refine L_st tb rfl rfl ?_
 refine Jq (q_assign rfl) ?_
 refine Jq (q_assign rfl) ?_
 refine L_then ?_
 refine C_ret ?_
 rw [parA_7f (show ¬ t.length > 60000 by omega) (hG.trans (by rw [drop_last hp (by omega)]; exact parF_2 h34))]
 exact ret_of (rs' := [sl nilS 117 3 [], sl nilS 3 1 []]) (resATT tb rfl rfl rfl rfl rfl bxo rfl) (fun w_ h_ => ws_nil (ws_nil (sub_nil w_ h_))) own2 ⟨none, none, 0, 0, 0, 0, rfl, rfl⟩
 have hGe : parF (cutF 10 [] t) [] [] 0 = ((L, F), 0, 0) := by rw [hG, drop_last hp (by omega), Decidable.not_not.1 h34]; exact parF_1
 refine C_skip_then ?_
 refine C_exit ?_
 change C Tryz.prog _ _ _ _ _ _ _
 refine C_seq ?_
 refine C_seq ?_
 refine C_region ?_
 refine Jq (q_loadA tb rfl rfl bxo rfl rfl) ?_
 refine L_call tb rfl rfl (ct_shotlineref04_Alone _ _ L F (by omega) (by omega)) (ps_cons gvo (ps_cons gvo no_ps)) rfl ?_
 refine Jq (q_assign rfl) ?_
 refine L_then ?_
 refine C_seq ?_
 refine C_region ?_
 refine Jq (q_move rfl) ?_
 refine Jq (q_neq rfl rfl) ?_
 refine L_then ?_
 refine C_dec rfl (fun h97 => ?_) (fun h97 => ?_)
 refine C_seq ?_
 refine C_region ?_
 refine Jq (by first | exact q_build tb rfl rfl rfl rfl | exact q_buildArr tb rfl rfl rfl rfl rfl) ?_
 refine Jq (q_move rfl) ?_
 refine L_st tb rfl rfl ?_
 refine Jq (q_assign rfl) ?_
 refine Jq (q_assign rfl) ?_
 refine L_then ?_
 refine C_ret ?_
 rw [parA_cf (show ¬ t.length > 60000 by omega) hGe, if_pos h97]
 exact ret_of (rs' := [sl nilS 117 3 [], sl nilS 3 1 []]) (resATT tb rfl rfl rfl rfl rfl bxo rfl) (fun w_ h_ => ws_nil (ws_nil (sub_nil w_ h_))) own2 ⟨none, none, 0, 0, 0, 0, rfl, rfl⟩
 refine C_skip_then ?_
 refine C_seq ?_
 refine C_region ?_
 refine Jq (q_loadA tb rfl rfl bxo rfl rfl) ?_
 refine L_st tb rfl rfl ?_
 refine Jq (q_assign rfl) ?_
 refine Jq (q_assign rfl) ?_
 refine L_then ?_
 refine C_ret ?_
 rw [parA_cf (show ¬ t.length > 60000 by omega) hGe, if_neg h97]
 exact ret_of (rs' := [sl (.slice A8 (L.map cDl).length c8) 117 3 (L.map cDl), sl (.slice B8 (F.map cI).length d8) 3 1 (F.map cI)]) (resATT tb rfl rfl rfl rfl rfl bxo rfl) (fun w_ h_ => h_.pk (by repeat (first | with_reducible exact pk_nil | refine pk_box rfl ?_ | refine pk_rd rfl ?_ | refine pk_sl rfl ?_ | with_reducible refine pk_app ?_ | with_reducible refine pk_app0 ?_ | with_reducible refine pk_app0L ?_ | with_reducible exact pk_tl | refine pk_var ?_))) own2 ⟨_, _, _, _, _, _, rfl, rfl⟩
 obtain ⟨q, r, hd2, hd1⟩ := drop_two hp (by omega)
 refine C_skip_then ?_
 refine C_seq ?_
 refine C_region ?_
 refine Jq (q_move rfl) ?_
 refine Jq (q_move rfl) ?_
 refine Jq (by first | exact q_index tb rfl rfl rfl rfl gvo (by omega) (by first | omega | (simp; done) | (simp; omega)) | exact q_indexP tb rfl rfl rfl rfl (by omega) (by omega)) ?_
 refine Jq (q_loadE tb rfl rfl gvo (i := k) (o := 0) (by omega) hel rfl) ?_
 refine L_callS tb rfl rfl (ct_shotlinebase_Cut p 32 (by have := cutF_le (m := 10) t [] p (List.mem_of_getElem? hp); simp at this; omega)) no_ps rfl fun v42 => ?_
 refine Jq (q_assign rfl) ?_
 refine L_then ?_
 refine C_seq ?_
 refine C_region ?_
 refine L_alloc tb rfl rfl fun g9 => ?_
 refine L_then ?_
 refine C_seq ?_
 refine C_region ?_
 refine Jq (q_move rfl) ?_
 refine Jq (q_len tb rfl rfl gvo) ?_
 refine Jq (q_eql rfl rfl) ?_
 refine Jq (q_move rfl) ?_
 refine L_dec (d := 46) rfl (fun h46 => ?_) (fun h46 => ?_)
 have h5 : (cutF 32 [] p).length = 5 := by have := len_map cT (cutF 32 [] p); omega
 refine Jg (q_move rfl) ?_
 refine Jg (by first | exact q_index tb rfl rfl rfl rfl gvo (by omega) (by first | omega | (simp; done) | (simp; omega)) | exact q_indexP tb rfl rfl rfl rfl (by omega) (by omega)) ?_
 refine Jg (q_loadE tb rfl rfl gvo (i := 0) (o := 0) (by omega) (map_get cT (wA_get (by omega))) rfl) ?_
 refine Jg (t_eq (a := wA (cutF 32 [] p) 0) (b := tLeg) rfl rfl) ?_
 refine Jq (q_pickT rfl rfl) ?_
 refine Jq (q_assign rfl) ?_
 refine L_then ?_
 refine C_seq ?_
 refine C_seq ?_
 refine C_region ?_
 refine Jq (q_assign rfl) ?_
 refine L_then ?_
 refine C_block ?_
 refine C_res (rs' := [box g9 143 [.int .i64 0, .int .i64 0, .int .i64 0, .int .i64 0], sl v42 9 1 ((cutF 32 [] p).map cT), sl (.slice A8 (L.map cDl).length c8) 117 3 (L.map cDl), sl (.slice B8 (F.map cI).length d8) 3 1 (F.map cI), box g6 80 [(.slice A8 (L.map cDl).length c8), (.slice B8 (F.map cI).length d8)], sl v18 9 1 ((cutF 10 [] t).map cT), box g2 80 [nilS, nilS]]) (fun _ h_ => h_.pk (by repeat (first | with_reducible exact pk_nil | refine pk_box rfl ?_ | refine pk_rd rfl ?_ | refine pk_sl rfl ?_ | with_reducible refine pk_app ?_ | with_reducible refine pk_app0 ?_ | with_reducible refine pk_app0L ?_ | with_reducible exact pk_tl | refine pk_var ?_))) ?_
 refine C_loop (ι := Nat × Dl × Int × Bool) (fun q9 => ([(2, .pointer (some ⟨g2, 0, none⟩)), (5, v18), (6, .pointer (some ⟨g6, 0, none⟩)), (7, .int .i64 (k : Int)), (8, v42), (9, .pointer (some ⟨g9, 0, none⟩)), (10, .bool q9.2.2.2), (11, .int .i64 ((q9.1 : Int)))], [box g9 143 [.int .i64 q9.2.1.s, .int .i64 q9.2.1.d, .int .i64 q9.2.1.g, .int .i64 q9.2.2.1], sl v42 9 1 ((cutF 32 [] p).map cT), sl (.slice A8 (L.map cDl).length c8) 117 3 (L.map cDl), sl (.slice B8 (F.map cI).length d8) 3 1 (F.map cI), box g6 80 [(.slice A8 (L.map cDl).length c8), (.slice B8 (F.map cI).length d8)], sl v18 9 1 ((cutF 10 [] t).map cT), box g2 80 [nilS, nilS]])) (fun q9 => q9.1 ≤ 4 ∧ (q9.2.2.2 = true → (cutF 32 [] p).length = 5 ∧ wA (cutF 32 [] p) 0 = tLeg ∧ (0 < q9.1 → numM (wA (cutF 32 [] p) 1) 7 = some q9.2.1.s) ∧ (1 < q9.1 → numM (wA (cutF 32 [] p) 2) 7 = some q9.2.1.d) ∧ (2 < q9.1 → numM (wA (cutF 32 [] p) 3) 7 = some q9.2.1.g) ∧ (3 < q9.1 → numM (wA (cutF 32 [] p) 4) 7 = some q9.2.2.1)) ∧ (q9.2.2.2 = false → lnR p = none)) (fun q9 => 4 - q9.1) (0, ⟨0, 0, 0⟩, 0, decide (wA (cutF 32 [] p) 0 = tLeg)) ⟨Nat.zero_le _, fun hh => ⟨h5, of_decide_eq_true hh, (fun h => by dsimp only at h; omega), (fun h => by dsimp only at h; omega), (fun h => by dsimp only at h; omega), (fun h => by dsimp only at h; omega)⟩, fun hh => lnR_a h5 (of_decide_eq_false hh)⟩ (fun a w hs => hs.weak ⟨rfl, rfl, rfl, rfl, rfl, rfl, rfl, rfl, trivial⟩ (fun h => h.pk (by repeat (first | with_reducible exact pk_nil | refine pk_box rfl ?_ | refine pk_rd rfl ?_ | refine pk_sl rfl ?_ | with_reducible refine pk_app ?_ | with_reducible refine pk_app0 ?_ | with_reducible refine pk_app0L ?_ | with_reducible exact pk_tl | refine pk_var ?_)))) ?_
 rintro ⟨j, z, f, b⟩ ⟨hj, hy, hn⟩
 dsimp only at hj hy hn ⊢
 refine C_seq ?_
 refine C_seq ?_
 refine C_region ?_
 refine Jq (q_move rfl) ?_
 refine Jq (q_move rfl) ?_
 refine L_bool (d := 53) rfl (fun h53 => ?_) (fun h53 => ?_)
 refine Jg (q_move rfl) ?_
 refine Jg (q_lss rfl rfl) ?_
 refine Jq (q_pickT rfl rfl) ?_
 refine L_then ?_
 refine C_dec rfl (fun h8 => ?_) (fun h8 => ?_)
 have hb9 : b = true := h53
 obtain ⟨h5, h0, _⟩ := hy hb9
 obtain rfl | rfl | rfl | rfl : j = 0 ∨ j = 1 ∨ j = 2 ∨ j = 3 := by omega
 refine C_skip_then ?_
 refine C_seq ?_
 refine C_block ?_
 refine C_region ?_
 refine Jq (q_move rfl) ?_
 refine Jq (q_move rfl) ?_
 refine Jq (q_move rfl) ?_
 refine Jq (q_add rfl rfl (by first | exact IntWalk.i64_in _ (by omega) | rfl)) ?_
 refine Jq (by first | exact q_index tb rfl rfl rfl rfl gvo (by omega) (by first | omega | (simp; done) | (simp; omega)) | exact q_indexP tb rfl rfl rfl rfl (by omega) (by omega)) ?_
 refine Jq (q_loadE tb rfl rfl gvo (i := 1) (o := 0) (by omega) (map_get cT (wA_get (by omega))) rfl) ?_
 refine L_call tb rfl rfl (ct_shotlinebase_Number (wA (cutF 32 [] p) 1) 7 (by have := cutF_le (m := 32) p [] _ (List.mem_of_getElem? (wA_get (w := (cutF 32 [] p)) (i := 1) (by omega))); have := cutF_le (m := 10) t [] p (List.mem_of_getElem? hp); simp at *; omega) (by decide)) no_ps rfl ?_
 refine Jq (q_move rfl) ?_
 refine Jq (q_ext0 rfl) ?_
 refine Jq (q_ext1 rfl) ?_
 refine Jq (by first | exact q_index tb rfl rfl rfl rfl gvo (by omega) (by first | omega | (simp; done) | (simp; omega)) | exact q_indexP tb rfl rfl rfl rfl (by omega) (by omega)) ?_
 refine L_st tb rfl rfl ?_
 refine Jq (q_assign rfl) ?_
 refine L_blk ?_
 refine C_region ?_
 refine Jq (q_move rfl) ?_
 refine Jq (q_add rfl rfl (by first | exact IntWalk.i64_in _ (by omega) | rfl)) ?_
 refine Jq (q_assign rfl) ?_
 refine L_end ?_
 exact fun ac_ wo_ hs_ => ⟨(1, (⟨((numM (wA (cutF 32 [] p) 1) 7).getD 0), z.d, z.g⟩, f, (numM (wA (cutF 32 [] p) 1) 7).isSome)), ⟨by dsimp only; omega, fun hok => ⟨h5, h0, (fun _ => some_get hok), (fun h => by dsimp only at h; omega), (fun h => by dsimp only at h; omega), (fun h => by dsimp only at h; omega)⟩, fun hno => lnR_n h5 (i := 0) (by decide) hno⟩, (by dsimp only; omega), hs_.weak ⟨rfl, rfl, rfl, rfl, rfl, rfl, rfl, rfl, trivial⟩ (fun h_ => h_.pk (by repeat (first | with_reducible exact pk_nil | refine pk_box rfl ?_ | refine pk_rd rfl ?_ | refine pk_sl rfl ?_ | with_reducible refine pk_app ?_ | with_reducible refine pk_app0 ?_ | with_reducible refine pk_app0L ?_ | with_reducible exact pk_tl | refine pk_var ?_)))⟩
 refine C_skip_then ?_
 refine C_seq ?_
 refine C_block ?_
 refine C_region ?_
 refine Jq (q_move rfl) ?_
 refine Jq (q_move rfl) ?_
 refine Jq (q_move rfl) ?_
 refine Jq (q_add rfl rfl (by first | exact IntWalk.i64_in _ (by omega) | rfl)) ?_
 refine Jq (by first | exact q_index tb rfl rfl rfl rfl gvo (by omega) (by first | omega | (simp; done) | (simp; omega)) | exact q_indexP tb rfl rfl rfl rfl (by omega) (by omega)) ?_
 refine Jq (q_loadE tb rfl rfl gvo (i := 2) (o := 0) (by omega) (map_get cT (wA_get (by omega))) rfl) ?_
 refine L_call tb rfl rfl (ct_shotlinebase_Number (wA (cutF 32 [] p) 2) 7 (by have := cutF_le (m := 32) p [] _ (List.mem_of_getElem? (wA_get (w := (cutF 32 [] p)) (i := 2) (by omega))); have := cutF_le (m := 10) t [] p (List.mem_of_getElem? hp); simp at *; omega) (by decide)) no_ps rfl ?_
 refine Jq (q_move rfl) ?_
 refine Jq (q_ext0 rfl) ?_
 refine Jq (q_ext1 rfl) ?_
 refine Jq (by first | exact q_index tb rfl rfl rfl rfl gvo (by omega) (by first | omega | (simp; done) | (simp; omega)) | exact q_indexP tb rfl rfl rfl rfl (by omega) (by omega)) ?_
 refine L_st tb rfl rfl ?_
 refine Jq (q_assign rfl) ?_
 refine L_blk ?_
 refine C_region ?_
 refine Jq (q_move rfl) ?_
 refine Jq (q_add rfl rfl (by first | exact IntWalk.i64_in _ (by omega) | rfl)) ?_
 refine Jq (q_assign rfl) ?_
 refine L_end ?_
 exact fun ac_ wo_ hs_ => ⟨(2, (⟨z.s, ((numM (wA (cutF 32 [] p) 2) 7).getD 0), z.g⟩, f, (numM (wA (cutF 32 [] p) 2) 7).isSome)), ⟨by dsimp only; omega, fun hok => ⟨h5, h0, (fun _ => (hy hb9).2.2.1 (by omega)), (fun _ => some_get hok), (fun h => by dsimp only at h; omega), (fun h => by dsimp only at h; omega)⟩, fun hno => lnR_n h5 (i := 1) (by decide) hno⟩, (by dsimp only; omega), hs_.weak ⟨rfl, rfl, rfl, rfl, rfl, rfl, rfl, rfl, trivial⟩ (fun h_ => h_.pk (by repeat (first | with_reducible exact pk_nil | refine pk_box rfl ?_ | refine pk_rd rfl ?_ | refine pk_sl rfl ?_ | with_reducible refine pk_app ?_ | with_reducible refine pk_app0 ?_ | with_reducible refine pk_app0L ?_ | with_reducible exact pk_tl | refine pk_var ?_)))⟩
 refine C_skip_then ?_
 refine C_seq ?_
 refine C_block ?_
 refine C_region ?_
 refine Jq (q_move rfl) ?_
 refine Jq (q_move rfl) ?_
 refine Jq (q_move rfl) ?_
 refine Jq (q_add rfl rfl (by first | exact IntWalk.i64_in _ (by omega) | rfl)) ?_
 refine Jq (by first | exact q_index tb rfl rfl rfl rfl gvo (by omega) (by first | omega | (simp; done) | (simp; omega)) | exact q_indexP tb rfl rfl rfl rfl (by omega) (by omega)) ?_
 refine Jq (q_loadE tb rfl rfl gvo (i := 3) (o := 0) (by omega) (map_get cT (wA_get (by omega))) rfl) ?_
 refine L_call tb rfl rfl (ct_shotlinebase_Number (wA (cutF 32 [] p) 3) 7 (by have := cutF_le (m := 32) p [] _ (List.mem_of_getElem? (wA_get (w := (cutF 32 [] p)) (i := 3) (by omega))); have := cutF_le (m := 10) t [] p (List.mem_of_getElem? hp); simp at *; omega) (by decide)) no_ps rfl ?_
 refine Jq (q_move rfl) ?_
 refine Jq (q_ext0 rfl) ?_
 refine Jq (q_ext1 rfl) ?_
 refine Jq (by first | exact q_index tb rfl rfl rfl rfl gvo (by omega) (by first | omega | (simp; done) | (simp; omega)) | exact q_indexP tb rfl rfl rfl rfl (by omega) (by omega)) ?_
 refine L_st tb rfl rfl ?_
 refine Jq (q_assign rfl) ?_
 refine L_blk ?_
 refine C_region ?_
 refine Jq (q_move rfl) ?_
 refine Jq (q_add rfl rfl (by first | exact IntWalk.i64_in _ (by omega) | rfl)) ?_
 refine Jq (q_assign rfl) ?_
 refine L_end ?_
 exact fun ac_ wo_ hs_ => ⟨(3, (⟨z.s, z.d, ((numM (wA (cutF 32 [] p) 3) 7).getD 0)⟩, f, (numM (wA (cutF 32 [] p) 3) 7).isSome)), ⟨by dsimp only; omega, fun hok => ⟨h5, h0, (fun _ => (hy hb9).2.2.1 (by omega)), (fun _ => (hy hb9).2.2.2.1 (by omega)), (fun _ => some_get hok), (fun h => by dsimp only at h; omega)⟩, fun hno => lnR_n h5 (i := 2) (by decide) hno⟩, (by dsimp only; omega), hs_.weak ⟨rfl, rfl, rfl, rfl, rfl, rfl, rfl, rfl, trivial⟩ (fun h_ => h_.pk (by repeat (first | with_reducible exact pk_nil | refine pk_box rfl ?_ | refine pk_rd rfl ?_ | refine pk_sl rfl ?_ | with_reducible refine pk_app ?_ | with_reducible refine pk_app0 ?_ | with_reducible refine pk_app0L ?_ | with_reducible exact pk_tl | refine pk_var ?_)))⟩
 refine C_skip_then ?_
 refine C_seq ?_
 refine C_block ?_
 refine C_region ?_
 refine Jq (q_move rfl) ?_
 refine Jq (q_move rfl) ?_
 refine Jq (q_move rfl) ?_
 refine Jq (q_add rfl rfl (by first | exact IntWalk.i64_in _ (by omega) | rfl)) ?_
 refine Jq (by first | exact q_index tb rfl rfl rfl rfl gvo (by omega) (by first | omega | (simp; done) | (simp; omega)) | exact q_indexP tb rfl rfl rfl rfl (by omega) (by omega)) ?_
 refine Jq (q_loadE tb rfl rfl gvo (i := 4) (o := 0) (by omega) (map_get cT (wA_get (by omega))) rfl) ?_
 refine L_call tb rfl rfl (ct_shotlinebase_Number (wA (cutF 32 [] p) 4) 7 (by have := cutF_le (m := 32) p [] _ (List.mem_of_getElem? (wA_get (w := (cutF 32 [] p)) (i := 4) (by omega))); have := cutF_le (m := 10) t [] p (List.mem_of_getElem? hp); simp at *; omega) (by decide)) no_ps rfl ?_
 refine Jq (q_move rfl) ?_
 refine Jq (q_ext0 rfl) ?_
 refine Jq (q_ext1 rfl) ?_
 refine Jq (by first | exact q_index tb rfl rfl rfl rfl gvo (by omega) (by first | omega | (simp; done) | (simp; omega)) | exact q_indexP tb rfl rfl rfl rfl (by omega) (by omega)) ?_
 refine L_st tb rfl rfl ?_
 refine Jq (q_assign rfl) ?_
 refine L_blk ?_
 refine C_region ?_
 refine Jq (q_move rfl) ?_
 refine Jq (q_add rfl rfl (by first | exact IntWalk.i64_in _ (by omega) | rfl)) ?_
 refine Jq (q_assign rfl) ?_
 refine L_end ?_
 exact fun ac_ wo_ hs_ => ⟨(4, (z, ((numM (wA (cutF 32 [] p) 4) 7).getD 0), (numM (wA (cutF 32 [] p) 4) 7).isSome)), ⟨by dsimp only; omega, fun hok => ⟨h5, h0, (fun _ => (hy hb9).2.2.1 (by omega)), (fun _ => (hy hb9).2.2.2.1 (by omega)), (fun _ => (hy hb9).2.2.2.2.1 (by omega)), (fun _ => some_get hok)⟩, fun hno => lnR_n h5 (i := 3) (by decide) hno⟩, (by dsimp only; omega), hs_.weak ⟨rfl, rfl, rfl, rfl, rfl, rfl, rfl, rfl, trivial⟩ (fun h_ => h_.pk (by repeat (first | with_reducible exact pk_nil | refine pk_box rfl ?_ | refine pk_rd rfl ?_ | refine pk_sl rfl ?_ | with_reducible refine pk_app ?_ | with_reducible refine pk_app0 ?_ | with_reducible refine pk_app0L ?_ | with_reducible exact pk_tl | refine pk_var ?_)))⟩
 refine C_exit ?_
 change C Tryz.prog _ _ _ _ _ _ _
 refine C_seq ?_
 refine C_seq ?_
 refine C_region ?_
 refine Jq (q_move rfl) ?_
 refine Jq (q_not rfl (by first | exact (rfl : (!true) = false) | exact (rfl : (!false) = true) | exact decide_not.symm | rfl)) ?_
 refine L_then ?_
 refine C_bool rfl (fun h71 => ?_) (fun h71 => ?_)
 exfalso
 simp [h53] at h71
 have hb : b = true := by simpa using h71
 obtain ⟨h5, h0, i1, i2, i3, i4⟩ := hy hb
 have hz := lnR_y h5 h0 (i1 (by omega)) (i2 (by omega)) (i3 (by omega)) (i4 (by omega))
 refine C_skip_then ?_
 refine C_res (rs' := [sl (.slice A8 (L.map cDl).length c8) 117 3 (L.map cDl), sl (.slice B8 (F.map cI).length d8) 3 1 (F.map cI), box g6 80 [(.slice A8 (L.map cDl).length c8), (.slice B8 (F.map cI).length d8)], box g9 143 [.int .i64 z.s, .int .i64 z.d, .int .i64 z.g, .int .i64 f], sl v18 9 1 ((cutF 10 [] t).map cT), box g2 80 [nilS, nilS]]) (fun _ h => h.pk (by repeat (first | with_reducible exact pk_nil | refine pk_box rfl ?_ | refine pk_rd rfl ?_ | refine pk_sl rfl ?_ | with_reducible refine pk_app ?_ | with_reducible refine pk_app0 ?_ | with_reducible refine pk_app0L ?_ | with_reducible exact pk_tl | refine pk_var ?_))) ?_
 refine Kp.C_treeH2 (n := 18) (ι := Value × Value) (.q 0 (.q 1 (.q 2 (.q 3 (.q 4 (.q 5 (.q 6 (.q 7 (.q 8 (.q 11 (.q 12 (.q 13 (.q 14 (.s2 9 15 (.s2 10 15 (.q 17 (.s 15 (.s 16 .nil))) (.s 10 (.q 17 (.s 16 .nil)))) (.s 9 (.s 10 (.q 17 (.s 16 .nil)))))))))))))))))) (fun q => ([(2, .pointer (some ⟨g2, 0, none⟩)), (5, v18), (6, .pointer (some ⟨g6, 0, none⟩)), (7, .int .i64 (k : Int)), (85, q.1), (91, q.2), (92, .pointer (some ⟨g6, 0, none⟩))], [box g6 80 [(.slice A8 (L.map cDl).length c8), (.slice B8 (F.map cI).length d8)], sl q.1 117 3 ((L ++ [z]).map cDl), sl q.2 3 1 ((F ++ [f]).map cI), sl v18 9 1 ((cutF 10 [] t).map cT), box g2 80 [nilS, nilS]])) mixed (by kernel_rfl) ?_ ?_
 refine Kp.Zq rfl (q_field tb rfl rfl rfl) ?_
 refine Kp.Zq rfl (q_load tb rfl rfl bxo rfl) ?_
 refine Kp.Zq rfl (by first | exact q_index tb rfl rfl rfl rfl gvo (by omega) (by first | omega | (simp; done) | (simp; omega)) | exact q_indexP tb rfl rfl rfl rfl (by omega) (by omega)) ?_
 refine Kp.Zq rfl (by first | exact q_load tb rfl rfl bxo rfl | exact q_loadE tb rfl rfl gvo (by omega) (by simp) rfl) ?_
 refine Kp.Zq rfl (by first | exact q_index tb rfl rfl rfl rfl gvo (by omega) (by first | omega | (simp; done) | (simp; omega)) | exact q_indexP tb rfl rfl rfl rfl (by omega) (by omega)) ?_
 refine Kp.Zq rfl (by first | exact q_load tb rfl rfl bxo rfl | exact q_loadE tb rfl rfl gvo (by omega) (by simp) rfl) ?_
 refine Kp.Zq rfl (by first | exact q_index tb rfl rfl rfl rfl gvo (by omega) (by first | omega | (simp; done) | (simp; omega)) | exact q_indexP tb rfl rfl rfl rfl (by omega) (by omega)) ?_
 refine Kp.Zq rfl (by first | exact q_load tb rfl rfl bxo rfl | exact q_loadE tb rfl rfl gvo (by omega) (by simp) rfl) ?_
 refine Kp.Zq rfl (by first | exact q_build tb rfl rfl rfl rfl | exact q_buildArr tb rfl rfl rfl rfl rfl) ?_
 refine Kp.Zq rfl (q_field tb rfl rfl rfl) ?_
 refine Kp.Zq rfl (q_load tb rfl rfl bxo rfl) ?_
 refine Kp.Zq rfl (by first | exact q_index tb rfl rfl rfl rfl gvo (by omega) (by first | omega | (simp; done) | (simp; omega)) | exact q_indexP tb rfl rfl rfl rfl (by omega) (by omega)) ?_
 refine Kp.Zq rfl (by first | exact q_load tb rfl rfl bxo rfl | exact q_loadE tb rfl rfl gvo (by omega) (by simp) rfl) ?_
 refine Kp.Z_s2 ?_ ?_
 refine Kp.St_mk rfl rfl rfl rfl (lo_bslice tb rfl rfl rfl (xs := [cDl z]) rfl rfl (by simp [cDl]) rfl (by omega) rfl) fun v84 => ?_
 refine Kp.Z_s2 ?_ ?_
 first | refine Kp.St_append tb rfl rfl rfl (List.Perm.refl _) rfl rfl rfl (by omega) rfl rfl gvo (by simp [Value.oneCell', cDl]) (by simp [maxLen]; omega) (by simp; omega) fun v85 => ?_ | refine Kp.St_append tb rfl rfl rfl perm1 rfl rfl rfl (by omega) rfl rfl gvo (by simp [Value.oneCell', cDl]) (by simp [maxLen]; omega) (by simp; omega) fun v85 => ?_ | refine Kp.St_append tb rfl rfl rfl Kp.perm2 rfl rfl rfl (by omega) rfl rfl gvo (by simp [Value.oneCell', cDl]) (by simp [maxLen]; omega) (by simp; omega) fun v85 => ?_ | refine Kp.St_append tb rfl rfl rfl Kp.perm3 rfl rfl rfl (by omega) rfl rfl gvo (by simp [Value.oneCell', cDl]) (by simp [maxLen]; omega) (by simp; omega) fun v85 => ?_ | refine Kp.St_append tb rfl rfl rfl (perm_front (pre := [_, _])) rfl rfl rfl (by omega) rfl rfl gvo (by simp [Value.oneCell', cDl]) (by simp [maxLen]; omega) (by simp; omega) fun v85 => ?_ | refine Kp.St_append tb rfl rfl rfl (perm_front (pre := [_, _, _])) rfl rfl rfl (by omega) rfl rfl gvo (by simp [Value.oneCell', cDl]) (by simp [maxLen]; omega) (by simp; omega) fun v85 => ?_ | refine Kp.St_append tb rfl rfl rfl (perm_front (pre := [_, _, _, _])) rfl rfl rfl (by omega) rfl rfl gvo (by simp [Value.oneCell', cDl]) (by simp [maxLen]; omega) (by simp; omega) fun v85 => ?_
 refine Kp.Zq rfl (q_field tb rfl rfl rfl) ?_
 refine Kp.Z_s ?_
 refine Kp.St_mk rfl rfl rfl rfl (lo_bslice tb rfl rfl rfl (xs := [[_]]) rfl rfl (by simp) rfl (by omega) rfl) fun v90 => ?_
 refine Kp.Z_s ?_
 first | refine Kp.St_append tb rfl rfl rfl (List.Perm.refl _) rfl rfl rfl (by omega) rfl rfl gvo (by simp [Value.oneCell']) (by simp [maxLen]; omega) (by simp; omega) fun v91 => ?_ | refine Kp.St_append tb rfl rfl rfl perm1 rfl rfl rfl (by omega) rfl rfl gvo (by simp [Value.oneCell']) (by simp [maxLen]; omega) (by simp; omega) fun v91 => ?_ | refine Kp.St_append tb rfl rfl rfl Kp.perm2 rfl rfl rfl (by omega) rfl rfl gvo (by simp [Value.oneCell']) (by simp [maxLen]; omega) (by simp; omega) fun v91 => ?_ | refine Kp.St_append tb rfl rfl rfl Kp.perm3 rfl rfl rfl (by omega) rfl rfl gvo (by simp [Value.oneCell']) (by simp [maxLen]; omega) (by simp; omega) fun v91 => ?_ | refine Kp.St_append tb rfl rfl rfl (perm_front (pre := [_, _])) rfl rfl rfl (by omega) rfl rfl gvo (by simp [Value.oneCell']) (by simp [maxLen]; omega) (by simp; omega) fun v91 => ?_ | refine Kp.St_append tb rfl rfl rfl (perm_front (pre := [_, _, _])) rfl rfl rfl (by omega) rfl rfl gvo (by simp [Value.oneCell']) (by simp [maxLen]; omega) (by simp; omega) fun v91 => ?_ | refine Kp.St_append tb rfl rfl rfl (perm_front (pre := [_, _, _, _])) rfl rfl rfl (by omega) rfl rfl gvo (by simp [Value.oneCell']) (by simp [maxLen]; omega) (by simp; omega) fun v91 => ?_
 refine Kp.Z_nil ?_
 try dsimp only [List.append, List.cons_append, List.nil_append]
 exact ⟨(v85, v91), fun a_ w_ hs_ => hs_.weak ⟨rfl, rfl, rfl, rfl, rfl, rfl, rfl, trivial⟩ (fun h_ => h_.pk (by repeat (first | with_reducible exact pk_nil | refine pk_box (by first | rfl | exact (dl_snoc _ _) | exact (ci_snoc _ _)) ?_ | refine pk_rd rfl ?_ | refine pk_sl (by first | rfl | exact (dl_snoc _ _) | exact (ci_snoc _ _)) ?_ | with_reducible refine pk_app ?_ | with_reducible refine pk_app0 ?_ | with_reducible refine pk_app0L ?_ | with_reducible exact pk_tl | refine pk_var ?_)))⟩
 refine Kp.St_mk rfl rfl rfl rfl (lo_bslice tb rfl rfl rfl (xs := [[_]]) rfl rfl (by simp) rfl (by omega) rfl) fun v90 => ?_
 refine Kp.Z_s ?_
 first | refine Kp.St_append tb rfl rfl rfl (List.Perm.refl _) rfl rfl rfl (by omega) rfl rfl gvo (by simp [Value.oneCell', cDl]) (by simp [maxLen]; omega) (by simp; omega) fun v85 => ?_ | refine Kp.St_append tb rfl rfl rfl perm1 rfl rfl rfl (by omega) rfl rfl gvo (by simp [Value.oneCell', cDl]) (by simp [maxLen]; omega) (by simp; omega) fun v85 => ?_ | refine Kp.St_append tb rfl rfl rfl Kp.perm2 rfl rfl rfl (by omega) rfl rfl gvo (by simp [Value.oneCell', cDl]) (by simp [maxLen]; omega) (by simp; omega) fun v85 => ?_ | refine Kp.St_append tb rfl rfl rfl Kp.perm3 rfl rfl rfl (by omega) rfl rfl gvo (by simp [Value.oneCell', cDl]) (by simp [maxLen]; omega) (by simp; omega) fun v85 => ?_ | refine Kp.St_append tb rfl rfl rfl (perm_front (pre := [_, _])) rfl rfl rfl (by omega) rfl rfl gvo (by simp [Value.oneCell', cDl]) (by simp [maxLen]; omega) (by simp; omega) fun v85 => ?_ | refine Kp.St_append tb rfl rfl rfl (perm_front (pre := [_, _, _])) rfl rfl rfl (by omega) rfl rfl gvo (by simp [Value.oneCell', cDl]) (by simp [maxLen]; omega) (by simp; omega) fun v85 => ?_ | refine Kp.St_append tb rfl rfl rfl (perm_front (pre := [_, _, _, _])) rfl rfl rfl (by omega) rfl rfl gvo (by simp [Value.oneCell', cDl]) (by simp [maxLen]; omega) (by simp; omega) fun v85 => ?_
 refine Kp.Zq rfl (q_field tb rfl rfl rfl) ?_
 refine Kp.Z_s ?_
 first | refine Kp.St_append tb rfl rfl rfl (List.Perm.refl _) rfl rfl rfl (by omega) rfl rfl gvo (by simp [Value.oneCell']) (by simp [maxLen]; omega) (by simp; omega) fun v91 => ?_ | refine Kp.St_append tb rfl rfl rfl perm1 rfl rfl rfl (by omega) rfl rfl gvo (by simp [Value.oneCell']) (by simp [maxLen]; omega) (by simp; omega) fun v91 => ?_ | refine Kp.St_append tb rfl rfl rfl Kp.perm2 rfl rfl rfl (by omega) rfl rfl gvo (by simp [Value.oneCell']) (by simp [maxLen]; omega) (by simp; omega) fun v91 => ?_ | refine Kp.St_append tb rfl rfl rfl Kp.perm3 rfl rfl rfl (by omega) rfl rfl gvo (by simp [Value.oneCell']) (by simp [maxLen]; omega) (by simp; omega) fun v91 => ?_ | refine Kp.St_append tb rfl rfl rfl (perm_front (pre := [_, _])) rfl rfl rfl (by omega) rfl rfl gvo (by simp [Value.oneCell']) (by simp [maxLen]; omega) (by simp; omega) fun v91 => ?_ | refine Kp.St_append tb rfl rfl rfl (perm_front (pre := [_, _, _])) rfl rfl rfl (by omega) rfl rfl gvo (by simp [Value.oneCell']) (by simp [maxLen]; omega) (by simp; omega) fun v91 => ?_ | refine Kp.St_append tb rfl rfl rfl (perm_front (pre := [_, _, _, _])) rfl rfl rfl (by omega) rfl rfl gvo (by simp [Value.oneCell']) (by simp [maxLen]; omega) (by simp; omega) fun v91 => ?_
 refine Kp.Z_nil ?_
 try dsimp only [List.append, List.cons_append, List.nil_append]
 exact ⟨(v85, v91), fun a_ w_ hs_ => hs_.weak ⟨rfl, rfl, rfl, rfl, rfl, rfl, rfl, trivial⟩ (fun h_ => h_.pk (by repeat (first | with_reducible exact pk_nil | refine pk_box (by first | rfl | exact (dl_snoc _ _) | exact (ci_snoc _ _)) ?_ | refine pk_rd rfl ?_ | refine pk_sl (by first | rfl | exact (dl_snoc _ _) | exact (ci_snoc _ _)) ?_ | with_reducible refine pk_app ?_ | with_reducible refine pk_app0 ?_ | with_reducible refine pk_app0L ?_ | with_reducible exact pk_tl | refine pk_var ?_)))⟩
 refine Kp.St_mk rfl rfl rfl rfl (lo_bslice tb rfl rfl rfl (xs := [[_]]) rfl rfl (by simp) rfl (by omega) rfl) fun v90 => ?_
 refine Kp.Z_s ?_
 refine Kp.St_mk rfl rfl rfl rfl (lo_bslice tb rfl rfl rfl (xs := [cDl z]) rfl rfl (by simp [cDl]) rfl (by omega) rfl) fun v84 => ?_
 refine Kp.Z_s ?_
 first | refine Kp.St_append tb rfl rfl rfl (List.Perm.refl _) rfl rfl rfl (by omega) rfl rfl gvo (by simp [Value.oneCell', cDl]) (by simp [maxLen]; omega) (by simp; omega) fun v85 => ?_ | refine Kp.St_append tb rfl rfl rfl perm1 rfl rfl rfl (by omega) rfl rfl gvo (by simp [Value.oneCell', cDl]) (by simp [maxLen]; omega) (by simp; omega) fun v85 => ?_ | refine Kp.St_append tb rfl rfl rfl Kp.perm2 rfl rfl rfl (by omega) rfl rfl gvo (by simp [Value.oneCell', cDl]) (by simp [maxLen]; omega) (by simp; omega) fun v85 => ?_ | refine Kp.St_append tb rfl rfl rfl Kp.perm3 rfl rfl rfl (by omega) rfl rfl gvo (by simp [Value.oneCell', cDl]) (by simp [maxLen]; omega) (by simp; omega) fun v85 => ?_ | refine Kp.St_append tb rfl rfl rfl (perm_front (pre := [_, _])) rfl rfl rfl (by omega) rfl rfl gvo (by simp [Value.oneCell', cDl]) (by simp [maxLen]; omega) (by simp; omega) fun v85 => ?_ | refine Kp.St_append tb rfl rfl rfl (perm_front (pre := [_, _, _])) rfl rfl rfl (by omega) rfl rfl gvo (by simp [Value.oneCell', cDl]) (by simp [maxLen]; omega) (by simp; omega) fun v85 => ?_ | refine Kp.St_append tb rfl rfl rfl (perm_front (pre := [_, _, _, _])) rfl rfl rfl (by omega) rfl rfl gvo (by simp [Value.oneCell', cDl]) (by simp [maxLen]; omega) (by simp; omega) fun v85 => ?_
 refine Kp.Zq rfl (q_field tb rfl rfl rfl) ?_
 refine Kp.Z_s ?_
 first | refine Kp.St_append tb rfl rfl rfl (List.Perm.refl _) rfl rfl rfl (by omega) rfl rfl gvo (by simp [Value.oneCell']) (by simp [maxLen]; omega) (by simp; omega) fun v91 => ?_ | refine Kp.St_append tb rfl rfl rfl perm1 rfl rfl rfl (by omega) rfl rfl gvo (by simp [Value.oneCell']) (by simp [maxLen]; omega) (by simp; omega) fun v91 => ?_ | refine Kp.St_append tb rfl rfl rfl Kp.perm2 rfl rfl rfl (by omega) rfl rfl gvo (by simp [Value.oneCell']) (by simp [maxLen]; omega) (by simp; omega) fun v91 => ?_ | refine Kp.St_append tb rfl rfl rfl Kp.perm3 rfl rfl rfl (by omega) rfl rfl gvo (by simp [Value.oneCell']) (by simp [maxLen]; omega) (by simp; omega) fun v91 => ?_ | refine Kp.St_append tb rfl rfl rfl (perm_front (pre := [_, _])) rfl rfl rfl (by omega) rfl rfl gvo (by simp [Value.oneCell']) (by simp [maxLen]; omega) (by simp; omega) fun v91 => ?_ | refine Kp.St_append tb rfl rfl rfl (perm_front (pre := [_, _, _])) rfl rfl rfl (by omega) rfl rfl gvo (by simp [Value.oneCell']) (by simp [maxLen]; omega) (by simp; omega) fun v91 => ?_ | refine Kp.St_append tb rfl rfl rfl (perm_front (pre := [_, _, _, _])) rfl rfl rfl (by omega) rfl rfl gvo (by simp [Value.oneCell']) (by simp [maxLen]; omega) (by simp; omega) fun v91 => ?_
 refine Kp.Z_nil ?_
 try dsimp only [List.append, List.cons_append, List.nil_append]
 exact ⟨(v85, v91), fun a_ w_ hs_ => hs_.weak ⟨rfl, rfl, rfl, rfl, rfl, rfl, rfl, trivial⟩ (fun h_ => h_.pk (by repeat (first | with_reducible exact pk_nil | refine pk_box (by first | rfl | exact (dl_snoc _ _) | exact (ci_snoc _ _)) ?_ | refine pk_rd rfl ?_ | refine pk_sl (by first | rfl | exact (dl_snoc _ _) | exact (ci_snoc _ _)) ?_ | with_reducible refine pk_app ?_ | with_reducible refine pk_app0 ?_ | with_reducible refine pk_app0L ?_ | with_reducible exact pk_tl | refine pk_var ?_)))⟩
 (rintro ⟨v85, v91⟩; dsimp only; refine L_form (v := v85) gvo (fun A85 c85 hv85 _ => ?_); subst hv85; refine L_form (v := v91) gvo (fun A91 c91 hv91 _ => ?_); subst hv91)
 refine L_st tb rfl rfl ?_
 refine Jq (q_field tb rfl rfl rfl) ?_
 refine L_st tb rfl rfl ?_
 refine L_blk ?_
 refine C_region ?_
 refine Jq (q_move rfl) ?_
 refine Jq (q_add rfl rfl (by first | exact IntWalk.i64_in _ (by omega) | rfl)) ?_
 refine Jq (q_assign rfl) ?_
 refine L_end ?_
 exact fun ac_ wo_ hs_ => ⟨(k + 1, L ++ [z], F ++ [f], .slice A85 ((L ++ [z]).map cDl).length c85, .slice A91 ((F ++ [f]).map cI).length c91), ⟨by dsimp only; omega, by dsimp only; rw [List.length_append, hL]; rfl, by dsimp only; rw [List.length_append, hF]; rfl, hG.trans (by rw [hd2, parF_y hz]; dsimp only; rw [hd1]; rfl)⟩, (by dsimp only; omega), hs_.weak ⟨rfl, rfl, rfl, rfl, trivial⟩ (fun h_ => h_.pk (by repeat (first | with_reducible exact pk_nil | refine pk_box rfl ?_ | refine pk_rd rfl ?_ | refine pk_sl rfl ?_ | with_reducible refine pk_app ?_ | with_reducible refine pk_app0 ?_ | with_reducible refine pk_app0L ?_ | with_reducible exact pk_tl | refine pk_var ?_)))⟩
 iterate 2 refine Jk ?_
 refine Jq (q_pickF rfl rfl) ?_
 refine L_then ?_
 refine C_false rfl ?_
 refine C_exit ?_
 change C Tryz.prog _ _ _ _ _ _ _
 refine C_seq ?_
 refine C_seq ?_
 refine C_region ?_
 refine Jq (q_move rfl) ?_
 refine Jq (q_not rfl (by first | exact (rfl : (!true) = false) | exact (rfl : (!false) = true) | exact decide_not.symm | rfl)) ?_
 refine L_then ?_
 refine C_bool rfl (fun h71 => ?_) (fun h71 => ?_)
 refine C_seq ?_
 refine C_region ?_
 refine Jq (by first | exact q_build tb rfl rfl rfl rfl | exact q_buildArr tb rfl rfl rfl rfl rfl) ?_
 refine Jq (q_move rfl) ?_
 refine Jq (q_add rfl rfl (by first | exact IntWalk.i64_in _ (by omega) | rfl)) ?_
 refine L_st tb rfl rfl ?_
 refine Jq (q_assign rfl) ?_
 refine Jq (q_assign rfl) ?_
 refine L_then ?_
 refine C_ret ?_
 rw [parA_7f (show ¬ t.length > 60000 by omega) (hG.trans (by rw [hd2]; exact parF_n (hn (by simpa using h71))))]
 exact ret_of (rs' := [sl nilS 117 3 [], sl nilS 3 1 []]) (resATT tb rfl rfl rfl rfl rfl bxo rfl) (fun w_ h_ => ws_nil (ws_nil (sub_nil w_ h_))) own2 ⟨none, none, 0, 0, 0, 0, rfl, rfl⟩
 exfalso
 simp [h53] at h71
 have h5 : (cutF 32 [] p).length ≠ 5 := by have := len_map cT (cutF 32 [] p); omega
 iterate 4 refine Jk ?_
 refine Jq (q_pickF rfl rfl) ?_
 refine Jq (q_assign rfl) ?_
 refine L_then ?_
 refine C_seq ?_
 refine C_seq ?_
 refine C_region ?_
 refine Jq (q_assign rfl) ?_
 refine L_then ?_
 refine C_block ?_
 refine C_res (rs' := [box g9 143 [.int .i64 0, .int .i64 0, .int .i64 0, .int .i64 0], sl v42 9 1 ((cutF 32 [] p).map cT), sl (.slice A8 (L.map cDl).length c8) 117 3 (L.map cDl), sl (.slice B8 (F.map cI).length d8) 3 1 (F.map cI), box g6 80 [(.slice A8 (L.map cDl).length c8), (.slice B8 (F.map cI).length d8)], sl v18 9 1 ((cutF 10 [] t).map cT), box g2 80 [nilS, nilS]]) (fun _ h_ => h_.pk (by repeat (first | with_reducible exact pk_nil | refine pk_box rfl ?_ | refine pk_rd rfl ?_ | refine pk_sl rfl ?_ | with_reducible refine pk_app ?_ | with_reducible refine pk_app0 ?_ | with_reducible refine pk_app0L ?_ | with_reducible exact pk_tl | refine pk_var ?_))) ?_
 refine C_loop (ι := Nat × Dl × Int × Bool) (fun q9 => ([(2, .pointer (some ⟨g2, 0, none⟩)), (5, v18), (6, .pointer (some ⟨g6, 0, none⟩)), (7, .int .i64 (k : Int)), (8, v42), (9, .pointer (some ⟨g9, 0, none⟩)), (10, .bool q9.2.2.2), (11, .int .i64 ((q9.1 : Int)))], [box g9 143 [.int .i64 q9.2.1.s, .int .i64 q9.2.1.d, .int .i64 q9.2.1.g, .int .i64 q9.2.2.1], sl v42 9 1 ((cutF 32 [] p).map cT), sl (.slice A8 (L.map cDl).length c8) 117 3 (L.map cDl), sl (.slice B8 (F.map cI).length d8) 3 1 (F.map cI), box g6 80 [(.slice A8 (L.map cDl).length c8), (.slice B8 (F.map cI).length d8)], sl v18 9 1 ((cutF 10 [] t).map cT), box g2 80 [nilS, nilS]])) (fun q9 => q9.1 ≤ 4 ∧ (q9.2.2.2 = true → (cutF 32 [] p).length = 5 ∧ wA (cutF 32 [] p) 0 = tLeg ∧ (0 < q9.1 → numM (wA (cutF 32 [] p) 1) 7 = some q9.2.1.s) ∧ (1 < q9.1 → numM (wA (cutF 32 [] p) 2) 7 = some q9.2.1.d) ∧ (2 < q9.1 → numM (wA (cutF 32 [] p) 3) 7 = some q9.2.1.g) ∧ (3 < q9.1 → numM (wA (cutF 32 [] p) 4) 7 = some q9.2.2.1)) ∧ (q9.2.2.2 = false → lnR p = none)) (fun q9 => 4 - q9.1) (0, ⟨0, 0, 0⟩, 0, false) ⟨Nat.zero_le _, (fun hh => by cases hh), fun _ => lnR_5 h5⟩ (fun a w hs => hs.weak ⟨rfl, rfl, rfl, rfl, rfl, rfl, rfl, rfl, trivial⟩ (fun h => h.pk (by repeat (first | with_reducible exact pk_nil | refine pk_box rfl ?_ | refine pk_rd rfl ?_ | refine pk_sl rfl ?_ | with_reducible refine pk_app ?_ | with_reducible refine pk_app0 ?_ | with_reducible refine pk_app0L ?_ | with_reducible exact pk_tl | refine pk_var ?_)))) ?_
 rintro ⟨j, z, f, b⟩ ⟨hj, hy, hn⟩
 dsimp only at hj hy hn ⊢
 refine C_seq ?_
 refine C_seq ?_
 refine C_region ?_
 refine Jq (q_move rfl) ?_
 refine Jq (q_move rfl) ?_
 refine L_bool (d := 53) rfl (fun h53 => ?_) (fun h53 => ?_)
 refine Jg (q_move rfl) ?_
 refine Jg (q_lss rfl rfl) ?_
 refine Jq (q_pickT rfl rfl) ?_
 refine L_then ?_
 refine C_dec rfl (fun h13 => ?_) (fun h13 => ?_)
 have hb9 : b = true := h53
 obtain ⟨h5, h0, _⟩ := hy hb9
 obtain rfl | rfl | rfl | rfl : j = 0 ∨ j = 1 ∨ j = 2 ∨ j = 3 := by omega
 refine C_skip_then ?_
 refine C_seq ?_
 refine C_block ?_
 refine C_region ?_
 refine Jq (q_move rfl) ?_
 refine Jq (q_move rfl) ?_
 refine Jq (q_move rfl) ?_
 refine Jq (q_add rfl rfl (by first | exact IntWalk.i64_in _ (by omega) | rfl)) ?_
 refine Jq (by first | exact q_index tb rfl rfl rfl rfl gvo (by omega) (by first | omega | (simp; done) | (simp; omega)) | exact q_indexP tb rfl rfl rfl rfl (by omega) (by omega)) ?_
 refine Jq (q_loadE tb rfl rfl gvo (i := 1) (o := 0) (by omega) (map_get cT (wA_get (by omega))) rfl) ?_
 refine L_call tb rfl rfl (ct_shotlinebase_Number (wA (cutF 32 [] p) 1) 7 (by have := cutF_le (m := 32) p [] _ (List.mem_of_getElem? (wA_get (w := (cutF 32 [] p)) (i := 1) (by omega))); have := cutF_le (m := 10) t [] p (List.mem_of_getElem? hp); simp at *; omega) (by decide)) no_ps rfl ?_
 refine Jq (q_move rfl) ?_
 refine Jq (q_ext0 rfl) ?_
 refine Jq (q_ext1 rfl) ?_
 refine Jq (by first | exact q_index tb rfl rfl rfl rfl gvo (by omega) (by first | omega | (simp; done) | (simp; omega)) | exact q_indexP tb rfl rfl rfl rfl (by omega) (by omega)) ?_
 refine L_st tb rfl rfl ?_
 refine Jq (q_assign rfl) ?_
 refine L_blk ?_
 refine C_region ?_
 refine Jq (q_move rfl) ?_
 refine Jq (q_add rfl rfl (by first | exact IntWalk.i64_in _ (by omega) | rfl)) ?_
 refine Jq (q_assign rfl) ?_
 refine L_end ?_
 exact fun ac_ wo_ hs_ => ⟨(1, (⟨((numM (wA (cutF 32 [] p) 1) 7).getD 0), z.d, z.g⟩, f, (numM (wA (cutF 32 [] p) 1) 7).isSome)), ⟨by dsimp only; omega, fun hok => ⟨h5, h0, (fun _ => some_get hok), (fun h => by dsimp only at h; omega), (fun h => by dsimp only at h; omega), (fun h => by dsimp only at h; omega)⟩, fun hno => lnR_n h5 (i := 0) (by decide) hno⟩, (by dsimp only; omega), hs_.weak ⟨rfl, rfl, rfl, rfl, rfl, rfl, rfl, rfl, trivial⟩ (fun h_ => h_.pk (by repeat (first | with_reducible exact pk_nil | refine pk_box rfl ?_ | refine pk_rd rfl ?_ | refine pk_sl rfl ?_ | with_reducible refine pk_app ?_ | with_reducible refine pk_app0 ?_ | with_reducible refine pk_app0L ?_ | with_reducible exact pk_tl | refine pk_var ?_)))⟩
 refine C_skip_then ?_
 refine C_seq ?_
 refine C_block ?_
 refine C_region ?_
 refine Jq (q_move rfl) ?_
 refine Jq (q_move rfl) ?_
 refine Jq (q_move rfl) ?_
 refine Jq (q_add rfl rfl (by first | exact IntWalk.i64_in _ (by omega) | rfl)) ?_
 refine Jq (by first | exact q_index tb rfl rfl rfl rfl gvo (by omega) (by first | omega | (simp; done) | (simp; omega)) | exact q_indexP tb rfl rfl rfl rfl (by omega) (by omega)) ?_
 refine Jq (q_loadE tb rfl rfl gvo (i := 2) (o := 0) (by omega) (map_get cT (wA_get (by omega))) rfl) ?_
 refine L_call tb rfl rfl (ct_shotlinebase_Number (wA (cutF 32 [] p) 2) 7 (by have := cutF_le (m := 32) p [] _ (List.mem_of_getElem? (wA_get (w := (cutF 32 [] p)) (i := 2) (by omega))); have := cutF_le (m := 10) t [] p (List.mem_of_getElem? hp); simp at *; omega) (by decide)) no_ps rfl ?_
 refine Jq (q_move rfl) ?_
 refine Jq (q_ext0 rfl) ?_
 refine Jq (q_ext1 rfl) ?_
 refine Jq (by first | exact q_index tb rfl rfl rfl rfl gvo (by omega) (by first | omega | (simp; done) | (simp; omega)) | exact q_indexP tb rfl rfl rfl rfl (by omega) (by omega)) ?_
 refine L_st tb rfl rfl ?_
 refine Jq (q_assign rfl) ?_
 refine L_blk ?_
 refine C_region ?_
 refine Jq (q_move rfl) ?_
 refine Jq (q_add rfl rfl (by first | exact IntWalk.i64_in _ (by omega) | rfl)) ?_
 refine Jq (q_assign rfl) ?_
 refine L_end ?_
 exact fun ac_ wo_ hs_ => ⟨(2, (⟨z.s, ((numM (wA (cutF 32 [] p) 2) 7).getD 0), z.g⟩, f, (numM (wA (cutF 32 [] p) 2) 7).isSome)), ⟨by dsimp only; omega, fun hok => ⟨h5, h0, (fun _ => (hy hb9).2.2.1 (by omega)), (fun _ => some_get hok), (fun h => by dsimp only at h; omega), (fun h => by dsimp only at h; omega)⟩, fun hno => lnR_n h5 (i := 1) (by decide) hno⟩, (by dsimp only; omega), hs_.weak ⟨rfl, rfl, rfl, rfl, rfl, rfl, rfl, rfl, trivial⟩ (fun h_ => h_.pk (by repeat (first | with_reducible exact pk_nil | refine pk_box rfl ?_ | refine pk_rd rfl ?_ | refine pk_sl rfl ?_ | with_reducible refine pk_app ?_ | with_reducible refine pk_app0 ?_ | with_reducible refine pk_app0L ?_ | with_reducible exact pk_tl | refine pk_var ?_)))⟩
 refine C_skip_then ?_
 refine C_seq ?_
 refine C_block ?_
 refine C_region ?_
 refine Jq (q_move rfl) ?_
 refine Jq (q_move rfl) ?_
 refine Jq (q_move rfl) ?_
 refine Jq (q_add rfl rfl (by first | exact IntWalk.i64_in _ (by omega) | rfl)) ?_
 refine Jq (by first | exact q_index tb rfl rfl rfl rfl gvo (by omega) (by first | omega | (simp; done) | (simp; omega)) | exact q_indexP tb rfl rfl rfl rfl (by omega) (by omega)) ?_
 refine Jq (q_loadE tb rfl rfl gvo (i := 3) (o := 0) (by omega) (map_get cT (wA_get (by omega))) rfl) ?_
 refine L_call tb rfl rfl (ct_shotlinebase_Number (wA (cutF 32 [] p) 3) 7 (by have := cutF_le (m := 32) p [] _ (List.mem_of_getElem? (wA_get (w := (cutF 32 [] p)) (i := 3) (by omega))); have := cutF_le (m := 10) t [] p (List.mem_of_getElem? hp); simp at *; omega) (by decide)) no_ps rfl ?_
 refine Jq (q_move rfl) ?_
 refine Jq (q_ext0 rfl) ?_
 refine Jq (q_ext1 rfl) ?_
 refine Jq (by first | exact q_index tb rfl rfl rfl rfl gvo (by omega) (by first | omega | (simp; done) | (simp; omega)) | exact q_indexP tb rfl rfl rfl rfl (by omega) (by omega)) ?_
 refine L_st tb rfl rfl ?_
 refine Jq (q_assign rfl) ?_
 refine L_blk ?_
 refine C_region ?_
 refine Jq (q_move rfl) ?_
 refine Jq (q_add rfl rfl (by first | exact IntWalk.i64_in _ (by omega) | rfl)) ?_
 refine Jq (q_assign rfl) ?_
 refine L_end ?_
 exact fun ac_ wo_ hs_ => ⟨(3, (⟨z.s, z.d, ((numM (wA (cutF 32 [] p) 3) 7).getD 0)⟩, f, (numM (wA (cutF 32 [] p) 3) 7).isSome)), ⟨by dsimp only; omega, fun hok => ⟨h5, h0, (fun _ => (hy hb9).2.2.1 (by omega)), (fun _ => (hy hb9).2.2.2.1 (by omega)), (fun _ => some_get hok), (fun h => by dsimp only at h; omega)⟩, fun hno => lnR_n h5 (i := 2) (by decide) hno⟩, (by dsimp only; omega), hs_.weak ⟨rfl, rfl, rfl, rfl, rfl, rfl, rfl, rfl, trivial⟩ (fun h_ => h_.pk (by repeat (first | with_reducible exact pk_nil | refine pk_box rfl ?_ | refine pk_rd rfl ?_ | refine pk_sl rfl ?_ | with_reducible refine pk_app ?_ | with_reducible refine pk_app0 ?_ | with_reducible refine pk_app0L ?_ | with_reducible exact pk_tl | refine pk_var ?_)))⟩
 refine C_skip_then ?_
 refine C_seq ?_
 refine C_block ?_
 refine C_region ?_
 refine Jq (q_move rfl) ?_
 refine Jq (q_move rfl) ?_
 refine Jq (q_move rfl) ?_
 refine Jq (q_add rfl rfl (by first | exact IntWalk.i64_in _ (by omega) | rfl)) ?_
 refine Jq (by first | exact q_index tb rfl rfl rfl rfl gvo (by omega) (by first | omega | (simp; done) | (simp; omega)) | exact q_indexP tb rfl rfl rfl rfl (by omega) (by omega)) ?_
 refine Jq (q_loadE tb rfl rfl gvo (i := 4) (o := 0) (by omega) (map_get cT (wA_get (by omega))) rfl) ?_
 refine L_call tb rfl rfl (ct_shotlinebase_Number (wA (cutF 32 [] p) 4) 7 (by have := cutF_le (m := 32) p [] _ (List.mem_of_getElem? (wA_get (w := (cutF 32 [] p)) (i := 4) (by omega))); have := cutF_le (m := 10) t [] p (List.mem_of_getElem? hp); simp at *; omega) (by decide)) no_ps rfl ?_
 refine Jq (q_move rfl) ?_
 refine Jq (q_ext0 rfl) ?_
 refine Jq (q_ext1 rfl) ?_
 refine Jq (by first | exact q_index tb rfl rfl rfl rfl gvo (by omega) (by first | omega | (simp; done) | (simp; omega)) | exact q_indexP tb rfl rfl rfl rfl (by omega) (by omega)) ?_
 refine L_st tb rfl rfl ?_
 refine Jq (q_assign rfl) ?_
 refine L_blk ?_
 refine C_region ?_
 refine Jq (q_move rfl) ?_
 refine Jq (q_add rfl rfl (by first | exact IntWalk.i64_in _ (by omega) | rfl)) ?_
 refine Jq (q_assign rfl) ?_
 refine L_end ?_
 exact fun ac_ wo_ hs_ => ⟨(4, (z, ((numM (wA (cutF 32 [] p) 4) 7).getD 0), (numM (wA (cutF 32 [] p) 4) 7).isSome)), ⟨by dsimp only; omega, fun hok => ⟨h5, h0, (fun _ => (hy hb9).2.2.1 (by omega)), (fun _ => (hy hb9).2.2.2.1 (by omega)), (fun _ => (hy hb9).2.2.2.2.1 (by omega)), (fun _ => some_get hok)⟩, fun hno => lnR_n h5 (i := 3) (by decide) hno⟩, (by dsimp only; omega), hs_.weak ⟨rfl, rfl, rfl, rfl, rfl, rfl, rfl, rfl, trivial⟩ (fun h_ => h_.pk (by repeat (first | with_reducible exact pk_nil | refine pk_box rfl ?_ | refine pk_rd rfl ?_ | refine pk_sl rfl ?_ | with_reducible refine pk_app ?_ | with_reducible refine pk_app0 ?_ | with_reducible refine pk_app0L ?_ | with_reducible exact pk_tl | refine pk_var ?_)))⟩
 refine C_exit ?_
 change C Tryz.prog _ _ _ _ _ _ _
 refine C_seq ?_
 refine C_seq ?_
 refine C_region ?_
 refine Jq (q_move rfl) ?_
 refine Jq (q_not rfl (by first | exact (rfl : (!true) = false) | exact (rfl : (!false) = true) | exact decide_not.symm | rfl)) ?_
 refine L_then ?_
 refine C_bool rfl (fun h71 => ?_) (fun h71 => ?_)
 exfalso
 simp [h53] at h71
 have hb : b = true := by simpa using h71
 obtain ⟨h5, h0, i1, i2, i3, i4⟩ := hy hb
 have hz := lnR_y h5 h0 (i1 (by omega)) (i2 (by omega)) (i3 (by omega)) (i4 (by omega))
 refine C_skip_then ?_
 refine C_res (rs' := [sl (.slice A8 (L.map cDl).length c8) 117 3 (L.map cDl), sl (.slice B8 (F.map cI).length d8) 3 1 (F.map cI), box g6 80 [(.slice A8 (L.map cDl).length c8), (.slice B8 (F.map cI).length d8)], box g9 143 [.int .i64 z.s, .int .i64 z.d, .int .i64 z.g, .int .i64 f], sl v18 9 1 ((cutF 10 [] t).map cT), box g2 80 [nilS, nilS]]) (fun _ h => h.pk (by repeat (first | with_reducible exact pk_nil | refine pk_box rfl ?_ | refine pk_rd rfl ?_ | refine pk_sl rfl ?_ | with_reducible refine pk_app ?_ | with_reducible refine pk_app0 ?_ | with_reducible refine pk_app0L ?_ | with_reducible exact pk_tl | refine pk_var ?_))) ?_
 refine Kp.C_treeH2 (n := 18) (ι := Value × Value) (.q 0 (.q 1 (.q 2 (.q 3 (.q 4 (.q 5 (.q 6 (.q 7 (.q 8 (.q 11 (.q 12 (.q 13 (.q 14 (.s2 9 15 (.s2 10 15 (.q 17 (.s 15 (.s 16 .nil))) (.s 10 (.q 17 (.s 16 .nil)))) (.s 9 (.s 10 (.q 17 (.s 16 .nil)))))))))))))))))) (fun q => ([(2, .pointer (some ⟨g2, 0, none⟩)), (5, v18), (6, .pointer (some ⟨g6, 0, none⟩)), (7, .int .i64 (k : Int)), (85, q.1), (91, q.2), (92, .pointer (some ⟨g6, 0, none⟩))], [box g6 80 [(.slice A8 (L.map cDl).length c8), (.slice B8 (F.map cI).length d8)], sl q.1 117 3 ((L ++ [z]).map cDl), sl q.2 3 1 ((F ++ [f]).map cI), sl v18 9 1 ((cutF 10 [] t).map cT), box g2 80 [nilS, nilS]])) mixed (by kernel_rfl) ?_ ?_
 refine Kp.Zq rfl (q_field tb rfl rfl rfl) ?_
 refine Kp.Zq rfl (q_load tb rfl rfl bxo rfl) ?_
 refine Kp.Zq rfl (by first | exact q_index tb rfl rfl rfl rfl gvo (by omega) (by first | omega | (simp; done) | (simp; omega)) | exact q_indexP tb rfl rfl rfl rfl (by omega) (by omega)) ?_
 refine Kp.Zq rfl (by first | exact q_load tb rfl rfl bxo rfl | exact q_loadE tb rfl rfl gvo (by omega) (by simp) rfl) ?_
 refine Kp.Zq rfl (by first | exact q_index tb rfl rfl rfl rfl gvo (by omega) (by first | omega | (simp; done) | (simp; omega)) | exact q_indexP tb rfl rfl rfl rfl (by omega) (by omega)) ?_
 refine Kp.Zq rfl (by first | exact q_load tb rfl rfl bxo rfl | exact q_loadE tb rfl rfl gvo (by omega) (by simp) rfl) ?_
 refine Kp.Zq rfl (by first | exact q_index tb rfl rfl rfl rfl gvo (by omega) (by first | omega | (simp; done) | (simp; omega)) | exact q_indexP tb rfl rfl rfl rfl (by omega) (by omega)) ?_
 refine Kp.Zq rfl (by first | exact q_load tb rfl rfl bxo rfl | exact q_loadE tb rfl rfl gvo (by omega) (by simp) rfl) ?_
 refine Kp.Zq rfl (by first | exact q_build tb rfl rfl rfl rfl | exact q_buildArr tb rfl rfl rfl rfl rfl) ?_
 refine Kp.Zq rfl (q_field tb rfl rfl rfl) ?_
 refine Kp.Zq rfl (q_load tb rfl rfl bxo rfl) ?_
 refine Kp.Zq rfl (by first | exact q_index tb rfl rfl rfl rfl gvo (by omega) (by first | omega | (simp; done) | (simp; omega)) | exact q_indexP tb rfl rfl rfl rfl (by omega) (by omega)) ?_
 refine Kp.Zq rfl (by first | exact q_load tb rfl rfl bxo rfl | exact q_loadE tb rfl rfl gvo (by omega) (by simp) rfl) ?_
 refine Kp.Z_s2 ?_ ?_
 refine Kp.St_mk rfl rfl rfl rfl (lo_bslice tb rfl rfl rfl (xs := [cDl z]) rfl rfl (by simp [cDl]) rfl (by omega) rfl) fun v84 => ?_
 refine Kp.Z_s2 ?_ ?_
 first | refine Kp.St_append tb rfl rfl rfl (List.Perm.refl _) rfl rfl rfl (by omega) rfl rfl gvo (by simp [Value.oneCell', cDl]) (by simp [maxLen]; omega) (by simp; omega) fun v85 => ?_ | refine Kp.St_append tb rfl rfl rfl perm1 rfl rfl rfl (by omega) rfl rfl gvo (by simp [Value.oneCell', cDl]) (by simp [maxLen]; omega) (by simp; omega) fun v85 => ?_ | refine Kp.St_append tb rfl rfl rfl Kp.perm2 rfl rfl rfl (by omega) rfl rfl gvo (by simp [Value.oneCell', cDl]) (by simp [maxLen]; omega) (by simp; omega) fun v85 => ?_ | refine Kp.St_append tb rfl rfl rfl Kp.perm3 rfl rfl rfl (by omega) rfl rfl gvo (by simp [Value.oneCell', cDl]) (by simp [maxLen]; omega) (by simp; omega) fun v85 => ?_ | refine Kp.St_append tb rfl rfl rfl (perm_front (pre := [_, _])) rfl rfl rfl (by omega) rfl rfl gvo (by simp [Value.oneCell', cDl]) (by simp [maxLen]; omega) (by simp; omega) fun v85 => ?_ | refine Kp.St_append tb rfl rfl rfl (perm_front (pre := [_, _, _])) rfl rfl rfl (by omega) rfl rfl gvo (by simp [Value.oneCell', cDl]) (by simp [maxLen]; omega) (by simp; omega) fun v85 => ?_ | refine Kp.St_append tb rfl rfl rfl (perm_front (pre := [_, _, _, _])) rfl rfl rfl (by omega) rfl rfl gvo (by simp [Value.oneCell', cDl]) (by simp [maxLen]; omega) (by simp; omega) fun v85 => ?_
 refine Kp.Zq rfl (q_field tb rfl rfl rfl) ?_
 refine Kp.Z_s ?_
 refine Kp.St_mk rfl rfl rfl rfl (lo_bslice tb rfl rfl rfl (xs := [[_]]) rfl rfl (by simp) rfl (by omega) rfl) fun v90 => ?_
 refine Kp.Z_s ?_
 first | refine Kp.St_append tb rfl rfl rfl (List.Perm.refl _) rfl rfl rfl (by omega) rfl rfl gvo (by simp [Value.oneCell']) (by simp [maxLen]; omega) (by simp; omega) fun v91 => ?_ | refine Kp.St_append tb rfl rfl rfl perm1 rfl rfl rfl (by omega) rfl rfl gvo (by simp [Value.oneCell']) (by simp [maxLen]; omega) (by simp; omega) fun v91 => ?_ | refine Kp.St_append tb rfl rfl rfl Kp.perm2 rfl rfl rfl (by omega) rfl rfl gvo (by simp [Value.oneCell']) (by simp [maxLen]; omega) (by simp; omega) fun v91 => ?_ | refine Kp.St_append tb rfl rfl rfl Kp.perm3 rfl rfl rfl (by omega) rfl rfl gvo (by simp [Value.oneCell']) (by simp [maxLen]; omega) (by simp; omega) fun v91 => ?_ | refine Kp.St_append tb rfl rfl rfl (perm_front (pre := [_, _])) rfl rfl rfl (by omega) rfl rfl gvo (by simp [Value.oneCell']) (by simp [maxLen]; omega) (by simp; omega) fun v91 => ?_ | refine Kp.St_append tb rfl rfl rfl (perm_front (pre := [_, _, _])) rfl rfl rfl (by omega) rfl rfl gvo (by simp [Value.oneCell']) (by simp [maxLen]; omega) (by simp; omega) fun v91 => ?_ | refine Kp.St_append tb rfl rfl rfl (perm_front (pre := [_, _, _, _])) rfl rfl rfl (by omega) rfl rfl gvo (by simp [Value.oneCell']) (by simp [maxLen]; omega) (by simp; omega) fun v91 => ?_
 refine Kp.Z_nil ?_
 try dsimp only [List.append, List.cons_append, List.nil_append]
 exact ⟨(v85, v91), fun a_ w_ hs_ => hs_.weak ⟨rfl, rfl, rfl, rfl, rfl, rfl, rfl, trivial⟩ (fun h_ => h_.pk (by repeat (first | with_reducible exact pk_nil | refine pk_box (by first | rfl | exact (dl_snoc _ _) | exact (ci_snoc _ _)) ?_ | refine pk_rd rfl ?_ | refine pk_sl (by first | rfl | exact (dl_snoc _ _) | exact (ci_snoc _ _)) ?_ | with_reducible refine pk_app ?_ | with_reducible refine pk_app0 ?_ | with_reducible refine pk_app0L ?_ | with_reducible exact pk_tl | refine pk_var ?_)))⟩
 refine Kp.St_mk rfl rfl rfl rfl (lo_bslice tb rfl rfl rfl (xs := [[_]]) rfl rfl (by simp) rfl (by omega) rfl) fun v90 => ?_
 refine Kp.Z_s ?_
 first | refine Kp.St_append tb rfl rfl rfl (List.Perm.refl _) rfl rfl rfl (by omega) rfl rfl gvo (by simp [Value.oneCell', cDl]) (by simp [maxLen]; omega) (by simp; omega) fun v85 => ?_ | refine Kp.St_append tb rfl rfl rfl perm1 rfl rfl rfl (by omega) rfl rfl gvo (by simp [Value.oneCell', cDl]) (by simp [maxLen]; omega) (by simp; omega) fun v85 => ?_ | refine Kp.St_append tb rfl rfl rfl Kp.perm2 rfl rfl rfl (by omega) rfl rfl gvo (by simp [Value.oneCell', cDl]) (by simp [maxLen]; omega) (by simp; omega) fun v85 => ?_ | refine Kp.St_append tb rfl rfl rfl Kp.perm3 rfl rfl rfl (by omega) rfl rfl gvo (by simp [Value.oneCell', cDl]) (by simp [maxLen]; omega) (by simp; omega) fun v85 => ?_ | refine Kp.St_append tb rfl rfl rfl (perm_front (pre := [_, _])) rfl rfl rfl (by omega) rfl rfl gvo (by simp [Value.oneCell', cDl]) (by simp [maxLen]; omega) (by simp; omega) fun v85 => ?_ | refine Kp.St_append tb rfl rfl rfl (perm_front (pre := [_, _, _])) rfl rfl rfl (by omega) rfl rfl gvo (by simp [Value.oneCell', cDl]) (by simp [maxLen]; omega) (by simp; omega) fun v85 => ?_ | refine Kp.St_append tb rfl rfl rfl (perm_front (pre := [_, _, _, _])) rfl rfl rfl (by omega) rfl rfl gvo (by simp [Value.oneCell', cDl]) (by simp [maxLen]; omega) (by simp; omega) fun v85 => ?_
 refine Kp.Zq rfl (q_field tb rfl rfl rfl) ?_
 refine Kp.Z_s ?_
 first | refine Kp.St_append tb rfl rfl rfl (List.Perm.refl _) rfl rfl rfl (by omega) rfl rfl gvo (by simp [Value.oneCell']) (by simp [maxLen]; omega) (by simp; omega) fun v91 => ?_ | refine Kp.St_append tb rfl rfl rfl perm1 rfl rfl rfl (by omega) rfl rfl gvo (by simp [Value.oneCell']) (by simp [maxLen]; omega) (by simp; omega) fun v91 => ?_ | refine Kp.St_append tb rfl rfl rfl Kp.perm2 rfl rfl rfl (by omega) rfl rfl gvo (by simp [Value.oneCell']) (by simp [maxLen]; omega) (by simp; omega) fun v91 => ?_ | refine Kp.St_append tb rfl rfl rfl Kp.perm3 rfl rfl rfl (by omega) rfl rfl gvo (by simp [Value.oneCell']) (by simp [maxLen]; omega) (by simp; omega) fun v91 => ?_ | refine Kp.St_append tb rfl rfl rfl (perm_front (pre := [_, _])) rfl rfl rfl (by omega) rfl rfl gvo (by simp [Value.oneCell']) (by simp [maxLen]; omega) (by simp; omega) fun v91 => ?_ | refine Kp.St_append tb rfl rfl rfl (perm_front (pre := [_, _, _])) rfl rfl rfl (by omega) rfl rfl gvo (by simp [Value.oneCell']) (by simp [maxLen]; omega) (by simp; omega) fun v91 => ?_ | refine Kp.St_append tb rfl rfl rfl (perm_front (pre := [_, _, _, _])) rfl rfl rfl (by omega) rfl rfl gvo (by simp [Value.oneCell']) (by simp [maxLen]; omega) (by simp; omega) fun v91 => ?_
 refine Kp.Z_nil ?_
 try dsimp only [List.append, List.cons_append, List.nil_append]
 exact ⟨(v85, v91), fun a_ w_ hs_ => hs_.weak ⟨rfl, rfl, rfl, rfl, rfl, rfl, rfl, trivial⟩ (fun h_ => h_.pk (by repeat (first | with_reducible exact pk_nil | refine pk_box (by first | rfl | exact (dl_snoc _ _) | exact (ci_snoc _ _)) ?_ | refine pk_rd rfl ?_ | refine pk_sl (by first | rfl | exact (dl_snoc _ _) | exact (ci_snoc _ _)) ?_ | with_reducible refine pk_app ?_ | with_reducible refine pk_app0 ?_ | with_reducible refine pk_app0L ?_ | with_reducible exact pk_tl | refine pk_var ?_)))⟩
 refine Kp.St_mk rfl rfl rfl rfl (lo_bslice tb rfl rfl rfl (xs := [[_]]) rfl rfl (by simp) rfl (by omega) rfl) fun v90 => ?_
 refine Kp.Z_s ?_
 refine Kp.St_mk rfl rfl rfl rfl (lo_bslice tb rfl rfl rfl (xs := [cDl z]) rfl rfl (by simp [cDl]) rfl (by omega) rfl) fun v84 => ?_
 refine Kp.Z_s ?_
 first | refine Kp.St_append tb rfl rfl rfl (List.Perm.refl _) rfl rfl rfl (by omega) rfl rfl gvo (by simp [Value.oneCell', cDl]) (by simp [maxLen]; omega) (by simp; omega) fun v85 => ?_ | refine Kp.St_append tb rfl rfl rfl perm1 rfl rfl rfl (by omega) rfl rfl gvo (by simp [Value.oneCell', cDl]) (by simp [maxLen]; omega) (by simp; omega) fun v85 => ?_ | refine Kp.St_append tb rfl rfl rfl Kp.perm2 rfl rfl rfl (by omega) rfl rfl gvo (by simp [Value.oneCell', cDl]) (by simp [maxLen]; omega) (by simp; omega) fun v85 => ?_ | refine Kp.St_append tb rfl rfl rfl Kp.perm3 rfl rfl rfl (by omega) rfl rfl gvo (by simp [Value.oneCell', cDl]) (by simp [maxLen]; omega) (by simp; omega) fun v85 => ?_ | refine Kp.St_append tb rfl rfl rfl (perm_front (pre := [_, _])) rfl rfl rfl (by omega) rfl rfl gvo (by simp [Value.oneCell', cDl]) (by simp [maxLen]; omega) (by simp; omega) fun v85 => ?_ | refine Kp.St_append tb rfl rfl rfl (perm_front (pre := [_, _, _])) rfl rfl rfl (by omega) rfl rfl gvo (by simp [Value.oneCell', cDl]) (by simp [maxLen]; omega) (by simp; omega) fun v85 => ?_ | refine Kp.St_append tb rfl rfl rfl (perm_front (pre := [_, _, _, _])) rfl rfl rfl (by omega) rfl rfl gvo (by simp [Value.oneCell', cDl]) (by simp [maxLen]; omega) (by simp; omega) fun v85 => ?_
 refine Kp.Zq rfl (q_field tb rfl rfl rfl) ?_
 refine Kp.Z_s ?_
 first | refine Kp.St_append tb rfl rfl rfl (List.Perm.refl _) rfl rfl rfl (by omega) rfl rfl gvo (by simp [Value.oneCell']) (by simp [maxLen]; omega) (by simp; omega) fun v91 => ?_ | refine Kp.St_append tb rfl rfl rfl perm1 rfl rfl rfl (by omega) rfl rfl gvo (by simp [Value.oneCell']) (by simp [maxLen]; omega) (by simp; omega) fun v91 => ?_ | refine Kp.St_append tb rfl rfl rfl Kp.perm2 rfl rfl rfl (by omega) rfl rfl gvo (by simp [Value.oneCell']) (by simp [maxLen]; omega) (by simp; omega) fun v91 => ?_ | refine Kp.St_append tb rfl rfl rfl Kp.perm3 rfl rfl rfl (by omega) rfl rfl gvo (by simp [Value.oneCell']) (by simp [maxLen]; omega) (by simp; omega) fun v91 => ?_ | refine Kp.St_append tb rfl rfl rfl (perm_front (pre := [_, _])) rfl rfl rfl (by omega) rfl rfl gvo (by simp [Value.oneCell']) (by simp [maxLen]; omega) (by simp; omega) fun v91 => ?_ | refine Kp.St_append tb rfl rfl rfl (perm_front (pre := [_, _, _])) rfl rfl rfl (by omega) rfl rfl gvo (by simp [Value.oneCell']) (by simp [maxLen]; omega) (by simp; omega) fun v91 => ?_ | refine Kp.St_append tb rfl rfl rfl (perm_front (pre := [_, _, _, _])) rfl rfl rfl (by omega) rfl rfl gvo (by simp [Value.oneCell']) (by simp [maxLen]; omega) (by simp; omega) fun v91 => ?_
 refine Kp.Z_nil ?_
 try dsimp only [List.append, List.cons_append, List.nil_append]
 exact ⟨(v85, v91), fun a_ w_ hs_ => hs_.weak ⟨rfl, rfl, rfl, rfl, rfl, rfl, rfl, trivial⟩ (fun h_ => h_.pk (by repeat (first | with_reducible exact pk_nil | refine pk_box (by first | rfl | exact (dl_snoc _ _) | exact (ci_snoc _ _)) ?_ | refine pk_rd rfl ?_ | refine pk_sl (by first | rfl | exact (dl_snoc _ _) | exact (ci_snoc _ _)) ?_ | with_reducible refine pk_app ?_ | with_reducible refine pk_app0 ?_ | with_reducible refine pk_app0L ?_ | with_reducible exact pk_tl | refine pk_var ?_)))⟩
 (rintro ⟨v85, v91⟩; dsimp only; refine L_form (v := v85) gvo (fun A85 c85 hv85 _ => ?_); subst hv85; refine L_form (v := v91) gvo (fun A91 c91 hv91 _ => ?_); subst hv91)
 refine L_st tb rfl rfl ?_
 refine Jq (q_field tb rfl rfl rfl) ?_
 refine L_st tb rfl rfl ?_
 refine L_blk ?_
 refine C_region ?_
 refine Jq (q_move rfl) ?_
 refine Jq (q_add rfl rfl (by first | exact IntWalk.i64_in _ (by omega) | rfl)) ?_
 refine Jq (q_assign rfl) ?_
 refine L_end ?_
 exact fun ac_ wo_ hs_ => ⟨(k + 1, L ++ [z], F ++ [f], .slice A85 ((L ++ [z]).map cDl).length c85, .slice A91 ((F ++ [f]).map cI).length c91), ⟨by dsimp only; omega, by dsimp only; rw [List.length_append, hL]; rfl, by dsimp only; rw [List.length_append, hF]; rfl, hG.trans (by rw [hd2, parF_y hz]; dsimp only; rw [hd1]; rfl)⟩, (by dsimp only; omega), hs_.weak ⟨rfl, rfl, rfl, rfl, trivial⟩ (fun h_ => h_.pk (by repeat (first | with_reducible exact pk_nil | refine pk_box rfl ?_ | refine pk_rd rfl ?_ | refine pk_sl rfl ?_ | with_reducible refine pk_app ?_ | with_reducible refine pk_app0 ?_ | with_reducible refine pk_app0L ?_ | with_reducible exact pk_tl | refine pk_var ?_)))⟩
 iterate 2 refine Jk ?_
 refine Jq (q_pickF rfl rfl) ?_
 refine L_then ?_
 refine C_false rfl ?_
 refine C_exit ?_
 change C Tryz.prog _ _ _ _ _ _ _
 refine C_seq ?_
 refine C_seq ?_
 refine C_region ?_
 refine Jq (q_move rfl) ?_
 refine Jq (q_not rfl (by first | exact (rfl : (!true) = false) | exact (rfl : (!false) = true) | exact decide_not.symm | rfl)) ?_
 refine L_then ?_
 refine C_bool rfl (fun h71 => ?_) (fun h71 => ?_)
 refine C_seq ?_
 refine C_region ?_
 refine Jq (by first | exact q_build tb rfl rfl rfl rfl | exact q_buildArr tb rfl rfl rfl rfl rfl) ?_
 refine Jq (q_move rfl) ?_
 refine Jq (q_add rfl rfl (by first | exact IntWalk.i64_in _ (by omega) | rfl)) ?_
 refine L_st tb rfl rfl ?_
 refine Jq (q_assign rfl) ?_
 refine Jq (q_assign rfl) ?_
 refine L_then ?_
 refine C_ret ?_
 rw [parA_7f (show ¬ t.length > 60000 by omega) (hG.trans (by rw [hd2]; exact parF_n (hn (by simpa using h71))))]
 exact ret_of (rs' := [sl nilS 117 3 [], sl nilS 3 1 []]) (resATT tb rfl rfl rfl rfl rfl bxo rfl) (fun w_ h_ => ws_nil (ws_nil (sub_nil w_ h_))) own2 ⟨none, none, 0, 0, 0, 0, rfl, rfl⟩
 exfalso
 simp [h53] at h71
 have hGe : parF (cutF 10 [] t) [] [] 0 = ((L, F), 0, 0) := by rw [hG, List.drop_eq_nil_of_le (show (cutF 10 [] t).length ≤ k by omega)]; exact parF_0
 refine C_exit ?_
 change C Tryz.prog _ _ _ _ _ _ _
 refine C_seq ?_
 refine C_seq ?_
 refine C_region ?_
 refine Jq (q_loadA tb rfl rfl bxo rfl rfl) ?_
 refine L_call tb rfl rfl (ct_shotlineref04_Alone _ _ L F (by omega) (by omega)) (ps_cons gvo (ps_cons gvo no_ps)) rfl ?_
 refine Jq (q_assign rfl) ?_
 refine L_then ?_
 refine C_seq ?_
 refine C_region ?_
 refine Jq (q_move rfl) ?_
 refine Jq (q_neq rfl rfl) ?_
 refine L_then ?_
 refine C_dec rfl (fun h97 => ?_) (fun h97 => ?_)
 refine C_seq ?_
 refine C_region ?_
 refine Jq (by first | exact q_build tb rfl rfl rfl rfl | exact q_buildArr tb rfl rfl rfl rfl rfl) ?_
 refine Jq (q_move rfl) ?_
 refine L_st tb rfl rfl ?_
 refine Jq (q_assign rfl) ?_
 refine Jq (q_assign rfl) ?_
 refine L_then ?_
 refine C_ret ?_
 rw [parA_cf (show ¬ t.length > 60000 by omega) hGe, if_pos h97]
 exact ret_of (rs' := [sl nilS 117 3 [], sl nilS 3 1 []]) (resATT tb rfl rfl rfl rfl rfl bxo rfl) (fun w_ h_ => ws_nil (ws_nil (sub_nil w_ h_))) own2 ⟨none, none, 0, 0, 0, 0, rfl, rfl⟩
 refine C_skip_then ?_
 refine C_seq ?_
 refine C_region ?_
 refine Jq (q_loadA tb rfl rfl bxo rfl rfl) ?_
 refine L_st tb rfl rfl ?_
 refine Jq (q_assign rfl) ?_
 refine Jq (q_assign rfl) ?_
 refine L_then ?_
 refine C_ret ?_
 rw [parA_cf (show ¬ t.length > 60000 by omega) hGe, if_neg h97]
 exact ret_of (rs' := [sl (.slice A8 (L.map cDl).length c8) 117 3 (L.map cDl), sl (.slice B8 (F.map cI).length d8) 3 1 (F.map cI)]) (resATT tb rfl rfl rfl rfl rfl bxo rfl) (fun w_ h_ => h_.pk (by repeat (first | with_reducible exact pk_nil | refine pk_box rfl ?_ | refine pk_rd rfl ?_ | refine pk_sl rfl ?_ | with_reducible refine pk_app ?_ | with_reducible refine pk_app0 ?_ | with_reducible refine pk_app0L ?_ | with_reducible exact pk_tl | refine pk_var ?_))) own2 ⟨_, _, _, _, _, _, rfl, rfl⟩
end Go.Proofs.YtacndicgpkeobaaGreatDoor
