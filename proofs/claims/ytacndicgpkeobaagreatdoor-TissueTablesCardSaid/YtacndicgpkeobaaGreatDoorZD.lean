/-
  Walks: each function named returns what its model says. Conditions: those in front of each theorem.
-/
import Derived.Test.YtacndicgpkeobaaGreatDoorTE
import Derived.Test.YtacndicgpkeobaaGreatDoorR
import Derived.Test.YtacndicgpkeobaaGreatDoorRd3
namespace Go.Proofs.YtacndicgpkeobaaGreatDoor
open Go.RowKit

set_option maxRecDepth 100000 in
set_option maxHeartbeats 4000000 in
theorem ct_shotlineref03_Parse (t : Tx) (hl : t.length ≤ 1000000) : Ct Tryz.prog 27 [.string (bs t)] [] (PcP 120 (pacA t)) := by
 refine Ct.of (N := 98) Tryz.func27 rfl rfl rfl fun w => ?_
 refine C_weak (E' := [(0, .string (bs t))]) (rs' := []) ⟨rfl, trivial⟩ (fun _ h => h) ?_
 have hcn := cutF_cnt (m := 10) t []; have hcl := cnt_le t 10; have hpm := len_map cT (cutF 10 [] t); have hp1 := cutF_ne (m := 10) (l := t) (cur := [])
 refine C_seq ?_
 refine C_region ?_
 refine Jq (q_assign rfl) ?_
 refine Jq (q_assign rfl) ?_
 refine Jq (q_assign rfl) ?_
 refine L_then ?_
 refine C_seq ?_
 refine C_seq ?_
 refine C_region ?_
 refine Jq (q_move rfl) ?_
 refine Jq (t_len Tryz.underlying9 rfl) ?_
 refine Jq (q_gtr rfl rfl) ?_
 refine L_then ?_
 refine C_dec rfl (fun h1 => ?_) (fun h1 => ?_)
 refine C_seq ?_
 refine C_region ?_
 refine Jq (q_assign rfl) ?_
 refine Jq (q_assign rfl) ?_
 refine Jq (q_assign rfl) ?_
 refine L_then ?_
 refine C_ret ?_
 rw [pacA_8 (show t.length > 60000 by omega)]
 exact ret_of (rs' := [sl nilC 120 4 []]) (res3 rfl rfl rfl rfl) (fun w_ h_ => ws_nil (sub_nil w_ h_)) own1 ⟨none, 0, 0, rfl, rfl⟩
 refine C_skip_then ?_
 refine C_seq ?_
 refine C_region ?_
 refine Jq (q_assign rfl) ?_
 refine L_then ?_
 refine C_seq ?_
 refine C_region ?_
 refine Jq (q_move rfl) ?_
 refine L_callS tb rfl rfl (ct_shotlinebase_Cut t 10 hl) no_ps rfl fun v18 => ?_
 refine Jq (q_assign rfl) ?_
 refine L_then ?_
 refine C_seq ?_
 refine C_seq ?_
 refine C_region ?_
 refine Jq (q_assign rfl) ?_
 refine L_then ?_
 refine C_block ?_
 refine C_nil 120 4 ?_
 refine C_loop (ι := Nat × List Cp × Value) (fun q9 => ([(5, q9.2.2), (6, v18), (7, .int .i64 ((q9.1 : Int)))], [sl q9.2.2 120 4 (q9.2.1.map cCp), sl v18 9 1 ((cutF 10 [] t).map cT)])) (fun q9 => q9.1 ≤ (cutF 10 [] t).length ∧ q9.2.1.length = q9.1 ∧ parC (cutF 10 [] t) [] 0 = parC ((cutF 10 [] t).drop q9.1) q9.2.1 (q9.1 : Int)) (fun q9 => (cutF 10 [] t).length - q9.1) (0, [], nilC) ⟨Nat.zero_le _, rfl, rfl⟩ (fun a w hs => hs.weak ⟨rfl, rfl, rfl, trivial⟩ (fun h => h.pk (by repeat (first | with_reducible exact pk_nil | refine pk_box rfl ?_ | refine pk_rd rfl ?_ | refine pk_sl rfl ?_ | with_reducible refine pk_app ?_ | with_reducible refine pk_app0 ?_ | with_reducible refine pk_app0L ?_ | with_reducible exact pk_tl | refine pk_var ?_)))) ?_
 rintro ⟨k, L, a9⟩ ⟨hk, hL, hG⟩
 dsimp only at hk hL hG ⊢
 have hl4 := len_map cCp L
 refine C_seq ?_
 refine C_seq ?_
 refine C_region ?_
 refine Jq (q_move rfl) ?_
 refine Jq (q_move rfl) ?_
 refine Jq (q_len tb rfl rfl gvo) ?_
 refine Jq (q_lss rfl rfl) ?_
 refine L_then ?_
 refine C_dec rfl (fun h2 => ?_) (fun h2 => ?_)
 obtain ⟨p, hp⟩ := get_some (cutF 10 [] t) (k := k) (by omega); have hel := map_get cT hp
 refine C_skip_then ?_
 refine C_seq ?_
 refine C_block ?_
 refine C_seq ?_
 refine C_seq ?_
 refine C_region ?_
 refine Jq (q_move rfl) ?_
 refine Jq (q_move rfl) ?_
 refine Jq (q_len tb rfl rfl gvo) ?_
 refine Jq (q_sub rfl rfl (by first | exact IntWalk.i64_in _ (by omega) | rfl)) ?_
 refine Jq (q_eql rfl rfl) ?_
 refine Jq (q_move rfl) ?_
 refine L_dec (d := 30) rfl (fun h30 => ?_) (fun h30 => ?_)
 refine Jg (q_move rfl) ?_
 refine Jg (q_move rfl) ?_
 refine Jg (by first | exact q_index tb rfl rfl rfl rfl gvo (by omega) (by first | omega | (simp; done) | (simp; omega)) | exact q_indexP tb rfl rfl rfl rfl (by omega) (by omega)) ?_
 refine Jg (q_loadE tb rfl rfl gvo (i := k) (o := 0) (by omega) hel rfl) ?_
 refine Jg (t_eq (a := p) (b := []) rfl rfl) ?_
 refine Jq (q_pickT rfl rfl) ?_
 refine L_then ?_
 refine C_dec rfl (fun h36 => ?_) (fun h36 => ?_)
 have hGe : parC (cutF 10 [] t) [] 0 = (L, 0, 0) := by rw [hG, dropc_last hp (by omega), h36]; exact parC_1
 refine C_form (v := a9) gvo (fun A9 c9 hv9 _ => ?_)
 subst hv9
 refine C_exit ?_
 change C Tryz.prog _ _ _ _ _ _ _
 refine C_seq ?_
 refine C_seq ?_
 refine C_region ?_
 refine Jq (q_move rfl) ?_
 refine L_call tb rfl rfl (ct_shotlineref03_CheckTable _ L (by omega)) (ps_cons gvo no_ps) rfl ?_
 refine Jq (q_assign rfl) ?_
 refine L_then ?_
 refine C_seq ?_
 refine C_region ?_
 refine Jq (q_move rfl) ?_
 refine Jq (q_neq rfl rfl) ?_
 refine L_then ?_
 refine C_dec rfl (fun h95 => ?_) (fun h95 => ?_)
 refine C_seq ?_
 refine C_region ?_
 refine Jq (q_move rfl) ?_
 refine Jq (q_assign rfl) ?_
 refine Jq (q_assign rfl) ?_
 refine Jq (q_assign rfl) ?_
 refine L_then ?_
 refine C_ret ?_
 rw [pacA_cf (show ¬ t.length > 60000 by omega) hGe, if_pos h95]
 exact ret_of (rs' := [sl nilC 120 4 []]) (res3 rfl rfl rfl rfl) (fun w_ h_ => ws_nil (sub_nil w_ h_)) own1 ⟨none, 0, 0, rfl, rfl⟩
 refine C_skip_then ?_
 refine C_seq ?_
 refine C_region ?_
 refine Jq (q_move rfl) ?_
 refine Jq (q_assign rfl) ?_
 refine Jq (q_assign rfl) ?_
 refine Jq (q_assign rfl) ?_
 refine L_then ?_
 refine C_ret ?_
 rw [pacA_cf (show ¬ t.length > 60000 by omega) hGe, if_neg h95]
 exact ret_of (rs' := [sl (.slice A9 (L.map cCp).length c9) 120 4 (L.map cCp)]) (res3 rfl rfl rfl rfl) (fun w_ h_ => h_.pk (by repeat (first | with_reducible exact pk_nil | refine pk_box rfl ?_ | refine pk_rd rfl ?_ | refine pk_sl rfl ?_ | with_reducible refine pk_app ?_ | with_reducible refine pk_app0 ?_ | with_reducible refine pk_app0L ?_ | with_reducible exact pk_tl | refine pk_var ?_))) own1 ⟨_, _, _, rfl, rfl⟩
 refine C_skip_then ?_
 refine C_seq ?_
 refine C_region ?_
 refine Jq (q_move rfl) ?_
 refine Jq (q_move rfl) ?_
 refine Jq (by first | exact q_index tb rfl rfl rfl rfl gvo (by omega) (by first | omega | (simp; done) | (simp; omega)) | exact q_indexP tb rfl rfl rfl rfl (by omega) (by omega)) ?_
 refine Jq (q_loadE tb rfl rfl gvo (i := k) (o := 0) (by omega) hel rfl) ?_
 refine L_callS tb rfl rfl (ct_shotlinebase_Cut p 32 (by have := cutF_le (m := 10) t [] p (List.mem_of_getElem? hp); simp at this; omega)) no_ps rfl fun v41 => ?_
 refine Jq (q_assign rfl) ?_
 refine L_then ?_
 refine C_seq ?_
 refine C_seq ?_
 refine C_region ?_
 refine Jq (q_move rfl) ?_
 refine Jq (q_move rfl) ?_
 refine Jq (q_len tb rfl rfl gvo) ?_
 refine Jq (q_sub rfl rfl (by first | exact IntWalk.i64_in _ (by omega) | rfl)) ?_
 refine Jq (q_eql rfl rfl) ?_
 refine Jq (q_move rfl) ?_
 refine L_dec (d := 47) rfl (fun h47 => ?_) (fun h47 => ?_)
 iterate 3 refine Jk ?_
 refine Jq (q_pickT rfl rfl) ?_
 refine Jq (q_move rfl) ?_
 iterate 4 refine Jk ?_
 refine Jq (q_pickT rfl rfl) ?_
 refine L_then ?_
 refine C_true rfl ?_
 refine C_seq ?_
 refine C_region ?_
 refine Jq (q_move rfl) ?_
 refine Jq (q_add rfl rfl (by first | exact IntWalk.i64_in _ (by omega) | rfl)) ?_
 refine Jq (q_assign rfl) ?_
 refine Jq (q_assign rfl) ?_
 refine Jq (q_assign rfl) ?_
 refine L_then ?_
 refine C_ret ?_
 rw [pacA_7f (show ¬ t.length > 60000 by omega) (hG.trans (by rw [dropc_last hp (by omega)]; exact parC_2 h36))]
 exact ret_of (rs' := [sl nilC 120 4 []]) (res3 rfl rfl rfl rfl) (fun w_ h_ => ws_nil (sub_nil w_ h_)) own1 ⟨none, 0, 0, rfl, rfl⟩
 obtain ⟨q, r, hd2, hd1⟩ := dropc_two hp (by omega)
 have hwm := len_map cT (cutF 32 [] p)
 refine Jg (q_move rfl) ?_
 refine Jg (q_len tb rfl rfl gvo) ?_
 refine Jg (q_neq rfl rfl) ?_
 refine Jq (q_pickF rfl rfl) ?_
 refine Jq (q_move rfl) ?_
 refine L_dec (d := 52) rfl (fun h52 => ?_) (fun h52 => ?_)
 iterate 4 refine Jk ?_
 refine Jq (q_pickT rfl rfl) ?_
 refine L_then ?_
 refine C_true rfl ?_
 refine C_seq ?_
 refine C_region ?_
 refine Jq (q_move rfl) ?_
 refine Jq (q_add rfl rfl (by first | exact IntWalk.i64_in _ (by omega) | rfl)) ?_
 refine Jq (q_assign rfl) ?_
 refine Jq (q_assign rfl) ?_
 refine Jq (q_assign rfl) ?_
 refine L_then ?_
 refine C_ret ?_
 rw [pacA_7f (show ¬ t.length > 60000 by omega) (hG.trans (by rw [hd2]; exact parC_n (lnC_5 (fun hh => h52 (by rw [hwm, hh]; rfl)))))]
 exact ret_of (rs' := [sl nilC 120 4 []]) (res3 rfl rfl rfl rfl) (fun w_ h_ => ws_nil (sub_nil w_ h_)) own1 ⟨none, 0, 0, rfl, rfl⟩
 have h5 : (cutF 32 [] p).length = 5 := by omega
 refine Jg (q_move rfl) ?_
 refine Jg (by first | exact q_index tb rfl rfl rfl rfl gvo (by omega) (by first | omega | (simp; done) | (simp; omega)) | exact q_indexP tb rfl rfl rfl rfl (by omega) (by omega)) ?_
 refine Jg (q_loadE tb rfl rfl gvo (i := 0) (o := 0) (by omega) (map_get cT (wC_get (by omega))) rfl) ?_
 refine Jg (t_ne (a := wC (cutF 32 [] p) 0) (b := tTis) rfl rfl) ?_
 refine Jq (q_pickF rfl rfl) ?_
 refine L_then ?_
 refine C_dec rfl (fun h57 => ?_) (fun h57 => ?_)
 refine C_seq ?_
 refine C_region ?_
 refine Jq (q_move rfl) ?_
 refine Jq (q_add rfl rfl (by first | exact IntWalk.i64_in _ (by omega) | rfl)) ?_
 refine Jq (q_assign rfl) ?_
 refine Jq (q_assign rfl) ?_
 refine Jq (q_assign rfl) ?_
 refine L_then ?_
 refine C_ret ?_
 rw [pacA_7f (show ¬ t.length > 60000 by omega) (hG.trans (by rw [hd2]; exact parC_n (lnC_a h5 h57)))]
 exact ret_of (rs' := [sl nilC 120 4 []]) (res3 rfl rfl rfl rfl) (fun w_ h_ => ws_nil (sub_nil w_ h_)) own1 ⟨none, 0, 0, rfl, rfl⟩
 have h0 := Decidable.not_not.1 h57
 refine C_skip_then ?_
 refine C_seq ?_
 refine C_region ?_
 refine L_alloc tb rfl rfl fun g9 => ?_
 refine L_then ?_
 refine C_seq ?_
 refine C_seq ?_
 refine C_region ?_
 refine Jq (q_assign rfl) ?_
 refine L_then ?_
 refine C_block ?_
 refine C_res (rs' := [box g9 143 (cCp ⟨0, 0, 0, 0⟩), sl v41 9 1 ((cutF 32 [] p).map cT), sl a9 120 4 (L.map cCp), sl v18 9 1 ((cutF 10 [] t).map cT)]) (fun _ h_ => h_.pk (by repeat (first | with_reducible exact pk_nil | refine pk_box rfl ?_ | refine pk_rd rfl ?_ | refine pk_sl rfl ?_ | with_reducible refine pk_app ?_ | with_reducible refine pk_app0 ?_ | with_reducible refine pk_app0L ?_ | with_reducible exact pk_tl | refine pk_var ?_))) ?_
 refine C_loop (ι := Nat × Cp) (fun q9 => ([(5, a9), (6, v18), (7, .int .i64 (k : Int)), (8, v41), (9, .pointer (some ⟨g9, 0, none⟩)), (10, .int .i64 ((q9.1 : Int)))], [box g9 143 (cCp q9.2), sl v41 9 1 ((cutF 32 [] p).map cT), sl a9 120 4 (L.map cCp), sl v18 9 1 ((cutF 10 [] t).map cT)])) (fun q9 => q9.1 ≤ 4 ∧ (0 < q9.1 → numM (wC (cutF 32 [] p) 1) 7 = some q9.2.n) ∧ (1 < q9.1 → numM (wC (cutF 32 [] p) 2) 7 = some q9.2.h) ∧ (2 < q9.1 → numM (wC (cutF 32 [] p) 3) 7 = some q9.2.b) ∧ (3 < q9.1 → numM (wC (cutF 32 [] p) 4) 7 = some q9.2.s)) (fun q9 => 4 - q9.1) (0, ⟨0, 0, 0, 0⟩) ⟨Nat.zero_le _, fun h => absurd h (by decide), fun h => absurd h (by decide), fun h => absurd h (by decide), fun h => absurd h (by decide)⟩ (fun a w hs => hs.weak ⟨rfl, rfl, rfl, rfl, rfl, rfl, trivial⟩ (fun h => h.pk (by repeat (first | with_reducible exact pk_nil | refine pk_box rfl ?_ | refine pk_rd rfl ?_ | refine pk_sl rfl ?_ | with_reducible refine pk_app ?_ | with_reducible refine pk_app0 ?_ | with_reducible refine pk_app0L ?_ | with_reducible exact pk_tl | refine pk_var ?_)))) ?_
 rintro ⟨j, z⟩ ⟨hj, i1, i2, i3, i4⟩
 dsimp only at hj i1 i2 i3 i4 ⊢
 refine C_seq ?_
 refine C_seq ?_
 refine C_region ?_
 refine Jq (q_move rfl) ?_
 refine Jq (q_lss rfl rfl) ?_
 refine L_then ?_
 refine C_dec rfl (fun h11 => ?_) (fun h11 => ?_)
 obtain rfl | rfl | rfl | rfl : j = 0 ∨ j = 1 ∨ j = 2 ∨ j = 3 := by omega
 refine C_skip_then ?_
 refine C_seq ?_
 refine C_block ?_
 refine C_seq ?_
 refine C_region ?_
 refine Jq (q_move rfl) ?_
 refine Jq (q_move rfl) ?_
 refine Jq (q_add rfl rfl (by first | exact IntWalk.i64_in _ (by omega) | rfl)) ?_
 refine Jq (by first | exact q_index tb rfl rfl rfl rfl gvo (by omega) (by first | omega | (simp; done) | (simp; omega)) | exact q_indexP tb rfl rfl rfl rfl (by omega) (by omega)) ?_
 refine Jq (q_loadE tb rfl rfl gvo (i := 1) (o := 0) (by omega) (map_get cT (wC_get (by omega))) rfl) ?_
 refine L_call tb rfl rfl (ct_shotlinebase_Number (wC (cutF 32 [] p) 1) 7 (by have := cutF_le (m := 32) p [] _ (List.mem_of_getElem? (wC_get (w := (cutF 32 [] p)) (i := 1) (by omega))); have := cutF_le (m := 10) t [] p (List.mem_of_getElem? hp); simp at *; omega) (by decide)) no_ps rfl ?_
 refine Jq (q_move rfl) ?_
 refine Jq (q_ext0 rfl) ?_
 refine Jq (q_ext1 rfl) ?_
 refine Jq (q_assign rfl) ?_
 refine Jq (q_assign rfl) ?_
 refine L_then ?_
 refine C_seq ?_
 refine C_seq ?_
 refine C_region ?_
 refine Jq (q_move rfl) ?_
 refine Jq (q_not rfl (by first | exact (rfl : (!true) = false) | exact (rfl : (!false) = true) | exact decide_not.symm | rfl)) ?_
 refine L_then ?_
 refine C_bool rfl (fun h74 => ?_) (fun h74 => ?_)
 refine C_seq ?_
 refine C_region ?_
 refine Jq (q_move rfl) ?_
 refine Jq (q_add rfl rfl (by first | exact IntWalk.i64_in _ (by omega) | rfl)) ?_
 refine Jq (q_assign rfl) ?_
 refine Jq (q_assign rfl) ?_
 refine Jq (q_assign rfl) ?_
 refine L_then ?_
 refine C_ret ?_
 rw [pacA_7f (show ¬ t.length > 60000 by omega) (hG.trans (by rw [hd2]; exact parC_n (lnC_n h5 (i := 0) (by decide) (by simpa using h74))))]
 exact ret_of (rs' := [sl nilC 120 4 []]) (res3 rfl rfl rfl rfl) (fun w_ h_ => ws_nil (sub_nil w_ h_)) own1 ⟨none, 0, 0, rfl, rfl⟩
 have hok : (numM (wC (cutF 32 [] p) 1) 7).isSome = true := by simpa using h74
 refine C_skip_then ?_
 refine C_region ?_
 refine Jq (q_move rfl) ?_
 refine Jq (q_move rfl) ?_
 refine Jq (by first | exact q_index tb rfl rfl rfl rfl gvo (by omega) (by first | omega | (simp; done) | (simp; omega)) | exact q_indexP tb rfl rfl rfl rfl (by omega) (by omega)) ?_
 refine L_st tb rfl rfl ?_
 refine L_blk ?_
 refine C_region ?_
 refine Jq (q_move rfl) ?_
 refine Jq (q_add rfl rfl (by first | exact IntWalk.i64_in _ (by omega) | rfl)) ?_
 refine Jq (q_assign rfl) ?_
 refine L_end ?_
 exact fun ac_ wo_ hs_ => ⟨(1, ⟨((numM (wC (cutF 32 [] p) 1) 7).getD 0), z.h, z.b, z.s⟩), ⟨by dsimp only; omega, (fun _ => some_get3 hok), (fun h => by dsimp only at h; omega), (fun h => by dsimp only at h; omega), (fun h => by dsimp only at h; omega)⟩, (by dsimp only; omega), hs_.weak ⟨rfl, rfl, rfl, rfl, rfl, rfl, trivial⟩ (fun h_ => h_.pk (by repeat (first | with_reducible exact pk_nil | refine pk_box rfl ?_ | refine pk_rd rfl ?_ | refine pk_sl rfl ?_ | with_reducible refine pk_app ?_ | with_reducible refine pk_app0 ?_ | with_reducible refine pk_app0L ?_ | with_reducible exact pk_tl | refine pk_var ?_)))⟩
 refine C_skip_then ?_
 refine C_seq ?_
 refine C_block ?_
 refine C_seq ?_
 refine C_region ?_
 refine Jq (q_move rfl) ?_
 refine Jq (q_move rfl) ?_
 refine Jq (q_add rfl rfl (by first | exact IntWalk.i64_in _ (by omega) | rfl)) ?_
 refine Jq (by first | exact q_index tb rfl rfl rfl rfl gvo (by omega) (by first | omega | (simp; done) | (simp; omega)) | exact q_indexP tb rfl rfl rfl rfl (by omega) (by omega)) ?_
 refine Jq (q_loadE tb rfl rfl gvo (i := 2) (o := 0) (by omega) (map_get cT (wC_get (by omega))) rfl) ?_
 refine L_call tb rfl rfl (ct_shotlinebase_Number (wC (cutF 32 [] p) 2) 7 (by have := cutF_le (m := 32) p [] _ (List.mem_of_getElem? (wC_get (w := (cutF 32 [] p)) (i := 2) (by omega))); have := cutF_le (m := 10) t [] p (List.mem_of_getElem? hp); simp at *; omega) (by decide)) no_ps rfl ?_
 refine Jq (q_move rfl) ?_
 refine Jq (q_ext0 rfl) ?_
 refine Jq (q_ext1 rfl) ?_
 refine Jq (q_assign rfl) ?_
 refine Jq (q_assign rfl) ?_
 refine L_then ?_
 refine C_seq ?_
 refine C_seq ?_
 refine C_region ?_
 refine Jq (q_move rfl) ?_
 refine Jq (q_not rfl (by first | exact (rfl : (!true) = false) | exact (rfl : (!false) = true) | exact decide_not.symm | rfl)) ?_
 refine L_then ?_
 refine C_bool rfl (fun h74 => ?_) (fun h74 => ?_)
 refine C_seq ?_
 refine C_region ?_
 refine Jq (q_move rfl) ?_
 refine Jq (q_add rfl rfl (by first | exact IntWalk.i64_in _ (by omega) | rfl)) ?_
 refine Jq (q_assign rfl) ?_
 refine Jq (q_assign rfl) ?_
 refine Jq (q_assign rfl) ?_
 refine L_then ?_
 refine C_ret ?_
 rw [pacA_7f (show ¬ t.length > 60000 by omega) (hG.trans (by rw [hd2]; exact parC_n (lnC_n h5 (i := 1) (by decide) (by simpa using h74))))]
 exact ret_of (rs' := [sl nilC 120 4 []]) (res3 rfl rfl rfl rfl) (fun w_ h_ => ws_nil (sub_nil w_ h_)) own1 ⟨none, 0, 0, rfl, rfl⟩
 have hok : (numM (wC (cutF 32 [] p) 2) 7).isSome = true := by simpa using h74
 refine C_skip_then ?_
 refine C_region ?_
 refine Jq (q_move rfl) ?_
 refine Jq (q_move rfl) ?_
 refine Jq (by first | exact q_index tb rfl rfl rfl rfl gvo (by omega) (by first | omega | (simp; done) | (simp; omega)) | exact q_indexP tb rfl rfl rfl rfl (by omega) (by omega)) ?_
 refine L_st tb rfl rfl ?_
 refine L_blk ?_
 refine C_region ?_
 refine Jq (q_move rfl) ?_
 refine Jq (q_add rfl rfl (by first | exact IntWalk.i64_in _ (by omega) | rfl)) ?_
 refine Jq (q_assign rfl) ?_
 refine L_end ?_
 exact fun ac_ wo_ hs_ => ⟨(2, ⟨z.n, ((numM (wC (cutF 32 [] p) 2) 7).getD 0), z.b, z.s⟩), ⟨by dsimp only; omega, (fun _ => i1 (by omega)), (fun _ => some_get3 hok), (fun h => by dsimp only at h; omega), (fun h => by dsimp only at h; omega)⟩, (by dsimp only; omega), hs_.weak ⟨rfl, rfl, rfl, rfl, rfl, rfl, trivial⟩ (fun h_ => h_.pk (by repeat (first | with_reducible exact pk_nil | refine pk_box rfl ?_ | refine pk_rd rfl ?_ | refine pk_sl rfl ?_ | with_reducible refine pk_app ?_ | with_reducible refine pk_app0 ?_ | with_reducible refine pk_app0L ?_ | with_reducible exact pk_tl | refine pk_var ?_)))⟩
 refine C_skip_then ?_
 refine C_seq ?_
 refine C_block ?_
 refine C_seq ?_
 refine C_region ?_
 refine Jq (q_move rfl) ?_
 refine Jq (q_move rfl) ?_
 refine Jq (q_add rfl rfl (by first | exact IntWalk.i64_in _ (by omega) | rfl)) ?_
 refine Jq (by first | exact q_index tb rfl rfl rfl rfl gvo (by omega) (by first | omega | (simp; done) | (simp; omega)) | exact q_indexP tb rfl rfl rfl rfl (by omega) (by omega)) ?_
 refine Jq (q_loadE tb rfl rfl gvo (i := 3) (o := 0) (by omega) (map_get cT (wC_get (by omega))) rfl) ?_
 refine L_call tb rfl rfl (ct_shotlinebase_Number (wC (cutF 32 [] p) 3) 7 (by have := cutF_le (m := 32) p [] _ (List.mem_of_getElem? (wC_get (w := (cutF 32 [] p)) (i := 3) (by omega))); have := cutF_le (m := 10) t [] p (List.mem_of_getElem? hp); simp at *; omega) (by decide)) no_ps rfl ?_
 refine Jq (q_move rfl) ?_
 refine Jq (q_ext0 rfl) ?_
 refine Jq (q_ext1 rfl) ?_
 refine Jq (q_assign rfl) ?_
 refine Jq (q_assign rfl) ?_
 refine L_then ?_
 refine C_seq ?_
 refine C_seq ?_
 refine C_region ?_
 refine Jq (q_move rfl) ?_
 refine Jq (q_not rfl (by first | exact (rfl : (!true) = false) | exact (rfl : (!false) = true) | exact decide_not.symm | rfl)) ?_
 refine L_then ?_
 refine C_bool rfl (fun h74 => ?_) (fun h74 => ?_)
 refine C_seq ?_
 refine C_region ?_
 refine Jq (q_move rfl) ?_
 refine Jq (q_add rfl rfl (by first | exact IntWalk.i64_in _ (by omega) | rfl)) ?_
 refine Jq (q_assign rfl) ?_
 refine Jq (q_assign rfl) ?_
 refine Jq (q_assign rfl) ?_
 refine L_then ?_
 refine C_ret ?_
 rw [pacA_7f (show ¬ t.length > 60000 by omega) (hG.trans (by rw [hd2]; exact parC_n (lnC_n h5 (i := 2) (by decide) (by simpa using h74))))]
 exact ret_of (rs' := [sl nilC 120 4 []]) (res3 rfl rfl rfl rfl) (fun w_ h_ => ws_nil (sub_nil w_ h_)) own1 ⟨none, 0, 0, rfl, rfl⟩
 have hok : (numM (wC (cutF 32 [] p) 3) 7).isSome = true := by simpa using h74
 refine C_skip_then ?_
 refine C_region ?_
 refine Jq (q_move rfl) ?_
 refine Jq (q_move rfl) ?_
 refine Jq (by first | exact q_index tb rfl rfl rfl rfl gvo (by omega) (by first | omega | (simp; done) | (simp; omega)) | exact q_indexP tb rfl rfl rfl rfl (by omega) (by omega)) ?_
 refine L_st tb rfl rfl ?_
 refine L_blk ?_
 refine C_region ?_
 refine Jq (q_move rfl) ?_
 refine Jq (q_add rfl rfl (by first | exact IntWalk.i64_in _ (by omega) | rfl)) ?_
 refine Jq (q_assign rfl) ?_
 refine L_end ?_
 exact fun ac_ wo_ hs_ => ⟨(3, ⟨z.n, z.h, ((numM (wC (cutF 32 [] p) 3) 7).getD 0), z.s⟩), ⟨by dsimp only; omega, (fun _ => i1 (by omega)), (fun _ => i2 (by omega)), (fun _ => some_get3 hok), (fun h => by dsimp only at h; omega)⟩, (by dsimp only; omega), hs_.weak ⟨rfl, rfl, rfl, rfl, rfl, rfl, trivial⟩ (fun h_ => h_.pk (by repeat (first | with_reducible exact pk_nil | refine pk_box rfl ?_ | refine pk_rd rfl ?_ | refine pk_sl rfl ?_ | with_reducible refine pk_app ?_ | with_reducible refine pk_app0 ?_ | with_reducible refine pk_app0L ?_ | with_reducible exact pk_tl | refine pk_var ?_)))⟩
 refine C_skip_then ?_
 refine C_seq ?_
 refine C_block ?_
 refine C_seq ?_
 refine C_region ?_
 refine Jq (q_move rfl) ?_
 refine Jq (q_move rfl) ?_
 refine Jq (q_add rfl rfl (by first | exact IntWalk.i64_in _ (by omega) | rfl)) ?_
 refine Jq (by first | exact q_index tb rfl rfl rfl rfl gvo (by omega) (by first | omega | (simp; done) | (simp; omega)) | exact q_indexP tb rfl rfl rfl rfl (by omega) (by omega)) ?_
 refine Jq (q_loadE tb rfl rfl gvo (i := 4) (o := 0) (by omega) (map_get cT (wC_get (by omega))) rfl) ?_
 refine L_call tb rfl rfl (ct_shotlinebase_Number (wC (cutF 32 [] p) 4) 7 (by have := cutF_le (m := 32) p [] _ (List.mem_of_getElem? (wC_get (w := (cutF 32 [] p)) (i := 4) (by omega))); have := cutF_le (m := 10) t [] p (List.mem_of_getElem? hp); simp at *; omega) (by decide)) no_ps rfl ?_
 refine Jq (q_move rfl) ?_
 refine Jq (q_ext0 rfl) ?_
 refine Jq (q_ext1 rfl) ?_
 refine Jq (q_assign rfl) ?_
 refine Jq (q_assign rfl) ?_
 refine L_then ?_
 refine C_seq ?_
 refine C_seq ?_
 refine C_region ?_
 refine Jq (q_move rfl) ?_
 refine Jq (q_not rfl (by first | exact (rfl : (!true) = false) | exact (rfl : (!false) = true) | exact decide_not.symm | rfl)) ?_
 refine L_then ?_
 refine C_bool rfl (fun h74 => ?_) (fun h74 => ?_)
 refine C_seq ?_
 refine C_region ?_
 refine Jq (q_move rfl) ?_
 refine Jq (q_add rfl rfl (by first | exact IntWalk.i64_in _ (by omega) | rfl)) ?_
 refine Jq (q_assign rfl) ?_
 refine Jq (q_assign rfl) ?_
 refine Jq (q_assign rfl) ?_
 refine L_then ?_
 refine C_ret ?_
 rw [pacA_7f (show ¬ t.length > 60000 by omega) (hG.trans (by rw [hd2]; exact parC_n (lnC_n h5 (i := 3) (by decide) (by simpa using h74))))]
 exact ret_of (rs' := [sl nilC 120 4 []]) (res3 rfl rfl rfl rfl) (fun w_ h_ => ws_nil (sub_nil w_ h_)) own1 ⟨none, 0, 0, rfl, rfl⟩
 have hok : (numM (wC (cutF 32 [] p) 4) 7).isSome = true := by simpa using h74
 refine C_skip_then ?_
 refine C_region ?_
 refine Jq (q_move rfl) ?_
 refine Jq (q_move rfl) ?_
 refine Jq (by first | exact q_index tb rfl rfl rfl rfl gvo (by omega) (by first | omega | (simp; done) | (simp; omega)) | exact q_indexP tb rfl rfl rfl rfl (by omega) (by omega)) ?_
 refine L_st tb rfl rfl ?_
 refine L_blk ?_
 refine C_region ?_
 refine Jq (q_move rfl) ?_
 refine Jq (q_add rfl rfl (by first | exact IntWalk.i64_in _ (by omega) | rfl)) ?_
 refine Jq (q_assign rfl) ?_
 refine L_end ?_
 exact fun ac_ wo_ hs_ => ⟨(4, ⟨z.n, z.h, z.b, ((numM (wC (cutF 32 [] p) 4) 7).getD 0)⟩), ⟨by dsimp only; omega, (fun _ => i1 (by omega)), (fun _ => i2 (by omega)), (fun _ => i3 (by omega)), (fun _ => some_get3 hok)⟩, (by dsimp only; omega), hs_.weak ⟨rfl, rfl, rfl, rfl, rfl, rfl, trivial⟩ (fun h_ => h_.pk (by repeat (first | with_reducible exact pk_nil | refine pk_box rfl ?_ | refine pk_rd rfl ?_ | refine pk_sl rfl ?_ | with_reducible refine pk_app ?_ | with_reducible refine pk_app0 ?_ | with_reducible refine pk_app0L ?_ | with_reducible exact pk_tl | refine pk_var ?_)))⟩
 have hz := lnC_y h5 h0 (i1 (by omega)) (i2 (by omega)) (i3 (by omega)) (i4 (by omega))
 refine C_exit ?_
 change C Tryz.prog _ _ _ _ _ _ _
 refine C_res (rs' := [box g9 143 (cCp z), sl a9 120 4 (L.map cCp), sl v18 9 1 ((cutF 10 [] t).map cT)]) (fun _ h => h.pk (by repeat (first | with_reducible exact pk_nil | refine pk_box rfl ?_ | refine pk_rd rfl ?_ | refine pk_sl rfl ?_ | with_reducible refine pk_app ?_ | with_reducible refine pk_app0 ?_ | with_reducible refine pk_app0L ?_ | with_reducible exact pk_tl | refine pk_var ?_))) ?_
 refine C_region ?_
 refine Jq (q_move rfl) ?_
 refine Jq (by first | exact q_index tb rfl rfl rfl rfl gvo (by omega) (by first | omega | (simp; done) | (simp; omega)) | exact q_indexP tb rfl rfl rfl rfl (by omega) (by omega)) ?_
 refine Jq (by first | exact q_load tb rfl rfl bxo rfl | exact q_loadE tb rfl rfl gvo (by omega) (by simp) rfl) ?_
 refine Jq (by first | exact q_index tb rfl rfl rfl rfl gvo (by omega) (by first | omega | (simp; done) | (simp; omega)) | exact q_indexP tb rfl rfl rfl rfl (by omega) (by omega)) ?_
 refine Jq (by first | exact q_load tb rfl rfl bxo rfl | exact q_loadE tb rfl rfl gvo (by omega) (by simp) rfl) ?_
 refine Jq (by first | exact q_index tb rfl rfl rfl rfl gvo (by omega) (by first | omega | (simp; done) | (simp; omega)) | exact q_indexP tb rfl rfl rfl rfl (by omega) (by omega)) ?_
 refine Jq (by first | exact q_load tb rfl rfl bxo rfl | exact q_loadE tb rfl rfl gvo (by omega) (by simp) rfl) ?_
 refine Jq (by first | exact q_index tb rfl rfl rfl rfl gvo (by omega) (by first | omega | (simp; done) | (simp; omega)) | exact q_indexP tb rfl rfl rfl rfl (by omega) (by omega)) ?_
 refine Jq (by first | exact q_load tb rfl rfl bxo rfl | exact q_loadE tb rfl rfl gvo (by omega) (by simp) rfl) ?_
 refine Jq (by first | exact q_build tb rfl rfl rfl rfl | exact q_buildArr tb rfl rfl rfl rfl rfl) ?_
 refine L_mk (lo_bslice tb rfl rfl rfl (xs := [cCp z]) rfl rfl (by simp [cCp]) rfl (by omega) rfl) rfl rfl rfl fun v90 => ?_
 refine L_ap tb rfl rfl rfl rfl gvo (by simp [Value.oneCell', cCp]) (by simp [maxLen]; omega) (by simp; omega) fun v91 => ?_
 refine Jq (q_assign rfl) ?_
 refine L_blk ?_
 refine C_region ?_
 refine Jq (q_move rfl) ?_
 refine Jq (q_add rfl rfl (by first | exact IntWalk.i64_in _ (by omega) | rfl)) ?_
 refine Jq (q_assign rfl) ?_
 refine L_end ?_
 exact fun ac_ wo_ hs_ => ⟨(k + 1, L ++ [z], v91), ⟨by dsimp only; omega, by dsimp only; rw [List.length_append, hL]; rfl, hG.trans (by rw [hd2, parC_y hz]; dsimp only; rw [hd1]; rfl)⟩, (by dsimp only; omega), hs_.weak ⟨rfl, rfl, rfl, trivial⟩ (fun h_ => h_.pk (by repeat (first | with_reducible exact pk_nil | refine pk_box (by first | rfl | exact (cp_snoc _ _)) ?_ | refine pk_rd rfl ?_ | refine pk_sl (by first | rfl | exact (cp_snoc _ _)) ?_ | with_reducible refine pk_app ?_ | with_reducible refine pk_app0 ?_ | with_reducible refine pk_app0L ?_ | with_reducible exact pk_tl | refine pk_var ?_)))⟩
 iterate 5 refine Jk ?_
 refine Jq (q_pickF rfl rfl) ?_
 refine L_then ?_
 refine C_false rfl ?_
 refine C_skip_then ?_
 refine C_seq ?_
 refine C_region ?_
 refine Jq (q_move rfl) ?_
 refine Jq (q_move rfl) ?_
 refine Jq (by first | exact q_index tb rfl rfl rfl rfl gvo (by omega) (by first | omega | (simp; done) | (simp; omega)) | exact q_indexP tb rfl rfl rfl rfl (by omega) (by omega)) ?_
 refine Jq (q_loadE tb rfl rfl gvo (i := k) (o := 0) (by omega) hel rfl) ?_
 refine L_callS tb rfl rfl (ct_shotlinebase_Cut p 32 (by have := cutF_le (m := 10) t [] p (List.mem_of_getElem? hp); simp at this; omega)) no_ps rfl fun v41 => ?_
 refine Jq (q_assign rfl) ?_
 refine L_then ?_
 refine C_seq ?_
 refine C_seq ?_
 refine C_region ?_
 refine Jq (q_move rfl) ?_
 refine Jq (q_move rfl) ?_
 refine Jq (q_len tb rfl rfl gvo) ?_
 refine Jq (q_sub rfl rfl (by first | exact IntWalk.i64_in _ (by omega) | rfl)) ?_
 refine Jq (q_eql rfl rfl) ?_
 refine Jq (q_move rfl) ?_
 refine L_dec (d := 47) rfl (fun h47 => ?_) (fun h47 => ?_)
 iterate 3 refine Jk ?_
 refine Jq (q_pickT rfl rfl) ?_
 refine Jq (q_move rfl) ?_
 iterate 4 refine Jk ?_
 refine Jq (q_pickT rfl rfl) ?_
 refine L_then ?_
 refine C_true rfl ?_
 refine C_seq ?_
 refine C_region ?_
 refine Jq (q_move rfl) ?_
 refine Jq (q_add rfl rfl (by first | exact IntWalk.i64_in _ (by omega) | rfl)) ?_
 refine Jq (q_assign rfl) ?_
 refine Jq (q_assign rfl) ?_
 refine Jq (q_assign rfl) ?_
 refine L_then ?_
 refine C_ret ?_
 exfalso
 omega
 obtain ⟨q, r, hd2, hd1⟩ := dropc_two hp (by omega)
 have hwm := len_map cT (cutF 32 [] p)
 refine Jg (q_move rfl) ?_
 refine Jg (q_len tb rfl rfl gvo) ?_
 refine Jg (q_neq rfl rfl) ?_
 refine Jq (q_pickF rfl rfl) ?_
 refine Jq (q_move rfl) ?_
 refine L_dec (d := 52) rfl (fun h52 => ?_) (fun h52 => ?_)
 iterate 4 refine Jk ?_
 refine Jq (q_pickT rfl rfl) ?_
 refine L_then ?_
 refine C_true rfl ?_
 refine C_seq ?_
 refine C_region ?_
 refine Jq (q_move rfl) ?_
 refine Jq (q_add rfl rfl (by first | exact IntWalk.i64_in _ (by omega) | rfl)) ?_
 refine Jq (q_assign rfl) ?_
 refine Jq (q_assign rfl) ?_
 refine Jq (q_assign rfl) ?_
 refine L_then ?_
 refine C_ret ?_
 rw [pacA_7f (show ¬ t.length > 60000 by omega) (hG.trans (by rw [hd2]; exact parC_n (lnC_5 (fun hh => h52 (by rw [hwm, hh]; rfl)))))]
 exact ret_of (rs' := [sl nilC 120 4 []]) (res3 rfl rfl rfl rfl) (fun w_ h_ => ws_nil (sub_nil w_ h_)) own1 ⟨none, 0, 0, rfl, rfl⟩
 have h5 : (cutF 32 [] p).length = 5 := by omega
 refine Jg (q_move rfl) ?_
 refine Jg (by first | exact q_index tb rfl rfl rfl rfl gvo (by omega) (by first | omega | (simp; done) | (simp; omega)) | exact q_indexP tb rfl rfl rfl rfl (by omega) (by omega)) ?_
 refine Jg (q_loadE tb rfl rfl gvo (i := 0) (o := 0) (by omega) (map_get cT (wC_get (by omega))) rfl) ?_
 refine Jg (t_ne (a := wC (cutF 32 [] p) 0) (b := tTis) rfl rfl) ?_
 refine Jq (q_pickF rfl rfl) ?_
 refine L_then ?_
 refine C_dec rfl (fun h57 => ?_) (fun h57 => ?_)
 refine C_seq ?_
 refine C_region ?_
 refine Jq (q_move rfl) ?_
 refine Jq (q_add rfl rfl (by first | exact IntWalk.i64_in _ (by omega) | rfl)) ?_
 refine Jq (q_assign rfl) ?_
 refine Jq (q_assign rfl) ?_
 refine Jq (q_assign rfl) ?_
 refine L_then ?_
 refine C_ret ?_
 rw [pacA_7f (show ¬ t.length > 60000 by omega) (hG.trans (by rw [hd2]; exact parC_n (lnC_a h5 h57)))]
 exact ret_of (rs' := [sl nilC 120 4 []]) (res3 rfl rfl rfl rfl) (fun w_ h_ => ws_nil (sub_nil w_ h_)) own1 ⟨none, 0, 0, rfl, rfl⟩
 have h0 := Decidable.not_not.1 h57
 refine C_skip_then ?_
 refine C_seq ?_
 refine C_region ?_
 refine L_alloc tb rfl rfl fun g9 => ?_
 refine L_then ?_
 refine C_seq ?_
 refine C_seq ?_
 refine C_region ?_
 refine Jq (q_assign rfl) ?_
 refine L_then ?_
 refine C_block ?_
 refine C_res (rs' := [box g9 143 (cCp ⟨0, 0, 0, 0⟩), sl v41 9 1 ((cutF 32 [] p).map cT), sl a9 120 4 (L.map cCp), sl v18 9 1 ((cutF 10 [] t).map cT)]) (fun _ h_ => h_.pk (by repeat (first | with_reducible exact pk_nil | refine pk_box rfl ?_ | refine pk_rd rfl ?_ | refine pk_sl rfl ?_ | with_reducible refine pk_app ?_ | with_reducible refine pk_app0 ?_ | with_reducible refine pk_app0L ?_ | with_reducible exact pk_tl | refine pk_var ?_))) ?_
 refine C_loop (ι := Nat × Cp) (fun q9 => ([(5, a9), (6, v18), (7, .int .i64 (k : Int)), (8, v41), (9, .pointer (some ⟨g9, 0, none⟩)), (10, .int .i64 ((q9.1 : Int)))], [box g9 143 (cCp q9.2), sl v41 9 1 ((cutF 32 [] p).map cT), sl a9 120 4 (L.map cCp), sl v18 9 1 ((cutF 10 [] t).map cT)])) (fun q9 => q9.1 ≤ 4 ∧ (0 < q9.1 → numM (wC (cutF 32 [] p) 1) 7 = some q9.2.n) ∧ (1 < q9.1 → numM (wC (cutF 32 [] p) 2) 7 = some q9.2.h) ∧ (2 < q9.1 → numM (wC (cutF 32 [] p) 3) 7 = some q9.2.b) ∧ (3 < q9.1 → numM (wC (cutF 32 [] p) 4) 7 = some q9.2.s)) (fun q9 => 4 - q9.1) (0, ⟨0, 0, 0, 0⟩) ⟨Nat.zero_le _, fun h => absurd h (by decide), fun h => absurd h (by decide), fun h => absurd h (by decide), fun h => absurd h (by decide)⟩ (fun a w hs => hs.weak ⟨rfl, rfl, rfl, rfl, rfl, rfl, trivial⟩ (fun h => h.pk (by repeat (first | with_reducible exact pk_nil | refine pk_box rfl ?_ | refine pk_rd rfl ?_ | refine pk_sl rfl ?_ | with_reducible refine pk_app ?_ | with_reducible refine pk_app0 ?_ | with_reducible refine pk_app0L ?_ | with_reducible exact pk_tl | refine pk_var ?_)))) ?_
 rintro ⟨j, z⟩ ⟨hj, i1, i2, i3, i4⟩
 dsimp only at hj i1 i2 i3 i4 ⊢
 refine C_seq ?_
 refine C_seq ?_
 refine C_region ?_
 refine Jq (q_move rfl) ?_
 refine Jq (q_lss rfl rfl) ?_
 refine L_then ?_
 refine C_dec rfl (fun h22 => ?_) (fun h22 => ?_)
 obtain rfl | rfl | rfl | rfl : j = 0 ∨ j = 1 ∨ j = 2 ∨ j = 3 := by omega
 refine C_skip_then ?_
 refine C_seq ?_
 refine C_block ?_
 refine C_seq ?_
 refine C_region ?_
 refine Jq (q_move rfl) ?_
 refine Jq (q_move rfl) ?_
 refine Jq (q_add rfl rfl (by first | exact IntWalk.i64_in _ (by omega) | rfl)) ?_
 refine Jq (by first | exact q_index tb rfl rfl rfl rfl gvo (by omega) (by first | omega | (simp; done) | (simp; omega)) | exact q_indexP tb rfl rfl rfl rfl (by omega) (by omega)) ?_
 refine Jq (q_loadE tb rfl rfl gvo (i := 1) (o := 0) (by omega) (map_get cT (wC_get (by omega))) rfl) ?_
 refine L_call tb rfl rfl (ct_shotlinebase_Number (wC (cutF 32 [] p) 1) 7 (by have := cutF_le (m := 32) p [] _ (List.mem_of_getElem? (wC_get (w := (cutF 32 [] p)) (i := 1) (by omega))); have := cutF_le (m := 10) t [] p (List.mem_of_getElem? hp); simp at *; omega) (by decide)) no_ps rfl ?_
 refine Jq (q_move rfl) ?_
 refine Jq (q_ext0 rfl) ?_
 refine Jq (q_ext1 rfl) ?_
 refine Jq (q_assign rfl) ?_
 refine Jq (q_assign rfl) ?_
 refine L_then ?_
 refine C_seq ?_
 refine C_seq ?_
 refine C_region ?_
 refine Jq (q_move rfl) ?_
 refine Jq (q_not rfl (by first | exact (rfl : (!true) = false) | exact (rfl : (!false) = true) | exact decide_not.symm | rfl)) ?_
 refine L_then ?_
 refine C_bool rfl (fun h74 => ?_) (fun h74 => ?_)
 refine C_seq ?_
 refine C_region ?_
 refine Jq (q_move rfl) ?_
 refine Jq (q_add rfl rfl (by first | exact IntWalk.i64_in _ (by omega) | rfl)) ?_
 refine Jq (q_assign rfl) ?_
 refine Jq (q_assign rfl) ?_
 refine Jq (q_assign rfl) ?_
 refine L_then ?_
 refine C_ret ?_
 rw [pacA_7f (show ¬ t.length > 60000 by omega) (hG.trans (by rw [hd2]; exact parC_n (lnC_n h5 (i := 0) (by decide) (by simpa using h74))))]
 exact ret_of (rs' := [sl nilC 120 4 []]) (res3 rfl rfl rfl rfl) (fun w_ h_ => ws_nil (sub_nil w_ h_)) own1 ⟨none, 0, 0, rfl, rfl⟩
 have hok : (numM (wC (cutF 32 [] p) 1) 7).isSome = true := by simpa using h74
 refine C_skip_then ?_
 refine C_region ?_
 refine Jq (q_move rfl) ?_
 refine Jq (q_move rfl) ?_
 refine Jq (by first | exact q_index tb rfl rfl rfl rfl gvo (by omega) (by first | omega | (simp; done) | (simp; omega)) | exact q_indexP tb rfl rfl rfl rfl (by omega) (by omega)) ?_
 refine L_st tb rfl rfl ?_
 refine L_blk ?_
 refine C_region ?_
 refine Jq (q_move rfl) ?_
 refine Jq (q_add rfl rfl (by first | exact IntWalk.i64_in _ (by omega) | rfl)) ?_
 refine Jq (q_assign rfl) ?_
 refine L_end ?_
 exact fun ac_ wo_ hs_ => ⟨(1, ⟨((numM (wC (cutF 32 [] p) 1) 7).getD 0), z.h, z.b, z.s⟩), ⟨by dsimp only; omega, (fun _ => some_get3 hok), (fun h => by dsimp only at h; omega), (fun h => by dsimp only at h; omega), (fun h => by dsimp only at h; omega)⟩, (by dsimp only; omega), hs_.weak ⟨rfl, rfl, rfl, rfl, rfl, rfl, trivial⟩ (fun h_ => h_.pk (by repeat (first | with_reducible exact pk_nil | refine pk_box rfl ?_ | refine pk_rd rfl ?_ | refine pk_sl rfl ?_ | with_reducible refine pk_app ?_ | with_reducible refine pk_app0 ?_ | with_reducible refine pk_app0L ?_ | with_reducible exact pk_tl | refine pk_var ?_)))⟩
 refine C_skip_then ?_
 refine C_seq ?_
 refine C_block ?_
 refine C_seq ?_
 refine C_region ?_
 refine Jq (q_move rfl) ?_
 refine Jq (q_move rfl) ?_
 refine Jq (q_add rfl rfl (by first | exact IntWalk.i64_in _ (by omega) | rfl)) ?_
 refine Jq (by first | exact q_index tb rfl rfl rfl rfl gvo (by omega) (by first | omega | (simp; done) | (simp; omega)) | exact q_indexP tb rfl rfl rfl rfl (by omega) (by omega)) ?_
 refine Jq (q_loadE tb rfl rfl gvo (i := 2) (o := 0) (by omega) (map_get cT (wC_get (by omega))) rfl) ?_
 refine L_call tb rfl rfl (ct_shotlinebase_Number (wC (cutF 32 [] p) 2) 7 (by have := cutF_le (m := 32) p [] _ (List.mem_of_getElem? (wC_get (w := (cutF 32 [] p)) (i := 2) (by omega))); have := cutF_le (m := 10) t [] p (List.mem_of_getElem? hp); simp at *; omega) (by decide)) no_ps rfl ?_
 refine Jq (q_move rfl) ?_
 refine Jq (q_ext0 rfl) ?_
 refine Jq (q_ext1 rfl) ?_
 refine Jq (q_assign rfl) ?_
 refine Jq (q_assign rfl) ?_
 refine L_then ?_
 refine C_seq ?_
 refine C_seq ?_
 refine C_region ?_
 refine Jq (q_move rfl) ?_
 refine Jq (q_not rfl (by first | exact (rfl : (!true) = false) | exact (rfl : (!false) = true) | exact decide_not.symm | rfl)) ?_
 refine L_then ?_
 refine C_bool rfl (fun h74 => ?_) (fun h74 => ?_)
 refine C_seq ?_
 refine C_region ?_
 refine Jq (q_move rfl) ?_
 refine Jq (q_add rfl rfl (by first | exact IntWalk.i64_in _ (by omega) | rfl)) ?_
 refine Jq (q_assign rfl) ?_
 refine Jq (q_assign rfl) ?_
 refine Jq (q_assign rfl) ?_
 refine L_then ?_
 refine C_ret ?_
 rw [pacA_7f (show ¬ t.length > 60000 by omega) (hG.trans (by rw [hd2]; exact parC_n (lnC_n h5 (i := 1) (by decide) (by simpa using h74))))]
 exact ret_of (rs' := [sl nilC 120 4 []]) (res3 rfl rfl rfl rfl) (fun w_ h_ => ws_nil (sub_nil w_ h_)) own1 ⟨none, 0, 0, rfl, rfl⟩
 have hok : (numM (wC (cutF 32 [] p) 2) 7).isSome = true := by simpa using h74
 refine C_skip_then ?_
 refine C_region ?_
 refine Jq (q_move rfl) ?_
 refine Jq (q_move rfl) ?_
 refine Jq (by first | exact q_index tb rfl rfl rfl rfl gvo (by omega) (by first | omega | (simp; done) | (simp; omega)) | exact q_indexP tb rfl rfl rfl rfl (by omega) (by omega)) ?_
 refine L_st tb rfl rfl ?_
 refine L_blk ?_
 refine C_region ?_
 refine Jq (q_move rfl) ?_
 refine Jq (q_add rfl rfl (by first | exact IntWalk.i64_in _ (by omega) | rfl)) ?_
 refine Jq (q_assign rfl) ?_
 refine L_end ?_
 exact fun ac_ wo_ hs_ => ⟨(2, ⟨z.n, ((numM (wC (cutF 32 [] p) 2) 7).getD 0), z.b, z.s⟩), ⟨by dsimp only; omega, (fun _ => i1 (by omega)), (fun _ => some_get3 hok), (fun h => by dsimp only at h; omega), (fun h => by dsimp only at h; omega)⟩, (by dsimp only; omega), hs_.weak ⟨rfl, rfl, rfl, rfl, rfl, rfl, trivial⟩ (fun h_ => h_.pk (by repeat (first | with_reducible exact pk_nil | refine pk_box rfl ?_ | refine pk_rd rfl ?_ | refine pk_sl rfl ?_ | with_reducible refine pk_app ?_ | with_reducible refine pk_app0 ?_ | with_reducible refine pk_app0L ?_ | with_reducible exact pk_tl | refine pk_var ?_)))⟩
 refine C_skip_then ?_
 refine C_seq ?_
 refine C_block ?_
 refine C_seq ?_
 refine C_region ?_
 refine Jq (q_move rfl) ?_
 refine Jq (q_move rfl) ?_
 refine Jq (q_add rfl rfl (by first | exact IntWalk.i64_in _ (by omega) | rfl)) ?_
 refine Jq (by first | exact q_index tb rfl rfl rfl rfl gvo (by omega) (by first | omega | (simp; done) | (simp; omega)) | exact q_indexP tb rfl rfl rfl rfl (by omega) (by omega)) ?_
 refine Jq (q_loadE tb rfl rfl gvo (i := 3) (o := 0) (by omega) (map_get cT (wC_get (by omega))) rfl) ?_
 refine L_call tb rfl rfl (ct_shotlinebase_Number (wC (cutF 32 [] p) 3) 7 (by have := cutF_le (m := 32) p [] _ (List.mem_of_getElem? (wC_get (w := (cutF 32 [] p)) (i := 3) (by omega))); have := cutF_le (m := 10) t [] p (List.mem_of_getElem? hp); simp at *; omega) (by decide)) no_ps rfl ?_
 refine Jq (q_move rfl) ?_
 refine Jq (q_ext0 rfl) ?_
 refine Jq (q_ext1 rfl) ?_
 refine Jq (q_assign rfl) ?_
 refine Jq (q_assign rfl) ?_
 refine L_then ?_
 refine C_seq ?_
 refine C_seq ?_
 refine C_region ?_
 refine Jq (q_move rfl) ?_
 refine Jq (q_not rfl (by first | exact (rfl : (!true) = false) | exact (rfl : (!false) = true) | exact decide_not.symm | rfl)) ?_
 refine L_then ?_
 refine C_bool rfl (fun h74 => ?_) (fun h74 => ?_)
 refine C_seq ?_
 refine C_region ?_
 refine Jq (q_move rfl) ?_
 refine Jq (q_add rfl rfl (by first | exact IntWalk.i64_in _ (by omega) | rfl)) ?_
 refine Jq (q_assign rfl) ?_
 refine Jq (q_assign rfl) ?_
 refine Jq (q_assign rfl) ?_
 refine L_then ?_
 refine C_ret ?_
 rw [pacA_7f (show ¬ t.length > 60000 by omega) (hG.trans (by rw [hd2]; exact parC_n (lnC_n h5 (i := 2) (by decide) (by simpa using h74))))]
 exact ret_of (rs' := [sl nilC 120 4 []]) (res3 rfl rfl rfl rfl) (fun w_ h_ => ws_nil (sub_nil w_ h_)) own1 ⟨none, 0, 0, rfl, rfl⟩
 have hok : (numM (wC (cutF 32 [] p) 3) 7).isSome = true := by simpa using h74
 refine C_skip_then ?_
 refine C_region ?_
 refine Jq (q_move rfl) ?_
 refine Jq (q_move rfl) ?_
 refine Jq (by first | exact q_index tb rfl rfl rfl rfl gvo (by omega) (by first | omega | (simp; done) | (simp; omega)) | exact q_indexP tb rfl rfl rfl rfl (by omega) (by omega)) ?_
 refine L_st tb rfl rfl ?_
 refine L_blk ?_
 refine C_region ?_
 refine Jq (q_move rfl) ?_
 refine Jq (q_add rfl rfl (by first | exact IntWalk.i64_in _ (by omega) | rfl)) ?_
 refine Jq (q_assign rfl) ?_
 refine L_end ?_
 exact fun ac_ wo_ hs_ => ⟨(3, ⟨z.n, z.h, ((numM (wC (cutF 32 [] p) 3) 7).getD 0), z.s⟩), ⟨by dsimp only; omega, (fun _ => i1 (by omega)), (fun _ => i2 (by omega)), (fun _ => some_get3 hok), (fun h => by dsimp only at h; omega)⟩, (by dsimp only; omega), hs_.weak ⟨rfl, rfl, rfl, rfl, rfl, rfl, trivial⟩ (fun h_ => h_.pk (by repeat (first | with_reducible exact pk_nil | refine pk_box rfl ?_ | refine pk_rd rfl ?_ | refine pk_sl rfl ?_ | with_reducible refine pk_app ?_ | with_reducible refine pk_app0 ?_ | with_reducible refine pk_app0L ?_ | with_reducible exact pk_tl | refine pk_var ?_)))⟩
 refine C_skip_then ?_
 refine C_seq ?_
 refine C_block ?_
 refine C_seq ?_
 refine C_region ?_
 refine Jq (q_move rfl) ?_
 refine Jq (q_move rfl) ?_
 refine Jq (q_add rfl rfl (by first | exact IntWalk.i64_in _ (by omega) | rfl)) ?_
 refine Jq (by first | exact q_index tb rfl rfl rfl rfl gvo (by omega) (by first | omega | (simp; done) | (simp; omega)) | exact q_indexP tb rfl rfl rfl rfl (by omega) (by omega)) ?_
 refine Jq (q_loadE tb rfl rfl gvo (i := 4) (o := 0) (by omega) (map_get cT (wC_get (by omega))) rfl) ?_
 refine L_call tb rfl rfl (ct_shotlinebase_Number (wC (cutF 32 [] p) 4) 7 (by have := cutF_le (m := 32) p [] _ (List.mem_of_getElem? (wC_get (w := (cutF 32 [] p)) (i := 4) (by omega))); have := cutF_le (m := 10) t [] p (List.mem_of_getElem? hp); simp at *; omega) (by decide)) no_ps rfl ?_
 refine Jq (q_move rfl) ?_
 refine Jq (q_ext0 rfl) ?_
 refine Jq (q_ext1 rfl) ?_
 refine Jq (q_assign rfl) ?_
 refine Jq (q_assign rfl) ?_
 refine L_then ?_
 refine C_seq ?_
 refine C_seq ?_
 refine C_region ?_
 refine Jq (q_move rfl) ?_
 refine Jq (q_not rfl (by first | exact (rfl : (!true) = false) | exact (rfl : (!false) = true) | exact decide_not.symm | rfl)) ?_
 refine L_then ?_
 refine C_bool rfl (fun h74 => ?_) (fun h74 => ?_)
 refine C_seq ?_
 refine C_region ?_
 refine Jq (q_move rfl) ?_
 refine Jq (q_add rfl rfl (by first | exact IntWalk.i64_in _ (by omega) | rfl)) ?_
 refine Jq (q_assign rfl) ?_
 refine Jq (q_assign rfl) ?_
 refine Jq (q_assign rfl) ?_
 refine L_then ?_
 refine C_ret ?_
 rw [pacA_7f (show ¬ t.length > 60000 by omega) (hG.trans (by rw [hd2]; exact parC_n (lnC_n h5 (i := 3) (by decide) (by simpa using h74))))]
 exact ret_of (rs' := [sl nilC 120 4 []]) (res3 rfl rfl rfl rfl) (fun w_ h_ => ws_nil (sub_nil w_ h_)) own1 ⟨none, 0, 0, rfl, rfl⟩
 have hok : (numM (wC (cutF 32 [] p) 4) 7).isSome = true := by simpa using h74
 refine C_skip_then ?_
 refine C_region ?_
 refine Jq (q_move rfl) ?_
 refine Jq (q_move rfl) ?_
 refine Jq (by first | exact q_index tb rfl rfl rfl rfl gvo (by omega) (by first | omega | (simp; done) | (simp; omega)) | exact q_indexP tb rfl rfl rfl rfl (by omega) (by omega)) ?_
 refine L_st tb rfl rfl ?_
 refine L_blk ?_
 refine C_region ?_
 refine Jq (q_move rfl) ?_
 refine Jq (q_add rfl rfl (by first | exact IntWalk.i64_in _ (by omega) | rfl)) ?_
 refine Jq (q_assign rfl) ?_
 refine L_end ?_
 exact fun ac_ wo_ hs_ => ⟨(4, ⟨z.n, z.h, z.b, ((numM (wC (cutF 32 [] p) 4) 7).getD 0)⟩), ⟨by dsimp only; omega, (fun _ => i1 (by omega)), (fun _ => i2 (by omega)), (fun _ => i3 (by omega)), (fun _ => some_get3 hok)⟩, (by dsimp only; omega), hs_.weak ⟨rfl, rfl, rfl, rfl, rfl, rfl, trivial⟩ (fun h_ => h_.pk (by repeat (first | with_reducible exact pk_nil | refine pk_box rfl ?_ | refine pk_rd rfl ?_ | refine pk_sl rfl ?_ | with_reducible refine pk_app ?_ | with_reducible refine pk_app0 ?_ | with_reducible refine pk_app0L ?_ | with_reducible exact pk_tl | refine pk_var ?_)))⟩
 have hz := lnC_y h5 h0 (i1 (by omega)) (i2 (by omega)) (i3 (by omega)) (i4 (by omega))
 refine C_exit ?_
 change C Tryz.prog _ _ _ _ _ _ _
 refine C_res (rs' := [box g9 143 (cCp z), sl a9 120 4 (L.map cCp), sl v18 9 1 ((cutF 10 [] t).map cT)]) (fun _ h => h.pk (by repeat (first | with_reducible exact pk_nil | refine pk_box rfl ?_ | refine pk_rd rfl ?_ | refine pk_sl rfl ?_ | with_reducible refine pk_app ?_ | with_reducible refine pk_app0 ?_ | with_reducible refine pk_app0L ?_ | with_reducible exact pk_tl | refine pk_var ?_))) ?_
 refine C_region ?_
 refine Jq (q_move rfl) ?_
 refine Jq (by first | exact q_index tb rfl rfl rfl rfl gvo (by omega) (by first | omega | (simp; done) | (simp; omega)) | exact q_indexP tb rfl rfl rfl rfl (by omega) (by omega)) ?_
 refine Jq (by first | exact q_load tb rfl rfl bxo rfl | exact q_loadE tb rfl rfl gvo (by omega) (by simp) rfl) ?_
 refine Jq (by first | exact q_index tb rfl rfl rfl rfl gvo (by omega) (by first | omega | (simp; done) | (simp; omega)) | exact q_indexP tb rfl rfl rfl rfl (by omega) (by omega)) ?_
 refine Jq (by first | exact q_load tb rfl rfl bxo rfl | exact q_loadE tb rfl rfl gvo (by omega) (by simp) rfl) ?_
 refine Jq (by first | exact q_index tb rfl rfl rfl rfl gvo (by omega) (by first | omega | (simp; done) | (simp; omega)) | exact q_indexP tb rfl rfl rfl rfl (by omega) (by omega)) ?_
 refine Jq (by first | exact q_load tb rfl rfl bxo rfl | exact q_loadE tb rfl rfl gvo (by omega) (by simp) rfl) ?_
 refine Jq (by first | exact q_index tb rfl rfl rfl rfl gvo (by omega) (by first | omega | (simp; done) | (simp; omega)) | exact q_indexP tb rfl rfl rfl rfl (by omega) (by omega)) ?_
 refine Jq (by first | exact q_load tb rfl rfl bxo rfl | exact q_loadE tb rfl rfl gvo (by omega) (by simp) rfl) ?_
 refine Jq (by first | exact q_build tb rfl rfl rfl rfl | exact q_buildArr tb rfl rfl rfl rfl rfl) ?_
 refine L_mk (lo_bslice tb rfl rfl rfl (xs := [cCp z]) rfl rfl (by simp [cCp]) rfl (by omega) rfl) rfl rfl rfl fun v90 => ?_
 refine L_ap tb rfl rfl rfl rfl gvo (by simp [Value.oneCell', cCp]) (by simp [maxLen]; omega) (by simp; omega) fun v91 => ?_
 refine Jq (q_assign rfl) ?_
 refine L_blk ?_
 refine C_region ?_
 refine Jq (q_move rfl) ?_
 refine Jq (q_add rfl rfl (by first | exact IntWalk.i64_in _ (by omega) | rfl)) ?_
 refine Jq (q_assign rfl) ?_
 refine L_end ?_
 exact fun ac_ wo_ hs_ => ⟨(k + 1, L ++ [z], v91), ⟨by dsimp only; omega, by dsimp only; rw [List.length_append, hL]; rfl, hG.trans (by rw [hd2, parC_y hz]; dsimp only; rw [hd1]; rfl)⟩, (by dsimp only; omega), hs_.weak ⟨rfl, rfl, rfl, trivial⟩ (fun h_ => h_.pk (by repeat (first | with_reducible exact pk_nil | refine pk_box (by first | rfl | exact (cp_snoc _ _)) ?_ | refine pk_rd rfl ?_ | refine pk_sl (by first | rfl | exact (cp_snoc _ _)) ?_ | with_reducible refine pk_app ?_ | with_reducible refine pk_app0 ?_ | with_reducible refine pk_app0L ?_ | with_reducible exact pk_tl | refine pk_var ?_)))⟩
 have hGe : parC (cutF 10 [] t) [] 0 = (L, 0, 0) := by rw [hG, List.drop_eq_nil_of_le (show (cutF 10 [] t).length ≤ k by omega)]; exact parC_0
 refine C_form (v := a9) gvo (fun A9 c9 hv9 _ => ?_)
 subst hv9
 refine C_exit ?_
 change C Tryz.prog _ _ _ _ _ _ _
 refine C_seq ?_
 refine C_seq ?_
 refine C_region ?_
 refine Jq (q_move rfl) ?_
 refine L_call tb rfl rfl (ct_shotlineref03_CheckTable _ L (by omega)) (ps_cons gvo no_ps) rfl ?_
 refine Jq (q_assign rfl) ?_
 refine L_then ?_
 refine C_seq ?_
 refine C_region ?_
 refine Jq (q_move rfl) ?_
 refine Jq (q_neq rfl rfl) ?_
 refine L_then ?_
 refine C_dec rfl (fun h95 => ?_) (fun h95 => ?_)
 refine C_seq ?_
 refine C_region ?_
 refine Jq (q_move rfl) ?_
 refine Jq (q_assign rfl) ?_
 refine Jq (q_assign rfl) ?_
 refine Jq (q_assign rfl) ?_
 refine L_then ?_
 refine C_ret ?_
 rw [pacA_cf (show ¬ t.length > 60000 by omega) hGe, if_pos h95]
 exact ret_of (rs' := [sl nilC 120 4 []]) (res3 rfl rfl rfl rfl) (fun w_ h_ => ws_nil (sub_nil w_ h_)) own1 ⟨none, 0, 0, rfl, rfl⟩
 refine C_skip_then ?_
 refine C_seq ?_
 refine C_region ?_
 refine Jq (q_move rfl) ?_
 refine Jq (q_assign rfl) ?_
 refine Jq (q_assign rfl) ?_
 refine Jq (q_assign rfl) ?_
 refine L_then ?_
 refine C_ret ?_
 rw [pacA_cf (show ¬ t.length > 60000 by omega) hGe, if_neg h95]
 exact ret_of (rs' := [sl (.slice A9 (L.map cCp).length c9) 120 4 (L.map cCp)]) (res3 rfl rfl rfl rfl) (fun w_ h_ => h_.pk (by repeat (first | with_reducible exact pk_nil | refine pk_box rfl ?_ | refine pk_rd rfl ?_ | refine pk_sl rfl ?_ | with_reducible refine pk_app ?_ | with_reducible refine pk_app0 ?_ | with_reducible refine pk_app0L ?_ | with_reducible exact pk_tl | refine pk_var ?_))) own1 ⟨_, _, _, rfl, rfl⟩
end Go.Proofs.YtacndicgpkeobaaGreatDoor
