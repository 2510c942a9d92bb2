/-
  Walks: each function named returns what its model says. Conditions: those in front of each theorem.
-/
import Derived.Test.YthilaakeimfedaaGreatDoorT
import Derived.Test.YthilaakeimfedaaGreatDoorJ
namespace Go.Proofs.YthilaakeimfedaaGreatDoor
open Go.RowKit

set_option maxRecDepth 100000 in
set_option maxHeartbeats 2000000 in
theorem ct_tissue_Followed (v u z : Value) (fi : Int) (ts : List Cp) (ls : List Ld) (xs : List Lg) (hle : ts.length ≤ 1000000) (hle2 : ls.length ≤ 1000000) (hle3 : xs.length ≤ 1000000) : Ct Tryz.prog 89 [v, u, z, .int .i64 fi] [(v, 4, ts.map cCp), (u, 4, ls.map cLd), (z, 5, xs.map cLg)] (FolP 23 139 ts ls xs fi) := by
 refine Ct.of (N := 59) Tryz.func89 rfl rfl rfl fun w => ?_
 refine C_weak (E' := [(0, v), (1, u), (2, z), (3, .int .i64 fi)]) (rs' := [rd v 4 (ts.map cCp), rd u 4 (ls.map cLd), rd z 5 (xs.map cLg)]) ⟨rfl, rfl, rfl, rfl, trivial⟩ (fun _ h => h) ?_
 have hl1 := len_map cCp ts
 have hl2 := len_map cLd ls
 have hl3 := len_map cLg xs
 refine C_seq ?_
 refine C_region ?_
 refine Jq (q_assign rfl) ?_
 refine Jq (q_assign rfl) ?_
 refine L_then ?_
 refine C_seq ?_
 refine C_seq ?_
 refine C_region ?_
 refine Jq (q_move rfl) ?_
 refine Jq (q_move rfl) ?_
 refine L_call tb rfl rfl (ct_tissue_CheckLoads _ _ ts ls hle hle2) (ps_cons gvo (ps_cons gvo no_ps)) rfl ?_
 refine Jq (q_assign rfl) ?_
 refine L_then ?_
 refine C_seq ?_
 refine C_region ?_
 refine Jq (q_move rfl) ?_
 refine Jq (q_neq rfl rfl) ?_
 refine L_then ?_
 refine C_dec rfl (fun h1 => ?_) (fun h1 => ?_)
 refine C_seq ?_
 refine C_region ?_
 refine Jq (q_move rfl) ?_
 refine Jq (q_assign rfl) ?_
 refine Jq (q_assign rfl) ?_
 refine L_then ?_
 refine C_ret ?_
 exact ret_of (rs' := [sl (.slice none 0 0) 23 1 []]) (res2 rfl rfl rfl) (fun w_ h_ => ws_nil (sub_nil w_ h_)) own1 (FolP_bad (folC_1 h1) h1)
 refine C_skip_then ?_
 refine C_seq ?_
 refine C_seq ?_
 refine C_region ?_
 refine Jq (q_move rfl) ?_
 refine Jq (q_len tb rfl rfl gvo) ?_
 refine Jq (q_gtr rfl rfl) ?_
 refine L_then ?_
 refine C_dec rfl (fun h2 => ?_) (fun h2 => ?_)
 refine C_seq ?_
 refine C_region ?_
 refine Jq (q_assign rfl) ?_
 refine Jq (q_assign rfl) ?_
 refine L_then ?_
 refine C_ret ?_
 exact ret_of (rs' := [sl (.slice none 0 0) 23 1 []]) (res2 rfl rfl rfl) (fun w_ h_ => ws_nil (sub_nil w_ h_)) own1 (FolP_bad (folC_2 h1 (by omega)) (by decide))
 refine C_skip_then ?_
 refine C_seq ?_
 refine C_seq ?_
 refine C_region ?_
 refine Jq (q_move rfl) ?_
 refine Jq (q_len tb rfl rfl gvo) ?_
 refine Jq (q_move rfl) ?_
 refine L_then ?_
 refine C_block ?_
 refine C_loop (ι := Nat) (fun k => ([(0, v), (1, u), (2, z), (3, .int .i64 fi), (26, z), (27, .int .i64 (xs.map cLg).length), (28, .int .i64 (k : Int))], [rd v 4 (ts.map cCp), rd u 4 (ls.map cLd), rd z 5 (xs.map cLg)])) (fun k => k ≤ xs.length ∧ ckLgs (xs.drop k) = ckLgs xs) (fun k => xs.length - k) 0 ⟨Nat.zero_le _, rfl⟩ (fun a w hs => hs.weak ⟨rfl, rfl, rfl, rfl, rfl, rfl, rfl, trivial⟩ (fun h => h.pk (by repeat (first | with_reducible exact pk_nil | refine pk_box rfl ?_ | refine pk_rd rfl ?_ | refine pk_sl rfl ?_ | with_reducible refine pk_app ?_ | with_reducible refine pk_app0 ?_ | with_reducible refine pk_app0L ?_ | with_reducible exact pk_tl | refine pk_var ?_)))) ?_
 rintro k ⟨hk, hf⟩
 dsimp only at hk hf ⊢
 refine C_seq ?_
 refine C_region ?_
 refine Jq (q_lss rfl rfl) ?_
 refine L_then ?_
 refine C_seq ?_
 refine C_dec rfl (fun h3 => ?_) (fun h3 => ?_)
 obtain ⟨x, he⟩ := get_some xs (k := k) (by omega); have hel := map_get cLg he
 refine C_skip_then ?_
 refine C_seq ?_
 refine C_block ?_
 refine C_seq ?_
 refine C_region ?_
 refine Jq (by first | exact q_index tb rfl rfl rfl rfl gvo (by omega) (by first | omega | (simp; done) | (simp; omega)) | exact q_indexP tb rfl rfl rfl rfl (by omega) (by omega)) ?_
 refine Jq (q_loadEA tb rfl rfl gvo (i := k) (o := 0) (by omega) hel rfl rfl) ?_
 refine L_alloc tb rfl rfl fun g12 => ?_
 refine L_st tb rfl rfl ?_
 refine L_then ?_
 refine C_seq ?_
 refine C_region ?_
 refine Jq (q_loadA tb rfl rfl bxo rfl rfl) ?_
 refine L_call tb rfl rfl (ct_tissue_CheckLeg x) no_ps rfl ?_
 refine Jq (q_assign rfl) ?_
 refine L_then ?_
 refine C_seq ?_
 refine C_region ?_
 refine Jq (q_move rfl) ?_
 refine Jq (q_neq rfl rfl) ?_
 refine L_then ?_
 refine C_dec rfl (fun h5 => ?_) (fun h5 => ?_)
 refine C_seq ?_
 refine C_region ?_
 refine Jq (q_move rfl) ?_
 refine Jq (q_assign rfl) ?_
 refine Jq (q_assign rfl) ?_
 refine L_then ?_
 refine C_ret ?_
 have hq : ckLgs xs = ckLeg x := by rw [← hf]; exact ckLgs_yes he h5
 exact ret_of (rs' := [sl (.slice none 0 0) 23 1 []]) (res2 rfl rfl rfl) (fun w_ h_ => ws_nil (sub_nil w_ h_)) own1 (FolP_bad ((folC_3 h1 (by omega) (by rw [hq]; exact h5)).trans hq) h5)
 refine C_skip_blk ?_
 refine C_region ?_
 refine Jq (q_add rfl rfl (by first | exact IntWalk.i64_in _ (by omega) | rfl)) ?_
 refine Jq (q_move rfl) ?_
 refine L_end ?_
 exact fun ac_ wo_ hs_ => ⟨k + 1, ⟨by omega, by rw [← hf, ckLgs_no he h5]⟩, (by dsimp only; omega), hs_.weak ⟨rfl, rfl, rfl, rfl, rfl, rfl, rfl, trivial⟩ (fun h => h.pk (by repeat (first | with_reducible exact pk_nil | refine pk_box rfl ?_ | refine pk_rd rfl ?_ | refine pk_sl rfl ?_ | with_reducible refine pk_app ?_ | with_reducible refine pk_app0 ?_ | with_reducible refine pk_app0L ?_ | with_reducible exact pk_tl | refine pk_var ?_)))⟩
 have h3 : ckLgs xs = 0 := by rw [← hf]; exact ckLgs_end (by omega)
 refine C_exit ?_
 change C Tryz.prog _ _ _ _ _ _ _
 refine C_seq ?_
 refine C_seq ?_
 refine C_region ?_
 refine Jq (q_move rfl) ?_
 refine L_call tb rfl rfl (ct_tissue_isFine _) no_ps rfl ?_
 refine Jq (q_not rfl decide_not.symm) ?_
 refine L_then ?_
 refine C_dec rfl (fun h4 => ?_) (fun h4 => ?_)
 refine C_seq ?_
 refine C_region ?_
 refine Jq (q_assign rfl) ?_
 refine Jq (q_assign rfl) ?_
 refine L_then ?_
 refine C_ret ?_
 exact ret_of (rs' := [sl (.slice none 0 0) 23 1 []]) (res2 rfl rfl rfl) (fun w_ h_ => ws_nil (sub_nil w_ h_)) own1 (FolP_bad (folC_4 h1 (by omega) (fun h => h h3) (by omega)) (by decide))
 have hO9 : folC ts ls xs fi = 0 := folC_0 h1 (by omega) (fun h => h h3) (by omega)
 have hO := folC_ok hO9; have hok := hO.k; have hob := hok.b; have hol := hO.l
 obtain ⟨n, rfl⟩ := Int.eq_ofNat_of_zero_le (show 0 ≤ fi by omega)
 refine C_skip_then ?_
 refine C_seq ?_
 refine C_region ?_
 refine Jq (q_assign rfl) ?_
 refine L_then ?_
 refine C_seq ?_
 refine C_seq ?_
 refine C_region ?_
 refine Jq (q_move rfl) ?_
 refine Jq (q_len tb rfl rfl gvo) ?_
 refine Jq (q_move rfl) ?_
 refine L_then ?_
 refine C_block ?_
 refine C_nil 23 1 ?_
 refine C_res (rs' := [rd u 4 (ls.map cLd), sl (.slice none 0 0) 23 1 [], rd v 4 (ts.map cCp), rd z 5 (xs.map cLg)]) (fun _ h => h.pk (by repeat (first | with_reducible exact pk_nil | refine pk_box rfl ?_ | refine pk_rd rfl ?_ | refine pk_sl rfl ?_ | with_reducible refine pk_app ?_ | with_reducible refine pk_app0 ?_ | with_reducible refine pk_app0L ?_ | with_reducible exact pk_tl | refine pk_var ?_))) ?_
 refine C_loop (ι := Nat × Value × Value × List Value) (fun q => ([(0, v), (1, q.2.2.1), (3, .int .i64 (n : Int)), (14, q.2.1), (41, z), (42, .int .i64 (xs.map cLg).length), (43, .int .i64 (q.1 : Int))], (rd q.2.2.1 4 ((folM ts ls xs n q.1).map cLd) :: sl q.2.1 23 1 (q.2.2.2.reverse.map fun x => [x]) :: rd v 4 (ts.map cCp) :: rd z 5 (xs.map cLg) :: rlR 139 ts ls xs n q.2.2.2))) (fun q => q.1 ≤ xs.length ∧ q.2.2.2.length = q.1) (fun q => xs.length - q.1) (0, .slice none 0 0, u, []) ⟨Nat.zero_le _, rfl⟩ (fun a w hs => hs.weak ⟨rfl, rfl, rfl, rfl, rfl, rfl, rfl, trivial⟩ (fun h => h)) ?_
 rintro ⟨k, y, lv, vs⟩ ⟨hkl, hvl⟩
 dsimp only at hkl hvl ⊢
 refine C_seq ?_
 refine C_region ?_
 refine Jq (q_lss rfl rfl) ?_
 refine L_then ?_
 refine C_seq ?_
 refine C_dec rfl (fun h6 => ?_) (fun h6 => ?_)
 obtain ⟨x, he⟩ := get_some xs (k := k) (by omega); have hel := map_get cLg he; have hxx := (ckLeg_ok (ckLgs_ok hO.c x (List.mem_of_getElem? he))).1; have hF := folM_ok hok hO.c (show n ≤ 6 by omega) k
 refine C_skip_then ?_
 refine C_seq ?_
 refine C_block ?_
 refine C_seq ?_
 refine C_region ?_
 refine Jq (by first | exact q_index tb rfl rfl rfl rfl gvo (by omega) (by first | omega | (simp; done) | (simp; omega)) | exact q_indexP tb rfl rfl rfl rfl (by omega) (by omega)) ?_
 refine Jq (q_loadEA tb rfl rfl gvo (i := k) (o := 0) (by omega) hel rfl rfl) ?_
 refine L_alloc tb rfl rfl fun g16 => ?_
 refine L_st tb rfl rfl ?_
 refine L_then ?_
 refine C_seq ?_
 refine C_region ?_
 refine Jq (q_move rfl) ?_
 refine Jq (q_move rfl) ?_
 refine Jq (q_loadA tb rfl rfl bxo rfl rfl) ?_
 refine Jq (q_move rfl) ?_
 refine L_callS tb rfl rfl (ct_tissue_loaded _ _ x n ts (folM ts ls xs n k) (by omega) hxx hF.len (by omega) hF.c hF.x) (ps_cons gvo (ps_cons gvo no_ps)) rfl fun v51 => ?_
 refine Jq (q_assign rfl) ?_
 refine L_then ?_
 refine C_region ?_
 refine Jq (q_move rfl) ?_
 refine Jq (q_move rfl) ?_
 refine L_callSF tb rfl rfl (ct_CloneLoads v51 (loadedM ts (folM ts ls xs n k) x n) (by rw [loadedM_len hF.len]; omega)) (ps_cons gvo no_ps) rfl fun A54 n54 c54 => ?_
 refine L_mk (lo_bslice tb rfl rfl rfl (xs := [[.slice A54 n54 c54]]) rfl rfl (by simp) rfl (by omega) rfl) rfl rfl rfl fun v55 => ?_
 refine L_ap tb rfl rfl rfl rfl gvo (by simp [Value.oneCell']) (by simp [maxLen]; omega) (by simp; omega) fun v56 => ?_
 refine Jq (q_assign rfl) ?_
 refine L_blk ?_
 refine C_region ?_
 refine Jq (q_add rfl rfl (by first | exact IntWalk.i64_in _ (by omega) | rfl)) ?_
 refine Jq (q_move rfl) ?_
 refine L_end ?_
 have e9 : (loadedM ts (folM ts ls xs n k) x n).map cLd = (folM ts ls xs n (k + 1)).map cLd := by rw [folM_step he]
 have e8 : (vs.reverse.map fun x => [x]) ++ [[Value.slice A54 n54 c54]] = ((Value.slice A54 n54 c54 :: vs).reverse.map fun x => [x]) := by simp
 have e7 : (loadedM ts (folM ts ls xs n k) x n).map cLd = (folM ts ls xs n (vs.length + 1)).map cLd := by rw [hvl, folM_step he]
 exact fun ac_ wo_ hs_ => ⟨(k + 1, v56, v51, .slice A54 n54 c54 :: vs), ⟨by dsimp only; omega, by simp [hvl]⟩, (by dsimp only; omega), hs_.weak ⟨rfl, rfl, rfl, rfl, rfl, rfl, rfl, trivial⟩ (fun h_ => sl_to_rd (show WS _ _ (sl v51 139 4 ((folM ts ls xs n (k + 1)).map cLd) :: sl v56 23 1 ((.slice A54 n54 c54 :: vs).reverse.map fun x => [x]) :: rd v 4 (ts.map cCp) :: rd z 5 (xs.map cLg) :: sl (.slice A54 n54 c54) 139 4 ((folM ts ls xs n (vs.length + 1)).map cLd) :: rlR 139 ts ls xs n vs) _ from h_.pk (by repeat (first | with_reducible exact pk_nil | refine pk_box (by first | rfl | exact e9 | exact e8 | exact e7) ?_ | refine pk_rd rfl ?_ | refine pk_sl (by first | rfl | exact e9 | exact e8 | exact e7) ?_ | with_reducible refine pk_app ?_ | with_reducible refine pk_app0 ?_ | with_reducible refine pk_app0L ?_ | with_reducible exact pk_tl | refine pk_var ?_))))⟩
 refine C_exit ?_
 change C Tryz.prog _ _ _ _ _ _ _
 refine C_seq ?_
 refine C_region ?_
 refine Jq (q_move rfl) ?_
 refine Jq (q_assign rfl) ?_
 refine Jq (q_assign rfl) ?_
 refine L_then ?_
 refine C_ret ?_
 obtain rfl : k = xs.length := by omega
 exact ret_of (rs' := sl y 23 1 (vs.reverse.map fun x => [x]) :: rlR 139 ts ls xs n vs) (res2 rfl rfl rfl) (fun w_ h_ => h_.pk (by repeat (first | with_reducible exact pk_nil | refine pk_box rfl ?_ | refine pk_rd rfl ?_ | refine pk_sl rfl ?_ | with_reducible refine pk_app ?_ | with_reducible refine pk_app0 ?_ | with_reducible refine pk_app0L ?_ | with_reducible exact pk_tl | refine pk_var ?_))) FolP_own ⟨_, _, by rw [hO9], rfl, by rw [hO9, if_pos rfl]; omega⟩
end Go.Proofs.YthilaakeimfedaaGreatDoor
