/-
  Walks: each function named returns what its model says. Conditions: those in front of each theorem.
-/
import Derived.Test.YtdmnejfpbbmcaaaPC
import Derived.Test.YtdmnejfpbbmcaaaPO
import Derived.Test.YtdmnejfpbbmcaaaPd
import Derived.Test.YtdmnejfpbbmcaaaShMid
import Derived.Test.YtdmnejfpbbmcaaaShClo
namespace Go.Proofs.Ytdmnejfpbbmcaaa
open Go.RowKit

set_option maxRecDepth 100000 in
theorem ct_shotlinelaw02_Reef  : Ct Try.prog 33 [] [] (fun y rs => ∃ a b, y = .agg (cPl nmD 1013 a b).toArray ∧ rs = [sl b 82 3 (lsD.map cDl), sl a 80 2 (gsD.map cGs)]) := by
 refine Ct.of (N := 10) Try.func33 rfl rfl rfl fun w => ?_
 refine C_weak (E' := []) (rs' := []) trivial (fun _ h => h) ?_
 refine C_seq ?_
 refine C_region ?_
 refine L_alloc tb rfl rfl fun g0 => ?_
 refine L_then ?_
 refine C_seq ?_
 refine C_region ?_
 refine Jq (by first | exact q_build tb rfl rfl rfl rfl | exact q_buildArr tb rfl rfl rfl rfl rfl) ?_
 refine Jq (by first | exact q_build tb rfl rfl rfl rfl | exact q_buildArr tb rfl rfl rfl rfl rfl) ?_
 refine L_mk (lo_bslice tb rfl rfl rfl (xs := (gsD.map cGs)) rfl rfl (by decide) rfl (by omega) rfl) rfl rfl rfl fun v3 => ?_
 refine Jq (by first | exact q_build tb rfl rfl rfl rfl | exact q_buildArr tb rfl rfl rfl rfl rfl) ?_
 refine Jq (by first | exact q_build tb rfl rfl rfl rfl | exact q_buildArr tb rfl rfl rfl rfl rfl) ?_
 refine Jq (by first | exact q_build tb rfl rfl rfl rfl | exact q_buildArr tb rfl rfl rfl rfl rfl) ?_
 refine Jq (by first | exact q_build tb rfl rfl rfl rfl | exact q_buildArr tb rfl rfl rfl rfl rfl) ?_
 refine L_mk (lo_bslice tb rfl rfl rfl (xs := (lsD.map cDl)) rfl rfl (by decide) rfl (by omega) rfl) rfl rfl rfl fun v8 => ?_
 refine L_form (v := v8) gvo (fun A8 c8 hv8 _ => ?_)
 subst hv8
 refine L_form (v := v3) gvo (fun A3 c3 hv3 _ => ?_)
 subst hv3
 refine Jq (q_build (r := cPl nmD 1013 (.slice A3 (gsD.map cGs).length c3) (.slice A8 (lsD.map cDl).length c8)) tb rfl rfl rfl rfl) ?_
 refine L_st tb rfl rfl ?_
 refine L_then ?_
 refine C_ret ?_
 exact ret_of (rs' := [sl _ 82 3 (lsD.map cDl), sl _ 80 2 (gsD.map cGs)]) (resC tb rfl rfl rfl bxo rfl) (fun w_ h_ => h_.sub (by repeat (first | exact List.Sublist.refl _ | apply List.Sublist.cons_cons | apply List.Sublist.cons))) (by intro r hr; simp only [List.mem_cons, List.not_mem_nil, or_false] at hr; rcases hr with rfl | rfl <;> exact sl_own _ _ _ _) ⟨_, _, rfl, rfl⟩
set_option maxRecDepth 100000 in
theorem ct_shotlinelaw02_Four  : Ct Try.prog 35 [] [] (isSl 47 2 ((ptsK fourL fourL.length).map cSw)) := by
 refine Ct.of (N := 6) Try.func35 rfl rfl rfl fun w => ?_
 refine C_weak (E' := []) (rs' := []) trivial (fun _ h => h) ?_
 refine C_seq ?_
 refine C_region ?_
 refine Jq (q_assign rfl) ?_
 refine L_then ?_
 refine C_seq ?_
 refine C_region ?_
 refine Jq (by first | exact q_build tb rfl rfl rfl rfl | exact q_buildArr tb rfl rfl rfl rfl rfl) ?_
 refine Jq (by first | exact q_build tb rfl rfl rfl rfl | exact q_buildArr tb rfl rfl rfl rfl rfl) ?_
 refine Jq (by first | exact q_build tb rfl rfl rfl rfl | exact q_buildArr tb rfl rfl rfl rfl rfl) ?_
 refine Jq (by first | exact q_build tb rfl rfl rfl rfl | exact q_buildArr tb rfl rfl rfl rfl rfl) ?_
 refine L_mk (lo_bslice tb rfl rfl rfl (xs := [cSw (0, 0), cSw (10, 100), cSw (20, 190), cSw (30, 300)]) rfl rfl (by simp [cSw]) rfl (by omega) rfl) rfl rfl rfl fun v5 => ?_
 refine Jq (q_assign rfl) ?_
 refine L_then ?_
 refine C_ret ?_
 exact ret_of (rs' := [sl v5 47 2 ((ptsK fourL fourL.length).map cSw)]) (res1 rfl rfl) (fun w_ h_ => h_.pk (pk_sl four_c.symm pk_nil)) own1 rfl
set_option maxRecDepth 100000 in
set_option maxHeartbeats 1000000 in
theorem ct_IndexFuncL (v b : Value) (l : List (Int × Int)) (c : Int) (hle : l.length ≤ 100000) : Ct Try.prog 82 [v, .func (.func 83) #[] #[elP b 0]] [(v, 2, l.map cSw), (b, 1, [cI c])] (isV (.int .i64 (ixZ l c))) := by
 refine Ct.of (N := 19) Try.func82 rfl rfl rfl fun w => ?_
 refine C_weak (E' := [(0, v), (1, .func (.func 83) #[] #[elP b 0])]) (rs' := [rd v 2 (l.map cSw), rd b 1 ([cI c])]) ⟨rfl, rfl, trivial⟩ (fun _ h => h) ?_
 have hl := len_map cSw l
 have hin0 := ixN_le l c
 refine C_seq ?_
 refine C_region ?_
 refine Jq (q_assign rfl) ?_
 refine L_then ?_
 refine C_seq ?_
 refine C_seq ?_
 refine C_region ?_
 refine Jq (q_move rfl) ?_
 refine Jq (q_len tb rfl rfl gvo) ?_
 refine Jq (q_move rfl) ?_
 refine L_then ?_
 refine C_block ?_
 refine C_loop (ι := Nat) (fun k => ([(0, v), (1, .func (.func 83) #[] #[elP b 0]), (6, v), (7, .int .i64 (l.map cSw).length), (8, .int .i64 (k : Int))], [rd v 2 (l.map cSw), rd b 1 [cI c]])) (fun k => k ≤ l.length ∧ ixN l c = k + ixN (l.drop k) c) (fun k => l.length - k) 0 ⟨Nat.zero_le _, (Nat.zero_add _).symm⟩ (fun a w hs => hs.weak ⟨rfl, rfl, rfl, rfl, rfl, trivial⟩ (fun h => h.pk (by repeat (first | with_reducible exact pk_nil | refine pk_box rfl ?_ | refine pk_rd rfl ?_ | refine pk_sl rfl ?_ | with_reducible refine pk_app ?_ | with_reducible refine pk_app0 ?_ | with_reducible refine pk_app0L ?_ | with_reducible exact pk_tl | refine pk_var ?_)))) ?_
 rintro k ⟨hk, hG⟩
 dsimp only at hk hG ⊢
 refine C_seq ?_
 refine C_region ?_
 refine Jq (q_lss rfl rfl) ?_
 refine L_then ?_
 refine C_seq ?_
 refine C_dec rfl (fun h1 => ?_) (fun h1 => ?_)
 obtain ⟨x, hx⟩ := get_some l (k := k) (by omega); have hel := map_get cSw hx; have hdc := drop_cons hx
 refine C_skip_then ?_
 refine C_seq ?_
 refine C_block ?_
 refine C_seq ?_
 refine C_region ?_
 refine Jq (q_move rfl) ?_
 refine Jq (q_assign rfl) ?_
 refine L_then ?_
 refine C_seq ?_
 refine C_region ?_
 refine Jq (q_move rfl) ?_
 refine Jq (q_move rfl) ?_
 refine Jq (q_move rfl) ?_
 refine Jq (by first | exact q_index tb rfl rfl rfl rfl gvo (by omega) (by first | omega | (simp; done) | (simp; omega)) | exact q_indexP tb rfl rfl rfl rfl (by omega) (by omega)) ?_
 refine Jq (by first | exact q_loadA tb rfl rfl bxo rfl rfl | exact q_loadEA tb rfl rfl gvo (i := k) (o := 0) (by omega) hel rfl rfl) ?_
 refine L_callC (tb.en_ok _ (lkT_mem (rfl : lkT tb.en 83 = some ()))) rfl rfl (ct_profile_track_leg_1 b x.1 x.2 c) (ps_cons gvo no_ps) rfl ?_
 refine L_then ?_
 refine C_dec rfl (fun hin => ?_) (fun hin => ?_)
 refine C_seq ?_
 refine C_region ?_
 refine Jq (q_move rfl) ?_
 refine Jq (q_assign rfl) ?_
 refine L_then ?_
 refine C_ret ?_
 have e9 : ixN l c = k := hG.trans (by rw [hdc, ixN_y hin]; rfl)
 exact ret_of (res1 rfl rfl) sub_nil (by intro r hr; cases hr) ⟨(congrArg (Value.int .i64) (by unfold ixZ; rw [e9, if_pos (by omega)])), rfl⟩
 refine C_skip_blk ?_
 refine C_region ?_
 refine Jq (q_add rfl rfl (by first | exact IntWalk.i64_in _ (by omega) | rfl)) ?_
 refine Jq (q_move rfl) ?_
 refine L_end ?_
 exact fun ac_ wo_ hs_ => ⟨k + 1, ⟨by omega, hG.trans (by rw [hdc, ixN_n hin]; omega)⟩, (by dsimp only; omega), hs_.weak ⟨rfl, rfl, rfl, rfl, rfl, trivial⟩ (fun h => h.pk (by repeat (first | with_reducible exact pk_nil | refine pk_box rfl ?_ | refine pk_rd rfl ?_ | refine pk_sl rfl ?_ | with_reducible refine pk_app ?_ | with_reducible refine pk_app0 ?_ | with_reducible refine pk_app0L ?_ | with_reducible exact pk_tl | refine pk_var ?_)))⟩
 have hdn : l.drop k = [] := List.drop_eq_nil_of_le (by omega)
 refine C_exit ?_
 change C Try.prog _ _ _ _ _ _ _
 refine C_seq ?_
 refine C_region ?_
 refine Jq (q_assign rfl) ?_
 refine L_then ?_
 refine C_ret ?_
 have e9 : ixN l c = k + 0 := hG.trans (by rw [hdn]; rfl)
 exact ret_of (res1 rfl rfl) sub_nil (by intro r hr; cases hr) ⟨(congrArg (Value.int .i64) (by unfold ixZ; rw [e9, if_neg (by omega)])), rfl⟩
set_option maxRecDepth 100000 in
set_option maxHeartbeats 1000000 in
theorem ct_legL (v : Value) (l : List (Int × Int)) (c : Int) (h1 : 1 ≤ l.length ∧ l.length ≤ 100000) : Ct Try.prog 56 [v, .int .i64 c] [(v, 2, l.map cSw)] (isV (.int .i64 (ixZ (l.drop 1) c + 1))) := by
 refine Ct.of (N := 10) Try.func56 rfl rfl rfl fun w => ?_
 refine C_weak (E' := [(0, v), (1, .int .i64 c)]) (rs' := [rd v 2 (l.map cSw)]) ⟨rfl, rfl, trivial⟩ (fun _ h => h) ?_
 have hl := len_map cSw l
 have hld : (l.drop 1).length = l.length - 1 := List.length_drop
 have hin := ixZ_in (l.drop 1) c
 refine C_seq ?_
 refine C_region ?_
 refine L_box rfl rfl rfl fun g3 => ?_
 refine Jq (q_assign rfl) ?_
 refine L_then ?_
 refine C_seq ?_
 refine C_region ?_
 refine Jq (q_move rfl) ?_
 refine Jq (q_from tb rfl rfl rfl rfl (by first | exact gvo | exact gvd gvo (by omega)) (by omega) (by first | omega | (simp; done) | (simp; omega))) ?_
 refine Jq (q_makeFunc rfl rfl) ?_
 refine L_call tb rfl rfl (ct_IndexFuncL (dropV v 1 2) (bxV g3) (l.drop 1) c (by omega)) (ps_cons (by rw [List.map_drop]; exact gvd gvo (by omega)) (ps_cons (gbx bxo rfl) no_ps)) rfl ?_
 refine Jq (q_add rfl rfl (by first | exact IntWalk.i64_in _ (by omega) | rfl)) ?_
 refine Jq (q_assign rfl) ?_
 refine L_then ?_
 refine C_ret ?_
 exact ret_of (res1 rfl rfl) sub_nil (by intro r hr; cases hr) ⟨(congrArg (Value.int .i64) (by omega)), rfl⟩
set_option maxRecDepth 100000 in
set_option maxHeartbeats 1000000 in
theorem ct_atL (v : Value) (a d b e c : Int) (h1 : 0 ≤ a ∧ a ≤ c ∧ c ≤ b ∧ a < b ∧ b ≤ 1000000) (h2 : 0 ≤ d ∧ d ≤ 30000 ∧ 0 ≤ e ∧ e ≤ 30000) : Ct Try.prog 44 [v, .int .i64 c] [(v, 2, ([(a, d), (b, e)] : List (Int × Int)).map cSw)] (isV (.agg #[.int .i64 (atM a d b e c).1, .int .i64 (atM a d b e c).2])) := by
 refine Ct.of (N := 63) Try.func44 rfl rfl rfl fun w => ?_
 refine C_weak (E' := [(0, v), (1, .int .i64 c)]) (rs' := [rd v 2 (([(a, d), (b, e)] : List (Int × Int)).map cSw)]) ⟨rfl, rfl, trivial⟩ (fun _ h => h) ?_
 have hc0 : (([(a, d), (b, e)] : List (Int × Int)).map cSw)[0]? = some (cSw (a, d)) := rfl; have hc1 : (([(a, d), (b, e)] : List (Int × Int)).map cSw)[1]? = some (cSw (b, e)) := rfl
 have hll : (([(a, d), (b, e)] : List (Int × Int)).map cSw).length = 2 := rfl
 have hix : ixZ (([(a, d), (b, e)] : List (Int × Int)).drop 1) c = 0 := ixZ_1 (p := (b, e)) h1.2.2.1
 have hm1 := mulB (a := d) (b := b - c) (A := 30000) (B := 1000000) (by omega) (by omega); have hm2 := mulB (a := e) (b := c - a) (A := 30000) (B := 1000000) (by omega) (by omega)
 refine C_seq ?_
 refine C_region ?_
 refine L_alloc tb rfl rfl fun g4 => ?_
 refine L_then ?_
 refine C_seq ?_
 refine C_region ?_
 refine Jq (q_move rfl) ?_
 refine Jq (q_move rfl) ?_
 refine L_call tb rfl rfl (ct_legL v [(a, d), (b, e)] c ⟨show 1 ≤ 2 by omega, show 2 ≤ 100000 by omega⟩) (ps_cons gvo no_ps) rfl ?_
 refine Jq (q_assign rfl) ?_
 refine L_then ?_
 refine C_seq ?_
 refine C_seq ?_
 refine C_region ?_
 refine Jq (q_move rfl) ?_
 refine Jq (q_eql rfl rfl) ?_
 refine Jq (q_move rfl) ?_
 refine L_dec (d := 13) rfl (fun h13 => ?_) (fun h13 => ?_)
 exfalso; omega
 refine Jg (q_move rfl) ?_
 refine Jg (q_move rfl) ?_
 refine Jg (by first | exact q_index tb rfl rfl rfl rfl gvo (by omega) (by first | omega | (simp; done) | (simp; omega)) | exact q_indexP tb rfl rfl rfl rfl (by omega) (by omega)) ?_
 refine Jg (by first | exact q_field tb rfl rfl rfl | exact q_fieldE tb rfl rfl rfl gvo (by first | omega | (simp; done) | (simp; omega))) ?_
 refine Jg (by first | exact q_load tb rfl rfl bxo rfl | exact q_loadE tb rfl rfl gvo (i := 0) (o := 0) (by omega) hc0 rfl) ?_
 refine Jg (q_eql rfl rfl) ?_
 refine Jq (q_pickF rfl rfl) ?_
 refine L_then ?_
 refine C_dec rfl (fun h20 => ?_) (fun h20 => ?_)
 refine C_seq ?_
 refine C_region ?_
 refine Jq (q_move rfl) ?_
 refine Jq (by first | exact q_index tb rfl rfl rfl rfl gvo (by omega) (by first | omega | (simp; done) | (simp; omega)) | exact q_indexP tb rfl rfl rfl rfl (by omega) (by omega)) ?_
 refine Jq (by first | exact q_field tb rfl rfl rfl | exact q_fieldE tb rfl rfl rfl gvo (by first | omega | (simp; done) | (simp; omega))) ?_
 refine Jq (by first | exact q_load tb rfl rfl bxo rfl | exact q_loadE tb rfl rfl gvo (i := 0) (o := 1) (by omega) hc0 rfl) ?_
 refine Jq (by first | exact q_build tb rfl rfl rfl rfl | exact q_buildArr tb rfl rfl rfl rfl rfl) ?_
 refine L_st tb rfl rfl ?_
 refine L_then ?_
 refine C_ret ?_
 rw [atM_1 (by omega)]
 exact ret_of (resC tb rfl rfl rfl bxo rfl) sub_nil (by intro r hr; cases hr) ⟨rfl, rfl⟩
 refine C_skip_then ?_
 refine C_seq ?_
 refine C_wide [.q 0, .q 1, .q 2, .q 3, .q 4, .q 5, .q 6, .q 7, .q 8, .p 9 10, .s 11, .s 12] mixed (by kernel_rfl) rfl (by kernel_rfl) ?_
 refine X_q rfl rfl rfl rfl (q_move rfl) ?_
 refine X_q rfl rfl rfl rfl (q_move rfl) ?_
 refine X_q rfl rfl rfl rfl (q_sub rfl rfl (by first | exact IntWalk.i64_in _ (by omega) | rfl)) ?_
 refine X_q rfl rfl rfl rfl (by first | exact q_index tb rfl rfl rfl rfl gvo (by omega) (by first | omega | (simp; done) | (simp; omega)) | exact q_indexP tb rfl rfl rfl rfl (by omega) (by omega)) ?_
 refine X_q rfl rfl rfl rfl (by first | exact q_loadA tb rfl rfl bxo rfl rfl | exact q_loadEA tb rfl rfl gvo (i := 0) (o := 0) (by omega) hc0 rfl rfl) ?_
 refine X_q rfl rfl rfl rfl (q_move rfl) ?_
 refine X_q rfl rfl rfl rfl (q_move rfl) ?_
 refine X_q rfl rfl rfl rfl (by first | exact q_index tb rfl rfl rfl rfl gvo (by omega) (by first | omega | (simp; done) | (simp; omega)) | exact q_indexP tb rfl rfl rfl rfl (by omega) (by omega)) ?_
 refine X_q rfl rfl rfl rfl (by first | exact q_loadA tb rfl rfl bxo rfl rfl | exact q_loadEA tb rfl rfl gvo (i := 1) (o := 0) (by omega) hc1 rfl rfl) ?_
 refine X_pair tb rfl rfl rfl rfl rfl rfl (by decide) fun g6 g7 => ?_
 first | refine X_store tb rfl rfl (List.Perm.refl _) rfl rfl rfl rfl rfl rfl rfl rfl ?_ | refine X_store tb rfl rfl perm1 rfl rfl rfl rfl rfl rfl rfl rfl ?_ | refine X_store tb rfl rfl (perm_front (pre := [_, _])) rfl rfl rfl rfl rfl rfl rfl rfl ?_ | refine X_store tb rfl rfl (perm_front (pre := [_, _, _])) rfl rfl rfl rfl rfl rfl rfl rfl ?_
 first | refine X_store tb rfl rfl (List.Perm.refl _) rfl rfl rfl rfl rfl rfl rfl rfl ?_ | refine X_store tb rfl rfl perm1 rfl rfl rfl rfl rfl rfl rfl rfl ?_ | refine X_store tb rfl rfl (perm_front (pre := [_, _])) rfl rfl rfl rfl rfl rfl rfl rfl ?_ | refine X_store tb rfl rfl (perm_front (pre := [_, _, _])) rfl rfl rfl rfl rfl rfl rfl rfl ?_
 refine X_nil ?_
 try dsimp only [List.cons_append, List.nil_append]
 refine L_then ?_
 refine C_seq ?_
 refine C_seq ?_
 refine C_res (rs' := [box g7 47 [.int .i64 b, .int .i64 e], box g6 47 [.int .i64 a, .int .i64 d], box g4 88 [.int .i64 0, .int .i64 0], rd v 2 (([(a, d), (b, e)] : List (Int × Int)).map cSw)]) (fun _ h => h.pk (by repeat (first | with_reducible exact pk_nil | refine pk_box rfl ?_ | refine pk_rd rfl ?_ | refine pk_sl rfl ?_ | with_reducible refine pk_app ?_ | with_reducible refine pk_app0 ?_ | with_reducible refine pk_app0L ?_ | with_reducible exact pk_tl | refine pk_var ?_))) ?_
 refine C_region ?_
 refine Jq (q_move rfl) ?_
 refine Jq (q_field tb rfl rfl rfl) ?_
 refine Jq (q_load tb rfl rfl bxo rfl) ?_
 refine Jq (q_eql rfl rfl) ?_
 refine L_then ?_
 refine C_dec rfl (fun h38 => ?_) (fun h38 => ?_)
 refine C_seq ?_
 refine C_region ?_
 refine Jq (q_field tb rfl rfl rfl) ?_
 refine Jq (q_load tb rfl rfl bxo rfl) ?_
 refine Jq (by first | exact q_build tb rfl rfl rfl rfl | exact q_buildArr tb rfl rfl rfl rfl rfl) ?_
 refine L_st tb rfl rfl ?_
 refine L_then ?_
 refine C_ret ?_
 rw [atM_2 (by omega) (by omega)]
 exact ret_of (resC tb rfl rfl rfl bxo rfl) sub_nil (by intro r hr; cases hr) ⟨rfl, rfl⟩
 refine C_skip_then ?_
 refine C_seq ?_
 refine C_region ?_
 refine Jq (q_field tb rfl rfl rfl) ?_
 refine Jq (q_load tb rfl rfl bxo rfl) ?_
 refine Jq (q_field tb rfl rfl rfl) ?_
 refine Jq (q_load tb rfl rfl bxo rfl) ?_
 refine Jq (q_move rfl) ?_
 refine Jq (q_sub rfl rfl (by first | exact IntWalk.i64_in _ (by omega) | rfl)) ?_
 refine Jq (q_mul rfl rfl (by first | exact IntWalk.i64_in _ (by omega) | rfl)) ?_
 refine Jq (q_field tb rfl rfl rfl) ?_
 refine Jq (q_load tb rfl rfl bxo rfl) ?_
 refine Jq (q_move rfl) ?_
 refine Jq (q_field tb rfl rfl rfl) ?_
 refine Jq (q_load tb rfl rfl bxo rfl) ?_
 refine Jq (q_sub rfl rfl (by first | exact IntWalk.i64_in _ (by omega) | rfl)) ?_
 refine Jq (q_mul rfl rfl (by first | exact IntWalk.i64_in _ (by omega) | rfl)) ?_
 refine Jq (q_add rfl rfl (by first | exact IntWalk.i64_in _ (by omega) | rfl)) ?_
 refine Jq (q_field tb rfl rfl rfl) ?_
 refine Jq (q_load tb rfl rfl bxo rfl) ?_
 refine Jq (q_field tb rfl rfl rfl) ?_
 refine Jq (q_load tb rfl rfl bxo rfl) ?_
 refine Jq (q_sub rfl rfl (by first | exact IntWalk.i64_in _ (by omega) | rfl)) ?_
 refine Jq (by first | exact q_build tb rfl rfl rfl rfl | exact q_buildArr tb rfl rfl rfl rfl rfl) ?_
 refine L_st tb rfl rfl ?_
 refine L_then ?_
 refine C_ret ?_
 rw [atM_3 (by omega) (by omega)]
 exact ret_of (resC tb rfl rfl rfl bxo rfl) sub_nil (by intro r hr; cases hr) ⟨rfl, rfl⟩
set_option maxRecDepth 100000 in
set_option maxHeartbeats 1000000 in
theorem ct_apartX (v u : Value) : Ct Try.prog 78 [v, u, .int .i64 10] [(v, 2, ([(0, 0), (20, 190)] : List (Int × Int)).map cSw), (u, 2, ([(10, 100), (11, 0)] : List (Int × Int)).map cSw)] (isV (.agg #[.int .i64 100, .int .i64 20])) := by
 refine Ct.of (N := 37) Try.func78 rfl rfl rfl fun w => ?_
 refine C_weak (E' := [(0, v), (1, u), (2, .int .i64 10)]) (rs' := [rd v 2 (([(0, 0), (20, 190)] : List (Int × Int)).map cSw), rd u 2 (([(10, 100), (11, 0)] : List (Int × Int)).map cSw)]) ⟨rfl, rfl, rfl, trivial⟩ (fun _ h => h) ?_
 refine C_seq ?_
 refine C_region ?_
 refine L_alloc tb rfl rfl fun g6 => ?_
 refine L_then ?_
 refine C_seq ?_
 refine C_region ?_
 refine Jq (q_move rfl) ?_
 refine Jq (q_move rfl) ?_
 refine L_call tb rfl rfl (ct_atL v 0 0 20 190 10 (by omega) (by omega)) (ps_cons gvo no_ps) rfl ?_
 refine Jq (q_move rfl) ?_
 refine Jq (q_move rfl) ?_
 refine L_call tb rfl rfl (ct_atL u 10 100 11 0 10 (by omega) (by omega)) (ps_cons gvo no_ps) rfl ?_
 refine L_alloc tb rfl rfl fun g7 => ?_
 refine L_alloc tb rfl rfl fun g8 => ?_
 refine L_st tb rfl rfl ?_
 refine L_st tb rfl rfl ?_
 refine L_then ?_
 refine C_seq ?_
 refine C_region ?_
 refine Jq (q_field tb rfl rfl rfl) ?_
 refine Jq (q_load tb rfl rfl bxo rfl) ?_
 refine Jq (q_field tb rfl rfl rfl) ?_
 refine Jq (q_load tb rfl rfl bxo rfl) ?_
 refine Jq (q_mul rfl rfl (by first | exact IntWalk.i64_in _ (by omega) | rfl)) ?_
 refine Jq (q_field tb rfl rfl rfl) ?_
 refine Jq (q_load tb rfl rfl bxo rfl) ?_
 refine Jq (q_field tb rfl rfl rfl) ?_
 refine Jq (q_load tb rfl rfl bxo rfl) ?_
 refine Jq (q_mul rfl rfl (by first | exact IntWalk.i64_in _ (by omega) | rfl)) ?_
 refine Jq (q_sub rfl rfl (by first | exact IntWalk.i64_in _ (by omega) | rfl)) ?_
 refine Jq (q_assign rfl) ?_
 refine L_then ?_
 refine C_seq ?_
 refine C_region ?_
 refine Jq (q_move rfl) ?_
 refine Jq (q_move rfl) ?_
 refine Jq (q_neg rfl (by first | exact IntWalk.i64_in _ (by omega) | rfl)) ?_
 refine Jq (q_max rfl rfl) ?_
 refine Jq (q_field tb rfl rfl rfl) ?_
 refine Jq (q_load tb rfl rfl bxo rfl) ?_
 refine Jq (q_field tb rfl rfl rfl) ?_
 refine Jq (q_load tb rfl rfl bxo rfl) ?_
 refine Jq (q_mul rfl rfl (by first | exact IntWalk.i64_in _ (by omega) | rfl)) ?_
 refine Jq (by first | exact q_build tb rfl rfl rfl rfl | exact q_buildArr tb rfl rfl rfl rfl rfl) ?_
 refine L_st tb rfl rfl ?_
 refine L_then ?_
 refine C_ret ?_
 exact ret_of (resC tb rfl rfl rfl bxo rfl) sub_nil (by intro r hr; cases hr) ⟨rfl, rfl⟩
set_option maxRecDepth 100000 in
theorem ct_lessX  : Ct Try.prog 79 [.agg #[.int .i64 9, .int .i64 1], .agg #[.int .i64 100, .int .i64 20]] [] (isV (.bool false)) := by
 refine Ct.of (N := 16) Try.func79 rfl rfl rfl fun w => ?_
 refine C_weak (E' := [(0, .agg #[.int .i64 9, .int .i64 1]), (1, .agg #[.int .i64 100, .int .i64 20])]) (rs' := []) ⟨rfl, rfl, trivial⟩ (fun _ h => h) ?_
 refine C_seq ?_
 refine C_region ?_
 refine L_box rfl rfl rfl fun g2 => ?_
 refine L_box rfl rfl rfl fun g3 => ?_
 refine Jq (q_assign rfl) ?_
 refine L_then ?_
 refine C_seq ?_
 refine C_region ?_
 refine Jq (q_field tb rfl rfl rfl) ?_
 refine Jq (q_load tb rfl rfl bxo rfl) ?_
 refine Jq (q_field tb rfl rfl rfl) ?_
 refine Jq (q_load tb rfl rfl bxo rfl) ?_
 refine Jq (q_mul rfl rfl (by first | exact IntWalk.i64_in _ (by omega) | rfl)) ?_
 refine Jq (q_field tb rfl rfl rfl) ?_
 refine Jq (q_load tb rfl rfl bxo rfl) ?_
 refine Jq (q_field tb rfl rfl rfl) ?_
 refine Jq (q_load tb rfl rfl bxo rfl) ?_
 refine Jq (q_mul rfl rfl (by first | exact IntWalk.i64_in _ (by omega) | rfl)) ?_
 refine Jq (q_lss rfl rfl) ?_
 refine Jq (q_assign rfl) ?_
 refine L_then ?_
 refine C_ret ?_
 exact ret_of (res1 rfl rfl) sub_nil (by intro r hr; cases hr) ⟨rfl, rfl⟩
set_option maxRecDepth 100000 in
set_option maxHeartbeats 1000000 in
theorem ct_profile_track_allowed_1 (m b w9 : Value) : Ct Try.prog 93 [.agg #[.int .i64 10, .int .i64 100], elP m 0, elP b 0] [(m, 1, [cI 9]), (b, 1, [[w9]]), (w9, 2, ([(0, 0), (20, 190)] : List (Int × Int)).map cSw)] (isV (.bool false)) := by
 refine Ct.of (N := 18) Try.func93 rfl rfl rfl fun w => ?_
 refine C_weak (E' := [(0, .agg #[.int .i64 10, .int .i64 100]), (1, elP m 0), (2, elP b 0)]) (rs' := [rd m 1 ([cI 9]), rd b 1 ([[w9]]), rd w9 2 (([(0, 0), (20, 190)] : List (Int × Int)).map cSw)]) ⟨rfl, rfl, rfl, trivial⟩ (fun _ h => h) ?_
 refine C_seq ?_
 refine C_region ?_
 refine L_box rfl rfl rfl fun g3 => ?_
 refine Jq (q_assign rfl) ?_
 refine L_then ?_
 refine C_seq ?_
 refine C_draw (n := 13) [(0, false), (1, false), (2, false), (3, false), (4, false), (5, false), (6, false), (7, false), (9, false), (10, false), (8, true), (11, true), (12, true)] mixed (by kernel_rfl) ?_
 refine Yq rfl (by first | exact q_load tb rfl rfl bxo rfl | exact q_loadE tb rfl rfl gvo (i := 0) (o := 0) (by omega) rfl rfl) ?_
 refine Yq rfl (by first | exact q_build tb rfl rfl rfl rfl | exact q_buildArr tb rfl rfl rfl rfl rfl) ?_
 refine Yq rfl (by first | exact q_load tb rfl rfl bxo rfl | exact q_loadE tb rfl rfl gvo (i := 0) (o := 0) (by omega) rfl rfl) ?_
 refine Yq rfl (q_loadA tb rfl rfl bxo rfl rfl) ?_
 refine Yq rfl (q_field tb rfl rfl rfl) ?_
 refine Yq rfl (q_load tb rfl rfl bxo rfl) ?_
 refine Yq rfl (q_add rfl rfl (by first | exact IntWalk.i64_in _ (by omega) | rfl)) ?_
 refine Yq rfl (by first | exact q_build tb rfl rfl rfl rfl | exact q_buildArr tb rfl rfl rfl rfl rfl) ?_
 refine Yq rfl (q_field tb rfl rfl rfl) ?_
 refine Yq rfl (q_load tb rfl rfl bxo rfl) ?_
 refine W_mk rfl (lo_bslice tb rfl rfl rfl (xs := [cSw (10, 100), cSw (11, 0)]) rfl rfl (by simp [cSw]) rfl (by omega) rfl) rfl rfl rfl fun v13 => ?_
 refine W_call tb rfl rfl rfl rfl (ct_apartX w9 v13) (ps_cons gvo (ps_cons gvo no_ps)) rfl ?_
 refine W_call tb rfl rfl rfl rfl (ct_lessX) no_ps rfl ?_
 refine W_nil ?_
 refine Jq (q_assign rfl) ?_
 refine L_then ?_
 refine C_ret ?_
 exact ret_of (res1 rfl rfl) sub_nil (by intro r hr; cases hr) ⟨rfl, rfl⟩
set_option maxRecDepth 100000 in
set_option maxHeartbeats 1000000 in
theorem ct_IndexFuncA (v m b w9 : Value) (l L : List (Int × Int)) (hl : l = [] ∨ (l = [(10, 100)] ∧ L = [(0, 0), (20, 190)])) : Ct Try.prog 82 [v, .func (.func 93) #[] #[elP m 0, elP b 0]] [(v, 2, l.map cSw), (m, 1, [cI 9]), (b, 1, [[w9]]), (w9, 2, (L : List (Int × Int)).map cSw)] (isV (.int .i64 (-1))) := by
 refine Ct.of (N := 19) Try.func82 rfl rfl rfl fun w => ?_
 refine C_weak (E' := [(0, v), (1, .func (.func 93) #[] #[elP m 0, elP b 0])]) (rs' := [rd v 2 (l.map cSw), rd m 1 ([cI 9]), rd b 1 ([[w9]]), rd w9 2 ((L : List (Int × Int)).map cSw)]) ⟨rfl, rfl, trivial⟩ (fun _ h => h) ?_
 have hln := len_map cSw l
 have hle : l.length ≤ 1 := by rcases hl with rfl | ⟨rfl, _⟩ <;> simp
 refine C_seq ?_
 refine C_region ?_
 refine Jq (q_assign rfl) ?_
 refine L_then ?_
 refine C_seq ?_
 refine C_seq ?_
 refine C_region ?_
 refine Jq (q_move rfl) ?_
 refine Jq (q_len tb rfl rfl gvo) ?_
 refine Jq (q_move rfl) ?_
 refine L_then ?_
 refine C_block ?_
 refine C_loop (ι := Nat) (fun k => ([(0, v), (1, .func (.func 93) #[] #[elP m 0, elP b 0]), (6, v), (7, .int .i64 (l.map cSw).length), (8, .int .i64 (k : Int))], [rd v 2 (l.map cSw), rd m 1 [cI 9], rd b 1 [[w9]], rd w9 2 (L.map cSw)])) (fun k => k ≤ 1) (fun k => 1 - k) 0 (Nat.zero_le _) (fun a w hs => hs.weak ⟨rfl, rfl, rfl, rfl, rfl, trivial⟩ (fun h => h.pk (by repeat (first | with_reducible exact pk_nil | refine pk_box rfl ?_ | refine pk_rd rfl ?_ | refine pk_sl rfl ?_ | with_reducible refine pk_app ?_ | with_reducible refine pk_app0 ?_ | with_reducible refine pk_app0L ?_ | with_reducible exact pk_tl | refine pk_var ?_)))) ?_
 intro k hk
 dsimp only at hk ⊢
 refine C_seq ?_
 refine C_region ?_
 refine Jq (q_lss rfl rfl) ?_
 refine L_then ?_
 refine C_seq ?_
 refine C_dec rfl (fun h1 => ?_) (fun h1 => ?_)
 obtain rfl : k = 0 := by omega
 obtain ⟨rfl, rfl⟩ : l = [(10, 100)] ∧ L = [(0, 0), (20, 190)] := by
  rcases hl with rfl | h9
  · exfalso; simp at h1
  · exact h9
 refine C_skip_then ?_
 refine C_seq ?_
 refine C_block ?_
 refine C_seq ?_
 refine C_region ?_
 refine Jq (q_move rfl) ?_
 refine Jq (q_assign rfl) ?_
 refine L_then ?_
 refine C_seq ?_
 refine C_region ?_
 refine Jq (q_move rfl) ?_
 refine Jq (q_move rfl) ?_
 refine Jq (q_move rfl) ?_
 refine Jq (by first | exact q_index tb rfl rfl rfl rfl gvo (by omega) (by first | omega | (simp; done) | (simp; omega)) | exact q_indexP tb rfl rfl rfl rfl (by omega) (by omega)) ?_
 refine Jq (by first | exact q_loadA tb rfl rfl bxo rfl rfl | exact q_loadEA tb rfl rfl gvo (i := 0) (o := 0) (by omega) rfl rfl rfl) ?_
 refine L_callC (tb.en_ok _ (lkT_mem (rfl : lkT tb.en 93 = some ()))) rfl rfl (ct_profile_track_allowed_1 m b w9) (ps_cons gvo (ps_cons gvo (ps_cons gvo no_ps))) rfl ?_
 refine L_then ?_
 refine C_false rfl ?_
 refine C_skip_blk ?_
 refine C_region ?_
 refine Jq (q_add rfl rfl (by first | exact IntWalk.i64_in _ (by omega) | rfl)) ?_
 refine Jq (q_move rfl) ?_
 refine L_end ?_
 exact fun ac_ wo_ hs_ => ⟨1, (by omega), (by dsimp only; omega), hs_.weak ⟨rfl, rfl, rfl, rfl, rfl, trivial⟩ (fun h => h.pk (by repeat (first | with_reducible exact pk_nil | refine pk_box rfl ?_ | refine pk_rd rfl ?_ | refine pk_sl rfl ?_ | with_reducible refine pk_app ?_ | with_reducible refine pk_app0 ?_ | with_reducible refine pk_app0L ?_ | with_reducible exact pk_tl | refine pk_var ?_)))⟩
 refine C_exit ?_
 change C Try.prog _ _ _ _ _ _ _
 refine C_seq ?_
 refine C_region ?_
 refine Jq (q_assign rfl) ?_
 refine L_then ?_
 refine C_ret ?_
 exact ret_of (res1 rfl rfl) sub_nil (by intro r hr; cases hr) ⟨rfl, rfl⟩
set_option maxRecDepth 100000 in
set_option maxHeartbeats 1000000 in
theorem ct_slices_ContainsFunc_shotline_profile_track_shotline_api_DivePoint (v m b w9 : Value) (l L : List (Int × Int)) (hl : l = [] ∨ (l = [(10, 100)] ∧ L = [(0, 0), (20, 190)])) : Ct Try.prog 92 [v, .func (.func 93) #[] #[elP m 0, elP b 0]] [(v, 2, l.map cSw), (m, 1, [cI 9]), (b, 1, [[w9]]), (w9, 2, (L : List (Int × Int)).map cSw)] (isV (.bool false)) := by
 refine Ct.of (N := 9) Try.func92 rfl rfl rfl fun w => ?_
 refine C_weak (E' := [(0, v), (1, .func (.func 93) #[] #[elP m 0, elP b 0])]) (rs' := [rd v 2 (l.map cSw), rd m 1 ([cI 9]), rd b 1 ([[w9]]), rd w9 2 ((L : List (Int × Int)).map cSw)]) ⟨rfl, rfl, trivial⟩ (fun _ h => h) ?_
 refine C_seq ?_
 refine C_region ?_
 refine Jq (q_assign rfl) ?_
 refine L_then ?_
 refine C_seq ?_
 refine C_region ?_
 refine Jq (q_move rfl) ?_
 refine Jq (q_move rfl) ?_
 refine L_call tb rfl rfl (ct_IndexFuncA v m b w9 l L hl) (ps_cons gvo (ps_cons gvo (ps_cons gvo (ps_cons gvo no_ps)))) rfl ?_
 refine Jq (q_false (q_geq rfl rfl) (by decide)) ?_
 refine Jq (q_assign rfl) ?_
 refine L_then ?_
 refine C_ret ?_
 exact ret_of (res1 rfl rfl) sub_nil (by intro r hr; cases hr) ⟨rfl, rfl⟩
set_option maxRecDepth 100000 in
set_option maxHeartbeats 1000000 in
theorem ct_profile_track_allowed (v : Value) (i j : Nat) (hij : (i = 0 ∧ j = 2) ∨ (i = 2 ∧ j = 3)) : Ct Try.prog 74 [v, .int .i64 (i : Int), .int .i64 (j : Int), .int .i64 9] [(v, 2, (ptsK fourL fourL.length).map cSw)] (isV (.bool true)) := by
 refine Ct.of (N := 27) Try.func74 rfl rfl rfl fun w => ?_
 refine C_weak (E' := [(0, v), (1, .int .i64 (i : Int)), (2, .int .i64 (j : Int)), (3, .int .i64 9)]) (rs' := [rd v 2 ((ptsK fourL fourL.length).map cSw)]) ⟨rfl, rfl, rfl, rfl, trivial⟩ (fun _ h => h) ?_
 obtain ⟨x, hx⟩ := get_some (ptsK fourL fourL.length) (k := i) (by show i < 4; omega); obtain ⟨y, hy⟩ := get_some (ptsK fourL fourL.length) (k := j) (by show j < 4; omega)
 have hcx := map_get cSw hx; have hcy := map_get cSw hy; have hl4 : ((ptsK fourL fourL.length).map cSw).length = 4 := rfl
 have hlm : ((ptsK fourL fourL.length).take j).drop (i + 1) = [] ∨ (((ptsK fourL fourL.length).take j).drop (i + 1) = [(10, 100)] ∧ [x, y] = [(0, 0), (20, 190)]) := by
  rcases hij with ⟨rfl, rfl⟩ | ⟨rfl, rfl⟩
  · injection hx with hx; injection hy with hy; subst hx; subst hy; exact .inr ⟨rfl, rfl⟩
  · exact .inl rfl
 refine C_seq ?_
 refine C_region ?_
 refine L_box rfl rfl rfl fun g7 => ?_
 refine Jq (q_assign rfl) ?_
 refine L_then ?_
 refine C_seq ?_
 refine C_drawA1 tb (n := 10) (k := 9) [(0, false), (1, false), (2, false), (3, false), (4, false), (5, false), (6, false), (7, false), (8, true)] mixed rfl rfl rfl (by kernel_rfl) rfl ?_
 refine Yq rfl (q_move rfl) ?_
 refine Yq rfl (q_move rfl) ?_
 refine Yq rfl (by first | exact q_index tb rfl rfl rfl rfl (by first | exact gvo | exact gvd gvo (by omega)) (by omega) (by first | omega | (simp; done) | (simp; omega)) | exact q_indexP tb rfl rfl rfl rfl (by omega) (by omega)) ?_
 refine Yq rfl (by first | exact q_loadA tb rfl rfl bxo rfl rfl | exact q_loadEA tb rfl rfl (by first | exact gvo | exact gvd gvo (by omega)) (i := i) (o := 0) (by omega) hcx rfl rfl) ?_
 refine Yq rfl (q_move rfl) ?_
 refine Yq rfl (q_move rfl) ?_
 refine Yq rfl (by first | exact q_index tb rfl rfl rfl rfl (by first | exact gvo | exact gvd gvo (by omega)) (by omega) (by first | omega | (simp; done) | (simp; omega)) | exact q_indexP tb rfl rfl rfl rfl (by omega) (by omega)) ?_
 refine Yq rfl (by first | exact q_loadA tb rfl rfl bxo rfl rfl | exact q_loadEA tb rfl rfl (by first | exact gvo | exact gvd gvo (by omega)) (i := j) (o := 0) (by omega) hcy rfl rfl) ?_
 refine W_mk rfl (lo_bslice tb rfl rfl rfl (xs := [cSw x, cSw y]) rfl rfl (by simp [cSw]) rfl (by omega) rfl) rfl rfl rfl fun v18 => ?_
 refine W_nil ?_
 intro g9
 refine L_form (v := v18) gvo (fun A18 c18 hv18 _ => ?_)
 subst hv18
 refine L_st tb rfl rfl ?_
 refine L_then ?_
 refine C_seq ?_
 refine C_region ?_
 refine Jq (q_move rfl) ?_
 refine Jq (q_move rfl) ?_
 refine Jq (q_add rfl rfl (by first | exact IntWalk.i64_in _ (by omega) | rfl)) ?_
 refine Jq (q_move rfl) ?_
 refine Jq (q_mid tb rfl rfl rfl rfl rfl gvo (by omega) (by omega) (by omega)) ?_
 refine Jq (q_makeFunc rfl rfl) ?_
 refine L_call tb rfl rfl (ct_slices_ContainsFunc_shotline_profile_track_shotline_api_DivePoint (dropV (takeV v j) (i + 1) 2) (bxV g7) (bxV g9) (.slice A18 2 c18) (((ptsK fourL fourL.length).take j).drop (i + 1)) [x, y] hlm) (ps_cons (by rw [List.map_drop, List.map_take]; exact gvd (gvt gvo (by omega)) (by rw [List.length_take]; omega)) (ps_cons (gbx bxo rfl) (ps_cons (gbx bxo rfl) (ps_cons gvo no_ps)))) rfl ?_
 refine Jq (q_not rfl (by first | exact (rfl : (!true) = false) | exact (rfl : (!false) = true) | exact decide_not.symm | rfl)) ?_
 refine Jq (q_assign rfl) ?_
 refine L_then ?_
 refine C_ret ?_
 exact ret_of (res1 rfl rfl) sub_nil (by intro r hr; cases hr) ⟨rfl, rfl⟩
set_option maxRecDepth 100000 in
theorem ct_profile_isError (n : Int) : Ct Try.prog 91 [.int .i64 n] [] (isV (.bool (decide (0 ≤ n ∧ n ≤ 30000)))) := by
 refine Ct.of (N := 5) Try.func91 rfl rfl rfl fun w => ?_
 refine C_weak (E' := [(0, .int .i64 n)]) (rs' := []) ⟨rfl, trivial⟩ (fun _ h => h) ?_
 refine C_seq ?_
 refine C_region ?_
 refine Jq (q_assign rfl) ?_
 refine L_then ?_
 refine C_seq ?_
 refine C_region ?_
 refine Jq (q_move rfl) ?_
 refine L_call tb rfl rfl (ct_profile_within _ _ _) no_ps rfl ?_
 refine Jq (q_assign rfl) ?_
 refine L_then ?_
 refine C_ret ?_
 exact ret_of (res1 rfl rfl) sub_nil (by intro r hr; cases hr) ⟨(by first | rfl | exact congrArg Value.bool (decide_eq_decide.2 (by omega)) | exact congrArg Value.bool (decide_eq_true (by omega)).symm | exact congrArg Value.bool (decide_eq_false (by omega)).symm | exact congrArg Value.bool (decide_eq_true (by omega))), rfl⟩
set_option maxRecDepth 100000 in
theorem ct_profile_checkThin (v : Value) : Ct Try.prog 73 [v, .int .i64 9] [(v, 2, (ptsK fourL fourL.length).map cSw)] (isV (.int .i64 0)) := by
 refine Ct.of (N := 14) Try.func73 rfl rfl rfl fun w => ?_
 refine C_weak (E' := [(0, v), (1, .int .i64 9)]) (rs' := [rd v 2 ((ptsK fourL fourL.length).map cSw)]) ⟨rfl, rfl, trivial⟩ (fun _ h => h) ?_
 refine C_seq ?_
 refine C_region ?_
 refine Jq (q_assign rfl) ?_
 refine L_then ?_
 refine C_seq ?_
 refine C_seq ?_
 refine C_region ?_
 refine Jq (q_move rfl) ?_
 refine L_call tb rfl rfl (ct_profile_CheckPoints v 1000 [⟨210, 0⟩] fourL okF (show 0 < 3 by omega)) (ps_cons gvo no_ps) rfl ?_
 refine Jq (q_assign rfl) ?_
 refine L_then ?_
 refine C_seq ?_
 refine C_region ?_
 refine Jq (q_move rfl) ?_
 refine Jq (q_false (q_neq rfl rfl) (decide_eq_false (fun h => h rfl))) ?_
 refine L_then ?_
 refine C_false rfl ?_
 refine C_skip_then ?_
 refine C_seq ?_
 refine C_seq ?_
 refine C_region ?_
 refine Jq (q_move rfl) ?_
 refine L_call tb rfl rfl (ct_profile_isError _) no_ps rfl ?_
 refine Jq (q_not rfl decide_not.symm) ?_
 refine L_then ?_
 refine C_dec rfl (fun h2 => ?_) (fun h2 => ?_)
 exfalso; omega
 refine C_skip_then ?_
 refine C_seq ?_
 refine C_region ?_
 refine Jq (q_assign rfl) ?_
 refine L_then ?_
 refine C_ret ?_
 exact ret_of (res1 rfl rfl) sub_nil (by intro r hr; cases hr) ⟨rfl, rfl⟩
set_option maxRecDepth 100000 in
set_option maxHeartbeats 2000000 in
theorem ct_profile_CheckThin (v w9 : Value) : Ct Try.prog 34 [v, .int .i64 9, w9] [(v, 2, (ptsK fourL fourL.length).map cSw), (w9, 1, ([0, 2, 3] : List Int).map cI)] (isV (.tuple #[.int .i64 3, .int .i64 0])) := by
 refine Ct.of (N := 98) Try.func34 rfl rfl rfl fun w => ?_
 refine C_weak (E' := [(0, v), (1, .int .i64 9), (2, w9)]) (rs' := [rd v 2 ((ptsK fourL fourL.length).map cSw), rd w9 1 (([0, 2, 3] : List Int).map cI)]) ⟨rfl, rfl, rfl, trivial⟩ (fun _ h => h) ?_
 have hk3 : (([0, 2, 3] : List Int).map cI).length = 3 := rfl; have hf4 : ((ptsK fourL fourL.length).map cSw).length = 4 := rfl
 refine C_seq ?_
 refine C_region ?_
 refine Jq (q_assign rfl) ?_
 refine Jq (q_assign rfl) ?_
 refine L_then ?_
 refine C_seq ?_
 refine C_seq ?_
 refine C_region ?_
 refine Jq (q_move rfl) ?_
 refine Jq (q_move rfl) ?_
 refine L_call tb rfl rfl (ct_profile_checkThin v) (ps_cons gvo no_ps) rfl ?_
 refine Jq (q_assign rfl) ?_
 refine L_then ?_
 refine C_seq ?_
 refine C_region ?_
 refine Jq (q_move rfl) ?_
 refine Jq (q_false (q_neq rfl rfl) (decide_eq_false (fun h => h rfl))) ?_
 refine L_then ?_
 refine C_false rfl ?_
 refine C_skip_then ?_
 refine C_seq ?_
 refine C_seq ?_
 refine C_region ?_
 refine Jq (q_move rfl) ?_
 refine Jq (q_len tb rfl rfl gvo) ?_
 refine Jq (q_move rfl) ?_
 refine L_then ?_
 refine C_block ?_
 refine C_loop (ι := Nat) (fun k => ([(0, v), (1, .int .i64 9), (2, w9), (19, w9), (20, .int .i64 (([0, 2, 3] : List Int).map cI).length), (21, .int .i64 (k : Int))], [rd v 2 ((ptsK fourL fourL.length).map cSw), rd w9 1 (([0, 2, 3] : List Int).map cI)])) (fun k => k ≤ 3) (fun k => 3 - k) 0 (Nat.zero_le _) (fun a w hs => hs.weak ⟨rfl, rfl, rfl, rfl, rfl, rfl, trivial⟩ (fun h => h.pk (by repeat (first | with_reducible exact pk_nil | refine pk_box rfl ?_ | refine pk_rd rfl ?_ | refine pk_sl rfl ?_ | with_reducible refine pk_app ?_ | with_reducible refine pk_app0 ?_ | with_reducible refine pk_app0L ?_ | with_reducible exact pk_tl | refine pk_var ?_)))) ?_
 intro k hk
 dsimp only at hk ⊢
 refine C_seq ?_
 refine C_region ?_
 refine Jq (q_lss rfl rfl) ?_
 refine L_then ?_
 refine C_seq ?_
 refine C_dec rfl (fun h2 => ?_) (fun h2 => ?_)
 obtain ⟨x, hx⟩ := get_some ([0, 2, 3] : List Int) (k := k) (by show k < 3; omega); have hel := map_get cI hx; have hin := kept_in hx
 refine C_skip_then ?_
 refine C_seq ?_
 refine C_block ?_
 refine C_seq ?_
 refine C_region ?_
 refine Jq (by first | exact q_index tb rfl rfl rfl rfl gvo (by omega) (by first | omega | (simp; done) | (simp; omega)) | exact q_indexP tb rfl rfl rfl rfl (by omega) (by omega)) ?_
 refine Jq (q_loadE tb rfl rfl gvo (i := k) (o := 0) (by omega) hel rfl) ?_
 refine Jq (q_assign rfl) ?_
 refine L_then ?_
 refine C_seq ?_
 refine C_region ?_
 refine Jq (q_move rfl) ?_
 refine Jq (q_move rfl) ?_
 refine Jq (q_len tb rfl rfl gvo) ?_
 refine Jq (q_sub rfl rfl (by first | exact IntWalk.i64_in _ (by omega) | rfl)) ?_
 refine L_call tb rfl rfl (ct_profile_within _ _ _) no_ps rfl ?_
 refine Jq (q_not rfl decide_not.symm) ?_
 refine L_then ?_
 refine C_dec rfl (fun h3 => ?_) (fun h3 => ?_)
 exfalso; omega
 refine C_skip_blk ?_
 refine C_region ?_
 refine Jq (q_add rfl rfl (by first | exact IntWalk.i64_in _ (by omega) | rfl)) ?_
 refine Jq (q_move rfl) ?_
 refine L_end ?_
 exact fun ac_ wo_ hs_ => ⟨k + 1, (by dsimp only; omega), (by dsimp only; omega), hs_.weak ⟨rfl, rfl, rfl, rfl, rfl, rfl, trivial⟩ (fun h => h.pk (by repeat (first | with_reducible exact pk_nil | refine pk_box rfl ?_ | refine pk_rd rfl ?_ | refine pk_sl rfl ?_ | with_reducible refine pk_app ?_ | with_reducible refine pk_app0 ?_ | with_reducible refine pk_app0L ?_ | with_reducible exact pk_tl | refine pk_var ?_)))⟩
 refine C_exit ?_
 change C Try.prog _ _ _ _ _ _ _
 refine C_seq ?_
 refine C_seq ?_
 refine C_region ?_
 refine Jq (q_move rfl) ?_
 refine Jq (q_len tb rfl rfl gvo) ?_
 refine Jq (q_move rfl) ?_
 refine L_then ?_
 refine C_block ?_
 refine C_loop (ι := Nat) (fun k => ([(0, v), (1, .int .i64 9), (2, w9), (33, .int .i64 (([0, 2, 3] : List Int).map cI).length), (34, .int .i64 (k : Int))], [rd v 2 ((ptsK fourL fourL.length).map cSw), rd w9 1 (([0, 2, 3] : List Int).map cI)])) (fun k => k ≤ 3) (fun k => 3 - k) 0 (Nat.zero_le _) (fun a w hs => hs.weak ⟨rfl, rfl, rfl, rfl, rfl, trivial⟩ (fun h => h.pk (by repeat (first | with_reducible exact pk_nil | refine pk_box rfl ?_ | refine pk_rd rfl ?_ | refine pk_sl rfl ?_ | with_reducible refine pk_app ?_ | with_reducible refine pk_app0 ?_ | with_reducible refine pk_app0L ?_ | with_reducible exact pk_tl | refine pk_var ?_)))) ?_
 intro k hk
 dsimp only at hk ⊢
 refine C_seq ?_
 refine C_region ?_
 refine Jq (q_lss rfl rfl) ?_
 refine L_then ?_
 refine C_seq ?_
 refine C_dec rfl (fun h4 => ?_) (fun h4 => ?_)
 obtain rfl | rfl | rfl : k = 0 ∨ k = 1 ∨ k = 2 := by omega
 refine C_skip_then ?_
 refine C_seq ?_
 refine C_block ?_
 refine C_seq ?_
 refine C_region ?_
 refine Jq (q_move rfl) ?_
 refine Jq (q_assign rfl) ?_
 refine L_then ?_
 refine C_seq ?_
 refine C_draw (n := 14) [(0, false), (1, false), (2, false), (3, false), (4, false), (5, false), (6, false), (7, false), (8, false), (9, false), (10, false), (11, false), (12, false), (13, false)] mixed (by kernel_rfl) ?_
 refine Yq rfl (q_move rfl) ?_
 refine Yq rfl (q_gtr rfl rfl) ?_
 refine Yq rfl (q_move rfl) ?_
 refine W_dec (d := 39) rfl (fun h5 => ?_) (fun h5 => ?_)
 exfalso; omega
 refine Yk rfl ?_
 refine Yk rfl ?_
 refine Yk rfl ?_
 refine Yk rfl ?_
 refine Yk rfl ?_
 refine Yk rfl ?_
 refine Yk rfl ?_
 refine Yk rfl ?_
 refine Yk rfl ?_
 refine Yk rfl ?_
 refine Yq rfl (q_pickF rfl rfl) ?_
 refine W_nil ?_
 refine L_then ?_
 refine C_false rfl ?_
 refine C_skip_blk ?_
 refine C_region ?_
 refine Jq (q_add rfl rfl (by first | exact IntWalk.i64_in _ (by omega) | rfl)) ?_
 refine Jq (q_move rfl) ?_
 refine L_end ?_
 exact fun ac_ wo_ hs_ => ⟨1, (by dsimp only; omega), (by dsimp only; omega), hs_.weak ⟨rfl, rfl, rfl, rfl, rfl, trivial⟩ (fun h => h.pk (by repeat (first | with_reducible exact pk_nil | refine pk_box rfl ?_ | refine pk_rd rfl ?_ | refine pk_sl rfl ?_ | with_reducible refine pk_app ?_ | with_reducible refine pk_app0 ?_ | with_reducible refine pk_app0L ?_ | with_reducible exact pk_tl | refine pk_var ?_)))⟩
 refine C_skip_then ?_
 refine C_seq ?_
 refine C_block ?_
 refine C_seq ?_
 refine C_region ?_
 refine Jq (q_move rfl) ?_
 refine Jq (q_assign rfl) ?_
 refine L_then ?_
 refine C_seq ?_
 refine C_draw (n := 14) [(0, false), (1, false), (2, false), (3, false), (4, false), (5, false), (6, false), (7, false), (8, false), (9, false), (10, false), (11, false), (12, false), (13, false)] mixed (by kernel_rfl) ?_
 refine Yq rfl (q_move rfl) ?_
 refine Yq rfl (q_gtr rfl rfl) ?_
 refine Yq rfl (q_move rfl) ?_
 refine W_dec (d := 39) rfl (fun h7 => ?_) (fun h7 => ?_)
 refine Yg rfl (q_move rfl) ?_
 refine Yg rfl (q_move rfl) ?_
 refine Yg rfl (by first | exact q_index tb rfl rfl rfl rfl gvo (by omega) (by first | omega | (simp; done) | (simp; omega)) | exact q_indexP tb rfl rfl rfl rfl (by omega) (by omega)) ?_
 refine Yg rfl (q_loadE tb rfl rfl gvo (i := 1) (o := 0) (by omega) rfl rfl) ?_
 refine Yg rfl (q_move rfl) ?_
 refine Yg rfl (q_move rfl) ?_
 refine Yg rfl (q_sub rfl rfl (by first | exact IntWalk.i64_in _ (by omega) | rfl)) ?_
 refine Yg rfl (by first | exact q_index tb rfl rfl rfl rfl gvo (by omega) (by first | omega | (simp; done) | (simp; omega)) | exact q_indexP tb rfl rfl rfl rfl (by omega) (by omega)) ?_
 refine Yg rfl (q_loadE tb rfl rfl gvo (i := 0) (o := 0) (by omega) rfl rfl) ?_
 refine Yg rfl (q_leq rfl rfl) ?_
 refine Yq rfl (q_pickT rfl rfl) ?_
 refine W_nil ?_
 refine L_then ?_
 refine C_dec rfl (fun h8 => ?_) (fun h8 => ?_)
 exfalso; omega
 refine C_skip_blk ?_
 refine C_region ?_
 refine Jq (q_add rfl rfl (by first | exact IntWalk.i64_in _ (by omega) | rfl)) ?_
 refine Jq (q_move rfl) ?_
 refine L_end ?_
 exact fun ac_ wo_ hs_ => ⟨2, (by dsimp only; omega), (by dsimp only; omega), hs_.weak ⟨rfl, rfl, rfl, rfl, rfl, trivial⟩ (fun h => h.pk (by repeat (first | with_reducible exact pk_nil | refine pk_box rfl ?_ | refine pk_rd rfl ?_ | refine pk_sl rfl ?_ | with_reducible refine pk_app ?_ | with_reducible refine pk_app0 ?_ | with_reducible refine pk_app0L ?_ | with_reducible exact pk_tl | refine pk_var ?_)))⟩
 exfalso; omega
 refine C_skip_then ?_
 refine C_seq ?_
 refine C_block ?_
 refine C_seq ?_
 refine C_region ?_
 refine Jq (q_move rfl) ?_
 refine Jq (q_assign rfl) ?_
 refine L_then ?_
 refine C_seq ?_
 refine C_draw (n := 14) [(0, false), (1, false), (2, false), (3, false), (4, false), (5, false), (6, false), (7, false), (8, false), (9, false), (10, false), (11, false), (12, false), (13, false)] mixed (by kernel_rfl) ?_
 refine Yq rfl (q_move rfl) ?_
 refine Yq rfl (q_gtr rfl rfl) ?_
 refine Yq rfl (q_move rfl) ?_
 refine W_dec (d := 39) rfl (fun h9 => ?_) (fun h9 => ?_)
 refine Yg rfl (q_move rfl) ?_
 refine Yg rfl (q_move rfl) ?_
 refine Yg rfl (by first | exact q_index tb rfl rfl rfl rfl gvo (by omega) (by first | omega | (simp; done) | (simp; omega)) | exact q_indexP tb rfl rfl rfl rfl (by omega) (by omega)) ?_
 refine Yg rfl (q_loadE tb rfl rfl gvo (i := 2) (o := 0) (by omega) rfl rfl) ?_
 refine Yg rfl (q_move rfl) ?_
 refine Yg rfl (q_move rfl) ?_
 refine Yg rfl (q_sub rfl rfl (by first | exact IntWalk.i64_in _ (by omega) | rfl)) ?_
 refine Yg rfl (by first | exact q_index tb rfl rfl rfl rfl gvo (by omega) (by first | omega | (simp; done) | (simp; omega)) | exact q_indexP tb rfl rfl rfl rfl (by omega) (by omega)) ?_
 refine Yg rfl (q_loadE tb rfl rfl gvo (i := 1) (o := 0) (by omega) rfl rfl) ?_
 refine Yg rfl (q_leq rfl rfl) ?_
 refine Yq rfl (q_pickT rfl rfl) ?_
 refine W_nil ?_
 refine L_then ?_
 refine C_dec rfl (fun h10 => ?_) (fun h10 => ?_)
 exfalso; omega
 refine C_skip_blk ?_
 refine C_region ?_
 refine Jq (q_add rfl rfl (by first | exact IntWalk.i64_in _ (by omega) | rfl)) ?_
 refine Jq (q_move rfl) ?_
 refine L_end ?_
 exact fun ac_ wo_ hs_ => ⟨3, (by dsimp only; omega), (by dsimp only; omega), hs_.weak ⟨rfl, rfl, rfl, rfl, rfl, trivial⟩ (fun h => h.pk (by repeat (first | with_reducible exact pk_nil | refine pk_box rfl ?_ | refine pk_rd rfl ?_ | refine pk_sl rfl ?_ | with_reducible refine pk_app ?_ | with_reducible refine pk_app0 ?_ | with_reducible refine pk_app0L ?_ | with_reducible exact pk_tl | refine pk_var ?_)))⟩
 exfalso; omega
 refine C_exit ?_
 change C Try.prog _ _ _ _ _ _ _
 refine C_seq ?_
 refine C_seq ?_
 refine C_region ?_
 refine Jq (q_move rfl) ?_
 refine Jq (q_len tb rfl rfl gvo) ?_
 refine Jq (q_eql rfl rfl) ?_
 refine Jq (q_move rfl) ?_
 refine L_dec (d := 55) rfl (fun h11 => ?_) (fun h11 => ?_)
 exfalso; omega
 refine Jg (q_move rfl) ?_
 refine Jg (by first | exact q_index tb rfl rfl rfl rfl gvo (by omega) (by first | omega | (simp; done) | (simp; omega)) | exact q_indexP tb rfl rfl rfl rfl (by omega) (by omega)) ?_
 refine Jg (q_loadE tb rfl rfl gvo (i := 0) (o := 0) (by omega) rfl rfl) ?_
 refine Jg (q_neq rfl rfl) ?_
 refine Jq (q_pickF rfl rfl) ?_
 refine Jq (q_move rfl) ?_
 refine L_dec (d := 61) rfl (fun h12 => ?_) (fun h12 => ?_)
 exfalso; omega
 refine Jg (q_move rfl) ?_
 refine Jg (q_move rfl) ?_
 refine Jg (q_len tb rfl rfl gvo) ?_
 refine Jg (q_sub rfl rfl (by first | exact IntWalk.i64_in _ (by omega) | rfl)) ?_
 refine Jg (by first | exact q_index tb rfl rfl rfl rfl gvo (by omega) (by first | omega | (simp; done) | (simp; omega)) | exact q_indexP tb rfl rfl rfl rfl (by omega) (by omega)) ?_
 refine Jg (q_loadE tb rfl rfl gvo (i := 2) (o := 0) (by omega) rfl rfl) ?_
 refine Jg (q_move rfl) ?_
 refine Jg (q_len tb rfl rfl gvo) ?_
 refine Jg (q_sub rfl rfl (by first | exact IntWalk.i64_in _ (by omega) | rfl)) ?_
 refine Jg (q_neq rfl rfl) ?_
 refine Jq (q_pickF rfl rfl) ?_
 refine L_then ?_
 refine C_dec rfl (fun h13 => ?_) (fun h13 => ?_)
 exfalso; omega
 refine C_skip_then ?_
 refine C_seq ?_
 refine C_seq ?_
 refine C_region ?_
 refine Jq (q_move rfl) ?_
 refine Jq (q_len tb rfl rfl gvo) ?_
 refine Jq (q_move rfl) ?_
 refine L_then ?_
 refine C_block ?_
 refine C_loop (ι := Nat) (fun k => ([(0, v), (1, .int .i64 9), (2, w9), (74, .int .i64 (([0, 2, 3] : List Int).map cI).length), (75, .int .i64 (k : Int))], [rd v 2 ((ptsK fourL fourL.length).map cSw), rd w9 1 (([0, 2, 3] : List Int).map cI)])) (fun k => k ≤ 3) (fun k => 3 - k) 0 (Nat.zero_le _) (fun a w hs => hs.weak ⟨rfl, rfl, rfl, rfl, rfl, trivial⟩ (fun h => h.pk (by repeat (first | with_reducible exact pk_nil | refine pk_box rfl ?_ | refine pk_rd rfl ?_ | refine pk_sl rfl ?_ | with_reducible refine pk_app ?_ | with_reducible refine pk_app0 ?_ | with_reducible refine pk_app0L ?_ | with_reducible exact pk_tl | refine pk_var ?_)))) ?_
 intro k hk
 dsimp only at hk ⊢
 refine C_seq ?_
 refine C_region ?_
 refine Jq (q_lss rfl rfl) ?_
 refine L_then ?_
 refine C_seq ?_
 refine C_dec rfl (fun h14 => ?_) (fun h14 => ?_)
 obtain rfl | rfl | rfl : k = 0 ∨ k = 1 ∨ k = 2 := by omega
 refine C_skip_then ?_
 refine C_seq ?_
 refine C_block ?_
 refine C_seq ?_
 refine C_region ?_
 refine Jq (q_move rfl) ?_
 refine Jq (q_assign rfl) ?_
 refine L_then ?_
 refine C_seq ?_
 refine C_draw (n := 17) [(0, false), (1, false), (2, false), (3, false), (4, false), (5, false), (6, false), (7, false), (8, false), (9, false), (10, false), (11, false), (12, false), (13, false), (14, true), (15, false), (16, false)] mixed (by kernel_rfl) ?_
 refine Yq rfl (q_move rfl) ?_
 refine Yq rfl (q_gtr rfl rfl) ?_
 refine Yq rfl (q_move rfl) ?_
 refine W_dec (d := 80) rfl (fun h15 => ?_) (fun h15 => ?_)
 exfalso; omega
 refine Yk rfl ?_
 refine Yk rfl ?_
 refine Yk rfl ?_
 refine Yk rfl ?_
 refine Yk rfl ?_
 refine Yk rfl ?_
 refine Yk rfl ?_
 refine Yk rfl ?_
 refine Yk rfl ?_
 refine Yk rfl ?_
 refine Yk rfl ?_
 refine Ykl rfl ?_
 refine Yk rfl ?_
 refine Yq rfl (q_pickF rfl rfl) ?_
 refine W_nil ?_
 refine L_then ?_
 refine C_false rfl ?_
 refine C_skip_blk ?_
 refine C_region ?_
 refine Jq (q_add rfl rfl (by first | exact IntWalk.i64_in _ (by omega) | rfl)) ?_
 refine Jq (q_move rfl) ?_
 refine L_end ?_
 exact fun ac_ wo_ hs_ => ⟨1, (by dsimp only; omega), (by dsimp only; omega), hs_.weak ⟨rfl, rfl, rfl, rfl, rfl, trivial⟩ (fun h => h.pk (by repeat (first | with_reducible exact pk_nil | refine pk_box rfl ?_ | refine pk_rd rfl ?_ | refine pk_sl rfl ?_ | with_reducible refine pk_app ?_ | with_reducible refine pk_app0 ?_ | with_reducible refine pk_app0L ?_ | with_reducible exact pk_tl | refine pk_var ?_)))⟩
 refine C_skip_then ?_
 refine C_seq ?_
 refine C_block ?_
 refine C_seq ?_
 refine C_region ?_
 refine Jq (q_move rfl) ?_
 refine Jq (q_assign rfl) ?_
 refine L_then ?_
 refine C_seq ?_
 refine C_draw (n := 17) [(0, false), (1, false), (2, false), (3, false), (4, false), (5, false), (6, false), (7, false), (8, false), (9, false), (10, false), (11, false), (12, false), (13, false), (14, true), (15, false), (16, false)] mixed (by kernel_rfl) ?_
 refine Yq rfl (q_move rfl) ?_
 refine Yq rfl (q_gtr rfl rfl) ?_
 refine Yq rfl (q_move rfl) ?_
 refine W_dec (d := 80) rfl (fun h17 => ?_) (fun h17 => ?_)
 refine Yg rfl (q_move rfl) ?_
 refine Yg rfl (q_move rfl) ?_
 refine Yg rfl (q_move rfl) ?_
 refine Yg rfl (q_sub rfl rfl (by first | exact IntWalk.i64_in _ (by omega) | rfl)) ?_
 refine Yg rfl (by first | exact q_index tb rfl rfl rfl rfl gvo (by omega) (by first | omega | (simp; done) | (simp; omega)) | exact q_indexP tb rfl rfl rfl rfl (by omega) (by omega)) ?_
 refine Yg rfl (q_loadE tb rfl rfl gvo (i := 0) (o := 0) (by omega) rfl rfl) ?_
 refine Yg rfl (q_move rfl) ?_
 refine Yg rfl (q_move rfl) ?_
 refine Yg rfl (by first | exact q_index tb rfl rfl rfl rfl gvo (by omega) (by first | omega | (simp; done) | (simp; omega)) | exact q_indexP tb rfl rfl rfl rfl (by omega) (by omega)) ?_
 refine Yg rfl (q_loadE tb rfl rfl gvo (i := 1) (o := 0) (by omega) rfl rfl) ?_
 refine Yg rfl (q_move rfl) ?_
 refine W_callg tb rfl rfl rfl rfl rfl rfl rfl rfl (ct_profile_track_allowed v 0 2 (by omega)) (ps_cons gvo no_ps) rfl ?_
 refine Yg rfl (q_not rfl rfl) ?_
 refine Yq rfl (q_pickT rfl rfl) ?_
 refine W_nil ?_
 refine L_then ?_
 refine C_false rfl ?_
 refine C_skip_blk ?_
 refine C_region ?_
 refine Jq (q_add rfl rfl (by first | exact IntWalk.i64_in _ (by omega) | rfl)) ?_
 refine Jq (q_move rfl) ?_
 refine L_end ?_
 exact fun ac_ wo_ hs_ => ⟨2, (by dsimp only; omega), (by dsimp only; omega), hs_.weak ⟨rfl, rfl, rfl, rfl, rfl, trivial⟩ (fun h => h.pk (by repeat (first | with_reducible exact pk_nil | refine pk_box rfl ?_ | refine pk_rd rfl ?_ | refine pk_sl rfl ?_ | with_reducible refine pk_app ?_ | with_reducible refine pk_app0 ?_ | with_reducible refine pk_app0L ?_ | with_reducible exact pk_tl | refine pk_var ?_)))⟩
 exfalso; omega
 refine C_skip_then ?_
 refine C_seq ?_
 refine C_block ?_
 refine C_seq ?_
 refine C_region ?_
 refine Jq (q_move rfl) ?_
 refine Jq (q_assign rfl) ?_
 refine L_then ?_
 refine C_seq ?_
 refine C_draw (n := 17) [(0, false), (1, false), (2, false), (3, false), (4, false), (5, false), (6, false), (7, false), (8, false), (9, false), (10, false), (11, false), (12, false), (13, false), (14, true), (15, false), (16, false)] mixed (by kernel_rfl) ?_
 refine Yq rfl (q_move rfl) ?_
 refine Yq rfl (q_gtr rfl rfl) ?_
 refine Yq rfl (q_move rfl) ?_
 refine W_dec (d := 80) rfl (fun h19 => ?_) (fun h19 => ?_)
 refine Yg rfl (q_move rfl) ?_
 refine Yg rfl (q_move rfl) ?_
 refine Yg rfl (q_move rfl) ?_
 refine Yg rfl (q_sub rfl rfl (by first | exact IntWalk.i64_in _ (by omega) | rfl)) ?_
 refine Yg rfl (by first | exact q_index tb rfl rfl rfl rfl gvo (by omega) (by first | omega | (simp; done) | (simp; omega)) | exact q_indexP tb rfl rfl rfl rfl (by omega) (by omega)) ?_
 refine Yg rfl (q_loadE tb rfl rfl gvo (i := 1) (o := 0) (by omega) rfl rfl) ?_
 refine Yg rfl (q_move rfl) ?_
 refine Yg rfl (q_move rfl) ?_
 refine Yg rfl (by first | exact q_index tb rfl rfl rfl rfl gvo (by omega) (by first | omega | (simp; done) | (simp; omega)) | exact q_indexP tb rfl rfl rfl rfl (by omega) (by omega)) ?_
 refine Yg rfl (q_loadE tb rfl rfl gvo (i := 2) (o := 0) (by omega) rfl rfl) ?_
 refine Yg rfl (q_move rfl) ?_
 refine W_callg tb rfl rfl rfl rfl rfl rfl rfl rfl (ct_profile_track_allowed v 2 3 (by omega)) (ps_cons gvo no_ps) rfl ?_
 refine Yg rfl (q_not rfl rfl) ?_
 refine Yq rfl (q_pickT rfl rfl) ?_
 refine W_nil ?_
 refine L_then ?_
 refine C_false rfl ?_
 refine C_skip_blk ?_
 refine C_region ?_
 refine Jq (q_add rfl rfl (by first | exact IntWalk.i64_in _ (by omega) | rfl)) ?_
 refine Jq (q_move rfl) ?_
 refine L_end ?_
 exact fun ac_ wo_ hs_ => ⟨3, (by dsimp only; omega), (by dsimp only; omega), hs_.weak ⟨rfl, rfl, rfl, rfl, rfl, trivial⟩ (fun h => h.pk (by repeat (first | with_reducible exact pk_nil | refine pk_box rfl ?_ | refine pk_rd rfl ?_ | refine pk_sl rfl ?_ | with_reducible refine pk_app ?_ | with_reducible refine pk_app0 ?_ | with_reducible refine pk_app0L ?_ | with_reducible exact pk_tl | refine pk_var ?_)))⟩
 exfalso; omega
 refine C_exit ?_
 change C Try.prog _ _ _ _ _ _ _
 refine C_seq ?_
 refine C_region ?_
 refine Jq (q_move rfl) ?_
 refine Jq (q_len tb rfl rfl gvo) ?_
 refine Jq (q_assign rfl) ?_
 refine Jq (q_assign rfl) ?_
 refine L_then ?_
 refine C_ret ?_
 exact ret_of (res2 rfl rfl rfl) sub_nil (by intro r hr; cases hr) ⟨rfl, rfl⟩
set_option maxRecDepth 100000 in
theorem ct_shotlinetop_plotted  : Ct Try.prog 5 [] [] (isV (.bool true)) := by
 refine Ct.of (N := 30) Try.func5 rfl rfl rfl fun w => ?_
 refine C_weak (E' := []) (rs' := []) trivial (fun _ h => h) ?_
 refine C_seq ?_
 refine C_region ?_
 refine Jq (q_assign rfl) ?_
 refine L_then ?_
 refine C_seq ?_
 refine C_region ?_
 refine L_lo rfl rfl rfl (lo_call tb rfl rfl (ct_shotlinelaw02_Reef) no_ps (by rintro y rs ⟨a, b, _, rfl⟩ r hr; simp only [List.mem_cons, List.not_mem_nil, or_false] at hr; rcases hr with rfl | rfl <;> exact sl_sinks _ _ _ _)) ?_
 rintro _ _ ⟨a6, b6, rfl, rfl⟩
 refine L_call tb rfl rfl (ct_profile_PlanSeconds nmD 1013 a6 b6 gsD lsD (show 2 ≤ 100000 by omega) (show 4 ≤ 100000 by omega) (show 1 ≤ 1000000000000 by omega) (bothE_ok bothD).2.1 (bothE_ok bothD).2.2.2) (ps_cons gvo (ps_cons gvo no_ps)) rfl ?_
 refine Jq (q_move rfl) ?_
 refine Jq (q_ext0 rfl) ?_
 refine Jq (q_ext1 rfl) ?_
 refine Jq (q_assign rfl) ?_
 refine Jq (q_assign rfl) ?_
 refine L_then ?_
 refine C_seq ?_
 refine C_region ?_
 refine L_callS tb rfl rfl (ct_shotlinelaw02_Four) no_ps rfl fun v11 => ?_
 refine L_mk (lo_bslice tb rfl rfl rfl (xs := (([0, 2, 3] : List Int).map cI)) rfl rfl (by decide) rfl (by omega) rfl) rfl rfl rfl fun v12 => ?_
 refine L_call tb rfl rfl (ct_profile_CheckThin v11 v12) (ps_cons gvo (ps_cons gvo no_ps)) rfl ?_
 refine Jq (q_move rfl) ?_
 refine Jq (q_ext0 rfl) ?_
 refine Jq (q_ext1 rfl) ?_
 refine Jq (q_assign rfl) ?_
 refine Jq (q_assign rfl) ?_
 refine L_then ?_
 refine C_seq ?_
 refine C_region ?_
 refine Jq (q_move rfl) ?_
 refine Jq (q_true (q_eql rfl rfl) rfl) ?_
 refine Jq (q_move rfl) ?_
 refine Jg (q_move rfl) ?_
 refine Jg (q_true (q_eql rfl rfl) rfl) ?_
 refine Jq (q_pickT rfl rfl) ?_
 refine Jq (q_move rfl) ?_
 refine Jg (q_move rfl) ?_
 refine Jg (q_true (q_eql rfl rfl) rfl) ?_
 refine Jq (q_pickT rfl rfl) ?_
 refine Jq (q_move rfl) ?_
 refine Jg (q_move rfl) ?_
 refine Jg (q_true (q_eql rfl rfl) rfl) ?_
 refine Jq (q_pickT rfl rfl) ?_
 refine Jq (q_assign rfl) ?_
 refine L_then ?_
 refine C_ret ?_
 exact ret_of (res1 rfl rfl) sub_nil (by intro r hr; cases hr) ⟨rfl, rfl⟩
end Go.Proofs.Ytdmnejfpbbmcaaa
