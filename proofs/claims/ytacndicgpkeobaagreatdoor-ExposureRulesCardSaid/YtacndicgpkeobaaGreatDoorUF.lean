/-
  Walks: each function named returns what its model says. Conditions: those in front of each theorem.
-/
import Derived.Test.YtacndicgpkeobaaGreatDoorUE
import Derived.Test.YtacndicgpkeobaaGreatDoorXC
import Derived.Test.YtacndicgpkeobaaGreatDoorAP
namespace Go.Proofs.YtacndicgpkeobaaGreatDoor
open Go.RowKit

set_option maxRecDepth 100000 in
set_option maxHeartbeats 4000000 in
theorem ct_exposure_Print (t : Value) (r : Ru) (hle : r.tb.length ≤ 100000) : CtQ KQ Tryz.prog 30 [.agg (cRu t r).toArray] [(t, 2, r.tb.map cOw)] (isV (.tuple #[.string (bs (prUE r)), .int .i64 (ckRu r)])) := by
 refine CtQ.of (N := 37) Tryz.func30 rfl rfl rfl fun w hQ => ?_
 refine C_weak (E' := [(0, .agg (cRu t r).toArray)]) (rs' := [rd t 2 (r.tb.map cOw)]) ⟨rfl, trivial⟩ (fun _ h => h) ?_
 have hl1 := len_map cOw r.tb
 refine C_seq ?_
 refine C_region ?_
 refine L_box rfl rfl rfl fun g1 => ?_
 refine Jq (q_assign rfl) ?_
 refine Jq (q_assign rfl) ?_
 refine L_then ?_
 refine C_seq ?_
 refine C_seq ?_
 refine C_region ?_
 refine Jq (q_loadA tb rfl rfl bxo rfl rfl) ?_
 refine L_call tb rfl rfl (ct_exposure_CheckRules t r (by omega)) (ps_cons gvo no_ps) rfl ?_
 refine Jq (q_assign rfl) ?_
 refine L_then ?_
 refine C_seq ?_
 refine C_region ?_
 refine Jq (q_move rfl) ?_
 refine Jq (q_neq rfl rfl) ?_
 refine L_then ?_
 refine C_dec rfl (fun h1 => ?_) (fun h1 => ?_)
 refine C_seq ?_
 refine C_region ?_
 refine Jq (q_move rfl) ?_
 refine Jq (q_assign rfl) ?_
 refine Jq (q_assign rfl) ?_
 refine L_then ?_
 refine C_ret ?_
 rw [prUE_1 h1]
 exact ret_of (res2 rfl rfl rfl) sub_nil (by intro r hr; cases hr) ⟨rfl, rfl⟩
 have hz := Decidable.not_not.1 h1
 have H := ckRu_ok hz
 have hn20 := H.tb.n
 have l4 := hdK_len H 4
 refine C_skip_then ?_
 refine C_seq ?_
 refine C_region ?_
 refine L_alloc tb rfl rfl fun g5 => ?_
 refine L_then ?_
 refine C_seq ?_
 refine C_seq ?_
 refine C_region ?_
 refine L_lo rfl rfl rfl (lo_call tb rfl rfl (ct_exposure_lines g1) no_ps LnP_sinks) ?_
 rintro _ _ ⟨A11, A19, A24, A35, A37, c11, c19, c24, c35, c37, rfl, rfl⟩
 refine Jq (q_len tb rfl rfl gvo) ?_
 refine Jq (q_move rfl) ?_
 refine L_then ?_
 refine C_block ?_
 refine C_nil 5 1 ?_
 refine C_loop (ι := Nat × Value × Value) (fun q => ([(1, .pointer (some ⟨g1, 0, none⟩)), (5, .pointer (some ⟨g5, 0, none⟩)), (15, .slice A37 4 c37), (16, .int .i64 4), (17, .int .i64 (q.1 : Int))], [box g5 138 [q.2.1, q.2.2], sl q.2.2 5 1 ((hdK r q.1).map cU), box g1 65 (cRu t r), rd t 2 (r.tb.map cOw), sl (.slice A37 4 c37) 173 2 [[.string (bs tOxy), (.slice A11 2 c11)], [.string (bs tLim), (.slice A19 2 c19)], [.string (bs tBre), (.slice A24 1 c24)], [.string (bs tEme), (.slice A35 3 c35)]], sl (.slice A11 2 c11) 225 1 ([1, 2].map (cP g1)), sl (.slice A19 2 c19) 225 1 ([3, 4].map (cP g1)), sl (.slice A24 1 c24) 225 1 ([5].map (cP g1)), sl (.slice A35 3 c35) 225 1 ([6, 7, 8].map (cP g1))])) (fun q => q.1 ≤ 4 ∧ (q.2.1 = .pointer none ∨ q.2.1 = .pointer (some ⟨g5, 0, none⟩))) (fun q => 4 - q.1) (0, .pointer none, .slice none 0 0) ⟨Nat.zero_le _, .inl rfl⟩ (fun a w hs => hs.weak ⟨rfl, rfl, rfl, rfl, rfl, trivial⟩ (fun h => h.pk (by repeat (first | with_reducible exact pk_nil | refine pk_box rfl ?_ | refine pk_rd rfl ?_ | refine pk_sl rfl ?_ | with_reducible refine pk_app ?_ | with_reducible refine pk_app0 ?_ | with_reducible refine pk_app0L ?_ | with_reducible exact pk_tl | refine pk_var ?_)))) ?_
 rintro ⟨k, p9, v9⟩ ⟨hk, hp⟩
 dsimp only at hk hp ⊢
 refine C_seq ?_
 refine C_region ?_
 refine Jq (q_lss rfl rfl) ?_
 refine L_then ?_
 refine C_seq ?_
 refine C_dec rfl (fun h2 => ?_) (fun h2 => ?_)
 obtain rfl | rfl | rfl | rfl : k = 0 ∨ k = 1 ∨ k = 2 ∨ k = 3 := by omega
 refine C_skip_then ?_
 refine C_seq ?_
 refine C_block ?_
 refine C_seq ?_
 refine C_region ?_
 refine Jq (by first | exact q_index tb rfl rfl rfl rfl gvo (by omega) (by first | omega | (simp; done) | (simp; omega)) | exact q_indexP tb rfl rfl rfl rfl (by omega) (by omega)) ?_
 refine Jq (q_loadEA tb rfl rfl gvo (i := 0) (o := 0) (by omega) rfl rfl rfl) ?_
 refine L_alloc tb rfl rfl fun g7 => ?_
 refine L_st tb rfl rfl ?_
 refine L_then ?_
 refine C_res (rs' := [box g7 173 [.string (bs tOxy), .slice A11 2 c11], box g5 138 [p9, v9], sl v9 5 1 ((hdK r 0).map cU), box g1 65 (cRu t r), rd t 2 (r.tb.map cOw), sl (.slice A37 4 c37) 173 2 [[.string (bs tOxy), (.slice A11 2 c11)], [.string (bs tLim), (.slice A19 2 c19)], [.string (bs tBre), (.slice A24 1 c24)], [.string (bs tEme), (.slice A35 3 c35)]], sl (.slice A11 2 c11) 225 1 ([1, 2].map (cP g1)), sl (.slice A19 2 c19) 225 1 ([3, 4].map (cP g1)), sl (.slice A24 1 c24) 225 1 ([5].map (cP g1)), sl (.slice A35 3 c35) 225 1 ([6, 7, 8].map (cP g1))]) (fun _ h => h.pk (by repeat (first | with_reducible exact pk_nil | refine pk_box rfl ?_ | refine pk_rd rfl ?_ | refine pk_sl rfl ?_ | with_reducible refine pk_app ?_ | with_reducible refine pk_app0 ?_ | with_reducible refine pk_app0L ?_ | with_reducible exact pk_tl | refine pk_var ?_))) ?_
 refine C_region ?_
 refine Jq (q_loadA tb rfl rfl bxo rfl rfl) ?_
 refine L_lo rfl rfl rfl (lo_callQ tb stQ hQ rfl rfl (ct_exposure_line_String g1 9 A11 2 c11 (cRu t r) tOxy [1, 2] [r.lo, r.hi] rfl (hx_U t r 0 (by decide)) (hdN9_ok H 0) (hdN9_len r 0) (by decide)) (ps_cons gvo (ps_cons (gbx bxo rfl) no_ps)) isV_sinks) ?_
 rintro _ _ ⟨rfl, rfl⟩
 refine L_res (rs' := [box g5 138 [p9, v9], sl v9 5 1 ((hdK r 0).map cU), box g1 65 (cRu t r), rd t 2 (r.tb.map cOw), sl (.slice A37 4 c37) 173 2 [[.string (bs tOxy), (.slice A11 2 c11)], [.string (bs tLim), (.slice A19 2 c19)], [.string (bs tBre), (.slice A24 1 c24)], [.string (bs tEme), (.slice A35 3 c35)]], sl (.slice A11 2 c11) 225 1 ([1, 2].map (cP g1)), sl (.slice A19 2 c19) 225 1 ([3, 4].map (cP g1)), sl (.slice A24 1 c24) 225 1 ([5].map (cP g1)), sl (.slice A35 3 c35) 225 1 ([6, 7, 8].map (cP g1))]) (fun _ h_ => h_.pk (by repeat (first | with_reducible exact pk_nil | refine pk_box rfl ?_ | refine pk_rd rfl ?_ | refine pk_sl rfl ?_ | with_reducible refine pk_app ?_ | with_reducible refine pk_app0 ?_ | with_reducible refine pk_app0L ?_ | with_reducible exact pk_tl | refine pk_var ?_))) ?_
 refine L_callI tb (post := fun _ rs9 => ∃ A n c, rs9 = box g5 138 [.pointer (some ⟨g5, 0, none⟩), .slice A n c] :: sl (.slice A n c) 5 1 ((hdK r 0 ++ lnU tOxy [r.lo, r.hi]).map cU) :: [box g1 65 (cRu t r), rd t 2 (r.tb.map cOw), sl (.slice A37 4 c37) 173 2 [[.string (bs tOxy), (.slice A11 2 c11)], [.string (bs tLim), (.slice A19 2 c19)], [.string (bs tBre), (.slice A24 1 c24)], [.string (bs tEme), (.slice A35 3 c35)]], sl (.slice A11 2 c11) 225 1 ([1, 2].map (cP g1)), sl (.slice A19 2 c19) 225 1 ([3, 4].map (cP g1)), sl (.slice A24 1 c24) 225 1 ([5].map (cP g1)), sl (.slice A35 3 c35) 225 1 ([6, 7, 8].map (cP g1))]) rfl rfl rfl (ct_WriteString _ _ _ g5 p9 v9 (hdK r 0) hp (lnU tOxy [r.lo, r.hi]) (by have q1 := hdK_len H 0; have q2 : (lnU tOxy [r.lo, r.hi]).length ≤ 76 := lnU_len (hdN9_ok H 0) (hdN9_len r 0) (by decide); omega)) (fun y9 rs9 hy9 => ?_)
 obtain ⟨A23, n23, c23, rfl⟩ := hy9
 refine L_blk ?_
 refine C_region ?_
 refine Jq (q_add rfl rfl (by first | exact IntWalk.i64_in _ (by omega) | rfl)) ?_
 refine Jq (q_move rfl) ?_
 refine L_end ?_
 exact fun ac_ wo_ hs_ => ⟨(1, .pointer (some ⟨g5, 0, none⟩), .slice A23 n23 c23), ⟨by dsimp only; omega, .inr rfl⟩, (by dsimp only; omega), hs_.weak ⟨rfl, rfl, rfl, rfl, rfl, trivial⟩ (fun h_ => h_.pk (by repeat (first | with_reducible exact pk_nil | refine pk_box rfl ?_ | refine pk_rd rfl ?_ | refine pk_sl rfl ?_ | with_reducible refine pk_app ?_ | with_reducible refine pk_app0 ?_ | with_reducible refine pk_app0L ?_ | with_reducible exact pk_tl | refine pk_var ?_)))⟩
 refine C_skip_then ?_
 refine C_seq ?_
 refine C_block ?_
 refine C_seq ?_
 refine C_region ?_
 refine Jq (by first | exact q_index tb rfl rfl rfl rfl gvo (by omega) (by first | omega | (simp; done) | (simp; omega)) | exact q_indexP tb rfl rfl rfl rfl (by omega) (by omega)) ?_
 refine Jq (q_loadEA tb rfl rfl gvo (i := 1) (o := 0) (by omega) rfl rfl rfl) ?_
 refine L_alloc tb rfl rfl fun g7 => ?_
 refine L_st tb rfl rfl ?_
 refine L_then ?_
 refine C_res (rs' := [box g7 173 [.string (bs tLim), .slice A19 2 c19], box g5 138 [p9, v9], sl v9 5 1 ((hdK r 1).map cU), box g1 65 (cRu t r), rd t 2 (r.tb.map cOw), sl (.slice A37 4 c37) 173 2 [[.string (bs tOxy), (.slice A11 2 c11)], [.string (bs tLim), (.slice A19 2 c19)], [.string (bs tBre), (.slice A24 1 c24)], [.string (bs tEme), (.slice A35 3 c35)]], sl (.slice A11 2 c11) 225 1 ([1, 2].map (cP g1)), sl (.slice A19 2 c19) 225 1 ([3, 4].map (cP g1)), sl (.slice A24 1 c24) 225 1 ([5].map (cP g1)), sl (.slice A35 3 c35) 225 1 ([6, 7, 8].map (cP g1))]) (fun _ h => h.pk (by repeat (first | with_reducible exact pk_nil | refine pk_box rfl ?_ | refine pk_rd rfl ?_ | refine pk_sl rfl ?_ | with_reducible refine pk_app ?_ | with_reducible refine pk_app0 ?_ | with_reducible refine pk_app0L ?_ | with_reducible exact pk_tl | refine pk_var ?_))) ?_
 refine C_region ?_
 refine Jq (q_loadA tb rfl rfl bxo rfl rfl) ?_
 refine L_lo rfl rfl rfl (lo_callQ tb stQ hQ rfl rfl (ct_exposure_line_String g1 9 A19 2 c19 (cRu t r) tLim [3, 4] [r.na, r.de] rfl (hx_U t r 1 (by decide)) (hdN9_ok H 1) (hdN9_len r 1) (by decide)) (ps_cons gvo (ps_cons (gbx bxo rfl) no_ps)) isV_sinks) ?_
 rintro _ _ ⟨rfl, rfl⟩
 refine L_res (rs' := [box g5 138 [p9, v9], sl v9 5 1 ((hdK r 1).map cU), box g1 65 (cRu t r), rd t 2 (r.tb.map cOw), sl (.slice A37 4 c37) 173 2 [[.string (bs tOxy), (.slice A11 2 c11)], [.string (bs tLim), (.slice A19 2 c19)], [.string (bs tBre), (.slice A24 1 c24)], [.string (bs tEme), (.slice A35 3 c35)]], sl (.slice A11 2 c11) 225 1 ([1, 2].map (cP g1)), sl (.slice A19 2 c19) 225 1 ([3, 4].map (cP g1)), sl (.slice A24 1 c24) 225 1 ([5].map (cP g1)), sl (.slice A35 3 c35) 225 1 ([6, 7, 8].map (cP g1))]) (fun _ h_ => h_.pk (by repeat (first | with_reducible exact pk_nil | refine pk_box rfl ?_ | refine pk_rd rfl ?_ | refine pk_sl rfl ?_ | with_reducible refine pk_app ?_ | with_reducible refine pk_app0 ?_ | with_reducible refine pk_app0L ?_ | with_reducible exact pk_tl | refine pk_var ?_))) ?_
 refine L_callI tb (post := fun _ rs9 => ∃ A n c, rs9 = box g5 138 [.pointer (some ⟨g5, 0, none⟩), .slice A n c] :: sl (.slice A n c) 5 1 ((hdK r 1 ++ lnU tLim [r.na, r.de]).map cU) :: [box g1 65 (cRu t r), rd t 2 (r.tb.map cOw), sl (.slice A37 4 c37) 173 2 [[.string (bs tOxy), (.slice A11 2 c11)], [.string (bs tLim), (.slice A19 2 c19)], [.string (bs tBre), (.slice A24 1 c24)], [.string (bs tEme), (.slice A35 3 c35)]], sl (.slice A11 2 c11) 225 1 ([1, 2].map (cP g1)), sl (.slice A19 2 c19) 225 1 ([3, 4].map (cP g1)), sl (.slice A24 1 c24) 225 1 ([5].map (cP g1)), sl (.slice A35 3 c35) 225 1 ([6, 7, 8].map (cP g1))]) rfl rfl rfl (ct_WriteString _ _ _ g5 p9 v9 (hdK r 1) hp (lnU tLim [r.na, r.de]) (by have q1 := hdK_len H 1; have q2 : (lnU tLim [r.na, r.de]).length ≤ 76 := lnU_len (hdN9_ok H 1) (hdN9_len r 1) (by decide); omega)) (fun y9 rs9 hy9 => ?_)
 obtain ⟨A23, n23, c23, rfl⟩ := hy9
 refine L_blk ?_
 refine C_region ?_
 refine Jq (q_add rfl rfl (by first | exact IntWalk.i64_in _ (by omega) | rfl)) ?_
 refine Jq (q_move rfl) ?_
 refine L_end ?_
 exact fun ac_ wo_ hs_ => ⟨(2, .pointer (some ⟨g5, 0, none⟩), .slice A23 n23 c23), ⟨by dsimp only; omega, .inr rfl⟩, (by dsimp only; omega), hs_.weak ⟨rfl, rfl, rfl, rfl, rfl, trivial⟩ (fun h_ => h_.pk (by repeat (first | with_reducible exact pk_nil | refine pk_box rfl ?_ | refine pk_rd rfl ?_ | refine pk_sl rfl ?_ | with_reducible refine pk_app ?_ | with_reducible refine pk_app0 ?_ | with_reducible refine pk_app0L ?_ | with_reducible exact pk_tl | refine pk_var ?_)))⟩
 refine C_skip_then ?_
 refine C_seq ?_
 refine C_block ?_
 refine C_seq ?_
 refine C_region ?_
 refine Jq (by first | exact q_index tb rfl rfl rfl rfl gvo (by omega) (by first | omega | (simp; done) | (simp; omega)) | exact q_indexP tb rfl rfl rfl rfl (by omega) (by omega)) ?_
 refine Jq (q_loadEA tb rfl rfl gvo (i := 2) (o := 0) (by omega) rfl rfl rfl) ?_
 refine L_alloc tb rfl rfl fun g7 => ?_
 refine L_st tb rfl rfl ?_
 refine L_then ?_
 refine C_res (rs' := [box g7 173 [.string (bs tBre), .slice A24 1 c24], box g5 138 [p9, v9], sl v9 5 1 ((hdK r 2).map cU), box g1 65 (cRu t r), rd t 2 (r.tb.map cOw), sl (.slice A37 4 c37) 173 2 [[.string (bs tOxy), (.slice A11 2 c11)], [.string (bs tLim), (.slice A19 2 c19)], [.string (bs tBre), (.slice A24 1 c24)], [.string (bs tEme), (.slice A35 3 c35)]], sl (.slice A11 2 c11) 225 1 ([1, 2].map (cP g1)), sl (.slice A19 2 c19) 225 1 ([3, 4].map (cP g1)), sl (.slice A24 1 c24) 225 1 ([5].map (cP g1)), sl (.slice A35 3 c35) 225 1 ([6, 7, 8].map (cP g1))]) (fun _ h => h.pk (by repeat (first | with_reducible exact pk_nil | refine pk_box rfl ?_ | refine pk_rd rfl ?_ | refine pk_sl rfl ?_ | with_reducible refine pk_app ?_ | with_reducible refine pk_app0 ?_ | with_reducible refine pk_app0L ?_ | with_reducible exact pk_tl | refine pk_var ?_))) ?_
 refine C_region ?_
 refine Jq (q_loadA tb rfl rfl bxo rfl rfl) ?_
 refine L_lo rfl rfl rfl (lo_callQ tb stQ hQ rfl rfl (ct_exposure_line_String g1 9 A24 1 c24 (cRu t r) tBre [5] [r.br] rfl (hx_U t r 2 (by decide)) (hdN9_ok H 2) (hdN9_len r 2) (by decide)) (ps_cons gvo (ps_cons (gbx bxo rfl) no_ps)) isV_sinks) ?_
 rintro _ _ ⟨rfl, rfl⟩
 refine L_res (rs' := [box g5 138 [p9, v9], sl v9 5 1 ((hdK r 2).map cU), box g1 65 (cRu t r), rd t 2 (r.tb.map cOw), sl (.slice A37 4 c37) 173 2 [[.string (bs tOxy), (.slice A11 2 c11)], [.string (bs tLim), (.slice A19 2 c19)], [.string (bs tBre), (.slice A24 1 c24)], [.string (bs tEme), (.slice A35 3 c35)]], sl (.slice A11 2 c11) 225 1 ([1, 2].map (cP g1)), sl (.slice A19 2 c19) 225 1 ([3, 4].map (cP g1)), sl (.slice A24 1 c24) 225 1 ([5].map (cP g1)), sl (.slice A35 3 c35) 225 1 ([6, 7, 8].map (cP g1))]) (fun _ h_ => h_.pk (by repeat (first | with_reducible exact pk_nil | refine pk_box rfl ?_ | refine pk_rd rfl ?_ | refine pk_sl rfl ?_ | with_reducible refine pk_app ?_ | with_reducible refine pk_app0 ?_ | with_reducible refine pk_app0L ?_ | with_reducible exact pk_tl | refine pk_var ?_))) ?_
 refine L_callI tb (post := fun _ rs9 => ∃ A n c, rs9 = box g5 138 [.pointer (some ⟨g5, 0, none⟩), .slice A n c] :: sl (.slice A n c) 5 1 ((hdK r 2 ++ lnU tBre [r.br]).map cU) :: [box g1 65 (cRu t r), rd t 2 (r.tb.map cOw), sl (.slice A37 4 c37) 173 2 [[.string (bs tOxy), (.slice A11 2 c11)], [.string (bs tLim), (.slice A19 2 c19)], [.string (bs tBre), (.slice A24 1 c24)], [.string (bs tEme), (.slice A35 3 c35)]], sl (.slice A11 2 c11) 225 1 ([1, 2].map (cP g1)), sl (.slice A19 2 c19) 225 1 ([3, 4].map (cP g1)), sl (.slice A24 1 c24) 225 1 ([5].map (cP g1)), sl (.slice A35 3 c35) 225 1 ([6, 7, 8].map (cP g1))]) rfl rfl rfl (ct_WriteString _ _ _ g5 p9 v9 (hdK r 2) hp (lnU tBre [r.br]) (by have q1 := hdK_len H 2; have q2 : (lnU tBre [r.br]).length ≤ 76 := lnU_len (hdN9_ok H 2) (hdN9_len r 2) (by decide); omega)) (fun y9 rs9 hy9 => ?_)
 obtain ⟨A23, n23, c23, rfl⟩ := hy9
 refine L_blk ?_
 refine C_region ?_
 refine Jq (q_add rfl rfl (by first | exact IntWalk.i64_in _ (by omega) | rfl)) ?_
 refine Jq (q_move rfl) ?_
 refine L_end ?_
 exact fun ac_ wo_ hs_ => ⟨(3, .pointer (some ⟨g5, 0, none⟩), .slice A23 n23 c23), ⟨by dsimp only; omega, .inr rfl⟩, (by dsimp only; omega), hs_.weak ⟨rfl, rfl, rfl, rfl, rfl, trivial⟩ (fun h_ => h_.pk (by repeat (first | with_reducible exact pk_nil | refine pk_box rfl ?_ | refine pk_rd rfl ?_ | refine pk_sl rfl ?_ | with_reducible refine pk_app ?_ | with_reducible refine pk_app0 ?_ | with_reducible refine pk_app0L ?_ | with_reducible exact pk_tl | refine pk_var ?_)))⟩
 refine C_skip_then ?_
 refine C_seq ?_
 refine C_block ?_
 refine C_seq ?_
 refine C_region ?_
 refine Jq (by first | exact q_index tb rfl rfl rfl rfl gvo (by omega) (by first | omega | (simp; done) | (simp; omega)) | exact q_indexP tb rfl rfl rfl rfl (by omega) (by omega)) ?_
 refine Jq (q_loadEA tb rfl rfl gvo (i := 3) (o := 0) (by omega) rfl rfl rfl) ?_
 refine L_alloc tb rfl rfl fun g7 => ?_
 refine L_st tb rfl rfl ?_
 refine L_then ?_
 refine C_res (rs' := [box g7 173 [.string (bs tEme), .slice A35 3 c35], box g5 138 [p9, v9], sl v9 5 1 ((hdK r 3).map cU), box g1 65 (cRu t r), rd t 2 (r.tb.map cOw), sl (.slice A37 4 c37) 173 2 [[.string (bs tOxy), (.slice A11 2 c11)], [.string (bs tLim), (.slice A19 2 c19)], [.string (bs tBre), (.slice A24 1 c24)], [.string (bs tEme), (.slice A35 3 c35)]], sl (.slice A11 2 c11) 225 1 ([1, 2].map (cP g1)), sl (.slice A19 2 c19) 225 1 ([3, 4].map (cP g1)), sl (.slice A24 1 c24) 225 1 ([5].map (cP g1)), sl (.slice A35 3 c35) 225 1 ([6, 7, 8].map (cP g1))]) (fun _ h => h.pk (by repeat (first | with_reducible exact pk_nil | refine pk_box rfl ?_ | refine pk_rd rfl ?_ | refine pk_sl rfl ?_ | with_reducible refine pk_app ?_ | with_reducible refine pk_app0 ?_ | with_reducible refine pk_app0L ?_ | with_reducible exact pk_tl | refine pk_var ?_))) ?_
 refine C_region ?_
 refine Jq (q_loadA tb rfl rfl bxo rfl rfl) ?_
 refine L_lo rfl rfl rfl (lo_callQ tb stQ hQ rfl rfl (ct_exposure_line_String g1 9 A35 3 c35 (cRu t r) tEme [6, 7, 8] [r.em, r.pa, r.ac] rfl (hx_U t r 3 (by decide)) (hdN9_ok H 3) (hdN9_len r 3) (by decide)) (ps_cons gvo (ps_cons (gbx bxo rfl) no_ps)) isV_sinks) ?_
 rintro _ _ ⟨rfl, rfl⟩
 refine L_res (rs' := [box g5 138 [p9, v9], sl v9 5 1 ((hdK r 3).map cU), box g1 65 (cRu t r), rd t 2 (r.tb.map cOw), sl (.slice A37 4 c37) 173 2 [[.string (bs tOxy), (.slice A11 2 c11)], [.string (bs tLim), (.slice A19 2 c19)], [.string (bs tBre), (.slice A24 1 c24)], [.string (bs tEme), (.slice A35 3 c35)]], sl (.slice A11 2 c11) 225 1 ([1, 2].map (cP g1)), sl (.slice A19 2 c19) 225 1 ([3, 4].map (cP g1)), sl (.slice A24 1 c24) 225 1 ([5].map (cP g1)), sl (.slice A35 3 c35) 225 1 ([6, 7, 8].map (cP g1))]) (fun _ h_ => h_.pk (by repeat (first | with_reducible exact pk_nil | refine pk_box rfl ?_ | refine pk_rd rfl ?_ | refine pk_sl rfl ?_ | with_reducible refine pk_app ?_ | with_reducible refine pk_app0 ?_ | with_reducible refine pk_app0L ?_ | with_reducible exact pk_tl | refine pk_var ?_))) ?_
 refine L_callI tb (post := fun _ rs9 => ∃ A n c, rs9 = box g5 138 [.pointer (some ⟨g5, 0, none⟩), .slice A n c] :: sl (.slice A n c) 5 1 ((hdK r 3 ++ lnU tEme [r.em, r.pa, r.ac]).map cU) :: [box g1 65 (cRu t r), rd t 2 (r.tb.map cOw), sl (.slice A37 4 c37) 173 2 [[.string (bs tOxy), (.slice A11 2 c11)], [.string (bs tLim), (.slice A19 2 c19)], [.string (bs tBre), (.slice A24 1 c24)], [.string (bs tEme), (.slice A35 3 c35)]], sl (.slice A11 2 c11) 225 1 ([1, 2].map (cP g1)), sl (.slice A19 2 c19) 225 1 ([3, 4].map (cP g1)), sl (.slice A24 1 c24) 225 1 ([5].map (cP g1)), sl (.slice A35 3 c35) 225 1 ([6, 7, 8].map (cP g1))]) rfl rfl rfl (ct_WriteString _ _ _ g5 p9 v9 (hdK r 3) hp (lnU tEme [r.em, r.pa, r.ac]) (by have q1 := hdK_len H 3; have q2 : (lnU tEme [r.em, r.pa, r.ac]).length ≤ 76 := lnU_len (hdN9_ok H 3) (hdN9_len r 3) (by decide); omega)) (fun y9 rs9 hy9 => ?_)
 obtain ⟨A23, n23, c23, rfl⟩ := hy9
 refine L_blk ?_
 refine C_region ?_
 refine Jq (q_add rfl rfl (by first | exact IntWalk.i64_in _ (by omega) | rfl)) ?_
 refine Jq (q_move rfl) ?_
 refine L_end ?_
 exact fun ac_ wo_ hs_ => ⟨(4, .pointer (some ⟨g5, 0, none⟩), .slice A23 n23 c23), ⟨by dsimp only; omega, .inr rfl⟩, (by dsimp only; omega), hs_.weak ⟨rfl, rfl, rfl, rfl, rfl, trivial⟩ (fun h_ => h_.pk (by repeat (first | with_reducible exact pk_nil | refine pk_box rfl ?_ | refine pk_rd rfl ?_ | refine pk_sl rfl ?_ | with_reducible refine pk_app ?_ | with_reducible refine pk_app0 ?_ | with_reducible refine pk_app0L ?_ | with_reducible exact pk_tl | refine pk_var ?_)))⟩
 obtain rfl : k = 4 := by omega
 refine C_exit ?_
 change C Tryz.prog _ _ _ _ _ _ _
 refine C_seq ?_
 refine C_seq ?_
 refine C_region ?_
 refine Jq (q_field tb rfl rfl rfl) ?_
 refine Jq (q_load tb rfl rfl bxo rfl) ?_
 refine Jq (q_len tb rfl rfl gvo) ?_
 refine Jq (q_move rfl) ?_
 refine L_then ?_
 refine C_block ?_
 refine C_res (rs' := [box g5 138 [p9, v9], sl v9 5 1 ((hdK r 4 ++ rwK r.tb 0).map cU), box g1 65 (cRu t r), rd t 2 (r.tb.map cOw)]) (fun _ h_ => h_.pk (by repeat (first | with_reducible exact pk_nil | refine pk_box (by first | rfl | exact (congrArg (List.map cU) (List.append_nil (hdK r 4)).symm)) ?_ | refine pk_rd rfl ?_ | refine pk_sl (by first | rfl | exact (congrArg (List.map cU) (List.append_nil (hdK r 4)).symm)) ?_ | with_reducible refine pk_app ?_ | with_reducible refine pk_app0 ?_ | with_reducible refine pk_app0L ?_ | with_reducible exact pk_tl | refine pk_var ?_))) ?_
 refine C_loop (ι := Nat × Value × Value) (fun q => ([(1, .pointer (some ⟨g1, 0, none⟩)), (5, .pointer (some ⟨g5, 0, none⟩)), (26, t), (27, .int .i64 (r.tb.map cOw).length), (28, .int .i64 (q.1 : Int))], [box g5 138 [q.2.1, q.2.2], sl q.2.2 5 1 ((hdK r 4 ++ rwK r.tb q.1).map cU), box g1 65 (cRu t r), rd t 2 (r.tb.map cOw)])) (fun q => q.1 ≤ r.tb.length ∧ (q.2.1 = .pointer none ∨ q.2.1 = .pointer (some ⟨g5, 0, none⟩))) (fun q => r.tb.length - q.1) (0, p9, v9) ⟨Nat.zero_le _, hp⟩ (fun a w hs => hs.weak ⟨rfl, rfl, rfl, rfl, rfl, trivial⟩ (fun h => h.pk (by repeat (first | with_reducible exact pk_nil | refine pk_box rfl ?_ | refine pk_rd rfl ?_ | refine pk_sl rfl ?_ | with_reducible refine pk_app ?_ | with_reducible refine pk_app0 ?_ | with_reducible refine pk_app0L ?_ | with_reducible exact pk_tl | refine pk_var ?_)))) ?_
 rintro ⟨k, p9, v9⟩ ⟨hk, hp⟩
 dsimp only at hk hp ⊢
 refine C_seq ?_
 refine C_region ?_
 refine Jq (q_lss rfl rfl) ?_
 refine L_then ?_
 refine C_seq ?_
 refine C_dec rfl (fun h3 => ?_) (fun h3 => ?_)
 obtain ⟨y, hy9⟩ := get_some r.tb (k := k) (by omega); have hel := map_get cOw hy9; have ho9 := owAt_get hy9
 have hok9 : okN [y.f, y.r] := by rw [← ho9]; exact owN_ok H (show k < r.tb.length by omega)
 have he9 : hdK r 4 ++ rwK r.tb k ++ lnU tRow [y.f, y.r] = hdK r 4 ++ rwK r.tb (k + 1) := by rw [rwK, ho9, List.append_assoc]; rfl
 have l9 := rwK_len H k (by omega)
 have hle9 : [y.f, y.r].length ≤ 3 := Nat.le_succ 2
 have l8 := lnU_len (w := tRow) hok9 hle9 (by decide)
 refine C_skip_then ?_
 refine C_seq ?_
 refine C_block ?_
 refine C_seq ?_
 refine C_region ?_
 refine Jq (by first | exact q_index tb rfl rfl rfl rfl gvo (by omega) (by first | omega | (simp; done) | (simp; omega)) | exact q_indexP tb rfl rfl rfl rfl (by omega) (by omega)) ?_
 refine Jq (q_loadEA tb rfl rfl gvo (i := k) (o := 0) (by omega) hel rfl rfl) ?_
 refine L_alloc tb rfl rfl fun g9 => ?_
 refine L_st tb rfl rfl ?_
 refine L_then ?_
 refine C_res (rs' := [box g9 175 (cOw y), box g5 138 [p9, v9], sl v9 5 1 ((hdK r 4 ++ rwK r.tb k).map cU), box g1 65 (cRu t r), rd t 2 (r.tb.map cOw)]) (fun _ h => h.pk (by repeat (first | with_reducible exact pk_nil | refine pk_box rfl ?_ | refine pk_rd rfl ?_ | refine pk_sl rfl ?_ | with_reducible refine pk_app ?_ | with_reducible refine pk_app0 ?_ | with_reducible refine pk_app0L ?_ | with_reducible exact pk_tl | refine pk_var ?_))) ?_
 refine C_region ?_
 refine L_lo rfl rfl rfl (lo_call tb rfl rfl (ct_exposure_row g9) no_ps RwP_sinks) ?_
 rintro _ _ ⟨A32, c32, rfl, rfl⟩
 refine L_lo rfl rfl rfl (lo_callQ tb stQ hQ rfl rfl (ct_exposure_line_String g9 2 A32 2 c32 (cOw y) tRow [0, 1] [y.f, y.r] rfl (hx_O y) hok9 hle9 (by decide)) (ps_cons gvo (ps_cons (gbx bxo rfl) no_ps)) isV_sinks) ?_
 rintro _ _ ⟨rfl, rfl⟩
 refine L_res (rs' := [box g5 138 [p9, v9], sl v9 5 1 ((hdK r 4 ++ rwK r.tb k).map cU), box g1 65 (cRu t r), rd t 2 (r.tb.map cOw)]) (fun _ h_ => h_.pk (by repeat (first | with_reducible exact pk_nil | refine pk_box rfl ?_ | refine pk_rd rfl ?_ | refine pk_sl rfl ?_ | with_reducible refine pk_app ?_ | with_reducible refine pk_app0 ?_ | with_reducible refine pk_app0L ?_ | with_reducible exact pk_tl | refine pk_var ?_))) ?_
 refine L_callI tb (post := fun _ rs9 => ∃ A n c, rs9 = box g5 138 [.pointer (some ⟨g5, 0, none⟩), .slice A n c] :: sl (.slice A n c) 5 1 (((hdK r 4 ++ rwK r.tb k) ++ lnU tRow [y.f, y.r]).map cU) :: [box g1 65 (cRu t r), rd t 2 (r.tb.map cOw)]) rfl rfl rfl (ct_WriteString _ _ _ g5 p9 v9 (hdK r 4 ++ rwK r.tb k) hp (lnU tRow [y.f, y.r]) (by rw [List.length_append]; omega)) (fun y9 rs9 hy9 => ?_)
 obtain ⟨A34, n34, c34, rfl⟩ := hy9
 refine L_blk ?_
 refine C_region ?_
 refine Jq (q_add rfl rfl (by first | exact IntWalk.i64_in _ (by omega) | rfl)) ?_
 refine Jq (q_move rfl) ?_
 refine L_end ?_
 rw [he9]
 exact fun ac_ wo_ hs_ => ⟨(k + 1, .pointer (some ⟨g5, 0, none⟩), .slice A34 n34 c34), ⟨by dsimp only; omega, .inr rfl⟩, (by dsimp only; omega), hs_.weak ⟨rfl, rfl, rfl, rfl, rfl, trivial⟩ (fun h_ => h_.pk (by repeat (first | with_reducible exact pk_nil | refine pk_box rfl ?_ | refine pk_rd rfl ?_ | refine pk_sl rfl ?_ | with_reducible refine pk_app ?_ | with_reducible refine pk_app0 ?_ | with_reducible refine pk_app0L ?_ | with_reducible exact pk_tl | refine pk_var ?_)))⟩
 obtain rfl : k = r.tb.length := by omega
 refine C_exit ?_
 change C Tryz.prog _ _ _ _ _ _ _
 refine C_seq ?_
 refine C_region ?_
 refine L_res (rs' := [box g5 138 [p9, v9], sl v9 5 1 ((hdK r 4 ++ rwK r.tb r.tb.length).map cU)]) (fun _ h_ => h_.pk (by repeat (first | with_reducible exact pk_nil | refine pk_box rfl ?_ | refine pk_rd rfl ?_ | refine pk_sl rfl ?_ | with_reducible refine pk_app ?_ | with_reducible refine pk_app0 ?_ | with_reducible refine pk_app0L ?_ | with_reducible exact pk_tl | refine pk_var ?_))) ?_
 refine L_bsU tb rfl rfl rfl hp (fun w_ h1_ h2_ => Tryz.Builder_String_any _ g5 (hdK r 4 ++ rwK r.tb r.tb.length) w_ h1_ h2_) ?_
 refine Jq (q_assign rfl) ?_
 refine Jq (q_assign rfl) ?_
 refine L_then ?_
 refine C_ret ?_
 rw [prUE_2 hz, hz]
 exact ret_of (res2 rfl rfl rfl) sub_nil (by intro r hr; cases hr) ⟨rfl, rfl⟩
end Go.Proofs.YtacndicgpkeobaaGreatDoor
