/-
  Walks: each function named returns what its model says. Conditions: those in front of each theorem.
-/
import Derived.Test.YtdmnejfpbbmcaaaPD
import Derived.Test.YtdmnejfpbbmcaaaEqT
namespace Go.Proofs.Ytdmnejfpbbmcaaa
open Go.RowKit

set_option maxRecDepth 100000 in
theorem ct_CheckPlan_any (nm : ByteArray) (sf : Int) (v u : Value) (gs : List Gs) (ls : List Dl) : Ct Try.prog 6 [.agg (cPl nm sf v u).toArray] [(v, 2, gs.map cGs), (u, 3, ls.map cDl)] (isV (.tuple #[.int .i64 (ckPl nm sf gs ls).1, .int .i64 (ckPl nm sf gs ls).2])) := by
 refine Ct.of (N := 84) Try.func6 rfl rfl rfl fun w => ?_
 refine C_weak (E' := [(0, .agg (cPl nm sf v u).toArray)]) (rs' := [rd v 2 (gs.map cGs), rd u 3 (ls.map cDl)]) ⟨rfl, trivial⟩ (fun _ h => h) ?_
 have hl1 := len_map cGs gs
 have hl2 := len_map cDl ls
 refine C_seq ?_
 refine C_region ?_
 refine L_box rfl rfl rfl fun g1 => ?_
 refine Jq (q_assign rfl) ?_
 refine Jq (q_assign rfl) ?_
 refine L_then ?_
 refine C_seq ?_
 refine C_seq ?_
 refine C_region ?_
 refine Jq (q_field tb rfl rfl rfl) ?_
 refine Jq (q_load tb rfl rfl bxo rfl) ?_
 refine L_call tb rfl rfl (ct_shotlinebase_IsName _) no_ps rfl ?_
 refine Jq (q_not rfl decide_not.symm) ?_
 refine L_then ?_
 refine C_dec rfl (fun hn => ?_) (fun hn => ?_)
 refine C_seq ?_
 refine C_region ?_
 refine Jq (q_assign rfl) ?_
 refine Jq (q_assign rfl) ?_
 refine L_then ?_
 refine C_ret ?_
 rw [ckPl_1 hn]
 exact ret_of (res2 rfl rfl rfl) sub_nil (by intro r hr; cases hr) ⟨rfl, rfl⟩
 refine C_skip_then ?_
 refine C_seq ?_
 refine C_seq ?_
 refine C_region ?_
 refine Jq (q_field tb rfl rfl rfl) ?_
 refine Jq (q_load tb rfl rfl bxo rfl) ?_
 refine L_call tb rfl rfl (ct_shotlinebase_Within _ _ _) no_ps rfl ?_
 refine Jq (q_not rfl decide_not.symm) ?_
 refine L_then ?_
 refine C_dec rfl (fun hs => ?_) (fun hs => ?_)
 refine C_seq ?_
 refine C_region ?_
 refine Jq (q_assign rfl) ?_
 refine Jq (q_assign rfl) ?_
 refine L_then ?_
 refine C_ret ?_
 rw [ckPl_2 (Decidable.not_not.1 hn) hs]
 exact ret_of (res2 rfl rfl rfl) sub_nil (by intro r hr; cases hr) ⟨rfl, rfl⟩
 refine C_skip_then ?_
 refine C_seq ?_
 refine C_seq ?_
 refine C_region ?_
 refine Jq (q_field tb rfl rfl rfl) ?_
 refine Jq (q_load tb rfl rfl bxo rfl) ?_
 refine Jq (q_len tb rfl rfl gvo) ?_
 refine Jq (q_eql rfl rfl) ?_
 refine L_then ?_
 refine C_dec rfl (fun h3 => ?_) (fun h3 => ?_)
 refine C_seq ?_
 refine C_region ?_
 refine Jq (q_assign rfl) ?_
 refine Jq (q_assign rfl) ?_
 refine L_then ?_
 refine C_ret ?_
 rw [ckPl_3 (Decidable.not_not.1 hn) (Decidable.not_not.1 hs) (by omega)]
 exact ret_of (res2 rfl rfl rfl) sub_nil (by intro r hr; cases hr) ⟨rfl, rfl⟩
 have hn9 := Decidable.not_not.1 hn
 have hs9 := Decidable.not_not.1 hs
 have hz : ¬ gs.length = 0 := by omega
 refine C_skip_then ?_
 refine C_seq ?_
 refine C_seq ?_
 refine C_region ?_
 refine Jq (q_field tb rfl rfl rfl) ?_
 refine Jq (q_load tb rfl rfl bxo rfl) ?_
 refine Jq (q_len tb rfl rfl gvo) ?_
 refine Jq (q_gtr rfl rfl) ?_
 refine L_then ?_
 refine C_dec rfl (fun h4 => ?_) (fun h4 => ?_)
 refine C_seq ?_
 refine C_region ?_
 refine Jq (q_assign rfl) ?_
 refine Jq (q_assign rfl) ?_
 refine L_then ?_
 refine C_ret ?_
 rw [ckPl_4 hn9 hs9 hz (by omega)]
 exact ret_of (res2 rfl rfl rfl) sub_nil (by intro r hr; cases hr) ⟨rfl, rfl⟩
 have hm : ¬ gs.length > 8 := by omega
 refine C_skip_then ?_
 refine C_seq ?_
 refine C_seq ?_
 refine C_region ?_
 refine Jq (q_assign rfl) ?_
 refine L_then ?_
 refine C_block ?_
 refine C_loop (ι := Nat) (fun k => ([(1, .pointer (some ⟨g1, 0, none⟩)), (4, .int .i64 (k : Int))], [box g1 25 (cPl nm sf v u), rd v 2 (gs.map cGs), rd u 3 (ls.map cDl)])) (fun k => k ≤ gs.length ∧ ckGs (gs.drop k) = ckGs gs) (fun k => gs.length - k) 0 ⟨Nat.zero_le _, rfl⟩ (fun a w hs => hs.weak ⟨rfl, rfl, trivial⟩ (fun h => h.pk (by repeat (first | with_reducible exact pk_nil | refine pk_box rfl ?_ | refine pk_rd rfl ?_ | refine pk_sl rfl ?_ | with_reducible refine pk_app ?_ | with_reducible refine pk_app0 ?_ | with_reducible refine pk_app0L ?_ | with_reducible exact pk_tl | refine pk_var ?_)))) ?_
 rintro k ⟨hk, hf⟩
 dsimp only at hk hf ⊢
 refine C_seq ?_
 refine C_seq ?_
 refine C_region ?_
 refine Jq (q_move rfl) ?_
 refine Jq (q_field tb rfl rfl rfl) ?_
 refine Jq (q_load tb rfl rfl bxo rfl) ?_
 refine Jq (q_len tb rfl rfl gvo) ?_
 refine Jq (q_lss rfl rfl) ?_
 refine L_then ?_
 refine C_dec rfl (fun h5 => ?_) (fun h5 => ?_)
 obtain ⟨x, hex⟩ := get_some gs (k := k) (by omega); have hel := map_get cGs hex
 refine C_skip_then ?_
 refine C_seq ?_
 refine C_block ?_
 refine C_seq ?_
 refine C_region ?_
 refine Jq (q_field tb rfl rfl rfl) ?_
 refine Jq (q_load tb rfl rfl bxo rfl) ?_
 refine Jq (q_move rfl) ?_
 refine Jq (by first | exact q_index tb rfl rfl rfl rfl gvo (by omega) (by first | omega | (simp; done) | (simp; omega)) | exact q_indexP tb rfl rfl rfl rfl (by omega) (by omega)) ?_
 refine Jq (q_loadEA tb rfl rfl gvo (i := k) (o := 0) (by omega) hel rfl rfl) ?_
 refine L_call tb rfl rfl (ct_shotlineref01_CheckGas x.o x.h) no_ps rfl ?_
 refine Jq (q_assign rfl) ?_
 refine L_then ?_
 refine C_seq ?_
 refine C_region ?_
 refine Jq (q_move rfl) ?_
 refine Jq (q_neq rfl rfl) ?_
 refine L_then ?_
 refine C_dec rfl (fun hgb => ?_) (fun hgb => ?_)
 refine C_seq ?_
 refine C_region ?_
 refine Jq (q_move rfl) ?_
 refine Jq (q_assign rfl) ?_
 refine Jq (q_assign rfl) ?_
 refine L_then ?_
 refine C_ret ?_
 have e8 : ckGs gs = ckGas x.o x.h := by rw [← hf, ckGs_step hex, if_pos hgb]
 rw [ckPl_5 hn9 hs9 hz hm (by rw [e8]; exact hgb), e8]
 exact ret_of (res2 rfl rfl rfl) sub_nil (by intro r hr; cases hr) ⟨rfl, rfl⟩
 refine C_skip_blk ?_
 refine C_region ?_
 refine Jq (q_move rfl) ?_
 refine Jq (q_add rfl rfl (by first | exact IntWalk.i64_in _ (by omega) | rfl)) ?_
 refine Jq (q_assign rfl) ?_
 refine L_end ?_
 exact fun ac_ wo_ hs_ => ⟨k + 1, ⟨by omega, by rw [← hf, ckGs_step hex, if_neg hgb]⟩, (by dsimp only; omega), hs_.weak ⟨rfl, rfl, trivial⟩ (fun h => h.pk (by repeat (first | with_reducible exact pk_nil | refine pk_box rfl ?_ | refine pk_rd rfl ?_ | refine pk_sl rfl ?_ | with_reducible refine pk_app ?_ | with_reducible refine pk_app0 ?_ | with_reducible refine pk_app0L ?_ | with_reducible exact pk_tl | refine pk_var ?_)))⟩
 have hg9 : ckGs gs = 0 := by rw [← hf, drop_all (by omega)]; rfl
 refine C_exit ?_
 change C Try.prog _ _ _ _ _ _ _
 refine C_seq ?_
 refine C_seq ?_
 refine C_region ?_
 refine Jq (q_field tb rfl rfl rfl) ?_
 refine Jq (q_load tb rfl rfl bxo rfl) ?_
 refine Jq (q_len tb rfl rfl gvo) ?_
 refine Jq (q_gtr rfl rfl) ?_
 refine L_then ?_
 refine C_dec rfl (fun h7 => ?_) (fun h7 => ?_)
 refine C_seq ?_
 refine C_region ?_
 refine Jq (q_assign rfl) ?_
 refine Jq (q_assign rfl) ?_
 refine L_then ?_
 refine C_ret ?_
 rw [ckPl_6 hn9 hs9 hz hm hg9 (by omega)]
 exact ret_of (res2 rfl rfl rfl) sub_nil (by intro r hr; cases hr) ⟨rfl, rfl⟩
 have hl : ¬ ls.length > 60 := by omega
 refine C_skip_then ?_
 refine C_seq ?_
 refine C_region ?_
 refine Jq (q_assign rfl) ?_
 refine L_then ?_
 refine C_seq ?_
 refine C_seq ?_
 refine C_region ?_
 refine Jq (q_assign rfl) ?_
 refine L_then ?_
 refine C_block ?_
 refine C_loop (ι := Nat) (fun k => ([(1, .pointer (some ⟨g1, 0, none⟩)), (6, .int .i64 (secAt ls k)), (7, .int .i64 (k : Int))], [box g1 25 (cPl nm sf v u), rd v 2 (gs.map cGs), rd u 3 (ls.map cDl)])) (fun k => k ≤ ls.length ∧ ckLegs gs.length k (secAt ls k) (ls.drop k) = ckLegs gs.length 0 0 ls ∧ 0 ≤ secAt ls k ∧ secAt ls k ≤ 1000000) (fun k => ls.length - k) 0 ⟨Nat.zero_le _, rfl, by show (0 : Int) ≤ 0; omega, by show (0 : Int) ≤ 1000000; omega⟩ (fun a w hs => hs.weak ⟨rfl, rfl, rfl, trivial⟩ (fun h => h.pk (by repeat (first | with_reducible exact pk_nil | refine pk_box rfl ?_ | refine pk_rd rfl ?_ | refine pk_sl rfl ?_ | with_reducible refine pk_app ?_ | with_reducible refine pk_app0 ?_ | with_reducible refine pk_app0L ?_ | with_reducible exact pk_tl | refine pk_var ?_)))) ?_
 rintro k ⟨hk, hf⟩
 dsimp only at hk hf ⊢
 refine C_seq ?_
 refine C_seq ?_
 refine C_region ?_
 refine Jq (q_move rfl) ?_
 refine Jq (q_field tb rfl rfl rfl) ?_
 refine Jq (q_load tb rfl rfl bxo rfl) ?_
 refine Jq (q_len tb rfl rfl gvo) ?_
 refine Jq (q_lss rfl rfl) ?_
 refine L_then ?_
 refine C_dec rfl (fun h8 => ?_) (fun h8 => ?_)
 obtain ⟨x, hex⟩ := get_some ls (k := k) (by omega); have hel := map_get cDl hex
 refine C_skip_then ?_
 refine C_seq ?_
 refine C_block ?_
 refine C_seq ?_
 refine C_region ?_
 refine Jq (q_field tb rfl rfl rfl) ?_
 refine Jq (q_load tb rfl rfl bxo rfl) ?_
 refine Jq (q_move rfl) ?_
 refine Jq (by first | exact q_index tb rfl rfl rfl rfl gvo (by omega) (by first | omega | (simp; done) | (simp; omega)) | exact q_indexP tb rfl rfl rfl rfl (by omega) (by omega)) ?_
 refine Jq (q_loadEA tb rfl rfl gvo (i := k) (o := 0) (by omega) hel rfl rfl) ?_
 refine L_alloc tb rfl rfl fun g8 => ?_
 refine L_st tb rfl rfl ?_
 refine L_then ?_
 refine C_seq ?_
 refine C_seq ?_
 refine C_region ?_
 refine Jq (q_field tb rfl rfl rfl) ?_
 refine Jq (q_load tb rfl rfl bxo rfl) ?_
 refine L_call tb rfl rfl (ct_shotlinebase_Within _ _ _) no_ps rfl ?_
 refine Jq (q_not rfl decide_not.symm) ?_
 refine Jq (q_move rfl) ?_
 refine L_dec (d := 61) rfl (fun h9 => ?_) (fun h9 => ?_)
 iterate 4 refine Jk ?_
 refine Jq (q_pickT rfl rfl) ?_
 refine L_then ?_
 refine C_true rfl ?_
 refine C_seq ?_
 refine C_region ?_
 refine Jq (q_move rfl) ?_
 refine Jq (q_assign rfl) ?_
 refine Jq (q_assign rfl) ?_
 refine L_then ?_
 refine C_ret ?_
 have hc9 : ckDl1 gs.length (secAt ls k) x = 2 := by unfold ckDl1; rw [if_pos (by omega)]
 have e9 : ckPl nm sf gs ls = ((k : Int), 2) := by rw [ckPl_7 hn9 hs9 hz hm hg9 hl, ← hf.1, ckLegs_bad hex (by omega), hc9]
 rw [e9]
 exact ret_of (res2 rfl rfl rfl) sub_nil (by intro r hr; cases hr) ⟨rfl, rfl⟩
 refine Jg (q_field tb rfl rfl rfl) ?_
 refine Jg (q_load tb rfl rfl bxo rfl) ?_
 refine L_callg tb rfl rfl rfl rfl rfl rfl (ct_shotlinebase_Within _ _ _) no_ps rfl ?_
 refine Jg (q_not rfl decide_not.symm) ?_
 refine Jq (q_pickF rfl rfl) ?_
 refine L_then ?_
 refine C_dec rfl (fun h11 => ?_) (fun h11 => ?_)
 refine C_seq ?_
 refine C_region ?_
 refine Jq (q_move rfl) ?_
 refine Jq (q_assign rfl) ?_
 refine Jq (q_assign rfl) ?_
 refine L_then ?_
 refine C_ret ?_
 have hc9 : ckDl1 gs.length (secAt ls k) x = 2 := by unfold ckDl1; rw [if_pos (by omega)]
 have e9 : ckPl nm sf gs ls = ((k : Int), 2) := by rw [ckPl_7 hn9 hs9 hz hm hg9 hl, ← hf.1, ckLegs_bad hex (by omega), hc9]
 rw [e9]
 exact ret_of (res2 rfl rfl rfl) sub_nil (by intro r hr; cases hr) ⟨rfl, rfl⟩
 refine C_skip_then ?_
 refine C_seq ?_
 refine C_seq ?_
 refine C_region ?_
 refine Jq (q_field tb rfl rfl rfl) ?_
 refine Jq (q_load tb rfl rfl bxo rfl) ?_
 refine Jq (q_field tb rfl rfl rfl) ?_
 refine Jq (q_load tb rfl rfl bxo rfl) ?_
 refine Jq (q_len tb rfl rfl gvo) ?_
 refine Jq (q_sub rfl rfl (by first | exact IntWalk.i64_in _ (by omega) | rfl)) ?_
 refine L_call tb rfl rfl (ct_shotlinebase_Within _ _ _) no_ps rfl ?_
 refine Jq (q_not rfl decide_not.symm) ?_
 refine L_then ?_
 refine C_dec rfl (fun h12 => ?_) (fun h12 => ?_)
 refine C_seq ?_
 refine C_region ?_
 refine Jq (q_move rfl) ?_
 refine Jq (q_assign rfl) ?_
 refine Jq (q_assign rfl) ?_
 refine L_then ?_
 refine C_ret ?_
 have hc9 : ckDl1 gs.length (secAt ls k) x = 6 := by unfold ckDl1; rw [if_neg (by omega), if_pos (by omega)]
 have e9 : ckPl nm sf gs ls = ((k : Int), 6) := by rw [ckPl_7 hn9 hs9 hz hm hg9 hl, ← hf.1, ckLegs_bad hex (by omega), hc9]
 rw [e9]
 exact ret_of (res2 rfl rfl rfl) sub_nil (by intro r hr; cases hr) ⟨rfl, rfl⟩
 refine C_skip_then ?_
 refine C_seq ?_
 refine C_region ?_
 refine Jq (q_move rfl) ?_
 refine Jq (q_field tb rfl rfl rfl) ?_
 refine Jq (q_load tb rfl rfl bxo rfl) ?_
 refine Jq (q_add rfl rfl (by first | exact IntWalk.i64_in _ (by omega) | rfl)) ?_
 refine Jq (q_assign rfl) ?_
 refine L_then ?_
 refine C_seq ?_
 refine C_region ?_
 refine Jq (q_move rfl) ?_
 refine Jq (q_gtr rfl rfl) ?_
 refine L_then ?_
 refine C_dec rfl (fun h13 => ?_) (fun h13 => ?_)
 refine C_seq ?_
 refine C_region ?_
 refine Jq (q_move rfl) ?_
 refine Jq (q_assign rfl) ?_
 refine Jq (q_assign rfl) ?_
 refine L_then ?_
 refine C_ret ?_
 have hc9 : ckDl1 gs.length (secAt ls k) x = 8 := by unfold ckDl1; rw [if_neg (by omega), if_neg (by omega), if_pos (by omega)]
 have e9 : ckPl nm sf gs ls = ((k : Int), 8) := by rw [ckPl_7 hn9 hs9 hz hm hg9 hl, ← hf.1, ckLegs_bad hex (by omega), hc9]
 rw [e9]
 exact ret_of (res2 rfl rfl rfl) sub_nil (by intro r hr; cases hr) ⟨rfl, rfl⟩
 refine C_skip_blk ?_
 refine C_region ?_
 refine Jq (q_move rfl) ?_
 refine Jq (q_add rfl rfl (by first | exact IntWalk.i64_in _ (by omega) | rfl)) ?_
 refine Jq (q_assign rfl) ?_
 refine L_end ?_
 have hc9 : ckDl1 gs.length (secAt ls k) x = 0 := by unfold ckDl1; rw [if_neg (by omega), if_neg (by omega), if_neg (by omega)]
 have hsec : secAt ls (k + 1) = secAt ls k + x.s := by show secAt ls k + (dlAt ls k).s = _; rw [dlAt_get hex]
 exact fun ac_ wo_ hs_ => ⟨k + 1, ⟨by omega, by rw [hsec, ← ckLegs_ok hex hc9]; exact hf.1, by omega, by omega⟩, (by dsimp only; omega), hs_.weak ⟨rfl, en hsec.symm, rfl, trivial⟩ (fun h => h.pk (by repeat (first | with_reducible exact pk_nil | refine pk_box rfl ?_ | refine pk_rd rfl ?_ | refine pk_sl rfl ?_ | with_reducible refine pk_app ?_ | with_reducible refine pk_app0 ?_ | with_reducible refine pk_app0L ?_ | with_reducible exact pk_tl | refine pk_var ?_)))⟩
 refine C_exit ?_
 change C Try.prog _ _ _ _ _ _ _
 refine C_seq ?_
 refine C_region ?_
 refine Jq (q_assign rfl) ?_
 refine Jq (q_assign rfl) ?_
 refine L_then ?_
 refine C_ret ?_
 rw [ckPl_7 hn9 hs9 hz hm hg9 hl, ← hf.1, ckLegs_end (by omega)]
 exact ret_of (res2 rfl rfl rfl) sub_nil (by intro r hr; cases hr) ⟨rfl, rfl⟩
set_option maxRecDepth 100000 in
theorem ct_shotlinebase_Mod (n b : Int) (h : 1 ≤ b ∧ b ≤ 2000000) : Ct Try.prog 12 [.int .i64 n, .int .i64 b] [] (isV (.int .i64 (n % b))) := by
 refine Ct.of (N := 14) Try.func12 rfl rfl rfl fun w => ?_
 refine C_weak (E' := [(0, .int .i64 n), (1, .int .i64 b)]) (rs' := []) ⟨rfl, rfl, trivial⟩ (fun _ h => h) ?_
 have hb1 := Int.tmod_lt_of_pos n (show 0 < b by omega); have hb2 := Int.lt_tmod_of_pos n (show 0 < b by omega)
 refine C_seq ?_
 refine C_region ?_
 refine Jq (q_assign rfl) ?_
 refine L_then ?_
 refine C_seq ?_
 refine C_region ?_
 refine Jq (q_move rfl) ?_
 refine Jq (q_move rfl) ?_
 refine Jq (q_rem rfl rfl (by omega) (by first | exact IntWalk.rem_in _ _ (by omega) | rfl)) ?_
 refine Jq (q_assign rfl) ?_
 refine L_then ?_
 refine C_seq ?_
 refine C_seq ?_
 refine C_region ?_
 refine Jq (q_move rfl) ?_
 refine Jq (q_lss rfl rfl) ?_
 refine L_then ?_
 refine C_dec rfl (fun h9 => ?_) (fun h9 => ?_)
 refine C_region ?_
 refine Jq (q_move rfl) ?_
 refine Jq (q_move rfl) ?_
 refine Jq (q_add rfl rfl (by first | exact IntWalk.i64_in _ (by omega) | rfl)) ?_
 refine Jq (q_assign rfl) ?_
 refine L_then ?_
 refine C_seq ?_
 refine C_region ?_
 refine Jq (q_move rfl) ?_
 refine Jq (q_assign rfl) ?_
 refine L_then ?_
 refine C_ret ?_
 exact ret_of (res1 rfl rfl) sub_nil (by intro r hr; cases hr) ⟨(congrArg (Value.int .i64) (by exact mod_yes h.1 h9)), rfl⟩
 refine C_skip_then ?_
 refine C_seq ?_
 refine C_region ?_
 refine Jq (q_move rfl) ?_
 refine Jq (q_assign rfl) ?_
 refine L_then ?_
 refine C_ret ?_
 exact ret_of (res1 rfl rfl) sub_nil (by intro r hr; cases hr) ⟨(congrArg (Value.int .i64) (by exact mod_no h.1 h9)), rfl⟩
set_option maxRecDepth 100000 in
set_option maxHeartbeats 2000000 in
theorem ct_shotlinetop_TopPlansAsProfiles (nm : ByteArray) (sf : Int) (v u : Value) (gs : List Gs) (ls : List Dl) (n : Int) : Ct Try.prog 3 [.agg (cPl nm sf v u).toArray, .int .i64 n] [(v, 2, gs.map cGs), (u, 3, ls.map cDl)] (isV (.bool true)) := by
 refine Ct.of (N := 175) Try.func3 rfl rfl rfl fun w => ?_
 refine C_weak (E' := [(0, .agg (cPl nm sf v u).toArray), (1, .int .i64 n)]) (rs' := [rd v 2 (gs.map cGs), rd u 3 (ls.map cDl)]) ⟨rfl, rfl, trivial⟩ (fun _ h => h) ?_
 have hl1 := len_map cGs gs
 have hl2 := len_map cDl ls
 refine C_seq ?_
 refine C_region ?_
 refine L_box rfl rfl rfl fun g2 => ?_
 refine Jq (q_assign rfl) ?_
 refine L_then ?_
 refine C_seq ?_
 refine C_seq ?_
 refine C_region ?_
 refine L_call tb rfl rfl (ct_shotlinetop_plotted) no_ps rfl ?_
 refine Jq (q_not rfl rfl) ?_
 refine L_then ?_
 refine C_false rfl ?_
 refine C_skip_then ?_
 refine C_seq ?_
 refine C_seq ?_
 refine C_region ?_
 refine Jq (q_loadA tb rfl rfl bxo rfl rfl) ?_
 refine L_call tb rfl rfl (ct_CheckPlan_any nm sf v u gs ls) (ps_cons gvo (ps_cons gvo no_ps)) rfl ?_
 refine Jq (q_move rfl) ?_
 refine Jq (q_ext0 rfl) ?_
 refine Jq (q_ext1 rfl) ?_
 refine Jq (q_assign rfl) ?_
 refine Jq (q_assign rfl) ?_
 refine L_then ?_
 refine C_seq ?_
 refine C_region ?_
 refine Jq (q_move rfl) ?_
 refine Jq (q_neq rfl rfl) ?_
 refine Jq (q_move rfl) ?_
 refine L_dec (d := 36) rfl (fun h36 => ?_) (fun h36 => ?_)
 iterate 4 refine Jk ?_
 refine Jq (q_pickT rfl rfl) ?_
 refine Jq (q_move rfl) ?_
 iterate 4 refine Jk ?_
 refine Jq (q_pickT rfl rfl) ?_
 refine L_then ?_
 refine C_true rfl ?_
 refine C_seq ?_
 refine C_region ?_
 refine Jq (q_assign rfl) ?_
 refine L_then ?_
 refine C_ret ?_
 exact ret_of (res1 rfl rfl) sub_nil (by intro r hr; cases hr) ⟨rfl, rfl⟩
 refine Jg (q_field tb rfl rfl rfl) ?_
 refine Jg (q_load tb rfl rfl bxo rfl) ?_
 refine Jg (q_len tb rfl rfl gvo) ?_
 refine Jg (q_gtr rfl rfl) ?_
 refine Jq (q_pickF rfl rfl) ?_
 refine Jq (q_move rfl) ?_
 refine L_dec (d := 42) rfl (fun h42 => ?_) (fun h42 => ?_)
 iterate 4 refine Jk ?_
 refine Jq (q_pickT rfl rfl) ?_
 refine L_then ?_
 refine C_true rfl ?_
 refine C_seq ?_
 refine C_region ?_
 refine Jq (q_assign rfl) ?_
 refine L_then ?_
 refine C_ret ?_
 exact ret_of (res1 rfl rfl) sub_nil (by intro r hr; cases hr) ⟨rfl, rfl⟩
 refine Jg (q_field tb rfl rfl rfl) ?_
 refine Jg (q_load tb rfl rfl bxo rfl) ?_
 refine Jg (q_len tb rfl rfl gvo) ?_
 refine Jg (q_eql rfl rfl) ?_
 refine Jq (q_pickF rfl rfl) ?_
 refine L_then ?_
 refine C_dec rfl (fun h47 => ?_) (fun h47 => ?_)
 refine C_seq ?_
 refine C_region ?_
 refine Jq (q_assign rfl) ?_
 refine L_then ?_
 refine C_ret ?_
 exact ret_of (res1 rfl rfl) sub_nil (by intro r hr; cases hr) ⟨rfl, rfl⟩
 have hz : (ckPl nm sf gs ls).2 = 0 := Decidable.not_not.1 h36
 obtain ⟨hnm0, H⟩ := ckPl_ok hz
 have hgl := H.gl; have hll := H.ll; have h0 : 0 < ls.length := by omega
 have hnm : nm.size ≤ 12 := hnm0.2.1
 have H2 := nf_plan H; have hgl2 := H2.gl; have hll2 := H2.ll; have hz2 : (ckPl nm sf (nfG gs ls) (nfL gs ls)).2 = 0 := by rw [ckPl_of hnm0 H2]
 have hse := H.e ls.length (Nat.le_refl _)
 have hup := sec_up H.pos (i := 0) ls.length (Nat.zero_le _) (Nat.le_refl _); have hs00 : secAt ls 0 = 0 := rfl
 obtain ⟨hm1, hm2, hm3⟩ := mn_mid H h0
 have hmn := Int.emod_nonneg n (show secAt ls ls.length + 1 ≠ 0 by omega); have hml := Int.emod_lt_of_pos n (show 0 < secAt ls ls.length + 1 by omega)
 obtain ⟨σ, hσ⟩ : ∃ σ : Nat, n % (secAt ls ls.length + 1) = (σ : Int) := ⟨(n % (secAt ls ls.length + 1)).toNat, by omega⟩
 have h1 : (σ : Int) ≤ secAt ls ls.length := by omega
 have hpl : ((ptsK ls ls.length).map cSw).length = ls.length + 1 := by rw [List.length_map, ptsK_len]
 refine C_skip_then ?_
 refine C_seq ?_
 refine C_region ?_
 refine Jq (q_loadA tb rfl rfl bxo rfl rfl) ?_
 refine L_callSN tb rfl rfl (ct_profile_PointsOf nm sf v u gs ls (by omega) (by omega) (by omega) H hz) (ps_cons gvo (ps_cons gvo no_ps)) rfl fun v50 => ?_
 refine Jq (q_move rfl) ?_
 refine Jq (q_ext0 rfl) ?_
 refine Jq (q_ext1 rfl) ?_
 refine Jq (q_assign rfl) ?_
 refine Jq (q_assign rfl) ?_
 refine L_then ?_
 refine C_seq ?_
 refine C_region ?_
 refine Jq (q_loadA tb rfl rfl bxo rfl rfl) ?_
 refine L_call tb rfl rfl (ct_profile_PlanSeconds nm sf v u gs ls (by omega) (by omega) (by omega) H hz) (ps_cons gvo (ps_cons gvo no_ps)) rfl ?_
 refine Jq (q_move rfl) ?_
 refine Jq (q_ext0 rfl) ?_
 refine Jq (q_ext1 rfl) ?_
 refine Jq (q_assign rfl) ?_
 refine Jq (q_assign rfl) ?_
 refine L_then ?_
 refine C_seq ?_
 refine C_region ?_
 refine Jq (q_loadA tb rfl rfl bxo rfl rfl) ?_
 refine L_lo rfl rfl rfl (lo_call tb rfl rfl (ct_profile_Normal nm sf v u gs ls (by omega) (by omega) (by omega) H hz) (ps_cons gvo (ps_cons gvo no_ps)) (by rintro y rs ⟨_, _, _, _, _, _, _, rfl⟩ r hr; simp only [List.mem_cons, List.not_mem_nil, or_false] at hr; rcases hr with rfl | rfl <;> exact sl_sinks _ _ _ _)) ?_
 rintro _ _ ⟨A60, B60, n60, c60, m60, d60, rfl, rfl⟩
 refine Jq (q_move rfl) ?_
 refine Jq (q_ext0 rfl) ?_
 refine Jq (q_ext1 rfl) ?_
 refine L_alloc tb rfl rfl fun g11 => ?_
 refine L_st tb rfl rfl ?_
 refine Jq (q_assign rfl) ?_
 refine L_then ?_
 refine C_seq ?_
 refine C_region ?_
 refine Jq (q_loadA tb rfl rfl bxo rfl rfl) ?_
 refine L_callSN tb rfl rfl (ct_profile_PointsOf nm sf (.slice A60 n60 c60) (.slice B60 m60 d60) (nfG gs ls) (nfL gs ls) (by omega) (by omega) (by omega) H2 hz2) (ps_cons gvo (ps_cons gvo no_ps)) rfl fun v65 => ?_
 refine Jq (q_move rfl) ?_
 refine Jq (q_ext0 rfl) ?_
 refine Jq (q_ext1 rfl) ?_
 refine Jq (q_assign rfl) ?_
 refine Jq (q_assign rfl) ?_
 refine L_then ?_
 refine C_seq ?_
 refine C_region ?_
 refine Jq (q_loadA tb rfl rfl bxo rfl rfl) ?_
 refine L_call tb rfl rfl (ct_profile_MeanDepth nm sf v u gs ls (by omega) (by omega) (by omega) H hz h0) (ps_cons gvo (ps_cons gvo no_ps)) rfl ?_
 refine Jq (q_move rfl) ?_
 refine Jq (q_ext0 rfl) ?_
 refine Jq (q_ext1 rfl) ?_
 refine L_alloc tb rfl rfl fun g15 => ?_
 refine L_st tb rfl rfl ?_
 refine Jq (q_assign rfl) ?_
 refine L_then ?_
 refine C_seq ?_
 refine C_seq ?_
 refine C_region ?_
 refine Jq (q_move rfl) ?_
 refine Jq (q_false (q_neq rfl rfl) (decide_eq_false (fun h => h rfl))) ?_
 refine Jq (q_move rfl) ?_
 refine Jg (q_move rfl) ?_
 refine Jg (q_false (q_neq rfl rfl) (decide_eq_false (fun h => h rfl))) ?_
 refine Jq (q_pickF rfl rfl) ?_
 refine Jq (q_move rfl) ?_
 refine Jg (q_move rfl) ?_
 refine Jg (q_false (q_neq rfl rfl) (decide_eq_false (fun h => h rfl))) ?_
 refine Jq (q_pickF rfl rfl) ?_
 refine Jq (q_move rfl) ?_
 refine Jg (q_move rfl) ?_
 refine Jg (q_false (q_neq rfl rfl) (decide_eq_false (fun h => h rfl))) ?_
 refine Jq (q_pickF rfl rfl) ?_
 refine Jq (q_move rfl) ?_
 refine Jg (q_move rfl) ?_
 refine Jg (q_false (q_neq rfl rfl) (decide_eq_false (fun h => h rfl))) ?_
 refine Jq (q_pickF rfl rfl) ?_
 refine Jq (q_move rfl) ?_
 refine Jg (q_move rfl) ?_
 refine L_callg tb rfl rfl rfl rfl rfl rfl (ct_shotlinebase_Within _ _ _) no_ps rfl ?_
 refine Jg (q_not rfl decide_not.symm) ?_
 refine Jq (q_pickF rfl rfl) ?_
 refine L_then ?_
 refine C_dec rfl (fun h7 => ?_) (fun h7 => ?_)
 exfalso; omega
 refine C_skip_then ?_
 refine C_seq ?_
 refine C_region ?_
 refine Jq (q_move rfl) ?_
 refine Jq (q_move rfl) ?_
 refine Jq (q_add rfl rfl (by first | exact IntWalk.i64_in _ (by omega) | rfl)) ?_
 refine L_call tb rfl rfl (ct_shotlinebase_Mod n (secAt ls ls.length + 1) (by omega)) no_ps rfl ?_
 refine Jq (q_assign rfl) ?_
 refine L_then ?_
 refine C_seq ?_
 refine C_region ?_
 rw [hσ]
 refine Jq (q_loadA tb rfl rfl bxo rfl rfl) ?_
 refine Jq (q_move rfl) ?_
 refine L_call tb rfl rfl (ct_profile_DepthAt nm sf v u gs ls (by omega) (by omega) (by omega) H hz σ h1 h0) (ps_cons gvo (ps_cons gvo no_ps)) rfl ?_
 refine Jq (q_move rfl) ?_
 refine Jq (q_ext0 rfl) ?_
 refine Jq (q_ext1 rfl) ?_
 refine L_alloc tb rfl rfl fun g18 => ?_
 refine L_st tb rfl rfl ?_
 refine Jq (q_assign rfl) ?_
 refine L_then ?_
 refine C_seq ?_
 refine C_region ?_
 refine Jq (q_move rfl) ?_
 refine Jq (q_move rfl) ?_
 refine L_call tb rfl rfl (ct_profile_DepthOf v50 sf gs ls H σ h1 h0) (ps_cons gvo no_ps) rfl ?_
 refine Jq (q_move rfl) ?_
 refine Jq (q_ext0 rfl) ?_
 refine Jq (q_ext1 rfl) ?_
 refine L_alloc tb rfl rfl fun g20 => ?_
 refine L_st tb rfl rfl ?_
 refine Jq (q_assign rfl) ?_
 refine L_then ?_
 refine C_seq ?_
 refine C_region ?_
 refine Jq (q_move rfl) ?_
 refine Jq (q_move rfl) ?_
 refine L_call tb rfl rfl (ct_profile_Distance v50 v65 sf gs (nfG gs ls) ls (nfL gs ls) H H2 h0 (nf_pos H h0) (nf_sec H) (nf_hx H h0)) (ps_cons gvo (ps_cons gvo no_ps)) rfl ?_
 refine Jq (q_move rfl) ?_
 refine Jq (q_ext0 rfl) ?_
 refine Jq (q_ext1 rfl) ?_
 refine L_alloc tb rfl rfl fun g22 => ?_
 refine L_st tb rfl rfl ?_
 refine Jq (q_assign rfl) ?_
 refine L_then ?_
 refine C_seq ?_
 refine C_seq ?_
 refine C_region ?_
 refine Jq (q_move rfl) ?_
 refine Jq (q_false (q_neq rfl rfl) (decide_eq_false (fun h => h rfl))) ?_
 refine Jq (q_move rfl) ?_
 refine Jg (q_move rfl) ?_
 refine Jg (q_false (q_neq rfl rfl) (decide_eq_false (fun h => h rfl))) ?_
 refine Jq (q_pickF rfl rfl) ?_
 refine Jq (q_move rfl) ?_
 refine Jg (q_loadA tb rfl rfl bxo rfl rfl) ?_
 refine Jg (q_loadA tb rfl rfl bxo rfl rfl) ?_
 refine Jg (q_false (q_neI (p := True) (xs := [dpL ls σ, dpH ls σ]) (ys := [dpL ls σ, dpH ls σ]) eq38 (by omega) eg38 rfl rfl rfl rfl (by simp)) (by simp)) ?_
 refine Jq (q_pickF rfl rfl) ?_
 refine Jq (q_move rfl) ?_
 refine Jg (q_move rfl) ?_
 refine Jg (q_false (q_neq rfl rfl) (decide_eq_false (fun h => h rfl))) ?_
 refine Jq (q_pickF rfl rfl) ?_
 refine Jq (q_move rfl) ?_
 refine Jg (q_loadA tb rfl rfl bxo rfl rfl) ?_
 refine Jg (by first | exact q_build tb rfl rfl rfl rfl | exact q_buildArr tb rfl rfl rfl rfl rfl) ?_
 refine Jg (q_false (q_neI (p := True) (xs := [0, 0]) (ys := [0, 0]) eq38 (by omega) eg38 rfl rfl rfl rfl (by simp)) (by simp)) ?_
 refine Jq (q_pickF rfl rfl) ?_
 refine L_then ?_
 refine C_false rfl ?_
 refine C_skip_then ?_
 refine C_seq ?_
 refine C_region ?_
 refine Jq (q_assign rfl) ?_
 refine Jq (q_assign rfl) ?_
 refine L_then ?_
 refine C_seq ?_
 refine C_seq ?_
 refine C_region ?_
 refine Jq (q_assign rfl) ?_
 refine L_then ?_
 refine C_block ?_
 refine C_loop (ι := Nat) (fun k => ([(7, v50), (15, .pointer (some ⟨g15, 0, none⟩)), (24, .int .i64 ((loK ls k))), (25, .int .i64 ((hiK ls k))), (26, .int .i64 (k : Int))], [sl v50 47 2 ((ptsK ls ls.length).map cSw), box g15 38 [.int .i64 (mnK ls ls.length / (2 * secAt ls ls.length)), .int .i64 (upZ (mnK ls ls.length) (2 * secAt ls ls.length))]])) (fun k => k ≤ ls.length + 1) (fun k => ls.length + 1 - k) 0 (Nat.zero_le _) (fun a w hs => hs.weak ⟨rfl, rfl, rfl, rfl, rfl, trivial⟩ (fun h => h.pk (by repeat (first | with_reducible exact pk_nil | refine pk_box rfl ?_ | refine pk_rd rfl ?_ | refine pk_sl rfl ?_ | with_reducible refine pk_app ?_ | with_reducible refine pk_app0 ?_ | with_reducible refine pk_app0L ?_ | with_reducible exact pk_tl | refine pk_var ?_)))) ?_
 intro k hk9
 dsimp only at hk9 ⊢
 refine C_seq ?_
 refine C_seq ?_
 refine C_region ?_
 refine Jq (q_move rfl) ?_
 refine Jq (q_move rfl) ?_
 refine Jq (q_len tb rfl rfl gvo) ?_
 refine Jq (q_lss rfl rfl) ?_
 refine L_then ?_
 refine C_dec rfl (fun h9 => ?_) (fun h9 => ?_)
 have hd9 := H.dep (k := k) (by omega); have hlo := loK_s ls k; have hhi := hiK_s ls k
 refine C_skip_then ?_
 refine C_seq ?_
 refine C_block ?_
 refine C_draw (n := 16) [(0, false), (1, false), (2, false), (3, false), (4, false), (5, false), (6, false), (7, false), (8, false), (9, false), (10, false), (11, false), (12, false), (13, false), (14, false), (15, false)] mixed (by kernel_rfl) ?_
 refine Yq rfl (q_move rfl) ?_
 refine Yq rfl (q_move rfl) ?_
 refine Yq rfl (q_move rfl) ?_
 refine Yq rfl (by first | exact q_index tb rfl rfl rfl rfl gvo (by omega) (by first | omega | (simp; done) | (simp; omega)) | exact q_indexP tb rfl rfl rfl rfl (by omega) (by omega)) ?_
 refine Yq rfl (q_fieldE tb rfl rfl rfl gvo (by first | omega | (simp; done) | (simp; omega))) ?_
 refine Yq rfl (q_loadE tb rfl rfl gvo (i := k) (o := 1) (by omega) (pt_cell (by omega)) rfl) ?_
 refine Yq rfl (q_min rfl rfl) ?_
 refine Yq rfl (q_move rfl) ?_
 refine Yq rfl (q_move rfl) ?_
 refine Yq rfl (q_move rfl) ?_
 refine Yq rfl (by first | exact q_index tb rfl rfl rfl rfl gvo (by omega) (by first | omega | (simp; done) | (simp; omega)) | exact q_indexP tb rfl rfl rfl rfl (by omega) (by omega)) ?_
 refine Yq rfl (q_fieldE tb rfl rfl rfl gvo (by first | omega | (simp; done) | (simp; omega))) ?_
 refine Yq rfl (q_loadE tb rfl rfl gvo (i := k) (o := 1) (by omega) (pt_cell (by omega)) rfl) ?_
 refine Yq rfl (q_max rfl rfl) ?_
 refine Yq rfl (q_assign rfl) ?_
 refine Yq rfl (q_assign rfl) ?_
 refine W_nil ?_
 refine L_blk ?_
 refine C_region ?_
 refine Jq (q_move rfl) ?_
 refine Jq (q_add rfl rfl (by first | exact IntWalk.i64_in _ (by omega) | rfl)) ?_
 refine Jq (q_assign rfl) ?_
 refine L_end ?_
 exact fun ac_ wo_ hs_ => ⟨k + 1, (by dsimp only; omega), (by dsimp only; omega), hs_.weak ⟨rfl, rfl, rfl, rfl, rfl, trivial⟩ (fun h => h.pk (by repeat (first | with_reducible exact pk_nil | refine pk_box rfl ?_ | refine pk_rd rfl ?_ | refine pk_sl rfl ?_ | with_reducible refine pk_app ?_ | with_reducible refine pk_app0 ?_ | with_reducible refine pk_app0L ?_ | with_reducible exact pk_tl | refine pk_var ?_)))⟩
 obtain rfl : k = ls.length + 1 := by omega
 refine C_exit ?_
 change C Try.prog _ _ _ _ _ _ _
 refine C_seq ?_
 refine C_region ?_
 refine Jq (q_move rfl) ?_
 refine Jq (q_field tb rfl rfl rfl) ?_
 refine Jq (q_load tb rfl rfl bxo rfl) ?_
 refine Jq (q_true (q_leq rfl rfl) (decide_eq_true (by omega))) ?_
 refine Jq (q_move rfl) ?_
 refine Jg (q_field tb rfl rfl rfl) ?_
 refine Jg (q_load tb rfl rfl bxo rfl) ?_
 refine Jg (q_field tb rfl rfl rfl) ?_
 refine Jg (q_load tb rfl rfl bxo rfl) ?_
 refine Jg (q_true (q_leq rfl rfl) (decide_eq_true (by omega))) ?_
 refine Jq (q_pickT rfl rfl) ?_
 refine Jq (q_move rfl) ?_
 refine Jg (q_field tb rfl rfl rfl) ?_
 refine Jg (q_load tb rfl rfl bxo rfl) ?_
 refine Jg (q_move rfl) ?_
 refine Jg (q_true (q_leq rfl rfl) (decide_eq_true (by omega))) ?_
 refine Jq (q_pickT rfl rfl) ?_
 refine Jq (q_assign rfl) ?_
 refine L_then ?_
 refine C_ret ?_
 exact ret_of (res1 rfl rfl) sub_nil (by intro r hr; cases hr) ⟨rfl, rfl⟩
end Go.Proofs.Ytdmnejfpbbmcaaa
