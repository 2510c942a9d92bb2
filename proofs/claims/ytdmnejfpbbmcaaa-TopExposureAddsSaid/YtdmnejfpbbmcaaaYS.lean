/-
  Walks: each function named returns what its model says. Conditions: those in front of each theorem.
-/
import Derived.Test.YtdmnejfpbbmcaaaYC
import Derived.Test.YtdmnejfpbbmcaaaXp9
namespace Go.Proofs.Ytdmnejfpbbmcaaa
open Go.RowKit

set_option maxRecDepth 100000 in
theorem ct_shotlineref02_Seconds (nm : ByteArray) (sf : Int) (v u : Value) (gs : List Gs) (ls : List Dl) (H : okPl sf gs ls) : Ct Try.prog 20 [.agg (cPl nm sf v u).toArray] [(v, 2, gs.map cGs), (u, 3, ls.map cDl)] (isV (.int .i64 (secAt ls ls.length))) := by
 refine Ct.of (N := 21) Try.func20 rfl rfl rfl fun w => ?_
 refine C_weak (E' := [(0, .agg (cPl nm sf v u).toArray)]) (rs' := [rd v 2 (gs.map cGs), rd u 3 (ls.map cDl)]) ⟨rfl, trivial⟩ (fun _ h => h) ?_
 have hl1 := len_map cGs gs
 have hl2 := len_map cDl ls
 have hll := H.ll; have hgl := H.gl
 refine C_seq ?_
 refine C_region ?_
 refine L_box rfl rfl rfl fun g1 => ?_
 refine Jq (q_assign rfl) ?_
 refine L_then ?_
 refine C_seq ?_
 refine C_region ?_
 refine Jq (q_assign rfl) ?_
 refine L_then ?_
 refine C_seq ?_
 refine C_seq ?_
 refine C_region ?_
 refine Jq (q_assign rfl) ?_
 refine L_then ?_
 refine C_block ?_
 refine C_loop (ι := Nat) (fun k => ([(1, .pointer (some ⟨g1, 0, none⟩)), (3, .int .i64 (secAt ls k)), (4, .int .i64 (k : Int))], [box g1 25 (cPl nm sf v u), rd v 2 (gs.map cGs), rd u 3 (ls.map cDl)])) (fun k => k ≤ ls.length) (fun k => ls.length - k) 0 (Nat.zero_le _) (fun a w hs => hs.weak ⟨rfl, rfl, rfl, trivial⟩ (fun h => h.pk (by repeat (first | with_reducible exact pk_nil | refine pk_box rfl ?_ | refine pk_rd rfl ?_ | refine pk_sl rfl ?_ | with_reducible refine pk_app ?_ | with_reducible refine pk_app0 ?_ | with_reducible refine pk_app0L ?_ | with_reducible exact pk_tl | refine pk_var ?_)))) ?_
 intro k hk9
 dsimp only at hk9 ⊢
 refine C_seq ?_
 refine C_seq ?_
 refine C_region ?_
 refine Jq (q_move rfl) ?_
 refine Jq (q_field tb rfl rfl rfl) ?_
 refine Jq (q_load tb rfl rfl bxo rfl) ?_
 refine Jq (q_len tb rfl rfl gvo) ?_
 refine Jq (q_lss rfl rfl) ?_
 refine L_then ?_
 refine C_dec rfl (fun h1 => ?_) (fun h1 => ?_)
 have hel := dl_cell (show k < ls.length by omega)
 have hds := (H.at (k := k) (by omega)).s; have hse := H.e k (by omega)
 refine C_skip_then ?_
 refine C_seq ?_
 refine C_block ?_
 refine C_region ?_
 refine Jq (q_move rfl) ?_
 refine Jq (q_field tb rfl rfl rfl) ?_
 refine Jq (q_load tb rfl rfl bxo rfl) ?_
 refine Jq (q_move rfl) ?_
 refine Jq (by first | exact q_index tb rfl rfl rfl rfl gvo (by omega) (by first | omega | (simp; done) | (simp; omega)) | exact q_indexP tb rfl rfl rfl rfl (by omega) (by omega)) ?_
 refine Jq (q_fieldE tb rfl rfl rfl gvo (by first | omega | (simp; done) | (simp; omega))) ?_
 refine Jq (q_loadE tb rfl rfl gvo (i := k) (o := 0) (by omega) hel rfl) ?_
 refine Jq (q_add rfl rfl (by first | exact IntWalk.i64_in _ (by omega) | rfl)) ?_
 refine Jq (q_assign rfl) ?_
 refine L_blk ?_
 refine C_region ?_
 refine Jq (q_move rfl) ?_
 refine Jq (q_add rfl rfl (by first | exact IntWalk.i64_in _ (by omega) | rfl)) ?_
 refine Jq (q_assign rfl) ?_
 refine L_end ?_
 exact fun ac_ wo_ hs_ => ⟨k + 1, (by dsimp only; omega), (by dsimp only; omega), hs_.weak ⟨rfl, rfl, rfl, trivial⟩ (fun h => h.pk (by repeat (first | with_reducible exact pk_nil | refine pk_box rfl ?_ | refine pk_rd rfl ?_ | refine pk_sl rfl ?_ | with_reducible refine pk_app ?_ | with_reducible refine pk_app0 ?_ | with_reducible refine pk_app0L ?_ | with_reducible exact pk_tl | refine pk_var ?_)))⟩
 refine C_exit ?_
 change C Try.prog _ _ _ _ _ _ _
 refine C_seq ?_
 refine C_region ?_
 refine Jq (q_move rfl) ?_
 refine Jq (q_assign rfl) ?_
 refine L_then ?_
 refine C_ret ?_
 obtain rfl : k = ls.length := by omega
 exact ret_of (res1 rfl rfl) sub_nil (by intro r hr; cases hr) ⟨rfl, rfl⟩
set_option maxRecDepth 100000 in
set_option maxHeartbeats 1000000 in
theorem ct_shotlinelaw05_Short (nm : ByteArray) (sf : Int) (v u : Value) (gs : List Gs) (ls : List Dl) : Ct Try.prog 51 [.agg (cPl nm sf v u).toArray] [(v, 2, gs.map cGs), (u, 3, ls.map cDl)] (isV (.bool (decide (shortP nm gs ls)))) := by
 refine Ct.of (N := 43) Try.func51 rfl rfl rfl fun w => ?_
 refine C_weak (E' := [(0, .agg (cPl nm sf v u).toArray)]) (rs' := [rd v 2 (gs.map cGs), rd u 3 (ls.map cDl)]) ⟨rfl, trivial⟩ (fun _ h => h) ?_
 have hl1 := len_map cGs gs
 have hl2 := len_map cDl ls
 refine C_seq ?_
 refine C_region ?_
 refine L_box rfl rfl rfl fun g1 => ?_
 refine Jq (q_assign rfl) ?_
 refine L_then ?_
 refine C_seq ?_
 refine C_region ?_
 refine Jq (q_field tb rfl rfl rfl) ?_
 refine Jq (q_load tb rfl rfl bxo rfl) ?_
 refine Jq (q_lenS Try.underlying9 rfl) ?_
 refine Jq (q_leq rfl rfl) ?_
 refine Jq (q_move rfl) ?_
 refine L_dec (d := 7) rfl (fun h1 => ?_) (fun h1 => ?_)
 refine Jg (q_field tb rfl rfl rfl) ?_
 refine Jg (q_load tb rfl rfl bxo rfl) ?_
 refine Jg (q_len tb rfl rfl gvo) ?_
 refine Jg (q_leq rfl rfl) ?_
 refine Jg (q_move rfl) ?_
 refine L_dec (d := 12) rfl (fun h2 => ?_) (fun h2 => ?_)
 iterate 5 refine Jk ?_
 iterate 4 refine Ju ?_
 refine Jk ?_
 refine Jg (q_pickT rfl rfl) ?_
 refine Jq (q_pickT rfl rfl) ?_
 refine Jq (q_move rfl) ?_
 refine Jg (q_field tb rfl rfl rfl) ?_
 refine Jg (q_load tb rfl rfl bxo rfl) ?_
 refine Jg (q_len tb rfl rfl gvo) ?_
 refine Jg (q_leq rfl rfl) ?_
 refine Jg (q_move rfl) ?_
 refine L_dec (d := 30) rfl (fun h3 => ?_) (fun h3 => ?_)
 iterate 5 refine Jk ?_
 iterate 4 refine Ju ?_
 refine Jk ?_
 refine Jg (q_pickT rfl rfl) ?_
 refine Jq (q_pickT rfl rfl) ?_
 refine Jq (q_assign rfl) ?_
 refine L_then ?_
 refine C_ret ?_
 exact ret_of (res1 rfl rfl) sub_nil (by intro r hr; cases hr) ⟨(by first | rfl | exact congrArg Value.bool (decide_eq_decide.2 (by omega)) | exact congrArg Value.bool (decide_eq_true (by omega)).symm | exact congrArg Value.bool (decide_eq_false (by omega)).symm | exact congrArg Value.bool (decide_eq_true (by omega))), rfl⟩
 refine Jg (q_field tb rfl rfl rfl) ?_
 refine Jg (q_load tb rfl rfl bxo rfl) ?_
 refine Jg (q_len tb rfl rfl gvo) ?_
 refine Jg (q_gtr rfl rfl) ?_
 refine Jg (q_move rfl) ?_
 refine L_dec (d := 35) rfl (fun h4 => ?_) (fun h4 => ?_)
 refine Jg (q_field tb rfl rfl rfl) ?_
 refine Jg (q_load tb rfl rfl bxo rfl) ?_
 refine Jg (q_len tb rfl rfl gvo) ?_
 refine Jg (q_leq rfl rfl) ?_
 refine Jg (q_pickT rfl rfl) ?_
 refine Jg (q_pickF rfl rfl) ?_
 refine Jq (q_pickT rfl rfl) ?_
 refine Jq (q_assign rfl) ?_
 refine L_then ?_
 refine C_ret ?_
 exact ret_of (res1 rfl rfl) sub_nil (by intro r hr; cases hr) ⟨(by first | rfl | exact congrArg Value.bool (decide_eq_decide.2 (by omega)) | exact congrArg Value.bool (decide_eq_true (by omega)).symm | exact congrArg Value.bool (decide_eq_false (by omega)).symm | exact congrArg Value.bool (decide_eq_true (by omega))), rfl⟩
 iterate 4 refine Jk ?_
 refine Jg (q_pickF rfl rfl) ?_
 refine Jg (q_pickF rfl rfl) ?_
 refine Jq (q_pickT rfl rfl) ?_
 refine Jq (q_assign rfl) ?_
 refine L_then ?_
 refine C_ret ?_
 exact ret_of (res1 rfl rfl) sub_nil (by intro r hr; cases hr) ⟨(by first | rfl | exact congrArg Value.bool (decide_eq_decide.2 (by omega)) | exact congrArg Value.bool (decide_eq_true (by omega)).symm | exact congrArg Value.bool (decide_eq_false (by omega)).symm | exact congrArg Value.bool (decide_eq_true (by omega))), rfl⟩
 refine Jg (q_field tb rfl rfl rfl) ?_
 refine Jg (q_load tb rfl rfl bxo rfl) ?_
 refine Jg (q_len tb rfl rfl gvo) ?_
 refine Jg (q_gtr rfl rfl) ?_
 refine Jg (q_move rfl) ?_
 refine L_dec (d := 17) rfl (fun h5 => ?_) (fun h5 => ?_)
 refine Jg (q_field tb rfl rfl rfl) ?_
 refine Jg (q_load tb rfl rfl bxo rfl) ?_
 refine Jg (q_len tb rfl rfl gvo) ?_
 refine Jg (q_leq rfl rfl) ?_
 refine Jg (q_pickT rfl rfl) ?_
 refine Jg (q_pickF rfl rfl) ?_
 refine Jq (q_pickT rfl rfl) ?_
 refine Jq (q_move rfl) ?_
 refine L_dec (d := 25) rfl (fun h6 => ?_) (fun h6 => ?_)
 refine Jg (q_field tb rfl rfl rfl) ?_
 refine Jg (q_load tb rfl rfl bxo rfl) ?_
 refine Jg (q_len tb rfl rfl gvo) ?_
 refine Jg (q_leq rfl rfl) ?_
 refine Jg (q_move rfl) ?_
 refine L_dec (d := 30) rfl (fun h7 => ?_) (fun h7 => ?_)
 iterate 5 refine Jk ?_
 iterate 4 refine Ju ?_
 refine Jk ?_
 refine Jg (q_pickT rfl rfl) ?_
 refine Jq (q_pickT rfl rfl) ?_
 refine Jq (q_assign rfl) ?_
 refine L_then ?_
 refine C_ret ?_
 exact ret_of (res1 rfl rfl) sub_nil (by intro r hr; cases hr) ⟨(by first | rfl | exact congrArg Value.bool (decide_eq_decide.2 (by omega)) | exact congrArg Value.bool (decide_eq_true (by omega)).symm | exact congrArg Value.bool (decide_eq_false (by omega)).symm | exact congrArg Value.bool (decide_eq_true (by omega))), rfl⟩
 refine Jg (q_field tb rfl rfl rfl) ?_
 refine Jg (q_load tb rfl rfl bxo rfl) ?_
 refine Jg (q_len tb rfl rfl gvo) ?_
 refine Jg (q_gtr rfl rfl) ?_
 refine Jg (q_move rfl) ?_
 refine L_dec (d := 35) rfl (fun h8 => ?_) (fun h8 => ?_)
 refine Jg (q_field tb rfl rfl rfl) ?_
 refine Jg (q_load tb rfl rfl bxo rfl) ?_
 refine Jg (q_len tb rfl rfl gvo) ?_
 refine Jg (q_leq rfl rfl) ?_
 refine Jg (q_pickT rfl rfl) ?_
 refine Jg (q_pickF rfl rfl) ?_
 refine Jq (q_pickT rfl rfl) ?_
 refine Jq (q_assign rfl) ?_
 refine L_then ?_
 refine C_ret ?_
 exact ret_of (res1 rfl rfl) sub_nil (by intro r hr; cases hr) ⟨(by first | rfl | exact congrArg Value.bool (decide_eq_decide.2 (by omega)) | exact congrArg Value.bool (decide_eq_true (by omega)).symm | exact congrArg Value.bool (decide_eq_false (by omega)).symm | exact congrArg Value.bool (decide_eq_true (by omega))), rfl⟩
 iterate 4 refine Jk ?_
 refine Jg (q_pickF rfl rfl) ?_
 refine Jg (q_pickF rfl rfl) ?_
 refine Jq (q_pickT rfl rfl) ?_
 refine Jq (q_assign rfl) ?_
 refine L_then ?_
 refine C_ret ?_
 exact ret_of (res1 rfl rfl) sub_nil (by intro r hr; cases hr) ⟨(by first | rfl | exact congrArg Value.bool (decide_eq_decide.2 (by omega)) | exact congrArg Value.bool (decide_eq_true (by omega)).symm | exact congrArg Value.bool (decide_eq_false (by omega)).symm | exact congrArg Value.bool (decide_eq_true (by omega))), rfl⟩
 iterate 5 refine Jk ?_
 iterate 10 refine Ju ?_
 refine Jk ?_
 refine Jq (q_pickF rfl rfl) ?_
 refine Jq (q_assign rfl) ?_
 refine L_then ?_
 refine C_ret ?_
 exact ret_of (res1 rfl rfl) sub_nil (by intro r hr; cases hr) ⟨(by first | rfl | exact congrArg Value.bool (decide_eq_decide.2 (by omega)) | exact congrArg Value.bool (decide_eq_true (by omega)).symm | exact congrArg Value.bool (decide_eq_false (by omega)).symm | exact congrArg Value.bool (decide_eq_true (by omega))), rfl⟩
 iterate 4 refine Jk ?_
 refine Jg (q_pickF rfl rfl) ?_
 refine Jg (q_pickF rfl rfl) ?_
 refine Jq (q_pickT rfl rfl) ?_
 refine Jq (q_move rfl) ?_
 iterate 5 refine Jk ?_
 iterate 10 refine Ju ?_
 refine Jk ?_
 refine Jq (q_pickF rfl rfl) ?_
 refine Jq (q_assign rfl) ?_
 refine L_then ?_
 refine C_ret ?_
 exact ret_of (res1 rfl rfl) sub_nil (by intro r hr; cases hr) ⟨(by first | rfl | exact congrArg Value.bool (decide_eq_decide.2 (by omega)) | exact congrArg Value.bool (decide_eq_true (by omega)).symm | exact congrArg Value.bool (decide_eq_false (by omega)).symm | exact congrArg Value.bool (decide_eq_true (by omega))), rfl⟩
 iterate 5 refine Jk ?_
 iterate 10 refine Ju ?_
 refine Jk ?_
 refine Jq (q_pickF rfl rfl) ?_
 refine Jq (q_move rfl) ?_
 iterate 5 refine Jk ?_
 iterate 10 refine Ju ?_
 refine Jk ?_
 refine Jq (q_pickF rfl rfl) ?_
 refine Jq (q_assign rfl) ?_
 refine L_then ?_
 refine C_ret ?_
 exact ret_of (res1 rfl rfl) sub_nil (by intro r hr; cases hr) ⟨(by first | rfl | exact congrArg Value.bool (decide_eq_decide.2 (by omega)) | exact congrArg Value.bool (decide_eq_true (by omega)).symm | exact congrArg Value.bool (decide_eq_false (by omega)).symm | exact congrArg Value.bool (decide_eq_true (by omega))), rfl⟩
set_option maxRecDepth 100000 in
theorem ct_shotlinelaw05_Brief (nm : ByteArray) (sf : Int) (v u : Value) (gs : List Gs) (ls : List Dl) : Ct Try.prog 17 [.agg (cPl nm sf v u).toArray] [(v, 2, gs.map cGs), (u, 3, ls.map cDl)] (isV (.bool (decide (briefP nm sf gs ls)))) := by
 refine Ct.of (N := 18) Try.func17 rfl rfl rfl fun w => ?_
 refine C_weak (E' := [(0, .agg (cPl nm sf v u).toArray)]) (rs' := [rd v 2 (gs.map cGs), rd u 3 (ls.map cDl)]) ⟨rfl, trivial⟩ (fun _ h => h) ?_
 have hl1 := len_map cGs gs
 have hl2 := len_map cDl ls
 refine C_seq ?_
 refine C_region ?_
 refine L_box rfl rfl rfl fun g1 => ?_
 refine Jq (q_assign rfl) ?_
 refine L_then ?_
 refine C_seq ?_
 refine C_seq ?_
 refine C_region ?_
 refine Jq (q_loadA tb rfl rfl bxo rfl rfl) ?_
 refine L_call tb rfl rfl (ct_shotlinelaw05_Short nm sf v u gs ls) (ps_cons gvo (ps_cons gvo no_ps)) rfl ?_
 refine Jq (q_not rfl decide_not.symm) ?_
 refine L_then ?_
 refine C_dec rfl (fun h1 => ?_) (fun h1 => ?_)
 refine C_seq ?_
 refine C_region ?_
 refine Jq (q_assign rfl) ?_
 refine L_then ?_
 refine C_ret ?_
 exact ret_of (res1 rfl rfl) sub_nil (by intro r hr; cases hr) ⟨(congrArg Value.bool (decide_eq_false (p := briefP nm sf gs ls) (fun hh => h1 hh.1)).symm), rfl⟩
 have hsh := Decidable.not_not.1 h1
 refine C_skip_then ?_
 refine C_seq ?_
 refine C_seq ?_
 refine C_region ?_
 refine Jq (q_loadA tb rfl rfl bxo rfl rfl) ?_
 refine L_call tb rfl rfl (ct_shotlineref05_Err nm sf v u gs ls (by omega) (by omega)) (ps_cons gvo (ps_cons gvo no_ps)) rfl ?_
 refine Jq (q_neq rfl rfl) ?_
 refine L_then ?_
 refine C_dec rfl (fun h2 => ?_) (fun h2 => ?_)
 refine C_seq ?_
 refine C_region ?_
 refine Jq (q_assign rfl) ?_
 refine L_then ?_
 refine C_ret ?_
 exact ret_of (res1 rfl rfl) sub_nil (by intro r hr; cases hr) ⟨(congrArg Value.bool (decide_eq_true (p := briefP nm sf gs ls) ⟨hsh, .inl h2⟩).symm), rfl⟩
 have H := (ckPl_ok (Decidable.not_not.1 h2)).2
 refine C_skip_then ?_
 refine C_seq ?_
 refine C_region ?_
 refine Jq (q_loadA tb rfl rfl bxo rfl rfl) ?_
 refine L_call tb rfl rfl (ct_shotlineref02_Seconds nm sf v u gs ls H) (ps_cons gvo (ps_cons gvo no_ps)) rfl ?_
 refine Jq (q_assign rfl) ?_
 refine L_then ?_
 refine C_seq ?_
 refine C_region ?_
 refine Jq (q_move rfl) ?_
 refine Jq (q_leq rfl rfl) ?_
 refine Jq (q_move rfl) ?_
 refine L_dec (d := 14) rfl (fun h3 => ?_) (fun h3 => ?_)
 iterate 2 refine Jk ?_
 refine Jq (q_pickT rfl rfl) ?_
 refine Jq (q_assign rfl) ?_
 refine L_then ?_
 refine C_ret ?_
 exact ret_of (res1 rfl rfl) sub_nil (by intro r hr; cases hr) ⟨(by first | exact congrArg Value.bool (decide_eq_true (p := briefP nm sf gs ls) ⟨hsh, by omega⟩).symm | exact congrArg Value.bool (decide_eq_decide.2 ⟨fun hh => ⟨hsh, by omega⟩, fun hh => by have h9 := hh.2; omega⟩)), rfl⟩
 refine Jg (q_move rfl) ?_
 refine Jg (q_gtr rfl rfl) ?_
 refine Jq (q_pickF rfl rfl) ?_
 refine Jq (q_assign rfl) ?_
 refine L_then ?_
 refine C_ret ?_
 exact ret_of (res1 rfl rfl) sub_nil (by intro r hr; cases hr) ⟨(by first | exact congrArg Value.bool (decide_eq_true (p := briefP nm sf gs ls) ⟨hsh, by omega⟩).symm | exact congrArg Value.bool (decide_eq_decide.2 ⟨fun hh => ⟨hsh, by omega⟩, fun hh => by have h9 := hh.2; omega⟩)), rfl⟩
end Go.Proofs.Ytdmnejfpbbmcaaa
