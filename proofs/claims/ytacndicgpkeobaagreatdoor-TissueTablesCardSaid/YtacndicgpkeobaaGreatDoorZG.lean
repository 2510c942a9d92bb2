/-
  Walks: each function named returns what its model says. Conditions: those in front of each theorem.
-/
import Derived.Test.YtacndicgpkeobaaGreatDoorTE
import Derived.Test.YtacndicgpkeobaaGreatDoorRd3
import Derived.Test.YtacndicgpkeobaaGreatDoorB
import Derived.Test.YtacndicgpkeobaaGreatDoorAP
namespace Go.Proofs.YtacndicgpkeobaaGreatDoor
open Go.RowKit

set_option maxRecDepth 100000 in
set_option maxHeartbeats 2000000 in
theorem ct_shotlineref03_Print (v : Value) (ts : List Cp) (hz : ckTab ts = 0) : Ct Tryz.prog 25 [v] [(v, 4, ts.map cCp)] (isV (.string (bs (pcT ts)))) := by
 refine Ct.of (N := 46) Tryz.func25 rfl rfl rfl fun w => ?_
 refine C_weak (E' := [(0, v)]) (rs' := [rd v 4 (ts.map cCp)]) ⟨rfl, trivial⟩ (fun _ h => h) ?_
 have hl := len_map cCp ts
 obtain ⟨hn16, hS⟩ := tab_ok hz
 refine C_seq ?_
 refine C_region ?_
 refine Jq (q_assign rfl) ?_
 refine L_then ?_
 refine C_seq ?_
 refine C_region ?_
 refine Jq (q_assign rfl) ?_
 refine L_then ?_
 refine C_seq ?_
 refine C_seq ?_
 refine C_region ?_
 refine Jq (q_assign rfl) ?_
 refine L_then ?_
 refine C_block ?_
 refine C_loop (ι := Nat) (fun k => ([(0, v), (3, .string (bs (pcK ts k))), (4, .int .i64 (k : Int))], [rd v 4 (ts.map cCp)])) (fun k => k ≤ ts.length) (fun k => ts.length - k) 0 (Nat.zero_le _) (fun a w hs => hs.weak ⟨rfl, rfl, rfl, trivial⟩ (fun h => h.pk (by repeat (first | with_reducible exact pk_nil | refine pk_box rfl ?_ | refine pk_rd rfl ?_ | refine pk_sl rfl ?_ | with_reducible refine pk_app ?_ | with_reducible refine pk_app0 ?_ | with_reducible refine pk_app0L ?_ | with_reducible exact pk_tl | refine pk_var ?_)))) ?_
 intro k hk
 dsimp only at hk ⊢
 refine C_seq ?_
 refine C_seq ?_
 refine C_region ?_
 refine Jq (q_move rfl) ?_
 refine Jq (q_move rfl) ?_
 refine Jq (q_len tb rfl rfl gvo) ?_
 refine Jq (q_lss rfl rfl) ?_
 refine L_then ?_
 refine C_dec rfl (fun h1 => ?_) (fun h1 => ?_)
 obtain ⟨y, he⟩ := get_some ts (k := k) (by omega); have hel := map_get cCp he; have hy := hS y (List.mem_of_getElem? he); have hpk := pcK_len hS k (by omega)
 have hn1 : (Lib.itoa y.n).length ≤ 21 := nuC_len hy 0
 have hn2 : (Lib.itoa y.h).length ≤ 21 := nuC_len hy 1
 have hn3 : (Lib.itoa y.b).length ≤ 21 := nuC_len hy 2
 have hn4 : (Lib.itoa y.s).length ≤ 21 := nuC_len hy 3
 obtain ⟨q1, q2, q3, q4, q5, q6, q7, q8⟩ := hy
 refine C_skip_then ?_
 refine C_seq ?_
 refine C_block ?_
 refine C_draw (n := 34) [(0, false), (1, false), (2, false), (3, false), (4, false), (5, false), (6, false), (10, false), (11, false), (12, false), (13, false), (14, false), (18, false), (19, false), (20, false), (21, false), (22, false), (26, false), (27, false), (28, false), (29, false), (30, false), (7, true), (8, false), (9, false), (15, true), (16, false), (17, false), (23, true), (24, false), (25, false), (31, true), (32, false), (33, false)] mixed (by kernel_rfl) ?_
 refine Yq rfl (q_move rfl) ?_
 refine Yq rfl (t_cat (a := (pcK ts k)) (b := [116, 105, 115, 115, 117, 101, 32]) (r := ((pcK ts k) ++ [116, 105, 115, 115, 117, 101, 32])) rfl rfl (by simp only [List.length_append, List.length_cons, List.length_nil]; omega) rfl) ?_
 refine Yq rfl (q_move rfl) ?_
 refine Yq rfl (q_move rfl) ?_
 refine Yq rfl (by first | exact q_index tb rfl rfl rfl rfl gvo (by omega) (by first | omega | (simp; done) | (simp; omega)) | exact q_indexP tb rfl rfl rfl rfl (by omega) (by omega)) ?_
 refine Yq rfl (q_fieldE tb rfl rfl rfl gvo (by first | omega | (simp; done) | (simp; omega))) ?_
 refine Yq rfl (q_loadE tb rfl rfl gvo (i := k) (o := 0) (by omega) hel rfl) ?_
 refine Yq rfl (q_move rfl) ?_
 refine Yq rfl (q_move rfl) ?_
 refine Yq rfl (by first | exact q_index tb rfl rfl rfl rfl gvo (by omega) (by first | omega | (simp; done) | (simp; omega)) | exact q_indexP tb rfl rfl rfl rfl (by omega) (by omega)) ?_
 refine Yq rfl (q_fieldE tb rfl rfl rfl gvo (by first | omega | (simp; done) | (simp; omega))) ?_
 refine Yq rfl (q_loadE tb rfl rfl gvo (i := k) (o := 1) (by omega) hel rfl) ?_
 refine Yq rfl (q_move rfl) ?_
 refine Yq rfl (q_move rfl) ?_
 refine Yq rfl (by first | exact q_index tb rfl rfl rfl rfl gvo (by omega) (by first | omega | (simp; done) | (simp; omega)) | exact q_indexP tb rfl rfl rfl rfl (by omega) (by omega)) ?_
 refine Yq rfl (q_fieldE tb rfl rfl rfl gvo (by first | omega | (simp; done) | (simp; omega))) ?_
 refine Yq rfl (q_loadE tb rfl rfl gvo (i := k) (o := 2) (by omega) hel rfl) ?_
 refine Yq rfl (q_move rfl) ?_
 refine Yq rfl (q_move rfl) ?_
 refine Yq rfl (by first | exact q_index tb rfl rfl rfl rfl gvo (by omega) (by first | omega | (simp; done) | (simp; omega)) | exact q_indexP tb rfl rfl rfl rfl (by omega) (by omega)) ?_
 refine Yq rfl (q_fieldE tb rfl rfl rfl gvo (by first | omega | (simp; done) | (simp; omega))) ?_
 refine Yq rfl (q_loadE tb rfl rfl gvo (i := k) (o := 3) (by omega) hel rfl) ?_
 refine W_call tb rfl rfl rfl rfl (ct_DecT y.n (by omega)) no_ps rfl ?_
 refine Yq rfl (t_cat (a := ((pcK ts k) ++ [116, 105, 115, 115, 117, 101, 32])) (b := (Lib.itoa y.n)) (r := (((pcK ts k) ++ [116, 105, 115, 115, 117, 101, 32]) ++ (Lib.itoa y.n))) rfl rfl (by simp only [List.length_append, List.length_cons, List.length_nil]; omega) rfl) ?_
 refine Yq rfl (t_cat (a := (((pcK ts k) ++ [116, 105, 115, 115, 117, 101, 32]) ++ (Lib.itoa y.n))) (b := [32]) (r := ((((pcK ts k) ++ [116, 105, 115, 115, 117, 101, 32]) ++ (Lib.itoa y.n)) ++ [32])) rfl rfl (by simp only [List.length_append, List.length_cons, List.length_nil]; omega) rfl) ?_
 refine W_call tb rfl rfl rfl rfl (ct_DecT y.h (by omega)) no_ps rfl ?_
 refine Yq rfl (t_cat (a := ((((pcK ts k) ++ [116, 105, 115, 115, 117, 101, 32]) ++ (Lib.itoa y.n)) ++ [32])) (b := (Lib.itoa y.h)) (r := (((((pcK ts k) ++ [116, 105, 115, 115, 117, 101, 32]) ++ (Lib.itoa y.n)) ++ [32]) ++ (Lib.itoa y.h))) rfl rfl (by simp only [List.length_append, List.length_cons, List.length_nil]; omega) rfl) ?_
 refine Yq rfl (t_cat (a := (((((pcK ts k) ++ [116, 105, 115, 115, 117, 101, 32]) ++ (Lib.itoa y.n)) ++ [32]) ++ (Lib.itoa y.h))) (b := [32]) (r := ((((((pcK ts k) ++ [116, 105, 115, 115, 117, 101, 32]) ++ (Lib.itoa y.n)) ++ [32]) ++ (Lib.itoa y.h)) ++ [32])) rfl rfl (by simp only [List.length_append, List.length_cons, List.length_nil]; omega) rfl) ?_
 refine W_call tb rfl rfl rfl rfl (ct_DecT y.b (by omega)) no_ps rfl ?_
 refine Yq rfl (t_cat (a := ((((((pcK ts k) ++ [116, 105, 115, 115, 117, 101, 32]) ++ (Lib.itoa y.n)) ++ [32]) ++ (Lib.itoa y.h)) ++ [32])) (b := (Lib.itoa y.b)) (r := (((((((pcK ts k) ++ [116, 105, 115, 115, 117, 101, 32]) ++ (Lib.itoa y.n)) ++ [32]) ++ (Lib.itoa y.h)) ++ [32]) ++ (Lib.itoa y.b))) rfl rfl (by simp only [List.length_append, List.length_cons, List.length_nil]; omega) rfl) ?_
 refine Yq rfl (t_cat (a := (((((((pcK ts k) ++ [116, 105, 115, 115, 117, 101, 32]) ++ (Lib.itoa y.n)) ++ [32]) ++ (Lib.itoa y.h)) ++ [32]) ++ (Lib.itoa y.b))) (b := [32]) (r := ((((((((pcK ts k) ++ [116, 105, 115, 115, 117, 101, 32]) ++ (Lib.itoa y.n)) ++ [32]) ++ (Lib.itoa y.h)) ++ [32]) ++ (Lib.itoa y.b)) ++ [32])) rfl rfl (by simp only [List.length_append, List.length_cons, List.length_nil]; omega) rfl) ?_
 refine W_call tb rfl rfl rfl rfl (ct_DecT y.s (by omega)) no_ps rfl ?_
 refine Yq rfl (t_cat (a := ((((((((pcK ts k) ++ [116, 105, 115, 115, 117, 101, 32]) ++ (Lib.itoa y.n)) ++ [32]) ++ (Lib.itoa y.h)) ++ [32]) ++ (Lib.itoa y.b)) ++ [32])) (b := (Lib.itoa y.s)) (r := (((((((((pcK ts k) ++ [116, 105, 115, 115, 117, 101, 32]) ++ (Lib.itoa y.n)) ++ [32]) ++ (Lib.itoa y.h)) ++ [32]) ++ (Lib.itoa y.b)) ++ [32]) ++ (Lib.itoa y.s))) rfl rfl (by simp only [List.length_append, List.length_cons, List.length_nil]; omega) rfl) ?_
 refine Yq rfl (t_cat (a := (((((((((pcK ts k) ++ [116, 105, 115, 115, 117, 101, 32]) ++ (Lib.itoa y.n)) ++ [32]) ++ (Lib.itoa y.h)) ++ [32]) ++ (Lib.itoa y.b)) ++ [32]) ++ (Lib.itoa y.s))) (b := [10]) (r := (pcK ts (k + 1))) rfl rfl (by simp only [List.length_append, List.length_cons, List.length_nil]; omega) (pc_line he)) ?_
 refine W_nil ?_
 refine Jq (q_assign rfl) ?_
 refine L_blk ?_
 refine C_region ?_
 refine Jq (q_move rfl) ?_
 refine Jq (q_add rfl rfl (by first | exact IntWalk.i64_in _ (by omega) | rfl)) ?_
 refine Jq (q_assign rfl) ?_
 refine L_end ?_
 exact fun ac_ wo_ hs_ => ⟨k + 1, (by omega), (by dsimp only; omega), hs_.weak ⟨rfl, rfl, rfl, trivial⟩ (fun h_ => h_)⟩
 obtain rfl : k = ts.length := by omega
 refine C_exit ?_
 change C Tryz.prog _ _ _ _ _ _ _
 refine C_seq ?_
 refine C_region ?_
 refine Jq (q_move rfl) ?_
 refine Jq (q_assign rfl) ?_
 refine L_then ?_
 refine C_ret ?_
 exact ret_of (res1 rfl rfl) sub_nil (by intro r hr; cases hr) ⟨rfl, rfl⟩
set_option maxRecDepth 100000 in
theorem ct_shotlinelaw03_same (v u : Value) (ts : List Cp) (hle : ts.length ≤ 100000) : Ct Tryz.prog 26 [v, u] [(v, 4, ts.map cCp), (u, 4, ts.map cCp)] (isV (.bool true)) := by
 refine Ct.of (N := 26) Tryz.func26 rfl rfl rfl fun w => ?_
 refine C_weak (E' := [(0, v), (1, u)]) (rs' := [rd v 4 (ts.map cCp), rd u 4 (ts.map cCp)]) ⟨rfl, rfl, trivial⟩ (fun _ h => h) ?_
 have hl := len_map cCp ts
 refine C_seq ?_
 refine C_region ?_
 refine Jq (q_assign rfl) ?_
 refine L_then ?_
 refine C_seq ?_
 refine C_seq ?_
 refine C_region ?_
 refine Jq (q_move rfl) ?_
 refine Jq (q_len tb rfl rfl gvo) ?_
 refine Jq (q_move rfl) ?_
 refine Jq (q_len tb rfl rfl gvo) ?_
 refine Jq (q_false (q_neq rfl rfl) (decide_eq_false fun h => h rfl)) ?_
 refine L_then ?_
 refine C_false rfl ?_
 refine C_skip_then ?_
 refine C_seq ?_
 refine C_seq ?_
 refine C_region ?_
 refine Jq (q_assign rfl) ?_
 refine L_then ?_
 refine C_block ?_
 refine C_loop (ι := Nat) (fun k => ([(0, v), (1, u), (5, .int .i64 (k : Int))], [rd v 4 (ts.map cCp), rd u 4 (ts.map cCp)])) (fun k => k ≤ ts.length) (fun k => ts.length - k) 0 (Nat.zero_le _) (fun a w hs => hs.weak ⟨rfl, rfl, rfl, trivial⟩ (fun h => h.pk (by repeat (first | with_reducible exact pk_nil | refine pk_box rfl ?_ | refine pk_rd rfl ?_ | refine pk_sl rfl ?_ | with_reducible refine pk_app ?_ | with_reducible refine pk_app0 ?_ | with_reducible refine pk_app0L ?_ | with_reducible exact pk_tl | refine pk_var ?_)))) ?_
 intro k hk
 dsimp only at hk ⊢
 refine C_seq ?_
 refine C_seq ?_
 refine C_region ?_
 refine Jq (q_move rfl) ?_
 refine Jq (q_move rfl) ?_
 refine Jq (q_len tb rfl rfl gvo) ?_
 refine Jq (q_lss rfl rfl) ?_
 refine L_then ?_
 refine C_dec rfl (fun h2 => ?_) (fun h2 => ?_)
 obtain ⟨y, he⟩ := get_some ts (k := k) (by omega); have hel := map_get cCp he
 refine C_skip_then ?_
 refine C_seq ?_
 refine C_block ?_
 refine C_seq ?_
 refine C_draw (n := 9) [(0, false), (1, false), (2, false), (3, false), (4, false), (5, false), (6, false), (7, false), (8, false)] mixed (by kernel_rfl) ?_
 refine Yq rfl (q_move rfl) ?_
 refine Yq rfl (q_move rfl) ?_
 refine Yq rfl (by first | exact q_index tb rfl rfl rfl rfl gvo (by omega) (by first | omega | (simp; done) | (simp; omega)) | exact q_indexP tb rfl rfl rfl rfl (by omega) (by omega)) ?_
 refine Yq rfl (q_loadEA tb rfl rfl gvo (i := k) (o := 0) (by omega) hel rfl rfl) ?_
 refine Yq rfl (q_move rfl) ?_
 refine Yq rfl (q_move rfl) ?_
 refine Yq rfl (by first | exact q_index tb rfl rfl rfl rfl gvo (by omega) (by first | omega | (simp; done) | (simp; omega)) | exact q_indexP tb rfl rfl rfl rfl (by omega) (by omega)) ?_
 refine Yq rfl (q_loadEA tb rfl rfl gvo (i := k) (o := 0) (by omega) hel rfl rfl) ?_
 refine Yq rfl (q_false (q_neI (xs := [y.n, y.h, y.b, y.s]) (ys := [y.n, y.h, y.b, y.s]) eq120 (by omega) eg120 rfl rfl rfl rfl Iff.rfl) (by simp)) ?_
 refine W_nil ?_
 refine L_then ?_
 refine C_false rfl ?_
 refine C_skip_blk ?_
 refine C_region ?_
 refine Jq (q_move rfl) ?_
 refine Jq (q_add rfl rfl (by first | exact IntWalk.i64_in _ (by omega) | rfl)) ?_
 refine Jq (q_assign rfl) ?_
 refine L_end ?_
 exact fun ac_ wo_ hs_ => ⟨k + 1, (by omega), (by dsimp only; omega), hs_.weak ⟨rfl, rfl, rfl, trivial⟩ (fun h => h.pk (by repeat (first | with_reducible exact pk_nil | refine pk_box rfl ?_ | refine pk_rd rfl ?_ | refine pk_sl rfl ?_ | with_reducible refine pk_app ?_ | with_reducible refine pk_app0 ?_ | with_reducible refine pk_app0L ?_ | with_reducible exact pk_tl | refine pk_var ?_)))⟩
 refine C_exit ?_
 change C Tryz.prog _ _ _ _ _ _ _
 refine C_seq ?_
 refine C_region ?_
 refine Jq (q_assign rfl) ?_
 refine L_then ?_
 refine C_ret ?_
 exact ret_of (res1 rfl rfl) sub_nil (by intro r hr; cases hr) ⟨rfl, rfl⟩
end Go.Proofs.YtacndicgpkeobaaGreatDoor
