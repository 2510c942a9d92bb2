/-
  Walks: each function named returns what its model says. Conditions: those in front of each theorem.
-/
import Derived.Test.YtacndicgpkeobaaGreatDoorXG
import Derived.Test.YtacndicgpkeobaaGreatDoorXp3
import Derived.Test.YtacndicgpkeobaaGreatDoorShBool
namespace Go.Proofs.YtacndicgpkeobaaGreatDoor
open Go.RowKit

set_option maxRecDepth 100000 in
theorem ct_gas_checkSurface (n : Int) : Ct Tryz.prog 237 [.int .i64 n] [] (isV (.int .i64 (if 400 ≤ n ∧ n ≤ 1100 then 0 else 2))) := by
 refine Ct.of (N := 5) Tryz.func237 rfl rfl rfl fun w => ?_
 refine C_weak (E' := [(0, .int .i64 n)]) (rs' := []) ⟨rfl, trivial⟩ (fun _ h => h) ?_
 refine C_seq ?_
 refine C_region ?_
 refine Jq (q_assign rfl) ?_
 refine L_then ?_
 refine C_seq ?_
 refine C_region ?_
 refine Jq (q_move rfl) ?_
 refine L_call tb rfl rfl (ct_gas_bound _ _ _) no_ps rfl ?_
 refine Jq (q_assign rfl) ?_
 refine L_then ?_
 refine C_ret ?_
 exact ret_of (res1 rfl rfl) sub_nil (by intro r hr; cases hr) ⟨rfl, rfl⟩
set_option maxRecDepth 100000 in
theorem ct_gas_checkDepth (n : Int) : Ct Tryz.prog 238 [.int .i64 n] [] (isV (.int .i64 (if 0 ≤ n ∧ n ≤ 30000 then 0 else 2))) := by
 refine Ct.of (N := 5) Tryz.func238 rfl rfl rfl fun w => ?_
 refine C_weak (E' := [(0, .int .i64 n)]) (rs' := []) ⟨rfl, trivial⟩ (fun _ h => h) ?_
 refine C_seq ?_
 refine C_region ?_
 refine Jq (q_assign rfl) ?_
 refine L_then ?_
 refine C_seq ?_
 refine C_region ?_
 refine Jq (q_move rfl) ?_
 refine L_call tb rfl rfl (ct_gas_bound _ _ _) no_ps rfl ?_
 refine Jq (q_assign rfl) ?_
 refine L_then ?_
 refine C_ret ?_
 exact ret_of (res1 rfl rfl) sub_nil (by intro r hr; cases hr) ⟨rfl, rfl⟩
set_option maxRecDepth 100000 in
theorem ct_gas_checkPressure (n : Int) : Ct Tryz.prog 240 [.int .i64 n] [] (isV (.int .i64 (if 0 ≤ n ∧ n ≤ 100000 then 0 else 2))) := by
 refine Ct.of (N := 5) Tryz.func240 rfl rfl rfl fun w => ?_
 refine C_weak (E' := [(0, .int .i64 n)]) (rs' := []) ⟨rfl, trivial⟩ (fun _ h => h) ?_
 refine C_seq ?_
 refine C_region ?_
 refine Jq (q_assign rfl) ?_
 refine L_then ?_
 refine C_seq ?_
 refine C_region ?_
 refine Jq (q_move rfl) ?_
 refine L_call tb rfl rfl (ct_gas_bound _ _ _) no_ps rfl ?_
 refine Jq (q_assign rfl) ?_
 refine L_then ?_
 refine C_ret ?_
 exact ret_of (res1 rfl rfl) sub_nil (by intro r hr; cases hr) ⟨rfl, rfl⟩
set_option maxRecDepth 100000 in
theorem ct_gas_rounded (n b : Int) (h : 1 ≤ b ∧ b ≤ 2000000 ∧ 0 ≤ n ∧ n ≤ 1000000000000000) : Ct Tryz.prog 241 [.int .i64 n, .int .i64 b] [] (isV (.agg #[.int .i64 (n / b), .int .i64 (upZ n b)])) := by
 refine Ct.of (N := 27) Tryz.func241 rfl rfl rfl fun w => ?_
 refine C_weak (E' := [(0, .int .i64 n), (1, .int .i64 b)]) (rs' := []) ⟨rfl, rfl, trivial⟩ (fun _ h => h) ?_
 have hq0 := Int.ediv_nonneg (show 0 ≤ n by omega) (show 0 ≤ b by omega); have hq1 := Int.ediv_mul_le n (show b ≠ 0 by omega); have hq2 := Int.mul_nonneg hq0 (show 0 ≤ b by omega); have hq3 := Int.ediv_le_self b (show 0 ≤ n by omega); have hm0 := Int.tmod_nonneg b (show 0 ≤ n by omega)
 refine C_seq ?_
 refine C_region ?_
 refine L_alloc tb rfl rfl fun g4 => ?_
 refine L_then ?_
 refine C_seq ?_
 refine C_region ?_
 refine Jq (q_move rfl) ?_
 refine Jq (q_move rfl) ?_
 refine Jq (q_quo rfl rfl (by omega) (wr (b := n / b) (Int.tdiv_eq_ediv_of_nonneg (by omega)) (by omega))) ?_
 refine Jq (q_assign rfl) ?_
 refine L_then ?_
 refine C_seq ?_
 refine C_seq ?_
 refine C_region ?_
 refine Jq (q_move rfl) ?_
 refine Jq (q_move rfl) ?_
 refine Jq (q_rem rfl rfl (by omega) rfl) ?_
 refine Jq (q_lss rfl rfl) ?_
 refine L_then ?_
 refine C_dec rfl (fun h1 => ?_) (fun h1 => ?_)
 exfalso; omega
 refine C_skip_then ?_
 refine C_seq ?_
 refine C_seq ?_
 refine C_region ?_
 refine Jq (q_move rfl) ?_
 refine Jq (q_move rfl) ?_
 refine Jq (q_mul rfl rfl (by first | exact IntWalk.i64_in _ (by omega) | rfl)) ?_
 refine Jq (q_move rfl) ?_
 refine Jq (q_eql rfl rfl) ?_
 refine L_then ?_
 refine C_dec rfl (fun heq => ?_) (fun heq => ?_)
 refine C_seq ?_
 refine C_region ?_
 refine Jq (q_move rfl) ?_
 refine Jq (q_move rfl) ?_
 refine Jq (by first | exact q_build tb rfl rfl rfl rfl | exact q_buildArr tb rfl rfl rfl rfl rfl) ?_
 refine L_st tb rfl rfl ?_
 refine L_then ?_
 refine C_ret ?_
 rw [up_eq (by omega) heq]
 exact ret_of (resC tb rfl rfl rfl bxo rfl) sub_nil (by intro r hr; cases hr) ⟨rfl, rfl⟩
 refine C_skip_then ?_
 refine C_seq ?_
 refine C_region ?_
 refine Jq (q_move rfl) ?_
 refine Jq (q_move rfl) ?_
 refine Jq (q_add rfl rfl (by first | exact IntWalk.i64_in _ (by omega) | rfl)) ?_
 refine Jq (by first | exact q_build tb rfl rfl rfl rfl | exact q_buildArr tb rfl rfl rfl rfl rfl) ?_
 refine L_st tb rfl rfl ?_
 refine L_then ?_
 refine C_ret ?_
 rw [up_ne (by omega) heq]
 exact ret_of (resC tb rfl rfl rfl bxo rfl) sub_nil (by intro r hr; cases hr) ⟨rfl, rfl⟩
set_option maxRecDepth 100000 in
theorem ct_gas_deeper (n b sf : Int) (h : 1 ≤ b ∧ b ≤ 2000000 ∧ 0 ≤ n ∧ n ≤ 1000000000000000) (hs : 0 ≤ sf ∧ sf ≤ 2000) : Ct Tryz.prog 239 [.int .i64 n, .int .i64 b, .int .i64 sf] [] (isV (.agg #[.int .i64 (max 0 (n / b - sf)), .int .i64 (max 0 (upZ n b - sf))])) := by
 refine Ct.of (N := 22) Tryz.func239 rfl rfl rfl fun w => ?_
 refine C_weak (E' := [(0, .int .i64 n), (1, .int .i64 b), (2, .int .i64 sf)]) (rs' := []) ⟨rfl, rfl, rfl, trivial⟩ (fun _ h => h) ?_
 have hq0 := Int.ediv_nonneg (show 0 ≤ n by omega) (show 0 ≤ b by omega); have hq3 := Int.ediv_le_self b (show 0 ≤ n by omega); have hup := upZ_in (N := n) (show 0 ≤ n ∧ n ≤ n by omega) h.1
 refine C_seq ?_
 refine C_region ?_
 refine L_alloc tb rfl rfl fun g6 => ?_
 refine L_then ?_
 refine C_seq ?_
 refine C_region ?_
 refine Jq (q_move rfl) ?_
 refine Jq (q_move rfl) ?_
 refine L_call tb rfl rfl (ct_gas_rounded n b h) no_ps rfl ?_
 refine L_alloc tb rfl rfl fun g7 => ?_
 refine L_st tb rfl rfl ?_
 refine L_then ?_
 refine C_seq ?_
 refine C_region ?_
 refine Jq (q_field tb rfl rfl rfl) ?_
 refine Jq (q_load tb rfl rfl bxo rfl) ?_
 refine Jq (q_move rfl) ?_
 refine Jq (q_sub rfl rfl (by first | exact IntWalk.i64_in _ (by omega) | rfl)) ?_
 refine Jq (q_max rfl rfl) ?_
 refine Jq (q_field tb rfl rfl rfl) ?_
 refine Jq (q_load tb rfl rfl bxo rfl) ?_
 refine Jq (q_move rfl) ?_
 refine Jq (q_sub rfl rfl (by first | exact IntWalk.i64_in _ (by omega) | rfl)) ?_
 refine Jq (q_max rfl rfl) ?_
 refine Jq (by first | exact q_build tb rfl rfl rfl rfl | exact q_buildArr tb rfl rfl rfl rfl rfl) ?_
 refine L_st tb rfl rfl ?_
 refine L_then ?_
 refine C_ret ?_
 exact ret_of (resC tb rfl rfl rfl bxo rfl) sub_nil (by intro r hr; cases hr) ⟨rfl, rfl⟩
set_option maxRecDepth 100000 in
theorem ct_gas_parts (g : Gs) (hg : 0 ≤ g.o ∧ 0 ≤ g.h ∧ g.o + g.h ≤ 1000) : Ct Tryz.prog 265 [.agg (cGs g).toArray] [] (isV (.agg #[.int .i64 g.o, .int .i64 g.h, .int .i64 (1000 - g.o - g.h)])) := by
 refine Ct.of (N := 14) Tryz.func265 rfl rfl rfl fun w => ?_
 refine C_weak (E' := [(0, .agg (cGs g).toArray)]) (rs' := []) ⟨rfl, trivial⟩ (fun _ h => h) ?_
 refine C_seq ?_
 refine C_region ?_
 refine L_box rfl rfl rfl fun g1 => ?_
 refine L_alloc tb rfl rfl fun g2 => ?_
 refine L_then ?_
 refine C_seq ?_
 refine C_region ?_
 refine Jq (q_field tb rfl rfl rfl) ?_
 refine Jq (q_load tb rfl rfl bxo rfl) ?_
 refine Jq (q_field tb rfl rfl rfl) ?_
 refine Jq (q_load tb rfl rfl bxo rfl) ?_
 refine Jq (q_field tb rfl rfl rfl) ?_
 refine Jq (q_load tb rfl rfl bxo rfl) ?_
 refine Jq (q_sub rfl rfl (by first | exact IntWalk.i64_in _ (by omega) | rfl)) ?_
 refine Jq (q_field tb rfl rfl rfl) ?_
 refine Jq (q_load tb rfl rfl bxo rfl) ?_
 refine Jq (q_sub rfl rfl (by first | exact IntWalk.i64_in _ (by omega) | rfl)) ?_
 refine Jq (by first | exact q_build tb rfl rfl rfl rfl | exact q_buildArr tb rfl rfl rfl rfl rfl) ?_
 refine L_st tb rfl rfl ?_
 refine L_then ?_
 refine C_ret ?_
 exact ret_of (resC tb rfl rfl rfl bxo rfl) sub_nil (by intro r hr; cases hr) ⟨rfl, rfl⟩
set_option maxRecDepth 100000 in
theorem ct_gas_weight (g : Gs) (hg : 0 ≤ g.o ∧ 0 ≤ g.h ∧ g.o + g.h ≤ 1000) : Ct Tryz.prog 242 [.agg (cGs g).toArray] [] (isV (.int .i64 (wgM g))) := by
 refine Ct.of (N := 21) Tryz.func242 rfl rfl rfl fun w => ?_
 refine C_weak (E' := [(0, .agg (cGs g).toArray)]) (rs' := []) ⟨rfl, trivial⟩ (fun _ h => h) ?_
 refine C_seq ?_
 refine C_region ?_
 refine L_box rfl rfl rfl fun g1 => ?_
 refine Jq (q_assign rfl) ?_
 refine L_then ?_
 refine C_seq ?_
 refine C_region ?_
 refine Jq (q_assign rfl) ?_
 refine L_then ?_
 refine C_seq ?_
 refine C_seq ?_
 refine C_region ?_
 refine Jq (q_loadA tb rfl rfl bxo rfl rfl) ?_
 refine L_call tb rfl rfl (ct_gas_parts g hg) no_ps rfl ?_
 refine Jq (q_move rfl) ?_
 refine L_then ?_
 refine C_block ?_
 refine C_loop (ι := Nat) (fun k => ([(3, .int .i64 (wgK g k)), (7, .agg #[.int .i64 g.o, .int .i64 g.h, .int .i64 (1000 - g.o - g.h)]), (8, .int .i64 (k : Int))], [])) (fun k => k ≤ 3) (fun k => 3 - k) 0 (Nat.zero_le _) (fun a w hs => hs.weak ⟨rfl, rfl, rfl, trivial⟩ (fun h => h.pk (by repeat (first | with_reducible exact pk_nil | refine pk_box rfl ?_ | refine pk_rd rfl ?_ | refine pk_sl rfl ?_ | with_reducible refine pk_app ?_ | with_reducible refine pk_app0 ?_ | with_reducible refine pk_app0L ?_ | with_reducible exact pk_tl | refine pk_var ?_)))) ?_
 intro k hk
 dsimp only at hk ⊢
 refine C_seq ?_
 refine C_region ?_
 refine Jq (q_lss rfl rfl) ?_
 refine L_then ?_
 refine C_seq ?_
 refine C_dec rfl (fun h1 => ?_) (fun h1 => ?_)
 obtain rfl | rfl | rfl : k = 0 ∨ k = 1 ∨ k = 2 := by omega
 refine C_skip_then ?_
 refine C_seq ?_
 refine C_block ?_
 refine C_seq ?_
 refine C_region ?_
 refine Jq (q_move rfl) ?_
 refine Jq (q_indexV tb rfl rfl rfl rfl (by omega) (by omega) rfl) ?_
 refine Jq (q_assign rfl) ?_
 refine Jq (q_assign rfl) ?_
 refine L_then ?_
 refine C_region ?_
 refine Jq (q_move rfl) ?_
 refine Jq (q_move rfl) ?_
 refine Jq (by first | exact q_build tb rfl rfl rfl rfl | exact q_buildArr tb rfl rfl rfl rfl rfl) ?_
 refine Jq (q_move rfl) ?_
 refine Jq (q_indexV tb rfl rfl rfl rfl (by omega) (by omega) rfl) ?_
 refine Jq (q_mul rfl rfl (by first | exact IntWalk.i64_in _ (by omega) | rfl)) ?_
 have hw9 : wgK g 0 = 0 := rfl
 refine Jq (q_add rfl rfl (by first | exact IntWalk.i64_in _ (by omega) | rfl)) ?_
 refine Jq (q_assign rfl) ?_
 refine L_blk ?_
 refine C_region ?_
 refine Jq (q_add rfl rfl (by first | exact IntWalk.i64_in _ (by omega) | rfl)) ?_
 refine Jq (q_move rfl) ?_
 refine L_end ?_
 exact fun ac_ wo_ hs_ => ⟨1, (by decide), (by decide), hs_.weak ⟨en (by show 0 + g.o * 1429 = g.o * 1429; omega), rfl, rfl, trivial⟩ (fun h => h.pk (by repeat (first | with_reducible exact pk_nil | refine pk_box rfl ?_ | refine pk_rd rfl ?_ | refine pk_sl rfl ?_ | with_reducible refine pk_app ?_ | with_reducible refine pk_app0 ?_ | with_reducible refine pk_app0L ?_ | with_reducible exact pk_tl | refine pk_var ?_)))⟩
 refine C_skip_then ?_
 refine C_seq ?_
 refine C_block ?_
 refine C_seq ?_
 refine C_region ?_
 refine Jq (q_move rfl) ?_
 refine Jq (q_indexV tb rfl rfl rfl rfl (by omega) (by omega) rfl) ?_
 refine Jq (q_assign rfl) ?_
 refine Jq (q_assign rfl) ?_
 refine L_then ?_
 refine C_region ?_
 refine Jq (q_move rfl) ?_
 refine Jq (q_move rfl) ?_
 refine Jq (by first | exact q_build tb rfl rfl rfl rfl | exact q_buildArr tb rfl rfl rfl rfl rfl) ?_
 refine Jq (q_move rfl) ?_
 refine Jq (q_indexV tb rfl rfl rfl rfl (by omega) (by omega) rfl) ?_
 refine Jq (q_mul rfl rfl (by first | exact IntWalk.i64_in _ (by omega) | rfl)) ?_
 have hw9 : wgK g 1 = g.o * 1429 := rfl
 refine Jq (q_add rfl rfl (by first | exact IntWalk.i64_in _ (by omega) | rfl)) ?_
 refine Jq (q_assign rfl) ?_
 refine L_blk ?_
 refine C_region ?_
 refine Jq (q_add rfl rfl (by first | exact IntWalk.i64_in _ (by omega) | rfl)) ?_
 refine Jq (q_move rfl) ?_
 refine L_end ?_
 exact fun ac_ wo_ hs_ => ⟨2, (by decide), (by decide), hs_.weak ⟨rfl, rfl, rfl, trivial⟩ (fun h => h.pk (by repeat (first | with_reducible exact pk_nil | refine pk_box rfl ?_ | refine pk_rd rfl ?_ | refine pk_sl rfl ?_ | with_reducible refine pk_app ?_ | with_reducible refine pk_app0 ?_ | with_reducible refine pk_app0L ?_ | with_reducible exact pk_tl | refine pk_var ?_)))⟩
 refine C_skip_then ?_
 refine C_seq ?_
 refine C_block ?_
 refine C_seq ?_
 refine C_region ?_
 refine Jq (q_move rfl) ?_
 refine Jq (q_indexV tb rfl rfl rfl rfl (by omega) (by omega) rfl) ?_
 refine Jq (q_assign rfl) ?_
 refine Jq (q_assign rfl) ?_
 refine L_then ?_
 refine C_region ?_
 refine Jq (q_move rfl) ?_
 refine Jq (q_move rfl) ?_
 refine Jq (by first | exact q_build tb rfl rfl rfl rfl | exact q_buildArr tb rfl rfl rfl rfl rfl) ?_
 refine Jq (q_move rfl) ?_
 refine Jq (q_indexV tb rfl rfl rfl rfl (by omega) (by omega) rfl) ?_
 refine Jq (q_mul rfl rfl (by first | exact IntWalk.i64_in _ (by omega) | rfl)) ?_
 have hw9 : wgK g 2 = g.o * 1429 + g.h * 179 := rfl
 refine Jq (q_add rfl rfl (by first | exact IntWalk.i64_in _ (by omega) | rfl)) ?_
 refine Jq (q_assign rfl) ?_
 refine L_blk ?_
 refine C_region ?_
 refine Jq (q_add rfl rfl (by first | exact IntWalk.i64_in _ (by omega) | rfl)) ?_
 refine Jq (q_move rfl) ?_
 refine L_end ?_
 exact fun ac_ wo_ hs_ => ⟨3, (by decide), (by decide), hs_.weak ⟨rfl, rfl, rfl, trivial⟩ (fun h => h.pk (by repeat (first | with_reducible exact pk_nil | refine pk_box rfl ?_ | refine pk_rd rfl ?_ | refine pk_sl rfl ?_ | with_reducible refine pk_app ?_ | with_reducible refine pk_app0 ?_ | with_reducible refine pk_app0L ?_ | with_reducible exact pk_tl | refine pk_var ?_)))⟩
 refine C_exit ?_
 change C Tryz.prog _ _ _ _ _ _ _
 refine C_seq ?_
 refine C_region ?_
 refine Jq (q_move rfl) ?_
 refine Jq (q_assign rfl) ?_
 refine L_then ?_
 refine C_ret ?_
 obtain rfl : k = 3 := by omega
 exact ret_of (res1 rfl rfl) sub_nil (by intro r hr; cases hr) ⟨rfl, rfl⟩
set_option maxRecDepth 100000 in
theorem ct_gas_EquivalentNarcotic (g : Gs) (sf d : Int) (hg : ckGas g.o g.h = 0) (hs : 400 ≤ sf ∧ sf ≤ 1100) (hd : 0 ≤ d ∧ d ≤ 30000) : Ct Tryz.prog 198 [.agg (cGs g).toArray, .int .i64 sf, .int .i64 d] [] (isV (.tuple #[.agg #[.int .i64 (narM g sf d).lo, .int .i64 (narM g sf d).hi], .int .i64 0])) := by
 refine Ct.of (N := 30) Tryz.func198 rfl rfl rfl fun w => ?_
 refine C_weak (E' := [(0, .agg (cGs g).toArray), (1, .int .i64 sf), (2, .int .i64 d)]) (rs' := []) ⟨rfl, rfl, rfl, trivial⟩ (fun _ h => h) ?_
 have hgk := ckGas_ok hg
 have hnf := nar_fact (g := g) (q := sf + d) (by omega) (by omega)
 have hfe : firstE [ckGas g.o g.h, if 400 ≤ sf ∧ sf ≤ 1100 then 0 else 2, if 0 ≤ d ∧ d ≤ 30000 then 0 else 2] = 0 := by rw [hg, if_pos hs, if_pos hd]; rfl
 refine C_seq ?_
 refine C_region ?_
 refine L_box rfl rfl rfl fun g3 => ?_
 refine L_alloc tb rfl rfl fun g6 => ?_
 refine Jq (q_assign rfl) ?_
 refine L_then ?_
 refine C_seq ?_
 refine C_seq ?_
 refine C_region ?_
 refine Jq (q_loadA tb rfl rfl bxo rfl rfl) ?_
 refine L_call tb rfl rfl (ct_gas_CheckGas g.o g.h) no_ps rfl ?_
 refine Jq (q_move rfl) ?_
 refine L_call tb rfl rfl (ct_gas_checkSurface _) no_ps rfl ?_
 refine Jq (q_move rfl) ?_
 refine L_call tb rfl rfl (ct_gas_checkDepth _) no_ps rfl ?_
 refine L_mk (lo_bslice tb rfl rfl rfl (xs := [[_], [_], [_]]) rfl rfl (by simp) rfl (by omega) rfl) rfl rfl rfl fun v15 => ?_
 refine L_call tb rfl rfl (ct_gas_first _ [_, _, _] (by simp)) (ps_cons gvo no_ps) rfl ?_
 rw [hfe]
 refine Jq (q_assign rfl) ?_
 refine L_then ?_
 refine C_seq ?_
 refine C_region ?_
 refine Jq (q_move rfl) ?_
 refine Jq (q_false (q_neq rfl rfl) (by simp)) ?_
 refine L_then ?_
 refine C_false rfl ?_
 refine C_skip_then ?_
 refine C_seq ?_
 refine C_region ?_
 refine Jq (q_field tb rfl rfl rfl) ?_
 refine Jq (q_load tb rfl rfl bxo rfl) ?_
 refine Jq (q_sub rfl rfl (by first | exact IntWalk.i64_in _ (by omega) | rfl)) ?_
 refine Jq (q_move rfl) ?_
 refine Jq (q_move rfl) ?_
 refine Jq (q_add rfl rfl (by first | exact IntWalk.i64_in _ (by omega) | rfl)) ?_
 refine Jq (q_mul rfl rfl (by first | exact IntWalk.i64_in _ (by omega) | rfl)) ?_
 refine Jq (q_move rfl) ?_
 refine L_call tb rfl rfl (ct_gas_deeper ((1000 - g.h) * (sf + d)) 1000 sf (by omega) (by omega)) no_ps rfl ?_
 refine L_st tb rfl rfl ?_
 refine Jq (q_assign rfl) ?_
 refine L_then ?_
 refine C_ret ?_
 exact ret_of (resCT tb rfl rfl rfl rfl bxo rfl) sub_nil (by intro r hr; cases hr) ⟨rfl, rfl⟩
set_option maxRecDepth 100000 in
theorem ct_gas_Density (g : Gs) (p : Int) (hg : ckGas g.o g.h = 0) (hp : 0 ≤ p ∧ p ≤ 100000) : Ct Tryz.prog 199 [.agg (cGs g).toArray, .int .i64 p] [] (isV (.tuple #[.agg #[.int .i64 (denM g p).lo, .int .i64 (denM g p).hi], .int .i64 0])) := by
 refine Ct.of (N := 22) Tryz.func199 rfl rfl rfl fun w => ?_
 refine C_weak (E' := [(0, .agg (cGs g).toArray), (1, .int .i64 p)]) (rs' := []) ⟨rfl, rfl, trivial⟩ (fun _ h => h) ?_
 have hgk := ckGas_ok hg
 have hwf := wg_fact (g := g) (p := p) (by omega) hp
 have hfe : firstE [ckGas g.o g.h, if 0 ≤ p ∧ p ≤ 100000 then 0 else 2] = 0 := by rw [hg, if_pos hp]; rfl
 refine C_seq ?_
 refine C_region ?_
 refine L_box rfl rfl rfl fun g2 => ?_
 refine L_alloc tb rfl rfl fun g4 => ?_
 refine Jq (q_assign rfl) ?_
 refine L_then ?_
 refine C_seq ?_
 refine C_seq ?_
 refine C_region ?_
 refine Jq (q_loadA tb rfl rfl bxo rfl rfl) ?_
 refine L_call tb rfl rfl (ct_gas_CheckGas g.o g.h) no_ps rfl ?_
 refine Jq (q_move rfl) ?_
 refine L_call tb rfl rfl (ct_gas_checkPressure _) no_ps rfl ?_
 refine L_mk (lo_bslice tb rfl rfl rfl (xs := [[_], [_]]) rfl rfl (by simp) rfl (by omega) rfl) rfl rfl rfl fun v11 => ?_
 refine L_call tb rfl rfl (ct_gas_first _ [_, _] (by simp)) (ps_cons gvo no_ps) rfl ?_
 rw [hfe]
 refine Jq (q_assign rfl) ?_
 refine L_then ?_
 refine C_seq ?_
 refine C_region ?_
 refine Jq (q_move rfl) ?_
 refine Jq (q_false (q_neq rfl rfl) (by simp)) ?_
 refine L_then ?_
 refine C_false rfl ?_
 refine C_skip_then ?_
 refine C_seq ?_
 refine C_region ?_
 refine Jq (q_loadA tb rfl rfl bxo rfl rfl) ?_
 refine L_call tb rfl rfl (ct_gas_weight g (by omega)) no_ps rfl ?_
 refine Jq (q_move rfl) ?_
 refine Jq (q_mul rfl rfl (by first | exact IntWalk.i64_in _ (by omega) | rfl)) ?_
 refine L_call tb rfl rfl (ct_gas_rounded (wgM g * p) 1013000 (by omega)) no_ps rfl ?_
 refine L_st tb rfl rfl ?_
 refine Jq (q_assign rfl) ?_
 refine L_then ?_
 refine C_ret ?_
 exact ret_of (resCT tb rfl rfl rfl rfl bxo rfl) sub_nil (by intro r hr; cases hr) ⟨rfl, rfl⟩
set_option maxRecDepth 100000 in
theorem ct_exposure_poor (t : Value) (g : Gs) (p : Int) (r : Ru) (hg : 0 ≤ g.o ∧ 0 ≤ g.h ∧ g.o + g.h ≤ 1000) (hp : 0 ≤ p ∧ p ≤ 100000) (HR : okRu r) : Ct Tryz.prog 157 [.agg (cGs g).toArray, .int .i64 p, .agg (cRu t r).toArray] [(t, 2, r.tb.map cOw)] (isV (.bool (decide (poorP g p r)))) := by
 refine Ct.of (N := 16) Tryz.func157 rfl rfl rfl fun w => ?_
 refine C_weak (E' := [(0, .agg (cGs g).toArray), (1, .int .i64 p), (2, .agg (cRu t r).toArray)]) (rs' := [rd t 2 (r.tb.map cOw)]) ⟨rfl, rfl, rfl, trivial⟩ (fun _ h => h) ?_
 have hox := mulB (a := g.o) (b := p) (A := 1000) (B := 100000) (by omega) (by omega)
 have hli := HR.li
 refine C_seq ?_
 refine C_region ?_
 refine L_box rfl rfl rfl fun g3 => ?_
 refine L_box rfl rfl rfl fun g5 => ?_
 refine Jq (q_assign rfl) ?_
 refine L_then ?_
 refine C_seq ?_
 refine C_region ?_
 refine Jq (q_field tb rfl rfl rfl) ?_
 refine Jq (q_load tb rfl rfl bxo rfl) ?_
 refine Jq (q_move rfl) ?_
 refine Jq (q_mul rfl rfl (by first | exact IntWalk.i64_in _ (by omega) | rfl)) ?_
 refine Jq (q_field tb rfl rfl rfl) ?_
 refine Jq (q_field tb rfl rfl rfl) ?_
 refine Jq (q_load tb rfl rfl bxo rfl) ?_
 refine Jq (q_mul rfl rfl (by first | exact IntWalk.i64_in _ (by omega) | rfl)) ?_
 refine Jq (q_lss rfl rfl) ?_
 refine Jq (q_assign rfl) ?_
 refine L_then ?_
 refine C_ret ?_
 exact ret_of (res1 rfl rfl) sub_nil (by intro r hr; cases hr) ⟨rfl, rfl⟩
set_option maxRecDepth 100000 in
theorem ct_exposure_heavy (t : Value) (g : Gs) (sf p : Int) (r : Ru) (hg : ckGas g.o g.h = 0) (hs : 400 ≤ sf ∧ sf ≤ 1100) (hp : sf ≤ p ∧ p ≤ sf + 30000) (HR : okRu r) : Ct Tryz.prog 159 [.agg (cGs g).toArray, .int .i64 sf, .int .i64 p, .agg (cRu t r).toArray] [(t, 2, r.tb.map cOw)] (isV (.agg #[.bool (richB g p r), .bool (narcB g sf p r), .bool (denB g p r)])) := by
 refine Ct.of (N := 48) Tryz.func159 rfl rfl rfl fun w => ?_
 refine C_weak (E' := [(0, .agg (cGs g).toArray), (1, .int .i64 sf), (2, .int .i64 p), (3, .agg (cRu t r).toArray)]) (rs' := [rd t 2 (r.tb.map cOw)]) ⟨rfl, rfl, rfl, rfl, trivial⟩ (fun _ h => h) ?_
 have hgk := ckGas_ok hg
 have hox := mulB (a := g.o) (b := p) (A := 1000) (B := 100000) (by omega) (by omega)
 have hli := HR.li
 refine C_seq ?_
 refine C_region ?_
 refine L_box rfl rfl rfl fun g4 => ?_
 refine L_box rfl rfl rfl fun g7 => ?_
 refine L_alloc tb rfl rfl fun g8 => ?_
 refine L_then ?_
 refine C_seq ?_
 refine C_region ?_
 refine Jq (q_loadA tb rfl rfl bxo rfl rfl) ?_
 refine Jq (q_move rfl) ?_
 refine Jq (q_move rfl) ?_
 refine Jq (q_move rfl) ?_
 refine Jq (q_sub rfl rfl (by first | exact IntWalk.i64_in _ (by omega) | rfl)) ?_
 refine L_call tb rfl rfl (ct_gas_EquivalentNarcotic g sf (p - sf) hg hs (by omega)) no_ps rfl ?_
 refine Jq (q_move rfl) ?_
 refine Jq (q_ext0 rfl) ?_
 refine Jq (q_ext1 rfl) ?_
 refine L_alloc tb rfl rfl fun g9 => ?_
 refine L_st tb rfl rfl ?_
 refine Jq (q_assign rfl) ?_
 refine L_then ?_
 refine C_seq ?_
 refine C_region ?_
 refine Jq (q_loadA tb rfl rfl bxo rfl rfl) ?_
 refine Jq (q_move rfl) ?_
 refine L_call tb rfl rfl (ct_gas_Density g p hg (by omega)) no_ps rfl ?_
 refine Jq (q_move rfl) ?_
 refine Jq (q_ext0 rfl) ?_
 refine Jq (q_ext1 rfl) ?_
 refine L_alloc tb rfl rfl fun g11 => ?_
 refine L_st tb rfl rfl ?_
 refine Jq (q_assign rfl) ?_
 refine L_then ?_
 refine C_seq ?_
 refine C_region ?_
 refine Jq (q_field tb rfl rfl rfl) ?_
 refine Jq (q_load tb rfl rfl bxo rfl) ?_
 refine Jq (q_move rfl) ?_
 refine Jq (q_mul rfl rfl (by first | exact IntWalk.i64_in _ (by omega) | rfl)) ?_
 refine Jq (q_field tb rfl rfl rfl) ?_
 refine Jq (q_field tb rfl rfl rfl) ?_
 refine Jq (q_load tb rfl rfl bxo rfl) ?_
 refine Jq (q_mul rfl rfl (by first | exact IntWalk.i64_in _ (by omega) | rfl)) ?_
 refine Jq (q_gtr rfl rfl) ?_
 refine Jq (q_field tb rfl rfl rfl) ?_
 refine Jq (q_load tb rfl rfl bxo rfl) ?_
 refine Jq (q_field tb rfl rfl rfl) ?_
 refine Jq (q_load tb rfl rfl bxo rfl) ?_
 refine Jq (q_gtr rfl rfl) ?_
 refine Jq (q_field tb rfl rfl rfl) ?_
 refine Jq (q_load tb rfl rfl bxo rfl) ?_
 refine Jq (q_field tb rfl rfl rfl) ?_
 refine Jq (q_load tb rfl rfl bxo rfl) ?_
 refine Jq (q_gtr rfl rfl) ?_
 refine Jq (by first | exact q_build tb rfl rfl rfl rfl | exact q_buildArr tb rfl rfl rfl rfl rfl) ?_
 refine L_st tb rfl rfl ?_
 refine L_then ?_
 refine C_ret ?_
 exact ret_of (resC tb rfl rfl rfl bxo rfl) sub_nil (by intro r hr; cases hr) ⟨rfl, rfl⟩
set_option maxRecDepth 100000 in
theorem ct_exposure_DepthsOf_1 (b d c t : Value) (g : Gs) (sf : Int) (r : Ru) (i : Nat) (hi : i < 30001) (hg : ckGas g.o g.h = 0) (hs : 400 ≤ sf ∧ sf ≤ 1100) (HR : okRu r) : Ct Tryz.prog 156 [.int .i64 (i : Int), elP b 0, elP d 0, elP c 0] [(b, 2, [cGs g]), (d, 1, [cI sf]), (c, 9, [cRu t r]), (t, 2, r.tb.map cOw)] (isV (.bool (notPoor g sf r i))) := by
 refine Ct.of (N := 13) Tryz.func156 rfl rfl rfl fun w => ?_
 refine C_weak (E' := [(0, .int .i64 (i : Int)), (1, elP b 0), (2, elP d 0), (3, elP c 0)]) (rs' := [rd b 2 ([cGs g]), rd d 1 ([cI sf]), rd c 9 ([cRu t r]), rd t 2 (r.tb.map cOw)]) ⟨rfl, rfl, rfl, rfl, trivial⟩ (fun _ h => h) ?_
 have hgk := ckGas_ok hg
 refine C_seq ?_
 refine C_region ?_
 refine Jq (q_assign rfl) ?_
 refine L_then ?_
 refine C_seq ?_
 refine C_region ?_
 refine Jq (by first | exact q_loadA tb rfl rfl bxo rfl rfl | exact q_loadEA tb rfl rfl gvo (i := 0) (o := 0) (by omega) rfl rfl rfl) ?_
 refine Jq (by first | exact q_load tb rfl rfl bxo rfl | exact q_loadE tb rfl rfl gvo (i := 0) (o := 0) (by omega) rfl rfl) ?_
 refine Jq (q_move rfl) ?_
 refine Jq (q_add rfl rfl (by first | exact IntWalk.i64_in _ (by omega) | rfl)) ?_
 refine Jq (by first | exact q_loadA tb rfl rfl bxo rfl rfl | exact q_loadEA tb rfl rfl gvo (i := 0) (o := 0) (by omega) rfl rfl rfl) ?_
 refine L_call tb rfl rfl (ct_exposure_poor t g (sf + (i : Int)) r (by omega) (by omega) HR) (ps_cons gvo no_ps) rfl ?_
 refine Jq (q_not rfl decide_not.symm) ?_
 refine Jq (q_assign rfl) ?_
 refine L_then ?_
 refine C_ret ?_
 exact ret_of (res1 rfl rfl) sub_nil (by intro r hr; cases hr) ⟨rfl, rfl⟩
set_option maxRecDepth 100000 in
theorem ct_exposure_DepthsOf_2 (b d c t : Value) (g : Gs) (sf : Int) (r : Ru) (i : Nat) (hi : i < 30001) (hg : ckGas g.o g.h = 0) (hs : 400 ≤ sf ∧ sf ≤ 1100) (HR : okRu r) : Ct Tryz.prog 158 [.int .i64 (i : Int), elP b 0, elP d 0, elP c 0] [(b, 2, [cGs g]), (d, 1, [cI sf]), (c, 9, [cRu t r]), (t, 2, r.tb.map cOw)] (isV (.bool (isHeavy g sf r i))) := by
 refine Ct.of (N := 15) Tryz.func158 rfl rfl rfl fun w => ?_
 refine C_weak (E' := [(0, .int .i64 (i : Int)), (1, elP b 0), (2, elP d 0), (3, elP c 0)]) (rs' := [rd b 2 ([cGs g]), rd d 1 ([cI sf]), rd c 9 ([cRu t r]), rd t 2 (r.tb.map cOw)]) ⟨rfl, rfl, rfl, rfl, trivial⟩ (fun _ h => h) ?_
 have hgk := ckGas_ok hg
 refine C_seq ?_
 refine C_region ?_
 refine Jq (q_assign rfl) ?_
 refine L_then ?_
 refine C_seq ?_
 refine C_region ?_
 refine Jq (by first | exact q_loadA tb rfl rfl bxo rfl rfl | exact q_loadEA tb rfl rfl gvo (i := 0) (o := 0) (by omega) rfl rfl rfl) ?_
 refine Jq (by first | exact q_load tb rfl rfl bxo rfl | exact q_loadE tb rfl rfl gvo (i := 0) (o := 0) (by omega) rfl rfl) ?_
 refine Jq (by first | exact q_load tb rfl rfl bxo rfl | exact q_loadE tb rfl rfl gvo (i := 0) (o := 0) (by omega) rfl rfl) ?_
 refine Jq (q_move rfl) ?_
 refine Jq (q_add rfl rfl (by first | exact IntWalk.i64_in _ (by omega) | rfl)) ?_
 refine Jq (by first | exact q_loadA tb rfl rfl bxo rfl rfl | exact q_loadEA tb rfl rfl gvo (i := 0) (o := 0) (by omega) rfl rfl rfl) ?_
 refine L_call tb rfl rfl (ct_exposure_heavy t g sf (sf + (i : Int)) r hg hs (by omega) HR) (ps_cons gvo no_ps) rfl ?_
 refine Jq (by first | exact q_build tb rfl rfl rfl rfl | exact q_buildArr tb rfl rfl rfl rfl rfl) ?_
 refine Jq (q_neqB tb Tryz.underlying244 Tryz.underlying4 rfl rfl rfl (by kernel_rfl)) ?_
 refine Jq (q_assign rfl) ?_
 refine L_then ?_
 refine C_ret ?_
 exact ret_of (res1 rfl rfl) sub_nil (by intro r hr; cases hr) ⟨rfl, rfl⟩
set_option maxRecDepth 100000 in
theorem ct_exposure_DepthsOf (t : Value) (g : Gs) (sf : Int) (r : Ru) (hlt : r.tb.length ≤ 100000) : Ct Tryz.prog 88 [.agg (cGs g).toArray, .int .i64 sf, .agg (cRu t r).toArray] [(t, 2, r.tb.map cOw)] (isV (.tuple #[.agg #[.int .i64 (dofE g sf r).1.lo, .int .i64 (dofE g sf r).1.hi], .int .i64 (dofE g sf r).2])) := by
 refine Ct.of (N := 40) Tryz.func88 rfl rfl rfl fun w => ?_
 refine C_weak (E' := [(0, .agg (cGs g).toArray), (1, .int .i64 sf), (2, .agg (cRu t r).toArray)]) (rs' := [rd t 2 (r.tb.map cOw)]) ⟨rfl, rfl, rfl, trivial⟩ (fun _ h => h) ?_
 have hl1 := len_map cOw r.tb
 refine C_seq ?_
 refine C_region ?_
 refine L_box rfl rfl rfl fun g3 => ?_
 refine L_box rfl rfl rfl fun g4 => ?_
 refine L_box rfl rfl rfl fun g5 => ?_
 refine L_alloc tb rfl rfl fun g6 => ?_
 refine Jq (q_assign rfl) ?_
 refine L_then ?_
 refine C_seq ?_
 refine C_seq ?_
 refine C_region ?_
 refine Jq (q_loadA tb rfl rfl bxo rfl rfl) ?_
 refine L_call tb rfl rfl (ct_gas_CheckGas g.o g.h) no_ps rfl ?_
 refine Jq (q_assign rfl) ?_
 refine L_then ?_
 refine C_seq ?_
 refine C_region ?_
 refine Jq (q_move rfl) ?_
 refine Jq (q_neq rfl rfl) ?_
 refine L_then ?_
 refine C_dec rfl (fun h1 => ?_) (fun h1 => ?_)
 refine C_seq ?_
 refine C_region ?_
 refine Jq (by first | exact q_build tb rfl rfl rfl rfl | exact q_buildArr tb rfl rfl rfl rfl rfl) ?_
 refine Jq (q_move rfl) ?_
 refine L_st tb rfl rfl ?_
 refine Jq (q_assign rfl) ?_
 refine L_then ?_
 refine C_ret ?_
 have e9 := ckGSR_1 (sf := sf) (r := r) h1
 rw [dofE_1 (by rw [e9]; exact h1), e9]
 exact ret_of (resCT tb rfl rfl rfl rfl bxo rfl) sub_nil (by intro r hr; cases hr) ⟨rfl, rfl⟩
 refine C_skip_then ?_
 refine C_seq ?_
 refine C_seq ?_
 refine C_region ?_
 refine Jq (q_load tb rfl rfl bxo rfl) ?_
 refine L_call tb rfl rfl (ct_exposure_isSurface _) no_ps rfl ?_
 refine Jq (q_not rfl decide_not.symm) ?_
 refine L_then ?_
 refine C_dec rfl (fun h2 => ?_) (fun h2 => ?_)
 refine C_seq ?_
 refine C_region ?_
 refine Jq (by first | exact q_build tb rfl rfl rfl rfl | exact q_buildArr tb rfl rfl rfl rfl rfl) ?_
 refine L_st tb rfl rfl ?_
 refine Jq (q_assign rfl) ?_
 refine L_then ?_
 refine C_ret ?_
 have e9 := ckGSR_2 (r := r) (Decidable.not_not.1 h1) h2
 rw [dofE_1 (by rw [e9]; decide), e9]
 exact ret_of (resCT tb rfl rfl rfl rfl bxo rfl) sub_nil (by intro r hr; cases hr) ⟨rfl, rfl⟩
 refine C_skip_then ?_
 refine C_seq ?_
 refine C_seq ?_
 refine C_region ?_
 refine Jq (q_loadA tb rfl rfl bxo rfl rfl) ?_
 refine L_call tb rfl rfl (ct_exposure_CheckRules t r hlt) (ps_cons gvo no_ps) rfl ?_
 refine Jq (q_assign rfl) ?_
 refine L_then ?_
 refine C_seq ?_
 refine C_region ?_
 refine Jq (q_move rfl) ?_
 refine Jq (q_neq rfl rfl) ?_
 refine L_then ?_
 refine C_dec rfl (fun h3 => ?_) (fun h3 => ?_)
 refine C_seq ?_
 refine C_region ?_
 refine Jq (by first | exact q_build tb rfl rfl rfl rfl | exact q_buildArr tb rfl rfl rfl rfl rfl) ?_
 refine Jq (q_move rfl) ?_
 refine L_st tb rfl rfl ?_
 refine Jq (q_assign rfl) ?_
 refine L_then ?_
 refine C_ret ?_
 have e9 := ckGSR_3 (r := r) (Decidable.not_not.1 h1) (Decidable.not_not.1 h2)
 rw [dofE_1 (by rw [e9]; exact h3), e9]
 exact ret_of (resCT tb rfl rfl rfl rfl bxo rfl) sub_nil (by intro r hr; cases hr) ⟨rfl, rfl⟩
 have hg := Decidable.not_not.1 h1; have hs := Decidable.not_not.1 h2; have HR := ckRu_ok (Decidable.not_not.1 h3); have hgk := ckGas_ok hg; have hz : ckGSR g sf r = 0 := by rw [ckGSR_3 hg hs]; exact Decidable.not_not.1 h3
 have hd1 : dHi g sf r ≤ 30001 := firstB_le _ _; have hd2 : dLo g sf r ≤ 30001 := firstB_le _ _
 refine C_skip_then ?_
 refine C_seq ?_
 refine C_region ?_
 refine Jq (q_makeFunc rfl rfl) ?_
 refine L_call tb rfl rfl (ct_sort_Search 156 [.pointer (some ⟨g3, 0, none⟩), .pointer (some ⟨g4, 0, none⟩), .pointer (some ⟨g5, 0, none⟩)] [(bxV g3, 2, [cGs g]), (bxV g4, 1, [cI sf]), (bxV g5, 9, [cRu t r]), (t, 2, r.tb.map cOw)] 30001 (dLo g sf r) (firstB_le _ _) (by omega) (tb.en_ok _ (lkT_mem (rfl : lkT tb.en 156 = some ()))) (fun i hi => (firstB_iff (p := notPoor g sf r) (notPoor_mono (by omega)) hi) ▸ ct_exposure_DepthsOf_1 (bxV g3) (bxV g4) (bxV g5) t g sf r i hi hg hs HR)) (ps_cons (gbx bxo rfl) (ps_cons (gbx bxo rfl) (ps_cons (gbx bxo rfl) (ps_cons gvo no_ps)))) rfl ?_
 refine Jq (q_makeFunc rfl rfl) ?_
 refine L_call tb rfl rfl (ct_sort_Search 158 [.pointer (some ⟨g3, 0, none⟩), .pointer (some ⟨g4, 0, none⟩), .pointer (some ⟨g5, 0, none⟩)] [(bxV g3, 2, [cGs g]), (bxV g4, 1, [cI sf]), (bxV g5, 9, [cRu t r]), (t, 2, r.tb.map cOw)] 30001 (dHi g sf r) (firstB_le _ _) (by omega) (tb.en_ok _ (lkT_mem (rfl : lkT tb.en 158 = some ()))) (fun i hi => (firstB_iff (p := isHeavy g sf r) (isHeavy_mono (by omega)) hi) ▸ ct_exposure_DepthsOf_2 (bxV g3) (bxV g4) (bxV g5) t g sf r i hi hg hs HR)) (ps_cons (gbx bxo rfl) (ps_cons (gbx bxo rfl) (ps_cons (gbx bxo rfl) (ps_cons gvo no_ps)))) rfl ?_
 refine Jq (q_sub rfl rfl (by first | exact IntWalk.i64_in _ (by omega) | rfl)) ?_
 refine Jq (by first | exact q_build tb rfl rfl rfl rfl | exact q_buildArr tb rfl rfl rfl rfl rfl) ?_
 refine L_alloc tb rfl rfl fun g10 => ?_
 refine L_st tb rfl rfl ?_
 refine L_then ?_
 refine C_seq ?_
 refine C_seq ?_
 refine C_region ?_
 refine Jq (q_field tb rfl rfl rfl) ?_
 refine Jq (q_load tb rfl rfl bxo rfl) ?_
 refine Jq (q_field tb rfl rfl rfl) ?_
 refine Jq (q_load tb rfl rfl bxo rfl) ?_
 refine Jq (q_gtr rfl rfl) ?_
 refine L_then ?_
 refine C_dec rfl (fun h4 => ?_) (fun h4 => ?_)
 refine C_seq ?_
 refine C_region ?_
 refine Jq (by first | exact q_build tb rfl rfl rfl rfl | exact q_buildArr tb rfl rfl rfl rfl rfl) ?_
 refine L_st tb rfl rfl ?_
 refine Jq (q_assign rfl) ?_
 refine L_then ?_
 refine C_ret ?_
 rw [dofE_2 hz h4]
 exact ret_of (resCT tb rfl rfl rfl rfl bxo rfl) sub_nil (by intro r hr; cases hr) ⟨rfl, rfl⟩
 refine C_skip_then ?_
 refine C_seq ?_
 refine C_region ?_
 refine Jq (q_loadA tb rfl rfl bxo rfl rfl) ?_
 refine L_st tb rfl rfl ?_
 refine Jq (q_assign rfl) ?_
 refine L_then ?_
 refine C_ret ?_
 rw [dofE_3 hz h4]
 exact ret_of (resCT tb rfl rfl rfl rfl bxo rfl) sub_nil (by intro r hr; cases hr) ⟨rfl, rfl⟩
end Go.Proofs.YtacndicgpkeobaaGreatDoor
