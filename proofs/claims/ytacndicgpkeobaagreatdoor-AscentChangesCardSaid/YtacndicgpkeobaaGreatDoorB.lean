/-
  Walks: each function named returns what its model says. Conditions: those in front of each theorem.
-/
import Derived.Test.YtacndicgpkeobaaGreatDoorA
import Derived.Test.YtacndicgpkeobaaGreatDoorEqT
namespace Go.Proofs.YtacndicgpkeobaaGreatDoor
open Go.RowKit

set_option maxRecDepth 100000 in
theorem ct_tissue_squareRoot (n : Int) (h : 1 ≤ n ∧ n ≤ 1000000000000000000) : Ct Tryz.prog 179 [.int .i64 n] [] (isV (.int .i64 (sqrZ n))) := by
 refine Ct.of (N := 31) Tryz.func179 rfl rfl rfl fun w => ?_
 refine C_weak (E' := [(0, .int .i64 n)]) (rs' := []) ⟨rfl, trivial⟩ (fun _ h => h) ?_
 refine C_seq ?_
 refine C_region ?_
 refine Jq (q_assign rfl) ?_
 refine L_then ?_
 refine C_seq ?_
 refine C_region ?_
 refine Jq (q_assign rfl) ?_
 refine Jq (q_assign rfl) ?_
 refine L_then ?_
 refine C_seq ?_
 refine C_block ?_
 refine C_loop (ι := Nat) (fun k => ([(0, .int .i64 n), (3, .int .i64 0), (4, .int .i64 (pw4 (k + 1)))], [])) (fun k => k ≤ 31 ∧ n < 4 ^ (k + 1)) (fun k => k) 31 ⟨Nat.le_refl _, sq_start h.2⟩ (fun a w hs => hs.weak ⟨rfl, rfl, rfl, trivial⟩ (fun h => h.sub (by repeat (first | exact List.Sublist.refl _ | apply List.Sublist.cons_cons | apply List.Sublist.cons)))) ?_
 rintro k ⟨hk, hn⟩
 have hpl := pw4_le hk
 have hpe : pw4 (k + 1) = 4 ^ k := rfl
 refine C_seq ?_
 refine C_seq ?_
 refine C_region ?_
 refine Jq (q_move rfl) ?_
 refine Jq (q_move rfl) ?_
 refine Jq (q_gtr rfl rfl) ?_
 refine L_then ?_
 refine C_dec rfl (fun h1 => ?_) (fun h1 => ?_)
 obtain ⟨k, rfl⟩ := four_cases (k := k) h.1 (by omega)
 refine C_skip_then ?_
 refine C_block ?_
 refine C_region ?_
 refine Jq (q_move rfl) ?_
 refine Jq (q_shr rfl rfl (by omega) (shr2 _)) ?_
 refine Jq (q_assign rfl) ?_
 refine L_end ?_
 exact fun ac_ wo_ hs_ => ⟨k, ⟨by omega, by omega⟩, (by dsimp only; omega), hs_.weak ⟨rfl, rfl, en (pw4_half _), trivial⟩ (fun h => h.sub (by repeat (first | exact List.Sublist.refl _ | apply List.Sublist.cons_cons | apply List.Sublist.cons)))⟩
 have hx : (4:Int) ^ k ≤ n := by omega
 refine C_exit ?_
 change C Tryz.prog _ _ _ _ _ _ _
 refine C_seq ?_
 refine C_block ?_
 refine C_loop (ι := Nat × Int) (fun p => ([(0, .int .i64 (n - p.2 * p.2)), (3, .int .i64 (p.2 * 2 ^ p.1)), (4, .int .i64 (pw4 p.1))], [])) (fun p => gSq n p.1 p.2) (fun p => p.1) (k + 1, 0) (gSq.begin (pow_lt30 hx h.2) hx hn) (fun a w hs => hs.weak ⟨en (by simp), en (by simp), rfl, trivial⟩ (fun h => h.sub (by repeat (first | exact List.Sublist.refl _ | apply List.Sublist.cons_cons | apply List.Sublist.cons)))) ?_
 rintro ⟨k, R⟩ hg
 dsimp only at hg ⊢
 refine C_seq ?_
 refine C_seq ?_
 refine C_region ?_
 refine Jq (q_move rfl) ?_
 refine Jq (q_gtr rfl rfl) ?_
 refine L_then ?_
 refine C_dec rfl (fun hp => ?_) (fun hp => ?_)
 obtain ⟨k, rfl⟩ := pw4_pos hp; have hb := hg.bounds (by omega); have hpe : pw4 (k + 1) = 4 ^ k := rfl; have hsq : 0 ≤ R * R ∧ R * R ≤ n := ⟨Int.mul_nonneg hg.r0 hg.r0, hg.le⟩
 refine C_skip_then ?_
 refine C_seq ?_
 refine C_block ?_
 refine C_seq ?_
 refine C_region ?_
 refine Jq (q_move rfl) ?_
 refine Jq (q_move rfl) ?_
 refine Jq (q_move rfl) ?_
 refine Jq (q_add rfl rfl (by first | exact IntWalk.i64_in _ (by omega) | rfl)) ?_
 refine Jq (q_geq rfl rfl) ?_
 refine L_then ?_
 refine C_dec rfl (fun hc => ?_) (fun hc => ?_)
 refine C_region ?_
 refine Jq (q_move rfl) ?_
 refine Jq (q_move rfl) ?_
 refine Jq (q_sub rfl rfl (by first | exact IntWalk.i64_in _ (by omega) | rfl)) ?_
 refine Jq (q_move rfl) ?_
 refine Jq (q_sub rfl rfl (by first | exact IntWalk.i64_in _ (by omega) | rfl)) ?_
 refine Jq (q_move rfl) ?_
 refine Jq (q_shr rfl rfl (by omega) (shr1 _)) ?_
 refine Jq (q_move rfl) ?_
 refine Jq (q_add rfl rfl (by first | exact IntWalk.i64_in _ (by omega) | rfl)) ?_
 refine Jq (q_assign rfl) ?_
 refine Jq (q_assign rfl) ?_
 refine L_blk ?_
 refine C_region ?_
 refine Jq (q_move rfl) ?_
 refine Jq (q_shr rfl rfl (by omega) (shr2 _)) ?_
 refine Jq (q_assign rfl) ?_
 refine L_end ?_
 exact fun ac_ wo_ hs_ => ⟨(k, R + 2 ^ k), (hg.yes (by omega)), (by dsimp only; omega), hs_.weak ⟨en (gSq.n_yes _ _ _), en (gSq.x_yes _ _), en (pw4_half _), trivial⟩ (fun h => h.sub (by repeat (first | exact List.Sublist.refl _ | apply List.Sublist.cons_cons | apply List.Sublist.cons)))⟩
 refine C_region ?_
 refine Jq (q_move rfl) ?_
 refine Jq (q_shr rfl rfl (by omega) (shr1 _)) ?_
 refine Jq (q_assign rfl) ?_
 refine L_blk ?_
 refine C_region ?_
 refine Jq (q_move rfl) ?_
 refine Jq (q_shr rfl rfl (by omega) (shr2 _)) ?_
 refine Jq (q_assign rfl) ?_
 refine L_end ?_
 exact fun ac_ wo_ hs_ => ⟨(k, R), (hg.no (by omega)), (by dsimp only; omega), hs_.weak ⟨rfl, en (gSq.x_no _ _), en (pw4_half _), trivial⟩ (fun h => h.sub (by repeat (first | exact List.Sublist.refl _ | apply List.Sublist.cons_cons | apply List.Sublist.cons)))⟩
 have hz := pw4_zero hp; subst hz
 refine C_exit ?_
 change C Tryz.prog _ _ _ _ _ _ _
 refine C_seq ?_
 refine C_region ?_
 refine Jq (q_move rfl) ?_
 refine Jq (q_assign rfl) ?_
 refine L_then ?_
 refine C_ret ?_
 exact ret_of (res1 rfl rfl) sub_nil (by intro r hr; cases hr) ⟨(congrArg (Value.int .i64) (by simpa using hg.ends)), rfl⟩
set_option maxRecDepth 100000 in
theorem ct_shotlinebase_Floor (n b : Int) (h : 1 ≤ b ∧ -9000000000000000000 ≤ n ∧ n ≤ 9000000000000000000) : Ct Tryz.prog 208 [.int .i64 n, .int .i64 b] [] (isV (.int .i64 (n / b))) := by
 refine Ct.of (N := 16) Tryz.func208 rfl rfl rfl fun w => ?_
 refine C_weak (E' := [(0, .int .i64 n), (1, .int .i64 b)]) (rs' := []) ⟨rfl, rfl, trivial⟩ (fun _ h => h) ?_
 refine C_seq ?_
 refine C_region ?_
 refine Jq (q_assign rfl) ?_
 refine L_then ?_
 refine C_seq ?_
 refine C_region ?_
 refine Jq (q_move rfl) ?_
 refine Jq (q_move rfl) ?_
 refine Jq (q_quo rfl rfl (by omega) (IntWalk.i64_quo' _ _ (by omega))) ?_
 refine Jq (q_assign rfl) ?_
 refine L_then ?_
 refine C_seq ?_
 refine C_seq ?_
 refine C_region ?_
 refine Jq (q_move rfl) ?_
 refine Jq (q_move rfl) ?_
 refine Jq (q_rem rfl rfl (by omega) rfl) ?_
 refine Jq (q_lss rfl rfl) ?_
 refine L_then ?_
 refine C_dec rfl (fun hc => ?_) (fun hc => ?_)
 have hf := floor_yes h.1 hc; have hn := tmod_neg hc; have hg := ediv_ge h.1 (show n ≤ 0 by omega); have hneg := ediv_np h.1 (show n ≤ 0 by omega)
 refine C_region ?_
 refine Jq (q_move rfl) ?_
 refine Jq (q_sub rfl rfl (by first | exact IntWalk.i64_in _ (by omega) | rfl)) ?_
 refine Jq (q_assign rfl) ?_
 refine L_then ?_
 refine C_seq ?_
 refine C_region ?_
 refine Jq (q_move rfl) ?_
 refine Jq (q_assign rfl) ?_
 refine L_then ?_
 refine C_ret ?_
 exact ret_of (res1 rfl rfl) sub_nil (by intro r hr; cases hr) ⟨(congrArg (Value.int .i64) (by first | exact hf)), rfl⟩
 have hf := floor_no h.1 hc
 refine C_skip_then ?_
 refine C_seq ?_
 refine C_region ?_
 refine Jq (q_move rfl) ?_
 refine Jq (q_assign rfl) ?_
 refine L_then ?_
 refine C_ret ?_
 exact ret_of (res1 rfl rfl) sub_nil (by intro r hr; cases hr) ⟨(congrArg (Value.int .i64) (by first | exact hf)), rfl⟩
set_option maxRecDepth 100000 in
theorem ct_shotlinebase_Ceil (n b : Int) (h : 1 ≤ b ∧ -9000000000000000000 ≤ n ∧ n ≤ 9000000000000000000) : Ct Tryz.prog 209 [.int .i64 n, .int .i64 b] [] (isV (.int .i64 (upZ n b))) := by
 refine Ct.of (N := 10) Tryz.func209 rfl rfl rfl fun w => ?_
 refine C_weak (E' := [(0, .int .i64 n), (1, .int .i64 b)]) (rs' := []) ⟨rfl, rfl, trivial⟩ (fun _ h => h) ?_
 refine C_seq ?_
 refine C_region ?_
 refine Jq (q_assign rfl) ?_
 refine L_then ?_
 refine C_seq ?_
 refine C_region ?_
 refine Jq (q_move rfl) ?_
 refine Jq (q_neg rfl (by first | exact IntWalk.i64_in _ (by omega) | rfl)) ?_
 refine Jq (q_move rfl) ?_
 refine L_call tb rfl rfl (ct_shotlinebase_Floor _ _ (by first | omega | exact ⟨by omega, by omega, by omega⟩)) no_ps rfl ?_
 refine Jq (q_neg rfl rfl) ?_
 refine Jq (q_assign rfl) ?_
 refine L_then ?_
 refine C_ret ?_
 exact ret_of (res1 rfl rfl) sub_nil (by intro r hr; cases hr) ⟨(congrArg (Value.int .i64) (by have := neg_div h.1 h.2.1 h.2.2; rw [IntWalk.i64_in _ (by omega)]; exact ceil_up h.1)), rfl⟩
set_option maxRecDepth 100000 in
theorem ct_shotlinebase_Root (n : Int) (h : 0 ≤ n ∧ n ≤ 1000000000000000000) : Ct Tryz.prog 245 [.int .i64 n] [] (isV (.int .i64 (sqrZ n))) := by
 refine Ct.of (N := 22) Tryz.func245 rfl rfl rfl fun w => ?_
 refine C_weak (E' := [(0, .int .i64 n)]) (rs' := []) ⟨rfl, trivial⟩ (fun _ h => h) ?_
 refine C_seq ?_
 refine C_region ?_
 refine Jq (q_assign rfl) ?_
 refine L_then ?_
 refine C_seq ?_
 refine C_region ?_
 refine Jq (q_assign rfl) ?_
 refine Jq (q_assign rfl) ?_
 refine L_then ?_
 refine C_seq ?_
 refine C_block ?_
 refine C_loop (ι := Nat × Int) (fun p => ([(0, .int .i64 n), (3, .int .i64 p.2), (4, .int .i64 (pw p.1))], [])) (fun p => gRt n p.1 p.2) (fun p => p.1) (31, 0) (gRt.begin h.1 h.2) (fun a w hs => hs.weak ⟨rfl, rfl, rfl, trivial⟩ (fun h => h.sub (by repeat (first | exact List.Sublist.refl _ | apply List.Sublist.cons_cons | apply List.Sublist.cons)))) ?_
 rintro ⟨k, R⟩ hg
 dsimp only at hg ⊢
 refine C_seq ?_
 refine C_seq ?_
 refine C_region ?_
 refine Jq (q_move rfl) ?_
 refine Jq (q_gtr rfl rfl) ?_
 refine L_then ?_
 refine C_dec rfl (fun hp => ?_) (fun hp => ?_)
 obtain ⟨k, rfl⟩ := pw_pos hp; have hb : R ≤ 1000000000 ∧ 1 ≤ pw (k + 1) ∧ pw (k + 1) ≤ 1073741824 ∧ 0 ≤ (R + pw (k + 1)) * (R + pw (k + 1)) ∧ (R + pw (k + 1)) * (R + pw (k + 1)) ≤ 5000000000000000000 := hg.bounds h.2; have hr := hg.r0
 refine C_skip_then ?_
 refine C_block ?_
 refine C_seq ?_
 refine C_seq ?_
 refine C_region ?_
 refine Jq (q_move rfl) ?_
 refine Jq (q_move rfl) ?_
 refine Jq (q_add rfl rfl (by first | exact IntWalk.i64_in _ (by omega) | rfl)) ?_
 refine Jq (q_move rfl) ?_
 refine Jq (q_move rfl) ?_
 refine Jq (q_add rfl rfl (by first | exact IntWalk.i64_in _ (by omega) | rfl)) ?_
 refine Jq (q_mul rfl rfl (by first | exact IntWalk.i64_in _ (by omega) | rfl)) ?_
 refine Jq (q_move rfl) ?_
 refine Jq (q_leq rfl rfl) ?_
 refine L_then ?_
 refine C_dec rfl (fun hc => ?_) (fun hc => ?_)
 refine C_region ?_
 refine Jq (q_move rfl) ?_
 refine Jq (q_move rfl) ?_
 refine Jq (q_add rfl rfl (by first | exact IntWalk.i64_in _ (by omega) | rfl)) ?_
 refine Jq (q_assign rfl) ?_
 refine L_then ?_
 refine C_region ?_
 refine Jq (q_move rfl) ?_
 refine Jq (q_quo rfl rfl (by omega) (by first | exact IntWalk.i64_quo _ _ (by omega) | exact IntWalk.i64_quo' _ _ (by omega) | rfl)) ?_
 refine Jq (q_assign rfl) ?_
 refine L_end ?_
 exact fun ac_ wo_ hs_ => ⟨(k, R + pw (k + 1)), (hg.yes hc), (by dsimp only; omega), hs_.weak ⟨rfl, rfl, en (pw_half _), trivial⟩ (fun h => h.sub (by repeat (first | exact List.Sublist.refl _ | apply List.Sublist.cons_cons | apply List.Sublist.cons)))⟩
 refine C_skip_then ?_
 refine C_region ?_
 refine Jq (q_move rfl) ?_
 refine Jq (q_quo rfl rfl (by omega) (by first | exact IntWalk.i64_quo _ _ (by omega) | exact IntWalk.i64_quo' _ _ (by omega) | rfl)) ?_
 refine Jq (q_assign rfl) ?_
 refine L_end ?_
 exact fun ac_ wo_ hs_ => ⟨(k, R), (hg.no hc), (by dsimp only; omega), hs_.weak ⟨rfl, rfl, en (pw_half _), trivial⟩ (fun h => h.sub (by repeat (first | exact List.Sublist.refl _ | apply List.Sublist.cons_cons | apply List.Sublist.cons)))⟩
 have hz := pw_zero hp; subst hz
 refine C_exit ?_
 change C Tryz.prog _ _ _ _ _ _ _
 refine C_seq ?_
 refine C_region ?_
 refine Jq (q_move rfl) ?_
 refine Jq (q_assign rfl) ?_
 refine L_then ?_
 refine C_ret ?_
 exact ret_of (res1 rfl rfl) sub_nil (by intro r hr; cases hr) ⟨(congrArg (Value.int .i64) (by exact hg.ends)), rfl⟩
set_option maxRecDepth 100000 in
theorem ct_shotlineref03_RootOf (n : Nat) (h : n ≤ 100) : Ct Tryz.prog 207 [.int .i64 (n : Int)] [] (isV (.agg (cRg (rootR n)).toArray)) := by
 refine Ct.of (N := 34) Tryz.func207 rfl rfl rfl fun w => ?_
 refine C_weak (E' := [(0, .int .i64 (n : Int))]) (rs' := []) ⟨rfl, trivial⟩ (fun _ h => h) ?_
 refine C_seq ?_
 refine C_region ?_
 refine L_alloc tb rfl rfl fun g2 => ?_
 refine L_then ?_
 refine C_seq ?_
 refine C_region ?_
 refine Jq (by first | exact q_build tb rfl rfl rfl rfl | exact q_buildArr tb rfl rfl rfl rfl rfl) ?_
 refine L_alloc tb rfl rfl fun g3 => ?_
 refine L_st tb rfl rfl ?_
 refine L_then ?_
 refine C_seq ?_
 refine C_seq ?_
 refine C_region ?_
 refine Jq (q_assign rfl) ?_
 refine L_then ?_
 refine C_block ?_
 refine C_loop (ι := Nat × Rg) (fun p => ([(0, .int .i64 (n : Int)), (2, .pointer (some ⟨g2, 0, none⟩)), (3, .pointer (some ⟨g3, 0, none⟩)), (4, .int .i64 (p.1 : Int))], [box g3 122 (cRg p.2), box g2 122 [.int .i64 0, .int .i64 0]])) (fun p => p.2 = rootR p.1 ∧ p.1 ≤ n) (fun p => n - p.1) (0, rootR 0) ⟨rfl, Nat.zero_le _⟩ (fun a w hs => hs.weak ⟨rfl, rfl, rfl, rfl, trivial⟩ (fun h => h.sub (by repeat (first | exact List.Sublist.refl _ | apply List.Sublist.cons_cons | apply List.Sublist.cons)))) ?_
 rintro ⟨k, r⟩ ⟨hr, hk⟩
 dsimp only at hr hk ⊢
 subst hr
 obtain ⟨ha, hb, hc⟩ := rootR_in k
 refine C_seq ?_
 refine C_seq ?_
 refine C_region ?_
 refine Jq (q_move rfl) ?_
 refine Jq (q_move rfl) ?_
 refine Jq (q_lss rfl rfl) ?_
 refine L_then ?_
 refine C_dec rfl (fun hi => ?_) (fun hi => ?_)
 refine C_skip_then ?_
 refine C_seq ?_
 refine C_block ?_
 refine C_seq ?_
 refine C_draw (n := 8) [(0, false), (1, false), (2, false), (4, false), (5, false), (6, false), (3, true), (7, true)] mixed (by kernel_rfl) ?_
 refine Yq rfl (q_field tb rfl rfl rfl) ?_
 refine Yq rfl (q_load tb rfl rfl bxo rfl) ?_
 refine Yq rfl (q_mul rfl rfl (by first | exact IntWalk.i64_in _ (by omega) | rfl)) ?_
 refine Yq rfl (q_field tb rfl rfl rfl) ?_
 refine Yq rfl (q_load tb rfl rfl bxo rfl) ?_
 refine Yq rfl (q_mul rfl rfl (by first | exact IntWalk.i64_in _ (by omega) | rfl)) ?_
 refine W_call tb rfl rfl rfl rfl (ct_shotlinebase_Root _ (by omega)) no_ps rfl ?_
 refine W_call tb rfl rfl rfl rfl (ct_shotlinebase_Root _ (by omega)) no_ps rfl ?_
 refine W_nil ?_
 refine Jq (q_assign rfl) ?_
 refine Jq (q_assign rfl) ?_
 refine L_then ?_
 refine C_seq ?_
 refine C_seq ?_
 refine C_region ?_
 refine Jq (q_move rfl) ?_
 refine Jq (q_move rfl) ?_
 have hs := sqrZ_spec (n := 1000000000 * (rootR k).hi) (by omega); have hs0 := Int.mul_nonneg hs.1 hs.1; have hs1 : sqrZ (1000000000 * (rootR k).hi) ≤ 1000000000 := sqrZ_le (by omega) (by omega) (by omega)
 refine Jq (q_mul rfl rfl (by first | exact IntWalk.i64_in _ (by omega) | rfl)) ?_
 refine Jq (q_field tb rfl rfl rfl) ?_
 refine Jq (q_load tb rfl rfl bxo rfl) ?_
 refine Jq (q_mul rfl rfl (by first | exact IntWalk.i64_in _ (by omega) | rfl)) ?_
 refine Jq (q_lss rfl rfl) ?_
 refine L_then ?_
 refine C_dec rfl (fun hq => ?_) (fun hq => ?_)
 refine C_region ?_
 refine Jq (q_move rfl) ?_
 refine Jq (q_add rfl rfl (by first | exact IntWalk.i64_in _ (by omega) | rfl)) ?_
 refine Jq (q_assign rfl) ?_
 refine L_then ?_
 refine C_region ?_
 refine Jq (q_move rfl) ?_
 refine Jq (q_move rfl) ?_
 refine Jq (by first | exact q_build tb rfl rfl rfl rfl | exact q_buildArr tb rfl rfl rfl rfl rfl) ?_
 refine L_st tb rfl rfl ?_
 refine L_blk ?_
 refine C_region ?_
 refine Jq (q_move rfl) ?_
 refine Jq (q_add rfl rfl (by first | exact IntWalk.i64_in _ (by omega) | rfl)) ?_
 refine Jq (q_assign rfl) ?_
 refine L_end ?_
 exact fun ac_ wo_ hs_ => ⟨(k + 1, ⟨_, _⟩), ⟨root_yes hq, by omega⟩, (by dsimp only; omega), hs_.weak ⟨rfl, rfl, rfl, rfl, trivial⟩ (fun h => h.sub (by repeat (first | exact List.Sublist.refl _ | apply List.Sublist.cons_cons | apply List.Sublist.cons)))⟩
 refine C_skip_then ?_
 refine C_region ?_
 refine Jq (q_move rfl) ?_
 refine Jq (q_move rfl) ?_
 refine Jq (by first | exact q_build tb rfl rfl rfl rfl | exact q_buildArr tb rfl rfl rfl rfl rfl) ?_
 refine L_st tb rfl rfl ?_
 refine L_blk ?_
 refine C_region ?_
 refine Jq (q_move rfl) ?_
 refine Jq (q_add rfl rfl (by first | exact IntWalk.i64_in _ (by omega) | rfl)) ?_
 refine Jq (q_assign rfl) ?_
 refine L_end ?_
 exact fun ac_ wo_ hs_ => ⟨(k + 1, ⟨_, _⟩), ⟨root_no hq, by omega⟩, (by dsimp only; omega), hs_.weak ⟨rfl, rfl, rfl, rfl, trivial⟩ (fun h => h.sub (by repeat (first | exact List.Sublist.refl _ | apply List.Sublist.cons_cons | apply List.Sublist.cons)))⟩
 have hkn : k = n := by omega
 subst hkn
 refine C_exit ?_
 change C Tryz.prog _ _ _ _ _ _ _
 refine C_seq ?_
 refine C_region ?_
 refine Jq (q_loadA tb rfl rfl bxo rfl rfl) ?_
 refine L_st tb rfl rfl ?_
 refine L_then ?_
 refine C_ret ?_
 exact ret_of (resC tb rfl rfl rfl m0 rfl) sub_nil (by intro r hr; cases hr) ⟨rfl, rfl⟩
end Go.Proofs.YtacndicgpkeobaaGreatDoor
