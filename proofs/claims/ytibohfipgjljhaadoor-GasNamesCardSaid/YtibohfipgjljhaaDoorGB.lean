/-
  Walks: each function named returns what its model says. Conditions: those in front of each theorem.
-/
import Derived.Test.YtibohfipgjljhaaDoorGA
namespace Go.Proofs.YtibohfipgjljhaaDoor
open Go.RowKit

set_option maxRecDepth 100000 in
theorem ct_gas_FirstGap_1 (b : Value) (lo hi c : Int) : Ct Tryd.prog 105 [.agg #[.int .i64 lo, .int .i64 hi], elP b 0] [(b, 1, [cI c])] (isV (.bool (decide (lo ≤ c ∧ c ≤ hi)))) := by
  refine Ct.of (N := 10) Tryd.func105 rfl rfl rfl fun w => ?_
  refine C_weak (E' := [(0, .agg #[.int .i64 lo, .int .i64 hi]), (1, elP b 0)]) (rs' := [rd b 1 ([cI c])]) ⟨rfl, rfl, trivial⟩ (fun _ h => h) ?_
  refine C_seq ?_
  refine C_region ?_
  refine L_box rfl rfl rfl fun g2 => ?_
  refine L_q rfl rfl rfl (q_assign rfl) ?_
  refine L_then ?_
  refine C_seq ?_
  refine C_region ?_
  refine L_q rfl rfl rfl (by first | exact q_load tb rfl rfl bxo rfl | exact q_loadE tb rfl rfl (by first | exact gvo | exact gvd gvo (by omega)) (i := 0) (o := 0) (by omega) rfl rfl) ?_
  refine L_q rfl rfl rfl (q_field tb rfl rfl rfl) ?_
  refine L_q rfl rfl rfl (q_load tb rfl rfl bxo rfl) ?_
  refine L_q rfl rfl rfl (q_field tb rfl rfl rfl) ?_
  refine L_q rfl rfl rfl (q_load tb rfl rfl bxo rfl) ?_
  refine L_call tb rfl rfl (ct_gas_within _ _ _) no_ps rfl ?_
  refine L_q rfl rfl rfl (q_assign rfl) ?_
  refine L_then ?_
  refine C_ret ?_
  exact ret_of (res1 rfl rfl) sub_nil (by intro r hr; cases hr) ⟨rfl, rfl⟩
set_option maxRecDepth 100000 in
theorem ct_IndexFuncRange (v b : Value) (lo hi c : Int) (hin : lo ≤ c ∧ c ≤ hi) : Ct Tryd.prog 104 [v, .func (.func 105) #[] #[elP b 0]] [(v, 2, [[.int .i64 lo, .int .i64 hi]]), (b, 1, [cI c])] (isV (.int .i64 0)) := by
  refine Ct.of (N := 19) Tryd.func104 rfl rfl rfl fun w => ?_
  refine C_weak (E' := [(0, v), (1, .func (.func 105) #[] #[elP b 0])]) (rs' := [rd v 2 ([[.int .i64 lo, .int .i64 hi]]), rd b 1 ([cI c])]) ⟨rfl, rfl, trivial⟩ (fun _ h => h) ?_
  refine C_seq ?_
  refine C_region ?_
  refine L_q rfl rfl rfl (q_assign rfl) ?_
  refine L_then ?_
  refine C_seq ?_
  refine C_seq ?_
  refine C_region ?_
  refine L_q rfl rfl rfl (q_move rfl) ?_
  refine L_q rfl rfl rfl (q_len tb rfl rfl (by first | exact gvo | exact gvd gvo (by omega))) ?_
  refine L_q rfl rfl rfl (q_move rfl) ?_
  refine L_then ?_
  refine C_block ?_
  refine C_loop (ι := Nat) (fun k => ([(0, v), (1, .func (.func 105) #[] #[elP b 0]), (6, v), (7, .int .i64 1), (8, .int .i64 (k : Int))], [rd v 2 [[.int .i64 lo, .int .i64 hi]], rd b 1 [cI c]])) (fun k => k = 0) (fun k => 1 - k) 0 rfl (fun a w hs => hs.weak ⟨rfl, rfl, rfl, rfl, rfl, trivial⟩ (fun h => h.pk (by repeat (first | with_reducible exact pk_nil | refine pk_box rfl ?_ | refine pk_rd rfl ?_ | refine pk_sl rfl ?_ | with_reducible refine pk_app ?_ | with_reducible refine pk_app0 ?_ | with_reducible refine pk_app0L ?_ | with_reducible exact pk_tl | refine pk_var ?_)))) ?_
  intro k hk
  dsimp only at hk ⊢
  refine C_seq ?_
  refine C_region ?_
  refine L_q rfl rfl rfl (q_lss rfl rfl) ?_
  refine L_then ?_
  refine C_seq ?_
  refine C_dec rfl (fun h1 => ?_) (fun h1 => ?_)
  · -- t9 True
    obtain rfl : k = 0 := by omega
    refine C_skip_then ?_
    refine C_seq ?_
    refine C_block ?_
    refine C_seq ?_
    refine C_region ?_
    refine L_q rfl rfl rfl (q_move rfl) ?_
    refine L_q rfl rfl rfl (q_assign rfl) ?_
    refine L_then ?_
    refine C_seq ?_
    refine C_region ?_
    refine L_q rfl rfl rfl (q_move rfl) ?_
    refine L_q rfl rfl rfl (q_move rfl) ?_
    refine L_q rfl rfl rfl (q_move rfl) ?_
    refine L_q rfl rfl rfl (by first | exact q_index tb rfl rfl rfl rfl (by first | exact gvo | exact gvd gvo (by omega)) (by omega) (by first | omega | (simp; done) | (simp; omega)) | exact q_indexP tb rfl rfl rfl rfl (by omega) (by omega)) ?_
    refine L_q rfl rfl rfl (q_loadEA tb rfl rfl (by first | exact gvo | exact gvd gvo (by omega)) (i := 0) (o := 0) (by omega) rfl rfl rfl) ?_
    refine L_callC (tb.en_ok _ (lkT_mem (rfl : lkT tb.en 105 = some ()))) rfl rfl (ct_gas_FirstGap_1 b lo hi c) (ps_cons gvo no_ps) rfl ?_
    refine L_then ?_
    refine C_dec rfl (fun h16 => ?_) (fun h16 => ?_)
    · -- t16 True
      refine C_seq ?_
      refine C_region ?_
      refine L_q rfl rfl rfl (q_move rfl) ?_
      refine L_q rfl rfl rfl (q_assign rfl) ?_
      refine L_then ?_
      refine C_ret ?_
      exact ret_of (res1 rfl rfl) sub_nil (by intro r hr; cases hr) ⟨rfl, rfl⟩
    · -- t16 False
      exact absurd hin h16
  · -- t9 False
    exfalso; omega
set_option maxRecDepth 100000 in
set_option maxHeartbeats 1000000 in
theorem ct_gas_FirstGap (v : Value) (g : Gs) (su lo hi d : Int) (hg : ckGas g.o g.h = 0) (hs : 400 ≤ su ∧ su ≤ 1100) (hl : 1 ≤ lo ∧ lo ≤ hi ∧ hi ≤ 4000) (hd : 0 ≤ d ∧ d ≤ 30000) (hin : (dfR g.o su lo hi).lo ≤ d ∧ d ≤ (dfR g.o su lo hi).hi) (hub : (dfR g.o su lo hi).hi ≤ 30000) : Ct Tryd.prog 70 [v, .int .i64 su, .agg #[.int .i64 lo, .int .i64 hi], .agg #[.int .i64 d, .int .i64 d]] [(v, 2, [cGs g])] (isV (.tuple #[.int .i64 0, .int .i64 12])) := by
  refine Ct.of (N := 71) Tryd.func70 rfl rfl rfl fun w => ?_
  refine C_weak (E' := [(0, v), (1, .int .i64 su), (2, .agg #[.int .i64 lo, .int .i64 hi]), (3, .agg #[.int .i64 d, .int .i64 d])]) (rs' := [rd v 2 ([cGs g])]) ⟨rfl, rfl, rfl, rfl, trivial⟩ (fun _ h => h) ?_
  have hgk := ckGas_ok hg
  have hlz : ckLim lo hi = 0 := by unfold ckLim; rw [if_neg (by omega), if_neg (by omega)]
  have hfe : firstE [0, if 400 ≤ su ∧ su ≤ 1100 then 0 else 2, ckLim lo hi, if 0 ≤ d ∧ d ≤ 30000 then 0 else 2, if 0 ≤ d ∧ d ≤ 30000 then 0 else 2] = 0 := by rw [if_pos hs, hlz, if_pos hd]; rfl
  refine C_seq ?_
  refine C_region ?_
  refine L_box rfl rfl rfl fun g6 => ?_
  refine L_box rfl rfl rfl fun g7 => ?_
  refine L_q rfl rfl rfl (q_assign rfl) ?_
  refine L_q rfl rfl rfl (q_assign rfl) ?_
  refine L_then ?_
  refine C_seq ?_
  refine C_seq ?_
  refine C_draw (n := 14) [(0, false), (2, false), (4, false), (6, false), (7, false), (9, false), (10, false), (1, true), (3, true), (5, true), (8, true), (11, true), (12, true), (13, true)] mixed (by kernel_rfl) ?_
  refine W_q rfl rfl rfl rfl (q_move rfl) ?_
  refine W_q rfl rfl rfl rfl (q_move rfl) ?_
  refine W_q rfl rfl rfl rfl (q_loadA tb rfl rfl bxo rfl rfl) ?_
  refine W_q rfl rfl rfl rfl (q_field tb rfl rfl rfl) ?_
  refine W_q rfl rfl rfl rfl (q_load tb rfl rfl bxo rfl) ?_
  refine W_q rfl rfl rfl rfl (q_field tb rfl rfl rfl) ?_
  refine W_q rfl rfl rfl rfl (q_load tb rfl rfl bxo rfl) ?_
  refine W_call tb rfl rfl rfl rfl (ct_gas_checkGases v [g] (by simp) (by simp; exact hg)) (ps_cons (by first | exact gvo | exact gvd gvo (by omega)) no_ps) rfl ?_
  refine W_call tb rfl rfl rfl rfl (ct_gas_checkSurface _) no_ps rfl ?_
  refine W_call tb rfl rfl rfl rfl (ct_gas_CheckLimits lo hi) no_ps rfl ?_
  refine W_call tb rfl rfl rfl rfl (ct_gas_checkDepth _) no_ps rfl ?_
  refine W_call tb rfl rfl rfl rfl (ct_gas_checkDepth _) no_ps rfl ?_
  refine W_mk rfl (lo_bslice tb rfl rfl rfl (xs := [[_], [_], [_], [_], [_]]) rfl rfl (by simp) rfl (by omega) rfl) rfl rfl rfl fun v28 => ?_
  refine W_call tb rfl rfl rfl rfl (ct_gas_first _ [_, _, _, _, _] (by simp)) (ps_cons (by first | exact gvo | exact gvd gvo (by omega)) no_ps) rfl ?_
  refine W_nil ?_
  rw [hfe]
  refine L_q rfl rfl rfl (q_assign rfl) ?_
  refine L_then ?_
  refine C_seq ?_
  refine C_region ?_
  refine L_q rfl rfl rfl (q_move rfl) ?_
  refine L_q rfl rfl rfl (q_false (q_neq rfl rfl) (by simp)) ?_
  refine L_then ?_
  refine C_false rfl ?_
  refine C_skip_then ?_
  refine C_seq ?_
  refine C_seq ?_
  refine C_region ?_
  refine L_q rfl rfl rfl (q_field tb rfl rfl rfl) ?_
  refine L_q rfl rfl rfl (q_load tb rfl rfl bxo rfl) ?_
  refine L_q rfl rfl rfl (q_field tb rfl rfl rfl) ?_
  refine L_q rfl rfl rfl (q_load tb rfl rfl bxo rfl) ?_
  refine L_q rfl rfl rfl (q_gtr rfl rfl) ?_
  refine L_then ?_
  refine C_dec rfl (fun h2 => ?_) (fun h2 => ?_)
  · -- t37 True
    exfalso; omega
  · -- t37 False
    refine C_skip_then ?_
    refine C_seq ?_
    refine C_region ?_
    refine L_q rfl rfl rfl (q_assign rfl) ?_
    refine L_then ?_
    refine C_seq ?_
    refine C_seq ?_
    refine C_region ?_
    refine L_q rfl rfl rfl (q_move rfl) ?_
    refine L_q rfl rfl rfl (q_len tb rfl rfl (by first | exact gvo | exact gvd gvo (by omega))) ?_
    refine L_q rfl rfl rfl (q_move rfl) ?_
    refine L_then ?_
    refine C_block ?_
    refine C_nil 28 2 ?_
    refine C_loop (ι := Nat × Value) (fun q => ([(1, .int .i64 su), (6, .pointer (some ⟨g6, 0, none⟩)), (7, .pointer (some ⟨g7, 0, none⟩)), (38, v), (39, .int .i64 1), (40, .int .i64 (q.1 : Int)), (11, q.2)], [sl q.2 28 2 ([[Value.int .i64 (dfR g.o su lo hi).lo, Value.int .i64 (dfR g.o su lo hi).hi]].take q.1), box g6 25 [.int .i64 lo, .int .i64 hi], box g7 28 [.int .i64 d, .int .i64 d], rd v 2 [cGs g]])) (fun q => q.1 ≤ 1) (fun q => 1 - q.1) (0, .slice none 0 0) (Nat.zero_le _) (fun a w hs => hs.weak ⟨rfl, rfl, rfl, rfl, rfl, rfl, rfl, trivial⟩ (fun h => h.pk (by repeat (first | with_reducible exact pk_nil | refine pk_box rfl ?_ | refine pk_rd rfl ?_ | refine pk_sl rfl ?_ | with_reducible refine pk_app ?_ | with_reducible refine pk_app0 ?_ | with_reducible refine pk_app0L ?_ | with_reducible exact pk_tl | refine pk_var ?_)))) ?_
    rintro ⟨k, y⟩ hk9
    dsimp only at hk9 ⊢
    refine C_seq ?_
    refine C_region ?_
    refine L_q rfl rfl rfl (q_lss rfl rfl) ?_
    refine L_then ?_
    refine C_seq ?_
    refine C_dec rfl (fun h3 => ?_) (fun h3 => ?_)
    · -- t41 True
      obtain rfl : k = 0 := by omega
      refine C_skip_then ?_
      refine C_seq ?_
      refine C_block ?_
      refine C_seq ?_
      refine C_region ?_
      refine L_q rfl rfl rfl (by first | exact q_index tb rfl rfl rfl rfl (by first | exact gvo | exact gvd gvo (by omega)) (by omega) (by first | omega | (simp; done) | (simp; omega)) | exact q_indexP tb rfl rfl rfl rfl (by omega) (by omega)) ?_
      refine L_q rfl rfl rfl (q_loadEA tb rfl rfl (by first | exact gvo | exact gvd gvo (by omega)) (i := 0) (o := 0) (by omega) rfl rfl rfl) ?_
      refine L_alloc tb rfl rfl fun g13 => ?_
      first | refine L_store tb rfl rfl rfl rfl rfl rfl rfl rfl ?_ | (refine L_front1 ?_; refine L_store tb rfl rfl rfl rfl rfl rfl rfl rfl ?_) | (refine L_front2 ?_; refine L_store tb rfl rfl rfl rfl rfl rfl rfl rfl ?_) | (refine L_front3 ?_; refine L_store tb rfl rfl rfl rfl rfl rfl rfl rfl ?_) | (refine L_front4 ?_; refine L_store tb rfl rfl rfl rfl rfl rfl rfl rfl ?_) | (refine L_front5 ?_; refine L_store tb rfl rfl rfl rfl rfl rfl rfl rfl ?_) | (refine L_front6 ?_; refine L_store tb rfl rfl rfl rfl rfl rfl rfl rfl ?_)
      refine L_then ?_
      refine C_region ?_
      refine L_q rfl rfl rfl (q_move rfl) ?_
      refine L_q rfl rfl rfl (q_loadA tb rfl rfl bxo rfl rfl) ?_
      refine L_q rfl rfl rfl (q_move rfl) ?_
      refine L_q rfl rfl rfl (q_loadA tb rfl rfl bxo rfl rfl) ?_
      refine L_call tb rfl rfl (ct_gas_depthsFor g.o g.h su lo hi (by omega) hs hl) no_ps rfl ?_
      refine L_mk (lo_bslice tb rfl rfl rfl (xs := [[Value.int .i64 (dfR g.o su lo hi).lo, Value.int .i64 (dfR g.o su lo hi).hi]]) rfl rfl (by simp) rfl (by omega) rfl) rfl rfl rfl fun v49 => ?_
      refine L_front2 ?_
      refine L_append tb rfl rfl rfl (by omega) rfl rfl (by first | exact gvo | exact gvd gvo (by omega)) (by simp [Value.oneCell']) (by simp [maxLen]) (by simp) rfl fun v50 => ?_
      refine L_q rfl rfl rfl (q_assign rfl) ?_
      refine L_blk ?_
      refine C_region ?_
      refine L_q rfl rfl rfl (q_add rfl rfl (by first | exact IntWalk.i64_in _ (by omega) | rfl)) ?_
      refine L_q rfl rfl rfl (q_move rfl) ?_
      refine L_end ?_
      exact fun ac_ wo_ hs_ => ⟨(1, v50), (Nat.le_refl _), (by dsimp only; omega), hs_.weak ⟨rfl, rfl, rfl, rfl, rfl, rfl, rfl, trivial⟩ (fun h => h.pk (by repeat (first | with_reducible exact pk_nil | refine pk_box rfl ?_ | refine pk_rd rfl ?_ | refine pk_sl rfl ?_ | with_reducible refine pk_app ?_ | with_reducible refine pk_app0 ?_ | with_reducible refine pk_app0L ?_ | with_reducible exact pk_tl | refine pk_var ?_)))⟩
    · -- t41 False
      obtain rfl : k = 1 := by omega
      refine C_exit ?_
      change C Tryd.prog _ _ _ _ _ _ _
      refine C_seq ?_
      refine C_seq ?_
      refine C_region ?_
      refine L_q rfl rfl rfl (q_field tb rfl rfl rfl) ?_
      refine L_q rfl rfl rfl (q_load tb rfl rfl bxo rfl) ?_
      refine L_alloc tb rfl rfl fun g14 => ?_
      first | refine L_store tb rfl rfl rfl rfl rfl rfl rfl rfl ?_ | (refine L_front1 ?_; refine L_store tb rfl rfl rfl rfl rfl rfl rfl rfl ?_) | (refine L_front2 ?_; refine L_store tb rfl rfl rfl rfl rfl rfl rfl rfl ?_) | (refine L_front3 ?_; refine L_store tb rfl rfl rfl rfl rfl rfl rfl rfl ?_) | (refine L_front4 ?_; refine L_store tb rfl rfl rfl rfl rfl rfl rfl rfl ?_) | (refine L_front5 ?_; refine L_store tb rfl rfl rfl rfl rfl rfl rfl rfl ?_) | (refine L_front6 ?_; refine L_store tb rfl rfl rfl rfl rfl rfl rfl rfl ?_)
      refine L_then ?_
      refine C_block ?_
      refine C_loop (ι := Nat × Nat) (fun q => ([(7, .pointer (some ⟨g7, 0, none⟩)), (11, y), (14, .pointer (some ⟨q.2, 0, none⟩))], [box q.2 3 [.int .i64 (if q.1 = 0 then d else (dfR g.o su lo hi).hi + 1)], sl y 28 2 ([[Value.int .i64 (dfR g.o su lo hi).lo, Value.int .i64 (dfR g.o su lo hi).hi]].take 1), box g6 25 [.int .i64 lo, .int .i64 hi], box g7 28 [.int .i64 d, .int .i64 d], rd v 2 [cGs g]])) (fun q => q.1 ≤ 1) (fun q => 1 - q.1) (0, g14) (Nat.zero_le _) (fun a w hs => hs.weak ⟨rfl, rfl, rfl, trivial⟩ (fun h => h.pk (by repeat (first | with_reducible exact pk_nil | refine pk_box rfl ?_ | refine pk_rd rfl ?_ | refine pk_sl rfl ?_ | with_reducible refine pk_app ?_ | with_reducible refine pk_app0 ?_ | with_reducible refine pk_app0L ?_ | with_reducible exact pk_tl | refine pk_var ?_)))) ?_
      rintro ⟨j, q2⟩ hj9
      dsimp only at hj9 ⊢
      refine C_seq ?_
      refine C_seq ?_
      refine C_region ?_
      refine L_q rfl rfl rfl (q_load tb rfl rfl bxo rfl) ?_
      refine L_q rfl rfl rfl (q_field tb rfl rfl rfl) ?_
      refine L_q rfl rfl rfl (q_load tb rfl rfl bxo rfl) ?_
      refine L_q rfl rfl rfl (q_leq rfl rfl) ?_
      refine L_then ?_
      refine C_dec rfl (fun h57 => ?_) (fun h57 => ?_)
      · -- t57 True
        obtain rfl : j = 0 := by
          rcases Nat.lt_or_eq_of_le hj9 with h9 | h9
          · omega
          · subst h9; exfalso; have h8 := h57; rw [if_neg (by decide)] at h8; omega
        refine C_skip_then ?_
        refine C_seq ?_
        refine C_block ?_
        refine C_seq ?_
        refine C_region ?_
        refine L_q rfl rfl rfl (q_move rfl) ?_
        refine L_q rfl rfl rfl (q_makeFunc rfl rfl) ?_
        refine L_call tb rfl rfl (ct_IndexFuncRange y (bxV q2) (dfR g.o su lo hi).lo (dfR g.o su lo hi).hi d hin) (ps_cons gvo (ps_cons (gbx bxo rfl) no_ps)) rfl ?_
        refine L_q rfl rfl rfl (q_assign rfl) ?_
        refine L_then ?_
        refine C_seq ?_
        refine C_seq ?_
        refine C_region ?_
        refine L_q rfl rfl rfl (q_move rfl) ?_
        refine L_q rfl rfl rfl (q_false (q_lss rfl rfl) (by decide)) ?_
        refine L_then ?_
        refine C_false rfl ?_
        refine C_skip_then ?_
        refine C_region ?_
        refine L_q rfl rfl rfl (q_move rfl) ?_
        refine L_q rfl rfl rfl (q_move rfl) ?_
        refine L_q rfl rfl rfl (by first | exact q_index tb rfl rfl rfl rfl (by first | exact gvo | exact gvd gvo (by omega)) (by omega) (by first | omega | (simp; done) | (simp; omega)) | exact q_indexP tb rfl rfl rfl rfl (by omega) (by omega)) ?_
        refine L_q rfl rfl rfl (q_fieldE tb rfl rfl rfl (by first | exact gvo | exact gvd gvo (by omega)) (by first | omega | (simp; done) | (simp; omega))) ?_
        refine L_q rfl rfl rfl (q_loadE tb rfl rfl (by first | exact gvo | exact gvd gvo (by omega)) (i := 0) (o := 1) (by omega) rfl rfl) ?_
        refine L_q rfl rfl rfl (q_add rfl rfl (by first | exact IntWalk.i64_in _ (by omega) | rfl)) ?_
        first | refine L_store tb rfl rfl rfl rfl rfl rfl rfl rfl ?_ | (refine L_front1 ?_; refine L_store tb rfl rfl rfl rfl rfl rfl rfl rfl ?_) | (refine L_front2 ?_; refine L_store tb rfl rfl rfl rfl rfl rfl rfl rfl ?_) | (refine L_front3 ?_; refine L_store tb rfl rfl rfl rfl rfl rfl rfl rfl ?_) | (refine L_front4 ?_; refine L_store tb rfl rfl rfl rfl rfl rfl rfl rfl ?_) | (refine L_front5 ?_; refine L_store tb rfl rfl rfl rfl rfl rfl rfl rfl ?_) | (refine L_front6 ?_; refine L_store tb rfl rfl rfl rfl rfl rfl rfl rfl ?_)
        refine L_blk ?_
        refine C_seq ?_
        refine C_region ?_
        refine L_q rfl rfl rfl (q_load tb rfl rfl bxo rfl) ?_
        refine L_then ?_
        refine C_region ?_
        refine L_alloc tb rfl rfl fun g14 => ?_
        first | refine L_store tb rfl rfl rfl rfl rfl rfl rfl rfl ?_ | (refine L_front1 ?_; refine L_store tb rfl rfl rfl rfl rfl rfl rfl rfl ?_) | (refine L_front2 ?_; refine L_store tb rfl rfl rfl rfl rfl rfl rfl rfl ?_) | (refine L_front3 ?_; refine L_store tb rfl rfl rfl rfl rfl rfl rfl rfl ?_) | (refine L_front4 ?_; refine L_store tb rfl rfl rfl rfl rfl rfl rfl rfl ?_) | (refine L_front5 ?_; refine L_store tb rfl rfl rfl rfl rfl rfl rfl rfl ?_) | (refine L_front6 ?_; refine L_store tb rfl rfl rfl rfl rfl rfl rfl rfl ?_)
        refine L_end ?_
        exact fun ac_ wo_ hs_ => ⟨(1, g14), (Nat.le_refl _), (by dsimp only; omega), hs_.weak ⟨rfl, rfl, rfl, trivial⟩ (fun h => h.pk (by repeat (first | with_reducible exact pk_nil | refine pk_box rfl ?_ | refine pk_rd rfl ?_ | refine pk_sl rfl ?_ | with_reducible refine pk_app ?_ | with_reducible refine pk_app0 ?_ | with_reducible refine pk_app0L ?_ | with_reducible exact pk_tl | refine pk_var ?_)))⟩
      · -- t57 False
        refine C_exit ?_
        change C Tryd.prog _ _ _ _ _ _ _
        refine C_seq ?_
        refine C_region ?_
        refine L_q rfl rfl rfl (q_assign rfl) ?_
        refine L_q rfl rfl rfl (q_assign rfl) ?_
        refine L_then ?_
        refine C_ret ?_
        exact ret_of (res2 rfl rfl rfl) sub_nil (by intro r hr; cases hr) ⟨rfl, rfl⟩
set_option maxRecDepth 100000 in
set_option maxHeartbeats 1000000 in
theorem ct_gas_Richest (v : Value) (g : Gs) (a : Aim) (H : okAim a) (hg : ckGas g.o g.h = 0) (hm : meetP a g.o g.h) : Ct Tryd.prog 64 [v, .agg (cAi a).toArray] [(v, 2, [cGs ⟨0, 1000⟩, cGs g])] (isV (.tuple #[.int .i64 1, .int .i64 0])) := by
  refine Ct.of (N := 73) Tryd.func64 rfl rfl rfl fun w => ?_
  refine C_weak (E' := [(0, v), (1, .agg (cAi a).toArray)]) (rs' := [rd v 2 ([cGs ⟨0, 1000⟩, cGs g])]) ⟨rfl, rfl, trivial⟩ (fun _ h => h) ?_
  have hsu := H.su; have hde := H.de; have hli := H.l; have hna := H.na
  have hgk := ckGas_ok hg
  refine C_seq ?_
  refine C_region ?_
  refine L_box rfl rfl rfl fun g3 => ?_
  refine L_q rfl rfl rfl (q_assign rfl) ?_
  refine L_q rfl rfl rfl (q_assign rfl) ?_
  refine L_then ?_
  refine C_seq ?_
  refine C_seq ?_
  refine C_region ?_
  refine L_q rfl rfl rfl (q_move rfl) ?_
  refine L_call tb rfl rfl (ct_gas_checkGases v [⟨0, 1000⟩, g] (by simp) (by intro x hx; simp only [List.mem_cons, List.not_mem_nil, or_false] at hx; rcases hx with rfl | rfl; exact (by decide); exact hg)) (ps_cons (by first | exact gvo | exact gvd gvo (by omega)) no_ps) rfl ?_
  refine L_q rfl rfl rfl (q_assign rfl) ?_
  refine L_then ?_
  refine C_seq ?_
  refine C_region ?_
  refine L_q rfl rfl rfl (q_move rfl) ?_
  refine L_q rfl rfl rfl (q_false (q_neq rfl rfl) (by simp)) ?_
  refine L_then ?_
  refine C_false rfl ?_
  refine C_skip_then ?_
  refine C_seq ?_
  refine C_region ?_
  refine L_q rfl rfl rfl (q_loadA tb rfl rfl bxo rfl rfl) ?_
  refine L_call tb rfl rfl (ct_gas_aimOf a H) no_ps rfl ?_
  refine L_q rfl rfl rfl (q_move rfl) ?_
  refine L_q rfl rfl rfl (q_ext0 rfl) ?_
  refine L_q rfl rfl rfl (q_ext1 rfl) ?_
  refine L_alloc tb rfl rfl fun g7 => ?_
  first | refine L_store tb rfl rfl rfl rfl rfl rfl rfl rfl ?_ | (refine L_front1 ?_; refine L_store tb rfl rfl rfl rfl rfl rfl rfl rfl ?_) | (refine L_front2 ?_; refine L_store tb rfl rfl rfl rfl rfl rfl rfl rfl ?_) | (refine L_front3 ?_; refine L_store tb rfl rfl rfl rfl rfl rfl rfl rfl ?_) | (refine L_front4 ?_; refine L_store tb rfl rfl rfl rfl rfl rfl rfl rfl ?_) | (refine L_front5 ?_; refine L_store tb rfl rfl rfl rfl rfl rfl rfl rfl ?_) | (refine L_front6 ?_; refine L_store tb rfl rfl rfl rfl rfl rfl rfl rfl ?_)
  refine L_q rfl rfl rfl (q_assign rfl) ?_
  refine L_then ?_
  refine C_seq ?_
  refine C_seq ?_
  refine C_region ?_
  refine L_q rfl rfl rfl (q_move rfl) ?_
  refine L_q rfl rfl rfl (q_false (q_neq rfl rfl) (by simp)) ?_
  refine L_then ?_
  refine C_false rfl ?_
  refine C_skip_then ?_
  refine C_seq ?_
  refine C_region ?_
  refine L_q rfl rfl rfl (q_assign rfl) ?_
  refine L_then ?_
  refine C_seq ?_
  refine C_seq ?_
  refine C_region ?_
  refine L_q rfl rfl rfl (q_move rfl) ?_
  refine L_q rfl rfl rfl (q_len tb rfl rfl (by first | exact gvo | exact gvd gvo (by omega))) ?_
  refine L_q rfl rfl rfl (q_move rfl) ?_
  refine L_then ?_
  refine C_block ?_
  refine C_loop (ι := Nat) (fun k => ([(0, v), (7, .pointer (some ⟨g7, 0, none⟩)), (9, .int .i64 ((bstK k))), (25, v), (26, .int .i64 2), (27, .int .i64 (k : Int))], [box g7 113 (cAp a), rd v 2 [cGs ⟨0, 1000⟩, cGs g]])) (fun k => k ≤ 2) (fun k => 2 - k) 0 (Nat.zero_le _) (fun a w hs => hs.weak ⟨rfl, rfl, rfl, rfl, rfl, rfl, trivial⟩ (fun h => h.pk (by repeat (first | with_reducible exact pk_nil | refine pk_box rfl ?_ | refine pk_rd rfl ?_ | refine pk_sl rfl ?_ | with_reducible refine pk_app ?_ | with_reducible refine pk_app0 ?_ | with_reducible refine pk_app0L ?_ | with_reducible exact pk_tl | refine pk_var ?_)))) ?_
  intro k hk
  dsimp only at hk ⊢
  refine C_seq ?_
  refine C_region ?_
  refine L_q rfl rfl rfl (q_lss rfl rfl) ?_
  refine L_then ?_
  refine C_seq ?_
  refine C_dec rfl (fun h3 => ?_) (fun h3 => ?_)
  · -- t28 True
    obtain rfl | rfl : k = 0 ∨ k = 1 := by omega
    · -- case 0
      refine C_skip_then ?_
      refine C_seq ?_
      refine C_block ?_
      refine C_seq ?_
      refine C_region ?_
      refine L_q rfl rfl rfl (q_move rfl) ?_
      have hel : [cGs ⟨0, 1000⟩, cGs g][0]? = some (cGs ⟨0, 1000⟩) := rfl
      refine L_q rfl rfl rfl (by first | exact q_index tb rfl rfl rfl rfl (by first | exact gvo | exact gvd gvo (by omega)) (by omega) (by first | omega | (simp; done) | (simp; omega)) | exact q_indexP tb rfl rfl rfl rfl (by omega) (by omega)) ?_
      refine L_q rfl rfl rfl (q_loadEA tb rfl rfl (by first | exact gvo | exact gvd gvo (by omega)) (o := 0) (by omega) hel rfl rfl) ?_
      refine L_alloc tb rfl rfl fun g11 => ?_
      refine L_q rfl rfl rfl (q_assign rfl) ?_
      first | refine L_store tb rfl rfl rfl rfl rfl rfl rfl rfl ?_ | (refine L_front1 ?_; refine L_store tb rfl rfl rfl rfl rfl rfl rfl rfl ?_) | (refine L_front2 ?_; refine L_store tb rfl rfl rfl rfl rfl rfl rfl rfl ?_) | (refine L_front3 ?_; refine L_store tb rfl rfl rfl rfl rfl rfl rfl rfl ?_) | (refine L_front4 ?_; refine L_store tb rfl rfl rfl rfl rfl rfl rfl rfl ?_) | (refine L_front5 ?_; refine L_store tb rfl rfl rfl rfl rfl rfl rfl rfl ?_) | (refine L_front6 ?_; refine L_store tb rfl rfl rfl rfl rfl rfl rfl rfl ?_)
      refine L_then ?_
      refine C_seq ?_
      refine C_seq ?_
      refine C_region ?_
      refine L_q rfl rfl rfl (q_loadA tb rfl rfl bxo rfl rfl) ?_
      refine L_q rfl rfl rfl (q_loadA tb rfl rfl bxo rfl rfl) ?_
      refine L_call tb rfl rfl (ct_gas_aim_meets a H 0 1000 (by omega) (by omega)) no_ps rfl ?_
      refine L_q rfl rfl rfl (q_not rfl (by first | exact (rfl : (!true) = false) | exact (rfl : (!false) = true) | exact decide_not.symm | rfl)) ?_
      refine L_then ?_
      refine C_dec rfl (fun h35 => ?_) (fun h35 => ?_)
      · -- t35 True
        refine C_exit ?_
        change C Tryd.prog _ _ _ _ _ _ _
        refine C_region ?_
        refine L_q rfl rfl rfl (q_add rfl rfl (by first | exact IntWalk.i64_in _ (by omega) | rfl)) ?_
        refine L_q rfl rfl rfl (q_move rfl) ?_
        refine L_end ?_
        exact fun ac_ wo_ hs_ => ⟨1, (by decide), (by decide), hs_.weak ⟨rfl, rfl, rfl, rfl, rfl, rfl, trivial⟩ (fun h => h.pk (by repeat (first | with_reducible exact pk_nil | refine pk_box rfl ?_ | refine pk_rd rfl ?_ | refine pk_sl rfl ?_ | with_reducible refine pk_app ?_ | with_reducible refine pk_app0 ?_ | with_reducible refine pk_app0L ?_ | with_reducible exact pk_tl | refine pk_var ?_)))⟩
      · -- t35 False
        exact absurd (Decidable.not_not.1 h35) (not_meet H)
    · -- case 1
      refine C_skip_then ?_
      refine C_seq ?_
      refine C_block ?_
      refine C_seq ?_
      refine C_region ?_
      refine L_q rfl rfl rfl (q_move rfl) ?_
      have hel : [cGs ⟨0, 1000⟩, cGs g][1]? = some (cGs g) := rfl
      refine L_q rfl rfl rfl (by first | exact q_index tb rfl rfl rfl rfl (by first | exact gvo | exact gvd gvo (by omega)) (by omega) (by first | omega | (simp; done) | (simp; omega)) | exact q_indexP tb rfl rfl rfl rfl (by omega) (by omega)) ?_
      refine L_q rfl rfl rfl (q_loadEA tb rfl rfl (by first | exact gvo | exact gvd gvo (by omega)) (o := 0) (by omega) hel rfl rfl) ?_
      refine L_alloc tb rfl rfl fun g11 => ?_
      refine L_q rfl rfl rfl (q_assign rfl) ?_
      first | refine L_store tb rfl rfl rfl rfl rfl rfl rfl rfl ?_ | (refine L_front1 ?_; refine L_store tb rfl rfl rfl rfl rfl rfl rfl rfl ?_) | (refine L_front2 ?_; refine L_store tb rfl rfl rfl rfl rfl rfl rfl rfl ?_) | (refine L_front3 ?_; refine L_store tb rfl rfl rfl rfl rfl rfl rfl rfl ?_) | (refine L_front4 ?_; refine L_store tb rfl rfl rfl rfl rfl rfl rfl rfl ?_) | (refine L_front5 ?_; refine L_store tb rfl rfl rfl rfl rfl rfl rfl rfl ?_) | (refine L_front6 ?_; refine L_store tb rfl rfl rfl rfl rfl rfl rfl rfl ?_)
      refine L_then ?_
      refine C_seq ?_
      refine C_seq ?_
      refine C_region ?_
      refine L_q rfl rfl rfl (q_loadA tb rfl rfl bxo rfl rfl) ?_
      refine L_q rfl rfl rfl (q_loadA tb rfl rfl bxo rfl rfl) ?_
      refine L_call tb rfl rfl (ct_gas_aim_meets a H g.o g.h (by omega) (by omega)) no_ps rfl ?_
      refine L_q rfl rfl rfl (q_not rfl (by first | exact (rfl : (!true) = false) | exact (rfl : (!false) = true) | exact decide_not.symm | rfl)) ?_
      refine L_then ?_
      refine C_dec rfl (fun h35 => ?_) (fun h35 => ?_)
      · -- t35 True
        exact absurd hm h35
      · -- t35 False
        refine C_skip_then ?_
        refine C_seq ?_
        refine C_draw (n := 32) [(0, false), (1, false), (2, false), (3, false), (4, false), (5, false), (6, false), (7, false), (8, false), (9, false), (10, false), (11, false), (12, false), (13, false), (14, false), (15, false), (16, false), (17, false), (18, false), (19, false), (20, false), (21, false), (22, false), (23, false), (24, false), (25, false), (26, false), (27, false), (28, false), (29, false), (30, false), (31, false)] mixed (by kernel_rfl) ?_
        refine W_q rfl rfl rfl rfl (q_move rfl) ?_
        refine W_q rfl rfl rfl rfl (q_true (q_lss rfl rfl) (by decide)) ?_
        refine W_q rfl rfl rfl rfl (q_move rfl) ?_
        refine W_skip rfl rfl rfl rfl rfl rfl rfl rfl ?_
        refine W_skip rfl rfl rfl rfl rfl rfl rfl rfl ?_
        refine W_skip rfl rfl rfl rfl rfl rfl rfl rfl ?_
        refine W_skip rfl rfl rfl rfl rfl rfl rfl rfl ?_
        refine W_skip rfl rfl rfl rfl rfl rfl rfl rfl ?_
        refine W_skip rfl rfl rfl rfl rfl rfl rfl rfl ?_
        refine W_skip rfl rfl rfl rfl rfl rfl rfl rfl ?_
        refine W_skip rfl rfl rfl rfl rfl rfl rfl rfl ?_
        refine W_q rfl rfl rfl rfl (by first | exact q_pickT rfl rfl | exact q_pickF rfl rfl) ?_
        refine W_q rfl rfl rfl rfl (q_move rfl) ?_
        refine W_skip rfl rfl rfl rfl rfl rfl rfl rfl ?_
        refine W_skip rfl rfl rfl rfl rfl rfl rfl rfl ?_
        refine W_skip rfl rfl rfl rfl rfl rfl rfl rfl ?_
        refine W_skip rfl rfl rfl rfl rfl rfl rfl rfl ?_
        refine W_skip rfl rfl rfl rfl rfl rfl rfl rfl ?_
        refine W_skip rfl rfl rfl rfl rfl rfl rfl rfl ?_
        refine W_skip rfl rfl rfl rfl rfl rfl rfl rfl ?_
        refine W_skip rfl rfl rfl rfl rfl rfl rfl rfl ?_
        refine W_skip rfl rfl rfl rfl rfl rfl rfl rfl ?_
        refine W_skipu rfl rfl rfl rfl rfl rfl rfl ?_
        refine W_skipu rfl rfl rfl rfl rfl rfl rfl ?_
        refine W_skipu rfl rfl rfl rfl rfl rfl rfl ?_
        refine W_skipu rfl rfl rfl rfl rfl rfl rfl ?_
        refine W_skipu rfl rfl rfl rfl rfl rfl rfl ?_
        refine W_skipu rfl rfl rfl rfl rfl rfl rfl ?_
        refine W_skipu rfl rfl rfl rfl rfl rfl rfl ?_
        refine W_skipu rfl rfl rfl rfl rfl rfl rfl ?_
        refine W_skip rfl rfl rfl rfl rfl rfl rfl rfl ?_
        refine W_q rfl rfl rfl rfl (by first | exact q_pickT rfl rfl | exact q_pickF rfl rfl) ?_
        refine W_nil ?_
        refine L_then ?_
        refine C_true rfl ?_
        refine C_region ?_
        refine L_q rfl rfl rfl (q_move rfl) ?_
        refine L_q rfl rfl rfl (q_assign rfl) ?_
        refine L_blk ?_
        refine C_region ?_
        refine L_q rfl rfl rfl (q_add rfl rfl (by first | exact IntWalk.i64_in _ (by omega) | rfl)) ?_
        refine L_q rfl rfl rfl (q_move rfl) ?_
        refine L_end ?_
        exact fun ac_ wo_ hs_ => ⟨2, (by decide), (by decide), hs_.weak ⟨rfl, rfl, rfl, rfl, rfl, rfl, trivial⟩ (fun h => h.pk (by repeat (first | with_reducible exact pk_nil | refine pk_box rfl ?_ | refine pk_rd rfl ?_ | refine pk_sl rfl ?_ | with_reducible refine pk_app ?_ | with_reducible refine pk_app0 ?_ | with_reducible refine pk_app0L ?_ | with_reducible exact pk_tl | refine pk_var ?_)))⟩
  · -- t28 False
    obtain rfl : k = 2 := by omega
    refine C_exit ?_
    change C Tryd.prog _ _ _ _ _ _ _
    refine C_seq ?_
    refine C_seq ?_
    refine C_region ?_
    refine L_q rfl rfl rfl (q_move rfl) ?_
    refine L_q rfl rfl rfl (q_false (q_lss rfl rfl) (by decide)) ?_
    refine L_then ?_
    refine C_false rfl ?_
    refine C_skip_then ?_
    refine C_seq ?_
    refine C_region ?_
    refine L_q rfl rfl rfl (q_move rfl) ?_
    refine L_q rfl rfl rfl (q_assign rfl) ?_
    refine L_q rfl rfl rfl (q_assign rfl) ?_
    refine L_then ?_
    refine C_ret ?_
    exact ret_of (res2 rfl rfl rfl) sub_nil (by intro r hr; cases hr) ⟨rfl, rfl⟩
end Go.Proofs.YtibohfipgjljhaaDoor
