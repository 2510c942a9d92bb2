/-
  Walks: each function named returns what its model says. Conditions: those in front of each theorem.
-/
import Derived.Test.YtibohfipgjljhaaDoorKI
namespace Go.Proofs.YtibohfipgjljhaaDoor
open Go.RowKit

set_option maxRecDepth 100000 in
theorem ct_shotlineref01_CheckDepths (dl dh : Int) : Ct Tryd.prog 71 [.agg #[.int .i64 dl, .int .i64 dh]] [] (isV (.int .i64 ((ckDp dl dh)))) := by
  refine Ct.of (N := 18) Tryd.func71 rfl rfl rfl fun w => ?_
  refine C_weak (E' := [(0, .agg #[.int .i64 dl, .int .i64 dh])]) (rs' := []) ⟨rfl, trivial⟩ (fun _ h => h) ?_
  refine C_seq ?_
  refine C_region ?_
  refine L_box rfl rfl rfl fun g1 => ?_
  refine L_q rfl rfl rfl (q_assign rfl) ?_
  refine L_then ?_
  refine C_seq ?_
  refine C_seq ?_
  refine C_region ?_
  refine L_q rfl rfl rfl (q_field tb rfl rfl rfl) ?_
  refine L_q rfl rfl rfl (q_load tb rfl rfl bxo rfl) ?_
  refine L_call tb rfl rfl (ct_shotlineref01_IsDepth _) no_ps rfl ?_
  refine L_q rfl rfl rfl (q_not rfl (by first | exact (rfl : (!true) = false) | exact (rfl : (!false) = true) | exact decide_not.symm | rfl)) ?_
  refine L_q rfl rfl rfl (q_move rfl) ?_
  refine L_dec (d := 7) rfl (fun h1 => ?_) (fun h1 => ?_)
  · -- t7 True
    refine L_skip rfl rfl rfl rfl rfl rfl rfl ?_
    refine L_skip rfl rfl rfl rfl rfl rfl rfl ?_
    refine L_skip rfl rfl rfl rfl rfl rfl rfl ?_
    refine L_skip rfl rfl rfl rfl rfl rfl rfl ?_
    refine L_q rfl rfl rfl (by first | exact q_pickT rfl rfl | exact q_pickF rfl rfl) ?_
    refine L_then ?_
    refine C_true rfl ?_
    refine C_seq ?_
    refine C_region ?_
    refine L_q rfl rfl rfl (q_assign rfl) ?_
    refine L_then ?_
    refine C_ret ?_
    exact ret_of (res1 rfl rfl) sub_nil (by intro r hr; cases hr) ⟨(congrArg (Value.int .i64) (by unfold ckDp; (repeat' split) <;> omega)), rfl⟩
  · -- t7 False
    refine L_qg rfl rfl rfl rfl rfl rfl rfl (q_field tb rfl rfl rfl) ?_
    refine L_qg rfl rfl rfl rfl rfl rfl rfl (q_load tb rfl rfl bxo rfl) ?_
    refine L_callg tb rfl rfl rfl rfl rfl rfl (ct_shotlineref01_IsDepth _) no_ps rfl ?_
    refine L_qg rfl rfl rfl rfl rfl rfl rfl (q_not rfl (by first | exact (rfl : (!true) = false) | exact (rfl : (!false) = true) | exact decide_not.symm | rfl)) ?_
    refine L_q rfl rfl rfl (by first | exact q_pickT rfl rfl | exact q_pickF rfl rfl) ?_
    refine L_then ?_
    refine C_dec rfl (fun h3 => ?_) (fun h3 => ?_)
    · -- t12 True
      refine C_seq ?_
      refine C_region ?_
      refine L_q rfl rfl rfl (q_assign rfl) ?_
      refine L_then ?_
      refine C_ret ?_
      exact ret_of (res1 rfl rfl) sub_nil (by intro r hr; cases hr) ⟨(congrArg (Value.int .i64) (by unfold ckDp; (repeat' split) <;> omega)), rfl⟩
    · -- t12 False
      refine C_skip_then ?_
      refine C_seq ?_
      refine C_seq ?_
      refine C_region ?_
      refine L_q rfl rfl rfl (q_field tb rfl rfl rfl) ?_
      refine L_q rfl rfl rfl (q_load tb rfl rfl bxo rfl) ?_
      refine L_q rfl rfl rfl (q_field tb rfl rfl rfl) ?_
      refine L_q rfl rfl rfl (q_load tb rfl rfl bxo rfl) ?_
      refine L_q rfl rfl rfl (q_gtr rfl rfl) ?_
      refine L_then ?_
      refine C_dec rfl (fun h4 => ?_) (fun h4 => ?_)
      · -- t17 True
        refine C_seq ?_
        refine C_region ?_
        refine L_q rfl rfl rfl (q_assign rfl) ?_
        refine L_then ?_
        refine C_ret ?_
        exact ret_of (res1 rfl rfl) sub_nil (by intro r hr; cases hr) ⟨(congrArg (Value.int .i64) (by unfold ckDp; (repeat' split) <;> omega)), rfl⟩
      · -- t17 False
        refine C_skip_then ?_
        refine C_seq ?_
        refine C_region ?_
        refine L_q rfl rfl rfl (q_assign rfl) ?_
        refine L_then ?_
        refine C_ret ?_
        exact ret_of (res1 rfl rfl) sub_nil (by intro r hr; cases hr) ⟨(congrArg (Value.int .i64) (by unfold ckDp; (repeat' split) <;> omega)), rfl⟩
set_option maxRecDepth 100000 in
set_option maxHeartbeats 4000000 in
theorem ct_shotlineref01_FirstGap (v : Value) (gs : List Gs) (su lo hi dl dh : Int) (hle : gs.length ≤ 100000) (hz : gpC gs su lo hi dl dh = 0) : Ct Tryd.prog 72 [v, .int .i64 su, .agg #[.int .i64 lo, .int .i64 hi], .agg #[.int .i64 dl, .int .i64 dh]] [(v, 2, gs.map cGs)] (isV (.int .i64 ((gapM (rgL gs su lo hi) dl dh)))) := by
  refine Ct.of (N := 54) Tryd.func72 rfl rfl rfl fun w => ?_
  refine C_weak (E' := [(0, v), (1, .int .i64 su), (2, .agg #[.int .i64 lo, .int .i64 hi]), (3, .agg #[.int .i64 dl, .int .i64 dh])]) (rs' := [rd v 2 (gs.map cGs)]) ⟨rfl, rfl, rfl, rfl, trivial⟩ (fun _ h => h) ?_
  have hl1 := len_map cGs gs
  have hgo := gp_ok hz; have hok := gs8_ok hgo.1
  refine C_seq ?_
  refine C_region ?_
  refine L_box rfl rfl rfl fun g6 => ?_
  refine L_box rfl rfl rfl fun g7 => ?_
  refine L_q rfl rfl rfl (q_assign rfl) ?_
  refine L_then ?_
  refine C_seq ?_
  refine C_seq ?_
  refine C_region ?_
  refine L_q rfl rfl rfl (q_field tb rfl rfl rfl) ?_
  refine L_q rfl rfl rfl (q_load tb rfl rfl bxo rfl) ?_
  refine L_q rfl rfl rfl (q_assign rfl) ?_
  refine L_then ?_
  refine C_block ?_
  refine C_loop (ι := Int) (fun d => ([(0, v), (1, .int .i64 su), (6, .pointer (some ⟨g6, 0, none⟩)), (7, .pointer (some ⟨g7, 0, none⟩)), (9, .int .i64 d)], [box g6 25 [.int .i64 lo, .int .i64 hi], box g7 28 [.int .i64 dl, .int .i64 dh], rd v 2 (gs.map cGs)])) (fun d => (dl ≤ d ∧ d ≤ 30001) ∧ ∀ x, dl ≤ x → x < d → ¬ gapP (rgL gs su lo hi) x) (fun d => (dh + 1 - d).toNat) dl ⟨by omega, fun x h1 h2 => by omega⟩ (fun a w hs => hs.weak ⟨rfl, rfl, rfl, rfl, rfl, trivial⟩ (fun h => h.pk (by repeat (first | with_reducible exact pk_nil | refine pk_box rfl ?_ | refine pk_rd rfl ?_ | refine pk_sl rfl ?_ | with_reducible refine pk_app ?_ | with_reducible refine pk_app0 ?_ | with_reducible refine pk_app0L ?_ | with_reducible exact pk_tl | refine pk_var ?_)))) ?_
  rintro d ⟨hd, h0⟩
  dsimp only at hd h0 ⊢
  refine C_seq ?_
  refine C_seq ?_
  refine C_region ?_
  refine L_q rfl rfl rfl (q_move rfl) ?_
  refine L_q rfl rfl rfl (q_field tb rfl rfl rfl) ?_
  refine L_q rfl rfl rfl (q_load tb rfl rfl bxo rfl) ?_
  refine L_q rfl rfl rfl (q_leq rfl rfl) ?_
  refine L_then ?_
  refine C_dec rfl (fun hle9 => ?_) (fun hle9 => ?_)
  · -- t19 True
    refine C_skip_then ?_
    refine C_block ?_
    refine C_seq ?_
    refine C_region ?_
    refine L_q rfl rfl rfl (q_assign rfl) ?_
    refine L_then ?_
    refine C_seq ?_
    refine C_seq ?_
    refine C_region ?_
    refine L_q rfl rfl rfl (q_assign rfl) ?_
    refine L_then ?_
    refine C_block ?_
    refine C_loop (ι := Nat) (fun k => ([(0, v), (1, .int .i64 su), (6, .pointer (some ⟨g6, 0, none⟩)), (7, .pointer (some ⟨g7, 0, none⟩)), (9, .int .i64 d), (10, .int .i64 ((nxM (rgL gs su lo hi) d k))), (11, .int .i64 (k : Int))], [box g6 25 [.int .i64 lo, .int .i64 hi], box g7 28 [.int .i64 dl, .int .i64 dh], rd v 2 (gs.map cGs)])) (fun k => k ≤ gs.length) (fun k => gs.length - k) 0 (Nat.zero_le _) (fun a w hs => hs.weak ⟨rfl, rfl, rfl, rfl, rfl, rfl, rfl, trivial⟩ (fun h => h.pk (by repeat (first | with_reducible exact pk_nil | refine pk_box rfl ?_ | refine pk_rd rfl ?_ | refine pk_sl rfl ?_ | with_reducible refine pk_app ?_ | with_reducible refine pk_app0 ?_ | with_reducible refine pk_app0L ?_ | with_reducible exact pk_tl | refine pk_var ?_)))) ?_
    intro k hk
    dsimp only at hk ⊢
    have hnk := nx_in (rg_hi gs su lo hi) d k
    refine C_seq ?_
    refine C_seq ?_
    refine C_region ?_
    refine L_q rfl rfl rfl (q_move rfl) ?_
    refine L_q rfl rfl rfl (q_move rfl) ?_
    refine L_q rfl rfl rfl (q_len tb rfl rfl (by first | exact gvo | exact gvd gvo (by omega))) ?_
    refine L_q rfl rfl rfl (q_lss rfl rfl) ?_
    refine L_then ?_
    refine C_dec rfl (fun h2 => ?_) (fun h2 => ?_)
    · -- t23 True
      obtain ⟨g, he⟩ := get_some gs (k := k) (by omega); have hel := map_get cGs he; have hgk := ckGas_ok (ckGl_ok hok.1 g (List.mem_of_getElem? he))
      have hzg := depC_mk (ckGl_ok hok.1 g (List.mem_of_getElem? he)) hgo.2.1 hgo.2.2.2.2
      have hre := rgL_get (su := su) (lo := lo) (hi := hi) he
      have hrh := rg_hi gs su lo hi k
      rw [rgAt_get hre] at hrh
      refine C_skip_then ?_
      refine C_seq ?_
      refine C_block ?_
      refine C_seq ?_
      refine C_wideF1 tb (k := 10) [(0, false), (1, false), (2, false), (3, false), (4, false), (5, false), (6, true), (7, false), (8, false), (9, false)] [.s 11, .q 12] mixed (by kernel_rfl) rfl rfl rfl rfl (by kernel_rfl) rfl ?_
      refine X1_q rfl rfl rfl rfl (q_move rfl) ?_
      refine X1_q rfl rfl rfl rfl (q_move rfl) ?_
      refine X1_q rfl rfl rfl rfl (by first | exact q_index tb rfl rfl rfl rfl (by first | exact gvo | exact gvd gvo (by omega)) (by omega) (by first | omega | (simp; done) | (simp; omega)) | exact q_indexP tb rfl rfl rfl rfl (by omega) (by omega)) ?_
      refine X1_q rfl rfl rfl rfl (q_loadEA tb rfl rfl (by first | exact gvo | exact gvd gvo (by omega)) (i := k) (o := 0) (by omega) hel rfl rfl) ?_
      refine X1_q rfl rfl rfl rfl (q_move rfl) ?_
      refine X1_q rfl rfl rfl rfl (q_loadA tb rfl rfl bxo rfl rfl) ?_
      refine X1_v rfl rfl rfl rfl (lo_call tb rfl rfl (ct_shotlineref01_DepthsFor g su lo hi hzg) no_ps isV_sinks) ?_
      refine X1_q rfl rfl rfl rfl (q_move rfl) ?_
      refine X1_q rfl rfl rfl rfl (q_ext0 rfl) ?_
      refine X1_q rfl rfl rfl rfl (q_ext1 rfl) ?_
      refine X1_nil ?_
      intro g12
      try dsimp only [List.cons_append, List.nil_append]
      first | refine X_store tb rfl rfl (List.Perm.refl _) rfl rfl rfl rfl rfl rfl rfl rfl ?_ | refine X_store tb rfl rfl perm1 rfl rfl rfl rfl rfl rfl rfl rfl ?_ | refine X_store tb rfl rfl (perm_front (pre := [_, _])) rfl rfl rfl rfl rfl rfl rfl rfl ?_ | refine X_store tb rfl rfl (perm_front (pre := [_, _, _])) rfl rfl rfl rfl rfl rfl rfl rfl ?_
      refine X_q rfl rfl rfl rfl (q_assign rfl) ?_
      refine X_nil ?_
      dsimp only [List.cons_append, List.nil_append]
      refine L_then ?_
      refine C_seq ?_
      refine C_region ?_
      refine L_q rfl rfl rfl (q_move rfl) ?_
      refine L_q rfl rfl rfl (q_move rfl) ?_
      refine L_dec (d := 37) rfl (fun hle8 => ?_) (fun hle8 => ?_)
      · -- t37 True
        have ho : g.o ≠ 0 := fun h => df_0 h hle8
        rw [rfV_1 ho]
        refine L_qg rfl rfl rfl rfl rfl rfl rfl (q_move rfl) ?_
        refine L_qg rfl rfl rfl rfl rfl rfl rfl (q_field tb rfl rfl rfl) ?_
        refine L_qg rfl rfl rfl rfl rfl rfl rfl (q_load tb rfl rfl bxo rfl) ?_
        refine L_qg rfl rfl rfl rfl rfl rfl rfl (q_field tb rfl rfl rfl) ?_
        refine L_qg rfl rfl rfl rfl rfl rfl rfl (q_load tb rfl rfl bxo rfl) ?_
        refine L_callg tb rfl rfl rfl rfl rfl rfl (ct_shotlinebase_Within _ _ _) no_ps rfl ?_
        refine L_q rfl rfl rfl (by first | exact q_pickT rfl rfl | exact q_pickF rfl rfl) ?_
        refine L_then ?_
        refine C_dec rfl (fun h4 => ?_) (fun h4 => ?_)
        · -- t44 True
          refine C_region ?_
          refine L_q rfl rfl rfl (q_move rfl) ?_
          refine L_q rfl rfl rfl (q_field tb rfl rfl rfl) ?_
          refine L_q rfl rfl rfl (q_load tb rfl rfl bxo rfl) ?_
          refine L_q rfl rfl rfl (q_add rfl rfl (by first | exact IntWalk.i64_in _ (by omega) | rfl)) ?_
          refine L_q rfl rfl rfl (q_max rfl rfl) ?_
          refine L_q rfl rfl rfl (q_assign rfl) ?_
          refine L_blk ?_
          refine C_region ?_
          refine L_q rfl rfl rfl (q_move rfl) ?_
          refine L_q rfl rfl rfl (q_add rfl rfl (by first | exact IntWalk.i64_in _ (by omega) | rfl)) ?_
          refine L_q rfl rfl rfl (q_assign rfl) ?_
          refine L_end ?_
          exact fun ac_ wo_ hs_ => ⟨(k + 1), (by first | omega | (dsimp only; omega)), (by first | omega | (dsimp only; omega)), hs_.weak ⟨rfl, rfl, rfl, rfl, rfl, en (by rw [nx_yes hre (by unfold inR; omega)]), rfl, trivial⟩ (fun h => h.pk (by repeat (first | with_reducible exact pk_nil | refine pk_box rfl ?_ | refine pk_rd rfl ?_ | refine pk_sl rfl ?_ | with_reducible refine pk_app ?_ | with_reducible refine pk_app0 ?_ | with_reducible refine pk_app0L ?_ | with_reducible exact pk_tl | refine pk_var ?_)))⟩
        · -- t44 False
          refine C_skip_blk ?_
          refine C_region ?_
          refine L_q rfl rfl rfl (q_move rfl) ?_
          refine L_q rfl rfl rfl (q_add rfl rfl (by first | exact IntWalk.i64_in _ (by omega) | rfl)) ?_
          refine L_q rfl rfl rfl (q_assign rfl) ?_
          refine L_end ?_
          exact fun ac_ wo_ hs_ => ⟨(k + 1), (by first | omega | (dsimp only; omega)), (by first | omega | (dsimp only; omega)), hs_.weak ⟨rfl, rfl, rfl, rfl, rfl, en (by rw [nx_no hre (by unfold inR; omega)]), rfl, trivial⟩ (fun h => h.pk (by repeat (first | with_reducible exact pk_nil | refine pk_box rfl ?_ | refine pk_rd rfl ?_ | refine pk_sl rfl ?_ | with_reducible refine pk_app ?_ | with_reducible refine pk_app0 ?_ | with_reducible refine pk_app0L ?_ | with_reducible exact pk_tl | refine pk_var ?_)))⟩
      · -- t37 False
        refine L_skip rfl rfl rfl rfl rfl rfl rfl ?_
        refine L_skip rfl rfl rfl rfl rfl rfl rfl ?_
        refine L_skip rfl rfl rfl rfl rfl rfl rfl ?_
        refine L_skip rfl rfl rfl rfl rfl rfl rfl ?_
        refine L_skip rfl rfl rfl rfl rfl rfl rfl ?_
        refine L_skip rfl rfl rfl rfl rfl rfl rfl ?_
        refine L_q rfl rfl rfl (by first | exact q_pickT rfl rfl | exact q_pickF rfl rfl) ?_
        refine L_then ?_
        refine C_false rfl ?_
        refine C_skip_blk ?_
        refine C_region ?_
        refine L_q rfl rfl rfl (q_move rfl) ?_
        refine L_q rfl rfl rfl (q_add rfl rfl (by first | exact IntWalk.i64_in _ (by omega) | rfl)) ?_
        refine L_q rfl rfl rfl (q_assign rfl) ?_
        refine L_end ?_
        exact fun ac_ wo_ hs_ => ⟨(k + 1), (by first | omega | (dsimp only; omega)), (by first | omega | (dsimp only; omega)), hs_.weak ⟨rfl, rfl, rfl, rfl, rfl, en (by rw [nx_no hre (by unfold inR; omega)]), rfl, trivial⟩ (fun h => h.pk (by repeat (first | with_reducible exact pk_nil | refine pk_box rfl ?_ | refine pk_rd rfl ?_ | refine pk_sl rfl ?_ | with_reducible refine pk_app ?_ | with_reducible refine pk_app0 ?_ | with_reducible refine pk_app0L ?_ | with_reducible exact pk_tl | refine pk_var ?_)))⟩
    · -- t23 False
      obtain rfl : k = gs.length := by omega
      have hni := nx_in (rg_hi gs su lo hi) d gs.length
      refine C_exit ?_
      change C Tryd.prog _ _ _ _ _ _ _
      refine C_seq ?_
      refine C_seq ?_
      refine C_region ?_
      refine L_q rfl rfl rfl (q_move rfl) ?_
      refine L_q rfl rfl rfl (q_lss rfl rfl) ?_
      refine L_then ?_
      refine C_dec rfl (fun hneg => ?_) (fun hneg => ?_)
      · -- t51 True
        have hg9 : gapP (rgL gs su lo hi) d := by
          rcases nx_spec (rs := (rgL gs su lo hi)) (d := d) (by omega) gs.length (by rw [rgL_len]; exact Nat.le_refl _) with ⟨_, h⟩ | ⟨j, _, hj, h⟩
          · intro i hi; exact h i (by rw [rgL_len] at hi; exact hi)
          · exfalso; have := hj.2; omega
        refine C_seq ?_
        refine C_region ?_
        refine L_q rfl rfl rfl (q_move rfl) ?_
        refine L_q rfl rfl rfl (q_assign rfl) ?_
        refine L_then ?_
        refine C_ret ?_
        rw [gap_found hd.1 hle9 hg9 h0]
        exact ret_of (res1 rfl rfl) sub_nil (by intro r hr; cases hr) ⟨rfl, rfl⟩
      · -- t51 False
        have hs9 : (∀ x, dl ≤ x → x < (nxM (rgL gs su lo hi) d gs.length) → ¬ gapP (rgL gs su lo hi) x) ∧ d < (nxM (rgL gs su lo hi) d gs.length) := by
          rcases nx_spec (rs := (rgL gs su lo hi)) (d := d) (by omega) gs.length (by rw [rgL_len]; exact Nat.le_refl _) with ⟨h, _⟩ | ⟨j, hj1, hj, h⟩
          · exfalso; omega
          · rw [h]; exact ⟨gap_skip hj1 hj h0, by have := hj.2; omega⟩
        refine C_skip_then ?_
        refine C_region ?_
        refine L_q rfl rfl rfl (q_move rfl) ?_
        refine L_q rfl rfl rfl (q_assign rfl) ?_
        refine L_end ?_
        exact fun ac_ wo_ hs_ => ⟨(nxM (rgL gs su lo hi) d gs.length), ⟨by omega, hs9.1⟩, (by first | omega | (dsimp only; omega)), hs_.weak ⟨rfl, rfl, rfl, rfl, rfl, trivial⟩ (fun h => h.pk (by repeat (first | with_reducible exact pk_nil | refine pk_box rfl ?_ | refine pk_rd rfl ?_ | refine pk_sl rfl ?_ | with_reducible refine pk_app ?_ | with_reducible refine pk_app0 ?_ | with_reducible refine pk_app0L ?_ | with_reducible exact pk_tl | refine pk_var ?_)))⟩
  · -- t19 False
    refine C_exit ?_
    change C Tryd.prog _ _ _ _ _ _ _
    refine C_seq ?_
    refine C_region ?_
    refine L_q rfl rfl rfl (q_assign rfl) ?_
    refine L_then ?_
    refine C_ret ?_
    rw [gap_none (show dh < d by omega) h0]
    exact ret_of (res1 rfl rfl) sub_nil (by intro r hr; cases hr) ⟨rfl, rfl⟩
end Go.Proofs.YtibohfipgjljhaaDoor
