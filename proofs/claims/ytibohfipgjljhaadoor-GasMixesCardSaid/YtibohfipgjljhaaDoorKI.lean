/-
  Walks: each function named returns what its model says. Conditions: those in front of each theorem.
-/
import Derived.Test.YtibohfipgjljhaaDoorKH
import Derived.Test.YtibohfipgjljhaaDoorGd
namespace Go.Proofs.YtibohfipgjljhaaDoor
open Go.RowKit

set_option maxRecDepth 100000 in
theorem ct_IndexFuncAll (v b : Value) (rs : List Rg) (c : Int) (hle : rs.length ≤ 100000) : Ct Tryd.prog 104 [v, .func (.func 105) #[] #[elP b 0]] [(v, 2, rs.map cRg), (b, 1, [cI c])] (isV (.int .i64 ((ixM rs c)))) := by
  refine Ct.of (N := 19) Tryd.func104 rfl rfl rfl fun w => ?_
  refine C_weak (E' := [(0, v), (1, .func (.func 105) #[] #[elP b 0])]) (rs' := [rd v 2 (rs.map cRg), rd b 1 ([cI c])]) ⟨rfl, rfl, trivial⟩ (fun _ h => h) ?_
  have hl1 := len_map cRg rs
  refine C_seq ?_
  refine C_region ?_
  refine L_q rfl rfl rfl (q_assign rfl) ?_
  refine L_then ?_
  refine C_seq ?_
  refine C_seq ?_
  refine C_region ?_
  refine L_q rfl rfl rfl (q_move rfl) ?_
  refine L_q rfl rfl rfl (q_len tb rfl rfl (by first | exact gvo | exact gvd gvo (by omega))) ?_
  refine L_q rfl rfl rfl (q_move rfl) ?_
  refine L_then ?_
  refine C_block ?_
  refine C_loop (ι := Nat) (fun k => ([(0, v), (1, .func (.func 105) #[] #[elP b 0]), (6, v), (7, .int .i64 (rs.map cRg).length), (8, .int .i64 (k : Int))], [rd v 2 (rs.map cRg), rd b 1 [cI c]])) (fun k => k ≤ rs.length ∧ ∀ i, i < k → ¬ inR (rgAt rs i) c) (fun k => rs.length - k) 0 ⟨Nat.zero_le _, fun i hi => absurd hi (Nat.not_lt_zero _)⟩ (fun a w hs => hs.weak ⟨rfl, rfl, rfl, rfl, rfl, trivial⟩ (fun h => h.pk (by repeat (first | with_reducible exact pk_nil | refine pk_box rfl ?_ | refine pk_rd rfl ?_ | refine pk_sl rfl ?_ | with_reducible refine pk_app ?_ | with_reducible refine pk_app0 ?_ | with_reducible refine pk_app0L ?_ | with_reducible exact pk_tl | refine pk_var ?_)))) ?_
  rintro k ⟨hk, h0⟩
  dsimp only at hk h0 ⊢
  refine C_seq ?_
  refine C_region ?_
  refine L_q rfl rfl rfl (q_lss rfl rfl) ?_
  refine L_then ?_
  refine C_seq ?_
  refine C_dec rfl (fun h1 => ?_) (fun h1 => ?_)
  · -- t9 True
    obtain ⟨r, he⟩ := get_some rs (k := k) (by omega); have hel := map_get cRg he
    refine C_skip_then ?_
    refine C_seq ?_
    refine C_block ?_
    refine C_seq ?_
    refine C_region ?_
    refine L_q rfl rfl rfl (q_move rfl) ?_
    refine L_q rfl rfl rfl (q_assign rfl) ?_
    refine L_then ?_
    refine C_seq ?_
    refine C_region ?_
    refine L_q rfl rfl rfl (q_move rfl) ?_
    refine L_q rfl rfl rfl (q_move rfl) ?_
    refine L_q rfl rfl rfl (q_move rfl) ?_
    refine L_q rfl rfl rfl (by first | exact q_index tb rfl rfl rfl rfl (by first | exact gvo | exact gvd gvo (by omega)) (by omega) (by first | omega | (simp; done) | (simp; omega)) | exact q_indexP tb rfl rfl rfl rfl (by omega) (by omega)) ?_
    refine L_q rfl rfl rfl (q_loadEA tb rfl rfl (by first | exact gvo | exact gvd gvo (by omega)) (i := k) (o := 0) (by omega) hel rfl rfl) ?_
    refine L_callC (tb.en_ok _ (lkT_mem (rfl : lkT tb.en 105 = some ()))) rfl rfl (ct_gas_FirstGap_1 b r.lo r.hi c) (ps_cons gvo no_ps) rfl ?_
    refine L_then ?_
    refine C_dec rfl (fun h16 => ?_) (fun h16 => ?_)
    · -- t16 True
      refine C_seq ?_
      refine C_region ?_
      refine L_q rfl rfl rfl (q_move rfl) ?_
      refine L_q rfl rfl rfl (q_assign rfl) ?_
      refine L_then ?_
      refine C_ret ?_
      rw [ix_yes he h0 h16]
      exact ret_of (res1 rfl rfl) sub_nil (by intro r hr; cases hr) ⟨rfl, rfl⟩
    · -- t16 False
      refine C_skip_blk ?_
      refine C_region ?_
      refine L_q rfl rfl rfl (q_add rfl rfl (by first | exact IntWalk.i64_in _ (by omega) | rfl)) ?_
      refine L_q rfl rfl rfl (q_move rfl) ?_
      refine L_end ?_
      exact fun ac_ wo_ hs_ => ⟨k + 1, ⟨by omega, ix_next he h0 h16⟩, (by first | omega | (dsimp only; omega)), hs_.weak ⟨rfl, rfl, rfl, rfl, rfl, trivial⟩ (fun h => h.pk (by repeat (first | with_reducible exact pk_nil | refine pk_box rfl ?_ | refine pk_rd rfl ?_ | refine pk_sl rfl ?_ | with_reducible refine pk_app ?_ | with_reducible refine pk_app0 ?_ | with_reducible refine pk_app0L ?_ | with_reducible exact pk_tl | refine pk_var ?_)))⟩
  · -- t9 False
    refine C_exit ?_
    change C Tryd.prog _ _ _ _ _ _ _
    refine C_seq ?_
    refine C_region ?_
    refine L_q rfl rfl rfl (q_assign rfl) ?_
    refine L_then ?_
    refine C_ret ?_
    rw [ix_no (fun i hi => h0 i (by omega))]
    exact ret_of (res1 rfl rfl) sub_nil (by intro r hr; cases hr) ⟨rfl, rfl⟩
set_option maxRecDepth 100000 in
set_option maxHeartbeats 4000000 in
theorem ct_FirstGapE (v : Value) (gs : List Gs) (su lo hi dl dh : Int) (hle : gs.length ≤ 100000) : Ct Tryd.prog 70 [v, .int .i64 su, .agg #[.int .i64 lo, .int .i64 hi], .agg #[.int .i64 dl, .int .i64 dh]] [(v, 2, gs.map cGs)] (isV (.tuple #[.int .i64 (gpE gs su lo hi dl dh).1, .int .i64 (gpE gs su lo hi dl dh).2])) := by
  refine Ct.of (N := 71) Tryd.func70 rfl rfl rfl fun w => ?_
  refine C_weak (E' := [(0, v), (1, .int .i64 su), (2, .agg #[.int .i64 lo, .int .i64 hi]), (3, .agg #[.int .i64 dl, .int .i64 dh])]) (rs' := [rd v 2 (gs.map cGs)]) ⟨rfl, rfl, rfl, rfl, trivial⟩ (fun _ h => h) ?_
  have hl1 := len_map cGs gs
  refine C_seq ?_
  refine C_region ?_
  refine L_box rfl rfl rfl fun g6 => ?_
  refine L_box rfl rfl rfl fun g7 => ?_
  refine L_q rfl rfl rfl (q_assign rfl) ?_
  refine L_q rfl rfl rfl (q_assign rfl) ?_
  refine L_then ?_
  refine C_seq ?_
  refine C_seq ?_
  refine C_draw (n := 14) [(0, false), (2, false), (4, false), (6, false), (7, false), (9, false), (10, false), (1, true), (3, true), (5, true), (8, true), (11, true), (12, true), (13, true)] mixed (by kernel_rfl) ?_
  refine W_q rfl rfl rfl rfl (q_move rfl) ?_
  refine W_q rfl rfl rfl rfl (q_move rfl) ?_
  refine W_q rfl rfl rfl rfl (q_loadA tb rfl rfl bxo rfl rfl) ?_
  refine W_q rfl rfl rfl rfl (q_field tb rfl rfl rfl) ?_
  refine W_q rfl rfl rfl rfl (q_load tb rfl rfl bxo rfl) ?_
  refine W_q rfl rfl rfl rfl (q_field tb rfl rfl rfl) ?_
  refine W_q rfl rfl rfl rfl (q_load tb rfl rfl bxo rfl) ?_
  refine W_call tb rfl rfl rfl rfl (ct_checkGasesE v gs hle) (ps_cons (by first | exact gvo | exact gvd gvo (by omega)) no_ps) rfl ?_
  refine W_call tb rfl rfl rfl rfl (ct_gas_checkSurface _) no_ps rfl ?_
  refine W_call tb rfl rfl rfl rfl (ct_gas_CheckLimits lo hi) no_ps rfl ?_
  refine W_call tb rfl rfl rfl rfl (ct_gas_checkDepth _) no_ps rfl ?_
  refine W_call tb rfl rfl rfl rfl (ct_gas_checkDepth _) no_ps rfl ?_
  refine W_mk rfl (lo_bslice tb rfl rfl rfl (xs := [[_], [_], [_], [_], [_]]) rfl rfl (by simp) rfl (by omega) rfl) rfl rfl rfl fun v28 => ?_
  refine W_call tb rfl rfl rfl rfl (ct_gas_first _ [_, _, _, _, _] (by simp)) (ps_cons (by first | exact gvo | exact gvd gvo (by omega)) no_ps) rfl ?_
  refine W_nil ?_
  rw [show firstE [ckGs8 gs, if 400 ≤ su ∧ su ≤ 1100 then 0 else 2, ckLim lo hi, if 0 ≤ dl ∧ dl ≤ 30000 then 0 else 2, if 0 ≤ dh ∧ dh ≤ 30000 then 0 else 2] = gp5 gs su lo hi dl dh from rfl]
  refine L_q rfl rfl rfl (q_assign rfl) ?_
  refine L_then ?_
  refine C_seq ?_
  refine C_region ?_
  refine L_q rfl rfl rfl (q_move rfl) ?_
  refine L_q rfl rfl rfl (q_neq rfl rfl) ?_
  refine L_then ?_
  refine C_dec rfl (fun hc => ?_) (fun hc => ?_)
  · -- t31 True
    have hgc : gpC gs su lo hi dl dh ≠ 0 := by rw [gp_bad hc]; exact hc
    refine C_seq ?_
    refine C_region ?_
    refine L_q rfl rfl rfl (q_move rfl) ?_
    refine L_q rfl rfl rfl (q_assign rfl) ?_
    refine L_q rfl rfl rfl (q_assign rfl) ?_
    refine L_then ?_
    refine C_ret ?_
    rw [gpE_1 hgc, gp_bad hc]
    exact ret_of (res2 rfl rfl rfl) sub_nil (by intro r hr; cases hr) ⟨rfl, rfl⟩
  · -- t31 False
    have hc := Decidable.not_not.1 hc
    refine C_skip_then ?_
    refine C_seq ?_
    refine C_seq ?_
    refine C_region ?_
    refine L_q rfl rfl rfl (q_field tb rfl rfl rfl) ?_
    refine L_q rfl rfl rfl (q_load tb rfl rfl bxo rfl) ?_
    refine L_q rfl rfl rfl (q_field tb rfl rfl rfl) ?_
    refine L_q rfl rfl rfl (q_load tb rfl rfl bxo rfl) ?_
    refine L_q rfl rfl rfl (q_gtr rfl rfl) ?_
    refine L_then ?_
    refine C_dec rfl (fun hord => ?_) (fun hord => ?_)
    · -- t37 True
      have hgc : gpC gs su lo hi dl dh ≠ 0 := by rw [gp_ord hc, if_pos hord]; decide
      refine C_seq ?_
      refine C_region ?_
      refine L_q rfl rfl rfl (q_assign rfl) ?_
      refine L_q rfl rfl rfl (q_assign rfl) ?_
      refine L_then ?_
      refine C_ret ?_
      rw [gpE_1 hgc, gp_ord hc, if_pos hord]
      exact ret_of (res2 rfl rfl rfl) sub_nil (by intro r hr; cases hr) ⟨rfl, rfl⟩
    · -- t37 False
      have hz : gpC gs su lo hi dl dh = 0 := by rw [gp_ord hc, if_neg hord]
      have hgo := gp_ok hz; have hok := gs8_ok hgo.1
      refine C_skip_then ?_
      refine C_seq ?_
      refine C_region ?_
      refine L_q rfl rfl rfl (q_assign rfl) ?_
      refine L_then ?_
      refine C_seq ?_
      refine C_seq ?_
      refine C_region ?_
      refine L_q rfl rfl rfl (q_move rfl) ?_
      refine L_q rfl rfl rfl (q_len tb rfl rfl (by first | exact gvo | exact gvd gvo (by omega))) ?_
      refine L_q rfl rfl rfl (q_move rfl) ?_
      refine L_then ?_
      refine C_block ?_
      refine C_nil 28 2 ?_
      refine C_loop (ι := Nat × Value) (fun q => ([(1, .int .i64 su), (6, .pointer (some ⟨g6, 0, none⟩)), (7, .pointer (some ⟨g7, 0, none⟩)), (38, v), (39, .int .i64 (gs.map cGs).length), (40, .int .i64 (q.1 : Int)), (11, q.2)], [sl q.2 28 2 ((rgL (gs.take q.1) su lo hi).map cRg), box g6 25 [.int .i64 lo, .int .i64 hi], box g7 28 [.int .i64 dl, .int .i64 dh], rd v 2 (gs.map cGs)])) (fun q => q.1 ≤ gs.length) (fun q => gs.length - q.1) (0, .slice none 0 0) (Nat.zero_le _) (fun a w hs => hs.weak ⟨rfl, rfl, rfl, rfl, rfl, rfl, rfl, trivial⟩ (fun h => h.pk (by repeat (first | with_reducible exact pk_nil | refine pk_box rfl ?_ | refine pk_rd rfl ?_ | refine pk_sl rfl ?_ | with_reducible refine pk_app ?_ | with_reducible refine pk_app0 ?_ | with_reducible refine pk_app0L ?_ | with_reducible exact pk_tl | refine pk_var ?_)))) ?_
      rintro ⟨k, y⟩ hk
      dsimp only at hk ⊢
      have hlt : (gs.take k).length ≤ 8 := by rw [List.length_take]; omega
      refine C_seq ?_
      refine C_region ?_
      refine L_q rfl rfl rfl (q_lss rfl rfl) ?_
      refine L_then ?_
      refine C_seq ?_
      refine C_dec rfl (fun h3 => ?_) (fun h3 => ?_)
      · -- t41 True
        obtain ⟨g, he⟩ := get_some gs (k := k) (by omega); have hel := map_get cGs he; have hgk := ckGas_ok (ckGl_ok hok.1 g (List.mem_of_getElem? he))
        refine C_skip_then ?_
        refine C_seq ?_
        refine C_block ?_
        refine C_seq ?_
        refine C_region ?_
        refine L_q rfl rfl rfl (by first | exact q_index tb rfl rfl rfl rfl (by first | exact gvo | exact gvd gvo (by omega)) (by omega) (by first | omega | (simp; done) | (simp; omega)) | exact q_indexP tb rfl rfl rfl rfl (by omega) (by omega)) ?_
        refine L_q rfl rfl rfl (q_loadEA tb rfl rfl (by first | exact gvo | exact gvd gvo (by omega)) (i := k) (o := 0) (by omega) hel rfl rfl) ?_
        refine L_alloc tb rfl rfl fun g13 => ?_
        first | refine L_store tb rfl rfl rfl rfl rfl rfl rfl rfl ?_ | (refine L_front1 ?_; refine L_store tb rfl rfl rfl rfl rfl rfl rfl rfl ?_) | (refine L_front2 ?_; refine L_store tb rfl rfl rfl rfl rfl rfl rfl rfl ?_) | (refine L_front3 ?_; refine L_store tb rfl rfl rfl rfl rfl rfl rfl rfl ?_) | (refine L_front4 ?_; refine L_store tb rfl rfl rfl rfl rfl rfl rfl rfl ?_) | (refine L_front5 ?_; refine L_store tb rfl rfl rfl rfl rfl rfl rfl rfl ?_) | (refine L_front6 ?_; refine L_store tb rfl rfl rfl rfl rfl rfl rfl rfl ?_)
        refine L_then ?_
        refine C_region ?_
        refine L_q rfl rfl rfl (q_move rfl) ?_
        refine L_q rfl rfl rfl (q_loadA tb rfl rfl bxo rfl rfl) ?_
        refine L_q rfl rfl rfl (q_move rfl) ?_
        refine L_q rfl rfl rfl (q_loadA tb rfl rfl bxo rfl rfl) ?_
        refine L_call tb rfl rfl (ct_gas_depthsFor g.o g.h su lo hi (by omega) hgo.2.1 hgo.2.2.1) no_ps rfl ?_
        refine L_mk (lo_bslice tb rfl rfl rfl (xs := [cRg (dfR g.o su lo hi)]) rfl rfl (by simp [cRg]) rfl (by omega) rfl) rfl rfl rfl fun v49 => ?_
        refine L_front2 ?_
        refine L_append tb rfl rfl rfl (by omega) rfl rfl (by first | exact gvo | exact gvd gvo (by omega)) (by simp [Value.oneCell', cRg]) (by simp [maxLen, rgL]; omega) (by simp [rgL]; omega) rfl fun v50 => ?_
        refine L_q rfl rfl rfl (q_assign rfl) ?_
        refine L_blk ?_
        refine C_region ?_
        refine L_q rfl rfl rfl (q_add rfl rfl (by first | exact IntWalk.i64_in _ (by omega) | rfl)) ?_
        refine L_q rfl rfl rfl (q_move rfl) ?_
        refine L_end ?_
        rw [rgL_step he]
        exact fun ac_ wo_ hs_ => ⟨(k + 1, v50), (by first | omega | (dsimp only; omega)), (by first | omega | (dsimp only; omega)), hs_.weak ⟨rfl, rfl, rfl, rfl, rfl, rfl, rfl, trivial⟩ (fun h => h.pk (by repeat (first | with_reducible exact pk_nil | refine pk_box rfl ?_ | refine pk_rd rfl ?_ | refine pk_sl rfl ?_ | with_reducible refine pk_app ?_ | with_reducible refine pk_app0 ?_ | with_reducible refine pk_app0L ?_ | with_reducible exact pk_tl | refine pk_var ?_)))⟩
      · -- t41 False
        rw [rgL_all (show gs.length ≤ k by omega)]
        refine C_exit ?_
        change C Tryd.prog _ _ _ _ _ _ _
        refine C_seq ?_
        refine C_seq ?_
        refine C_region ?_
        refine L_q rfl rfl rfl (q_field tb rfl rfl rfl) ?_
        refine L_q rfl rfl rfl (q_load tb rfl rfl bxo rfl) ?_
        refine L_alloc tb rfl rfl fun g14 => ?_
        first | refine L_store tb rfl rfl rfl rfl rfl rfl rfl rfl ?_ | (refine L_front1 ?_; refine L_store tb rfl rfl rfl rfl rfl rfl rfl rfl ?_) | (refine L_front2 ?_; refine L_store tb rfl rfl rfl rfl rfl rfl rfl rfl ?_) | (refine L_front3 ?_; refine L_store tb rfl rfl rfl rfl rfl rfl rfl rfl ?_) | (refine L_front4 ?_; refine L_store tb rfl rfl rfl rfl rfl rfl rfl rfl ?_) | (refine L_front5 ?_; refine L_store tb rfl rfl rfl rfl rfl rfl rfl rfl ?_) | (refine L_front6 ?_; refine L_store tb rfl rfl rfl rfl rfl rfl rfl rfl ?_)
        refine L_then ?_
        refine C_block ?_
        refine C_loop (ι := Int × Nat) (fun q => ([(7, .pointer (some ⟨g7, 0, none⟩)), (11, y), (14, .pointer (some ⟨q.2, 0, none⟩))], [box q.2 3 [.int .i64 q.1], sl y 28 2 ((rgL gs su lo hi).map cRg), box g6 25 [.int .i64 lo, .int .i64 hi], box g7 28 [.int .i64 dl, .int .i64 dh]])) (fun q => (dl ≤ q.1 ∧ q.1 ≤ 30001) ∧ ∀ x, dl ≤ x → x < q.1 → ¬ gapP (rgL gs su lo hi) x) (fun q => (dh + 1 - q.1).toNat) (dl, g14) ⟨by dsimp only; omega, fun x h1 h2 => by dsimp only at h2; omega⟩ (fun a w hs => hs.weak ⟨rfl, rfl, rfl, trivial⟩ (fun h => h.pk (by repeat (first | with_reducible exact pk_nil | refine pk_box rfl ?_ | refine pk_rd rfl ?_ | refine pk_sl rfl ?_ | with_reducible refine pk_app ?_ | with_reducible refine pk_app0 ?_ | with_reducible refine pk_app0L ?_ | with_reducible exact pk_tl | refine pk_var ?_)))) ?_
        rintro ⟨d, q2⟩ ⟨hd, h0⟩
        dsimp only at hd h0 ⊢
        refine C_seq ?_
        refine C_seq ?_
        refine C_region ?_
        refine L_q rfl rfl rfl (q_load tb rfl rfl bxo rfl) ?_
        refine L_q rfl rfl rfl (q_field tb rfl rfl rfl) ?_
        refine L_q rfl rfl rfl (q_load tb rfl rfl bxo rfl) ?_
        refine L_q rfl rfl rfl (q_leq rfl rfl) ?_
        refine L_then ?_
        refine C_dec rfl (fun hle9 => ?_) (fun hle9 => ?_)
        · -- t57 True
          refine C_skip_then ?_
          refine C_seq ?_
          refine C_block ?_
          refine C_seq ?_
          refine C_region ?_
          refine L_q rfl rfl rfl (q_move rfl) ?_
          refine L_q rfl rfl rfl (q_makeFunc rfl rfl) ?_
          refine L_call tb rfl rfl (ct_IndexFuncAll y (bxV q2) (rgL gs su lo hi) d (by rw [rgL_len]; omega)) (ps_cons gvo (ps_cons (gbx bxo rfl) no_ps)) rfl ?_
          refine L_q rfl rfl rfl (q_assign rfl) ?_
          refine L_then ?_
          refine C_seq ?_
          refine C_seq ?_
          refine C_region ?_
          refine L_q rfl rfl rfl (q_move rfl) ?_
          refine L_q rfl rfl rfl (q_lss rfl rfl) ?_
          refine L_then ?_
          refine C_dec rfl (fun hneg => ?_) (fun hneg => ?_)
          · -- t62 True
            refine C_seq ?_
            refine C_region ?_
            refine L_q rfl rfl rfl (q_load tb rfl rfl bxo rfl) ?_
            refine L_q rfl rfl rfl (q_assign rfl) ?_
            refine L_q rfl rfl rfl (q_assign rfl) ?_
            refine L_then ?_
            refine C_ret ?_
            have hfd := gap_found (dl := dl) (dh := dh) hd.1 hle9 (ix_neg hneg) h0
            rw [gpE_3 hz (by rw [hfd]; omega), hfd]
            exact ret_of (res2 rfl rfl rfl) sub_nil (by intro r hr; cases hr) ⟨rfl, rfl⟩
          · -- t62 False
            obtain ⟨j, hj, hjl, hji⟩ := ix_pos hneg
            obtain ⟨r, hrj⟩ := get_some (rgL gs su lo hi) hjl
            have helj := map_get cRg hrj; have hrr := rgAt_get hrj; have hrh := rg_hi gs su lo hi j
            have hsk := gap_skip hjl hji h0
            rw [hrr] at hji hrh hsk
            rw [hj]
            have hjd := hji.1; have hje := hji.2
            have hln := rgL_len (gs := gs) (su := su) (lo := lo) (hi := hi); have hlm := len_map cRg (rgL gs su lo hi)
            refine C_skip_then ?_
            refine C_region ?_
            refine L_q rfl rfl rfl (q_move rfl) ?_
            refine L_q rfl rfl rfl (q_move rfl) ?_
            refine L_q rfl rfl rfl (by first | exact q_index tb rfl rfl rfl rfl (by first | exact gvo | exact gvd gvo (by omega)) (by omega) (by first | omega | (simp; done) | (simp; omega)) | exact q_indexP tb rfl rfl rfl rfl (by omega) (by omega)) ?_
            refine L_q rfl rfl rfl (q_fieldE tb rfl rfl rfl (by first | exact gvo | exact gvd gvo (by omega)) (by first | omega | (simp; done) | (simp; omega))) ?_
            refine L_q rfl rfl rfl (q_loadE tb rfl rfl (by first | exact gvo | exact gvd gvo (by omega)) (i := j) (o := 1) (by omega) helj rfl) ?_
            refine L_q rfl rfl rfl (q_add rfl rfl (by first | exact IntWalk.i64_in _ (by omega) | rfl)) ?_
            first | refine L_store tb rfl rfl rfl rfl rfl rfl rfl rfl ?_ | (refine L_front1 ?_; refine L_store tb rfl rfl rfl rfl rfl rfl rfl rfl ?_) | (refine L_front2 ?_; refine L_store tb rfl rfl rfl rfl rfl rfl rfl rfl ?_) | (refine L_front3 ?_; refine L_store tb rfl rfl rfl rfl rfl rfl rfl rfl ?_) | (refine L_front4 ?_; refine L_store tb rfl rfl rfl rfl rfl rfl rfl rfl ?_) | (refine L_front5 ?_; refine L_store tb rfl rfl rfl rfl rfl rfl rfl rfl ?_) | (refine L_front6 ?_; refine L_store tb rfl rfl rfl rfl rfl rfl rfl rfl ?_)
            refine L_blk ?_
            refine C_seq ?_
            refine C_region ?_
            refine L_q rfl rfl rfl (q_load tb rfl rfl bxo rfl) ?_
            refine L_then ?_
            refine C_region ?_
            refine L_alloc tb rfl rfl fun g14 => ?_
            first | refine L_store tb rfl rfl rfl rfl rfl rfl rfl rfl ?_ | (refine L_front1 ?_; refine L_store tb rfl rfl rfl rfl rfl rfl rfl rfl ?_) | (refine L_front2 ?_; refine L_store tb rfl rfl rfl rfl rfl rfl rfl rfl ?_) | (refine L_front3 ?_; refine L_store tb rfl rfl rfl rfl rfl rfl rfl rfl ?_) | (refine L_front4 ?_; refine L_store tb rfl rfl rfl rfl rfl rfl rfl rfl ?_) | (refine L_front5 ?_; refine L_store tb rfl rfl rfl rfl rfl rfl rfl rfl ?_) | (refine L_front6 ?_; refine L_store tb rfl rfl rfl rfl rfl rfl rfl rfl ?_)
            refine L_end ?_
            exact fun ac_ wo_ hs_ => ⟨(r.hi + 1, g14), ⟨by dsimp only; omega, hsk⟩, (by first | omega | (dsimp only; omega)), hs_.weak ⟨rfl, rfl, rfl, trivial⟩ (fun h => h.pk (by repeat (first | with_reducible exact pk_nil | refine pk_box rfl ?_ | refine pk_rd rfl ?_ | refine pk_sl rfl ?_ | with_reducible refine pk_app ?_ | with_reducible refine pk_app0 ?_ | with_reducible refine pk_app0L ?_ | with_reducible exact pk_tl | refine pk_var ?_)))⟩
        · -- t57 False
          refine C_exit ?_
          change C Tryd.prog _ _ _ _ _ _ _
          refine C_seq ?_
          refine C_region ?_
          refine L_q rfl rfl rfl (q_assign rfl) ?_
          refine L_q rfl rfl rfl (q_assign rfl) ?_
          refine L_then ?_
          refine C_ret ?_
          have hnn := gap_none (dl := dl) (dh := dh) (show dh < d by omega) h0
          rw [gpE_2 hz (by rw [hnn]; decide)]
          exact ret_of (res2 rfl rfl rfl) sub_nil (by intro r hr; cases hr) ⟨rfl, rfl⟩
end Go.Proofs.YtibohfipgjljhaaDoor
