/-
  Walks: each function named returns what its model says. Conditions: those in front of each theorem.
-/
import Derived.Test.YtacndicgpkeobaaGreatDoorB
namespace Go.Proofs.YtacndicgpkeobaaGreatDoor
open Go.RowKit

set_option maxRecDepth 100000 in
theorem ct_tissue_powersTo (n : Nat) (h : n ≤ 100) : Ct Tryz.prog 127 [.int .i64 (n : Int)] [] (isSl 122 2 ((rts n).map cRg)) := by
 refine Ct.of (N := 39) Tryz.func127 rfl rfl rfl fun w => ?_
 refine C_weak (E' := [(0, .int .i64 (n : Int))]) (rs' := []) ⟨rfl, trivial⟩ (fun _ h => h) ?_
 refine C_seq ?_
 refine C_region ?_
 refine Jq (q_assign rfl) ?_
 refine L_then ?_
 refine C_seq ?_
 refine C_region ?_
 refine Jq (by first | exact q_build tb rfl rfl rfl rfl | exact q_buildArr tb rfl rfl rfl rfl rfl) ?_
 refine L_alloc tb rfl rfl fun g3 => ?_
 refine L_st tb rfl rfl ?_
 refine L_then ?_
 refine C_seq ?_
 refine C_region ?_
 refine Jq (q_loadA tb rfl rfl bxo rfl rfl) ?_
 refine L_mk (lo_bslice tb rfl rfl rfl (xs := [cRg ⟨500000000, 500000000⟩]) rfl rfl (by simp [cRg]) rfl (by omega) rfl) rfl rfl rfl fun v8 => ?_
 refine Jq (q_assign rfl) ?_
 refine L_then ?_
 refine C_seq ?_
 refine C_seq ?_
 refine C_region ?_
 refine Jq (q_move rfl) ?_
 refine Jq (q_move rfl) ?_
 refine L_then ?_
 refine C_block ?_
 refine C_loop (ι := Nat × Rg × Value) (fun p => ([(3, .pointer (some ⟨g3, 0, none⟩)), (4, p.2.2), (9, .int .i64 (n : Int)), (10, .int .i64 (p.1 : Int))], [sl p.2.2 122 2 ((rtsL (p.1 + 1)).map cRg), box g3 122 (cRg p.2.1)])) (fun p => p.2.1 = rootR p.1 ∧ p.1 ≤ n) (fun p => n - p.1) (0, rootR 0, v8) ⟨rfl, Nat.zero_le _⟩ (fun a w hs => hs.weak ⟨rfl, rfl, rfl, rfl, trivial⟩ (fun h => h.sub (by repeat (first | exact List.Sublist.refl _ | apply List.Sublist.cons_cons | apply List.Sublist.cons)))) ?_
 rintro ⟨k, r, v⟩ ⟨hr, hk⟩
 dsimp only at hr hk ⊢
 subst hr
 obtain ⟨ha, hb, hc⟩ := rootR_in k
 refine C_seq ?_
 refine C_region ?_
 refine Jq (q_lss rfl rfl) ?_
 refine L_then ?_
 refine C_seq ?_
 refine C_dec rfl (fun hi => ?_) (fun hi => ?_)
 refine C_skip_then ?_
 refine C_seq ?_
 refine C_block ?_
 refine C_seq ?_
 refine C_region ?_
 refine Jq (q_field tb rfl rfl rfl) ?_
 refine Jq (q_load tb rfl rfl bxo rfl) ?_
 refine Jq (q_mul rfl rfl (by first | exact IntWalk.i64_in _ (by omega) | rfl)) ?_
 refine Jq (q_assign rfl) ?_
 refine L_then ?_
 refine C_seq ?_
 refine C_region ?_
 refine Jq (q_field tb rfl rfl rfl) ?_
 refine Jq (q_load tb rfl rfl bxo rfl) ?_
 refine Jq (q_mul rfl rfl (by first | exact IntWalk.i64_in _ (by omega) | rfl)) ?_
 refine L_call tb rfl rfl (ct_tissue_squareRoot _ (by omega)) no_ps rfl ?_
 refine Jq (q_move rfl) ?_
 refine L_call tb rfl rfl (ct_tissue_squareRoot _ (by omega)) no_ps rfl ?_
 refine Jq (by first | exact q_build tb rfl rfl rfl rfl | exact q_buildArr tb rfl rfl rfl rfl rfl) ?_
 refine L_st tb rfl rfl ?_
 refine L_then ?_
 refine C_seq ?_
 refine C_seq ?_
 refine C_region ?_
 refine Jq (q_field tb rfl rfl rfl) ?_
 refine Jq (q_load tb rfl rfl bxo rfl) ?_
 refine Jq (q_field tb rfl rfl rfl) ?_
 refine Jq (q_load tb rfl rfl bxo rfl) ?_
 have hs := sqrZ_spec (n := 1000000000 * (rootR k).hi) (by omega); have hs0 := Int.mul_nonneg hs.1 hs.1; have hs1 : sqrZ (1000000000 * (rootR k).hi) ≤ 1000000000 := sqrZ_le (by omega) (by omega) (by omega)
 refine Jq (q_mul rfl rfl (by first | exact IntWalk.i64_in _ (by omega) | rfl)) ?_
 refine Jq (q_move rfl) ?_
 refine Jq (q_lss rfl rfl) ?_
 refine L_then ?_
 refine C_dec rfl (fun hq => ?_) (fun hq => ?_)
 refine C_region ?_
 refine Jq (q_field tb rfl rfl rfl) ?_
 refine Jq (q_load tb rfl rfl bxo rfl) ?_
 refine Jq (q_add rfl rfl (by first | exact IntWalk.i64_in _ (by omega) | rfl)) ?_
 refine Jq (q_field tb rfl rfl rfl) ?_
 refine L_st tb rfl rfl ?_
 refine L_then ?_
 refine C_region ?_
 refine Jq (q_move rfl) ?_
 refine Jq (q_loadA tb rfl rfl bxo rfl rfl) ?_
 refine L_mk (lo_bslice tb rfl rfl rfl (xs := [cRg ⟨sqrZ (1000000000 * (rootR k).lo), sqrZ (1000000000 * (rootR k).hi) + 1⟩]) rfl rfl (by simp [cRg]) rfl (by omega) rfl) rfl rfl rfl fun v35 => ?_
 refine L_ap tb rfl rfl rfl rfl gvo (by simp [Value.oneCell', cRg]) (by simp [maxLen, rtsL_len]; omega) (by simp [rtsL_len]; omega) fun v36 => ?_
 refine Jq (q_assign rfl) ?_
 refine L_blk ?_
 refine C_region ?_
 refine Jq (q_add rfl rfl (by first | exact IntWalk.i64_in _ (by omega) | rfl)) ?_
 refine Jq (q_move rfl) ?_
 refine L_end ?_
 rw [rtsL_yes hq]
 exact fun ac_ wo_ hs_ => ⟨(k + 1, ⟨_, _⟩, v36), ⟨root_yes hq, by dsimp only; omega⟩, (by dsimp only; omega), hs_.weak ⟨rfl, rfl, rfl, rfl, trivial⟩ (fun h => h.sub (by repeat (first | exact List.Sublist.refl _ | apply List.Sublist.cons_cons | apply List.Sublist.cons)))⟩
 refine C_skip_then ?_
 refine C_region ?_
 refine Jq (q_move rfl) ?_
 refine Jq (q_loadA tb rfl rfl bxo rfl rfl) ?_
 refine L_mk (lo_bslice tb rfl rfl rfl (xs := [cRg ⟨sqrZ (1000000000 * (rootR k).lo), sqrZ (1000000000 * (rootR k).hi)⟩]) rfl rfl (by simp [cRg]) rfl (by omega) rfl) rfl rfl rfl fun v35 => ?_
 refine L_ap tb rfl rfl rfl rfl gvo (by simp [Value.oneCell', cRg]) (by simp [maxLen, rtsL_len]; omega) (by simp [rtsL_len]; omega) fun v36 => ?_
 refine Jq (q_assign rfl) ?_
 refine L_blk ?_
 refine C_region ?_
 refine Jq (q_add rfl rfl (by first | exact IntWalk.i64_in _ (by omega) | rfl)) ?_
 refine Jq (q_move rfl) ?_
 refine L_end ?_
 rw [rtsL_no hq]
 exact fun ac_ wo_ hs_ => ⟨(k + 1, ⟨_, _⟩, v36), ⟨root_no hq, by dsimp only; omega⟩, (by dsimp only; omega), hs_.weak ⟨rfl, rfl, rfl, rfl, trivial⟩ (fun h => h.sub (by repeat (first | exact List.Sublist.refl _ | apply List.Sublist.cons_cons | apply List.Sublist.cons)))⟩
 have hkn : k = n := by omega
 subst hkn
 refine C_exit ?_
 change C Tryz.prog _ _ _ _ _ _ _
 refine C_seq ?_
 refine C_region ?_
 refine Jq (q_move rfl) ?_
 refine Jq (q_assign rfl) ?_
 refine L_then ?_
 refine C_ret ?_
 exact ret_of (rs' := [sl v 122 2 ((rts k).map cRg)]) (res1 rfl rfl) (fun _ h => h.sub (by repeat (first | exact List.Sublist.refl _ | apply List.Sublist.cons_cons | apply List.Sublist.cons))) own1 rfl
set_option maxRecDepth 100000 in
theorem ct_tissue_RootOf (l : Int) : Ct Tryz.prog 65 [.int .i64 l] [] (isV (.tuple #[.agg (cRg (rootOfM l).1).toArray, .int .i64 (rootOfM l).2])) := by
 refine Ct.of (N := 13) Tryz.func65 rfl rfl rfl fun w => ?_
 refine C_weak (E' := [(0, .int .i64 l)]) (rs' := []) ⟨rfl, trivial⟩ (fun _ h => h) ?_
 refine C_seq ?_
 refine C_region ?_
 refine L_alloc tb rfl rfl fun g2 => ?_
 refine Jq (q_assign rfl) ?_
 refine L_then ?_
 refine C_seq ?_
 refine C_seq ?_
 refine C_region ?_
 refine Jq (q_move rfl) ?_
 refine L_call tb rfl rfl (ct_tissue_within _ _ _) no_ps rfl ?_
 refine Jq (q_not rfl decide_not.symm) ?_
 refine L_then ?_
 refine C_dec rfl (fun hc => ?_) (fun hc => ?_)
 refine C_seq ?_
 refine C_region ?_
 refine Jq (by first | exact q_build tb rfl rfl rfl rfl | exact q_buildArr tb rfl rfl rfl rfl rfl) ?_
 refine L_st tb rfl rfl ?_
 refine Jq (q_assign rfl) ?_
 refine L_then ?_
 refine C_ret ?_
 exact ret_of (resCT tb rfl rfl rfl rfl m0 rfl) sub_nil (by intro r hr; cases hr) ⟨by unfold rootOfM; rw [if_neg hc]; rfl, rfl⟩
 obtain ⟨n, rfl⟩ := Int.eq_ofNat_of_zero_le (show 0 ≤ l by omega)
 have hlen := rts_cells_len n
 refine C_skip_then ?_
 refine C_seq ?_
 refine C_region ?_
 refine Jq (q_move rfl) ?_
 refine L_callS tb rfl rfl (ct_tissue_powersTo n (by omega)) no_ps rfl fun v9 => ?_
 refine Jq (q_move rfl) ?_
 refine Jq (by first | exact q_index tb rfl rfl rfl rfl gvo (by omega) (by first | omega | (simp; done) | (simp; omega)) | exact q_indexP tb rfl rfl rfl rfl (by omega) (by omega)) ?_
 refine Jq (by first | exact q_loadA tb rfl rfl bxo rfl rfl | exact q_loadEA tb rfl rfl gvo (i := n) (o := 0) (by omega) (rts_cell (Nat.le_refl n)) rfl rfl) ?_
 refine L_st tb rfl rfl ?_
 refine Jq (q_assign rfl) ?_
 refine L_then ?_
 refine C_ret ?_
 exact ret_of (resCT tb rfl rfl rfl rfl m0 rfl) sub_nil (by intro r hr; cases hr) ⟨by unfold rootOfM; rw [if_pos (by omega)]; rfl, rfl⟩
set_option maxRecDepth 100000 in
theorem ct_tissue_powers_decay (v : Value) (s h : Int) (n : Nat) (hs : 0 ≤ s ∧ s ≤ 1000000) (hh : 1 ≤ h ∧ h ≤ 100000) (hn : n ≤ 100) : Ct Tryz.prog 252 [v, .int .i64 s, .int .i64 h] [(v, 2, (rts n).map cRg)] (isV (.agg (cRg (decM s h n)).toArray)) := by
 refine Ct.of (N := 73) Tryz.func252 rfl rfl rfl fun w => ?_
 refine C_weak (E' := [(0, v), (1, .int .i64 s), (2, .int .i64 h)]) (rs' := [rd v 2 ((rts n).map cRg)]) ⟨rfl, rfl, rfl, trivial⟩ (fun _ h => h) ?_
 have hlen := rts_cells_len n
 have hq := ediv_le hh.1 hs.1
 have hm0 := Int.emod_nonneg s (show h ≠ 0 by omega)
 have hm1 := Int.emod_lt_of_pos s (show 0 < h by omega)
 refine C_seq ?_
 refine C_region ?_
 refine L_alloc tb rfl rfl fun g6 => ?_
 refine L_then ?_
 refine C_seq ?_
 refine C_region ?_
 refine Jq (by first | exact q_build tb rfl rfl rfl rfl | exact q_buildArr tb rfl rfl rfl rfl rfl) ?_
 refine L_alloc tb rfl rfl fun g7 => ?_
 refine L_st tb rfl rfl ?_
 refine L_then ?_
 refine C_seq ?_
 refine C_seq ?_
 refine C_region ?_
 refine Jq (q_move rfl) ?_
 refine Jq (q_move rfl) ?_
 refine Jq (q_quo rfl rfl (by omega) (by first | exact IntWalk.i64_quo _ _ (by omega) | exact IntWalk.i64_quo' _ _ (by omega) | rfl)) ?_
 refine Jq (q_min rfl rfl) ?_
 refine Jq (q_move rfl) ?_
 refine L_then ?_
 refine C_block ?_
 refine C_loop (ι := Nat × Rg) (fun p => ([(0, v), (1, .int .i64 s), (2, .int .i64 h), (6, .pointer (some ⟨g6, 0, none⟩)), (7, .pointer (some ⟨g7, 0, none⟩)), (15, .int .i64 (min (s / h) 40)), (16, .int .i64 (p.1 : Int))], [box g7 122 (cRg p.2), box g6 122 [.int .i64 0, .int .i64 0], rd v 2 ((rts n).map cRg)])) (fun p => (p.1 : Int) ≤ min (s / h) 40 ∧ inD p.2 ∧ halve ((min (s / h) 40).toNat - p.1) p.2 = halve (s / h).toNat ⟨1000000000, 1000000000⟩) (fun p => (min (s / h) 40).toNat - p.1) (0, ⟨1000000000, 1000000000⟩) ⟨by dsimp only; omega, ⟨by decide, by decide, by decide, by decide⟩, halve_min _⟩ (fun a w hs => hs.weak ⟨rfl, rfl, rfl, rfl, rfl, rfl, rfl, trivial⟩ (fun h => h.sub (by repeat (first | exact List.Sublist.refl _ | apply List.Sublist.cons_cons | apply List.Sublist.cons)))) ?_
 rintro ⟨k, d⟩ ⟨hk, hd, hf⟩
 dsimp only at hk hd hf ⊢
 have hd1 := hd.a; have hd2 := hd.b; have hd3 := hd.c; have hd4 := hd.e
 refine C_seq ?_
 refine C_region ?_
 refine Jq (q_lss rfl rfl) ?_
 refine L_then ?_
 refine C_seq ?_
 refine C_dec rfl (fun h1 => ?_) (fun h1 => ?_)
 refine C_skip_then ?_
 refine C_seq ?_
 refine C_block ?_
 refine C_draw (n := 7) [(0, false), (1, false), (2, false), (3, false), (4, false), (5, true), (6, false)] mixed (by kernel_rfl) ?_
 refine Yq rfl (q_field tb rfl rfl rfl) ?_
 refine Yq rfl (q_load tb rfl rfl bxo rfl) ?_
 refine Yq rfl (q_quo rfl rfl (by omega) (by first | exact IntWalk.i64_quo _ _ (by omega) | exact IntWalk.i64_quo' _ _ (by omega) | rfl)) ?_
 refine Yq rfl (q_field tb rfl rfl rfl) ?_
 refine Yq rfl (q_load tb rfl rfl bxo rfl) ?_
 refine W_call tb rfl rfl rfl rfl (ct_tissue_up _ _ (by omega)) no_ps rfl ?_
 refine Yq rfl (by first | exact q_build tb rfl rfl rfl rfl | exact q_buildArr tb rfl rfl rfl rfl rfl) ?_
 refine W_nil ?_
 refine L_st tb rfl rfl ?_
 refine L_blk ?_
 refine C_region ?_
 refine Jq (q_add rfl rfl (by first | exact IntWalk.i64_in _ (by omega) | rfl)) ?_
 refine Jq (q_move rfl) ?_
 refine L_end ?_
 exact fun ac_ wo_ hs_ => ⟨(k + 1, ⟨_, _⟩), ⟨by dsimp only; omega, hd.half, (halve_step (by omega)).trans hf⟩, (by dsimp only; omega), hs_.weak ⟨rfl, rfl, rfl, rfl, rfl, rfl, rfl, trivial⟩ (fun h => h.sub (by repeat (first | exact List.Sublist.refl _ | apply List.Sublist.cons_cons | apply List.Sublist.cons)))⟩
 have hdh : d = halve (s / h).toNat ⟨1000000000, 1000000000⟩ := by
  rw [← hf, show (min (s / h) 40).toNat - k = 0 by omega]
  rfl
 refine C_exit ?_
 change C Tryz.prog _ _ _ _ _ _ _
 refine C_seq ?_
 refine C_region ?_
 refine Jq (q_move rfl) ?_
 refine Jq (q_move rfl) ?_
 refine Jq (q_rem rfl rfl (by omega) (by first | exact IntWalk.rem_in _ _ (by omega) | rfl)) ?_
 refine Jq (q_assign rfl) ?_
 refine L_then ?_
 refine C_seq ?_
 refine C_seq ?_
 refine C_region ?_
 refine Jq (q_move rfl) ?_
 refine Jq (q_from tb rfl rfl rfl rfl (by first | exact gvo | exact gvd gvo (by omega)) (by omega) (by first | omega | (simp; done) | (simp; omega))) ?_
 refine Jq (q_len tb rfl rfl (by first | exact gvo | exact gvd gvo (by omega))) ?_
 refine Jq (q_move rfl) ?_
 refine L_then ?_
 refine C_block ?_
 refine C_loop (ι := Nat × Int × Rg) (fun p => ([(0, v), (2, .int .i64 h), (6, .pointer (some ⟨g6, 0, none⟩)), (7, .pointer (some ⟨g7, 0, none⟩)), (8, .int .i64 p.2.1), (30, dropV v (1 : Int).toNat 2), (31, .int .i64 (n : Int)), (32, .int .i64 (p.1 : Int))], [box g7 122 (cRg p.2.2), box g6 122 [.int .i64 0, .int .i64 0], rd v 2 ((rts n).map cRg)])) (fun p => p.1 ≤ n ∧ inD p.2.2 ∧ (0 ≤ p.2.1 ∧ p.2.1 < h) ∧ dF h p.2 (((rts n).drop 1).drop p.1) = dF h (s % h, halve (s / h).toNat ⟨1000000000, 1000000000⟩) ((rts n).drop 1)) (fun p => n - p.1) (0, s % h, d) ⟨Nat.zero_le _, hd, ⟨hm0, hm1⟩, by rw [hdh]; rfl⟩ (fun a w hs => hs.weak ⟨rfl, rfl, rfl, rfl, rfl, rfl, en (by rw [rts_tail_cells_len]), rfl, trivial⟩ (fun h => h.sub (by repeat (first | exact List.Sublist.refl _ | apply List.Sublist.cons_cons | apply List.Sublist.cons)))) ?_
 rintro ⟨k, a, d⟩ ⟨hk, hd, ⟨ha0, ha1⟩, hf⟩
 dsimp only at hk hd ha0 ha1 hf ⊢
 have hd1 := hd.a; have hd2 := hd.b; have hd3 := hd.c; have hd4 := hd.e
 refine C_seq ?_
 refine C_region ?_
 refine Jq (q_lss rfl rfl) ?_
 refine L_then ?_
 refine C_seq ?_
 refine C_dec rfl (fun h2 => ?_) (fun h2 => ?_)
 have hel := rts_tail_cell (n := n) (k := k) (by omega)
 obtain ⟨hr1, hr2, hr3⟩ := rootR_in (k + 1)
 have hpl := prod_in hd.a hd.b (show 0 ≤ (rootR (k + 1)).lo by omega) (by omega); have hph := prod_in hd.c hd.e (show 0 ≤ (rootR (k + 1)).hi by omega) (by omega)
 have htl := rts_tail_cells_len n
 refine C_skip_then ?_
 refine C_seq ?_
 refine C_block ?_
 refine C_seq ?_
 refine C_region ?_
 refine Jq (by first | exact q_index tb rfl rfl rfl rfl (by first | exact gvo | exact gvd gvo (by omega)) (by omega) (by first | omega | (simp; done) | (simp; omega)) | exact q_indexP tb rfl rfl rfl rfl (by omega) (by omega)) ?_
 refine Jq (by first | exact q_loadA tb rfl rfl bxo rfl rfl | exact q_loadEA tb rfl rfl (by first | exact gvo | exact gvd gvo (by omega)) (i := k) (o := 0) (by omega) hel rfl rfl) ?_
 refine L_alloc tb rfl rfl fun g10 => ?_
 refine L_st tb rfl rfl ?_
 refine L_then ?_
 refine C_seq ?_
 refine C_region ?_
 refine Jq (q_move rfl) ?_
 refine Jq (q_mul rfl rfl (by first | exact IntWalk.i64_in _ (by omega) | rfl)) ?_
 refine Jq (q_assign rfl) ?_
 refine L_then ?_
 refine C_seq ?_
 refine C_region ?_
 refine Jq (q_move rfl) ?_
 refine Jq (q_move rfl) ?_
 refine Jq (q_geq rfl rfl) ?_
 refine L_then ?_
 refine C_dec rfl (fun h3 => ?_) (fun h3 => ?_)
 refine C_seq ?_
 refine C_region ?_
 refine Jq (q_move rfl) ?_
 refine Jq (q_move rfl) ?_
 refine Jq (q_sub rfl rfl (by first | exact IntWalk.i64_in _ (by omega) | rfl)) ?_
 refine Jq (q_assign rfl) ?_
 refine L_then ?_
 refine C_draw (n := 13) [(0, false), (1, false), (2, false), (3, false), (4, false), (5, false), (6, false), (7, false), (8, false), (9, false), (10, false), (11, true), (12, false)] mixed (by kernel_rfl) ?_
 refine Yq rfl (q_field tb rfl rfl rfl) ?_
 refine Yq rfl (q_load tb rfl rfl bxo rfl) ?_
 refine Yq rfl (q_field tb rfl rfl rfl) ?_
 refine Yq rfl (q_load tb rfl rfl bxo rfl) ?_
 refine Yq rfl (q_mul rfl rfl (by first | exact IntWalk.i64_in _ (by omega) | rfl)) ?_
 refine Yq rfl (q_quo rfl rfl (by omega) (by first | exact IntWalk.i64_quo _ _ (by omega) | exact IntWalk.i64_quo' _ _ (by omega) | rfl)) ?_
 refine Yq rfl (q_field tb rfl rfl rfl) ?_
 refine Yq rfl (q_load tb rfl rfl bxo rfl) ?_
 refine Yq rfl (q_field tb rfl rfl rfl) ?_
 refine Yq rfl (q_load tb rfl rfl bxo rfl) ?_
 refine Yq rfl (q_mul rfl rfl (by first | exact IntWalk.i64_in _ (by omega) | rfl)) ?_
 refine W_call tb rfl rfl rfl rfl (ct_tissue_up _ _ (by omega)) no_ps rfl ?_
 refine Yq rfl (by first | exact q_build tb rfl rfl rfl rfl | exact q_buildArr tb rfl rfl rfl rfl rfl) ?_
 refine W_nil ?_
 refine L_st tb rfl rfl ?_
 refine L_blk ?_
 refine C_region ?_
 refine Jq (q_add rfl rfl (by first | exact IntWalk.i64_in _ (by omega) | rfl)) ?_
 refine Jq (q_move rfl) ?_
 refine L_end ?_
 exact fun ac_ wo_ hs_ => ⟨(k + 1, a * 2 - h, ⟨_, _⟩), ⟨by dsimp only; omega, hd.mul (rootR_in (k + 1)), ⟨by dsimp only; omega, by dsimp only; omega⟩, by rw [dF_step (rts_tail_get (by omega)), dS_yes (b := a * 2) (by omega) (by omega)] at hf; exact hf⟩, (by dsimp only; omega), hs_.weak ⟨rfl, rfl, rfl, rfl, rfl, rfl, rfl, rfl, trivial⟩ (fun h => h.sub (by repeat (first | exact List.Sublist.refl _ | apply List.Sublist.cons_cons | apply List.Sublist.cons)))⟩
 refine C_skip_blk ?_
 refine C_region ?_
 refine Jq (q_add rfl rfl (by first | exact IntWalk.i64_in _ (by omega) | rfl)) ?_
 refine Jq (q_move rfl) ?_
 refine L_end ?_
 exact fun ac_ wo_ hs_ => ⟨(k + 1, a * 2, d), ⟨by dsimp only; omega, hd, ⟨by dsimp only; omega, by dsimp only; omega⟩, by rw [dF_step (rts_tail_get (by omega)), dS_no (b := a * 2) (by omega) (by omega)] at hf; exact hf⟩, (by dsimp only; omega), hs_.weak ⟨rfl, rfl, rfl, rfl, rfl, rfl, rfl, rfl, trivial⟩ (fun h => h.sub (by repeat (first | exact List.Sublist.refl _ | apply List.Sublist.cons_cons | apply List.Sublist.cons)))⟩
 have hkn : k = n := by omega
 subst hkn
 obtain ⟨hr1, hr2, hr3⟩ := rootR_in k
 have hpl := prod_in hd.a hd.b (show 0 ≤ (rootR k).lo by omega) (by omega)
 refine C_exit ?_
 change C Tryz.prog _ _ _ _ _ _ _
 refine C_seq ?_
 refine C_seq ?_
 refine C_region ?_
 refine Jq (q_move rfl) ?_
 refine Jq (q_neq rfl rfl) ?_
 refine L_then ?_
 refine C_dec rfl (fun hz => ?_) (fun hz => ?_)
 refine C_draw (n := 12) [(0, false), (1, false), (2, false), (3, false), (4, false), (5, false), (6, false), (7, false), (8, false), (9, false), (10, false), (11, false)] mixed (by kernel_rfl) ?_
 refine Yq rfl (q_field tb rfl rfl rfl) ?_
 refine Yq rfl (q_load tb rfl rfl bxo rfl) ?_
 refine Yq rfl (q_move rfl) ?_
 refine Yq rfl (q_move rfl) ?_
 refine Yq rfl (q_len tb rfl rfl (by first | exact gvo | exact gvd gvo (by omega))) ?_
 refine Yq rfl (q_sub rfl rfl (by first | exact IntWalk.i64_in _ (by omega) | rfl)) ?_
 refine Yq rfl (by first | exact q_index tb rfl rfl rfl rfl (by first | exact gvo | exact gvd gvo (by omega)) (by omega) (by first | omega | (simp; done) | (simp; omega)) | exact q_indexP tb rfl rfl rfl rfl (by omega) (by omega)) ?_
 refine Yq rfl (by first | exact q_field tb rfl rfl rfl | exact q_fieldE tb rfl rfl rfl (by first | exact gvo | exact gvd gvo (by omega)) (by first | omega | (simp; done) | (simp; omega))) ?_
 refine Yq rfl (by first | exact q_load tb rfl rfl bxo rfl | exact q_loadE tb rfl rfl (by first | exact gvo | exact gvd gvo (by omega)) (i := k) (o := 0) (by omega) (rts_cell (Nat.le_refl k)) rfl) ?_
 refine Yq rfl (q_mul rfl rfl (by first | exact IntWalk.i64_in _ (by omega) | rfl)) ?_
 refine Yq rfl (q_quo rfl rfl (by omega) (by first | exact IntWalk.i64_quo _ _ (by omega) | exact IntWalk.i64_quo' _ _ (by omega) | rfl)) ?_
 refine Yq rfl (q_field tb rfl rfl rfl) ?_
 refine W_nil ?_
 refine L_st tb rfl rfl ?_
 refine L_then ?_
 refine C_seq ?_
 refine C_region ?_
 refine Jq (q_loadA tb rfl rfl bxo rfl rfl) ?_
 refine L_st tb rfl rfl ?_
 refine L_then ?_
 refine C_ret ?_
 exact ret_of (resC tb rfl rfl rfl m0 rfl) sub_nil (by intro r hr; cases hr) ⟨congrArg (fun r : Rg => Value.agg (cRg r).toArray) (decM_yes hf hz), rfl⟩
 refine C_skip_then ?_
 refine C_seq ?_
 refine C_region ?_
 refine Jq (q_loadA tb rfl rfl bxo rfl rfl) ?_
 refine L_st tb rfl rfl ?_
 refine L_then ?_
 refine C_ret ?_
 exact ret_of (resC tb rfl rfl rfl m0 rfl) sub_nil (by intro r hr; cases hr) ⟨congrArg (fun r : Rg => Value.agg (cRg r).toArray) (decM_no hf hz), rfl⟩
end Go.Proofs.YtacndicgpkeobaaGreatDoor
namespace Go.Proofs.YtacndicgpkeobaaGreatDoor
open Go.RowKit

end Go.Proofs.YtacndicgpkeobaaGreatDoor
