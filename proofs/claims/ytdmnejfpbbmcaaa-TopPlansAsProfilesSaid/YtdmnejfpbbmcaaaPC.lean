/-
  Walks: each function named returns what its model says. Conditions: those in front of each theorem.
-/
import Derived.Test.YtdmnejfpbbmcaaaPA
namespace Go.Proofs.Ytdmnejfpbbmcaaa
open Go.RowKit

set_option maxRecDepth 100000 in
set_option maxHeartbeats 1000000 in
theorem ct_profile_apart (v w9 : Value) (sf : Int) (gs g2 : List Gs) (ls ms : List Dl) (H : okPl sf gs ls) (H2 : okPl sf g2 ms) (h0 : 0 < ls.length) (h02 : 0 < ms.length) (hS : secAt ms ms.length = secAt ls ls.length) (hX : ∀ σ : Nat, (σ : Int) ≤ secAt ls ls.length → (atR ls σ).1 * (atR ms σ).2 = (atR ms σ).1 * (atR ls σ).2) (c : Int) (σ : Nat) (hc : c = (σ : Int)) (h1 : (σ : Int) ≤ secAt ls ls.length) : Ct Try.prog 78 [v, w9, .int .i64 c] [(v, 2, (ptsK ls ls.length).map cSw), (w9, 2, (ptsK ms ms.length).map cSw)] (isV (.agg #[.int .i64 0, .int .i64 ((atR ls σ).2 * (atR ms σ).2)])) := by
 refine Ct.of (N := 37) Try.func78 rfl rfl rfl fun w => ?_
 refine C_weak (E' := [(0, v), (1, w9), (2, .int .i64 c)]) (rs' := [rd v 2 ((ptsK ls ls.length).map cSw), rd w9 2 ((ptsK ms ms.length).map cSw)]) ⟨rfl, rfl, rfl, trivial⟩ (fun _ h => h) ?_
 subst hc
 have hpl : ((ptsK ls ls.length).map cSw).length = ls.length + 1 := by rw [List.length_map, ptsK_len]
 have hpl2 : ((ptsK ms ms.length).map cSw).length = ms.length + 1 := by rw [List.length_map, ptsK_len]
 have hll := H.ll; have hll2 := H2.ll
 obtain ⟨q1, q2, _⟩ := atR_spec H h0 h1
 obtain ⟨r1, r2, _⟩ := atR_spec H2 h02 (σ := σ) (by omega)
 have hX9 := hX σ h1
 have hm1 := mulB (a := (atR ls σ).1) (b := (atR ms σ).2) (A := 30000000000) (B := 1000000) (by omega) (by omega); have hm2 := mulB (a := (atR ms σ).1) (b := (atR ls σ).2) (A := 30000000000) (B := 1000000) (by omega) (by omega); have hm3 := mulB (a := (atR ls σ).2) (b := (atR ms σ).2) (A := 1000000) (B := 1000000) (by omega) (by omega)
 refine C_seq ?_
 refine C_region ?_
 refine L_alloc tb rfl rfl fun g6 => ?_
 refine L_then ?_
 refine C_seq ?_
 refine C_region ?_
 refine Jq (q_move rfl) ?_
 refine Jq (q_move rfl) ?_
 refine L_call tb rfl rfl (ct_profile_track_at v sf gs ls H σ h1 h0) (ps_cons gvo no_ps) rfl ?_
 refine Jq (q_move rfl) ?_
 refine Jq (q_move rfl) ?_
 refine L_call tb rfl rfl (ct_profile_track_at w9 sf g2 ms H2 σ (by omega) h02) (ps_cons gvo no_ps) rfl ?_
 refine L_alloc tb rfl rfl fun g7 => ?_
 refine L_alloc tb rfl rfl fun g8 => ?_
 refine L_st tb rfl rfl ?_
 refine L_st tb rfl rfl ?_
 refine L_then ?_
 refine C_seq ?_
 refine C_region ?_
 refine Jq (q_field tb rfl rfl rfl) ?_
 refine Jq (q_load tb rfl rfl bxo rfl) ?_
 refine Jq (q_field tb rfl rfl rfl) ?_
 refine Jq (q_load tb rfl rfl bxo rfl) ?_
 refine Jq (q_mul rfl rfl (wr (b := (atR ls σ).1 * (atR ms σ).2) rfl (by omega))) ?_
 refine Jq (q_field tb rfl rfl rfl) ?_
 refine Jq (q_load tb rfl rfl bxo rfl) ?_
 refine Jq (q_field tb rfl rfl rfl) ?_
 refine Jq (q_load tb rfl rfl bxo rfl) ?_
 refine Jq (q_mul rfl rfl (wr (b := (atR ms σ).1 * (atR ls σ).2) rfl (by omega))) ?_
 refine Jq (q_sub rfl rfl (wr (b := 0) (by omega) (by omega))) ?_
 refine Jq (q_assign rfl) ?_
 refine L_then ?_
 refine C_seq ?_
 refine C_region ?_
 refine Jq (q_move rfl) ?_
 refine Jq (q_move rfl) ?_
 refine Jq (q_neg rfl (wr (b := 0) rfl (by omega))) ?_
 refine Jq (q_max rfl rfl) ?_
 refine Jq (q_field tb rfl rfl rfl) ?_
 refine Jq (q_load tb rfl rfl bxo rfl) ?_
 refine Jq (q_field tb rfl rfl rfl) ?_
 refine Jq (q_load tb rfl rfl bxo rfl) ?_
 refine Jq (q_mul rfl rfl (wr (b := (atR ls σ).2 * (atR ms σ).2) rfl (by omega))) ?_
 refine Jq (by first | exact q_build tb rfl rfl rfl rfl | exact q_buildArr tb rfl rfl rfl rfl rfl) ?_
 refine L_st tb rfl rfl ?_
 refine L_then ?_
 refine C_ret ?_
 exact ret_of (resC tb rfl rfl rfl bxo rfl) sub_nil (by intro r hr; cases hr) ⟨rfl, rfl⟩
set_option maxRecDepth 100000 in
theorem ct_profile_ratio_less (d : Int) (h : 1 ≤ d ∧ d ≤ 1000000000000) : Ct Try.prog 79 [.agg #[.int .i64 0, .int .i64 1], .agg #[.int .i64 0, .int .i64 d]] [] (isV (.bool false)) := by
 refine Ct.of (N := 16) Try.func79 rfl rfl rfl fun w => ?_
 refine C_weak (E' := [(0, .agg #[.int .i64 0, .int .i64 1]), (1, .agg #[.int .i64 0, .int .i64 d])]) (rs' := []) ⟨rfl, rfl, trivial⟩ (fun _ h => h) ?_
 refine C_seq ?_
 refine C_region ?_
 refine L_box rfl rfl rfl fun g2 => ?_
 refine L_box rfl rfl rfl fun g3 => ?_
 refine Jq (q_assign rfl) ?_
 refine L_then ?_
 refine C_seq ?_
 refine C_region ?_
 refine Jq (q_field tb rfl rfl rfl) ?_
 refine Jq (q_load tb rfl rfl bxo rfl) ?_
 refine Jq (q_field tb rfl rfl rfl) ?_
 refine Jq (q_load tb rfl rfl bxo rfl) ?_
 refine Jq (q_mul rfl rfl (wr (b := 0) (by omega) (by omega))) ?_
 refine Jq (q_field tb rfl rfl rfl) ?_
 refine Jq (q_load tb rfl rfl bxo rfl) ?_
 refine Jq (q_field tb rfl rfl rfl) ?_
 refine Jq (q_load tb rfl rfl bxo rfl) ?_
 refine Jq (q_mul rfl rfl (wr (b := 0) rfl (by omega))) ?_
 refine Jq (q_lss rfl rfl) ?_
 refine Jq (q_assign rfl) ?_
 refine L_then ?_
 refine C_ret ?_
 exact ret_of (res1 rfl rfl) sub_nil (by intro r hr; cases hr) ⟨rfl, rfl⟩
set_option maxRecDepth 100000 in
set_option maxHeartbeats 1000000 in
theorem ct_profile_clash (v w9 : Value) (sf : Int) (gs g2 : List Gs) (ls ms : List Dl) (H : okPl sf gs ls) (H2 : okPl sf g2 ms) (h0 : 0 < ls.length) (h02 : 0 < ms.length) (hS : secAt ms ms.length = secAt ls ls.length) : Ct Try.prog 48 [v, w9] [(v, 2, (ptsK ls ls.length).map cSw), (w9, 2, (ptsK ms ms.length).map cSw)] (isV (.bool false)) := by
 refine Ct.of (N := 21) Try.func48 rfl rfl rfl fun w => ?_
 refine C_weak (E' := [(0, v), (1, w9)]) (rs' := [rd v 2 ((ptsK ls ls.length).map cSw), rd w9 2 ((ptsK ms ms.length).map cSw)]) ⟨rfl, rfl, trivial⟩ (fun _ h => h) ?_
 have hpl : ((ptsK ls ls.length).map cSw).length = ls.length + 1 := by rw [List.length_map, ptsK_len]
 have hpl2 : ((ptsK ms ms.length).map cSw).length = ms.length + 1 := by rw [List.length_map, ptsK_len]
 have hll := H.ll; have hll2 := H2.ll
 refine C_seq ?_
 refine C_region ?_
 refine Jq (q_assign rfl) ?_
 refine L_then ?_
 refine C_seq ?_
 refine C_draw (n := 16) [(0, false), (1, false), (2, false), (3, false), (4, false), (5, false), (6, false), (7, false), (8, false), (9, false), (10, false), (12, false), (11, true), (13, true), (14, false), (15, false)] mixed (by kernel_rfl) ?_
 refine Yq rfl (q_move rfl) ?_
 refine Yq rfl (by first | exact q_index tb rfl rfl rfl rfl gvo (by omega) (by first | omega | (simp; done) | (simp; omega)) | exact q_indexP tb rfl rfl rfl rfl (by omega) (by omega)) ?_
 refine Yq rfl (by first | exact q_field tb rfl rfl rfl | exact q_fieldE tb rfl rfl rfl gvo (by first | omega | (simp; done) | (simp; omega))) ?_
 refine Yq rfl (by first | exact q_load tb rfl rfl bxo rfl | exact q_loadE tb rfl rfl gvo (i := 0) (o := 0) (by omega) (pt_cell (by omega)) rfl) ?_
 refine Yq rfl (q_move rfl) ?_
 refine Yq rfl (by first | exact q_index tb rfl rfl rfl rfl gvo (by omega) (by first | omega | (simp; done) | (simp; omega)) | exact q_indexP tb rfl rfl rfl rfl (by omega) (by omega)) ?_
 refine Yq rfl (by first | exact q_field tb rfl rfl rfl | exact q_fieldE tb rfl rfl rfl gvo (by first | omega | (simp; done) | (simp; omega))) ?_
 refine Yq rfl (by first | exact q_load tb rfl rfl bxo rfl | exact q_loadE tb rfl rfl gvo (i := 0) (o := 0) (by omega) (pt_cell (by omega)) rfl) ?_
 refine Yq rfl (q_false (q_neq rfl rfl) (decide_eq_false (fun h => h rfl))) ?_
 refine Yq rfl (q_move rfl) ?_
 refine Yg rfl (q_move rfl) ?_
 refine Yg rfl (q_move rfl) ?_
 refine W_callg tb rfl rfl rfl rfl rfl rfl rfl rfl (ct_profile_track_end v ls (by omega)) (ps_cons gvo no_ps) rfl ?_
 refine W_callg tb rfl rfl rfl rfl rfl rfl rfl rfl (ct_profile_track_end w9 ms (by omega)) (ps_cons gvo no_ps) rfl ?_
 refine Yg rfl (q_false (q_neq rfl rfl) (decide_eq_false (fun h => h hS.symm))) ?_
 refine Yq rfl (q_pickF rfl rfl) ?_
 refine W_nil ?_
 refine Jq (q_assign rfl) ?_
 refine L_then ?_
 refine C_ret ?_
 exact ret_of (res1 rfl rfl) sub_nil (by intro r hr; cases hr) ⟨rfl, rfl⟩
set_option maxRecDepth 100000 in
set_option maxHeartbeats 1000000 in
theorem ct_profile_checkBoth (v w9 : Value) (sf : Int) (gs g2 : List Gs) (ls ms : List Dl) (H : okPl sf gs ls) (H2 : okPl sf g2 ms) (h0 : 0 < ls.length) (h02 : 0 < ms.length) (hS : secAt ms ms.length = secAt ls ls.length) : Ct Try.prog 47 [v, w9] [(v, 2, (ptsK ls ls.length).map cSw), (w9, 2, (ptsK ms ms.length).map cSw)] (isV (.int .i64 0)) := by
 refine Ct.of (N := 13) Try.func47 rfl rfl rfl fun w => ?_
 refine C_weak (E' := [(0, v), (1, w9)]) (rs' := [rd v 2 ((ptsK ls ls.length).map cSw), rd w9 2 ((ptsK ms ms.length).map cSw)]) ⟨rfl, rfl, trivial⟩ (fun _ h => h) ?_
 refine C_seq ?_
 refine C_region ?_
 refine Jq (q_assign rfl) ?_
 refine L_then ?_
 refine C_seq ?_
 refine C_seq ?_
 refine C_region ?_
 refine Jq (q_move rfl) ?_
 refine L_call tb rfl rfl (ct_profile_CheckPoints v sf gs ls H h0) (ps_cons gvo no_ps) rfl ?_
 refine Jq (q_assign rfl) ?_
 refine L_then ?_
 refine C_seq ?_
 refine C_region ?_
 refine Jq (q_move rfl) ?_
 refine Jq (q_false (q_neq rfl rfl) (decide_eq_false (fun h => h rfl))) ?_
 refine L_then ?_
 refine C_false rfl ?_
 refine C_skip_then ?_
 refine C_seq ?_
 refine C_region ?_
 refine Jq (q_move rfl) ?_
 refine L_call tb rfl rfl (ct_profile_CheckPoints w9 sf g2 ms H2 h02) (ps_cons gvo no_ps) rfl ?_
 refine Jq (q_assign rfl) ?_
 refine L_then ?_
 refine C_ret ?_
 exact ret_of (res1 rfl rfl) sub_nil (by intro r hr; cases hr) ⟨rfl, rfl⟩
set_option maxRecDepth 100000 in
set_option maxHeartbeats 1000000 in
theorem ct_profile_distance (v w9 : Value) (sf : Int) (gs g2 : List Gs) (ls ms : List Dl) (H : okPl sf gs ls) (H2 : okPl sf g2 ms) (h0 : 0 < ls.length) (h02 : 0 < ms.length) (hS : secAt ms ms.length = secAt ls ls.length) (hX : ∀ σ : Nat, (σ : Int) ≤ secAt ls ls.length → (atR ls σ).1 * (atR ms σ).2 = (atR ms σ).1 * (atR ls σ).2) : Ct Try.prog 49 [v, w9] [(v, 2, (ptsK ls ls.length).map cSw), (w9, 2, (ptsK ms ms.length).map cSw)] (isV (.agg #[.int .i64 0, .int .i64 1])) := by
 refine Ct.of (N := 36) Try.func49 rfl rfl rfl fun w => ?_
 refine C_weak (E' := [(0, v), (1, w9)]) (rs' := [rd v 2 ((ptsK ls ls.length).map cSw), rd w9 2 ((ptsK ms ms.length).map cSw)]) ⟨rfl, rfl, trivial⟩ (fun _ h => h) ?_
 refine C_form (v := v) gvo (fun Av cv hv _ => ?_)
 subst hv
 refine C_form (v := w9) gvo (fun Aw cw hw _ => ?_)
 subst hw
 have hpl : ((ptsK ls ls.length).map cSw).length = ls.length + 1 := by rw [List.length_map, ptsK_len]
 have hpl2 : ((ptsK ms ms.length).map cSw).length = ms.length + 1 := by rw [List.length_map, ptsK_len]
 have hll := H.ll; have hll2 := H2.ll
 refine C_seq ?_
 refine C_region ?_
 refine L_alloc tb rfl rfl fun g4 => ?_
 refine L_then ?_
 refine C_seq ?_
 refine C_region ?_
 refine Jq (by first | exact q_build tb rfl rfl rfl rfl | exact q_buildArr tb rfl rfl rfl rfl rfl) ?_
 refine L_alloc tb rfl rfl fun g5 => ?_
 refine L_st tb rfl rfl ?_
 refine L_then ?_
 refine C_seq ?_
 refine C_seq ?_
 refine C_region ?_
 refine Jq (q_move rfl) ?_
 refine Jq (q_move rfl) ?_
 refine Jq (by first | exact q_build tb rfl rfl rfl rfl | exact q_buildArr tb rfl rfl rfl rfl rfl) ?_
 refine Jq (q_move rfl) ?_
 refine L_then ?_
 refine C_block ?_
 refine C_loop (ι := Nat) (fun k => ([(0, (.slice Av ((ptsK ls ls.length).map cSw).length cv)), (1, (.slice Aw ((ptsK ms ms.length).map cSw).length cw)), (4, .pointer (some ⟨g4, 0, none⟩)), (5, .pointer (some ⟨g5, 0, none⟩)), (14, .agg #[(.slice Av ((ptsK ls ls.length).map cSw).length cv), (.slice Aw ((ptsK ms ms.length).map cSw).length cw)]), (15, .int .i64 (k : Int))], [box g5 88 [.int .i64 0, .int .i64 1], box g4 88 [.int .i64 0, .int .i64 0], rd (.slice Av ((ptsK ls ls.length).map cSw).length cv) 2 ((ptsK ls ls.length).map cSw), rd (.slice Aw ((ptsK ms ms.length).map cSw).length cw) 2 ((ptsK ms ms.length).map cSw)])) (fun k => k ≤ 2) (fun k => 2 - k) 0 (Nat.zero_le _) (fun a w hs => hs.weak ⟨rfl, rfl, rfl, rfl, rfl, rfl, trivial⟩ (fun h => h.pk (by repeat (first | with_reducible exact pk_nil | refine pk_box rfl ?_ | refine pk_rd rfl ?_ | refine pk_sl rfl ?_ | with_reducible refine pk_app ?_ | with_reducible refine pk_app0 ?_ | with_reducible refine pk_app0L ?_ | with_reducible exact pk_tl | refine pk_var ?_)))) ?_
 intro k hk9
 dsimp only at hk9 ⊢
 refine C_seq ?_
 refine C_region ?_
 refine Jq (q_lss rfl rfl) ?_
 refine L_then ?_
 refine C_seq ?_
 refine C_dec rfl (fun h1 => ?_) (fun h1 => ?_)
 obtain rfl | rfl : k = 0 ∨ k = 1 := by omega
 refine C_skip_then ?_
 refine C_seq ?_
 refine C_block ?_
 refine C_seq ?_
 refine C_region ?_
 refine Jq (q_indexV tb rfl rfl rfl rfl (by omega) (by omega) rfl) ?_
 refine Jq (q_assign rfl) ?_
 refine L_then ?_
 refine C_seq ?_
 refine C_region ?_
 refine Jq (q_move rfl) ?_
 refine Jq (q_len tb rfl rfl gvo) ?_
 refine Jq (q_move rfl) ?_
 refine L_then ?_
 refine C_block ?_
 refine C_loop (ι := Nat) (fun j => ([(0, (.slice Av ((ptsK ls ls.length).map cSw).length cv)), (1, (.slice Aw ((ptsK ms ms.length).map cSw).length cw)), (4, .pointer (some ⟨g4, 0, none⟩)), (5, .pointer (some ⟨g5, 0, none⟩)), (14, .agg #[(.slice Av ((ptsK ls ls.length).map cSw).length cv), (.slice Aw ((ptsK ms ms.length).map cSw).length cw)]), (15, .int .i64 ((0 : Nat) : Int)), (18, (.slice Av ((ptsK ls ls.length).map cSw).length cv)), (19, .int .i64 ((ptsK ls ls.length).map cSw).length), (20, .int .i64 (j : Int))], [box g5 88 [.int .i64 0, .int .i64 1], box g4 88 [.int .i64 0, .int .i64 0], rd (.slice Av ((ptsK ls ls.length).map cSw).length cv) 2 ((ptsK ls ls.length).map cSw), rd (.slice Aw ((ptsK ms ms.length).map cSw).length cw) 2 ((ptsK ms ms.length).map cSw)])) (fun j => j ≤ ls.length + 1) (fun j => ls.length + 1 - j) 0 (Nat.zero_le _) (fun a w hs => hs.weak ⟨rfl, rfl, rfl, rfl, rfl, rfl, rfl, rfl, rfl, trivial⟩ (fun h => h.pk (by repeat (first | with_reducible exact pk_nil | refine pk_box rfl ?_ | refine pk_rd rfl ?_ | refine pk_sl rfl ?_ | with_reducible refine pk_app ?_ | with_reducible refine pk_app0 ?_ | with_reducible refine pk_app0L ?_ | with_reducible exact pk_tl | refine pk_var ?_)))) ?_
 intro j hj9
 dsimp only at hj9 ⊢
 refine C_seq ?_
 refine C_region ?_
 refine Jq (q_lss rfl rfl) ?_
 refine L_then ?_
 refine C_seq ?_
 refine C_dec rfl (fun h2 => ?_) (fun h2 => ?_)
 have hse := H.e j (by omega); have hsl := sec_le H (j := j) (by omega); have hdn := at_den (σ := (secAt ls j).toNat) H H2 h0 h02 hS (by omega)
 refine C_skip_then ?_
 refine C_seq ?_
 refine C_block ?_
 refine C_seq ?_
 refine C_region ?_
 refine Jq (by first | exact q_index tb rfl rfl rfl rfl gvo (by omega) (by first | omega | (simp; done) | (simp; omega)) | exact q_indexP tb rfl rfl rfl rfl (by omega) (by omega)) ?_
 refine Jq (by first | exact q_loadA tb rfl rfl bxo rfl rfl | exact q_loadEA tb rfl rfl gvo (i := j) (o := 0) (by omega) (pt_cell (by omega)) rfl rfl) ?_
 refine L_alloc tb rfl rfl fun g9 => ?_
 refine L_st tb rfl rfl ?_
 refine L_then ?_
 refine C_seq ?_
 refine C_region ?_
 refine Jq (q_move rfl) ?_
 refine Jq (q_move rfl) ?_
 refine Jq (q_field tb rfl rfl rfl) ?_
 refine Jq (q_load tb rfl rfl bxo rfl) ?_
 refine L_call tb rfl rfl (ct_profile_apart (.slice Av ((ptsK ls ls.length).map cSw).length cv) (.slice Aw ((ptsK ms ms.length).map cSw).length cw) sf gs g2 ls ms H H2 h0 h02 hS hX (secAt ls j) (secAt ls j).toNat (by omega) (by omega)) (ps_cons gvo (ps_cons gvo no_ps)) rfl ?_
 refine L_alloc tb rfl rfl fun g10 => ?_
 refine L_st tb rfl rfl ?_
 refine L_then ?_
 refine C_seq ?_
 refine C_region ?_
 refine Jq (q_loadA tb rfl rfl bxo rfl rfl) ?_
 refine Jq (q_loadA tb rfl rfl bxo rfl rfl) ?_
 refine L_call tb rfl rfl (ct_profile_ratio_less _ hdn) no_ps rfl ?_
 refine L_then ?_
 refine C_false rfl ?_
 refine C_skip_blk ?_
 refine C_region ?_
 refine Jq (q_add rfl rfl (by first | exact IntWalk.i64_in _ (by omega) | rfl)) ?_
 refine Jq (q_move rfl) ?_
 refine L_end ?_
 exact fun ac_ wo_ hs_ => ⟨j + 1, (by dsimp only; omega), (by dsimp only; omega), hs_.weak ⟨rfl, rfl, rfl, rfl, rfl, rfl, rfl, rfl, rfl, trivial⟩ (fun h => h.pk (by repeat (first | with_reducible exact pk_nil | refine pk_box rfl ?_ | refine pk_rd rfl ?_ | refine pk_sl rfl ?_ | with_reducible refine pk_app ?_ | with_reducible refine pk_app0 ?_ | with_reducible refine pk_app0L ?_ | with_reducible exact pk_tl | refine pk_var ?_)))⟩
 refine C_exit ?_
 change C Try.prog _ _ _ _ _ _ _
 refine C_region ?_
 refine Jq (q_add rfl rfl (by first | exact IntWalk.i64_in _ (by omega) | rfl)) ?_
 refine Jq (q_move rfl) ?_
 refine L_end ?_
 exact fun ac_ wo_ hs_ => ⟨1, (by dsimp only; omega), (by dsimp only; omega), hs_.weak ⟨rfl, rfl, rfl, rfl, rfl, rfl, trivial⟩ (fun h => h.pk (by repeat (first | with_reducible exact pk_nil | refine pk_box rfl ?_ | refine pk_rd rfl ?_ | refine pk_sl rfl ?_ | with_reducible refine pk_app ?_ | with_reducible refine pk_app0 ?_ | with_reducible refine pk_app0L ?_ | with_reducible exact pk_tl | refine pk_var ?_)))⟩
 refine C_skip_then ?_
 refine C_seq ?_
 refine C_block ?_
 refine C_seq ?_
 refine C_region ?_
 refine Jq (q_indexV tb rfl rfl rfl rfl (by omega) (by omega) rfl) ?_
 refine Jq (q_assign rfl) ?_
 refine L_then ?_
 refine C_seq ?_
 refine C_region ?_
 refine Jq (q_move rfl) ?_
 refine Jq (q_len tb rfl rfl gvo) ?_
 refine Jq (q_move rfl) ?_
 refine L_then ?_
 refine C_block ?_
 refine C_loop (ι := Nat) (fun j => ([(0, (.slice Av ((ptsK ls ls.length).map cSw).length cv)), (1, (.slice Aw ((ptsK ms ms.length).map cSw).length cw)), (4, .pointer (some ⟨g4, 0, none⟩)), (5, .pointer (some ⟨g5, 0, none⟩)), (14, .agg #[(.slice Av ((ptsK ls ls.length).map cSw).length cv), (.slice Aw ((ptsK ms ms.length).map cSw).length cw)]), (15, .int .i64 ((1 : Nat) : Int)), (18, (.slice Aw ((ptsK ms ms.length).map cSw).length cw)), (19, .int .i64 ((ptsK ms ms.length).map cSw).length), (20, .int .i64 (j : Int))], [box g5 88 [.int .i64 0, .int .i64 1], box g4 88 [.int .i64 0, .int .i64 0], rd (.slice Av ((ptsK ls ls.length).map cSw).length cv) 2 ((ptsK ls ls.length).map cSw), rd (.slice Aw ((ptsK ms ms.length).map cSw).length cw) 2 ((ptsK ms ms.length).map cSw)])) (fun j => j ≤ ms.length + 1) (fun j => ms.length + 1 - j) 0 (Nat.zero_le _) (fun a w hs => hs.weak ⟨rfl, rfl, rfl, rfl, rfl, rfl, rfl, rfl, rfl, trivial⟩ (fun h => h.pk (by repeat (first | with_reducible exact pk_nil | refine pk_box rfl ?_ | refine pk_rd rfl ?_ | refine pk_sl rfl ?_ | with_reducible refine pk_app ?_ | with_reducible refine pk_app0 ?_ | with_reducible refine pk_app0L ?_ | with_reducible exact pk_tl | refine pk_var ?_)))) ?_
 intro j hj9
 dsimp only at hj9 ⊢
 refine C_seq ?_
 refine C_region ?_
 refine Jq (q_lss rfl rfl) ?_
 refine L_then ?_
 refine C_seq ?_
 refine C_dec rfl (fun h4 => ?_) (fun h4 => ?_)
 have hse := H2.e j (by omega); have hsl := sec_le H2 (j := j) (by omega); have hdn := at_den (σ := (secAt ms j).toNat) H H2 h0 h02 hS (by omega)
 refine C_skip_then ?_
 refine C_seq ?_
 refine C_block ?_
 refine C_seq ?_
 refine C_region ?_
 refine Jq (by first | exact q_index tb rfl rfl rfl rfl gvo (by omega) (by first | omega | (simp; done) | (simp; omega)) | exact q_indexP tb rfl rfl rfl rfl (by omega) (by omega)) ?_
 refine Jq (by first | exact q_loadA tb rfl rfl bxo rfl rfl | exact q_loadEA tb rfl rfl gvo (i := j) (o := 0) (by omega) (pt_cell (by omega)) rfl rfl) ?_
 refine L_alloc tb rfl rfl fun g9 => ?_
 refine L_st tb rfl rfl ?_
 refine L_then ?_
 refine C_seq ?_
 refine C_region ?_
 refine Jq (q_move rfl) ?_
 refine Jq (q_move rfl) ?_
 refine Jq (q_field tb rfl rfl rfl) ?_
 refine Jq (q_load tb rfl rfl bxo rfl) ?_
 refine L_call tb rfl rfl (ct_profile_apart (.slice Av ((ptsK ls ls.length).map cSw).length cv) (.slice Aw ((ptsK ms ms.length).map cSw).length cw) sf gs g2 ls ms H H2 h0 h02 hS hX (secAt ms j) (secAt ms j).toNat (by omega) (by omega)) (ps_cons gvo (ps_cons gvo no_ps)) rfl ?_
 refine L_alloc tb rfl rfl fun g10 => ?_
 refine L_st tb rfl rfl ?_
 refine L_then ?_
 refine C_seq ?_
 refine C_region ?_
 refine Jq (q_loadA tb rfl rfl bxo rfl rfl) ?_
 refine Jq (q_loadA tb rfl rfl bxo rfl rfl) ?_
 refine L_call tb rfl rfl (ct_profile_ratio_less _ hdn) no_ps rfl ?_
 refine L_then ?_
 refine C_false rfl ?_
 refine C_skip_blk ?_
 refine C_region ?_
 refine Jq (q_add rfl rfl (by first | exact IntWalk.i64_in _ (by omega) | rfl)) ?_
 refine Jq (q_move rfl) ?_
 refine L_end ?_
 exact fun ac_ wo_ hs_ => ⟨j + 1, (by dsimp only; omega), (by dsimp only; omega), hs_.weak ⟨rfl, rfl, rfl, rfl, rfl, rfl, rfl, rfl, rfl, trivial⟩ (fun h => h.pk (by repeat (first | with_reducible exact pk_nil | refine pk_box rfl ?_ | refine pk_rd rfl ?_ | refine pk_sl rfl ?_ | with_reducible refine pk_app ?_ | with_reducible refine pk_app0 ?_ | with_reducible refine pk_app0L ?_ | with_reducible exact pk_tl | refine pk_var ?_)))⟩
 refine C_exit ?_
 change C Try.prog _ _ _ _ _ _ _
 refine C_region ?_
 refine Jq (q_add rfl rfl (by first | exact IntWalk.i64_in _ (by omega) | rfl)) ?_
 refine Jq (q_move rfl) ?_
 refine L_end ?_
 exact fun ac_ wo_ hs_ => ⟨2, (by dsimp only; omega), (by dsimp only; omega), hs_.weak ⟨rfl, rfl, rfl, rfl, rfl, rfl, trivial⟩ (fun h => h.pk (by repeat (first | with_reducible exact pk_nil | refine pk_box rfl ?_ | refine pk_rd rfl ?_ | refine pk_sl rfl ?_ | with_reducible refine pk_app ?_ | with_reducible refine pk_app0 ?_ | with_reducible refine pk_app0L ?_ | with_reducible exact pk_tl | refine pk_var ?_)))⟩
 refine C_exit ?_
 change C Try.prog _ _ _ _ _ _ _
 refine C_seq ?_
 refine C_region ?_
 refine Jq (q_loadA tb rfl rfl bxo rfl rfl) ?_
 refine L_st tb rfl rfl ?_
 refine L_then ?_
 refine C_ret ?_
 exact ret_of (resC tb rfl rfl rfl bxo rfl) sub_nil (by intro r hr; cases hr) ⟨rfl, rfl⟩
set_option maxRecDepth 100000 in
set_option maxHeartbeats 1000000 in
theorem ct_profile_Distance (v w9 : Value) (sf : Int) (gs g2 : List Gs) (ls ms : List Dl) (H : okPl sf gs ls) (H2 : okPl sf g2 ms) (h0 : 0 < ls.length) (h02 : 0 < ms.length) (hS : secAt ms ms.length = secAt ls ls.length) (hX : ∀ σ : Nat, (σ : Int) ≤ secAt ls ls.length → (atR ls σ).1 * (atR ms σ).2 = (atR ms σ).1 * (atR ls σ).2) : Ct Try.prog 15 [v, w9] [(v, 2, (ptsK ls ls.length).map cSw), (w9, 2, (ptsK ms ms.length).map cSw)] (isV (.tuple #[.agg #[.int .i64 0, .int .i64 0], .int .i64 0])) := by
 refine Ct.of (N := 24) Try.func15 rfl rfl rfl fun w => ?_
 refine C_weak (E' := [(0, v), (1, w9)]) (rs' := [rd v 2 ((ptsK ls ls.length).map cSw), rd w9 2 ((ptsK ms ms.length).map cSw)]) ⟨rfl, rfl, trivial⟩ (fun _ h => h) ?_
 refine C_seq ?_
 refine C_region ?_
 refine L_alloc tb rfl rfl fun g4 => ?_
 refine Jq (q_assign rfl) ?_
 refine L_then ?_
 refine C_seq ?_
 refine C_seq ?_
 refine C_region ?_
 refine Jq (q_move rfl) ?_
 refine Jq (q_move rfl) ?_
 refine L_call tb rfl rfl (ct_profile_checkBoth v w9 sf gs g2 ls ms H H2 h0 h02 hS) (ps_cons gvo (ps_cons gvo no_ps)) rfl ?_
 refine Jq (q_assign rfl) ?_
 refine L_then ?_
 refine C_block ?_
 refine C_seq ?_
 refine C_region ?_
 refine Jq (q_move rfl) ?_
 refine Jq (q_false (q_neq rfl rfl) (decide_eq_false (fun h => h rfl))) ?_
 refine Jq (q_assign rfl) ?_
 refine L_then ?_
 refine C_false rfl ?_
 refine C_seq ?_
 refine C_region ?_
 refine Jq (q_move rfl) ?_
 refine Jq (q_move rfl) ?_
 refine L_call tb rfl rfl (ct_profile_clash v w9 sf gs g2 ls ms H H2 h0 h02 hS) (ps_cons gvo (ps_cons gvo no_ps)) rfl ?_
 refine Jq (q_assign rfl) ?_
 refine L_then ?_
 refine C_false rfl ?_
 refine C_skip_blk ?_
 refine C_seq ?_
 refine C_region ?_
 refine Jq (q_move rfl) ?_
 refine Jq (q_move rfl) ?_
 refine L_call tb rfl rfl (ct_profile_distance v w9 sf gs g2 ls ms H H2 h0 h02 hS hX) (ps_cons gvo (ps_cons gvo no_ps)) rfl ?_
 refine L_call tb rfl rfl (ct_profile_ratio_rounded 0 1 (by omega)) no_ps rfl ?_
 refine L_st tb rfl rfl ?_
 refine Jq (q_assign rfl) ?_
 refine L_then ?_
 refine C_ret ?_
 exact ret_of (resCT tb rfl rfl rfl rfl bxo rfl) sub_nil (by intro r hr; cases hr) ⟨rfl, rfl⟩
end Go.Proofs.Ytdmnejfpbbmcaaa
