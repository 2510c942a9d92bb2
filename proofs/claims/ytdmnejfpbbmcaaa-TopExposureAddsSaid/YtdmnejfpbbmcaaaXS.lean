/-
  Walks: each function named returns what its model says. Conditions: those in front of each theorem.
-/
import Derived.Test.YtdmnejfpbbmcaaaArgP
import Derived.Test.YtdmnejfpbbmcaaaYC
namespace Go.Proofs.Ytdmnejfpbbmcaaa
open Go.RowKit

set_option maxRecDepth 100000 in
set_option maxHeartbeats 1000000 in
theorem ct_exposure_leg_breaks (t : Value) (x : Le) (r : Ru) (H : okLe x) (hg : ckGas x.g.o x.g.h = 0) (HR : okRu r) : Ct Try.prog 89 [.agg (cLe x).toArray, .agg (cRu t r).toArray] [(t, 2, r.tb.map cOw)] (isSl 3 1 ((brkL x.g x.sf x.f x.t r).map cI)) := by
 refine Ct.of (N := 37) Try.func89 rfl rfl rfl fun w => ?_
 refine C_weak (E' := [(0, .agg (cLe x).toArray), (1, .agg (cRu t r).toArray)]) (rs' := [rd t 2 (r.tb.map cOw)]) ⟨rfl, rfl, trivial⟩ (fun _ h => h) ?_
 have hl1 := len_map cOw r.tb
 have hs9 := H.s; have hb9 := H.b; have hf9 := H.f; have ht9 := H.t; have hsf9 := H.sf; have hd9 := H.d
 have hgk := ckGas_ok hg
 refine C_seq ?_
 refine C_region ?_
 refine L_box rfl rfl rfl fun g2 => ?_
 refine L_box rfl rfl rfl fun g3 => ?_
 refine Jq (q_assign rfl) ?_
 refine L_then ?_
 refine C_seq ?_
 refine C_region ?_
 refine Jq (q_assign rfl) ?_
 refine L_then ?_
 refine C_seq ?_
 refine C_seq ?_
 refine C_nil 3 1 ?_
 refine C_draw (n := 6) [(0, false), (1, false), (2, false), (4, false), (3, true), (5, true)] mixed (by kernel_rfl) ?_
 refine Yq rfl (q_field tb rfl rfl rfl) ?_
 refine Yq rfl (q_loadA tb rfl rfl bxo rfl rfl) ?_
 refine Yq rfl (q_loadA tb rfl rfl bxo rfl rfl) ?_
 refine Yq rfl (q_loadA tb rfl rfl bxo rfl rfl) ?_
 refine W_call tb rfl rfl rfl rfl (ct_exposure_leg_least x) no_ps rfl ?_
 refine W_call tb rfl rfl rfl rfl (ct_exposure_poor t x.g (min x.f x.t) r (by omega) (by omega) HR) (ps_cons gvo no_ps) rfl ?_
 refine W_nil ?_
 refine L_then ?_
 refine C_dec rfl (fun h1 => ?_) (fun h1 => ?_)
 refine C_region ?_
 refine Jq (q_move rfl) ?_
 refine L_mk (lo_bslice tb rfl rfl rfl (xs := [cI 1]) rfl rfl (by simp [cI]) rfl (by omega) rfl) rfl rfl rfl fun v15 => ?_
 refine L_ap tb rfl rfl rfl rfl gvo (by simp [Value.oneCell', cI]) (by simp [maxLen]) (by simp) fun v16 => ?_
 refine Jq (q_assign rfl) ?_
 refine L_then ?_
 refine C_seq ?_
 refine C_seq ?_
 have e9 := bk_0y (g := x.g) (sf := x.sf) (a := x.f) (b := x.t) (r := r) h1
 refine C_res (rs' := [sl v16 3 1 ((brkK x.g x.sf x.f x.t r 0).map cI), box g2 108 (cLe x), box g3 53 (cRu t r), rd t 2 (r.tb.map cOw)]) (fun _ h => h.pk (by repeat (first | with_reducible exact pk_nil | refine pk_box (by first | rfl | exact e9) ?_ | refine pk_rd rfl ?_ | refine pk_sl (by first | rfl | exact e9) ?_ | with_reducible refine pk_app ?_ | with_reducible refine pk_app0 ?_ | with_reducible refine pk_app0L ?_ | with_reducible exact pk_tl | refine pk_var ?_))) ?_
 refine C_draw (n := 9) [(0, false), (1, false), (2, false), (3, false), (4, false), (6, false), (8, false), (5, true), (7, true)] mixed (by kernel_rfl) ?_
 refine Yq rfl (q_field tb rfl rfl rfl) ?_
 refine Yq rfl (q_loadA tb rfl rfl bxo rfl rfl) ?_
 refine Yq rfl (q_field tb rfl rfl rfl) ?_
 refine Yq rfl (q_load tb rfl rfl bxo rfl) ?_
 refine Yq rfl (q_loadA tb rfl rfl bxo rfl rfl) ?_
 refine Yq rfl (q_loadA tb rfl rfl bxo rfl rfl) ?_
 refine Yq rfl (q_move rfl) ?_
 refine W_call tb rfl rfl rfl rfl (ct_exposure_leg_most x) no_ps rfl ?_
 refine W_call tb rfl rfl rfl rfl (ct_exposure_heavy t x.g x.sf (max x.f x.t) r hg hsf9 (by omega) HR) (ps_cons gvo no_ps) rfl ?_
 refine W_nil ?_
 refine L_then ?_
 refine C_block ?_
 refine C_loop (ι := Nat × Value) (fun q => ([(3, .pointer (some ⟨g3, 0, none⟩)), (5, q.2), (24, .agg #[.bool (richB x.g (max x.f x.t) r), .bool (narcB x.g x.sf (max x.f x.t) r), .bool (denB x.g (max x.f x.t) r)]), (25, .int .i64 (q.1 : Int))], [sl q.2 3 1 ((brkK x.g x.sf x.f x.t r q.1).map cI)])) (fun q => q.1 ≤ 3) (fun q => 3 - q.1) (0, v16) (Nat.zero_le _) (fun a w hs => hs.weak ⟨rfl, rfl, rfl, rfl, trivial⟩ (fun h => h.pk (by repeat (first | with_reducible exact pk_nil | refine pk_box rfl ?_ | refine pk_rd rfl ?_ | refine pk_sl rfl ?_ | with_reducible refine pk_app ?_ | with_reducible refine pk_app0 ?_ | with_reducible refine pk_app0L ?_ | with_reducible exact pk_tl | refine pk_var ?_)))) ?_
 rintro ⟨k, y⟩ hk9
 dsimp only at hk9 ⊢
 have hbl := brkK_len (g := x.g) (sf := x.sf) (a := x.f) (b := x.t) (r := r) k
 refine C_seq ?_
 refine C_region ?_
 refine Jq (q_lss rfl rfl) ?_
 refine L_then ?_
 refine C_seq ?_
 refine C_dec rfl (fun h2 => ?_) (fun h2 => ?_)
 obtain rfl | rfl | rfl : k = 0 ∨ k = 1 ∨ k = 2 := by omega
 refine C_skip_then ?_
 refine C_seq ?_
 refine C_block ?_
 refine C_seq ?_
 refine C_region ?_
 refine Jq (q_move rfl) ?_
 refine Jq (q_indexV tb rfl rfl rfl rfl (by omega) (by omega) rfl) ?_
 refine Jq (q_assign rfl) ?_
 refine Jq (q_assign rfl) ?_
 refine L_then ?_
 refine C_seq ?_
 refine C_region ?_
 refine Jq (q_move rfl) ?_
 refine L_then ?_
 refine C_bool rfl (fun hj => ?_) (fun hj => ?_)
 refine C_region ?_
 refine Jq (q_move rfl) ?_
 refine Jq (q_move rfl) ?_
 refine Jq (q_add rfl rfl (by first | exact IntWalk.i64_in _ (by omega) | rfl)) ?_
 refine L_mk (lo_bslice tb rfl rfl rfl (xs := [cI 2]) rfl rfl (by simp [cI]) rfl (by omega) rfl) rfl rfl rfl fun v33 => ?_
 refine L_ap tb rfl rfl rfl rfl gvo (by simp [Value.oneCell', cI]) (by simp [maxLen]; omega) (by simp; omega) fun v34 => ?_
 refine Jq (q_assign rfl) ?_
 refine L_blk ?_
 refine C_region ?_
 refine Jq (q_add rfl rfl (by first | exact IntWalk.i64_in _ (by omega) | rfl)) ?_
 refine Jq (q_move rfl) ?_
 refine L_end ?_
 have e9 := bk_1y (g := x.g) (sf := x.sf) (a := x.f) (b := x.t) (r := r) hj
 exact fun ac_ wo_ hs_ => ⟨(1, v34), (by dsimp only; omega), (by dsimp only; omega), hs_.weak ⟨rfl, rfl, rfl, rfl, trivial⟩ (fun h => h.pk (by repeat (first | with_reducible exact pk_nil | refine pk_box (by first | rfl | exact e9) ?_ | refine pk_rd rfl ?_ | refine pk_sl (by first | rfl | exact e9) ?_ | with_reducible refine pk_app ?_ | with_reducible refine pk_app0 ?_ | with_reducible refine pk_app0L ?_ | with_reducible exact pk_tl | refine pk_var ?_)))⟩
 refine C_skip_blk ?_
 refine C_region ?_
 refine Jq (q_add rfl rfl (by first | exact IntWalk.i64_in _ (by omega) | rfl)) ?_
 refine Jq (q_move rfl) ?_
 refine L_end ?_
 have e9 := bk_1n (g := x.g) (sf := x.sf) (a := x.f) (b := x.t) (r := r) hj
 exact fun ac_ wo_ hs_ => ⟨(1, y), (by dsimp only; omega), (by dsimp only; omega), hs_.weak ⟨rfl, rfl, rfl, rfl, trivial⟩ (fun h => h.pk (by repeat (first | with_reducible exact pk_nil | refine pk_box (by first | rfl | exact e9) ?_ | refine pk_rd rfl ?_ | refine pk_sl (by first | rfl | exact e9) ?_ | with_reducible refine pk_app ?_ | with_reducible refine pk_app0 ?_ | with_reducible refine pk_app0L ?_ | with_reducible exact pk_tl | refine pk_var ?_)))⟩
 refine C_skip_then ?_
 refine C_seq ?_
 refine C_block ?_
 refine C_seq ?_
 refine C_region ?_
 refine Jq (q_move rfl) ?_
 refine Jq (q_indexV tb rfl rfl rfl rfl (by omega) (by omega) rfl) ?_
 refine Jq (q_assign rfl) ?_
 refine Jq (q_assign rfl) ?_
 refine L_then ?_
 refine C_seq ?_
 refine C_region ?_
 refine Jq (q_move rfl) ?_
 refine L_then ?_
 refine C_bool rfl (fun hj => ?_) (fun hj => ?_)
 refine C_region ?_
 refine Jq (q_move rfl) ?_
 refine Jq (q_move rfl) ?_
 refine Jq (q_add rfl rfl (by first | exact IntWalk.i64_in _ (by omega) | rfl)) ?_
 refine L_mk (lo_bslice tb rfl rfl rfl (xs := [cI 3]) rfl rfl (by simp [cI]) rfl (by omega) rfl) rfl rfl rfl fun v33 => ?_
 refine L_ap tb rfl rfl rfl rfl gvo (by simp [Value.oneCell', cI]) (by simp [maxLen]; omega) (by simp; omega) fun v34 => ?_
 refine Jq (q_assign rfl) ?_
 refine L_blk ?_
 refine C_region ?_
 refine Jq (q_add rfl rfl (by first | exact IntWalk.i64_in _ (by omega) | rfl)) ?_
 refine Jq (q_move rfl) ?_
 refine L_end ?_
 have e9 := bk_2y (g := x.g) (sf := x.sf) (a := x.f) (b := x.t) (r := r) hj
 exact fun ac_ wo_ hs_ => ⟨(2, v34), (by dsimp only; omega), (by dsimp only; omega), hs_.weak ⟨rfl, rfl, rfl, rfl, trivial⟩ (fun h => h.pk (by repeat (first | with_reducible exact pk_nil | refine pk_box (by first | rfl | exact e9) ?_ | refine pk_rd rfl ?_ | refine pk_sl (by first | rfl | exact e9) ?_ | with_reducible refine pk_app ?_ | with_reducible refine pk_app0 ?_ | with_reducible refine pk_app0L ?_ | with_reducible exact pk_tl | refine pk_var ?_)))⟩
 refine C_skip_blk ?_
 refine C_region ?_
 refine Jq (q_add rfl rfl (by first | exact IntWalk.i64_in _ (by omega) | rfl)) ?_
 refine Jq (q_move rfl) ?_
 refine L_end ?_
 have e9 := bk_2n (g := x.g) (sf := x.sf) (a := x.f) (b := x.t) (r := r) hj
 exact fun ac_ wo_ hs_ => ⟨(2, y), (by dsimp only; omega), (by dsimp only; omega), hs_.weak ⟨rfl, rfl, rfl, rfl, trivial⟩ (fun h => h.pk (by repeat (first | with_reducible exact pk_nil | refine pk_box (by first | rfl | exact e9) ?_ | refine pk_rd rfl ?_ | refine pk_sl (by first | rfl | exact e9) ?_ | with_reducible refine pk_app ?_ | with_reducible refine pk_app0 ?_ | with_reducible refine pk_app0L ?_ | with_reducible exact pk_tl | refine pk_var ?_)))⟩
 refine C_skip_then ?_
 refine C_seq ?_
 refine C_block ?_
 refine C_seq ?_
 refine C_region ?_
 refine Jq (q_move rfl) ?_
 refine Jq (q_indexV tb rfl rfl rfl rfl (by omega) (by omega) rfl) ?_
 refine Jq (q_assign rfl) ?_
 refine Jq (q_assign rfl) ?_
 refine L_then ?_
 refine C_seq ?_
 refine C_region ?_
 refine Jq (q_move rfl) ?_
 refine L_then ?_
 refine C_bool rfl (fun hj => ?_) (fun hj => ?_)
 refine C_region ?_
 refine Jq (q_move rfl) ?_
 refine Jq (q_move rfl) ?_
 refine Jq (q_add rfl rfl (by first | exact IntWalk.i64_in _ (by omega) | rfl)) ?_
 refine L_mk (lo_bslice tb rfl rfl rfl (xs := [cI 4]) rfl rfl (by simp [cI]) rfl (by omega) rfl) rfl rfl rfl fun v33 => ?_
 refine L_ap tb rfl rfl rfl rfl gvo (by simp [Value.oneCell', cI]) (by simp [maxLen]; omega) (by simp; omega) fun v34 => ?_
 refine Jq (q_assign rfl) ?_
 refine L_blk ?_
 refine C_region ?_
 refine Jq (q_add rfl rfl (by first | exact IntWalk.i64_in _ (by omega) | rfl)) ?_
 refine Jq (q_move rfl) ?_
 refine L_end ?_
 have e9 := bk_3y (g := x.g) (sf := x.sf) (a := x.f) (b := x.t) (r := r) hj
 exact fun ac_ wo_ hs_ => ⟨(3, v34), (by dsimp only; omega), (by dsimp only; omega), hs_.weak ⟨rfl, rfl, rfl, rfl, trivial⟩ (fun h => h.pk (by repeat (first | with_reducible exact pk_nil | refine pk_box (by first | rfl | exact e9) ?_ | refine pk_rd rfl ?_ | refine pk_sl (by first | rfl | exact e9) ?_ | with_reducible refine pk_app ?_ | with_reducible refine pk_app0 ?_ | with_reducible refine pk_app0L ?_ | with_reducible exact pk_tl | refine pk_var ?_)))⟩
 refine C_skip_blk ?_
 refine C_region ?_
 refine Jq (q_add rfl rfl (by first | exact IntWalk.i64_in _ (by omega) | rfl)) ?_
 refine Jq (q_move rfl) ?_
 refine L_end ?_
 have e9 := bk_3n (g := x.g) (sf := x.sf) (a := x.f) (b := x.t) (r := r) hj
 exact fun ac_ wo_ hs_ => ⟨(3, y), (by dsimp only; omega), (by dsimp only; omega), hs_.weak ⟨rfl, rfl, rfl, rfl, trivial⟩ (fun h => h.pk (by repeat (first | with_reducible exact pk_nil | refine pk_box (by first | rfl | exact e9) ?_ | refine pk_rd rfl ?_ | refine pk_sl (by first | rfl | exact e9) ?_ | with_reducible refine pk_app ?_ | with_reducible refine pk_app0 ?_ | with_reducible refine pk_app0L ?_ | with_reducible exact pk_tl | refine pk_var ?_)))⟩
 refine C_exit ?_
 change C Try.prog _ _ _ _ _ _ _
 refine C_seq ?_
 refine C_region ?_
 refine Jq (q_move rfl) ?_
 refine Jq (q_assign rfl) ?_
 refine L_then ?_
 refine C_ret ?_
 obtain rfl : k = 3 := by omega
 rw [← brkK_3]
 exact ret_of (rs' := [sl y 3 1 ((brkK x.g x.sf x.f x.t r 3).map cI)]) (res1 rfl rfl) (fun w_ h_ => h_.pk (by repeat (first | with_reducible exact pk_nil | refine pk_box rfl ?_ | refine pk_rd rfl ?_ | refine pk_sl rfl ?_ | with_reducible refine pk_app ?_ | with_reducible refine pk_app0 ?_ | with_reducible refine pk_app0L ?_ | with_reducible exact pk_tl | refine pk_var ?_))) own1 rfl
 refine C_skip_then ?_
 refine C_seq ?_
 refine C_seq ?_
 have e9 := bk_0n (g := x.g) (sf := x.sf) (a := x.f) (b := x.t) (r := r) h1
 refine C_res (rs' := [sl (.slice none 0 0) 3 1 ((brkK x.g x.sf x.f x.t r 0).map cI), box g2 108 (cLe x), box g3 53 (cRu t r), rd t 2 (r.tb.map cOw)]) (fun _ h => h.pk (by repeat (first | with_reducible exact pk_nil | refine pk_box (by first | rfl | exact e9) ?_ | refine pk_rd rfl ?_ | refine pk_sl (by first | rfl | exact e9) ?_ | with_reducible refine pk_app ?_ | with_reducible refine pk_app0 ?_ | with_reducible refine pk_app0L ?_ | with_reducible exact pk_tl | refine pk_var ?_))) ?_
 refine C_draw (n := 9) [(0, false), (1, false), (2, false), (3, false), (4, false), (6, false), (8, false), (5, true), (7, true)] mixed (by kernel_rfl) ?_
 refine Yq rfl (q_field tb rfl rfl rfl) ?_
 refine Yq rfl (q_loadA tb rfl rfl bxo rfl rfl) ?_
 refine Yq rfl (q_field tb rfl rfl rfl) ?_
 refine Yq rfl (q_load tb rfl rfl bxo rfl) ?_
 refine Yq rfl (q_loadA tb rfl rfl bxo rfl rfl) ?_
 refine Yq rfl (q_loadA tb rfl rfl bxo rfl rfl) ?_
 refine Yq rfl (q_move rfl) ?_
 refine W_call tb rfl rfl rfl rfl (ct_exposure_leg_most x) no_ps rfl ?_
 refine W_call tb rfl rfl rfl rfl (ct_exposure_heavy t x.g x.sf (max x.f x.t) r hg hsf9 (by omega) HR) (ps_cons gvo no_ps) rfl ?_
 refine W_nil ?_
 refine L_then ?_
 refine C_block ?_
 refine C_loop (ι := Nat × Value) (fun q => ([(3, .pointer (some ⟨g3, 0, none⟩)), (5, q.2), (24, .agg #[.bool (richB x.g (max x.f x.t) r), .bool (narcB x.g x.sf (max x.f x.t) r), .bool (denB x.g (max x.f x.t) r)]), (25, .int .i64 (q.1 : Int))], [sl q.2 3 1 ((brkK x.g x.sf x.f x.t r q.1).map cI)])) (fun q => q.1 ≤ 3) (fun q => 3 - q.1) (0, .slice none 0 0) (Nat.zero_le _) (fun a w hs => hs.weak ⟨rfl, rfl, rfl, rfl, trivial⟩ (fun h => h.pk (by repeat (first | with_reducible exact pk_nil | refine pk_box rfl ?_ | refine pk_rd rfl ?_ | refine pk_sl rfl ?_ | with_reducible refine pk_app ?_ | with_reducible refine pk_app0 ?_ | with_reducible refine pk_app0L ?_ | with_reducible exact pk_tl | refine pk_var ?_)))) ?_
 rintro ⟨k, y⟩ hk9
 dsimp only at hk9 ⊢
 have hbl := brkK_len (g := x.g) (sf := x.sf) (a := x.f) (b := x.t) (r := r) k
 refine C_seq ?_
 refine C_region ?_
 refine Jq (q_lss rfl rfl) ?_
 refine L_then ?_
 refine C_seq ?_
 refine C_dec rfl (fun h6 => ?_) (fun h6 => ?_)
 obtain rfl | rfl | rfl : k = 0 ∨ k = 1 ∨ k = 2 := by omega
 refine C_skip_then ?_
 refine C_seq ?_
 refine C_block ?_
 refine C_seq ?_
 refine C_region ?_
 refine Jq (q_move rfl) ?_
 refine Jq (q_indexV tb rfl rfl rfl rfl (by omega) (by omega) rfl) ?_
 refine Jq (q_assign rfl) ?_
 refine Jq (q_assign rfl) ?_
 refine L_then ?_
 refine C_seq ?_
 refine C_region ?_
 refine Jq (q_move rfl) ?_
 refine L_then ?_
 refine C_bool rfl (fun hj => ?_) (fun hj => ?_)
 refine C_region ?_
 refine Jq (q_move rfl) ?_
 refine Jq (q_move rfl) ?_
 refine Jq (q_add rfl rfl (by first | exact IntWalk.i64_in _ (by omega) | rfl)) ?_
 refine L_mk (lo_bslice tb rfl rfl rfl (xs := [cI 2]) rfl rfl (by simp [cI]) rfl (by omega) rfl) rfl rfl rfl fun v33 => ?_
 refine L_ap tb rfl rfl rfl rfl gvo (by simp [Value.oneCell', cI]) (by simp [maxLen]; omega) (by simp; omega) fun v34 => ?_
 refine Jq (q_assign rfl) ?_
 refine L_blk ?_
 refine C_region ?_
 refine Jq (q_add rfl rfl (by first | exact IntWalk.i64_in _ (by omega) | rfl)) ?_
 refine Jq (q_move rfl) ?_
 refine L_end ?_
 have e9 := bk_1y (g := x.g) (sf := x.sf) (a := x.f) (b := x.t) (r := r) hj
 exact fun ac_ wo_ hs_ => ⟨(1, v34), (by dsimp only; omega), (by dsimp only; omega), hs_.weak ⟨rfl, rfl, rfl, rfl, trivial⟩ (fun h => h.pk (by repeat (first | with_reducible exact pk_nil | refine pk_box (by first | rfl | exact e9) ?_ | refine pk_rd rfl ?_ | refine pk_sl (by first | rfl | exact e9) ?_ | with_reducible refine pk_app ?_ | with_reducible refine pk_app0 ?_ | with_reducible refine pk_app0L ?_ | with_reducible exact pk_tl | refine pk_var ?_)))⟩
 refine C_skip_blk ?_
 refine C_region ?_
 refine Jq (q_add rfl rfl (by first | exact IntWalk.i64_in _ (by omega) | rfl)) ?_
 refine Jq (q_move rfl) ?_
 refine L_end ?_
 have e9 := bk_1n (g := x.g) (sf := x.sf) (a := x.f) (b := x.t) (r := r) hj
 exact fun ac_ wo_ hs_ => ⟨(1, y), (by dsimp only; omega), (by dsimp only; omega), hs_.weak ⟨rfl, rfl, rfl, rfl, trivial⟩ (fun h => h.pk (by repeat (first | with_reducible exact pk_nil | refine pk_box (by first | rfl | exact e9) ?_ | refine pk_rd rfl ?_ | refine pk_sl (by first | rfl | exact e9) ?_ | with_reducible refine pk_app ?_ | with_reducible refine pk_app0 ?_ | with_reducible refine pk_app0L ?_ | with_reducible exact pk_tl | refine pk_var ?_)))⟩
 refine C_skip_then ?_
 refine C_seq ?_
 refine C_block ?_
 refine C_seq ?_
 refine C_region ?_
 refine Jq (q_move rfl) ?_
 refine Jq (q_indexV tb rfl rfl rfl rfl (by omega) (by omega) rfl) ?_
 refine Jq (q_assign rfl) ?_
 refine Jq (q_assign rfl) ?_
 refine L_then ?_
 refine C_seq ?_
 refine C_region ?_
 refine Jq (q_move rfl) ?_
 refine L_then ?_
 refine C_bool rfl (fun hj => ?_) (fun hj => ?_)
 refine C_region ?_
 refine Jq (q_move rfl) ?_
 refine Jq (q_move rfl) ?_
 refine Jq (q_add rfl rfl (by first | exact IntWalk.i64_in _ (by omega) | rfl)) ?_
 refine L_mk (lo_bslice tb rfl rfl rfl (xs := [cI 3]) rfl rfl (by simp [cI]) rfl (by omega) rfl) rfl rfl rfl fun v33 => ?_
 refine L_ap tb rfl rfl rfl rfl gvo (by simp [Value.oneCell', cI]) (by simp [maxLen]; omega) (by simp; omega) fun v34 => ?_
 refine Jq (q_assign rfl) ?_
 refine L_blk ?_
 refine C_region ?_
 refine Jq (q_add rfl rfl (by first | exact IntWalk.i64_in _ (by omega) | rfl)) ?_
 refine Jq (q_move rfl) ?_
 refine L_end ?_
 have e9 := bk_2y (g := x.g) (sf := x.sf) (a := x.f) (b := x.t) (r := r) hj
 exact fun ac_ wo_ hs_ => ⟨(2, v34), (by dsimp only; omega), (by dsimp only; omega), hs_.weak ⟨rfl, rfl, rfl, rfl, trivial⟩ (fun h => h.pk (by repeat (first | with_reducible exact pk_nil | refine pk_box (by first | rfl | exact e9) ?_ | refine pk_rd rfl ?_ | refine pk_sl (by first | rfl | exact e9) ?_ | with_reducible refine pk_app ?_ | with_reducible refine pk_app0 ?_ | with_reducible refine pk_app0L ?_ | with_reducible exact pk_tl | refine pk_var ?_)))⟩
 refine C_skip_blk ?_
 refine C_region ?_
 refine Jq (q_add rfl rfl (by first | exact IntWalk.i64_in _ (by omega) | rfl)) ?_
 refine Jq (q_move rfl) ?_
 refine L_end ?_
 have e9 := bk_2n (g := x.g) (sf := x.sf) (a := x.f) (b := x.t) (r := r) hj
 exact fun ac_ wo_ hs_ => ⟨(2, y), (by dsimp only; omega), (by dsimp only; omega), hs_.weak ⟨rfl, rfl, rfl, rfl, trivial⟩ (fun h => h.pk (by repeat (first | with_reducible exact pk_nil | refine pk_box (by first | rfl | exact e9) ?_ | refine pk_rd rfl ?_ | refine pk_sl (by first | rfl | exact e9) ?_ | with_reducible refine pk_app ?_ | with_reducible refine pk_app0 ?_ | with_reducible refine pk_app0L ?_ | with_reducible exact pk_tl | refine pk_var ?_)))⟩
 refine C_skip_then ?_
 refine C_seq ?_
 refine C_block ?_
 refine C_seq ?_
 refine C_region ?_
 refine Jq (q_move rfl) ?_
 refine Jq (q_indexV tb rfl rfl rfl rfl (by omega) (by omega) rfl) ?_
 refine Jq (q_assign rfl) ?_
 refine Jq (q_assign rfl) ?_
 refine L_then ?_
 refine C_seq ?_
 refine C_region ?_
 refine Jq (q_move rfl) ?_
 refine L_then ?_
 refine C_bool rfl (fun hj => ?_) (fun hj => ?_)
 refine C_region ?_
 refine Jq (q_move rfl) ?_
 refine Jq (q_move rfl) ?_
 refine Jq (q_add rfl rfl (by first | exact IntWalk.i64_in _ (by omega) | rfl)) ?_
 refine L_mk (lo_bslice tb rfl rfl rfl (xs := [cI 4]) rfl rfl (by simp [cI]) rfl (by omega) rfl) rfl rfl rfl fun v33 => ?_
 refine L_ap tb rfl rfl rfl rfl gvo (by simp [Value.oneCell', cI]) (by simp [maxLen]; omega) (by simp; omega) fun v34 => ?_
 refine Jq (q_assign rfl) ?_
 refine L_blk ?_
 refine C_region ?_
 refine Jq (q_add rfl rfl (by first | exact IntWalk.i64_in _ (by omega) | rfl)) ?_
 refine Jq (q_move rfl) ?_
 refine L_end ?_
 have e9 := bk_3y (g := x.g) (sf := x.sf) (a := x.f) (b := x.t) (r := r) hj
 exact fun ac_ wo_ hs_ => ⟨(3, v34), (by dsimp only; omega), (by dsimp only; omega), hs_.weak ⟨rfl, rfl, rfl, rfl, trivial⟩ (fun h => h.pk (by repeat (first | with_reducible exact pk_nil | refine pk_box (by first | rfl | exact e9) ?_ | refine pk_rd rfl ?_ | refine pk_sl (by first | rfl | exact e9) ?_ | with_reducible refine pk_app ?_ | with_reducible refine pk_app0 ?_ | with_reducible refine pk_app0L ?_ | with_reducible exact pk_tl | refine pk_var ?_)))⟩
 refine C_skip_blk ?_
 refine C_region ?_
 refine Jq (q_add rfl rfl (by first | exact IntWalk.i64_in _ (by omega) | rfl)) ?_
 refine Jq (q_move rfl) ?_
 refine L_end ?_
 have e9 := bk_3n (g := x.g) (sf := x.sf) (a := x.f) (b := x.t) (r := r) hj
 exact fun ac_ wo_ hs_ => ⟨(3, y), (by dsimp only; omega), (by dsimp only; omega), hs_.weak ⟨rfl, rfl, rfl, rfl, trivial⟩ (fun h => h.pk (by repeat (first | with_reducible exact pk_nil | refine pk_box (by first | rfl | exact e9) ?_ | refine pk_rd rfl ?_ | refine pk_sl (by first | rfl | exact e9) ?_ | with_reducible refine pk_app ?_ | with_reducible refine pk_app0 ?_ | with_reducible refine pk_app0L ?_ | with_reducible exact pk_tl | refine pk_var ?_)))⟩
 refine C_exit ?_
 change C Try.prog _ _ _ _ _ _ _
 refine C_seq ?_
 refine C_region ?_
 refine Jq (q_move rfl) ?_
 refine Jq (q_assign rfl) ?_
 refine L_then ?_
 refine C_ret ?_
 obtain rfl : k = 3 := by omega
 rw [← brkK_3]
 exact ret_of (rs' := [sl y 3 1 ((brkK x.g x.sf x.f x.t r 3).map cI)]) (res1 rfl rfl) (fun w_ h_ => h_.pk (by repeat (first | with_reducible exact pk_nil | refine pk_box rfl ?_ | refine pk_rd rfl ?_ | refine pk_sl rfl ?_ | with_reducible refine pk_app ?_ | with_reducible refine pk_app0 ?_ | with_reducible refine pk_app0L ?_ | with_reducible exact pk_tl | refine pk_var ?_))) own1 rfl
set_option maxRecDepth 100000 in
set_option maxHeartbeats 1000000 in
theorem ct_exposure_Breaks (t : Value) (r : Ru) (nm : ByteArray) (sf : Int) (v u : Value) (gs : List Gs) (ls : List Dl) (hle : gs.length ≤ 100000) (hle2 : ls.length ≤ 100000) (hnm : nm.size ≤ 1000000000000) (hlt : r.tb.length ≤ 100000) : Ct Try.prog 69 [.agg (cPl nm sf v u).toArray, .agg (cRu t r).toArray] [(v, 2, gs.map cGs), (u, 3, ls.map cDl), (t, 2, r.tb.map cOw)] (isSlN 115 2 ((brE nm sf gs ls r).1.map cSw) (.int .i64 (brE nm sf gs ls r).2)) := by
 refine Ct.of (N := 43) Try.func69 rfl rfl rfl fun w => ?_
 refine C_weak (E' := [(0, .agg (cPl nm sf v u).toArray), (1, .agg (cRu t r).toArray)]) (rs' := [rd v 2 (gs.map cGs), rd u 3 (ls.map cDl), rd t 2 (r.tb.map cOw)]) ⟨rfl, rfl, trivial⟩ (fun _ h => h) ?_
 have hlp := len_map cGs gs
 have hl1 := len_map cGs gs
 have hl2 := len_map cDl ls
 have hlt9 := len_map cOw r.tb
 refine C_seq ?_
 refine C_region ?_
 refine L_box rfl rfl rfl fun g2 => ?_
 refine L_box rfl rfl rfl fun g3 => ?_
 refine Jq (q_assign rfl) ?_
 refine Jq (q_assign rfl) ?_
 refine L_then ?_
 refine C_seq ?_
 refine C_seq ?_
 refine C_region ?_
 refine Jq (q_loadA tb rfl rfl bxo rfl rfl) ?_
 refine Jq (q_loadA tb rfl rfl bxo rfl rfl) ?_
 refine L_call tb rfl rfl (ct_exposure_both t r nm sf v u gs ls hle hle2 hnm hlt) (ps_cons gvo (ps_cons gvo (ps_cons gvo no_ps))) rfl ?_
 refine Jq (q_assign rfl) ?_
 refine L_then ?_
 refine C_seq ?_
 refine C_region ?_
 refine Jq (q_move rfl) ?_
 refine Jq (q_neq rfl rfl) ?_
 refine L_then ?_
 refine C_dec rfl (fun h1 => ?_) (fun h1 => ?_)
 refine C_seq ?_
 refine C_region ?_
 refine Jq (q_move rfl) ?_
 refine Jq (q_assign rfl) ?_
 refine Jq (q_assign rfl) ?_
 refine L_then ?_
 refine C_ret ?_
 rw [brE_1 h1]
 exact ret_of (rs' := [sl (.slice none 0 0) 115 2 []]) (res2 rfl rfl rfl) (fun w_ h_ => ws_nil (sub_nil w_ h_)) own1 ⟨_, rfl, rfl⟩
 have hz := Decidable.not_not.1 h1; obtain ⟨_, H, HR, _⟩ := bothE_ok hz; have hll := H.ll
 have hlen : ((legsM sf gs ls).map cLe).length = ls.length := le_len _ _ _ _
 refine C_skip_then ?_
 refine C_seq ?_
 refine C_region ?_
 refine Jq (q_assign rfl) ?_
 refine L_then ?_
 refine C_seq ?_
 refine C_seq ?_
 refine C_region ?_
 refine Jq (q_loadA tb rfl rfl bxo rfl rfl) ?_
 refine L_callS tb rfl rfl (ct_exposure_legs nm sf v u gs ls H) (ps_cons gvo (ps_cons gvo no_ps)) rfl fun v19 => ?_
 refine Jq (q_len tb rfl rfl gvo) ?_
 refine Jq (q_move rfl) ?_
 refine L_then ?_
 refine C_block ?_
 refine C_nil 115 2 ?_
 refine C_loop (ι := Nat × Value) (fun q => ([(2, .pointer (some ⟨g2, 0, none⟩)), (3, .pointer (some ⟨g3, 0, none⟩)), (7, q.2), (19, v19), (20, .int .i64 ((legsM sf gs ls).map cLe).length), (21, .int .i64 (q.1 : Int))], [sl q.2 115 2 ((brs r sf gs ls q.1).map cSw), sl v19 108 9 ((legsM sf gs ls).map cLe), box g2 25 (cPl nm sf v u), box g3 53 (cRu t r), rd v 2 (gs.map cGs), rd u 3 (ls.map cDl), rd t 2 (r.tb.map cOw)])) (fun q => q.1 ≤ ls.length) (fun q => ls.length - q.1) (0, .slice none 0 0) (Nat.zero_le _) (fun a w hs => hs.weak ⟨rfl, rfl, rfl, rfl, rfl, rfl, trivial⟩ (fun h => h.pk (by repeat (first | with_reducible exact pk_nil | refine pk_box rfl ?_ | refine pk_rd rfl ?_ | refine pk_sl rfl ?_ | with_reducible refine pk_app ?_ | with_reducible refine pk_app0 ?_ | with_reducible refine pk_app0L ?_ | with_reducible exact pk_tl | refine pk_var ?_)))) ?_
 rintro ⟨k, y⟩ hk9
 dsimp only at hk9 ⊢
 refine C_seq ?_
 refine C_region ?_
 refine Jq (q_lss rfl rfl) ?_
 refine L_then ?_
 refine C_seq ?_
 refine C_dec rfl (fun h2 => ?_) (fun h2 => ?_)
 have hel : ((legsM sf gs ls).map cLe)[k]? = some (cLe (legAt sf gs ls k)) := le_cell (by omega)
 have hbl := brs_len (r := r) (sf := sf) (gs := gs) (ls := ls) k; have hbm := len_map cSw (brs r sf gs ls k); have hba := brkL_len (gasAt gs (dlAt ls k).g) sf (sf + depAt ls k) (sf + (dlAt ls k).d) r; have hbk : ((brkA r sf gs ls k).map cI).length = (brkA r sf gs ls k).length := len_map _ _; have hba2 : (brkA r sf gs ls k).length ≤ 4 := hba
 refine C_skip_then ?_
 refine C_seq ?_
 refine C_block ?_
 refine C_seq ?_
 refine C_region ?_
 refine Jq (q_move rfl) ?_
 refine Jq (by first | exact q_index tb rfl rfl rfl rfl gvo (by omega) (by first | omega | (simp; done) | (simp; omega)) | exact q_indexP tb rfl rfl rfl rfl (by omega) (by omega)) ?_
 refine Jq (q_loadEA tb rfl rfl gvo (i := k) (o := 0) (by omega) hel rfl rfl) ?_
 refine L_alloc tb rfl rfl fun g9 => ?_
 refine Jq (q_assign rfl) ?_
 refine L_st tb rfl rfl ?_
 refine L_then ?_
 refine C_seq ?_
 rw [← brp_0 (r := r) (sf := sf) (gs := gs) (ls := ls) (k := k)]
 refine C_res (rs' := [box g9 108 (cLe (legAt sf gs ls k)), sl y 115 2 ((brp r sf gs ls k 0).map cSw), sl v19 108 9 ((legsM sf gs ls).map cLe), box g2 25 (cPl nm sf v u), box g3 53 (cRu t r), rd v 2 (gs.map cGs), rd u 3 (ls.map cDl), rd t 2 (r.tb.map cOw)]) (fun _ h => h.pk (by repeat (first | with_reducible exact pk_nil | refine pk_box rfl ?_ | refine pk_rd rfl ?_ | refine pk_sl rfl ?_ | with_reducible refine pk_app ?_ | with_reducible refine pk_app0 ?_ | with_reducible refine pk_app0L ?_ | with_reducible exact pk_tl | refine pk_var ?_))) ?_
 refine C_region ?_
 refine Jq (q_loadA tb rfl rfl bxo rfl rfl) ?_
 refine Jq (q_loadA tb rfl rfl bxo rfl rfl) ?_
 refine L_callS tb rfl rfl (ct_exposure_leg_breaks t (legAt sf gs ls k) r (H.le (by omega)) (H.gas_ok (by omega)) HR) (ps_cons gvo no_ps) rfl fun v28 => ?_
 refine Jq (q_len tb rfl rfl gvo) ?_
 refine Jq (q_move rfl) ?_
 refine L_then ?_
 refine C_block ?_
 refine C_loop (ι := Nat × Value) (fun p => ([(2, .pointer (some ⟨g2, 0, none⟩)), (3, .pointer (some ⟨g3, 0, none⟩)), (7, p.2), (8, .int .i64 (k : Int)), (19, v19), (20, .int .i64 ((legsM sf gs ls).map cLe).length), (21, .int .i64 (k : Int)), (28, v28), (29, .int .i64 ((brkA r sf gs ls k).map cI).length), (30, .int .i64 (p.1 : Int))], [sl p.2 115 2 ((brp r sf gs ls k p.1).map cSw), sl v28 3 1 ((brkA r sf gs ls k).map cI), sl v19 108 9 ((legsM sf gs ls).map cLe), box g2 25 (cPl nm sf v u), box g3 53 (cRu t r), rd v 2 (gs.map cGs), rd u 3 (ls.map cDl), rd t 2 (r.tb.map cOw)])) (fun p => p.1 ≤ (brkA r sf gs ls k).length) (fun p => (brkA r sf gs ls k).length - p.1) (0, y) (Nat.zero_le _) (fun a w hs => hs.weak ⟨rfl, rfl, rfl, rfl, rfl, rfl, rfl, rfl, rfl, rfl, trivial⟩ (fun h => h.pk (by repeat (first | with_reducible exact pk_nil | refine pk_box rfl ?_ | refine pk_rd rfl ?_ | refine pk_sl rfl ?_ | with_reducible refine pk_app ?_ | with_reducible refine pk_app0 ?_ | with_reducible refine pk_app0L ?_ | with_reducible exact pk_tl | refine pk_var ?_)))) ?_
 rintro ⟨j, z⟩ hj9
 dsimp only at hj9 ⊢
 have hpl := brp_len (r := r) (sf := sf) (gs := gs) (ls := ls) (k := k) (j := j); have hpm := len_map cSw (brp r sf gs ls k j)
 refine C_seq ?_
 refine C_region ?_
 refine Jq (q_lss rfl rfl) ?_
 refine L_then ?_
 refine C_seq ?_
 refine C_dec rfl (fun h3 => ?_) (fun h3 => ?_)
 obtain ⟨x, hx⟩ := get_some (brkA r sf gs ls k) (k := j) (by omega); have helx := map_get cI hx
 refine C_skip_then ?_
 refine C_seq ?_
 refine C_block ?_
 refine C_seq ?_
 refine C_region ?_
 refine Jq (by first | exact q_index tb rfl rfl rfl rfl gvo (by omega) (by first | omega | (simp; done) | (simp; omega)) | exact q_indexP tb rfl rfl rfl rfl (by omega) (by omega)) ?_
 refine Jq (q_loadE tb rfl rfl gvo (i := j) (o := 0) (by omega) helx rfl) ?_
 refine Jq (q_assign rfl) ?_
 refine L_then ?_
 refine C_region ?_
 refine Jq (q_move rfl) ?_
 refine Jq (q_move rfl) ?_
 refine Jq (q_move rfl) ?_
 refine Jq (by first | exact q_build tb rfl rfl rfl rfl | exact q_buildArr tb rfl rfl rfl rfl rfl) ?_
 refine L_mk (lo_bslice tb rfl rfl rfl (xs := [cSw ((k : Int), x)]) rfl rfl (by simp [cSw]) rfl (by omega) rfl) rfl rfl rfl fun v38 => ?_
 refine L_ap tb rfl rfl rfl rfl gvo (by simp [Value.oneCell', cSw]) (by simp [maxLen, List.length_map]; omega) (by simp [List.length_map]; omega) fun v39 => ?_
 refine Jq (q_assign rfl) ?_
 refine L_blk ?_
 refine C_region ?_
 refine Jq (q_add rfl rfl (by first | exact IntWalk.i64_in _ (by omega) | rfl)) ?_
 refine Jq (q_move rfl) ?_
 refine L_end ?_
 have e9 := bp_step hx
 exact fun ac_ wo_ hs_ => ⟨(j + 1, v39), (by dsimp only; omega), (by dsimp only; omega), hs_.weak ⟨rfl, rfl, rfl, rfl, rfl, rfl, rfl, rfl, rfl, rfl, trivial⟩ (fun h => h.pk (by repeat (first | with_reducible exact pk_nil | refine pk_box (by first | rfl | exact e9) ?_ | refine pk_rd rfl ?_ | refine pk_sl (by first | rfl | exact e9) ?_ | with_reducible refine pk_app ?_ | with_reducible refine pk_app0 ?_ | with_reducible refine pk_app0L ?_ | with_reducible exact pk_tl | refine pk_var ?_)))⟩
 have e8 := brp_end (r := r) (sf := sf) (gs := gs) (ls := ls) (k := k) (j := j) (by omega)
 refine C_exit ?_
 change C Try.prog _ _ _ _ _ _ _
 refine C_region ?_
 refine Jq (q_add rfl rfl (by first | exact IntWalk.i64_in _ (by omega) | rfl)) ?_
 refine Jq (q_move rfl) ?_
 refine L_end ?_
 rw [e8]
 exact fun ac_ wo_ hs_ => ⟨(k + 1, z), (by dsimp only; omega), (by dsimp only; omega), hs_.weak ⟨rfl, rfl, rfl, rfl, rfl, rfl, trivial⟩ (fun h => h.pk (by repeat (first | with_reducible exact pk_nil | refine pk_box rfl ?_ | refine pk_rd rfl ?_ | refine pk_sl rfl ?_ | with_reducible refine pk_app ?_ | with_reducible refine pk_app0 ?_ | with_reducible refine pk_app0L ?_ | with_reducible exact pk_tl | refine pk_var ?_)))⟩
 refine C_exit ?_
 change C Try.prog _ _ _ _ _ _ _
 refine C_seq ?_
 refine C_region ?_
 refine Jq (q_move rfl) ?_
 refine Jq (q_assign rfl) ?_
 refine Jq (q_assign rfl) ?_
 refine L_then ?_
 refine C_ret ?_
 obtain rfl : k = ls.length := by omega
 rw [brE_2 hz]
 exact ret_of (rs' := [sl y 115 2 ((brs r sf gs ls ls.length).map cSw)]) (res2 rfl rfl rfl) (fun w_ h_ => h_.pk (by repeat (first | with_reducible exact pk_nil | refine pk_box rfl ?_ | refine pk_rd rfl ?_ | refine pk_sl rfl ?_ | with_reducible refine pk_app ?_ | with_reducible refine pk_app0 ?_ | with_reducible refine pk_app0L ?_ | with_reducible exact pk_tl | refine pk_var ?_))) own1 ⟨_, rfl, rfl⟩
set_option maxRecDepth 100000 in
theorem ct_exposure_FirstWrong (t : Value) (r : Ru) (nm : ByteArray) (sf : Int) (v u : Value) (gs : List Gs) (ls : List Dl) (hle : gs.length ≤ 100000) (hle2 : ls.length ≤ 100000) (hnm : nm.size ≤ 1000000000000) (hlt : r.tb.length ≤ 100000) : Ct Try.prog 30 [.agg (cPl nm sf v u).toArray, .agg (cRu t r).toArray] [(v, 2, gs.map cGs), (u, 3, ls.map cDl), (t, 2, r.tb.map cOw)] (isV (.tuple #[.int .i64 (fwE nm sf gs ls r).1, .int .i64 (fwE nm sf gs ls r).2])) := by
 refine Ct.of (N := 26) Try.func30 rfl rfl rfl fun w => ?_
 refine C_weak (E' := [(0, .agg (cPl nm sf v u).toArray), (1, .agg (cRu t r).toArray)]) (rs' := [rd v 2 (gs.map cGs), rd u 3 (ls.map cDl), rd t 2 (r.tb.map cOw)]) ⟨rfl, rfl, trivial⟩ (fun _ h => h) ?_
 have hlp := len_map cGs gs
 have hl1 := len_map cGs gs
 have hl2 := len_map cDl ls
 have hlt9 := len_map cOw r.tb
 refine C_seq ?_
 refine C_region ?_
 refine L_box rfl rfl rfl fun g2 => ?_
 refine L_box rfl rfl rfl fun g3 => ?_
 refine Jq (q_assign rfl) ?_
 refine Jq (q_assign rfl) ?_
 refine L_then ?_
 refine C_seq ?_
 refine C_region ?_
 refine Jq (q_loadA tb rfl rfl bxo rfl rfl) ?_
 refine Jq (q_loadA tb rfl rfl bxo rfl rfl) ?_
 refine L_callSN tb rfl rfl (ct_exposure_Breaks t r nm sf v u gs ls hle hle2 hnm hlt) (ps_cons gvo (ps_cons gvo (ps_cons gvo no_ps))) rfl fun v11 => ?_
 refine Jq (q_move rfl) ?_
 refine Jq (q_ext0 rfl) ?_
 refine Jq (q_ext1 rfl) ?_
 refine Jq (q_assign rfl) ?_
 refine Jq (q_assign rfl) ?_
 refine L_then ?_
 refine C_seq ?_
 refine C_block ?_
 refine C_seq ?_
 refine C_region ?_
 refine Jq (q_move rfl) ?_
 refine Jq (q_neq rfl rfl) ?_
 refine Jq (q_assign rfl) ?_
 refine L_then ?_
 refine C_dec rfl (fun h1 => ?_) (fun h1 => ?_)
 have hz : bothE nm sf gs ls r ≠ 0 := fun hh => h1 (by rw [brE_2 hh])
 rw [brE_1 hz]
 refine C_seq ?_
 refine C_region ?_
 refine Jq (q_move rfl) ?_
 refine Jq (q_assign rfl) ?_
 refine Jq (q_assign rfl) ?_
 refine L_then ?_
 refine C_ret ?_
 rw [fwE_1 hz]
 exact ret_of (res2 rfl rfl rfl) sub_nil (by intro r hr; cases hr) ⟨rfl, rfl⟩
 have hz : bothE nm sf gs ls r = 0 := Decidable.byContradiction fun hh => h1 (by rw [brE_1 hh]; exact hh)
 rw [brE_2 hz]
 have hbm : (List.map cSw (brs r sf gs ls ls.length, (0 : Int)).fst).length = (brs r sf gs ls ls.length).length := len_map _ _
 refine C_seq ?_
 refine C_region ?_
 refine Jq (q_move rfl) ?_
 refine Jq (q_len tb rfl rfl gvo) ?_
 refine Jq (q_eql rfl rfl) ?_
 refine Jq (q_assign rfl) ?_
 refine L_then ?_
 refine C_dec rfl (fun h2 => ?_) (fun h2 => ?_)
 refine C_seq ?_
 refine C_region ?_
 refine Jq (q_assign rfl) ?_
 refine Jq (q_assign rfl) ?_
 refine L_then ?_
 refine C_ret ?_
 rw [fwE_2 hz (by omega)]
 exact ret_of (res2 rfl rfl rfl) sub_nil (by intro r hr; cases hr) ⟨rfl, rfl⟩
 refine C_skip_blk ?_
 refine C_seq ?_
 refine C_region ?_
 obtain ⟨x, hx⟩ := get_some (brs r sf gs ls ls.length) (k := 0) (by omega); have helx := map_get cSw hx
 refine Jq (q_move rfl) ?_
 refine Jq (by first | exact q_index tb rfl rfl rfl rfl gvo (by omega) (by first | omega | (simp; done) | (simp; omega)) | exact q_indexP tb rfl rfl rfl rfl (by omega) (by omega)) ?_
 refine Jq (q_fieldE tb rfl rfl rfl gvo (by first | omega | (simp; done) | (simp; omega))) ?_
 refine Jq (q_loadE tb rfl rfl gvo (i := 0) (o := 0) (by rfl) helx rfl) ?_
 refine Jq (q_assign rfl) ?_
 refine Jq (q_assign rfl) ?_
 refine L_then ?_
 refine C_ret ?_
 rw [fwE_3 hz hx]
 exact ret_of (res2 rfl rfl rfl) sub_nil (by intro r hr; cases hr) ⟨rfl, rfl⟩
end Go.Proofs.Ytdmnejfpbbmcaaa
