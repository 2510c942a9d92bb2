/-
  Walks: each function named returns what its model says. Conditions: those in front of each theorem.
-/
import Derived.Test.YtdmnejfpbbmcaaaPA
import Derived.Test.YtdmnejfpbbmcaaaEqT
namespace Go.Proofs.Ytdmnejfpbbmcaaa
open Go.RowKit

set_option maxRecDepth 100000 in
set_option maxHeartbeats 1000000 in
theorem ct_profile_straight (p d q e x f : Int) (h1 : 0 ≤ p ∧ p ≤ q ∧ q ≤ x ∧ x ≤ 1000000) (h2 : 0 ≤ d ∧ d ≤ 30000 ∧ 0 ≤ e ∧ e ≤ 30000 ∧ 0 ≤ f ∧ f ≤ 30000) : Ct Try.prog 77 [.agg #[.int .i64 p, .int .i64 d], .agg #[.int .i64 q, .int .i64 e], .agg #[.int .i64 x, .int .i64 f]] [] (isV (.bool (decide ((e - d) * (x - q) = (f - e) * (q - p))))) := by
 refine Ct.of (N := 30) Try.func77 rfl rfl rfl fun w => ?_
 refine C_weak (E' := [(0, .agg #[.int .i64 p, .int .i64 d]), (1, .agg #[.int .i64 q, .int .i64 e]), (2, .agg #[.int .i64 x, .int .i64 f])]) (rs' := []) ⟨rfl, rfl, rfl, trivial⟩ (fun _ h => h) ?_
 have m1 := mulB (a := e - d + 30000) (b := x - q) (A := 60000) (B := 1000000) (by omega) (by omega); have m2 := mulB (a := f - e + 30000) (b := q - p) (A := 60000) (B := 1000000) (by omega) (by omega)
 rw [Int.add_mul] at m1 m2
 refine C_seq ?_
 refine C_region ?_
 refine L_box rfl rfl rfl fun g3 => ?_
 refine L_box rfl rfl rfl fun g4 => ?_
 refine L_box rfl rfl rfl fun g5 => ?_
 refine Jq (q_assign rfl) ?_
 refine L_then ?_
 refine C_seq ?_
 refine C_region ?_
 refine Jq (q_field tb rfl rfl rfl) ?_
 refine Jq (q_load tb rfl rfl bxo rfl) ?_
 refine Jq (q_field tb rfl rfl rfl) ?_
 refine Jq (q_load tb rfl rfl bxo rfl) ?_
 refine Jq (q_sub rfl rfl (by first | exact IntWalk.i64_in _ (by omega) | rfl)) ?_
 refine Jq (q_field tb rfl rfl rfl) ?_
 refine Jq (q_load tb rfl rfl bxo rfl) ?_
 refine Jq (q_field tb rfl rfl rfl) ?_
 refine Jq (q_load tb rfl rfl bxo rfl) ?_
 refine Jq (q_sub rfl rfl (by first | exact IntWalk.i64_in _ (by omega) | rfl)) ?_
 refine Jq (q_mul rfl rfl (wr (b := (e - d) * (x - q)) rfl (by omega))) ?_
 refine Jq (q_field tb rfl rfl rfl) ?_
 refine Jq (q_load tb rfl rfl bxo rfl) ?_
 refine Jq (q_field tb rfl rfl rfl) ?_
 refine Jq (q_load tb rfl rfl bxo rfl) ?_
 refine Jq (q_sub rfl rfl (by first | exact IntWalk.i64_in _ (by omega) | rfl)) ?_
 refine Jq (q_field tb rfl rfl rfl) ?_
 refine Jq (q_load tb rfl rfl bxo rfl) ?_
 refine Jq (q_field tb rfl rfl rfl) ?_
 refine Jq (q_load tb rfl rfl bxo rfl) ?_
 refine Jq (q_sub rfl rfl (by first | exact IntWalk.i64_in _ (by omega) | rfl)) ?_
 refine Jq (q_mul rfl rfl (wr (b := (f - e) * (q - p)) rfl (by omega))) ?_
 refine Jq (q_eql rfl rfl) ?_
 refine Jq (q_assign rfl) ?_
 refine L_then ?_
 refine C_ret ?_
 exact ret_of (res1 rfl rfl) sub_nil (by intro r hr; cases hr) ⟨rfl, rfl⟩
set_option maxRecDepth 100000 in
set_option maxHeartbeats 1000000 in
theorem ct_slices_Index_shotline_api_Gas_shotline_api_Gas (v : Value) (G : List Gs) (g : Gs) (hle : G.length ≤ 100) : Ct Try.prog 76 [v, .agg (cGs g).toArray] [(v, 2, G.map cGs)] (isV (.int .i64 (if gIx G g < G.length then (gIx G g : Int) else -1))) := by
 refine Ct.of (N := 19) Try.func76 rfl rfl rfl fun w => ?_
 refine C_weak (E' := [(0, v), (1, .agg (cGs g).toArray)]) (rs' := [rd v 2 (G.map cGs)]) ⟨rfl, rfl, trivial⟩ (fun _ h => h) ?_
 have hl := len_map cGs G
 refine C_seq ?_
 refine C_region ?_
 refine L_box rfl rfl rfl fun g3 => ?_
 refine Jq (q_assign rfl) ?_
 refine L_then ?_
 refine C_seq ?_
 refine C_seq ?_
 refine C_region ?_
 refine Jq (q_move rfl) ?_
 refine Jq (q_len tb rfl rfl gvo) ?_
 refine Jq (q_move rfl) ?_
 refine L_then ?_
 refine C_block ?_
 refine C_loop (ι := Nat) (fun k => ([(0, v), (3, .pointer (some ⟨g3, 0, none⟩)), (6, v), (7, .int .i64 (G.map cGs).length), (8, .int .i64 (k : Int))], [box g3 80 (cGs g), rd v 2 (G.map cGs)])) (fun k => k ≤ G.length ∧ gIx G g = k + gIx (G.drop k) g) (fun k => G.length - k) 0 ⟨Nat.zero_le _, (Nat.zero_add _).symm⟩ (fun a w hs => hs.weak ⟨rfl, rfl, rfl, rfl, rfl, trivial⟩ (fun h => h.pk (by repeat (first | with_reducible exact pk_nil | refine pk_box rfl ?_ | refine pk_rd rfl ?_ | refine pk_sl rfl ?_ | with_reducible refine pk_app ?_ | with_reducible refine pk_app0 ?_ | with_reducible refine pk_app0L ?_ | with_reducible exact pk_tl | refine pk_var ?_)))) ?_
 rintro k ⟨hk, hG⟩
 dsimp only at hk hG ⊢
 refine C_seq ?_
 refine C_region ?_
 refine Jq (q_lss rfl rfl) ?_
 refine L_then ?_
 refine C_seq ?_
 refine C_dec rfl (fun h1 => ?_) (fun h1 => ?_)
 obtain ⟨y, hy⟩ := get_some G (k := k) (by omega); have hel := map_get cGs hy; have hdc := drop_cons hy
 refine C_skip_then ?_
 refine C_seq ?_
 refine C_block ?_
 refine C_seq ?_
 refine C_region ?_
 refine Jq (q_move rfl) ?_
 refine Jq (q_assign rfl) ?_
 refine L_then ?_
 refine C_seq ?_
 refine C_draw (n := 6) [(0, false), (1, false), (2, false), (3, false), (4, false), (5, false)] mixed (by kernel_rfl) ?_
 refine Yq rfl (q_loadA tb rfl rfl bxo rfl rfl) ?_
 refine Yq rfl (q_move rfl) ?_
 refine Yq rfl (q_move rfl) ?_
 refine Yq rfl (by first | exact q_index tb rfl rfl rfl rfl gvo (by omega) (by first | omega | (simp; done) | (simp; omega)) | exact q_indexP tb rfl rfl rfl rfl (by omega) (by omega)) ?_
 refine Yq rfl (q_loadEA tb rfl rfl gvo (i := k) (o := 0) (by omega) hel rfl rfl) ?_
 refine Yq rfl (q_eqI (p := sameG y g) (xs := [g.o, g.h]) (ys := [y.o, y.h]) eq80 (by omega) eg80 rfl rfl rfl rfl sameG_l) ?_
 refine W_nil ?_
 refine L_then ?_
 refine C_dec rfl (fun h16 => ?_) (fun h16 => ?_)
 refine C_seq ?_
 refine C_region ?_
 refine Jq (q_move rfl) ?_
 refine Jq (q_assign rfl) ?_
 refine L_then ?_
 refine C_ret ?_
 have e9 : gIx G g = k := hG.trans (by rw [hdc, gIx_y h16]; rfl)
 exact ret_of (res1 rfl rfl) sub_nil (by intro r hr; cases hr) ⟨(congrArg (Value.int .i64) (by rw [e9, if_pos (by omega)])), rfl⟩
 refine C_skip_blk ?_
 refine C_region ?_
 refine Jq (q_add rfl rfl (by first | exact IntWalk.i64_in _ (by omega) | rfl)) ?_
 refine Jq (q_move rfl) ?_
 refine L_end ?_
 exact fun ac_ wo_ hs_ => ⟨k + 1, ⟨by omega, hG.trans (by rw [hdc, gIx_n h16]; omega)⟩, (by dsimp only; omega), hs_.weak ⟨rfl, rfl, rfl, rfl, rfl, trivial⟩ (fun h => h.pk (by repeat (first | with_reducible exact pk_nil | refine pk_box rfl ?_ | refine pk_rd rfl ?_ | refine pk_sl rfl ?_ | with_reducible refine pk_app ?_ | with_reducible refine pk_app0 ?_ | with_reducible refine pk_app0L ?_ | with_reducible exact pk_tl | refine pk_var ?_)))⟩
 have hdn : G.drop k = [] := List.drop_eq_nil_of_le (by omega)
 refine C_exit ?_
 change C Try.prog _ _ _ _ _ _ _
 refine C_seq ?_
 refine C_region ?_
 refine Jq (q_assign rfl) ?_
 refine L_then ?_
 refine C_ret ?_
 exact ret_of (res1 rfl rfl) sub_nil (by intro r hr; cases hr) ⟨(congrArg (Value.int .i64) (by rw [hG, hdn, if_neg (show ¬ k + gIx [] g < G.length by show ¬ k + 0 < G.length; omega)])), rfl⟩
end Go.Proofs.Ytdmnejfpbbmcaaa
