/-
  Walks: each function named returns what its model says. Conditions: those in front of each theorem.
-/
import Derived.Test.YtibohfipgjljhaaDoorGB
import Derived.Test.YtibohfipgjljhaaDoorEqT
namespace Go.Proofs.YtibohfipgjljhaaDoor
open Go.RowKit

set_option maxRecDepth 100000 in
theorem ct_div_step (a b : Nat) (ha : a ≤ 1000000000000000) (hb : b ≤ 1000000000000000) (ih : ∀ b2 : Nat, b2 < b → ∀ a2 : Nat, a2 ≤ 1000000000000000 → Ct Tryd.prog 85 [.int .i64 (a2 : Int), .int .i64 (b2 : Int)] [] (isV (.int .i64 (Nat.gcd a2 b2 : Nat)))) : Ct Tryd.prog 85 [.int .i64 (a : Int), .int .i64 (b : Int)] [] (isV (.int .i64 (Nat.gcd a b : Nat))) := by
  refine Ct.of (N := 13) Tryd.func85 rfl rfl rfl fun w => ?_
  refine C_weak (E' := [(0, .int .i64 (a : Int)), (1, .int .i64 (b : Int))]) (rs' := []) ⟨rfl, rfl, trivial⟩ (fun _ h => h) ?_
  refine C_seq ?_
  refine C_region ?_
  refine L_q rfl rfl rfl (q_assign rfl) ?_
  refine L_then ?_
  refine C_seq ?_
  refine C_seq ?_
  refine C_region ?_
  refine L_q rfl rfl rfl (q_move rfl) ?_
  refine L_q rfl rfl rfl (q_eql rfl rfl) ?_
  refine L_then ?_
  refine C_dec rfl (fun h0 => ?_) (fun h0 => ?_)
  · -- t6 True
    refine C_seq ?_
    refine C_region ?_
    refine L_q rfl rfl rfl (q_move rfl) ?_
    refine L_q rfl rfl rfl (q_assign rfl) ?_
    refine L_then ?_
    refine C_ret ?_
    obtain rfl : b = 0 := by omega
    exact ret_of (res1 rfl rfl) sub_nil (by intro r hr; cases hr) ⟨(congrArg (Value.int .i64) (by rw [Nat.gcd_zero_right])), rfl⟩
  · -- t6 False
    have hm2 := Nat.mod_lt a (show 0 < b by omega)
    refine C_skip_then ?_
    refine C_seq ?_
    refine C_region ?_
    refine L_q rfl rfl rfl (q_move rfl) ?_
    refine L_q rfl rfl rfl (q_move rfl) ?_
    refine L_q rfl rfl rfl (q_move rfl) ?_
    refine L_q rfl rfl rfl (q_rem rfl rfl (by omega) (by first | exact IntWalk.rem_in _ _ (by omega) | rfl)) ?_
    refine L_call tb rfl rfl (ih (a % b) (by omega) b (by omega)) no_ps rfl ?_
    refine L_q rfl rfl rfl (q_assign rfl) ?_
    refine L_then ?_
    refine C_ret ?_
    exact ret_of (res1 rfl rfl) sub_nil (by intro r hr; cases hr) ⟨(congrArg (Value.int .i64) (by rw [gcd_step])), rfl⟩
theorem ct_gas_divisor : ∀ (b a : Nat), b ≤ 1000000000000000 → a ≤ 1000000000000000 → Ct Tryd.prog 85 [.int .i64 (a : Int), .int .i64 (b : Int)] [] (isV (.int .i64 (Nat.gcd a b : Nat))) := by
  intro b
  induction b using Nat.strongRecOn with
  | ind b ih => exact fun a hb ha => ct_div_step a b ha hb (fun b2 h2 a2 h3 => ih b2 h2 a2 (by omega) h3)
theorem ct_dv_0 : Ct Tryd.prog 85 [.int .i64 1630000, .int .i64 4000000] [] (isV (.int .i64 10000)) := ct_gas_divisor 4000000 1630000 (by decide) (by decide)
theorem ct_dv_1 : Ct Tryd.prog 85 [.int .i64 0, .int .i64 4000000] [] (isV (.int .i64 4000000)) := ct_gas_divisor 4000000 0 (by decide) (by decide)
theorem ct_dv_2 : Ct Tryd.prog 85 [.int .i64 2370000, .int .i64 4000000] [] (isV (.int .i64 10000)) := ct_gas_divisor 4000000 2370000 (by decide) (by decide)

set_option maxRecDepth 100000 in
set_option maxHeartbeats 1000000 in
theorem ct_gas_sumOf (v : Value) (l : List Gp) (hok : ∀ x ∈ l, okGp x) (hle : l.length ≤ 12) : Ct Tryd.prog 84 [v] [(v, 3, l.map cGp)] (isV (.agg (smC l l.length).toArray)) := by
  refine Ct.of (N := 41) Tryd.func84 rfl rfl rfl fun w => ?_
  refine C_weak (E' := [(0, v)]) (rs' := [rd v 3 (l.map cGp)]) ⟨rfl, trivial⟩ (fun _ h => h) ?_
  have hl1 := len_map cGp l
  refine C_seq ?_
  refine C_region ?_
  refine L_alloc tb rfl rfl fun g2 => ?_
  refine L_then ?_
  refine C_seq ?_
  refine C_region ?_
  refine L_alloc tb rfl rfl fun g3 => ?_
  refine L_then ?_
  refine C_seq ?_
  refine C_seq ?_
  refine C_region ?_
  refine L_q rfl rfl rfl (q_move rfl) ?_
  refine L_q rfl rfl rfl (q_len tb rfl rfl (by first | exact gvo | exact gvd gvo (by omega))) ?_
  refine L_q rfl rfl rfl (q_move rfl) ?_
  refine L_then ?_
  refine C_block ?_
  refine C_loop (ι := Nat) (fun k => ([(2, .pointer (some ⟨g2, 0, none⟩)), (3, .pointer (some ⟨g3, 0, none⟩)), (8, v), (9, .int .i64 (l.map cGp).length), (10, .int .i64 (k : Int))], [box g3 118 (smC l k), box g2 118 [.int .i64 0, .int .i64 0, .int .i64 0, .int .i64 0], rd v 3 (l.map cGp)])) (fun k => k ≤ l.length) (fun k => l.length - k) 0 (Nat.zero_le _) (fun a w hs => hs.weak ⟨rfl, rfl, rfl, rfl, rfl, trivial⟩ (fun h => h.pk (by repeat (first | with_reducible exact pk_nil | refine pk_box rfl ?_ | refine pk_rd rfl ?_ | refine pk_sl rfl ?_ | with_reducible refine pk_app ?_ | with_reducible refine pk_app0 ?_ | with_reducible refine pk_app0L ?_ | with_reducible exact pk_tl | refine pk_var ?_)))) ?_
  intro k hk
  dsimp only at hk ⊢
  refine C_seq ?_
  refine C_region ?_
  refine L_q rfl rfl rfl (q_lss rfl rfl) ?_
  refine L_then ?_
  refine C_seq ?_
  refine C_dec rfl (fun h1 => ?_) (fun h1 => ?_)
  · -- t11 True
    obtain ⟨x, hx⟩ := get_some l (k := k) (by omega); have hel := map_get cGp hx; obtain ⟨hxg, hx0, hx1⟩ := hok x (List.mem_of_getElem? hx); have hxk := ckGas_ok hxg; have hgx := gpAt_get hx
    obtain ⟨hs1, hs2, hs3, hs4⟩ := sm_in hok k (by omega); obtain ⟨hu1, hu2, hu3, hu4⟩ := sm_in hok (k + 1) (by omega)
    have hp1 := mulB (a := x.o) (b := x.a) (A := 1000) (B := 1000000000) (by omega) (by omega); have hp2 := mulB (a := x.h) (b := x.a) (A := 1000) (B := 1000000000) (by omega) (by omega); have hp3 := mulB (a := 1000 - x.o - x.h) (b := x.a) (A := 1000) (B := 1000000000) (by omega) (by omega)
    have hea : smA l (k + 1) = smA l k + x.a := by show _ + (gpAt l k).a = _; rw [hgx]
    have heo : smO l (k + 1) = smO l k + x.o * x.a := by show _ + (gpAt l k).o * (gpAt l k).a = _; rw [hgx]
    have heh : smH l (k + 1) = smH l k + x.h * x.a := by show _ + (gpAt l k).h * (gpAt l k).a = _; rw [hgx]
    have hen : smN l (k + 1) = smN l k + (1000 - x.o - x.h) * x.a := by show _ + (1000 - (gpAt l k).o - (gpAt l k).h) * (gpAt l k).a = _; rw [hgx]
    refine C_skip_then ?_
    refine C_seq ?_
    refine C_block ?_
    refine C_seq ?_
    refine C_region ?_
    refine L_q rfl rfl rfl (by first | exact q_index tb rfl rfl rfl rfl (by first | exact gvo | exact gvd gvo (by omega)) (by omega) (by first | omega | (simp; done) | (simp; omega)) | exact q_indexP tb rfl rfl rfl rfl (by omega) (by omega)) ?_
    refine L_q rfl rfl rfl (q_loadEA tb rfl rfl (by first | exact gvo | exact gvd gvo (by omega)) (i := k) (o := 0) (by omega) hel rfl rfl) ?_
    refine L_alloc tb rfl rfl fun g5 => ?_
    first | refine L_store tb rfl rfl rfl rfl rfl rfl rfl rfl ?_ | (refine L_front1 ?_; refine L_store tb rfl rfl rfl rfl rfl rfl rfl rfl ?_) | (refine L_front2 ?_; refine L_store tb rfl rfl rfl rfl rfl rfl rfl rfl ?_) | (refine L_front3 ?_; refine L_store tb rfl rfl rfl rfl rfl rfl rfl rfl ?_) | (refine L_front4 ?_; refine L_store tb rfl rfl rfl rfl rfl rfl rfl rfl ?_) | (refine L_front5 ?_; refine L_store tb rfl rfl rfl rfl rfl rfl rfl rfl ?_) | (refine L_front6 ?_; refine L_store tb rfl rfl rfl rfl rfl rfl rfl rfl ?_)
    refine L_then ?_
    refine C_seq ?_
    refine C_region ?_
    refine L_q rfl rfl rfl (q_field tb rfl rfl rfl) ?_
    refine L_q rfl rfl rfl (q_load tb rfl rfl bxo rfl) ?_
    refine L_q rfl rfl rfl (q_field tb rfl rfl rfl) ?_
    refine L_q rfl rfl rfl (q_load tb rfl rfl bxo rfl) ?_
    refine L_q rfl rfl rfl (q_add rfl rfl (by first | exact IntWalk.i64_in _ (by omega) | rfl)) ?_
    refine L_q rfl rfl rfl (q_field tb rfl rfl rfl) ?_
    first | refine L_store tb rfl rfl rfl rfl rfl rfl rfl rfl ?_ | (refine L_front1 ?_; refine L_store tb rfl rfl rfl rfl rfl rfl rfl rfl ?_) | (refine L_front2 ?_; refine L_store tb rfl rfl rfl rfl rfl rfl rfl rfl ?_) | (refine L_front3 ?_; refine L_store tb rfl rfl rfl rfl rfl rfl rfl rfl ?_) | (refine L_front4 ?_; refine L_store tb rfl rfl rfl rfl rfl rfl rfl rfl ?_) | (refine L_front5 ?_; refine L_store tb rfl rfl rfl rfl rfl rfl rfl rfl ?_) | (refine L_front6 ?_; refine L_store tb rfl rfl rfl rfl rfl rfl rfl rfl ?_)
    refine L_then ?_
    refine C_seq ?_
    rw [← hea]
    refine C_res (rs' := [box g3 118 (smK l k 0), box g5 57 (cGp x), box g2 118 [.int .i64 0, .int .i64 0, .int .i64 0, .int .i64 0], rd v 3 (l.map cGp)]) (fun _ h => h.pk (by repeat (first | with_reducible exact pk_nil | refine pk_box rfl ?_ | refine pk_rd rfl ?_ | refine pk_sl rfl ?_ | with_reducible refine pk_app ?_ | with_reducible refine pk_app0 ?_ | with_reducible refine pk_app0L ?_ | with_reducible exact pk_tl | refine pk_var ?_))) ?_
    refine C_region ?_
    refine L_q rfl rfl rfl (q_field tb rfl rfl rfl) ?_
    refine L_q rfl rfl rfl (q_loadA tb rfl rfl bxo rfl rfl) ?_
    refine L_call tb rfl rfl (ct_gas_parts ⟨x.o, x.h⟩ (by dsimp only; omega)) no_ps rfl ?_
    refine L_q rfl rfl rfl (q_move rfl) ?_
    refine L_then ?_
    refine C_block ?_
    refine C_loop (ι := Nat) (fun j => ([(2, .pointer (some ⟨g2, 0, none⟩)), (3, .pointer (some ⟨g3, 0, none⟩)), (8, v), (9, .int .i64 (l.map cGp).length), (10, .int .i64 (k : Int)), (5, .pointer (some ⟨g5, 0, none⟩)), (22, .agg #[.int .i64 x.o, .int .i64 x.h, .int .i64 (1000 - x.o - x.h)]), (23, .int .i64 (j : Int))], [box g3 118 (smK l k j), box g5 57 (cGp x), box g2 118 [.int .i64 0, .int .i64 0, .int .i64 0, .int .i64 0], rd v 3 (l.map cGp)])) (fun j => j ≤ 3) (fun j => 3 - j) 0 (Nat.zero_le _) (fun a w hs => hs.weak ⟨rfl, rfl, rfl, rfl, rfl, rfl, rfl, rfl, trivial⟩ (fun h => h.pk (by repeat (first | with_reducible exact pk_nil | refine pk_box rfl ?_ | refine pk_rd rfl ?_ | refine pk_sl rfl ?_ | with_reducible refine pk_app ?_ | with_reducible refine pk_app0 ?_ | with_reducible refine pk_app0L ?_ | with_reducible exact pk_tl | refine pk_var ?_)))) ?_
    intro j hj
    dsimp only at hj ⊢
    refine C_seq ?_
    refine C_region ?_
    refine L_q rfl rfl rfl (q_lss rfl rfl) ?_
    refine L_then ?_
    refine C_seq ?_
    refine C_dec rfl (fun h2 => ?_) (fun h2 => ?_)
    · -- t24 True
      obtain rfl | rfl | rfl : j = 0 ∨ j = 1 ∨ j = 2 := by omega
      · -- case 0
        refine C_skip_then ?_
        refine C_seq ?_
        refine C_block ?_
        refine C_seq ?_
        refine C_region ?_
        refine L_q rfl rfl rfl (q_move rfl) ?_
        refine L_q rfl rfl rfl (q_indexV tb rfl rfl rfl rfl (by omega) (by omega) rfl) ?_
        refine L_q rfl rfl rfl (q_assign rfl) ?_
        refine L_q rfl rfl rfl (q_assign rfl) ?_
        refine L_then ?_
        refine C_draw (n := 11) [(0, false), (1, false), (2, false), (3, false), (4, false), (5, false), (6, false), (7, false), (8, false), (9, false), (10, false)] mixed (by kernel_rfl) ?_
        refine W_q rfl rfl rfl rfl (q_move rfl) ?_
        refine W_q rfl rfl rfl rfl (q_field tb rfl rfl rfl) ?_
        refine W_q rfl rfl rfl rfl (by first | exact q_index tb rfl rfl rfl rfl (by first | exact gvo | exact gvd gvo (by omega)) (by omega) (by first | omega | (simp; done) | (simp; omega)) | exact q_indexP tb rfl rfl rfl rfl (by omega) (by omega)) ?_
        refine W_q rfl rfl rfl rfl (by first | exact q_load tb rfl rfl bxo rfl | exact q_loadE tb rfl rfl (by first | exact gvo | exact gvd gvo (by omega)) (by omega) (by simp) rfl) ?_
        refine W_q rfl rfl rfl rfl (q_move rfl) ?_
        refine W_q rfl rfl rfl rfl (q_field tb rfl rfl rfl) ?_
        refine W_q rfl rfl rfl rfl (q_load tb rfl rfl bxo rfl) ?_
        refine W_q rfl rfl rfl rfl (q_mul rfl rfl (by first | exact IntWalk.i64_in _ (by omega) | rfl)) ?_
        refine W_q rfl rfl rfl rfl (q_add rfl rfl (by first | exact IntWalk.i64_in _ (by omega) | rfl)) ?_
        refine W_q rfl rfl rfl rfl (q_field tb rfl rfl rfl) ?_
        refine W_q rfl rfl rfl rfl (by first | exact q_index tb rfl rfl rfl rfl (by first | exact gvo | exact gvd gvo (by omega)) (by omega) (by first | omega | (simp; done) | (simp; omega)) | exact q_indexP tb rfl rfl rfl rfl (by omega) (by omega)) ?_
        refine W_nil ?_
        first | refine L_store tb rfl rfl rfl rfl rfl rfl rfl rfl ?_ | (refine L_front1 ?_; refine L_store tb rfl rfl rfl rfl rfl rfl rfl rfl ?_) | (refine L_front2 ?_; refine L_store tb rfl rfl rfl rfl rfl rfl rfl rfl ?_) | (refine L_front3 ?_; refine L_store tb rfl rfl rfl rfl rfl rfl rfl rfl ?_) | (refine L_front4 ?_; refine L_store tb rfl rfl rfl rfl rfl rfl rfl rfl ?_) | (refine L_front5 ?_; refine L_store tb rfl rfl rfl rfl rfl rfl rfl rfl ?_) | (refine L_front6 ?_; refine L_store tb rfl rfl rfl rfl rfl rfl rfl rfl ?_)
        refine L_blk ?_
        refine C_region ?_
        refine L_q rfl rfl rfl (q_add rfl rfl (by first | exact IntWalk.i64_in _ (by omega) | rfl)) ?_
        refine L_q rfl rfl rfl (q_move rfl) ?_
        refine L_end ?_
        rw [← heo]
        exact fun ac_ wo_ hs_ => ⟨1, (by decide), (by decide), hs_.weak ⟨rfl, rfl, rfl, rfl, rfl, rfl, rfl, rfl, trivial⟩ (fun h => h.pk (by repeat (first | with_reducible exact pk_nil | refine pk_box rfl ?_ | refine pk_rd rfl ?_ | refine pk_sl rfl ?_ | with_reducible refine pk_app ?_ | with_reducible refine pk_app0 ?_ | with_reducible refine pk_app0L ?_ | with_reducible exact pk_tl | refine pk_var ?_)))⟩
      · -- case 1
        refine C_skip_then ?_
        refine C_seq ?_
        refine C_block ?_
        refine C_seq ?_
        refine C_region ?_
        refine L_q rfl rfl rfl (q_move rfl) ?_
        refine L_q rfl rfl rfl (q_indexV tb rfl rfl rfl rfl (by omega) (by omega) rfl) ?_
        refine L_q rfl rfl rfl (q_assign rfl) ?_
        refine L_q rfl rfl rfl (q_assign rfl) ?_
        refine L_then ?_
        refine C_draw (n := 11) [(0, false), (1, false), (2, false), (3, false), (4, false), (5, false), (6, false), (7, false), (8, false), (9, false), (10, false)] mixed (by kernel_rfl) ?_
        refine W_q rfl rfl rfl rfl (q_move rfl) ?_
        refine W_q rfl rfl rfl rfl (q_field tb rfl rfl rfl) ?_
        refine W_q rfl rfl rfl rfl (by first | exact q_index tb rfl rfl rfl rfl (by first | exact gvo | exact gvd gvo (by omega)) (by omega) (by first | omega | (simp; done) | (simp; omega)) | exact q_indexP tb rfl rfl rfl rfl (by omega) (by omega)) ?_
        refine W_q rfl rfl rfl rfl (by first | exact q_load tb rfl rfl bxo rfl | exact q_loadE tb rfl rfl (by first | exact gvo | exact gvd gvo (by omega)) (by omega) (by simp) rfl) ?_
        refine W_q rfl rfl rfl rfl (q_move rfl) ?_
        refine W_q rfl rfl rfl rfl (q_field tb rfl rfl rfl) ?_
        refine W_q rfl rfl rfl rfl (q_load tb rfl rfl bxo rfl) ?_
        refine W_q rfl rfl rfl rfl (q_mul rfl rfl (by first | exact IntWalk.i64_in _ (by omega) | rfl)) ?_
        refine W_q rfl rfl rfl rfl (q_add rfl rfl (by first | exact IntWalk.i64_in _ (by omega) | rfl)) ?_
        refine W_q rfl rfl rfl rfl (q_field tb rfl rfl rfl) ?_
        refine W_q rfl rfl rfl rfl (by first | exact q_index tb rfl rfl rfl rfl (by first | exact gvo | exact gvd gvo (by omega)) (by omega) (by first | omega | (simp; done) | (simp; omega)) | exact q_indexP tb rfl rfl rfl rfl (by omega) (by omega)) ?_
        refine W_nil ?_
        first | refine L_store tb rfl rfl rfl rfl rfl rfl rfl rfl ?_ | (refine L_front1 ?_; refine L_store tb rfl rfl rfl rfl rfl rfl rfl rfl ?_) | (refine L_front2 ?_; refine L_store tb rfl rfl rfl rfl rfl rfl rfl rfl ?_) | (refine L_front3 ?_; refine L_store tb rfl rfl rfl rfl rfl rfl rfl rfl ?_) | (refine L_front4 ?_; refine L_store tb rfl rfl rfl rfl rfl rfl rfl rfl ?_) | (refine L_front5 ?_; refine L_store tb rfl rfl rfl rfl rfl rfl rfl rfl ?_) | (refine L_front6 ?_; refine L_store tb rfl rfl rfl rfl rfl rfl rfl rfl ?_)
        refine L_blk ?_
        refine C_region ?_
        refine L_q rfl rfl rfl (q_add rfl rfl (by first | exact IntWalk.i64_in _ (by omega) | rfl)) ?_
        refine L_q rfl rfl rfl (q_move rfl) ?_
        refine L_end ?_
        rw [← heh]
        exact fun ac_ wo_ hs_ => ⟨2, (by decide), (by decide), hs_.weak ⟨rfl, rfl, rfl, rfl, rfl, rfl, rfl, rfl, trivial⟩ (fun h => h.pk (by repeat (first | with_reducible exact pk_nil | refine pk_box rfl ?_ | refine pk_rd rfl ?_ | refine pk_sl rfl ?_ | with_reducible refine pk_app ?_ | with_reducible refine pk_app0 ?_ | with_reducible refine pk_app0L ?_ | with_reducible exact pk_tl | refine pk_var ?_)))⟩
      · -- case 2
        refine C_skip_then ?_
        refine C_seq ?_
        refine C_block ?_
        refine C_seq ?_
        refine C_region ?_
        refine L_q rfl rfl rfl (q_move rfl) ?_
        refine L_q rfl rfl rfl (q_indexV tb rfl rfl rfl rfl (by omega) (by omega) rfl) ?_
        refine L_q rfl rfl rfl (q_assign rfl) ?_
        refine L_q rfl rfl rfl (q_assign rfl) ?_
        refine L_then ?_
        refine C_draw (n := 11) [(0, false), (1, false), (2, false), (3, false), (4, false), (5, false), (6, false), (7, false), (8, false), (9, false), (10, false)] mixed (by kernel_rfl) ?_
        refine W_q rfl rfl rfl rfl (q_move rfl) ?_
        refine W_q rfl rfl rfl rfl (q_field tb rfl rfl rfl) ?_
        refine W_q rfl rfl rfl rfl (by first | exact q_index tb rfl rfl rfl rfl (by first | exact gvo | exact gvd gvo (by omega)) (by omega) (by first | omega | (simp; done) | (simp; omega)) | exact q_indexP tb rfl rfl rfl rfl (by omega) (by omega)) ?_
        refine W_q rfl rfl rfl rfl (by first | exact q_load tb rfl rfl bxo rfl | exact q_loadE tb rfl rfl (by first | exact gvo | exact gvd gvo (by omega)) (by omega) (by simp) rfl) ?_
        refine W_q rfl rfl rfl rfl (q_move rfl) ?_
        refine W_q rfl rfl rfl rfl (q_field tb rfl rfl rfl) ?_
        refine W_q rfl rfl rfl rfl (q_load tb rfl rfl bxo rfl) ?_
        refine W_q rfl rfl rfl rfl (q_mul rfl rfl (by first | exact IntWalk.i64_in _ (by omega) | rfl)) ?_
        refine W_q rfl rfl rfl rfl (q_add rfl rfl (by first | exact IntWalk.i64_in _ (by omega) | rfl)) ?_
        refine W_q rfl rfl rfl rfl (q_field tb rfl rfl rfl) ?_
        refine W_q rfl rfl rfl rfl (by first | exact q_index tb rfl rfl rfl rfl (by first | exact gvo | exact gvd gvo (by omega)) (by omega) (by first | omega | (simp; done) | (simp; omega)) | exact q_indexP tb rfl rfl rfl rfl (by omega) (by omega)) ?_
        refine W_nil ?_
        first | refine L_store tb rfl rfl rfl rfl rfl rfl rfl rfl ?_ | (refine L_front1 ?_; refine L_store tb rfl rfl rfl rfl rfl rfl rfl rfl ?_) | (refine L_front2 ?_; refine L_store tb rfl rfl rfl rfl rfl rfl rfl rfl ?_) | (refine L_front3 ?_; refine L_store tb rfl rfl rfl rfl rfl rfl rfl rfl ?_) | (refine L_front4 ?_; refine L_store tb rfl rfl rfl rfl rfl rfl rfl rfl ?_) | (refine L_front5 ?_; refine L_store tb rfl rfl rfl rfl rfl rfl rfl rfl ?_) | (refine L_front6 ?_; refine L_store tb rfl rfl rfl rfl rfl rfl rfl rfl ?_)
        refine L_blk ?_
        refine C_region ?_
        refine L_q rfl rfl rfl (q_add rfl rfl (by first | exact IntWalk.i64_in _ (by omega) | rfl)) ?_
        refine L_q rfl rfl rfl (q_move rfl) ?_
        refine L_end ?_
        rw [← hen]
        exact fun ac_ wo_ hs_ => ⟨3, (by decide), (by decide), hs_.weak ⟨rfl, rfl, rfl, rfl, rfl, rfl, rfl, rfl, trivial⟩ (fun h => h.pk (by repeat (first | with_reducible exact pk_nil | refine pk_box rfl ?_ | refine pk_rd rfl ?_ | refine pk_sl rfl ?_ | with_reducible refine pk_app ?_ | with_reducible refine pk_app0 ?_ | with_reducible refine pk_app0L ?_ | with_reducible exact pk_tl | refine pk_var ?_)))⟩
    · -- t24 False
      obtain rfl : j = 3 := by omega
      refine C_exit ?_
      change C Tryd.prog _ _ _ _ _ _ _
      refine C_region ?_
      refine L_q rfl rfl rfl (q_add rfl rfl (by first | exact IntWalk.i64_in _ (by omega) | rfl)) ?_
      refine L_q rfl rfl rfl (q_move rfl) ?_
      refine L_end ?_
      exact fun ac_ wo_ hs_ => ⟨k + 1, (by dsimp only; omega), (by dsimp only; omega), hs_.weak ⟨rfl, rfl, rfl, rfl, rfl, trivial⟩ (fun h => h.pk (by repeat (first | with_reducible exact pk_nil | refine pk_box rfl ?_ | refine pk_rd rfl ?_ | refine pk_sl rfl ?_ | with_reducible refine pk_app ?_ | with_reducible refine pk_app0 ?_ | with_reducible refine pk_app0L ?_ | with_reducible exact pk_tl | refine pk_var ?_)))⟩
  · -- t11 False
    refine C_exit ?_
    change C Tryd.prog _ _ _ _ _ _ _
    refine C_seq ?_
    refine C_region ?_
    refine L_q rfl rfl rfl (q_loadA tb rfl rfl bxo rfl rfl) ?_
    first | refine L_store tb rfl rfl rfl rfl rfl rfl rfl rfl ?_ | (refine L_front1 ?_; refine L_store tb rfl rfl rfl rfl rfl rfl rfl rfl ?_) | (refine L_front2 ?_; refine L_store tb rfl rfl rfl rfl rfl rfl rfl rfl ?_) | (refine L_front3 ?_; refine L_store tb rfl rfl rfl rfl rfl rfl rfl rfl ?_) | (refine L_front4 ?_; refine L_store tb rfl rfl rfl rfl rfl rfl rfl rfl ?_) | (refine L_front5 ?_; refine L_store tb rfl rfl rfl rfl rfl rfl rfl rfl ?_) | (refine L_front6 ?_; refine L_store tb rfl rfl rfl rfl rfl rfl rfl rfl ?_)
    refine L_then ?_
    refine C_ret ?_
    obtain rfl : k = l.length := by omega
    exact ret_of (resC tb rfl rfl rfl bxo rfl) sub_nil (by intro r hr; cases hr) ⟨rfl, rfl⟩
set_option maxRecDepth 100000 in
set_option maxHeartbeats 1000000 in
theorem ct_gas_CheckParts (v : Value) (l : List Gp) (hok : ∀ x ∈ l, okGp x) (hle : l.length ≤ 12) (hz : smA l l.length ≠ 0) : Ct Tryd.prog 36 [v] [(v, 3, l.map cGp)] (isV (.int .i64 0)) := by
  refine Ct.of (N := 31) Tryd.func36 rfl rfl rfl fun w => ?_
  refine C_weak (E' := [(0, v)]) (rs' := [rd v 3 (l.map cGp)]) ⟨rfl, trivial⟩ (fun _ h => h) ?_
  have hl1 := len_map cGp l
  refine C_seq ?_
  refine C_region ?_
  refine L_q rfl rfl rfl (q_assign rfl) ?_
  refine L_then ?_
  refine C_seq ?_
  refine C_seq ?_
  refine C_region ?_
  refine L_q rfl rfl rfl (q_move rfl) ?_
  refine L_q rfl rfl rfl (q_len tb rfl rfl (by first | exact gvo | exact gvd gvo (by omega))) ?_
  refine L_q rfl rfl rfl (q_gtr rfl rfl) ?_
  refine L_then ?_
  refine C_dec rfl (fun h1 => ?_) (fun h1 => ?_)
  · -- t8 True
    exfalso; omega
  · -- t8 False
    refine C_skip_then ?_
    refine C_seq ?_
    refine C_seq ?_
    refine C_region ?_
    refine L_q rfl rfl rfl (q_move rfl) ?_
    refine L_q rfl rfl rfl (q_len tb rfl rfl (by first | exact gvo | exact gvd gvo (by omega))) ?_
    refine L_q rfl rfl rfl (q_move rfl) ?_
    refine L_then ?_
    refine C_block ?_
    refine C_loop (ι := Nat) (fun k => ([(0, v), (9, v), (10, .int .i64 (l.map cGp).length), (11, .int .i64 (k : Int))], [rd v 3 (l.map cGp)])) (fun k => k ≤ l.length) (fun k => l.length - k) 0 (Nat.zero_le _) (fun a w hs => hs.weak ⟨rfl, rfl, rfl, rfl, trivial⟩ (fun h => h.pk (by repeat (first | with_reducible exact pk_nil | refine pk_box rfl ?_ | refine pk_rd rfl ?_ | refine pk_sl rfl ?_ | with_reducible refine pk_app ?_ | with_reducible refine pk_app0 ?_ | with_reducible refine pk_app0L ?_ | with_reducible exact pk_tl | refine pk_var ?_)))) ?_
    intro k hk
    dsimp only at hk ⊢
    refine C_seq ?_
    refine C_region ?_
    refine L_q rfl rfl rfl (q_lss rfl rfl) ?_
    refine L_then ?_
    refine C_seq ?_
    refine C_dec rfl (fun h2 => ?_) (fun h2 => ?_)
    · -- t12 True
      obtain ⟨x, hx⟩ := get_some l (k := k) (by omega); have hel := map_get cGp hx; obtain ⟨hxg, hx0, hx1⟩ := hok x (List.mem_of_getElem? hx)
      have hfe : firstE [ckGas x.o x.h, if 0 ≤ x.a ∧ x.a ≤ 1000000000 then 0 else 2] = 0 := by rw [hxg, if_pos ⟨hx0, hx1⟩]; rfl
      refine C_skip_then ?_
      refine C_seq ?_
      refine C_block ?_
      refine C_seq ?_
      refine C_region ?_
      refine L_q rfl rfl rfl (by first | exact q_index tb rfl rfl rfl rfl (by first | exact gvo | exact gvd gvo (by omega)) (by omega) (by first | omega | (simp; done) | (simp; omega)) | exact q_indexP tb rfl rfl rfl rfl (by omega) (by omega)) ?_
      refine L_q rfl rfl rfl (q_loadEA tb rfl rfl (by first | exact gvo | exact gvd gvo (by omega)) (i := k) (o := 0) (by omega) hel rfl rfl) ?_
      refine L_alloc tb rfl rfl fun g4 => ?_
      first | refine L_store tb rfl rfl rfl rfl rfl rfl rfl rfl ?_ | (refine L_front1 ?_; refine L_store tb rfl rfl rfl rfl rfl rfl rfl rfl ?_) | (refine L_front2 ?_; refine L_store tb rfl rfl rfl rfl rfl rfl rfl rfl ?_) | (refine L_front3 ?_; refine L_store tb rfl rfl rfl rfl rfl rfl rfl rfl ?_) | (refine L_front4 ?_; refine L_store tb rfl rfl rfl rfl rfl rfl rfl rfl ?_) | (refine L_front5 ?_; refine L_store tb rfl rfl rfl rfl rfl rfl rfl rfl ?_) | (refine L_front6 ?_; refine L_store tb rfl rfl rfl rfl rfl rfl rfl rfl ?_)
      refine L_then ?_
      refine C_seq ?_
      refine C_draw (n := 8) [(0, false), (1, false), (3, false), (4, false), (2, true), (5, true), (6, true), (7, true)] mixed (by kernel_rfl) ?_
      refine W_q rfl rfl rfl rfl (q_field tb rfl rfl rfl) ?_
      refine W_q rfl rfl rfl rfl (q_loadA tb rfl rfl bxo rfl rfl) ?_
      refine W_q rfl rfl rfl rfl (q_field tb rfl rfl rfl) ?_
      refine W_q rfl rfl rfl rfl (q_load tb rfl rfl bxo rfl) ?_
      refine W_call tb rfl rfl rfl rfl (ct_gas_CheckGas x.o x.h) no_ps rfl ?_
      refine W_call tb rfl rfl rfl rfl (ct_gas_bound _ _ _) no_ps rfl ?_
      refine W_mk rfl (lo_bslice tb rfl rfl rfl (xs := [[_], [_]]) rfl rfl (by simp) rfl (by omega) rfl) rfl rfl rfl fun v21 => ?_
      refine W_call tb rfl rfl rfl rfl (ct_gas_first _ [_, _] (by simp)) (ps_cons (by first | exact gvo | exact gvd gvo (by omega)) no_ps) rfl ?_
      refine W_nil ?_
      rw [hfe]
      refine L_q rfl rfl rfl (q_assign rfl) ?_
      refine L_then ?_
      refine C_seq ?_
      refine C_region ?_
      refine L_q rfl rfl rfl (q_move rfl) ?_
      refine L_q rfl rfl rfl (q_false (q_neq rfl rfl) (by simp)) ?_
      refine L_then ?_
      refine C_false rfl ?_
      refine C_skip_blk ?_
      refine C_region ?_
      refine L_q rfl rfl rfl (q_add rfl rfl (by first | exact IntWalk.i64_in _ (by omega) | rfl)) ?_
      refine L_q rfl rfl rfl (q_move rfl) ?_
      refine L_end ?_
      exact fun ac_ wo_ hs_ => ⟨k + 1, (by dsimp only; omega), (by dsimp only; omega), hs_.weak ⟨rfl, rfl, rfl, rfl, trivial⟩ (fun h => h.pk (by repeat (first | with_reducible exact pk_nil | refine pk_box rfl ?_ | refine pk_rd rfl ?_ | refine pk_sl rfl ?_ | with_reducible refine pk_app ?_ | with_reducible refine pk_app0 ?_ | with_reducible refine pk_app0L ?_ | with_reducible exact pk_tl | refine pk_var ?_)))⟩
    · -- t12 False
      refine C_exit ?_
      change C Tryd.prog _ _ _ _ _ _ _
      refine C_seq ?_
      refine C_seq ?_
      refine C_region ?_
      refine L_q rfl rfl rfl (q_move rfl) ?_
      refine L_call tb rfl rfl (ct_gas_sumOf v l hok hle) (ps_cons (by first | exact gvo | exact gvd gvo (by omega)) no_ps) rfl ?_
      refine L_q rfl rfl rfl (by first | exact q_fieldV (off := 0) (sz := 1) (by kernel_rfl) rfl rfl | exact q_fieldVA (off := 0) (sz := 1) (by kernel_rfl) rfl rfl) ?_
      refine L_q rfl rfl rfl (q_eql rfl rfl) ?_
      refine L_then ?_
      refine C_dec rfl (fun h30 => ?_) (fun h30 => ?_)
      · -- t30 True
        exact absurd h30 hz
      · -- t30 False
        refine C_skip_then ?_
        refine C_seq ?_
        refine C_region ?_
        refine L_q rfl rfl rfl (q_assign rfl) ?_
        refine L_then ?_
        refine C_ret ?_
        exact ret_of (res1 rfl rfl) sub_nil (by intro r hr; cases hr) ⟨rfl, rfl⟩
set_option maxRecDepth 100000 in
set_option maxHeartbeats 1000000 in
theorem ct_gas_Mixed (v : Value) : Ct Tryd.prog 29 [v] [(v, 3, exL.map cGp)] (isV (.tuple #[.agg (mxK 3).toArray, .int .i64 0])) := by
  refine Ct.of (N := 55) Tryd.func29 rfl rfl rfl fun w => ?_
  refine C_weak (E' := [(0, v)]) (rs' := [rd v 3 (exL.map cGp)]) ⟨rfl, trivial⟩ (fun _ h => h) ?_
  refine C_seq ?_
  refine C_region ?_
  refine L_alloc tb rfl rfl fun g2 => ?_
  refine L_q rfl rfl rfl (q_assign rfl) ?_
  refine L_then ?_
  refine C_seq ?_
  refine C_seq ?_
  refine C_region ?_
  refine L_q rfl rfl rfl (q_move rfl) ?_
  refine L_call tb rfl rfl (ct_gas_CheckParts v exL exL_ok (by decide) (by decide)) (ps_cons (by first | exact gvo | exact gvd gvo (by omega)) no_ps) rfl ?_
  refine L_q rfl rfl rfl (q_assign rfl) ?_
  refine L_then ?_
  refine C_seq ?_
  refine C_region ?_
  refine L_q rfl rfl rfl (q_move rfl) ?_
  refine L_q rfl rfl rfl (q_false (q_neq rfl rfl) (by simp)) ?_
  refine L_then ?_
  refine C_false rfl ?_
  refine C_skip_then ?_
  refine C_seq ?_
  refine C_region ?_
  refine L_q rfl rfl rfl (q_move rfl) ?_
  refine L_call tb rfl rfl (ct_gas_sumOf v exL exL_ok (by decide)) (ps_cons (by first | exact gvo | exact gvd gvo (by omega)) no_ps) rfl ?_
  refine L_alloc tb rfl rfl fun g5 => ?_
  first | refine L_store tb rfl rfl rfl rfl rfl rfl rfl rfl ?_ | (refine L_front1 ?_; refine L_store tb rfl rfl rfl rfl rfl rfl rfl rfl ?_) | (refine L_front2 ?_; refine L_store tb rfl rfl rfl rfl rfl rfl rfl rfl ?_) | (refine L_front3 ?_; refine L_store tb rfl rfl rfl rfl rfl rfl rfl rfl ?_) | (refine L_front4 ?_; refine L_store tb rfl rfl rfl rfl rfl rfl rfl rfl ?_) | (refine L_front5 ?_; refine L_store tb rfl rfl rfl rfl rfl rfl rfl rfl ?_) | (refine L_front6 ?_; refine L_store tb rfl rfl rfl rfl rfl rfl rfl rfl ?_)
  refine L_then ?_
  refine C_seq ?_
  refine C_res (rs' := [box g5 118 [.int .i64 4000, .int .i64 1630000, .int .i64 0, .int .i64 2370000], box g2 51 (mxK 0)]) (fun _ h => h.pk (by repeat (first | with_reducible exact pk_nil | refine pk_box rfl ?_ | refine pk_rd rfl ?_ | refine pk_sl rfl ?_ | with_reducible refine pk_app ?_ | with_reducible refine pk_app0 ?_ | with_reducible refine pk_app0L ?_ | with_reducible exact pk_tl | refine pk_var ?_))) ?_
  refine C_region ?_
  refine L_alloc tb rfl rfl fun g6 => ?_
  refine L_then ?_
  refine C_seq ?_
  refine C_seq ?_
  refine C_region ?_
  refine L_q rfl rfl rfl (q_field tb rfl rfl rfl) ?_
  refine L_q rfl rfl rfl (q_loadA tb rfl rfl bxo rfl rfl) ?_
  refine L_q rfl rfl rfl (q_move rfl) ?_
  refine L_then ?_
  refine C_block ?_
  refine C_loop (ι := Nat) (fun k => ([(2, .pointer (some ⟨g2, 0, none⟩)), (3, .int .i64 0), (5, .pointer (some ⟨g5, 0, none⟩)), (6, .pointer (some ⟨g6, 0, none⟩)), (20, .agg #[.int .i64 1630000, .int .i64 0, .int .i64 2370000]), (21, .int .i64 (k : Int))], [box g6 51 (mxK k), box g5 118 [.int .i64 4000, .int .i64 1630000, .int .i64 0, .int .i64 2370000], box g2 51 (mxK 0)])) (fun k => k ≤ 3) (fun k => 3 - k) 0 (Nat.zero_le _) (fun a w hs => hs.weak ⟨rfl, rfl, rfl, rfl, rfl, rfl, trivial⟩ (fun h => h.pk (by repeat (first | with_reducible exact pk_nil | refine pk_box rfl ?_ | refine pk_rd rfl ?_ | refine pk_sl rfl ?_ | with_reducible refine pk_app ?_ | with_reducible refine pk_app0 ?_ | with_reducible refine pk_app0L ?_ | with_reducible exact pk_tl | refine pk_var ?_)))) ?_
  intro k hk
  dsimp only at hk ⊢
  refine C_seq ?_
  refine C_region ?_
  refine L_q rfl rfl rfl (q_lss rfl rfl) ?_
  refine L_then ?_
  refine C_seq ?_
  refine C_dec rfl (fun h2 => ?_) (fun h2 => ?_)
  · -- t22 True
    obtain rfl | rfl | rfl : k = 0 ∨ k = 1 ∨ k = 2 := by omega
    · -- case 0
      refine C_skip_then ?_
      refine C_seq ?_
      refine C_block ?_
      refine C_seq ?_
      refine C_region ?_
      refine L_q rfl rfl rfl (q_move rfl) ?_
      refine L_q rfl rfl rfl (q_indexV tb rfl rfl rfl rfl (by omega) (by omega) rfl) ?_
      refine L_q rfl rfl rfl (q_assign rfl) ?_
      refine L_q rfl rfl rfl (q_assign rfl) ?_
      refine L_then ?_
      refine C_seq ?_
      refine C_region ?_
      refine L_q rfl rfl rfl (q_field tb rfl rfl rfl) ?_
      refine L_q rfl rfl rfl (q_load tb rfl rfl bxo rfl) ?_
      refine L_q rfl rfl rfl (q_mul rfl rfl (by first | exact IntWalk.i64_in _ (by omega) | rfl)) ?_
      refine L_q rfl rfl rfl (q_assign rfl) ?_
      refine L_then ?_
      refine C_seq ?_
      refine C_region ?_
      refine L_q rfl rfl rfl (q_move rfl) ?_
      refine L_q rfl rfl rfl (q_move rfl) ?_
      refine L_call tb rfl rfl (ct_dv_0) no_ps rfl ?_
      refine L_q rfl rfl rfl (q_assign rfl) ?_
      refine L_then ?_
      refine C_seq ?_
      refine C_draw (n := 9) [(0, false), (1, false), (2, false), (3, false), (4, false), (5, false), (6, false), (7, false), (8, false)] mixed (by kernel_rfl) ?_
      refine W_q rfl rfl rfl rfl (q_move rfl) ?_
      refine W_q rfl rfl rfl rfl (q_move rfl) ?_
      refine W_q rfl rfl rfl rfl (q_move rfl) ?_
      refine W_q rfl rfl rfl rfl (q_quo rfl rfl (by omega) (by first | exact IntWalk.i64_quo _ _ (by omega) | exact IntWalk.i64_quo' _ _ (by omega) | rfl)) ?_
      refine W_q rfl rfl rfl rfl (q_move rfl) ?_
      refine W_q rfl rfl rfl rfl (q_move rfl) ?_
      refine W_q rfl rfl rfl rfl (q_quo rfl rfl (by omega) (by first | exact IntWalk.i64_quo _ _ (by omega) | exact IntWalk.i64_quo' _ _ (by omega) | rfl)) ?_
      refine W_q rfl rfl rfl rfl (by first | exact q_build tb rfl rfl rfl rfl | exact q_buildArr tb rfl rfl rfl rfl rfl) ?_
      refine W_q rfl rfl rfl rfl (by first | exact q_index tb rfl rfl rfl rfl (by first | exact gvo | exact gvd gvo (by omega)) (by omega) (by first | omega | (simp; done) | (simp; omega)) | exact q_indexP tb rfl rfl rfl rfl (by omega) (by omega)) ?_
      refine W_nil ?_
      first | refine L_store tb rfl rfl rfl rfl rfl rfl rfl rfl ?_ | (refine L_front1 ?_; refine L_store tb rfl rfl rfl rfl rfl rfl rfl rfl ?_) | (refine L_front2 ?_; refine L_store tb rfl rfl rfl rfl rfl rfl rfl rfl ?_) | (refine L_front3 ?_; refine L_store tb rfl rfl rfl rfl rfl rfl rfl rfl ?_) | (refine L_front4 ?_; refine L_store tb rfl rfl rfl rfl rfl rfl rfl rfl ?_) | (refine L_front5 ?_; refine L_store tb rfl rfl rfl rfl rfl rfl rfl rfl ?_) | (refine L_front6 ?_; refine L_store tb rfl rfl rfl rfl rfl rfl rfl rfl ?_)
      refine L_then ?_
      refine C_seq ?_
      refine C_res (rs' := [box g6 51 (mxK 1), box g5 118 [.int .i64 4000, .int .i64 1630000, .int .i64 0, .int .i64 2370000], box g2 51 (mxK 0)]) (fun _ h => h.pk (by repeat (first | with_reducible exact pk_nil | refine pk_box rfl ?_ | refine pk_rd rfl ?_ | refine pk_sl rfl ?_ | with_reducible refine pk_app ?_ | with_reducible refine pk_app0 ?_ | with_reducible refine pk_app0L ?_ | with_reducible exact pk_tl | refine pk_var ?_))) ?_
      refine C_region ?_
      refine L_q rfl rfl rfl (q_move rfl) ?_
      refine L_q rfl rfl rfl (by first | exact q_index tb rfl rfl rfl rfl (by first | exact gvo | exact gvd gvo (by omega)) (by omega) (by first | omega | (simp; done) | (simp; omega)) | exact q_indexP tb rfl rfl rfl rfl (by omega) (by omega)) ?_
      refine L_q rfl rfl rfl (by first | exact q_field tb rfl rfl rfl | exact q_fieldE tb rfl rfl rfl (by first | exact gvo | exact gvd gvo (by omega)) (by first | omega | (simp; done) | (simp; omega))) ?_
      refine L_q rfl rfl rfl (by first | exact q_load tb rfl rfl bxo rfl | exact q_loadE tb rfl rfl (by first | exact gvo | exact gvd gvo (by omega)) (by omega) (by simp) rfl) ?_
      refine L_q rfl rfl rfl (q_false (q_gtr rfl rfl) (by decide)) ?_
      refine L_q rfl rfl rfl (q_move rfl) ?_
      refine L_qg rfl rfl rfl rfl rfl rfl rfl (q_move rfl) ?_
      refine L_qg rfl rfl rfl rfl rfl rfl rfl (by first | exact q_index tb rfl rfl rfl rfl (by first | exact gvo | exact gvd gvo (by omega)) (by omega) (by first | omega | (simp; done) | (simp; omega)) | exact q_indexP tb rfl rfl rfl rfl (by omega) (by omega)) ?_
      refine L_qg rfl rfl rfl rfl rfl rfl rfl (by first | exact q_field tb rfl rfl rfl | exact q_fieldE tb rfl rfl rfl (by first | exact gvo | exact gvd gvo (by omega)) (by first | omega | (simp; done) | (simp; omega))) ?_
      refine L_qg rfl rfl rfl rfl rfl rfl rfl (by first | exact q_load tb rfl rfl bxo rfl | exact q_loadE tb rfl rfl (by first | exact gvo | exact gvd gvo (by omega)) (by omega) (by simp) rfl) ?_
      refine L_qg rfl rfl rfl rfl rfl rfl rfl (q_false (q_gtr rfl rfl) (by decide)) ?_
      refine L_q rfl rfl rfl (by first | exact q_pickT rfl rfl | exact q_pickF rfl rfl) ?_
      refine L_then ?_
      refine C_false rfl ?_
      refine C_skip_blk ?_
      refine C_region ?_
      refine L_q rfl rfl rfl (q_add rfl rfl (by first | exact IntWalk.i64_in _ (by omega) | rfl)) ?_
      refine L_q rfl rfl rfl (q_move rfl) ?_
      refine L_end ?_
      exact fun ac_ wo_ hs_ => ⟨1, (by decide), (by decide), hs_.weak ⟨rfl, rfl, rfl, rfl, rfl, rfl, trivial⟩ (fun h => h.pk (by repeat (first | with_reducible exact pk_nil | refine pk_box rfl ?_ | refine pk_rd rfl ?_ | refine pk_sl rfl ?_ | with_reducible refine pk_app ?_ | with_reducible refine pk_app0 ?_ | with_reducible refine pk_app0L ?_ | with_reducible exact pk_tl | refine pk_var ?_)))⟩
    · -- case 1
      refine C_skip_then ?_
      refine C_seq ?_
      refine C_block ?_
      refine C_seq ?_
      refine C_region ?_
      refine L_q rfl rfl rfl (q_move rfl) ?_
      refine L_q rfl rfl rfl (q_indexV tb rfl rfl rfl rfl (by omega) (by omega) rfl) ?_
      refine L_q rfl rfl rfl (q_assign rfl) ?_
      refine L_q rfl rfl rfl (q_assign rfl) ?_
      refine L_then ?_
      refine C_seq ?_
      refine C_region ?_
      refine L_q rfl rfl rfl (q_field tb rfl rfl rfl) ?_
      refine L_q rfl rfl rfl (q_load tb rfl rfl bxo rfl) ?_
      refine L_q rfl rfl rfl (q_mul rfl rfl (by first | exact IntWalk.i64_in _ (by omega) | rfl)) ?_
      refine L_q rfl rfl rfl (q_assign rfl) ?_
      refine L_then ?_
      refine C_seq ?_
      refine C_region ?_
      refine L_q rfl rfl rfl (q_move rfl) ?_
      refine L_q rfl rfl rfl (q_move rfl) ?_
      refine L_call tb rfl rfl (ct_dv_1) no_ps rfl ?_
      refine L_q rfl rfl rfl (q_assign rfl) ?_
      refine L_then ?_
      refine C_seq ?_
      refine C_draw (n := 9) [(0, false), (1, false), (2, false), (3, false), (4, false), (5, false), (6, false), (7, false), (8, false)] mixed (by kernel_rfl) ?_
      refine W_q rfl rfl rfl rfl (q_move rfl) ?_
      refine W_q rfl rfl rfl rfl (q_move rfl) ?_
      refine W_q rfl rfl rfl rfl (q_move rfl) ?_
      refine W_q rfl rfl rfl rfl (q_quo rfl rfl (by omega) (by first | exact IntWalk.i64_quo _ _ (by omega) | exact IntWalk.i64_quo' _ _ (by omega) | rfl)) ?_
      refine W_q rfl rfl rfl rfl (q_move rfl) ?_
      refine W_q rfl rfl rfl rfl (q_move rfl) ?_
      refine W_q rfl rfl rfl rfl (q_quo rfl rfl (by omega) (by first | exact IntWalk.i64_quo _ _ (by omega) | exact IntWalk.i64_quo' _ _ (by omega) | rfl)) ?_
      refine W_q rfl rfl rfl rfl (by first | exact q_build tb rfl rfl rfl rfl | exact q_buildArr tb rfl rfl rfl rfl rfl) ?_
      refine W_q rfl rfl rfl rfl (by first | exact q_index tb rfl rfl rfl rfl (by first | exact gvo | exact gvd gvo (by omega)) (by omega) (by first | omega | (simp; done) | (simp; omega)) | exact q_indexP tb rfl rfl rfl rfl (by omega) (by omega)) ?_
      refine W_nil ?_
      first | refine L_store tb rfl rfl rfl rfl rfl rfl rfl rfl ?_ | (refine L_front1 ?_; refine L_store tb rfl rfl rfl rfl rfl rfl rfl rfl ?_) | (refine L_front2 ?_; refine L_store tb rfl rfl rfl rfl rfl rfl rfl rfl ?_) | (refine L_front3 ?_; refine L_store tb rfl rfl rfl rfl rfl rfl rfl rfl ?_) | (refine L_front4 ?_; refine L_store tb rfl rfl rfl rfl rfl rfl rfl rfl ?_) | (refine L_front5 ?_; refine L_store tb rfl rfl rfl rfl rfl rfl rfl rfl ?_) | (refine L_front6 ?_; refine L_store tb rfl rfl rfl rfl rfl rfl rfl rfl ?_)
      refine L_then ?_
      refine C_seq ?_
      refine C_res (rs' := [box g6 51 (mxK 2), box g5 118 [.int .i64 4000, .int .i64 1630000, .int .i64 0, .int .i64 2370000], box g2 51 (mxK 0)]) (fun _ h => h.pk (by repeat (first | with_reducible exact pk_nil | refine pk_box rfl ?_ | refine pk_rd rfl ?_ | refine pk_sl rfl ?_ | with_reducible refine pk_app ?_ | with_reducible refine pk_app0 ?_ | with_reducible refine pk_app0L ?_ | with_reducible exact pk_tl | refine pk_var ?_))) ?_
      refine C_region ?_
      refine L_q rfl rfl rfl (q_move rfl) ?_
      refine L_q rfl rfl rfl (by first | exact q_index tb rfl rfl rfl rfl (by first | exact gvo | exact gvd gvo (by omega)) (by omega) (by first | omega | (simp; done) | (simp; omega)) | exact q_indexP tb rfl rfl rfl rfl (by omega) (by omega)) ?_
      refine L_q rfl rfl rfl (by first | exact q_field tb rfl rfl rfl | exact q_fieldE tb rfl rfl rfl (by first | exact gvo | exact gvd gvo (by omega)) (by first | omega | (simp; done) | (simp; omega))) ?_
      refine L_q rfl rfl rfl (by first | exact q_load tb rfl rfl bxo rfl | exact q_loadE tb rfl rfl (by first | exact gvo | exact gvd gvo (by omega)) (by omega) (by simp) rfl) ?_
      refine L_q rfl rfl rfl (q_false (q_gtr rfl rfl) (by decide)) ?_
      refine L_q rfl rfl rfl (q_move rfl) ?_
      refine L_qg rfl rfl rfl rfl rfl rfl rfl (q_move rfl) ?_
      refine L_qg rfl rfl rfl rfl rfl rfl rfl (by first | exact q_index tb rfl rfl rfl rfl (by first | exact gvo | exact gvd gvo (by omega)) (by omega) (by first | omega | (simp; done) | (simp; omega)) | exact q_indexP tb rfl rfl rfl rfl (by omega) (by omega)) ?_
      refine L_qg rfl rfl rfl rfl rfl rfl rfl (by first | exact q_field tb rfl rfl rfl | exact q_fieldE tb rfl rfl rfl (by first | exact gvo | exact gvd gvo (by omega)) (by first | omega | (simp; done) | (simp; omega))) ?_
      refine L_qg rfl rfl rfl rfl rfl rfl rfl (by first | exact q_load tb rfl rfl bxo rfl | exact q_loadE tb rfl rfl (by first | exact gvo | exact gvd gvo (by omega)) (by omega) (by simp) rfl) ?_
      refine L_qg rfl rfl rfl rfl rfl rfl rfl (q_false (q_gtr rfl rfl) (by decide)) ?_
      refine L_q rfl rfl rfl (by first | exact q_pickT rfl rfl | exact q_pickF rfl rfl) ?_
      refine L_then ?_
      refine C_false rfl ?_
      refine C_skip_blk ?_
      refine C_region ?_
      refine L_q rfl rfl rfl (q_add rfl rfl (by first | exact IntWalk.i64_in _ (by omega) | rfl)) ?_
      refine L_q rfl rfl rfl (q_move rfl) ?_
      refine L_end ?_
      exact fun ac_ wo_ hs_ => ⟨2, (by decide), (by decide), hs_.weak ⟨rfl, rfl, rfl, rfl, rfl, rfl, trivial⟩ (fun h => h.pk (by repeat (first | with_reducible exact pk_nil | refine pk_box rfl ?_ | refine pk_rd rfl ?_ | refine pk_sl rfl ?_ | with_reducible refine pk_app ?_ | with_reducible refine pk_app0 ?_ | with_reducible refine pk_app0L ?_ | with_reducible exact pk_tl | refine pk_var ?_)))⟩
    · -- case 2
      refine C_skip_then ?_
      refine C_seq ?_
      refine C_block ?_
      refine C_seq ?_
      refine C_region ?_
      refine L_q rfl rfl rfl (q_move rfl) ?_
      refine L_q rfl rfl rfl (q_indexV tb rfl rfl rfl rfl (by omega) (by omega) rfl) ?_
      refine L_q rfl rfl rfl (q_assign rfl) ?_
      refine L_q rfl rfl rfl (q_assign rfl) ?_
      refine L_then ?_
      refine C_seq ?_
      refine C_region ?_
      refine L_q rfl rfl rfl (q_field tb rfl rfl rfl) ?_
      refine L_q rfl rfl rfl (q_load tb rfl rfl bxo rfl) ?_
      refine L_q rfl rfl rfl (q_mul rfl rfl (by first | exact IntWalk.i64_in _ (by omega) | rfl)) ?_
      refine L_q rfl rfl rfl (q_assign rfl) ?_
      refine L_then ?_
      refine C_seq ?_
      refine C_region ?_
      refine L_q rfl rfl rfl (q_move rfl) ?_
      refine L_q rfl rfl rfl (q_move rfl) ?_
      refine L_call tb rfl rfl (ct_dv_2) no_ps rfl ?_
      refine L_q rfl rfl rfl (q_assign rfl) ?_
      refine L_then ?_
      refine C_seq ?_
      refine C_draw (n := 9) [(0, false), (1, false), (2, false), (3, false), (4, false), (5, false), (6, false), (7, false), (8, false)] mixed (by kernel_rfl) ?_
      refine W_q rfl rfl rfl rfl (q_move rfl) ?_
      refine W_q rfl rfl rfl rfl (q_move rfl) ?_
      refine W_q rfl rfl rfl rfl (q_move rfl) ?_
      refine W_q rfl rfl rfl rfl (q_quo rfl rfl (by omega) (by first | exact IntWalk.i64_quo _ _ (by omega) | exact IntWalk.i64_quo' _ _ (by omega) | rfl)) ?_
      refine W_q rfl rfl rfl rfl (q_move rfl) ?_
      refine W_q rfl rfl rfl rfl (q_move rfl) ?_
      refine W_q rfl rfl rfl rfl (q_quo rfl rfl (by omega) (by first | exact IntWalk.i64_quo _ _ (by omega) | exact IntWalk.i64_quo' _ _ (by omega) | rfl)) ?_
      refine W_q rfl rfl rfl rfl (by first | exact q_build tb rfl rfl rfl rfl | exact q_buildArr tb rfl rfl rfl rfl rfl) ?_
      refine W_q rfl rfl rfl rfl (by first | exact q_index tb rfl rfl rfl rfl (by first | exact gvo | exact gvd gvo (by omega)) (by omega) (by first | omega | (simp; done) | (simp; omega)) | exact q_indexP tb rfl rfl rfl rfl (by omega) (by omega)) ?_
      refine W_nil ?_
      first | refine L_store tb rfl rfl rfl rfl rfl rfl rfl rfl ?_ | (refine L_front1 ?_; refine L_store tb rfl rfl rfl rfl rfl rfl rfl rfl ?_) | (refine L_front2 ?_; refine L_store tb rfl rfl rfl rfl rfl rfl rfl rfl ?_) | (refine L_front3 ?_; refine L_store tb rfl rfl rfl rfl rfl rfl rfl rfl ?_) | (refine L_front4 ?_; refine L_store tb rfl rfl rfl rfl rfl rfl rfl rfl ?_) | (refine L_front5 ?_; refine L_store tb rfl rfl rfl rfl rfl rfl rfl rfl ?_) | (refine L_front6 ?_; refine L_store tb rfl rfl rfl rfl rfl rfl rfl rfl ?_)
      refine L_then ?_
      refine C_seq ?_
      refine C_res (rs' := [box g6 51 (mxK 3), box g5 118 [.int .i64 4000, .int .i64 1630000, .int .i64 0, .int .i64 2370000], box g2 51 (mxK 0)]) (fun _ h => h.pk (by repeat (first | with_reducible exact pk_nil | refine pk_box rfl ?_ | refine pk_rd rfl ?_ | refine pk_sl rfl ?_ | with_reducible refine pk_app ?_ | with_reducible refine pk_app0 ?_ | with_reducible refine pk_app0L ?_ | with_reducible exact pk_tl | refine pk_var ?_))) ?_
      refine C_region ?_
      refine L_q rfl rfl rfl (q_move rfl) ?_
      refine L_q rfl rfl rfl (by first | exact q_index tb rfl rfl rfl rfl (by first | exact gvo | exact gvd gvo (by omega)) (by omega) (by first | omega | (simp; done) | (simp; omega)) | exact q_indexP tb rfl rfl rfl rfl (by omega) (by omega)) ?_
      refine L_q rfl rfl rfl (by first | exact q_field tb rfl rfl rfl | exact q_fieldE tb rfl rfl rfl (by first | exact gvo | exact gvd gvo (by omega)) (by first | omega | (simp; done) | (simp; omega))) ?_
      refine L_q rfl rfl rfl (by first | exact q_load tb rfl rfl bxo rfl | exact q_loadE tb rfl rfl (by first | exact gvo | exact gvd gvo (by omega)) (by omega) (by simp) rfl) ?_
      refine L_q rfl rfl rfl (q_false (q_gtr rfl rfl) (by decide)) ?_
      refine L_q rfl rfl rfl (q_move rfl) ?_
      refine L_qg rfl rfl rfl rfl rfl rfl rfl (q_move rfl) ?_
      refine L_qg rfl rfl rfl rfl rfl rfl rfl (by first | exact q_index tb rfl rfl rfl rfl (by first | exact gvo | exact gvd gvo (by omega)) (by omega) (by first | omega | (simp; done) | (simp; omega)) | exact q_indexP tb rfl rfl rfl rfl (by omega) (by omega)) ?_
      refine L_qg rfl rfl rfl rfl rfl rfl rfl (by first | exact q_field tb rfl rfl rfl | exact q_fieldE tb rfl rfl rfl (by first | exact gvo | exact gvd gvo (by omega)) (by first | omega | (simp; done) | (simp; omega))) ?_
      refine L_qg rfl rfl rfl rfl rfl rfl rfl (by first | exact q_load tb rfl rfl bxo rfl | exact q_loadE tb rfl rfl (by first | exact gvo | exact gvd gvo (by omega)) (by omega) (by simp) rfl) ?_
      refine L_qg rfl rfl rfl rfl rfl rfl rfl (q_false (q_gtr rfl rfl) (by decide)) ?_
      refine L_q rfl rfl rfl (by first | exact q_pickT rfl rfl | exact q_pickF rfl rfl) ?_
      refine L_then ?_
      refine C_false rfl ?_
      refine C_skip_blk ?_
      refine C_region ?_
      refine L_q rfl rfl rfl (q_add rfl rfl (by first | exact IntWalk.i64_in _ (by omega) | rfl)) ?_
      refine L_q rfl rfl rfl (q_move rfl) ?_
      refine L_end ?_
      exact fun ac_ wo_ hs_ => ⟨3, (by decide), (by decide), hs_.weak ⟨rfl, rfl, rfl, rfl, rfl, rfl, trivial⟩ (fun h => h.pk (by repeat (first | with_reducible exact pk_nil | refine pk_box rfl ?_ | refine pk_rd rfl ?_ | refine pk_sl rfl ?_ | with_reducible refine pk_app ?_ | with_reducible refine pk_app0 ?_ | with_reducible refine pk_app0L ?_ | with_reducible exact pk_tl | refine pk_var ?_)))⟩
  · -- t22 False
    obtain rfl : k = 3 := by omega
    refine C_exit ?_
    change C Tryd.prog _ _ _ _ _ _ _
    refine C_seq ?_
    refine C_region ?_
    refine L_q rfl rfl rfl (q_loadA tb rfl rfl bxo rfl rfl) ?_
    first | refine L_store tb rfl rfl rfl rfl rfl rfl rfl rfl ?_ | (refine L_front1 ?_; refine L_store tb rfl rfl rfl rfl rfl rfl rfl rfl ?_) | (refine L_front2 ?_; refine L_store tb rfl rfl rfl rfl rfl rfl rfl rfl ?_) | (refine L_front3 ?_; refine L_store tb rfl rfl rfl rfl rfl rfl rfl rfl ?_) | (refine L_front4 ?_; refine L_store tb rfl rfl rfl rfl rfl rfl rfl rfl ?_) | (refine L_front5 ?_; refine L_store tb rfl rfl rfl rfl rfl rfl rfl rfl ?_) | (refine L_front6 ?_; refine L_store tb rfl rfl rfl rfl rfl rfl rfl rfl ?_)
    refine L_q rfl rfl rfl (q_assign rfl) ?_
    refine L_then ?_
    refine C_ret ?_
    exact ret_of (resCT tb rfl rfl rfl rfl bxo rfl) sub_nil (by intro r hr; cases hr) ⟨rfl, rfl⟩
set_option maxRecDepth 100000 in
theorem ct_shotlinetop_breathing  : Ct Tryd.prog 73 [] [] (isV (.bool true)) := by
  refine Ct.of (N := 26) Tryd.func73 rfl rfl rfl fun w => ?_
  refine C_weak (E' := []) (rs' := []) trivial (fun _ h => h) ?_
  refine C_seq ?_
  refine C_region ?_
  refine L_q rfl rfl rfl (q_assign rfl) ?_
  refine L_then ?_
  refine C_seq ?_
  refine C_region ?_
  refine L_q rfl rfl rfl (by first | exact q_build tb rfl rfl rfl rfl | exact q_buildArr tb rfl rfl rfl rfl rfl) ?_
  refine L_q rfl rfl rfl (by first | exact q_build tb rfl rfl rfl rfl | exact q_buildArr tb rfl rfl rfl rfl rfl) ?_
  refine L_q rfl rfl rfl (by first | exact q_build tb rfl rfl rfl rfl | exact q_buildArr tb rfl rfl rfl rfl rfl) ?_
  refine L_q rfl rfl rfl (by first | exact q_build tb rfl rfl rfl rfl | exact q_buildArr tb rfl rfl rfl rfl rfl) ?_
  refine L_mk (lo_bslice tb rfl rfl rfl (xs := (exL.map cGp)) rfl rfl (by decide) rfl (by omega) rfl) rfl rfl rfl fun v8 => ?_
  refine L_call tb rfl rfl (ct_gas_Mixed v8) (ps_cons (by first | exact gvo | exact gvd gvo (by omega)) no_ps) rfl ?_
  refine L_q rfl rfl rfl (q_move rfl) ?_
  refine L_q rfl rfl rfl (q_ext0 rfl) ?_
  refine L_q rfl rfl rfl (q_ext1 rfl) ?_
  refine L_alloc tb rfl rfl fun g1 => ?_
  first | refine L_store tb rfl rfl rfl rfl rfl rfl rfl rfl ?_ | (refine L_front1 ?_; refine L_store tb rfl rfl rfl rfl rfl rfl rfl rfl ?_) | (refine L_front2 ?_; refine L_store tb rfl rfl rfl rfl rfl rfl rfl rfl ?_) | (refine L_front3 ?_; refine L_store tb rfl rfl rfl rfl rfl rfl rfl rfl ?_) | (refine L_front4 ?_; refine L_store tb rfl rfl rfl rfl rfl rfl rfl rfl ?_) | (refine L_front5 ?_; refine L_store tb rfl rfl rfl rfl rfl rfl rfl rfl ?_) | (refine L_front6 ?_; refine L_store tb rfl rfl rfl rfl rfl rfl rfl rfl ?_)
  refine L_q rfl rfl rfl (q_assign rfl) ?_
  refine L_then ?_
  refine C_seq ?_
  refine C_region ?_
  refine L_q rfl rfl rfl (q_move rfl) ?_
  refine L_q rfl rfl rfl (q_true (q_eql rfl rfl) (by simp)) ?_
  refine L_q rfl rfl rfl (q_move rfl) ?_
  refine L_qg rfl rfl rfl rfl rfl rfl rfl (by first | exact q_index tb rfl rfl rfl rfl (by first | exact gvo | exact gvd gvo (by omega)) (by omega) (by first | omega | (simp; done) | (simp; omega)) | exact q_indexP tb rfl rfl rfl rfl (by omega) (by omega)) ?_
  refine L_qg rfl rfl rfl rfl rfl rfl rfl (by first | exact q_loadA tb rfl rfl bxo rfl rfl | exact q_loadEA tb rfl rfl (by first | exact gvo | exact gvd gvo (by omega)) (by omega) (by simp) rfl rfl) ?_
  refine L_qg rfl rfl rfl rfl rfl rfl rfl (by first | exact q_build tb rfl rfl rfl rfl | exact q_buildArr tb rfl rfl rfl rfl rfl) ?_
  refine L_qg rfl rfl rfl rfl rfl rfl rfl (q_true (q_eqI (xs := [163, 400]) (ys := [163, 400]) eq50 (by omega) eg50 rfl rfl rfl rfl Iff.rfl) (by decide)) ?_
  refine L_q rfl rfl rfl (by first | exact q_pickT rfl rfl | exact q_pickF rfl rfl) ?_
  refine L_q rfl rfl rfl (q_move rfl) ?_
  refine L_qg rfl rfl rfl rfl rfl rfl rfl (by first | exact q_index tb rfl rfl rfl rfl (by first | exact gvo | exact gvd gvo (by omega)) (by omega) (by first | omega | (simp; done) | (simp; omega)) | exact q_indexP tb rfl rfl rfl rfl (by omega) (by omega)) ?_
  refine L_qg rfl rfl rfl rfl rfl rfl rfl (by first | exact q_loadA tb rfl rfl bxo rfl rfl | exact q_loadEA tb rfl rfl (by first | exact gvo | exact gvd gvo (by omega)) (by omega) (by simp) rfl rfl) ?_
  refine L_qg rfl rfl rfl rfl rfl rfl rfl (by first | exact q_build tb rfl rfl rfl rfl | exact q_buildArr tb rfl rfl rfl rfl rfl) ?_
  refine L_qg rfl rfl rfl rfl rfl rfl rfl (q_true (q_eqI (xs := [237, 400]) (ys := [237, 400]) eq50 (by omega) eg50 rfl rfl rfl rfl Iff.rfl) (by decide)) ?_
  refine L_q rfl rfl rfl (by first | exact q_pickT rfl rfl | exact q_pickF rfl rfl) ?_
  refine L_q rfl rfl rfl (q_assign rfl) ?_
  refine L_then ?_
  refine C_ret ?_
  exact ret_of (res1 rfl rfl) sub_nil (by intro r hr; cases hr) ⟨rfl, rfl⟩
end Go.Proofs.YtibohfipgjljhaaDoor
