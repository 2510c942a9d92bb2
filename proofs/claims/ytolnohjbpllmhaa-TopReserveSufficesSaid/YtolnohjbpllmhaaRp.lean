/-
  Walks: each function named returns what its model says. Conditions: those in front of each theorem.
-/
import Derived.Test.YtolnohjbpllmhaaTab
import Derived.Test.YtolnohjbpllmhaaShCopy
import Derived.Test.YtolnohjbpllmhaaShPut
namespace Go.Proofs.Ytolnohjbpllmhaa
open Go.RowKit

set_option maxRecDepth 100000 in
theorem ct_math_bits_Mul64 (n : Int) (h : 0 ≤ n ∧ n < 4294967296) : Ct Try.prog 170 [.int .u64 1, .int .u64 n] [] (isV (.tuple #[.int .u64 0, .int .u64 n])) := by
  refine Ct.of (N := 51) Try.func170 rfl rfl rfl fun w => ?_
  refine C_weak (E' := [(0, .int .u64 1), (1, .int .u64 n)]) (rs' := []) ⟨rfl, rfl, trivial⟩ (fun _ h => h) ?_
  refine C_seq ?_
  refine C_region ?_
  refine L_q rfl rfl rfl (q_assign rfl) ?_
  refine L_q rfl rfl rfl (q_assign rfl) ?_
  refine L_then ?_
  refine C_seq ?_
  refine C_region ?_
  refine L_q rfl rfl rfl (q_move rfl) ?_
  refine L_q rfl rfl rfl (q_and32 rfl rfl (by omega) (by omega)) ?_
  refine L_q rfl rfl rfl (q_assign rfl) ?_
  refine L_then ?_
  refine C_seq ?_
  refine C_region ?_
  refine L_q rfl rfl rfl (q_move rfl) ?_
  refine L_q rfl rfl rfl (q_shr rfl rfl (by omega) (shr32 (by omega))) ?_
  refine L_q rfl rfl rfl (q_assign rfl) ?_
  refine L_then ?_
  refine C_seq ?_
  refine C_region ?_
  refine L_q rfl rfl rfl (q_move rfl) ?_
  refine L_q rfl rfl rfl (q_and32 rfl rfl (by omega) (by omega)) ?_
  refine L_q rfl rfl rfl (q_assign rfl) ?_
  refine L_then ?_
  refine C_seq ?_
  refine C_region ?_
  refine L_q rfl rfl rfl (q_move rfl) ?_
  refine L_q rfl rfl rfl (q_shr rfl rfl (by omega) (shr32 (by omega))) ?_
  refine L_q rfl rfl rfl (q_assign rfl) ?_
  refine L_then ?_
  refine C_seq ?_
  refine C_region ?_
  refine L_q rfl rfl rfl (q_move rfl) ?_
  refine L_q rfl rfl rfl (q_move rfl) ?_
  refine L_q rfl rfl rfl (q_mul rfl rfl (wrU (b := n) (by omega) (by omega))) ?_
  refine L_q rfl rfl rfl (q_assign rfl) ?_
  refine L_then ?_
  refine C_seq ?_
  refine C_region ?_
  refine L_q rfl rfl rfl (q_move rfl) ?_
  refine L_q rfl rfl rfl (q_move rfl) ?_
  refine L_q rfl rfl rfl (q_mul rfl rfl (wrU (b := 0) (by omega) (by omega))) ?_
  refine L_q rfl rfl rfl (q_move rfl) ?_
  refine L_q rfl rfl rfl (q_shr rfl rfl (by omega) (shr32 (by omega))) ?_
  refine L_q rfl rfl rfl (q_add rfl rfl (wrU (b := 0) (by omega) (by omega))) ?_
  refine L_q rfl rfl rfl (q_assign rfl) ?_
  refine L_then ?_
  refine C_seq ?_
  refine C_region ?_
  refine L_q rfl rfl rfl (q_move rfl) ?_
  refine L_q rfl rfl rfl (q_and32 rfl rfl (by omega) (by omega)) ?_
  refine L_q rfl rfl rfl (q_assign rfl) ?_
  refine L_then ?_
  refine C_seq ?_
  refine C_region ?_
  refine L_q rfl rfl rfl (q_move rfl) ?_
  refine L_q rfl rfl rfl (q_shr rfl rfl (by omega) (shr32 (by omega))) ?_
  refine L_q rfl rfl rfl (q_assign rfl) ?_
  refine L_then ?_
  refine C_seq ?_
  refine C_region ?_
  refine L_q rfl rfl rfl (q_move rfl) ?_
  refine L_q rfl rfl rfl (q_move rfl) ?_
  refine L_q rfl rfl rfl (q_move rfl) ?_
  refine L_q rfl rfl rfl (q_mul rfl rfl (wrU (b := 0) (by omega) (by omega))) ?_
  refine L_q rfl rfl rfl (q_add rfl rfl (wrU (b := 0) (by omega) (by omega))) ?_
  refine L_q rfl rfl rfl (q_assign rfl) ?_
  refine L_then ?_
  refine C_seq ?_
  refine C_region ?_
  refine L_q rfl rfl rfl (q_move rfl) ?_
  refine L_q rfl rfl rfl (q_move rfl) ?_
  refine L_q rfl rfl rfl (q_mul rfl rfl (wrU (b := 0) (by omega) (by omega))) ?_
  refine L_q rfl rfl rfl (q_move rfl) ?_
  refine L_q rfl rfl rfl (q_add rfl rfl (wrU (b := 0) (by omega) (by omega))) ?_
  refine L_q rfl rfl rfl (q_move rfl) ?_
  refine L_q rfl rfl rfl (q_shr rfl rfl (by omega) (shr32 (by omega))) ?_
  refine L_q rfl rfl rfl (q_add rfl rfl (wrU (b := 0) (by omega) (by omega))) ?_
  refine L_q rfl rfl rfl (q_assign rfl) ?_
  refine L_then ?_
  refine C_seq ?_
  refine C_region ?_
  refine L_q rfl rfl rfl (q_move rfl) ?_
  refine L_q rfl rfl rfl (q_move rfl) ?_
  refine L_q rfl rfl rfl (q_mul rfl rfl (wrU (b := n) (by omega) (by omega))) ?_
  refine L_q rfl rfl rfl (q_assign rfl) ?_
  refine L_then ?_
  refine C_ret ?_
  exact ret_of (res2 rfl rfl rfl) sub_nil (by intro r hr; cases hr) ⟨rfl, rfl⟩
set_option maxRecDepth 100000 in
theorem ct_math_bits_Mul (n : Int) (h : 0 ≤ n ∧ n < 4294967296) : Ct Try.prog 150 [.int .u64 1, .int .u64 n] [] (isV (.tuple #[.int .u64 0, .int .u64 n])) := by
  refine Ct.of (N := 30) Try.func150 rfl rfl rfl fun w => ?_
  refine C_weak (E' := [(0, .int .u64 1), (1, .int .u64 n)]) (rs' := []) ⟨rfl, rfl, trivial⟩ (fun _ h => h) ?_
  refine C_seq ?_
  refine C_region ?_
  refine L_q rfl rfl rfl (q_assign rfl) ?_
  refine L_q rfl rfl rfl (q_assign rfl) ?_
  refine L_then ?_
  refine C_seq ?_
  refine C_false rfl ?_
  refine C_skip_then ?_
  refine C_seq ?_
  refine C_region ?_
  refine L_q rfl rfl rfl (q_move rfl) ?_
  refine L_q rfl rfl rfl (q_move rfl) ?_
  refine L_call tb rfl rfl (ct_math_bits_Mul64 _ (by omega)) no_ps rfl ?_
  refine L_q rfl rfl rfl (q_move rfl) ?_
  refine L_q rfl rfl rfl (q_ext0 rfl) ?_
  refine L_q rfl rfl rfl (q_ext1 rfl) ?_
  refine L_q rfl rfl rfl (q_assign rfl) ?_
  refine L_q rfl rfl rfl (q_assign rfl) ?_
  refine L_then ?_
  refine C_seq ?_
  refine C_region ?_
  refine L_q rfl rfl rfl (q_move rfl) ?_
  refine L_q rfl rfl rfl (q_move rfl) ?_
  refine L_q rfl rfl rfl (q_assign rfl) ?_
  refine L_q rfl rfl rfl (q_assign rfl) ?_
  refine L_then ?_
  refine C_ret ?_
  exact ret_of (res2 rfl rfl rfl) sub_nil (by intro r hr; cases hr) ⟨rfl, rfl⟩
set_option maxRecDepth 100000 in
theorem ct_slices_Repeat_shotline_api_GasNeed_shotline_api_GasNeed (v : Value) (c : List Value) (n : Nat) (hn : 1 ≤ n ∧ n ≤ 100000) (hz1 : ∀ x ∈ c, x.oneCell' = true) : Ct Try.prog 120 [v, .int .i64 (n : Int)] [(v, 2, [c])] (isSl 109 2 (List.replicate n c)) := by
  refine Ct.of (N := 48) Try.func120 rfl rfl rfl fun w => ?_
  refine C_weak (E' := [(0, v), (1, .int .i64 (n : Int))]) (rs' := [rd v 2 ([c])]) ⟨rfl, rfl, trivial⟩ (fun _ h => h) ?_
  obtain ⟨zs9, hz9⟩ : ∃ z : List Value, z = [.int .i64 0, .int .i64 0] := ⟨_, rfl⟩
  refine C_seq ?_
  refine C_region ?_
  refine L_q rfl rfl rfl (q_assign rfl) ?_
  refine L_then ?_
  refine C_seq ?_
  refine C_seq ?_
  refine C_region ?_
  refine L_q rfl rfl rfl (q_move rfl) ?_
  refine L_q rfl rfl rfl (q_lss rfl rfl) ?_
  refine L_then ?_
  refine C_dec rfl (fun h1 => ?_) (fun h1 => ?_)
  · -- t10 True
    exfalso; omega
  · -- t10 False
    refine C_skip_then ?_
    refine C_seq ?_
    refine C_region ?_
    refine L_q rfl rfl rfl (q_move rfl) ?_
    refine L_q rfl rfl rfl (q_len tb rfl rfl (by first | exact gvo | exact gvd gvo (by omega))) ?_
    refine L_q rfl rfl rfl (q_conv tb rfl rfl rfl (wrU (b := 1) (by simp) (by omega))) ?_
    refine L_q rfl rfl rfl (q_move rfl) ?_
    refine L_q rfl rfl rfl (q_conv tb rfl rfl rfl (wrU (b := (n : Int)) rfl (by omega))) ?_
    refine L_call tb rfl rfl (ct_math_bits_Mul (n : Int) (by omega)) no_ps rfl ?_
    refine L_q rfl rfl rfl (q_move rfl) ?_
    refine L_q rfl rfl rfl (q_ext0 rfl) ?_
    refine L_q rfl rfl rfl (q_ext1 rfl) ?_
    refine L_q rfl rfl rfl (q_assign rfl) ?_
    refine L_q rfl rfl rfl (q_assign rfl) ?_
    refine L_then ?_
    refine C_seq ?_
    refine C_seq ?_
    refine C_region ?_
    refine L_q rfl rfl rfl (q_move rfl) ?_
    refine L_q rfl rfl rfl (q_gtr rfl rfl) ?_
    refine L_q rfl rfl rfl (q_move rfl) ?_
    refine L_dec (d := 23) rfl (fun h2 => ?_) (fun h2 => ?_)
    · -- t23 True
      exfalso; omega
    · -- t23 False
      refine L_qg rfl rfl rfl rfl rfl rfl rfl (q_move rfl) ?_
      refine L_qg rfl rfl rfl rfl rfl rfl rfl (q_gtr rfl rfl) ?_
      refine L_q rfl rfl rfl (by first | exact q_pickT rfl rfl | exact q_pickF rfl rfl) ?_
      refine L_then ?_
      refine C_dec rfl (fun h3 => ?_) (fun h3 => ?_)
      · -- t26 True
        exfalso; omega
      · -- t26 False
        refine C_skip_then ?_
        refine C_seq ?_
        refine C_region ?_
        refine L_q rfl rfl rfl (q_move rfl) ?_
        refine L_q rfl rfl rfl (q_conv tb rfl rfl rfl (by first | exact IntWalk.i64_in _ (by omega) | rfl)) ?_
        refine L_mk (lo_make tb rfl rfl rfl (n := n) rfl rfl (by omega) (by simp [maxLen]; omega)) rfl rfl rfl fun v30 => ?_
        refine L_q rfl rfl rfl (q_assign rfl) ?_
        refine L_then ?_
        refine C_seq ?_
        rw [← hz9]
        refine C_formC (v := v30) gvo (fun A9 c9 hv9 hc9 => ?_)
        rw [List.length_replicate] at hv9 hc9
        subst hv9
        refine C_region ?_
        refine L_q rfl rfl rfl (q_move rfl) ?_
        refine L_q rfl rfl rfl (q_move rfl) ?_
        first | refine L_copy tb (k := 0) (q := 1) rfl rfl rfl CpTo.self rfl (by first | exact gvo | exact gvd gvo (by omega)) (fun x hx => hz1 x (by simpa using hx)) (by first | omega | (simp; done) | (simp; omega)) (by first | omega | (simp; done) | (simp; omega)) (by first | omega | (simp; done) | (simp; omega)) rfl ?_ | (refine L_front1 ?_; refine L_copy tb (k := 0) (q := 1) rfl rfl rfl CpTo.self rfl (by first | exact gvo | exact gvd gvo (by omega)) (fun x hx => hz1 x (by simpa using hx)) (by first | omega | (simp; done) | (simp; omega)) (by first | omega | (simp; done) | (simp; omega)) (by first | omega | (simp; done) | (simp; omega)) rfl ?_) | (refine L_front2 ?_; refine L_copy tb (k := 0) (q := 1) rfl rfl rfl CpTo.self rfl (by first | exact gvo | exact gvd gvo (by omega)) (fun x hx => hz1 x (by simpa using hx)) (by first | omega | (simp; done) | (simp; omega)) (by first | omega | (simp; done) | (simp; omega)) (by first | omega | (simp; done) | (simp; omega)) rfl ?_) | (refine L_front3 ?_; refine L_copy tb (k := 0) (q := 1) rfl rfl rfl CpTo.self rfl (by first | exact gvo | exact gvd gvo (by omega)) (fun x hx => hz1 x (by simpa using hx)) (by first | omega | (simp; done) | (simp; omega)) (by first | omega | (simp; done) | (simp; omega)) (by first | omega | (simp; done) | (simp; omega)) rfl ?_)
        refine L_q rfl rfl rfl (q_assign rfl) ?_
        refine L_then ?_
        refine C_seq ?_
        refine C_block ?_
        refine C_res (rs' := [sl (.slice A9 n c9) 109 2 (List.replicate 1 c ++ List.replicate (n - 1) zs9), rd v 2 [c]]) (fun _ h => h.pk (by repeat (first | with_reducible exact pk_nil | refine pk_box (by first | rfl | exact rep_first c zs9 (n := n)) ?_ | refine pk_rd rfl ?_ | refine pk_sl (by first | rfl | exact rep_first c zs9 (n := n)) ?_ | with_reducible refine pk_app ?_ | with_reducible refine pk_app0 ?_ | with_reducible refine pk_app0L ?_ | with_reducible exact pk_tl | refine pk_var ?_))) ?_
        refine C_loop (ι := Nat) (fun k => ([(7, .slice A9 n c9), (8, .int .i64 (k : Int))], [sl (.slice A9 n c9) 109 2 (List.replicate k c ++ List.replicate (n - k) zs9), rd v 2 [c]])) (fun k => 1 ≤ k ∧ k ≤ n) (fun k => n - k) 1 ⟨by omega, by omega⟩ (fun a w hs => hs.weak ⟨rfl, rfl, trivial⟩ (fun h => h.pk (by repeat (first | with_reducible exact pk_nil | refine pk_box rfl ?_ | refine pk_rd rfl ?_ | refine pk_sl rfl ?_ | with_reducible refine pk_app ?_ | with_reducible refine pk_app0 ?_ | with_reducible refine pk_app0L ?_ | with_reducible exact pk_tl | refine pk_var ?_)))) ?_
        rintro k ⟨hk1, hkn⟩
        dsimp only at hk1 hkn ⊢
        have hl9 : (List.replicate k c ++ List.replicate (n - k) zs9).length = n := by simp; omega
        refine C_seq ?_
        refine C_seq ?_
        refine C_region ?_
        refine L_q rfl rfl rfl (q_move rfl) ?_
        refine L_q rfl rfl rfl (q_move rfl) ?_
        refine L_q rfl rfl rfl (q_len tb rfl rfl (by first | exact gvo | exact gvd gvo (by omega))) ?_
        refine L_q rfl rfl rfl (q_lss rfl rfl) ?_
        refine L_then ?_
        refine C_dec rfl (fun h4 => ?_) (fun h4 => ?_)
        · -- t37 True
          refine C_skip_then ?_
          refine C_block ?_
          refine Kp.C_ownS [.q 0, .q 1, .q 2, .q 3, .q 4, .q 5, .q 6, .s 7, .q 8, .q 9] mixed (by kernel_rfl) rfl (by kernel_rfl) ?_
          refine Kp.X_q rfl rfl rfl rfl (q_move rfl) ?_
          refine Kp.X_q rfl rfl rfl rfl (q_move rfl) ?_
          refine Kp.X_q rfl rfl rfl rfl (q_move rfl) ?_
          refine Kp.X_q rfl rfl rfl rfl (q_fromF tb rfl rfl rfl rfl (by omega) (by omega)) ?_
          refine Kp.X_q rfl rfl rfl rfl (q_move rfl) ?_
          refine Kp.X_q rfl rfl rfl rfl (q_move rfl) ?_
          refine Kp.X_q rfl rfl rfl rfl (q_toF tb rfl rfl rfl rfl (by omega) (by omega)) ?_
          refine Kp.X_copy tb (k := k) (q := (min k (n - k))) rfl rfl rfl rfl rfl CpTo.from rfl (gvt gvo (by omega)) (fun x hx => hz1 x (by rw [List.take_append_of_le_length (by simp), List.take_of_length_le (by simp)] at hx; exact rep_mem hx)) (by first | omega | (simp; done) | (simp; omega)) (by first | omega | (simp; done) | (simp; omega)) (by first | omega | (simp; done) | (simp; omega)) rfl ?_
          refine Kp.X_q rfl rfl rfl rfl (q_add rfl rfl (by first | exact IntWalk.i64_in _ (by omega) | rfl)) ?_
          refine Kp.X_q rfl rfl rfl rfl (q_assign rfl) ?_
          refine Kp.X_nil ?_
          dsimp only [List.cons_append, List.nil_append]
          refine L_end ?_
          have e9 := rep_next c zs9 (k := k) (n := n) (q := min k (n - k)) rfl
          exact fun ac_ wo_ hs_ => ⟨(k + min k (n - k)), ⟨by omega, by omega⟩, (by dsimp only; omega), hs_.weak ⟨rfl, rfl, trivial⟩ (fun h => h.pk (by repeat (first | with_reducible exact pk_nil | refine pk_box (by first | rfl | exact e9) ?_ | refine pk_rd rfl ?_ | refine pk_sl (by first | rfl | exact e9) ?_ | with_reducible refine pk_app ?_ | with_reducible refine pk_app0 ?_ | with_reducible refine pk_app0L ?_ | with_reducible exact pk_tl | refine pk_var ?_)))⟩
        · -- t37 False
          refine C_exit ?_
          change C Try.prog _ _ _ _ _ _ _
          refine C_seq ?_
          refine C_region ?_
          refine L_q rfl rfl rfl (q_move rfl) ?_
          refine L_q rfl rfl rfl (q_assign rfl) ?_
          refine L_then ?_
          refine C_ret ?_
          rw [rep_all c zs9 (k := k) (n := n) (by omega) hkn]
          exact ret_of (rs' := [sl (.slice A9 n c9) 109 2 (List.replicate n c)]) (res1 rfl rfl) (fun _ h => h.sub (by repeat (first | exact List.Sublist.refl _ | apply List.Sublist.cons_cons | apply List.Sublist.cons))) own1 rfl
end Go.Proofs.Ytolnohjbpllmhaa
