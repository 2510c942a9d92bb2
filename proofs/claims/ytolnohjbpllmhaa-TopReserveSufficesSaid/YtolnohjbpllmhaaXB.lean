/-
  Walks: each function named returns what its model says. Conditions: those in front of each theorem.
-/
import Derived.Test.YtolnohjbpllmhaaXA
namespace Go.Proofs.Ytolnohjbpllmhaa
open Go.RowKit

set_option maxRecDepth 100000 in
theorem ct_profile_isName (s : ByteArray) (hle : s.size ≤ 1000000000000) : Ct Try.prog 167 [.string s] [] (isV (.bool (decide (nameP s)))) := by
  refine Ct.of (N := 64) Try.func167 rfl rfl rfl fun w => ?_
  refine C_weak (E' := [(0, .string s)]) (rs' := []) ⟨rfl, trivial⟩ (fun _ h => h) ?_
  refine C_seq ?_
  refine C_region ?_
  refine L_q rfl rfl rfl (q_assign rfl) ?_
  refine L_then ?_
  refine C_seq ?_
  refine C_seq ?_
  refine C_region ?_
  refine L_q rfl rfl rfl (q_move rfl) ?_
  refine L_q rfl rfl rfl (q_lenS Try.underlying9 rfl) ?_
  refine L_q rfl rfl rfl (q_move rfl) ?_
  refine L_then ?_
  refine C_block ?_
  refine C_loop (ι := Nat) (fun k => ([(0, .string s), (6, .int .i64 (s.size : Int)), (7, .int .i64 (k : Int))], [])) (fun k => k ≤ s.size ∧ ∀ i, i < k → okB i (bAt s i)) (fun k => s.size - k) 0 ⟨Nat.zero_le _, fun i hi => absurd hi (Nat.not_lt_zero _)⟩ (fun a w hs => hs.weak ⟨rfl, rfl, rfl, trivial⟩ (fun h => h.pk (by repeat (first | with_reducible exact pk_nil | refine pk_box rfl ?_ | refine pk_rd rfl ?_ | refine pk_sl rfl ?_ | with_reducible refine pk_app ?_ | with_reducible refine pk_app0 ?_ | with_reducible refine pk_app0L ?_ | with_reducible exact pk_tl | refine pk_var ?_)))) ?_
  rintro k ⟨hk, hb⟩
  dsimp only at hk hb ⊢
  refine C_seq ?_
  refine C_region ?_
  refine L_q rfl rfl rfl (q_lss rfl rfl) ?_
  refine L_then ?_
  refine C_seq ?_
  refine C_dec rfl (fun h1 => ?_) (fun h1 => ?_)
  · -- t8 True
    have hbk := bAt_in s k
    refine C_skip_then ?_
    refine C_seq ?_
    refine C_block ?_
    refine C_seq ?_
    refine C_region ?_
    refine L_q rfl rfl rfl (q_move rfl) ?_
    refine L_q rfl rfl rfl (q_assign rfl) ?_
    refine L_then ?_
    refine C_seq ?_
    refine C_region ?_
    refine L_q rfl rfl rfl (q_move rfl) ?_
    refine L_q rfl rfl rfl (q_move rfl) ?_
    refine L_q rfl rfl rfl (q_indexS Try.underlying9 rfl rfl (by omega)) ?_
    refine L_q rfl rfl rfl (q_geq rfl rfl) ?_
    refine L_q rfl rfl rfl (q_move rfl) ?_
    refine L_dec (d := 14) rfl (fun h2 => ?_) (fun h2 => ?_)
    · -- t14 True
      refine L_qg rfl rfl rfl rfl rfl rfl rfl (q_move rfl) ?_
      refine L_qg rfl rfl rfl rfl rfl rfl rfl (q_move rfl) ?_
      refine L_qg rfl rfl rfl rfl rfl rfl rfl (q_indexS Try.underlying9 rfl rfl (by omega)) ?_
      refine L_qg rfl rfl rfl rfl rfl rfl rfl (q_leq rfl rfl) ?_
      refine L_q rfl rfl rfl (by first | exact q_pickT rfl rfl | exact q_pickF rfl rfl) ?_
      refine L_q rfl rfl rfl (q_move rfl) ?_
      refine L_dec (d := 20) rfl (fun h3 => ?_) (fun h3 => ?_)
      · -- t20 True
        refine L_skip rfl rfl rfl rfl rfl rfl rfl ?_
        refine L_skip rfl rfl rfl rfl rfl rfl rfl ?_
        refine L_skip rfl rfl rfl rfl rfl rfl rfl ?_
        refine L_skip rfl rfl rfl rfl rfl rfl rfl ?_
        refine L_skip rfl rfl rfl rfl rfl rfl rfl ?_
        refine L_skipu rfl rfl rfl rfl rfl rfl ?_
        refine L_skipu rfl rfl rfl rfl rfl rfl ?_
        refine L_skipu rfl rfl rfl rfl rfl rfl ?_
        refine L_skipu rfl rfl rfl rfl rfl rfl ?_
        refine L_skip rfl rfl rfl rfl rfl rfl rfl ?_
        refine L_q rfl rfl rfl (by first | exact q_pickT rfl rfl | exact q_pickF rfl rfl) ?_
        refine L_q rfl rfl rfl (q_assign rfl) ?_
        refine L_then ?_
        refine C_seq ?_
        refine C_region ?_
        refine L_q rfl rfl rfl (q_move rfl) ?_
        refine L_q rfl rfl rfl (q_not rfl (by first | exact (rfl : (!true) = false) | exact (rfl : (!false) = true) | exact decide_not.symm | rfl)) ?_
        refine L_q rfl rfl rfl (q_move rfl) ?_
        refine L_skip rfl rfl rfl rfl rfl rfl rfl ?_
        refine L_skip rfl rfl rfl rfl rfl rfl rfl ?_
        refine L_skip rfl rfl rfl rfl rfl rfl rfl ?_
        refine L_skipu rfl rfl rfl rfl rfl rfl ?_
        refine L_skipu rfl rfl rfl rfl rfl rfl ?_
        refine L_skipu rfl rfl rfl rfl rfl rfl ?_
        refine L_skipu rfl rfl rfl rfl rfl rfl ?_
        refine L_skipu rfl rfl rfl rfl rfl rfl ?_
        refine L_skipu rfl rfl rfl rfl rfl rfl ?_
        refine L_skipu rfl rfl rfl rfl rfl rfl ?_
        refine L_skipu rfl rfl rfl rfl rfl rfl ?_
        refine L_skipu rfl rfl rfl rfl rfl rfl ?_
        refine L_skipu rfl rfl rfl rfl rfl rfl ?_
        refine L_skipu rfl rfl rfl rfl rfl rfl ?_
        refine L_skipu rfl rfl rfl rfl rfl rfl ?_
        refine L_skipu rfl rfl rfl rfl rfl rfl ?_
        refine L_skipu rfl rfl rfl rfl rfl rfl ?_
        refine L_skipu rfl rfl rfl rfl rfl rfl ?_
        refine L_skipu rfl rfl rfl rfl rfl rfl ?_
        refine L_skip rfl rfl rfl rfl rfl rfl rfl ?_
        refine L_q rfl rfl rfl (by first | exact q_pickT rfl rfl | exact q_pickF rfl rfl) ?_
        refine L_then ?_
        refine C_false rfl ?_
        refine C_skip_blk ?_
        refine C_region ?_
        refine L_q rfl rfl rfl (q_add rfl rfl (by first | exact IntWalk.i64_in _ (by omega) | rfl)) ?_
        refine L_q rfl rfl rfl (q_move rfl) ?_
        refine L_end ?_
        exact fun ac_ wo_ hs_ => ⟨k + 1, ⟨by omega, fun i hi => by rcases Nat.lt_or_eq_of_le (Nat.le_of_lt_succ hi) with h9 | rfl; exact hb i h9; (unfold okB ltrI; omega)⟩, (by dsimp only; omega), hs_.weak ⟨rfl, rfl, rfl, trivial⟩ (fun h => h.pk (by repeat (first | with_reducible exact pk_nil | refine pk_box rfl ?_ | refine pk_rd rfl ?_ | refine pk_sl rfl ?_ | with_reducible refine pk_app ?_ | with_reducible refine pk_app0 ?_ | with_reducible refine pk_app0L ?_ | with_reducible exact pk_tl | refine pk_var ?_)))⟩
      · -- t20 False
        refine L_qg rfl rfl rfl rfl rfl rfl rfl (q_move rfl) ?_
        refine L_qg rfl rfl rfl rfl rfl rfl rfl (q_move rfl) ?_
        refine L_qg rfl rfl rfl rfl rfl rfl rfl (q_indexS Try.underlying9 rfl rfl (by omega)) ?_
        refine L_qg rfl rfl rfl rfl rfl rfl rfl (q_geq rfl rfl) ?_
        refine L_qg rfl rfl rfl rfl rfl rfl rfl (q_move rfl) ?_
        refine L_dec (d := 25) rfl (fun h5 => ?_) (fun h5 => ?_)
        · -- t25 True
          refine L_qg rfl rfl rfl rfl rfl rfl rfl (q_move rfl) ?_
          refine L_qg rfl rfl rfl rfl rfl rfl rfl (q_move rfl) ?_
          refine L_qg rfl rfl rfl rfl rfl rfl rfl (q_indexS Try.underlying9 rfl rfl (by omega)) ?_
          refine L_qg rfl rfl rfl rfl rfl rfl rfl (q_leq rfl rfl) ?_
          refine L_qg rfl rfl rfl rfl rfl rfl rfl (by first | exact q_pickT rfl rfl | exact q_pickF rfl rfl) ?_
          refine L_q rfl rfl rfl (by first | exact q_pickT rfl rfl | exact q_pickF rfl rfl) ?_
          refine L_q rfl rfl rfl (q_assign rfl) ?_
          refine L_then ?_
          refine C_seq ?_
          refine C_region ?_
          refine L_q rfl rfl rfl (q_move rfl) ?_
          refine L_q rfl rfl rfl (q_not rfl (by first | exact (rfl : (!true) = false) | exact (rfl : (!false) = true) | exact decide_not.symm | rfl)) ?_
          refine L_q rfl rfl rfl (q_move rfl) ?_
          refine L_dec (d := 34) rfl (fun h6 => ?_) (fun h6 => ?_)
          · -- t34 True
            refine L_qg rfl rfl rfl rfl rfl rfl rfl (q_move rfl) ?_
            refine L_qg rfl rfl rfl rfl rfl rfl rfl (q_eql rfl rfl) ?_
            refine L_qg rfl rfl rfl rfl rfl rfl rfl (q_move rfl) ?_
            refine L_dec (d := 37) rfl (fun h7 => ?_) (fun h7 => ?_)
            · -- t37 True
              refine L_skip rfl rfl rfl rfl rfl rfl rfl ?_
              refine L_skip rfl rfl rfl rfl rfl rfl rfl ?_
              refine L_skip rfl rfl rfl rfl rfl rfl rfl ?_
              refine L_skip rfl rfl rfl rfl rfl rfl rfl ?_
              refine L_skip rfl rfl rfl rfl rfl rfl rfl ?_
              refine L_skipu rfl rfl rfl rfl rfl rfl ?_
              refine L_skipu rfl rfl rfl rfl rfl rfl ?_
              refine L_skipu rfl rfl rfl rfl rfl rfl ?_
              refine L_skipu rfl rfl rfl rfl rfl rfl ?_
              refine L_skipu rfl rfl rfl rfl rfl rfl ?_
              refine L_skipu rfl rfl rfl rfl rfl rfl ?_
              refine L_skipu rfl rfl rfl rfl rfl rfl ?_
              refine L_skipu rfl rfl rfl rfl rfl rfl ?_
              refine L_skipu rfl rfl rfl rfl rfl rfl ?_
              refine L_skipu rfl rfl rfl rfl rfl rfl ?_
              refine L_skip rfl rfl rfl rfl rfl rfl rfl ?_
              refine L_qg rfl rfl rfl rfl rfl rfl rfl (by first | exact q_pickT rfl rfl | exact q_pickF rfl rfl) ?_
              refine L_q rfl rfl rfl (by first | exact q_pickT rfl rfl | exact q_pickF rfl rfl) ?_
              refine L_then ?_
              refine C_true rfl ?_
              refine C_seq ?_
              refine C_region ?_
              refine L_q rfl rfl rfl (q_assign rfl) ?_
              refine L_then ?_
              refine C_ret ?_
              exact ret_of (res1 rfl rfl) sub_nil (by intro r hr; cases hr) ⟨(congrArg Value.bool (decide_eq_false (p := nameP s) (fun hh => by have h9 := hh.2.2 k (by omega); unfold okB ltrI at h9; omega)).symm), rfl⟩
            · -- t37 False
              refine L_qg rfl rfl rfl rfl rfl rfl rfl (q_move rfl) ?_
              refine L_qg rfl rfl rfl rfl rfl rfl rfl (q_move rfl) ?_
              refine L_qg rfl rfl rfl rfl rfl rfl rfl (q_indexS Try.underlying9 rfl rfl (by omega)) ?_
              refine L_qg rfl rfl rfl rfl rfl rfl rfl (q_neq rfl rfl) ?_
              refine L_qg rfl rfl rfl rfl rfl rfl rfl (q_move rfl) ?_
              refine L_dec (d := 42) rfl (fun h9 => ?_) (fun h9 => ?_)
              · -- t42 True
                refine L_qg rfl rfl rfl rfl rfl rfl rfl (q_move rfl) ?_
                refine L_qg rfl rfl rfl rfl rfl rfl rfl (q_move rfl) ?_
                refine L_qg rfl rfl rfl rfl rfl rfl rfl (q_indexS Try.underlying9 rfl rfl (by omega)) ?_
                refine L_qg rfl rfl rfl rfl rfl rfl rfl (q_lss rfl rfl) ?_
                refine L_qg rfl rfl rfl rfl rfl rfl rfl (q_move rfl) ?_
                refine L_dec (d := 47) rfl (fun h10 => ?_) (fun h10 => ?_)
                · -- t47 True
                  refine L_skip rfl rfl rfl rfl rfl rfl rfl ?_
                  refine L_skip rfl rfl rfl rfl rfl rfl rfl ?_
                  refine L_skip rfl rfl rfl rfl rfl rfl rfl ?_
                  refine L_skip rfl rfl rfl rfl rfl rfl rfl ?_
                  refine L_qg rfl rfl rfl rfl rfl rfl rfl (by first | exact q_pickT rfl rfl | exact q_pickF rfl rfl) ?_
                  refine L_qg rfl rfl rfl rfl rfl rfl rfl (by first | exact q_pickT rfl rfl | exact q_pickF rfl rfl) ?_
                  refine L_qg rfl rfl rfl rfl rfl rfl rfl (by first | exact q_pickT rfl rfl | exact q_pickF rfl rfl) ?_
                  refine L_q rfl rfl rfl (by first | exact q_pickT rfl rfl | exact q_pickF rfl rfl) ?_
                  refine L_then ?_
                  refine C_true rfl ?_
                  refine C_seq ?_
                  refine C_region ?_
                  refine L_q rfl rfl rfl (q_assign rfl) ?_
                  refine L_then ?_
                  refine C_ret ?_
                  exact ret_of (res1 rfl rfl) sub_nil (by intro r hr; cases hr) ⟨(congrArg Value.bool (decide_eq_false (p := nameP s) (fun hh => by have h9 := hh.2.2 k (by omega); unfold okB ltrI at h9; omega)).symm), rfl⟩
                · -- t47 False
                  refine L_qg rfl rfl rfl rfl rfl rfl rfl (q_move rfl) ?_
                  refine L_qg rfl rfl rfl rfl rfl rfl rfl (q_move rfl) ?_
                  refine L_qg rfl rfl rfl rfl rfl rfl rfl (q_indexS Try.underlying9 rfl rfl (by omega)) ?_
                  refine L_qg rfl rfl rfl rfl rfl rfl rfl (q_gtr rfl rfl) ?_
                  refine L_qg rfl rfl rfl rfl rfl rfl rfl (by first | exact q_pickT rfl rfl | exact q_pickF rfl rfl) ?_
                  refine L_qg rfl rfl rfl rfl rfl rfl rfl (by first | exact q_pickT rfl rfl | exact q_pickF rfl rfl) ?_
                  refine L_qg rfl rfl rfl rfl rfl rfl rfl (by first | exact q_pickT rfl rfl | exact q_pickF rfl rfl) ?_
                  refine L_q rfl rfl rfl (by first | exact q_pickT rfl rfl | exact q_pickF rfl rfl) ?_
                  refine L_then ?_
                  refine C_dec rfl (fun h12 => ?_) (fun h12 => ?_)
                  · -- t55 True
                    refine C_seq ?_
                    refine C_region ?_
                    refine L_q rfl rfl rfl (q_assign rfl) ?_
                    refine L_then ?_
                    refine C_ret ?_
                    exact ret_of (res1 rfl rfl) sub_nil (by intro r hr; cases hr) ⟨(congrArg Value.bool (decide_eq_false (p := nameP s) (fun hh => by have h9 := hh.2.2 k (by omega); unfold okB ltrI at h9; omega)).symm), rfl⟩
                  · -- t55 False
                    refine C_skip_blk ?_
                    refine C_region ?_
                    refine L_q rfl rfl rfl (q_add rfl rfl (by first | exact IntWalk.i64_in _ (by omega) | rfl)) ?_
                    refine L_q rfl rfl rfl (q_move rfl) ?_
                    refine L_end ?_
                    exact fun ac_ wo_ hs_ => ⟨k + 1, ⟨by omega, fun i hi => by rcases Nat.lt_or_eq_of_le (Nat.le_of_lt_succ hi) with h9 | rfl; exact hb i h9; (unfold okB ltrI; omega)⟩, (by dsimp only; omega), hs_.weak ⟨rfl, rfl, rfl, trivial⟩ (fun h => h.pk (by repeat (first | with_reducible exact pk_nil | refine pk_box rfl ?_ | refine pk_rd rfl ?_ | refine pk_sl rfl ?_ | with_reducible refine pk_app ?_ | with_reducible refine pk_app0 ?_ | with_reducible refine pk_app0L ?_ | with_reducible exact pk_tl | refine pk_var ?_)))⟩
              · -- t42 False
                refine L_skip rfl rfl rfl rfl rfl rfl rfl ?_
                refine L_skip rfl rfl rfl rfl rfl rfl rfl ?_
                refine L_skip rfl rfl rfl rfl rfl rfl rfl ?_
                refine L_skip rfl rfl rfl rfl rfl rfl rfl ?_
                refine L_skip rfl rfl rfl rfl rfl rfl rfl ?_
                refine L_skipu rfl rfl rfl rfl rfl rfl ?_
                refine L_skipu rfl rfl rfl rfl rfl rfl ?_
                refine L_skipu rfl rfl rfl rfl rfl rfl ?_
                refine L_skipu rfl rfl rfl rfl rfl rfl ?_
                refine L_skip rfl rfl rfl rfl rfl rfl rfl ?_
                refine L_qg rfl rfl rfl rfl rfl rfl rfl (by first | exact q_pickT rfl rfl | exact q_pickF rfl rfl) ?_
                refine L_qg rfl rfl rfl rfl rfl rfl rfl (by first | exact q_pickT rfl rfl | exact q_pickF rfl rfl) ?_
                refine L_q rfl rfl rfl (by first | exact q_pickT rfl rfl | exact q_pickF rfl rfl) ?_
                refine L_then ?_
                refine C_false rfl ?_
                refine C_skip_blk ?_
                refine C_region ?_
                refine L_q rfl rfl rfl (q_add rfl rfl (by first | exact IntWalk.i64_in _ (by omega) | rfl)) ?_
                refine L_q rfl rfl rfl (q_move rfl) ?_
                refine L_end ?_
                exact fun ac_ wo_ hs_ => ⟨k + 1, ⟨by omega, fun i hi => by rcases Nat.lt_or_eq_of_le (Nat.le_of_lt_succ hi) with h9 | rfl; exact hb i h9; (unfold okB ltrI; omega)⟩, (by dsimp only; omega), hs_.weak ⟨rfl, rfl, rfl, trivial⟩ (fun h => h.pk (by repeat (first | with_reducible exact pk_nil | refine pk_box rfl ?_ | refine pk_rd rfl ?_ | refine pk_sl rfl ?_ | with_reducible refine pk_app ?_ | with_reducible refine pk_app0 ?_ | with_reducible refine pk_app0L ?_ | with_reducible exact pk_tl | refine pk_var ?_)))⟩
          · -- t34 False
            refine L_skip rfl rfl rfl rfl rfl rfl rfl ?_
            refine L_skip rfl rfl rfl rfl rfl rfl rfl ?_
            refine L_skip rfl rfl rfl rfl rfl rfl rfl ?_
            refine L_skipu rfl rfl rfl rfl rfl rfl ?_
            refine L_skipu rfl rfl rfl rfl rfl rfl ?_
            refine L_skipu rfl rfl rfl rfl rfl rfl ?_
            refine L_skipu rfl rfl rfl rfl rfl rfl ?_
            refine L_skipu rfl rfl rfl rfl rfl rfl ?_
            refine L_skipu rfl rfl rfl rfl rfl rfl ?_
            refine L_skipu rfl rfl rfl rfl rfl rfl ?_
            refine L_skipu rfl rfl rfl rfl rfl rfl ?_
            refine L_skipu rfl rfl rfl rfl rfl rfl ?_
            refine L_skipu rfl rfl rfl rfl rfl rfl ?_
            refine L_skipu rfl rfl rfl rfl rfl rfl ?_
            refine L_skipu rfl rfl rfl rfl rfl rfl ?_
            refine L_skipu rfl rfl rfl rfl rfl rfl ?_
            refine L_skipu rfl rfl rfl rfl rfl rfl ?_
            refine L_skipu rfl rfl rfl rfl rfl rfl ?_
            refine L_skipu rfl rfl rfl rfl rfl rfl ?_
            refine L_skip rfl rfl rfl rfl rfl rfl rfl ?_
            refine L_q rfl rfl rfl (by first | exact q_pickT rfl rfl | exact q_pickF rfl rfl) ?_
            refine L_then ?_
            refine C_false rfl ?_
            refine C_skip_blk ?_
            refine C_region ?_
            refine L_q rfl rfl rfl (q_add rfl rfl (by first | exact IntWalk.i64_in _ (by omega) | rfl)) ?_
            refine L_q rfl rfl rfl (q_move rfl) ?_
            refine L_end ?_
            exact fun ac_ wo_ hs_ => ⟨k + 1, ⟨by omega, fun i hi => by rcases Nat.lt_or_eq_of_le (Nat.le_of_lt_succ hi) with h9 | rfl; exact hb i h9; (unfold okB ltrI; omega)⟩, (by dsimp only; omega), hs_.weak ⟨rfl, rfl, rfl, trivial⟩ (fun h => h.pk (by repeat (first | with_reducible exact pk_nil | refine pk_box rfl ?_ | refine pk_rd rfl ?_ | refine pk_sl rfl ?_ | with_reducible refine pk_app ?_ | with_reducible refine pk_app0 ?_ | with_reducible refine pk_app0L ?_ | with_reducible exact pk_tl | refine pk_var ?_)))⟩
        · -- t25 False
          refine L_skip rfl rfl rfl rfl rfl rfl rfl ?_
          refine L_skip rfl rfl rfl rfl rfl rfl rfl ?_
          refine L_skip rfl rfl rfl rfl rfl rfl rfl ?_
          refine L_skip rfl rfl rfl rfl rfl rfl rfl ?_
          refine L_qg rfl rfl rfl rfl rfl rfl rfl (by first | exact q_pickT rfl rfl | exact q_pickF rfl rfl) ?_
          refine L_q rfl rfl rfl (by first | exact q_pickT rfl rfl | exact q_pickF rfl rfl) ?_
          refine L_q rfl rfl rfl (q_assign rfl) ?_
          refine L_then ?_
          refine C_seq ?_
          refine C_region ?_
          refine L_q rfl rfl rfl (q_move rfl) ?_
          refine L_q rfl rfl rfl (q_not rfl (by first | exact (rfl : (!true) = false) | exact (rfl : (!false) = true) | exact decide_not.symm | rfl)) ?_
          refine L_q rfl rfl rfl (q_move rfl) ?_
          refine L_qg rfl rfl rfl rfl rfl rfl rfl (q_move rfl) ?_
          refine L_qg rfl rfl rfl rfl rfl rfl rfl (q_eql rfl rfl) ?_
          refine L_qg rfl rfl rfl rfl rfl rfl rfl (q_move rfl) ?_
          refine L_dec (d := 37) rfl (fun h15 => ?_) (fun h15 => ?_)
          · -- t37 True
            refine L_skip rfl rfl rfl rfl rfl rfl rfl ?_
            refine L_skip rfl rfl rfl rfl rfl rfl rfl ?_
            refine L_skip rfl rfl rfl rfl rfl rfl rfl ?_
            refine L_skip rfl rfl rfl rfl rfl rfl rfl ?_
            refine L_skip rfl rfl rfl rfl rfl rfl rfl ?_
            refine L_skipu rfl rfl rfl rfl rfl rfl ?_
            refine L_skipu rfl rfl rfl rfl rfl rfl ?_
            refine L_skipu rfl rfl rfl rfl rfl rfl ?_
            refine L_skipu rfl rfl rfl rfl rfl rfl ?_
            refine L_skipu rfl rfl rfl rfl rfl rfl ?_
            refine L_skipu rfl rfl rfl rfl rfl rfl ?_
            refine L_skipu rfl rfl rfl rfl rfl rfl ?_
            refine L_skipu rfl rfl rfl rfl rfl rfl ?_
            refine L_skipu rfl rfl rfl rfl rfl rfl ?_
            refine L_skipu rfl rfl rfl rfl rfl rfl ?_
            refine L_skip rfl rfl rfl rfl rfl rfl rfl ?_
            refine L_qg rfl rfl rfl rfl rfl rfl rfl (by first | exact q_pickT rfl rfl | exact q_pickF rfl rfl) ?_
            refine L_q rfl rfl rfl (by first | exact q_pickT rfl rfl | exact q_pickF rfl rfl) ?_
            refine L_then ?_
            refine C_true rfl ?_
            refine C_seq ?_
            refine C_region ?_
            refine L_q rfl rfl rfl (q_assign rfl) ?_
            refine L_then ?_
            refine C_ret ?_
            exact ret_of (res1 rfl rfl) sub_nil (by intro r hr; cases hr) ⟨(congrArg Value.bool (decide_eq_false (p := nameP s) (fun hh => by have h9 := hh.2.2 k (by omega); unfold okB ltrI at h9; omega)).symm), rfl⟩
          · -- t37 False
            refine L_qg rfl rfl rfl rfl rfl rfl rfl (q_move rfl) ?_
            refine L_qg rfl rfl rfl rfl rfl rfl rfl (q_move rfl) ?_
            refine L_qg rfl rfl rfl rfl rfl rfl rfl (q_indexS Try.underlying9 rfl rfl (by omega)) ?_
            refine L_qg rfl rfl rfl rfl rfl rfl rfl (q_neq rfl rfl) ?_
            refine L_qg rfl rfl rfl rfl rfl rfl rfl (q_move rfl) ?_
            refine L_dec (d := 42) rfl (fun h17 => ?_) (fun h17 => ?_)
            · -- t42 True
              refine L_qg rfl rfl rfl rfl rfl rfl rfl (q_move rfl) ?_
              refine L_qg rfl rfl rfl rfl rfl rfl rfl (q_move rfl) ?_
              refine L_qg rfl rfl rfl rfl rfl rfl rfl (q_indexS Try.underlying9 rfl rfl (by omega)) ?_
              refine L_qg rfl rfl rfl rfl rfl rfl rfl (q_lss rfl rfl) ?_
              refine L_qg rfl rfl rfl rfl rfl rfl rfl (q_move rfl) ?_
              refine L_dec (d := 47) rfl (fun h18 => ?_) (fun h18 => ?_)
              · -- t47 True
                refine L_skip rfl rfl rfl rfl rfl rfl rfl ?_
                refine L_skip rfl rfl rfl rfl rfl rfl rfl ?_
                refine L_skip rfl rfl rfl rfl rfl rfl rfl ?_
                refine L_skip rfl rfl rfl rfl rfl rfl rfl ?_
                refine L_qg rfl rfl rfl rfl rfl rfl rfl (by first | exact q_pickT rfl rfl | exact q_pickF rfl rfl) ?_
                refine L_qg rfl rfl rfl rfl rfl rfl rfl (by first | exact q_pickT rfl rfl | exact q_pickF rfl rfl) ?_
                refine L_qg rfl rfl rfl rfl rfl rfl rfl (by first | exact q_pickT rfl rfl | exact q_pickF rfl rfl) ?_
                refine L_q rfl rfl rfl (by first | exact q_pickT rfl rfl | exact q_pickF rfl rfl) ?_
                refine L_then ?_
                refine C_true rfl ?_
                refine C_seq ?_
                refine C_region ?_
                refine L_q rfl rfl rfl (q_assign rfl) ?_
                refine L_then ?_
                refine C_ret ?_
                exact ret_of (res1 rfl rfl) sub_nil (by intro r hr; cases hr) ⟨(congrArg Value.bool (decide_eq_false (p := nameP s) (fun hh => by have h9 := hh.2.2 k (by omega); unfold okB ltrI at h9; omega)).symm), rfl⟩
              · -- t47 False
                refine L_qg rfl rfl rfl rfl rfl rfl rfl (q_move rfl) ?_
                refine L_qg rfl rfl rfl rfl rfl rfl rfl (q_move rfl) ?_
                refine L_qg rfl rfl rfl rfl rfl rfl rfl (q_indexS Try.underlying9 rfl rfl (by omega)) ?_
                refine L_qg rfl rfl rfl rfl rfl rfl rfl (q_gtr rfl rfl) ?_
                refine L_qg rfl rfl rfl rfl rfl rfl rfl (by first | exact q_pickT rfl rfl | exact q_pickF rfl rfl) ?_
                refine L_qg rfl rfl rfl rfl rfl rfl rfl (by first | exact q_pickT rfl rfl | exact q_pickF rfl rfl) ?_
                refine L_qg rfl rfl rfl rfl rfl rfl rfl (by first | exact q_pickT rfl rfl | exact q_pickF rfl rfl) ?_
                refine L_q rfl rfl rfl (by first | exact q_pickT rfl rfl | exact q_pickF rfl rfl) ?_
                refine L_then ?_
                refine C_dec rfl (fun h20 => ?_) (fun h20 => ?_)
                · -- t55 True
                  refine C_seq ?_
                  refine C_region ?_
                  refine L_q rfl rfl rfl (q_assign rfl) ?_
                  refine L_then ?_
                  refine C_ret ?_
                  exact ret_of (res1 rfl rfl) sub_nil (by intro r hr; cases hr) ⟨(congrArg Value.bool (decide_eq_false (p := nameP s) (fun hh => by have h9 := hh.2.2 k (by omega); unfold okB ltrI at h9; omega)).symm), rfl⟩
                · -- t55 False
                  refine C_skip_blk ?_
                  refine C_region ?_
                  refine L_q rfl rfl rfl (q_add rfl rfl (by first | exact IntWalk.i64_in _ (by omega) | rfl)) ?_
                  refine L_q rfl rfl rfl (q_move rfl) ?_
                  refine L_end ?_
                  exact fun ac_ wo_ hs_ => ⟨k + 1, ⟨by omega, fun i hi => by rcases Nat.lt_or_eq_of_le (Nat.le_of_lt_succ hi) with h9 | rfl; exact hb i h9; (unfold okB ltrI; omega)⟩, (by dsimp only; omega), hs_.weak ⟨rfl, rfl, rfl, trivial⟩ (fun h => h.pk (by repeat (first | with_reducible exact pk_nil | refine pk_box rfl ?_ | refine pk_rd rfl ?_ | refine pk_sl rfl ?_ | with_reducible refine pk_app ?_ | with_reducible refine pk_app0 ?_ | with_reducible refine pk_app0L ?_ | with_reducible exact pk_tl | refine pk_var ?_)))⟩
            · -- t42 False
              refine L_skip rfl rfl rfl rfl rfl rfl rfl ?_
              refine L_skip rfl rfl rfl rfl rfl rfl rfl ?_
              refine L_skip rfl rfl rfl rfl rfl rfl rfl ?_
              refine L_skip rfl rfl rfl rfl rfl rfl rfl ?_
              refine L_skip rfl rfl rfl rfl rfl rfl rfl ?_
              refine L_skipu rfl rfl rfl rfl rfl rfl ?_
              refine L_skipu rfl rfl rfl rfl rfl rfl ?_
              refine L_skipu rfl rfl rfl rfl rfl rfl ?_
              refine L_skipu rfl rfl rfl rfl rfl rfl ?_
              refine L_skip rfl rfl rfl rfl rfl rfl rfl ?_
              refine L_qg rfl rfl rfl rfl rfl rfl rfl (by first | exact q_pickT rfl rfl | exact q_pickF rfl rfl) ?_
              refine L_qg rfl rfl rfl rfl rfl rfl rfl (by first | exact q_pickT rfl rfl | exact q_pickF rfl rfl) ?_
              refine L_q rfl rfl rfl (by first | exact q_pickT rfl rfl | exact q_pickF rfl rfl) ?_
              refine L_then ?_
              refine C_false rfl ?_
              refine C_skip_blk ?_
              refine C_region ?_
              refine L_q rfl rfl rfl (q_add rfl rfl (by first | exact IntWalk.i64_in _ (by omega) | rfl)) ?_
              refine L_q rfl rfl rfl (q_move rfl) ?_
              refine L_end ?_
              exact fun ac_ wo_ hs_ => ⟨k + 1, ⟨by omega, fun i hi => by rcases Nat.lt_or_eq_of_le (Nat.le_of_lt_succ hi) with h9 | rfl; exact hb i h9; (unfold okB ltrI; omega)⟩, (by dsimp only; omega), hs_.weak ⟨rfl, rfl, rfl, trivial⟩ (fun h => h.pk (by repeat (first | with_reducible exact pk_nil | refine pk_box rfl ?_ | refine pk_rd rfl ?_ | refine pk_sl rfl ?_ | with_reducible refine pk_app ?_ | with_reducible refine pk_app0 ?_ | with_reducible refine pk_app0L ?_ | with_reducible exact pk_tl | refine pk_var ?_)))⟩
    · -- t14 False
      refine L_skip rfl rfl rfl rfl rfl rfl rfl ?_
      refine L_skip rfl rfl rfl rfl rfl rfl rfl ?_
      refine L_skip rfl rfl rfl rfl rfl rfl rfl ?_
      refine L_skip rfl rfl rfl rfl rfl rfl rfl ?_
      refine L_q rfl rfl rfl (by first | exact q_pickT rfl rfl | exact q_pickF rfl rfl) ?_
      refine L_q rfl rfl rfl (q_move rfl) ?_
      refine L_qg rfl rfl rfl rfl rfl rfl rfl (q_move rfl) ?_
      refine L_qg rfl rfl rfl rfl rfl rfl rfl (q_move rfl) ?_
      refine L_qg rfl rfl rfl rfl rfl rfl rfl (q_indexS Try.underlying9 rfl rfl (by omega)) ?_
      refine L_qg rfl rfl rfl rfl rfl rfl rfl (q_geq rfl rfl) ?_
      refine L_qg rfl rfl rfl rfl rfl rfl rfl (q_move rfl) ?_
      refine L_dec (d := 25) rfl (fun h22 => ?_) (fun h22 => ?_)
      · -- t25 True
        refine L_qg rfl rfl rfl rfl rfl rfl rfl (q_move rfl) ?_
        refine L_qg rfl rfl rfl rfl rfl rfl rfl (q_move rfl) ?_
        refine L_qg rfl rfl rfl rfl rfl rfl rfl (q_indexS Try.underlying9 rfl rfl (by omega)) ?_
        refine L_qg rfl rfl rfl rfl rfl rfl rfl (q_leq rfl rfl) ?_
        refine L_qg rfl rfl rfl rfl rfl rfl rfl (by first | exact q_pickT rfl rfl | exact q_pickF rfl rfl) ?_
        refine L_q rfl rfl rfl (by first | exact q_pickT rfl rfl | exact q_pickF rfl rfl) ?_
        refine L_q rfl rfl rfl (q_assign rfl) ?_
        refine L_then ?_
        refine C_seq ?_
        refine C_region ?_
        refine L_q rfl rfl rfl (q_move rfl) ?_
        refine L_q rfl rfl rfl (q_not rfl (by first | exact (rfl : (!true) = false) | exact (rfl : (!false) = true) | exact decide_not.symm | rfl)) ?_
        refine L_q rfl rfl rfl (q_move rfl) ?_
        refine L_dec (d := 34) rfl (fun h23 => ?_) (fun h23 => ?_)
        · -- t34 True
          refine L_qg rfl rfl rfl rfl rfl rfl rfl (q_move rfl) ?_
          refine L_qg rfl rfl rfl rfl rfl rfl rfl (q_eql rfl rfl) ?_
          refine L_qg rfl rfl rfl rfl rfl rfl rfl (q_move rfl) ?_
          refine L_dec (d := 37) rfl (fun h24 => ?_) (fun h24 => ?_)
          · -- t37 True
            refine L_skip rfl rfl rfl rfl rfl rfl rfl ?_
            refine L_skip rfl rfl rfl rfl rfl rfl rfl ?_
            refine L_skip rfl rfl rfl rfl rfl rfl rfl ?_
            refine L_skip rfl rfl rfl rfl rfl rfl rfl ?_
            refine L_skip rfl rfl rfl rfl rfl rfl rfl ?_
            refine L_skipu rfl rfl rfl rfl rfl rfl ?_
            refine L_skipu rfl rfl rfl rfl rfl rfl ?_
            refine L_skipu rfl rfl rfl rfl rfl rfl ?_
            refine L_skipu rfl rfl rfl rfl rfl rfl ?_
            refine L_skipu rfl rfl rfl rfl rfl rfl ?_
            refine L_skipu rfl rfl rfl rfl rfl rfl ?_
            refine L_skipu rfl rfl rfl rfl rfl rfl ?_
            refine L_skipu rfl rfl rfl rfl rfl rfl ?_
            refine L_skipu rfl rfl rfl rfl rfl rfl ?_
            refine L_skipu rfl rfl rfl rfl rfl rfl ?_
            refine L_skip rfl rfl rfl rfl rfl rfl rfl ?_
            refine L_qg rfl rfl rfl rfl rfl rfl rfl (by first | exact q_pickT rfl rfl | exact q_pickF rfl rfl) ?_
            refine L_q rfl rfl rfl (by first | exact q_pickT rfl rfl | exact q_pickF rfl rfl) ?_
            refine L_then ?_
            refine C_true rfl ?_
            refine C_seq ?_
            refine C_region ?_
            refine L_q rfl rfl rfl (q_assign rfl) ?_
            refine L_then ?_
            refine C_ret ?_
            exact ret_of (res1 rfl rfl) sub_nil (by intro r hr; cases hr) ⟨(congrArg Value.bool (decide_eq_false (p := nameP s) (fun hh => by have h9 := hh.2.2 k (by omega); unfold okB ltrI at h9; omega)).symm), rfl⟩
          · -- t37 False
            refine L_qg rfl rfl rfl rfl rfl rfl rfl (q_move rfl) ?_
            refine L_qg rfl rfl rfl rfl rfl rfl rfl (q_move rfl) ?_
            refine L_qg rfl rfl rfl rfl rfl rfl rfl (q_indexS Try.underlying9 rfl rfl (by omega)) ?_
            refine L_qg rfl rfl rfl rfl rfl rfl rfl (q_neq rfl rfl) ?_
            refine L_qg rfl rfl rfl rfl rfl rfl rfl (q_move rfl) ?_
            refine L_dec (d := 42) rfl (fun h26 => ?_) (fun h26 => ?_)
            · -- t42 True
              refine L_qg rfl rfl rfl rfl rfl rfl rfl (q_move rfl) ?_
              refine L_qg rfl rfl rfl rfl rfl rfl rfl (q_move rfl) ?_
              refine L_qg rfl rfl rfl rfl rfl rfl rfl (q_indexS Try.underlying9 rfl rfl (by omega)) ?_
              refine L_qg rfl rfl rfl rfl rfl rfl rfl (q_lss rfl rfl) ?_
              refine L_qg rfl rfl rfl rfl rfl rfl rfl (q_move rfl) ?_
              refine L_dec (d := 47) rfl (fun h27 => ?_) (fun h27 => ?_)
              · -- t47 True
                refine L_skip rfl rfl rfl rfl rfl rfl rfl ?_
                refine L_skip rfl rfl rfl rfl rfl rfl rfl ?_
                refine L_skip rfl rfl rfl rfl rfl rfl rfl ?_
                refine L_skip rfl rfl rfl rfl rfl rfl rfl ?_
                refine L_qg rfl rfl rfl rfl rfl rfl rfl (by first | exact q_pickT rfl rfl | exact q_pickF rfl rfl) ?_
                refine L_qg rfl rfl rfl rfl rfl rfl rfl (by first | exact q_pickT rfl rfl | exact q_pickF rfl rfl) ?_
                refine L_qg rfl rfl rfl rfl rfl rfl rfl (by first | exact q_pickT rfl rfl | exact q_pickF rfl rfl) ?_
                refine L_q rfl rfl rfl (by first | exact q_pickT rfl rfl | exact q_pickF rfl rfl) ?_
                refine L_then ?_
                refine C_true rfl ?_
                refine C_seq ?_
                refine C_region ?_
                refine L_q rfl rfl rfl (q_assign rfl) ?_
                refine L_then ?_
                refine C_ret ?_
                exact ret_of (res1 rfl rfl) sub_nil (by intro r hr; cases hr) ⟨(congrArg Value.bool (decide_eq_false (p := nameP s) (fun hh => by have h9 := hh.2.2 k (by omega); unfold okB ltrI at h9; omega)).symm), rfl⟩
              · -- t47 False
                refine L_qg rfl rfl rfl rfl rfl rfl rfl (q_move rfl) ?_
                refine L_qg rfl rfl rfl rfl rfl rfl rfl (q_move rfl) ?_
                refine L_qg rfl rfl rfl rfl rfl rfl rfl (q_indexS Try.underlying9 rfl rfl (by omega)) ?_
                refine L_qg rfl rfl rfl rfl rfl rfl rfl (q_gtr rfl rfl) ?_
                refine L_qg rfl rfl rfl rfl rfl rfl rfl (by first | exact q_pickT rfl rfl | exact q_pickF rfl rfl) ?_
                refine L_qg rfl rfl rfl rfl rfl rfl rfl (by first | exact q_pickT rfl rfl | exact q_pickF rfl rfl) ?_
                refine L_qg rfl rfl rfl rfl rfl rfl rfl (by first | exact q_pickT rfl rfl | exact q_pickF rfl rfl) ?_
                refine L_q rfl rfl rfl (by first | exact q_pickT rfl rfl | exact q_pickF rfl rfl) ?_
                refine L_then ?_
                refine C_dec rfl (fun h29 => ?_) (fun h29 => ?_)
                · -- t55 True
                  refine C_seq ?_
                  refine C_region ?_
                  refine L_q rfl rfl rfl (q_assign rfl) ?_
                  refine L_then ?_
                  refine C_ret ?_
                  exact ret_of (res1 rfl rfl) sub_nil (by intro r hr; cases hr) ⟨(congrArg Value.bool (decide_eq_false (p := nameP s) (fun hh => by have h9 := hh.2.2 k (by omega); unfold okB ltrI at h9; omega)).symm), rfl⟩
                · -- t55 False
                  refine C_skip_blk ?_
                  refine C_region ?_
                  refine L_q rfl rfl rfl (q_add rfl rfl (by first | exact IntWalk.i64_in _ (by omega) | rfl)) ?_
                  refine L_q rfl rfl rfl (q_move rfl) ?_
                  refine L_end ?_
                  exact fun ac_ wo_ hs_ => ⟨k + 1, ⟨by omega, fun i hi => by rcases Nat.lt_or_eq_of_le (Nat.le_of_lt_succ hi) with h9 | rfl; exact hb i h9; (unfold okB ltrI; omega)⟩, (by dsimp only; omega), hs_.weak ⟨rfl, rfl, rfl, trivial⟩ (fun h => h.pk (by repeat (first | with_reducible exact pk_nil | refine pk_box rfl ?_ | refine pk_rd rfl ?_ | refine pk_sl rfl ?_ | with_reducible refine pk_app ?_ | with_reducible refine pk_app0 ?_ | with_reducible refine pk_app0L ?_ | with_reducible exact pk_tl | refine pk_var ?_)))⟩
            · -- t42 False
              refine L_skip rfl rfl rfl rfl rfl rfl rfl ?_
              refine L_skip rfl rfl rfl rfl rfl rfl rfl ?_
              refine L_skip rfl rfl rfl rfl rfl rfl rfl ?_
              refine L_skip rfl rfl rfl rfl rfl rfl rfl ?_
              refine L_skip rfl rfl rfl rfl rfl rfl rfl ?_
              refine L_skipu rfl rfl rfl rfl rfl rfl ?_
              refine L_skipu rfl rfl rfl rfl rfl rfl ?_
              refine L_skipu rfl rfl rfl rfl rfl rfl ?_
              refine L_skipu rfl rfl rfl rfl rfl rfl ?_
              refine L_skip rfl rfl rfl rfl rfl rfl rfl ?_
              refine L_qg rfl rfl rfl rfl rfl rfl rfl (by first | exact q_pickT rfl rfl | exact q_pickF rfl rfl) ?_
              refine L_qg rfl rfl rfl rfl rfl rfl rfl (by first | exact q_pickT rfl rfl | exact q_pickF rfl rfl) ?_
              refine L_q rfl rfl rfl (by first | exact q_pickT rfl rfl | exact q_pickF rfl rfl) ?_
              refine L_then ?_
              refine C_false rfl ?_
              refine C_skip_blk ?_
              refine C_region ?_
              refine L_q rfl rfl rfl (q_add rfl rfl (by first | exact IntWalk.i64_in _ (by omega) | rfl)) ?_
              refine L_q rfl rfl rfl (q_move rfl) ?_
              refine L_end ?_
              exact fun ac_ wo_ hs_ => ⟨k + 1, ⟨by omega, fun i hi => by rcases Nat.lt_or_eq_of_le (Nat.le_of_lt_succ hi) with h9 | rfl; exact hb i h9; (unfold okB ltrI; omega)⟩, (by dsimp only; omega), hs_.weak ⟨rfl, rfl, rfl, trivial⟩ (fun h => h.pk (by repeat (first | with_reducible exact pk_nil | refine pk_box rfl ?_ | refine pk_rd rfl ?_ | refine pk_sl rfl ?_ | with_reducible refine pk_app ?_ | with_reducible refine pk_app0 ?_ | with_reducible refine pk_app0L ?_ | with_reducible exact pk_tl | refine pk_var ?_)))⟩
        · -- t34 False
          refine L_skip rfl rfl rfl rfl rfl rfl rfl ?_
          refine L_skip rfl rfl rfl rfl rfl rfl rfl ?_
          refine L_skip rfl rfl rfl rfl rfl rfl rfl ?_
          refine L_skipu rfl rfl rfl rfl rfl rfl ?_
          refine L_skipu rfl rfl rfl rfl rfl rfl ?_
          refine L_skipu rfl rfl rfl rfl rfl rfl ?_
          refine L_skipu rfl rfl rfl rfl rfl rfl ?_
          refine L_skipu rfl rfl rfl rfl rfl rfl ?_
          refine L_skipu rfl rfl rfl rfl rfl rfl ?_
          refine L_skipu rfl rfl rfl rfl rfl rfl ?_
          refine L_skipu rfl rfl rfl rfl rfl rfl ?_
          refine L_skipu rfl rfl rfl rfl rfl rfl ?_
          refine L_skipu rfl rfl rfl rfl rfl rfl ?_
          refine L_skipu rfl rfl rfl rfl rfl rfl ?_
          refine L_skipu rfl rfl rfl rfl rfl rfl ?_
          refine L_skipu rfl rfl rfl rfl rfl rfl ?_
          refine L_skipu rfl rfl rfl rfl rfl rfl ?_
          refine L_skipu rfl rfl rfl rfl rfl rfl ?_
          refine L_skipu rfl rfl rfl rfl rfl rfl ?_
          refine L_skip rfl rfl rfl rfl rfl rfl rfl ?_
          refine L_q rfl rfl rfl (by first | exact q_pickT rfl rfl | exact q_pickF rfl rfl) ?_
          refine L_then ?_
          refine C_false rfl ?_
          refine C_skip_blk ?_
          refine C_region ?_
          refine L_q rfl rfl rfl (q_add rfl rfl (by first | exact IntWalk.i64_in _ (by omega) | rfl)) ?_
          refine L_q rfl rfl rfl (q_move rfl) ?_
          refine L_end ?_
          exact fun ac_ wo_ hs_ => ⟨k + 1, ⟨by omega, fun i hi => by rcases Nat.lt_or_eq_of_le (Nat.le_of_lt_succ hi) with h9 | rfl; exact hb i h9; (unfold okB ltrI; omega)⟩, (by dsimp only; omega), hs_.weak ⟨rfl, rfl, rfl, trivial⟩ (fun h => h.pk (by repeat (first | with_reducible exact pk_nil | refine pk_box rfl ?_ | refine pk_rd rfl ?_ | refine pk_sl rfl ?_ | with_reducible refine pk_app ?_ | with_reducible refine pk_app0 ?_ | with_reducible refine pk_app0L ?_ | with_reducible exact pk_tl | refine pk_var ?_)))⟩
      · -- t25 False
        refine L_skip rfl rfl rfl rfl rfl rfl rfl ?_
        refine L_skip rfl rfl rfl rfl rfl rfl rfl ?_
        refine L_skip rfl rfl rfl rfl rfl rfl rfl ?_
        refine L_skip rfl rfl rfl rfl rfl rfl rfl ?_
        refine L_qg rfl rfl rfl rfl rfl rfl rfl (by first | exact q_pickT rfl rfl | exact q_pickF rfl rfl) ?_
        refine L_q rfl rfl rfl (by first | exact q_pickT rfl rfl | exact q_pickF rfl rfl) ?_
        refine L_q rfl rfl rfl (q_assign rfl) ?_
        refine L_then ?_
        refine C_seq ?_
        refine C_region ?_
        refine L_q rfl rfl rfl (q_move rfl) ?_
        refine L_q rfl rfl rfl (q_not rfl (by first | exact (rfl : (!true) = false) | exact (rfl : (!false) = true) | exact decide_not.symm | rfl)) ?_
        refine L_q rfl rfl rfl (q_move rfl) ?_
        refine L_qg rfl rfl rfl rfl rfl rfl rfl (q_move rfl) ?_
        refine L_qg rfl rfl rfl rfl rfl rfl rfl (q_eql rfl rfl) ?_
        refine L_qg rfl rfl rfl rfl rfl rfl rfl (q_move rfl) ?_
        refine L_dec (d := 37) rfl (fun h32 => ?_) (fun h32 => ?_)
        · -- t37 True
          refine L_skip rfl rfl rfl rfl rfl rfl rfl ?_
          refine L_skip rfl rfl rfl rfl rfl rfl rfl ?_
          refine L_skip rfl rfl rfl rfl rfl rfl rfl ?_
          refine L_skip rfl rfl rfl rfl rfl rfl rfl ?_
          refine L_skip rfl rfl rfl rfl rfl rfl rfl ?_
          refine L_skipu rfl rfl rfl rfl rfl rfl ?_
          refine L_skipu rfl rfl rfl rfl rfl rfl ?_
          refine L_skipu rfl rfl rfl rfl rfl rfl ?_
          refine L_skipu rfl rfl rfl rfl rfl rfl ?_
          refine L_skipu rfl rfl rfl rfl rfl rfl ?_
          refine L_skipu rfl rfl rfl rfl rfl rfl ?_
          refine L_skipu rfl rfl rfl rfl rfl rfl ?_
          refine L_skipu rfl rfl rfl rfl rfl rfl ?_
          refine L_skipu rfl rfl rfl rfl rfl rfl ?_
          refine L_skipu rfl rfl rfl rfl rfl rfl ?_
          refine L_skip rfl rfl rfl rfl rfl rfl rfl ?_
          refine L_qg rfl rfl rfl rfl rfl rfl rfl (by first | exact q_pickT rfl rfl | exact q_pickF rfl rfl) ?_
          refine L_q rfl rfl rfl (by first | exact q_pickT rfl rfl | exact q_pickF rfl rfl) ?_
          refine L_then ?_
          refine C_true rfl ?_
          refine C_seq ?_
          refine C_region ?_
          refine L_q rfl rfl rfl (q_assign rfl) ?_
          refine L_then ?_
          refine C_ret ?_
          exact ret_of (res1 rfl rfl) sub_nil (by intro r hr; cases hr) ⟨(congrArg Value.bool (decide_eq_false (p := nameP s) (fun hh => by have h9 := hh.2.2 k (by omega); unfold okB ltrI at h9; omega)).symm), rfl⟩
        · -- t37 False
          refine L_qg rfl rfl rfl rfl rfl rfl rfl (q_move rfl) ?_
          refine L_qg rfl rfl rfl rfl rfl rfl rfl (q_move rfl) ?_
          refine L_qg rfl rfl rfl rfl rfl rfl rfl (q_indexS Try.underlying9 rfl rfl (by omega)) ?_
          refine L_qg rfl rfl rfl rfl rfl rfl rfl (q_neq rfl rfl) ?_
          refine L_qg rfl rfl rfl rfl rfl rfl rfl (q_move rfl) ?_
          refine L_dec (d := 42) rfl (fun h34 => ?_) (fun h34 => ?_)
          · -- t42 True
            refine L_qg rfl rfl rfl rfl rfl rfl rfl (q_move rfl) ?_
            refine L_qg rfl rfl rfl rfl rfl rfl rfl (q_move rfl) ?_
            refine L_qg rfl rfl rfl rfl rfl rfl rfl (q_indexS Try.underlying9 rfl rfl (by omega)) ?_
            refine L_qg rfl rfl rfl rfl rfl rfl rfl (q_lss rfl rfl) ?_
            refine L_qg rfl rfl rfl rfl rfl rfl rfl (q_move rfl) ?_
            refine L_dec (d := 47) rfl (fun h35 => ?_) (fun h35 => ?_)
            · -- t47 True
              refine L_skip rfl rfl rfl rfl rfl rfl rfl ?_
              refine L_skip rfl rfl rfl rfl rfl rfl rfl ?_
              refine L_skip rfl rfl rfl rfl rfl rfl rfl ?_
              refine L_skip rfl rfl rfl rfl rfl rfl rfl ?_
              refine L_qg rfl rfl rfl rfl rfl rfl rfl (by first | exact q_pickT rfl rfl | exact q_pickF rfl rfl) ?_
              refine L_qg rfl rfl rfl rfl rfl rfl rfl (by first | exact q_pickT rfl rfl | exact q_pickF rfl rfl) ?_
              refine L_qg rfl rfl rfl rfl rfl rfl rfl (by first | exact q_pickT rfl rfl | exact q_pickF rfl rfl) ?_
              refine L_q rfl rfl rfl (by first | exact q_pickT rfl rfl | exact q_pickF rfl rfl) ?_
              refine L_then ?_
              refine C_true rfl ?_
              refine C_seq ?_
              refine C_region ?_
              refine L_q rfl rfl rfl (q_assign rfl) ?_
              refine L_then ?_
              refine C_ret ?_
              exact ret_of (res1 rfl rfl) sub_nil (by intro r hr; cases hr) ⟨(congrArg Value.bool (decide_eq_false (p := nameP s) (fun hh => by have h9 := hh.2.2 k (by omega); unfold okB ltrI at h9; omega)).symm), rfl⟩
            · -- t47 False
              refine L_qg rfl rfl rfl rfl rfl rfl rfl (q_move rfl) ?_
              refine L_qg rfl rfl rfl rfl rfl rfl rfl (q_move rfl) ?_
              refine L_qg rfl rfl rfl rfl rfl rfl rfl (q_indexS Try.underlying9 rfl rfl (by omega)) ?_
              refine L_qg rfl rfl rfl rfl rfl rfl rfl (q_gtr rfl rfl) ?_
              refine L_qg rfl rfl rfl rfl rfl rfl rfl (by first | exact q_pickT rfl rfl | exact q_pickF rfl rfl) ?_
              refine L_qg rfl rfl rfl rfl rfl rfl rfl (by first | exact q_pickT rfl rfl | exact q_pickF rfl rfl) ?_
              refine L_qg rfl rfl rfl rfl rfl rfl rfl (by first | exact q_pickT rfl rfl | exact q_pickF rfl rfl) ?_
              refine L_q rfl rfl rfl (by first | exact q_pickT rfl rfl | exact q_pickF rfl rfl) ?_
              refine L_then ?_
              refine C_dec rfl (fun h37 => ?_) (fun h37 => ?_)
              · -- t55 True
                refine C_seq ?_
                refine C_region ?_
                refine L_q rfl rfl rfl (q_assign rfl) ?_
                refine L_then ?_
                refine C_ret ?_
                exact ret_of (res1 rfl rfl) sub_nil (by intro r hr; cases hr) ⟨(congrArg Value.bool (decide_eq_false (p := nameP s) (fun hh => by have h9 := hh.2.2 k (by omega); unfold okB ltrI at h9; omega)).symm), rfl⟩
              · -- t55 False
                refine C_skip_blk ?_
                refine C_region ?_
                refine L_q rfl rfl rfl (q_add rfl rfl (by first | exact IntWalk.i64_in _ (by omega) | rfl)) ?_
                refine L_q rfl rfl rfl (q_move rfl) ?_
                refine L_end ?_
                exact fun ac_ wo_ hs_ => ⟨k + 1, ⟨by omega, fun i hi => by rcases Nat.lt_or_eq_of_le (Nat.le_of_lt_succ hi) with h9 | rfl; exact hb i h9; (unfold okB ltrI; omega)⟩, (by dsimp only; omega), hs_.weak ⟨rfl, rfl, rfl, trivial⟩ (fun h => h.pk (by repeat (first | with_reducible exact pk_nil | refine pk_box rfl ?_ | refine pk_rd rfl ?_ | refine pk_sl rfl ?_ | with_reducible refine pk_app ?_ | with_reducible refine pk_app0 ?_ | with_reducible refine pk_app0L ?_ | with_reducible exact pk_tl | refine pk_var ?_)))⟩
          · -- t42 False
            refine L_skip rfl rfl rfl rfl rfl rfl rfl ?_
            refine L_skip rfl rfl rfl rfl rfl rfl rfl ?_
            refine L_skip rfl rfl rfl rfl rfl rfl rfl ?_
            refine L_skip rfl rfl rfl rfl rfl rfl rfl ?_
            refine L_skip rfl rfl rfl rfl rfl rfl rfl ?_
            refine L_skipu rfl rfl rfl rfl rfl rfl ?_
            refine L_skipu rfl rfl rfl rfl rfl rfl ?_
            refine L_skipu rfl rfl rfl rfl rfl rfl ?_
            refine L_skipu rfl rfl rfl rfl rfl rfl ?_
            refine L_skip rfl rfl rfl rfl rfl rfl rfl ?_
            refine L_qg rfl rfl rfl rfl rfl rfl rfl (by first | exact q_pickT rfl rfl | exact q_pickF rfl rfl) ?_
            refine L_qg rfl rfl rfl rfl rfl rfl rfl (by first | exact q_pickT rfl rfl | exact q_pickF rfl rfl) ?_
            refine L_q rfl rfl rfl (by first | exact q_pickT rfl rfl | exact q_pickF rfl rfl) ?_
            refine L_then ?_
            refine C_false rfl ?_
            refine C_skip_blk ?_
            refine C_region ?_
            refine L_q rfl rfl rfl (q_add rfl rfl (by first | exact IntWalk.i64_in _ (by omega) | rfl)) ?_
            refine L_q rfl rfl rfl (q_move rfl) ?_
            refine L_end ?_
            exact fun ac_ wo_ hs_ => ⟨k + 1, ⟨by omega, fun i hi => by rcases Nat.lt_or_eq_of_le (Nat.le_of_lt_succ hi) with h9 | rfl; exact hb i h9; (unfold okB ltrI; omega)⟩, (by dsimp only; omega), hs_.weak ⟨rfl, rfl, rfl, trivial⟩ (fun h => h.pk (by repeat (first | with_reducible exact pk_nil | refine pk_box rfl ?_ | refine pk_rd rfl ?_ | refine pk_sl rfl ?_ | with_reducible refine pk_app ?_ | with_reducible refine pk_app0 ?_ | with_reducible refine pk_app0L ?_ | with_reducible exact pk_tl | refine pk_var ?_)))⟩
  · -- t8 False
    refine C_exit ?_
    change C Try.prog _ _ _ _ _ _ _
    refine C_seq ?_
    refine C_region ?_
    refine L_q rfl rfl rfl (q_move rfl) ?_
    refine L_q rfl rfl rfl (q_neqE rfl rfl) ?_
    refine L_q rfl rfl rfl (q_move rfl) ?_
    refine L_dec (d := 59) rfl (fun h39 => ?_) (fun h39 => ?_)
    · -- t59 True
      refine L_qg rfl rfl rfl rfl rfl rfl rfl (q_move rfl) ?_
      refine L_qg rfl rfl rfl rfl rfl rfl rfl (q_lenS Try.underlying9 rfl) ?_
      refine L_qg rfl rfl rfl rfl rfl rfl rfl (q_leq rfl rfl) ?_
      refine L_q rfl rfl rfl (by first | exact q_pickT rfl rfl | exact q_pickF rfl rfl) ?_
      refine L_q rfl rfl rfl (q_assign rfl) ?_
      refine L_then ?_
      refine C_ret ?_
      exact ret_of (res1 rfl rfl) sub_nil (by intro r hr; cases hr) ⟨(congrArg Value.bool (by first | exact (decide_eq_false (p := nameP s) (fun hh => by have h9 := hh.1; have h8 := hh.2.1; omega)).symm | exact decide_eq_decide.2 ⟨fun hh => ⟨by omega, by omega, fun i hi => hb i (by omega)⟩, fun hh => by have h9 := hh.1; have h8 := hh.2.1; omega⟩)), rfl⟩
    · -- t59 False
      refine L_skip rfl rfl rfl rfl rfl rfl rfl ?_
      refine L_skip rfl rfl rfl rfl rfl rfl rfl ?_
      refine L_skip rfl rfl rfl rfl rfl rfl rfl ?_
      refine L_q rfl rfl rfl (by first | exact q_pickT rfl rfl | exact q_pickF rfl rfl) ?_
      refine L_q rfl rfl rfl (q_assign rfl) ?_
      refine L_then ?_
      refine C_ret ?_
      exact ret_of (res1 rfl rfl) sub_nil (by intro r hr; cases hr) ⟨(congrArg Value.bool (by first | exact (decide_eq_false (p := nameP s) (fun hh => by have h9 := hh.1; have h8 := hh.2.1; omega)).symm | exact decide_eq_decide.2 ⟨fun hh => ⟨by omega, by omega, fun i hi => hb i (by omega)⟩, fun hh => by have h9 := hh.1; have h8 := hh.2.1; omega⟩)), rfl⟩
set_option maxRecDepth 100000 in
theorem ct_shotlinebase_IsName (s : ByteArray) : Ct Try.prog 145 [.string s] [] (isV (.bool (decide (nameP s)))) := by
  refine Ct.of (N := 55) Try.func145 rfl rfl rfl fun w => ?_
  refine C_weak (E' := [(0, .string s)]) (rs' := []) ⟨rfl, trivial⟩ (fun _ h => h) ?_
  refine C_seq ?_
  refine C_region ?_
  refine L_q rfl rfl rfl (q_assign rfl) ?_
  refine L_then ?_
  refine C_seq ?_
  refine C_seq ?_
  refine C_region ?_
  refine L_q rfl rfl rfl (q_move rfl) ?_
  refine L_q rfl rfl rfl (q_lenS Try.underlying9 rfl) ?_
  refine L_q rfl rfl rfl (q_lss rfl rfl) ?_
  refine L_q rfl rfl rfl (q_move rfl) ?_
  refine L_dec (d := 9) rfl (fun h1 => ?_) (fun h1 => ?_)
  · -- t9 True
    refine L_skip rfl rfl rfl rfl rfl rfl rfl ?_
    refine L_skip rfl rfl rfl rfl rfl rfl rfl ?_
    refine L_skip rfl rfl rfl rfl rfl rfl rfl ?_
    refine L_q rfl rfl rfl (by first | exact q_pickT rfl rfl | exact q_pickF rfl rfl) ?_
    refine L_then ?_
    refine C_true rfl ?_
    refine C_seq ?_
    refine C_region ?_
    refine L_q rfl rfl rfl (q_assign rfl) ?_
    refine L_then ?_
    refine C_ret ?_
    exact ret_of (res1 rfl rfl) sub_nil (by intro r hr; cases hr) ⟨(congrArg Value.bool (decide_eq_false (p := nameP s) (fun hh => by have h9 := hh.1; have h8 := hh.2.1; omega)).symm), rfl⟩
  · -- t9 False
    refine L_qg rfl rfl rfl rfl rfl rfl rfl (q_move rfl) ?_
    refine L_qg rfl rfl rfl rfl rfl rfl rfl (q_lenS Try.underlying9 rfl) ?_
    refine L_qg rfl rfl rfl rfl rfl rfl rfl (q_gtr rfl rfl) ?_
    refine L_q rfl rfl rfl (by first | exact q_pickT rfl rfl | exact q_pickF rfl rfl) ?_
    refine L_then ?_
    refine C_dec rfl (fun h3 => ?_) (fun h3 => ?_)
    · -- t13 True
      refine C_seq ?_
      refine C_region ?_
      refine L_q rfl rfl rfl (q_assign rfl) ?_
      refine L_then ?_
      refine C_ret ?_
      exact ret_of (res1 rfl rfl) sub_nil (by intro r hr; cases hr) ⟨(congrArg Value.bool (decide_eq_false (p := nameP s) (fun hh => by have h9 := hh.1; have h8 := hh.2.1; omega)).symm), rfl⟩
    · -- t13 False
      refine C_skip_then ?_
      refine C_seq ?_
      refine C_seq ?_
      refine C_region ?_
      refine L_q rfl rfl rfl (q_assign rfl) ?_
      refine L_then ?_
      refine C_block ?_
      refine C_loop (ι := Nat) (fun k => ([(0, .string s), (3, .int .i64 (k : Int))], [])) (fun k => k ≤ s.size ∧ ∀ i, i < k → okB i (bAt s i)) (fun k => s.size - k) 0 ⟨Nat.zero_le _, fun i hi => absurd hi (Nat.not_lt_zero _)⟩ (fun a w hs => hs.weak ⟨rfl, rfl, trivial⟩ (fun h => h.pk (by repeat (first | with_reducible exact pk_nil | refine pk_box rfl ?_ | refine pk_rd rfl ?_ | refine pk_sl rfl ?_ | with_reducible refine pk_app ?_ | with_reducible refine pk_app0 ?_ | with_reducible refine pk_app0L ?_ | with_reducible exact pk_tl | refine pk_var ?_)))) ?_
      rintro k ⟨hk, hb⟩
      dsimp only at hk hb ⊢
      refine C_seq ?_
      refine C_seq ?_
      refine C_region ?_
      refine L_q rfl rfl rfl (q_move rfl) ?_
      refine L_q rfl rfl rfl (q_move rfl) ?_
      refine L_q rfl rfl rfl (q_lenS Try.underlying9 rfl) ?_
      refine L_q rfl rfl rfl (q_lss rfl rfl) ?_
      refine L_then ?_
      refine C_dec rfl (fun h4 => ?_) (fun h4 => ?_)
      · -- t17 True
        have hbk := bAt_in s k
        refine C_skip_then ?_
        refine C_seq ?_
        refine C_block ?_
        refine C_seq ?_
        refine C_region ?_
        refine L_q rfl rfl rfl (q_move rfl) ?_
        refine L_q rfl rfl rfl (q_move rfl) ?_
        refine L_q rfl rfl rfl (q_indexS Try.underlying9 rfl rfl (by omega)) ?_
        refine L_q rfl rfl rfl (q_assign rfl) ?_
        refine L_then ?_
        refine C_seq ?_
        refine C_region ?_
        refine L_q rfl rfl rfl (q_move rfl) ?_
        refine L_q rfl rfl rfl (q_geq rfl rfl) ?_
        refine L_q rfl rfl rfl (q_move rfl) ?_
        refine L_dec (d := 25) rfl (fun h5 => ?_) (fun h5 => ?_)
        · -- t25 True
          refine L_qg rfl rfl rfl rfl rfl rfl rfl (q_move rfl) ?_
          refine L_qg rfl rfl rfl rfl rfl rfl rfl (q_leq rfl rfl) ?_
          refine L_q rfl rfl rfl (by first | exact q_pickT rfl rfl | exact q_pickF rfl rfl) ?_
          refine L_q rfl rfl rfl (q_move rfl) ?_
          refine L_dec (d := 29) rfl (fun h6 => ?_) (fun h6 => ?_)
          · -- t29 True
            refine L_skip rfl rfl rfl rfl rfl rfl rfl ?_
            refine L_skip rfl rfl rfl rfl rfl rfl rfl ?_
            refine L_skip rfl rfl rfl rfl rfl rfl rfl ?_
            refine L_skipu rfl rfl rfl rfl rfl rfl ?_
            refine L_skipu rfl rfl rfl rfl rfl rfl ?_
            refine L_skip rfl rfl rfl rfl rfl rfl rfl ?_
            refine L_q rfl rfl rfl (by first | exact q_pickT rfl rfl | exact q_pickF rfl rfl) ?_
            refine L_q rfl rfl rfl (q_assign rfl) ?_
            refine L_then ?_
            refine C_seq ?_
            refine C_region ?_
            refine L_q rfl rfl rfl (q_move rfl) ?_
            refine L_q rfl rfl rfl (q_not rfl (by first | exact (rfl : (!true) = false) | exact (rfl : (!false) = true) | exact decide_not.symm | rfl)) ?_
            refine L_q rfl rfl rfl (q_move rfl) ?_
            refine L_skip rfl rfl rfl rfl rfl rfl rfl ?_
            refine L_skip rfl rfl rfl rfl rfl rfl rfl ?_
            refine L_skip rfl rfl rfl rfl rfl rfl rfl ?_
            refine L_skipu rfl rfl rfl rfl rfl rfl ?_
            refine L_skipu rfl rfl rfl rfl rfl rfl ?_
            refine L_skipu rfl rfl rfl rfl rfl rfl ?_
            refine L_skipu rfl rfl rfl rfl rfl rfl ?_
            refine L_skipu rfl rfl rfl rfl rfl rfl ?_
            refine L_skipu rfl rfl rfl rfl rfl rfl ?_
            refine L_skipu rfl rfl rfl rfl rfl rfl ?_
            refine L_skipu rfl rfl rfl rfl rfl rfl ?_
            refine L_skipu rfl rfl rfl rfl rfl rfl ?_
            refine L_skipu rfl rfl rfl rfl rfl rfl ?_
            refine L_skip rfl rfl rfl rfl rfl rfl rfl ?_
            refine L_q rfl rfl rfl (by first | exact q_pickT rfl rfl | exact q_pickF rfl rfl) ?_
            refine L_then ?_
            refine C_false rfl ?_
            refine C_skip_blk ?_
            refine C_region ?_
            refine L_q rfl rfl rfl (q_move rfl) ?_
            refine L_q rfl rfl rfl (q_add rfl rfl (by first | exact IntWalk.i64_in _ (by omega) | rfl)) ?_
            refine L_q rfl rfl rfl (q_assign rfl) ?_
            refine L_end ?_
            exact fun ac_ wo_ hs_ => ⟨k + 1, ⟨by omega, fun i hi => by rcases Nat.lt_or_eq_of_le (Nat.le_of_lt_succ hi) with h9 | rfl; exact hb i h9; (unfold okB ltrI; omega)⟩, (by dsimp only; omega), hs_.weak ⟨rfl, rfl, trivial⟩ (fun h => h.pk (by repeat (first | with_reducible exact pk_nil | refine pk_box rfl ?_ | refine pk_rd rfl ?_ | refine pk_sl rfl ?_ | with_reducible refine pk_app ?_ | with_reducible refine pk_app0 ?_ | with_reducible refine pk_app0L ?_ | with_reducible exact pk_tl | refine pk_var ?_)))⟩
          · -- t29 False
            refine L_qg rfl rfl rfl rfl rfl rfl rfl (q_move rfl) ?_
            refine L_qg rfl rfl rfl rfl rfl rfl rfl (q_geq rfl rfl) ?_
            refine L_qg rfl rfl rfl rfl rfl rfl rfl (q_move rfl) ?_
            refine L_dec (d := 32) rfl (fun h8 => ?_) (fun h8 => ?_)
            · -- t32 True
              refine L_qg rfl rfl rfl rfl rfl rfl rfl (q_move rfl) ?_
              refine L_qg rfl rfl rfl rfl rfl rfl rfl (q_leq rfl rfl) ?_
              refine L_qg rfl rfl rfl rfl rfl rfl rfl (by first | exact q_pickT rfl rfl | exact q_pickF rfl rfl) ?_
              refine L_q rfl rfl rfl (by first | exact q_pickT rfl rfl | exact q_pickF rfl rfl) ?_
              refine L_q rfl rfl rfl (q_assign rfl) ?_
              refine L_then ?_
              refine C_seq ?_
              refine C_region ?_
              refine L_q rfl rfl rfl (q_move rfl) ?_
              refine L_q rfl rfl rfl (q_not rfl (by first | exact (rfl : (!true) = false) | exact (rfl : (!false) = true) | exact decide_not.symm | rfl)) ?_
              refine L_q rfl rfl rfl (q_move rfl) ?_
              refine L_dec (d := 39) rfl (fun h9 => ?_) (fun h9 => ?_)
              · -- t39 True
                refine L_qg rfl rfl rfl rfl rfl rfl rfl (q_move rfl) ?_
                refine L_qg rfl rfl rfl rfl rfl rfl rfl (q_eql rfl rfl) ?_
                refine L_qg rfl rfl rfl rfl rfl rfl rfl (q_move rfl) ?_
                refine L_dec (d := 42) rfl (fun h10 => ?_) (fun h10 => ?_)
                · -- t42 True
                  refine L_skip rfl rfl rfl rfl rfl rfl rfl ?_
                  refine L_skip rfl rfl rfl rfl rfl rfl rfl ?_
                  refine L_skip rfl rfl rfl rfl rfl rfl rfl ?_
                  refine L_skipu rfl rfl rfl rfl rfl rfl ?_
                  refine L_skipu rfl rfl rfl rfl rfl rfl ?_
                  refine L_skipu rfl rfl rfl rfl rfl rfl ?_
                  refine L_skipu rfl rfl rfl rfl rfl rfl ?_
                  refine L_skipu rfl rfl rfl rfl rfl rfl ?_
                  refine L_skipu rfl rfl rfl rfl rfl rfl ?_
                  refine L_skip rfl rfl rfl rfl rfl rfl rfl ?_
                  refine L_qg rfl rfl rfl rfl rfl rfl rfl (by first | exact q_pickT rfl rfl | exact q_pickF rfl rfl) ?_
                  refine L_q rfl rfl rfl (by first | exact q_pickT rfl rfl | exact q_pickF rfl rfl) ?_
                  refine L_then ?_
                  refine C_true rfl ?_
                  refine C_seq ?_
                  refine C_region ?_
                  refine L_q rfl rfl rfl (q_assign rfl) ?_
                  refine L_then ?_
                  refine C_ret ?_
                  exact ret_of (res1 rfl rfl) sub_nil (by intro r hr; cases hr) ⟨(congrArg Value.bool (decide_eq_false (p := nameP s) (fun hh => by have h9 := hh.2.2 k (by omega); unfold okB ltrI at h9; omega)).symm), rfl⟩
                · -- t42 False
                  refine L_qg rfl rfl rfl rfl rfl rfl rfl (q_move rfl) ?_
                  refine L_qg rfl rfl rfl rfl rfl rfl rfl (q_neq rfl rfl) ?_
                  refine L_qg rfl rfl rfl rfl rfl rfl rfl (q_move rfl) ?_
                  refine L_dec (d := 45) rfl (fun h12 => ?_) (fun h12 => ?_)
                  · -- t45 True
                    refine L_qg rfl rfl rfl rfl rfl rfl rfl (q_move rfl) ?_
                    refine L_qg rfl rfl rfl rfl rfl rfl rfl (q_lss rfl rfl) ?_
                    refine L_qg rfl rfl rfl rfl rfl rfl rfl (q_move rfl) ?_
                    refine L_dec (d := 48) rfl (fun h13 => ?_) (fun h13 => ?_)
                    · -- t48 True
                      refine L_skip rfl rfl rfl rfl rfl rfl rfl ?_
                      refine L_skip rfl rfl rfl rfl rfl rfl rfl ?_
                      refine L_qg rfl rfl rfl rfl rfl rfl rfl (by first | exact q_pickT rfl rfl | exact q_pickF rfl rfl) ?_
                      refine L_qg rfl rfl rfl rfl rfl rfl rfl (by first | exact q_pickT rfl rfl | exact q_pickF rfl rfl) ?_
                      refine L_qg rfl rfl rfl rfl rfl rfl rfl (by first | exact q_pickT rfl rfl | exact q_pickF rfl rfl) ?_
                      refine L_q rfl rfl rfl (by first | exact q_pickT rfl rfl | exact q_pickF rfl rfl) ?_
                      refine L_then ?_
                      refine C_true rfl ?_
                      refine C_seq ?_
                      refine C_region ?_
                      refine L_q rfl rfl rfl (q_assign rfl) ?_
                      refine L_then ?_
                      refine C_ret ?_
                      exact ret_of (res1 rfl rfl) sub_nil (by intro r hr; cases hr) ⟨(congrArg Value.bool (decide_eq_false (p := nameP s) (fun hh => by have h9 := hh.2.2 k (by omega); unfold okB ltrI at h9; omega)).symm), rfl⟩
                    · -- t48 False
                      refine L_qg rfl rfl rfl rfl rfl rfl rfl (q_move rfl) ?_
                      refine L_qg rfl rfl rfl rfl rfl rfl rfl (q_gtr rfl rfl) ?_
                      refine L_qg rfl rfl rfl rfl rfl rfl rfl (by first | exact q_pickT rfl rfl | exact q_pickF rfl rfl) ?_
                      refine L_qg rfl rfl rfl rfl rfl rfl rfl (by first | exact q_pickT rfl rfl | exact q_pickF rfl rfl) ?_
                      refine L_qg rfl rfl rfl rfl rfl rfl rfl (by first | exact q_pickT rfl rfl | exact q_pickF rfl rfl) ?_
                      refine L_q rfl rfl rfl (by first | exact q_pickT rfl rfl | exact q_pickF rfl rfl) ?_
                      refine L_then ?_
                      refine C_dec rfl (fun h15 => ?_) (fun h15 => ?_)
                      · -- t54 True
                        refine C_seq ?_
                        refine C_region ?_
                        refine L_q rfl rfl rfl (q_assign rfl) ?_
                        refine L_then ?_
                        refine C_ret ?_
                        exact ret_of (res1 rfl rfl) sub_nil (by intro r hr; cases hr) ⟨(congrArg Value.bool (decide_eq_false (p := nameP s) (fun hh => by have h9 := hh.2.2 k (by omega); unfold okB ltrI at h9; omega)).symm), rfl⟩
                      · -- t54 False
                        refine C_skip_blk ?_
                        refine C_region ?_
                        refine L_q rfl rfl rfl (q_move rfl) ?_
                        refine L_q rfl rfl rfl (q_add rfl rfl (by first | exact IntWalk.i64_in _ (by omega) | rfl)) ?_
                        refine L_q rfl rfl rfl (q_assign rfl) ?_
                        refine L_end ?_
                        exact fun ac_ wo_ hs_ => ⟨k + 1, ⟨by omega, fun i hi => by rcases Nat.lt_or_eq_of_le (Nat.le_of_lt_succ hi) with h9 | rfl; exact hb i h9; (unfold okB ltrI; omega)⟩, (by dsimp only; omega), hs_.weak ⟨rfl, rfl, trivial⟩ (fun h => h.pk (by repeat (first | with_reducible exact pk_nil | refine pk_box rfl ?_ | refine pk_rd rfl ?_ | refine pk_sl rfl ?_ | with_reducible refine pk_app ?_ | with_reducible refine pk_app0 ?_ | with_reducible refine pk_app0L ?_ | with_reducible exact pk_tl | refine pk_var ?_)))⟩
                  · -- t45 False
                    refine L_skip rfl rfl rfl rfl rfl rfl rfl ?_
                    refine L_skip rfl rfl rfl rfl rfl rfl rfl ?_
                    refine L_skip rfl rfl rfl rfl rfl rfl rfl ?_
                    refine L_skipu rfl rfl rfl rfl rfl rfl ?_
                    refine L_skipu rfl rfl rfl rfl rfl rfl ?_
                    refine L_skip rfl rfl rfl rfl rfl rfl rfl ?_
                    refine L_qg rfl rfl rfl rfl rfl rfl rfl (by first | exact q_pickT rfl rfl | exact q_pickF rfl rfl) ?_
                    refine L_qg rfl rfl rfl rfl rfl rfl rfl (by first | exact q_pickT rfl rfl | exact q_pickF rfl rfl) ?_
                    refine L_q rfl rfl rfl (by first | exact q_pickT rfl rfl | exact q_pickF rfl rfl) ?_
                    refine L_then ?_
                    refine C_false rfl ?_
                    refine C_skip_blk ?_
                    refine C_region ?_
                    refine L_q rfl rfl rfl (q_move rfl) ?_
                    refine L_q rfl rfl rfl (q_add rfl rfl (by first | exact IntWalk.i64_in _ (by omega) | rfl)) ?_
                    refine L_q rfl rfl rfl (q_assign rfl) ?_
                    refine L_end ?_
                    exact fun ac_ wo_ hs_ => ⟨k + 1, ⟨by omega, fun i hi => by rcases Nat.lt_or_eq_of_le (Nat.le_of_lt_succ hi) with h9 | rfl; exact hb i h9; (unfold okB ltrI; omega)⟩, (by dsimp only; omega), hs_.weak ⟨rfl, rfl, trivial⟩ (fun h => h.pk (by repeat (first | with_reducible exact pk_nil | refine pk_box rfl ?_ | refine pk_rd rfl ?_ | refine pk_sl rfl ?_ | with_reducible refine pk_app ?_ | with_reducible refine pk_app0 ?_ | with_reducible refine pk_app0L ?_ | with_reducible exact pk_tl | refine pk_var ?_)))⟩
              · -- t39 False
                refine L_skip rfl rfl rfl rfl rfl rfl rfl ?_
                refine L_skip rfl rfl rfl rfl rfl rfl rfl ?_
                refine L_skip rfl rfl rfl rfl rfl rfl rfl ?_
                refine L_skipu rfl rfl rfl rfl rfl rfl ?_
                refine L_skipu rfl rfl rfl rfl rfl rfl ?_
                refine L_skipu rfl rfl rfl rfl rfl rfl ?_
                refine L_skipu rfl rfl rfl rfl rfl rfl ?_
                refine L_skipu rfl rfl rfl rfl rfl rfl ?_
                refine L_skipu rfl rfl rfl rfl rfl rfl ?_
                refine L_skipu rfl rfl rfl rfl rfl rfl ?_
                refine L_skipu rfl rfl rfl rfl rfl rfl ?_
                refine L_skipu rfl rfl rfl rfl rfl rfl ?_
                refine L_skipu rfl rfl rfl rfl rfl rfl ?_
                refine L_skip rfl rfl rfl rfl rfl rfl rfl ?_
                refine L_q rfl rfl rfl (by first | exact q_pickT rfl rfl | exact q_pickF rfl rfl) ?_
                refine L_then ?_
                refine C_false rfl ?_
                refine C_skip_blk ?_
                refine C_region ?_
                refine L_q rfl rfl rfl (q_move rfl) ?_
                refine L_q rfl rfl rfl (q_add rfl rfl (by first | exact IntWalk.i64_in _ (by omega) | rfl)) ?_
                refine L_q rfl rfl rfl (q_assign rfl) ?_
                refine L_end ?_
                exact fun ac_ wo_ hs_ => ⟨k + 1, ⟨by omega, fun i hi => by rcases Nat.lt_or_eq_of_le (Nat.le_of_lt_succ hi) with h9 | rfl; exact hb i h9; (unfold okB ltrI; omega)⟩, (by dsimp only; omega), hs_.weak ⟨rfl, rfl, trivial⟩ (fun h => h.pk (by repeat (first | with_reducible exact pk_nil | refine pk_box rfl ?_ | refine pk_rd rfl ?_ | refine pk_sl rfl ?_ | with_reducible refine pk_app ?_ | with_reducible refine pk_app0 ?_ | with_reducible refine pk_app0L ?_ | with_reducible exact pk_tl | refine pk_var ?_)))⟩
            · -- t32 False
              refine L_skip rfl rfl rfl rfl rfl rfl rfl ?_
              refine L_skip rfl rfl rfl rfl rfl rfl rfl ?_
              refine L_qg rfl rfl rfl rfl rfl rfl rfl (by first | exact q_pickT rfl rfl | exact q_pickF rfl rfl) ?_
              refine L_q rfl rfl rfl (by first | exact q_pickT rfl rfl | exact q_pickF rfl rfl) ?_
              refine L_q rfl rfl rfl (q_assign rfl) ?_
              refine L_then ?_
              refine C_seq ?_
              refine C_region ?_
              refine L_q rfl rfl rfl (q_move rfl) ?_
              refine L_q rfl rfl rfl (q_not rfl (by first | exact (rfl : (!true) = false) | exact (rfl : (!false) = true) | exact decide_not.symm | rfl)) ?_
              refine L_q rfl rfl rfl (q_move rfl) ?_
              refine L_qg rfl rfl rfl rfl rfl rfl rfl (q_move rfl) ?_
              refine L_qg rfl rfl rfl rfl rfl rfl rfl (q_eql rfl rfl) ?_
              refine L_qg rfl rfl rfl rfl rfl rfl rfl (q_move rfl) ?_
              refine L_dec (d := 42) rfl (fun h18 => ?_) (fun h18 => ?_)
              · -- t42 True
                refine L_skip rfl rfl rfl rfl rfl rfl rfl ?_
                refine L_skip rfl rfl rfl rfl rfl rfl rfl ?_
                refine L_skip rfl rfl rfl rfl rfl rfl rfl ?_
                refine L_skipu rfl rfl rfl rfl rfl rfl ?_
                refine L_skipu rfl rfl rfl rfl rfl rfl ?_
                refine L_skipu rfl rfl rfl rfl rfl rfl ?_
                refine L_skipu rfl rfl rfl rfl rfl rfl ?_
                refine L_skipu rfl rfl rfl rfl rfl rfl ?_
                refine L_skipu rfl rfl rfl rfl rfl rfl ?_
                refine L_skip rfl rfl rfl rfl rfl rfl rfl ?_
                refine L_qg rfl rfl rfl rfl rfl rfl rfl (by first | exact q_pickT rfl rfl | exact q_pickF rfl rfl) ?_
                refine L_q rfl rfl rfl (by first | exact q_pickT rfl rfl | exact q_pickF rfl rfl) ?_
                refine L_then ?_
                refine C_true rfl ?_
                refine C_seq ?_
                refine C_region ?_
                refine L_q rfl rfl rfl (q_assign rfl) ?_
                refine L_then ?_
                refine C_ret ?_
                exact ret_of (res1 rfl rfl) sub_nil (by intro r hr; cases hr) ⟨(congrArg Value.bool (decide_eq_false (p := nameP s) (fun hh => by have h9 := hh.2.2 k (by omega); unfold okB ltrI at h9; omega)).symm), rfl⟩
              · -- t42 False
                refine L_qg rfl rfl rfl rfl rfl rfl rfl (q_move rfl) ?_
                refine L_qg rfl rfl rfl rfl rfl rfl rfl (q_neq rfl rfl) ?_
                refine L_qg rfl rfl rfl rfl rfl rfl rfl (q_move rfl) ?_
                refine L_dec (d := 45) rfl (fun h20 => ?_) (fun h20 => ?_)
                · -- t45 True
                  refine L_qg rfl rfl rfl rfl rfl rfl rfl (q_move rfl) ?_
                  refine L_qg rfl rfl rfl rfl rfl rfl rfl (q_lss rfl rfl) ?_
                  refine L_qg rfl rfl rfl rfl rfl rfl rfl (q_move rfl) ?_
                  refine L_dec (d := 48) rfl (fun h21 => ?_) (fun h21 => ?_)
                  · -- t48 True
                    refine L_skip rfl rfl rfl rfl rfl rfl rfl ?_
                    refine L_skip rfl rfl rfl rfl rfl rfl rfl ?_
                    refine L_qg rfl rfl rfl rfl rfl rfl rfl (by first | exact q_pickT rfl rfl | exact q_pickF rfl rfl) ?_
                    refine L_qg rfl rfl rfl rfl rfl rfl rfl (by first | exact q_pickT rfl rfl | exact q_pickF rfl rfl) ?_
                    refine L_qg rfl rfl rfl rfl rfl rfl rfl (by first | exact q_pickT rfl rfl | exact q_pickF rfl rfl) ?_
                    refine L_q rfl rfl rfl (by first | exact q_pickT rfl rfl | exact q_pickF rfl rfl) ?_
                    refine L_then ?_
                    refine C_true rfl ?_
                    refine C_seq ?_
                    refine C_region ?_
                    refine L_q rfl rfl rfl (q_assign rfl) ?_
                    refine L_then ?_
                    refine C_ret ?_
                    exact ret_of (res1 rfl rfl) sub_nil (by intro r hr; cases hr) ⟨(congrArg Value.bool (decide_eq_false (p := nameP s) (fun hh => by have h9 := hh.2.2 k (by omega); unfold okB ltrI at h9; omega)).symm), rfl⟩
                  · -- t48 False
                    refine L_qg rfl rfl rfl rfl rfl rfl rfl (q_move rfl) ?_
                    refine L_qg rfl rfl rfl rfl rfl rfl rfl (q_gtr rfl rfl) ?_
                    refine L_qg rfl rfl rfl rfl rfl rfl rfl (by first | exact q_pickT rfl rfl | exact q_pickF rfl rfl) ?_
                    refine L_qg rfl rfl rfl rfl rfl rfl rfl (by first | exact q_pickT rfl rfl | exact q_pickF rfl rfl) ?_
                    refine L_qg rfl rfl rfl rfl rfl rfl rfl (by first | exact q_pickT rfl rfl | exact q_pickF rfl rfl) ?_
                    refine L_q rfl rfl rfl (by first | exact q_pickT rfl rfl | exact q_pickF rfl rfl) ?_
                    refine L_then ?_
                    refine C_dec rfl (fun h23 => ?_) (fun h23 => ?_)
                    · -- t54 True
                      refine C_seq ?_
                      refine C_region ?_
                      refine L_q rfl rfl rfl (q_assign rfl) ?_
                      refine L_then ?_
                      refine C_ret ?_
                      exact ret_of (res1 rfl rfl) sub_nil (by intro r hr; cases hr) ⟨(congrArg Value.bool (decide_eq_false (p := nameP s) (fun hh => by have h9 := hh.2.2 k (by omega); unfold okB ltrI at h9; omega)).symm), rfl⟩
                    · -- t54 False
                      refine C_skip_blk ?_
                      refine C_region ?_
                      refine L_q rfl rfl rfl (q_move rfl) ?_
                      refine L_q rfl rfl rfl (q_add rfl rfl (by first | exact IntWalk.i64_in _ (by omega) | rfl)) ?_
                      refine L_q rfl rfl rfl (q_assign rfl) ?_
                      refine L_end ?_
                      exact fun ac_ wo_ hs_ => ⟨k + 1, ⟨by omega, fun i hi => by rcases Nat.lt_or_eq_of_le (Nat.le_of_lt_succ hi) with h9 | rfl; exact hb i h9; (unfold okB ltrI; omega)⟩, (by dsimp only; omega), hs_.weak ⟨rfl, rfl, trivial⟩ (fun h => h.pk (by repeat (first | with_reducible exact pk_nil | refine pk_box rfl ?_ | refine pk_rd rfl ?_ | refine pk_sl rfl ?_ | with_reducible refine pk_app ?_ | with_reducible refine pk_app0 ?_ | with_reducible refine pk_app0L ?_ | with_reducible exact pk_tl | refine pk_var ?_)))⟩
                · -- t45 False
                  refine L_skip rfl rfl rfl rfl rfl rfl rfl ?_
                  refine L_skip rfl rfl rfl rfl rfl rfl rfl ?_
                  refine L_skip rfl rfl rfl rfl rfl rfl rfl ?_
                  refine L_skipu rfl rfl rfl rfl rfl rfl ?_
                  refine L_skipu rfl rfl rfl rfl rfl rfl ?_
                  refine L_skip rfl rfl rfl rfl rfl rfl rfl ?_
                  refine L_qg rfl rfl rfl rfl rfl rfl rfl (by first | exact q_pickT rfl rfl | exact q_pickF rfl rfl) ?_
                  refine L_qg rfl rfl rfl rfl rfl rfl rfl (by first | exact q_pickT rfl rfl | exact q_pickF rfl rfl) ?_
                  refine L_q rfl rfl rfl (by first | exact q_pickT rfl rfl | exact q_pickF rfl rfl) ?_
                  refine L_then ?_
                  refine C_false rfl ?_
                  refine C_skip_blk ?_
                  refine C_region ?_
                  refine L_q rfl rfl rfl (q_move rfl) ?_
                  refine L_q rfl rfl rfl (q_add rfl rfl (by first | exact IntWalk.i64_in _ (by omega) | rfl)) ?_
                  refine L_q rfl rfl rfl (q_assign rfl) ?_
                  refine L_end ?_
                  exact fun ac_ wo_ hs_ => ⟨k + 1, ⟨by omega, fun i hi => by rcases Nat.lt_or_eq_of_le (Nat.le_of_lt_succ hi) with h9 | rfl; exact hb i h9; (unfold okB ltrI; omega)⟩, (by dsimp only; omega), hs_.weak ⟨rfl, rfl, trivial⟩ (fun h => h.pk (by repeat (first | with_reducible exact pk_nil | refine pk_box rfl ?_ | refine pk_rd rfl ?_ | refine pk_sl rfl ?_ | with_reducible refine pk_app ?_ | with_reducible refine pk_app0 ?_ | with_reducible refine pk_app0L ?_ | with_reducible exact pk_tl | refine pk_var ?_)))⟩
        · -- t25 False
          refine L_skip rfl rfl rfl rfl rfl rfl rfl ?_
          refine L_skip rfl rfl rfl rfl rfl rfl rfl ?_
          refine L_q rfl rfl rfl (by first | exact q_pickT rfl rfl | exact q_pickF rfl rfl) ?_
          refine L_q rfl rfl rfl (q_move rfl) ?_
          refine L_qg rfl rfl rfl rfl rfl rfl rfl (q_move rfl) ?_
          refine L_qg rfl rfl rfl rfl rfl rfl rfl (q_geq rfl rfl) ?_
          refine L_qg rfl rfl rfl rfl rfl rfl rfl (q_move rfl) ?_
          refine L_dec (d := 32) rfl (fun h25 => ?_) (fun h25 => ?_)
          · -- t32 True
            refine L_qg rfl rfl rfl rfl rfl rfl rfl (q_move rfl) ?_
            refine L_qg rfl rfl rfl rfl rfl rfl rfl (q_leq rfl rfl) ?_
            refine L_qg rfl rfl rfl rfl rfl rfl rfl (by first | exact q_pickT rfl rfl | exact q_pickF rfl rfl) ?_
            refine L_q rfl rfl rfl (by first | exact q_pickT rfl rfl | exact q_pickF rfl rfl) ?_
            refine L_q rfl rfl rfl (q_assign rfl) ?_
            refine L_then ?_
            refine C_seq ?_
            refine C_region ?_
            refine L_q rfl rfl rfl (q_move rfl) ?_
            refine L_q rfl rfl rfl (q_not rfl (by first | exact (rfl : (!true) = false) | exact (rfl : (!false) = true) | exact decide_not.symm | rfl)) ?_
            refine L_q rfl rfl rfl (q_move rfl) ?_
            refine L_dec (d := 39) rfl (fun h26 => ?_) (fun h26 => ?_)
            · -- t39 True
              refine L_qg rfl rfl rfl rfl rfl rfl rfl (q_move rfl) ?_
              refine L_qg rfl rfl rfl rfl rfl rfl rfl (q_eql rfl rfl) ?_
              refine L_qg rfl rfl rfl rfl rfl rfl rfl (q_move rfl) ?_
              refine L_dec (d := 42) rfl (fun h27 => ?_) (fun h27 => ?_)
              · -- t42 True
                refine L_skip rfl rfl rfl rfl rfl rfl rfl ?_
                refine L_skip rfl rfl rfl rfl rfl rfl rfl ?_
                refine L_skip rfl rfl rfl rfl rfl rfl rfl ?_
                refine L_skipu rfl rfl rfl rfl rfl rfl ?_
                refine L_skipu rfl rfl rfl rfl rfl rfl ?_
                refine L_skipu rfl rfl rfl rfl rfl rfl ?_
                refine L_skipu rfl rfl rfl rfl rfl rfl ?_
                refine L_skipu rfl rfl rfl rfl rfl rfl ?_
                refine L_skipu rfl rfl rfl rfl rfl rfl ?_
                refine L_skip rfl rfl rfl rfl rfl rfl rfl ?_
                refine L_qg rfl rfl rfl rfl rfl rfl rfl (by first | exact q_pickT rfl rfl | exact q_pickF rfl rfl) ?_
                refine L_q rfl rfl rfl (by first | exact q_pickT rfl rfl | exact q_pickF rfl rfl) ?_
                refine L_then ?_
                refine C_true rfl ?_
                refine C_seq ?_
                refine C_region ?_
                refine L_q rfl rfl rfl (q_assign rfl) ?_
                refine L_then ?_
                refine C_ret ?_
                exact ret_of (res1 rfl rfl) sub_nil (by intro r hr; cases hr) ⟨(congrArg Value.bool (decide_eq_false (p := nameP s) (fun hh => by have h9 := hh.2.2 k (by omega); unfold okB ltrI at h9; omega)).symm), rfl⟩
              · -- t42 False
                refine L_qg rfl rfl rfl rfl rfl rfl rfl (q_move rfl) ?_
                refine L_qg rfl rfl rfl rfl rfl rfl rfl (q_neq rfl rfl) ?_
                refine L_qg rfl rfl rfl rfl rfl rfl rfl (q_move rfl) ?_
                refine L_dec (d := 45) rfl (fun h29 => ?_) (fun h29 => ?_)
                · -- t45 True
                  refine L_qg rfl rfl rfl rfl rfl rfl rfl (q_move rfl) ?_
                  refine L_qg rfl rfl rfl rfl rfl rfl rfl (q_lss rfl rfl) ?_
                  refine L_qg rfl rfl rfl rfl rfl rfl rfl (q_move rfl) ?_
                  refine L_dec (d := 48) rfl (fun h30 => ?_) (fun h30 => ?_)
                  · -- t48 True
                    refine L_skip rfl rfl rfl rfl rfl rfl rfl ?_
                    refine L_skip rfl rfl rfl rfl rfl rfl rfl ?_
                    refine L_qg rfl rfl rfl rfl rfl rfl rfl (by first | exact q_pickT rfl rfl | exact q_pickF rfl rfl) ?_
                    refine L_qg rfl rfl rfl rfl rfl rfl rfl (by first | exact q_pickT rfl rfl | exact q_pickF rfl rfl) ?_
                    refine L_qg rfl rfl rfl rfl rfl rfl rfl (by first | exact q_pickT rfl rfl | exact q_pickF rfl rfl) ?_
                    refine L_q rfl rfl rfl (by first | exact q_pickT rfl rfl | exact q_pickF rfl rfl) ?_
                    refine L_then ?_
                    refine C_true rfl ?_
                    refine C_seq ?_
                    refine C_region ?_
                    refine L_q rfl rfl rfl (q_assign rfl) ?_
                    refine L_then ?_
                    refine C_ret ?_
                    exact ret_of (res1 rfl rfl) sub_nil (by intro r hr; cases hr) ⟨(congrArg Value.bool (decide_eq_false (p := nameP s) (fun hh => by have h9 := hh.2.2 k (by omega); unfold okB ltrI at h9; omega)).symm), rfl⟩
                  · -- t48 False
                    refine L_qg rfl rfl rfl rfl rfl rfl rfl (q_move rfl) ?_
                    refine L_qg rfl rfl rfl rfl rfl rfl rfl (q_gtr rfl rfl) ?_
                    refine L_qg rfl rfl rfl rfl rfl rfl rfl (by first | exact q_pickT rfl rfl | exact q_pickF rfl rfl) ?_
                    refine L_qg rfl rfl rfl rfl rfl rfl rfl (by first | exact q_pickT rfl rfl | exact q_pickF rfl rfl) ?_
                    refine L_qg rfl rfl rfl rfl rfl rfl rfl (by first | exact q_pickT rfl rfl | exact q_pickF rfl rfl) ?_
                    refine L_q rfl rfl rfl (by first | exact q_pickT rfl rfl | exact q_pickF rfl rfl) ?_
                    refine L_then ?_
                    refine C_dec rfl (fun h32 => ?_) (fun h32 => ?_)
                    · -- t54 True
                      refine C_seq ?_
                      refine C_region ?_
                      refine L_q rfl rfl rfl (q_assign rfl) ?_
                      refine L_then ?_
                      refine C_ret ?_
                      exact ret_of (res1 rfl rfl) sub_nil (by intro r hr; cases hr) ⟨(congrArg Value.bool (decide_eq_false (p := nameP s) (fun hh => by have h9 := hh.2.2 k (by omega); unfold okB ltrI at h9; omega)).symm), rfl⟩
                    · -- t54 False
                      refine C_skip_blk ?_
                      refine C_region ?_
                      refine L_q rfl rfl rfl (q_move rfl) ?_
                      refine L_q rfl rfl rfl (q_add rfl rfl (by first | exact IntWalk.i64_in _ (by omega) | rfl)) ?_
                      refine L_q rfl rfl rfl (q_assign rfl) ?_
                      refine L_end ?_
                      exact fun ac_ wo_ hs_ => ⟨k + 1, ⟨by omega, fun i hi => by rcases Nat.lt_or_eq_of_le (Nat.le_of_lt_succ hi) with h9 | rfl; exact hb i h9; (unfold okB ltrI; omega)⟩, (by dsimp only; omega), hs_.weak ⟨rfl, rfl, trivial⟩ (fun h => h.pk (by repeat (first | with_reducible exact pk_nil | refine pk_box rfl ?_ | refine pk_rd rfl ?_ | refine pk_sl rfl ?_ | with_reducible refine pk_app ?_ | with_reducible refine pk_app0 ?_ | with_reducible refine pk_app0L ?_ | with_reducible exact pk_tl | refine pk_var ?_)))⟩
                · -- t45 False
                  refine L_skip rfl rfl rfl rfl rfl rfl rfl ?_
                  refine L_skip rfl rfl rfl rfl rfl rfl rfl ?_
                  refine L_skip rfl rfl rfl rfl rfl rfl rfl ?_
                  refine L_skipu rfl rfl rfl rfl rfl rfl ?_
                  refine L_skipu rfl rfl rfl rfl rfl rfl ?_
                  refine L_skip rfl rfl rfl rfl rfl rfl rfl ?_
                  refine L_qg rfl rfl rfl rfl rfl rfl rfl (by first | exact q_pickT rfl rfl | exact q_pickF rfl rfl) ?_
                  refine L_qg rfl rfl rfl rfl rfl rfl rfl (by first | exact q_pickT rfl rfl | exact q_pickF rfl rfl) ?_
                  refine L_q rfl rfl rfl (by first | exact q_pickT rfl rfl | exact q_pickF rfl rfl) ?_
                  refine L_then ?_
                  refine C_false rfl ?_
                  refine C_skip_blk ?_
                  refine C_region ?_
                  refine L_q rfl rfl rfl (q_move rfl) ?_
                  refine L_q rfl rfl rfl (q_add rfl rfl (by first | exact IntWalk.i64_in _ (by omega) | rfl)) ?_
                  refine L_q rfl rfl rfl (q_assign rfl) ?_
                  refine L_end ?_
                  exact fun ac_ wo_ hs_ => ⟨k + 1, ⟨by omega, fun i hi => by rcases Nat.lt_or_eq_of_le (Nat.le_of_lt_succ hi) with h9 | rfl; exact hb i h9; (unfold okB ltrI; omega)⟩, (by dsimp only; omega), hs_.weak ⟨rfl, rfl, trivial⟩ (fun h => h.pk (by repeat (first | with_reducible exact pk_nil | refine pk_box rfl ?_ | refine pk_rd rfl ?_ | refine pk_sl rfl ?_ | with_reducible refine pk_app ?_ | with_reducible refine pk_app0 ?_ | with_reducible refine pk_app0L ?_ | with_reducible exact pk_tl | refine pk_var ?_)))⟩
            · -- t39 False
              refine L_skip rfl rfl rfl rfl rfl rfl rfl ?_
              refine L_skip rfl rfl rfl rfl rfl rfl rfl ?_
              refine L_skip rfl rfl rfl rfl rfl rfl rfl ?_
              refine L_skipu rfl rfl rfl rfl rfl rfl ?_
              refine L_skipu rfl rfl rfl rfl rfl rfl ?_
              refine L_skipu rfl rfl rfl rfl rfl rfl ?_
              refine L_skipu rfl rfl rfl rfl rfl rfl ?_
              refine L_skipu rfl rfl rfl rfl rfl rfl ?_
              refine L_skipu rfl rfl rfl rfl rfl rfl ?_
              refine L_skipu rfl rfl rfl rfl rfl rfl ?_
              refine L_skipu rfl rfl rfl rfl rfl rfl ?_
              refine L_skipu rfl rfl rfl rfl rfl rfl ?_
              refine L_skipu rfl rfl rfl rfl rfl rfl ?_
              refine L_skip rfl rfl rfl rfl rfl rfl rfl ?_
              refine L_q rfl rfl rfl (by first | exact q_pickT rfl rfl | exact q_pickF rfl rfl) ?_
              refine L_then ?_
              refine C_false rfl ?_
              refine C_skip_blk ?_
              refine C_region ?_
              refine L_q rfl rfl rfl (q_move rfl) ?_
              refine L_q rfl rfl rfl (q_add rfl rfl (by first | exact IntWalk.i64_in _ (by omega) | rfl)) ?_
              refine L_q rfl rfl rfl (q_assign rfl) ?_
              refine L_end ?_
              exact fun ac_ wo_ hs_ => ⟨k + 1, ⟨by omega, fun i hi => by rcases Nat.lt_or_eq_of_le (Nat.le_of_lt_succ hi) with h9 | rfl; exact hb i h9; (unfold okB ltrI; omega)⟩, (by dsimp only; omega), hs_.weak ⟨rfl, rfl, trivial⟩ (fun h => h.pk (by repeat (first | with_reducible exact pk_nil | refine pk_box rfl ?_ | refine pk_rd rfl ?_ | refine pk_sl rfl ?_ | with_reducible refine pk_app ?_ | with_reducible refine pk_app0 ?_ | with_reducible refine pk_app0L ?_ | with_reducible exact pk_tl | refine pk_var ?_)))⟩
          · -- t32 False
            refine L_skip rfl rfl rfl rfl rfl rfl rfl ?_
            refine L_skip rfl rfl rfl rfl rfl rfl rfl ?_
            refine L_qg rfl rfl rfl rfl rfl rfl rfl (by first | exact q_pickT rfl rfl | exact q_pickF rfl rfl) ?_
            refine L_q rfl rfl rfl (by first | exact q_pickT rfl rfl | exact q_pickF rfl rfl) ?_
            refine L_q rfl rfl rfl (q_assign rfl) ?_
            refine L_then ?_
            refine C_seq ?_
            refine C_region ?_
            refine L_q rfl rfl rfl (q_move rfl) ?_
            refine L_q rfl rfl rfl (q_not rfl (by first | exact (rfl : (!true) = false) | exact (rfl : (!false) = true) | exact decide_not.symm | rfl)) ?_
            refine L_q rfl rfl rfl (q_move rfl) ?_
            refine L_qg rfl rfl rfl rfl rfl rfl rfl (q_move rfl) ?_
            refine L_qg rfl rfl rfl rfl rfl rfl rfl (q_eql rfl rfl) ?_
            refine L_qg rfl rfl rfl rfl rfl rfl rfl (q_move rfl) ?_
            refine L_dec (d := 42) rfl (fun h35 => ?_) (fun h35 => ?_)
            · -- t42 True
              refine L_skip rfl rfl rfl rfl rfl rfl rfl ?_
              refine L_skip rfl rfl rfl rfl rfl rfl rfl ?_
              refine L_skip rfl rfl rfl rfl rfl rfl rfl ?_
              refine L_skipu rfl rfl rfl rfl rfl rfl ?_
              refine L_skipu rfl rfl rfl rfl rfl rfl ?_
              refine L_skipu rfl rfl rfl rfl rfl rfl ?_
              refine L_skipu rfl rfl rfl rfl rfl rfl ?_
              refine L_skipu rfl rfl rfl rfl rfl rfl ?_
              refine L_skipu rfl rfl rfl rfl rfl rfl ?_
              refine L_skip rfl rfl rfl rfl rfl rfl rfl ?_
              refine L_qg rfl rfl rfl rfl rfl rfl rfl (by first | exact q_pickT rfl rfl | exact q_pickF rfl rfl) ?_
              refine L_q rfl rfl rfl (by first | exact q_pickT rfl rfl | exact q_pickF rfl rfl) ?_
              refine L_then ?_
              refine C_true rfl ?_
              refine C_seq ?_
              refine C_region ?_
              refine L_q rfl rfl rfl (q_assign rfl) ?_
              refine L_then ?_
              refine C_ret ?_
              exact ret_of (res1 rfl rfl) sub_nil (by intro r hr; cases hr) ⟨(congrArg Value.bool (decide_eq_false (p := nameP s) (fun hh => by have h9 := hh.2.2 k (by omega); unfold okB ltrI at h9; omega)).symm), rfl⟩
            · -- t42 False
              refine L_qg rfl rfl rfl rfl rfl rfl rfl (q_move rfl) ?_
              refine L_qg rfl rfl rfl rfl rfl rfl rfl (q_neq rfl rfl) ?_
              refine L_qg rfl rfl rfl rfl rfl rfl rfl (q_move rfl) ?_
              refine L_dec (d := 45) rfl (fun h37 => ?_) (fun h37 => ?_)
              · -- t45 True
                refine L_qg rfl rfl rfl rfl rfl rfl rfl (q_move rfl) ?_
                refine L_qg rfl rfl rfl rfl rfl rfl rfl (q_lss rfl rfl) ?_
                refine L_qg rfl rfl rfl rfl rfl rfl rfl (q_move rfl) ?_
                refine L_dec (d := 48) rfl (fun h38 => ?_) (fun h38 => ?_)
                · -- t48 True
                  refine L_skip rfl rfl rfl rfl rfl rfl rfl ?_
                  refine L_skip rfl rfl rfl rfl rfl rfl rfl ?_
                  refine L_qg rfl rfl rfl rfl rfl rfl rfl (by first | exact q_pickT rfl rfl | exact q_pickF rfl rfl) ?_
                  refine L_qg rfl rfl rfl rfl rfl rfl rfl (by first | exact q_pickT rfl rfl | exact q_pickF rfl rfl) ?_
                  refine L_qg rfl rfl rfl rfl rfl rfl rfl (by first | exact q_pickT rfl rfl | exact q_pickF rfl rfl) ?_
                  refine L_q rfl rfl rfl (by first | exact q_pickT rfl rfl | exact q_pickF rfl rfl) ?_
                  refine L_then ?_
                  refine C_true rfl ?_
                  refine C_seq ?_
                  refine C_region ?_
                  refine L_q rfl rfl rfl (q_assign rfl) ?_
                  refine L_then ?_
                  refine C_ret ?_
                  exact ret_of (res1 rfl rfl) sub_nil (by intro r hr; cases hr) ⟨(congrArg Value.bool (decide_eq_false (p := nameP s) (fun hh => by have h9 := hh.2.2 k (by omega); unfold okB ltrI at h9; omega)).symm), rfl⟩
                · -- t48 False
                  refine L_qg rfl rfl rfl rfl rfl rfl rfl (q_move rfl) ?_
                  refine L_qg rfl rfl rfl rfl rfl rfl rfl (q_gtr rfl rfl) ?_
                  refine L_qg rfl rfl rfl rfl rfl rfl rfl (by first | exact q_pickT rfl rfl | exact q_pickF rfl rfl) ?_
                  refine L_qg rfl rfl rfl rfl rfl rfl rfl (by first | exact q_pickT rfl rfl | exact q_pickF rfl rfl) ?_
                  refine L_qg rfl rfl rfl rfl rfl rfl rfl (by first | exact q_pickT rfl rfl | exact q_pickF rfl rfl) ?_
                  refine L_q rfl rfl rfl (by first | exact q_pickT rfl rfl | exact q_pickF rfl rfl) ?_
                  refine L_then ?_
                  refine C_dec rfl (fun h40 => ?_) (fun h40 => ?_)
                  · -- t54 True
                    refine C_seq ?_
                    refine C_region ?_
                    refine L_q rfl rfl rfl (q_assign rfl) ?_
                    refine L_then ?_
                    refine C_ret ?_
                    exact ret_of (res1 rfl rfl) sub_nil (by intro r hr; cases hr) ⟨(congrArg Value.bool (decide_eq_false (p := nameP s) (fun hh => by have h9 := hh.2.2 k (by omega); unfold okB ltrI at h9; omega)).symm), rfl⟩
                  · -- t54 False
                    refine C_skip_blk ?_
                    refine C_region ?_
                    refine L_q rfl rfl rfl (q_move rfl) ?_
                    refine L_q rfl rfl rfl (q_add rfl rfl (by first | exact IntWalk.i64_in _ (by omega) | rfl)) ?_
                    refine L_q rfl rfl rfl (q_assign rfl) ?_
                    refine L_end ?_
                    exact fun ac_ wo_ hs_ => ⟨k + 1, ⟨by omega, fun i hi => by rcases Nat.lt_or_eq_of_le (Nat.le_of_lt_succ hi) with h9 | rfl; exact hb i h9; (unfold okB ltrI; omega)⟩, (by dsimp only; omega), hs_.weak ⟨rfl, rfl, trivial⟩ (fun h => h.pk (by repeat (first | with_reducible exact pk_nil | refine pk_box rfl ?_ | refine pk_rd rfl ?_ | refine pk_sl rfl ?_ | with_reducible refine pk_app ?_ | with_reducible refine pk_app0 ?_ | with_reducible refine pk_app0L ?_ | with_reducible exact pk_tl | refine pk_var ?_)))⟩
              · -- t45 False
                refine L_skip rfl rfl rfl rfl rfl rfl rfl ?_
                refine L_skip rfl rfl rfl rfl rfl rfl rfl ?_
                refine L_skip rfl rfl rfl rfl rfl rfl rfl ?_
                refine L_skipu rfl rfl rfl rfl rfl rfl ?_
                refine L_skipu rfl rfl rfl rfl rfl rfl ?_
                refine L_skip rfl rfl rfl rfl rfl rfl rfl ?_
                refine L_qg rfl rfl rfl rfl rfl rfl rfl (by first | exact q_pickT rfl rfl | exact q_pickF rfl rfl) ?_
                refine L_qg rfl rfl rfl rfl rfl rfl rfl (by first | exact q_pickT rfl rfl | exact q_pickF rfl rfl) ?_
                refine L_q rfl rfl rfl (by first | exact q_pickT rfl rfl | exact q_pickF rfl rfl) ?_
                refine L_then ?_
                refine C_false rfl ?_
                refine C_skip_blk ?_
                refine C_region ?_
                refine L_q rfl rfl rfl (q_move rfl) ?_
                refine L_q rfl rfl rfl (q_add rfl rfl (by first | exact IntWalk.i64_in _ (by omega) | rfl)) ?_
                refine L_q rfl rfl rfl (q_assign rfl) ?_
                refine L_end ?_
                exact fun ac_ wo_ hs_ => ⟨k + 1, ⟨by omega, fun i hi => by rcases Nat.lt_or_eq_of_le (Nat.le_of_lt_succ hi) with h9 | rfl; exact hb i h9; (unfold okB ltrI; omega)⟩, (by dsimp only; omega), hs_.weak ⟨rfl, rfl, trivial⟩ (fun h => h.pk (by repeat (first | with_reducible exact pk_nil | refine pk_box rfl ?_ | refine pk_rd rfl ?_ | refine pk_sl rfl ?_ | with_reducible refine pk_app ?_ | with_reducible refine pk_app0 ?_ | with_reducible refine pk_app0L ?_ | with_reducible exact pk_tl | refine pk_var ?_)))⟩
      · -- t17 False
        refine C_exit ?_
        change C Try.prog _ _ _ _ _ _ _
        refine C_seq ?_
        refine C_region ?_
        refine L_q rfl rfl rfl (q_assign rfl) ?_
        refine L_then ?_
        refine C_ret ?_
        exact ret_of (res1 rfl rfl) sub_nil (by intro r hr; cases hr) ⟨(congrArg Value.bool (decide_eq_true (p := nameP s) ⟨by omega, by omega, fun i hi => hb i (by omega)⟩).symm), rfl⟩
set_option maxRecDepth 100000 in
theorem ct_profile_CheckPlan (nm : ByteArray) (sf : Int) (v u : Value) (gs : List Gs) (ls : List Dl) (hle : gs.length ≤ 100000) (hle2 : ls.length ≤ 100000) (hnm : nm.size ≤ 1000000000000) : Ct Try.prog 144 [.agg (cPl nm sf v u).toArray] [(v, 2, gs.map cGs), (u, 3, ls.map cDl)] (isV (.tuple #[.int .i64 (ckPl nm sf gs ls).1, .int .i64 (ckPl nm sf gs ls).2])) := by
  refine Ct.of (N := 85) Try.func144 rfl rfl rfl fun w => ?_
  refine C_weak (E' := [(0, .agg (cPl nm sf v u).toArray)]) (rs' := [rd v 2 (gs.map cGs), rd u 3 (ls.map cDl)]) ⟨rfl, trivial⟩ (fun _ h => h) ?_
  have hl1 := len_map cGs gs
  have hl2 := len_map cDl ls
  refine C_seq ?_
  refine C_region ?_
  refine L_box rfl rfl rfl fun g1 => ?_
  refine L_q rfl rfl rfl (q_assign rfl) ?_
  refine L_q rfl rfl rfl (q_assign rfl) ?_
  refine L_then ?_
  refine C_seq ?_
  refine C_block ?_
  refine C_seq ?_
  refine C_region ?_
  refine L_q rfl rfl rfl (q_field tb rfl rfl rfl) ?_
  refine L_q rfl rfl rfl (q_load tb rfl rfl bxo rfl) ?_
  refine L_call tb rfl rfl (ct_profile_isName _ (by omega)) no_ps rfl ?_
  refine L_q rfl rfl rfl (q_not rfl (by first | exact (rfl : (!true) = false) | exact (rfl : (!false) = true) | exact decide_not.symm | rfl)) ?_
  refine L_q rfl rfl rfl (q_assign rfl) ?_
  refine L_then ?_
  refine C_dec rfl (fun hn => ?_) (fun hn => ?_)
  · -- t10 True
    refine C_seq ?_
    refine C_region ?_
    refine L_q rfl rfl rfl (q_assign rfl) ?_
    refine L_q rfl rfl rfl (q_assign rfl) ?_
    refine L_then ?_
    refine C_ret ?_
    rw [ckPl_1 hn]
    exact ret_of (res2 rfl rfl rfl) sub_nil (by intro r hr; cases hr) ⟨rfl, rfl⟩
  · -- t10 False
    refine C_seq ?_
    refine C_region ?_
    refine L_q rfl rfl rfl (q_field tb rfl rfl rfl) ?_
    refine L_q rfl rfl rfl (q_load tb rfl rfl bxo rfl) ?_
    refine L_call tb rfl rfl (ct_profile_within _ _ _) no_ps rfl ?_
    refine L_q rfl rfl rfl (q_not rfl (by first | exact (rfl : (!true) = false) | exact (rfl : (!false) = true) | exact decide_not.symm | rfl)) ?_
    refine L_q rfl rfl rfl (q_assign rfl) ?_
    refine L_then ?_
    refine C_dec rfl (fun hs => ?_) (fun hs => ?_)
    · -- t15 True
      refine C_seq ?_
      refine C_region ?_
      refine L_q rfl rfl rfl (q_assign rfl) ?_
      refine L_q rfl rfl rfl (q_assign rfl) ?_
      refine L_then ?_
      refine C_ret ?_
      rw [ckPl_2 (Decidable.not_not.1 hn) hs]
      exact ret_of (res2 rfl rfl rfl) sub_nil (by intro r hr; cases hr) ⟨rfl, rfl⟩
    · -- t15 False
      refine C_seq ?_
      refine C_region ?_
      refine L_q rfl rfl rfl (q_field tb rfl rfl rfl) ?_
      refine L_q rfl rfl rfl (q_load tb rfl rfl bxo rfl) ?_
      refine L_q rfl rfl rfl (q_len tb rfl rfl (by first | exact gvo | exact gvd gvo (by omega))) ?_
      refine L_q rfl rfl rfl (q_eql rfl rfl) ?_
      refine L_q rfl rfl rfl (q_assign rfl) ?_
      refine L_then ?_
      refine C_dec rfl (fun h3 => ?_) (fun h3 => ?_)
      · -- t20 True
        refine C_seq ?_
        refine C_region ?_
        refine L_q rfl rfl rfl (q_assign rfl) ?_
        refine L_q rfl rfl rfl (q_assign rfl) ?_
        refine L_then ?_
        refine C_ret ?_
        rw [ckPl_3 (Decidable.not_not.1 hn) (Decidable.not_not.1 hs) (by omega)]
        exact ret_of (res2 rfl rfl rfl) sub_nil (by intro r hr; cases hr) ⟨rfl, rfl⟩
      · -- t20 False
        have hn9 := Decidable.not_not.1 hn
        have hs9 := Decidable.not_not.1 hs
        have hz : ¬ gs.length = 0 := by omega
        refine C_seq ?_
        refine C_region ?_
        refine L_q rfl rfl rfl (q_field tb rfl rfl rfl) ?_
        refine L_q rfl rfl rfl (q_load tb rfl rfl bxo rfl) ?_
        refine L_q rfl rfl rfl (q_len tb rfl rfl (by first | exact gvo | exact gvd gvo (by omega))) ?_
        refine L_q rfl rfl rfl (q_gtr rfl rfl) ?_
        refine L_q rfl rfl rfl (q_assign rfl) ?_
        refine L_then ?_
        refine C_dec rfl (fun h4 => ?_) (fun h4 => ?_)
        · -- t25 True
          refine C_seq ?_
          refine C_region ?_
          refine L_q rfl rfl rfl (q_assign rfl) ?_
          refine L_q rfl rfl rfl (q_assign rfl) ?_
          refine L_then ?_
          refine C_ret ?_
          rw [ckPl_4 hn9 hs9 hz (by omega)]
          exact ret_of (res2 rfl rfl rfl) sub_nil (by intro r hr; cases hr) ⟨rfl, rfl⟩
        · -- t25 False
          have hm : ¬ gs.length > 8 := by omega
          refine C_skip_blk ?_
          refine C_seq ?_
          refine C_seq ?_
          refine C_region ?_
          refine L_q rfl rfl rfl (q_field tb rfl rfl rfl) ?_
          refine L_q rfl rfl rfl (q_load tb rfl rfl bxo rfl) ?_
          refine L_q rfl rfl rfl (q_len tb rfl rfl (by first | exact gvo | exact gvd gvo (by omega))) ?_
          refine L_q rfl rfl rfl (q_move rfl) ?_
          refine L_then ?_
          refine C_block ?_
          refine C_loop (ι := Nat) (fun k => ([(1, .pointer (some ⟨g1, 0, none⟩)), (31, v), (32, .int .i64 (gs.map cGs).length), (33, .int .i64 (k : Int))], [box g1 44 (cPl nm sf v u), rd v 2 (gs.map cGs), rd u 3 (ls.map cDl)])) (fun k => k ≤ gs.length ∧ ckGs (gs.drop k) = ckGs gs) (fun k => gs.length - k) 0 ⟨Nat.zero_le _, rfl⟩ (fun a w hs => hs.weak ⟨rfl, rfl, rfl, rfl, trivial⟩ (fun h => h.pk (by repeat (first | with_reducible exact pk_nil | refine pk_box rfl ?_ | refine pk_rd rfl ?_ | refine pk_sl rfl ?_ | with_reducible refine pk_app ?_ | with_reducible refine pk_app0 ?_ | with_reducible refine pk_app0L ?_ | with_reducible exact pk_tl | refine pk_var ?_)))) ?_
          rintro k ⟨hk, hf⟩
          dsimp only at hk hf ⊢
          refine C_seq ?_
          refine C_region ?_
          refine L_q rfl rfl rfl (q_lss rfl rfl) ?_
          refine L_then ?_
          refine C_seq ?_
          refine C_dec rfl (fun h5 => ?_) (fun h5 => ?_)
          · -- t34 True
            obtain ⟨x, hex⟩ := get_some gs (k := k) (by omega); have hel := map_get cGs hex
            refine C_skip_then ?_
            refine C_seq ?_
            refine C_block ?_
            refine C_seq ?_
            refine C_region ?_
            refine L_q rfl rfl rfl (by first | exact q_index tb rfl rfl rfl rfl (by first | exact gvo | exact gvd gvo (by omega)) (by omega) (by first | omega | (simp; done) | (simp; omega)) | exact q_indexP tb rfl rfl rfl rfl (by omega) (by omega)) ?_
            refine L_q rfl rfl rfl (q_loadEA tb rfl rfl (by first | exact gvo | exact gvd gvo (by omega)) (i := k) (o := 0) (by omega) hel rfl rfl) ?_
            refine L_alloc tb rfl rfl fun g5 => ?_
            first | refine L_store tb rfl rfl rfl rfl rfl rfl rfl rfl ?_ | (refine L_front1 ?_; refine L_store tb rfl rfl rfl rfl rfl rfl rfl rfl ?_) | (refine L_front2 ?_; refine L_store tb rfl rfl rfl rfl rfl rfl rfl rfl ?_) | (refine L_front3 ?_; refine L_store tb rfl rfl rfl rfl rfl rfl rfl rfl ?_) | (refine L_front4 ?_; refine L_store tb rfl rfl rfl rfl rfl rfl rfl rfl ?_) | (refine L_front5 ?_; refine L_store tb rfl rfl rfl rfl rfl rfl rfl rfl ?_) | (refine L_front6 ?_; refine L_store tb rfl rfl rfl rfl rfl rfl rfl rfl ?_)
            refine L_then ?_
            refine C_seq ?_
            refine C_region ?_
            refine L_q rfl rfl rfl (q_loadA tb rfl rfl bxo rfl rfl) ?_
            refine L_call tb rfl rfl (ct_gas_CheckGas x.o x.h) no_ps rfl ?_
            refine L_q rfl rfl rfl (q_assign rfl) ?_
            refine L_then ?_
            refine C_seq ?_
            refine C_region ?_
            refine L_q rfl rfl rfl (q_move rfl) ?_
            refine L_q rfl rfl rfl (q_neq rfl rfl) ?_
            refine L_then ?_
            refine C_dec rfl (fun hgb => ?_) (fun hgb => ?_)
            · -- t40 True
              refine C_seq ?_
              refine C_region ?_
              refine L_q rfl rfl rfl (q_move rfl) ?_
              refine L_q rfl rfl rfl (q_assign rfl) ?_
              refine L_q rfl rfl rfl (q_assign rfl) ?_
              refine L_then ?_
              refine C_ret ?_
              have e8 : ckGs gs = ckGas x.o x.h := by rw [← hf, ckGs_step hex, if_pos hgb]
              rw [ckPl_5 hn9 hs9 hz hm (by rw [e8]; exact hgb), e8]
              exact ret_of (res2 rfl rfl rfl) sub_nil (by intro r hr; cases hr) ⟨rfl, rfl⟩
            · -- t40 False
              refine C_skip_blk ?_
              refine C_region ?_
              refine L_q rfl rfl rfl (q_add rfl rfl (by first | exact IntWalk.i64_in _ (by omega) | rfl)) ?_
              refine L_q rfl rfl rfl (q_move rfl) ?_
              refine L_end ?_
              exact fun ac_ wo_ hs_ => ⟨k + 1, ⟨by omega, by rw [← hf, ckGs_step hex, if_neg hgb]⟩, (by dsimp only; omega), hs_.weak ⟨rfl, rfl, rfl, rfl, trivial⟩ (fun h => h.pk (by repeat (first | with_reducible exact pk_nil | refine pk_box rfl ?_ | refine pk_rd rfl ?_ | refine pk_sl rfl ?_ | with_reducible refine pk_app ?_ | with_reducible refine pk_app0 ?_ | with_reducible refine pk_app0L ?_ | with_reducible exact pk_tl | refine pk_var ?_)))⟩
          · -- t34 False
            have hg9 : ckGs gs = 0 := by rw [← hf, drop_all (by omega)]; rfl
            refine C_exit ?_
            change C Try.prog _ _ _ _ _ _ _
            refine C_seq ?_
            refine C_seq ?_
            refine C_region ?_
            refine L_q rfl rfl rfl (q_field tb rfl rfl rfl) ?_
            refine L_q rfl rfl rfl (q_load tb rfl rfl bxo rfl) ?_
            refine L_q rfl rfl rfl (q_len tb rfl rfl (by first | exact gvo | exact gvd gvo (by omega))) ?_
            refine L_q rfl rfl rfl (q_gtr rfl rfl) ?_
            refine L_then ?_
            refine C_dec rfl (fun h7 => ?_) (fun h7 => ?_)
            · -- t46 True
              refine C_seq ?_
              refine C_region ?_
              refine L_q rfl rfl rfl (q_assign rfl) ?_
              refine L_q rfl rfl rfl (q_assign rfl) ?_
              refine L_then ?_
              refine C_ret ?_
              rw [ckPl_6 hn9 hs9 hz hm hg9 (by omega)]
              exact ret_of (res2 rfl rfl rfl) sub_nil (by intro r hr; cases hr) ⟨rfl, rfl⟩
            · -- t46 False
              have hl : ¬ ls.length > 60 := by omega
              refine C_skip_then ?_
              refine C_seq ?_
              refine C_region ?_
              refine L_q rfl rfl rfl (q_assign rfl) ?_
              refine L_then ?_
              refine C_seq ?_
              refine C_seq ?_
              refine C_region ?_
              refine L_q rfl rfl rfl (q_field tb rfl rfl rfl) ?_
              refine L_q rfl rfl rfl (q_load tb rfl rfl bxo rfl) ?_
              refine L_q rfl rfl rfl (q_len tb rfl rfl (by first | exact gvo | exact gvd gvo (by omega))) ?_
              refine L_q rfl rfl rfl (q_move rfl) ?_
              refine L_then ?_
              refine C_block ?_
              refine C_loop (ι := Nat) (fun k => ([(1, .pointer (some ⟨g1, 0, none⟩)), (7, .int .i64 (secAt ls k)), (48, u), (49, .int .i64 (ls.map cDl).length), (50, .int .i64 (k : Int))], [box g1 44 (cPl nm sf v u), rd v 2 (gs.map cGs), rd u 3 (ls.map cDl)])) (fun k => k ≤ ls.length ∧ ckLegs gs.length k (secAt ls k) (ls.drop k) = ckLegs gs.length 0 0 ls ∧ 0 ≤ secAt ls k ∧ secAt ls k ≤ 1000000) (fun k => ls.length - k) 0 ⟨Nat.zero_le _, rfl, by show (0 : Int) ≤ 0; omega, by show (0 : Int) ≤ 1000000; omega⟩ (fun a w hs => hs.weak ⟨rfl, rfl, rfl, rfl, rfl, trivial⟩ (fun h => h.pk (by repeat (first | with_reducible exact pk_nil | refine pk_box rfl ?_ | refine pk_rd rfl ?_ | refine pk_sl rfl ?_ | with_reducible refine pk_app ?_ | with_reducible refine pk_app0 ?_ | with_reducible refine pk_app0L ?_ | with_reducible exact pk_tl | refine pk_var ?_)))) ?_
              rintro k ⟨hk, hf⟩
              dsimp only at hk hf ⊢
              refine C_seq ?_
              refine C_region ?_
              refine L_q rfl rfl rfl (q_lss rfl rfl) ?_
              refine L_then ?_
              refine C_seq ?_
              refine C_dec rfl (fun h8 => ?_) (fun h8 => ?_)
              · -- t51 True
                obtain ⟨x, hex⟩ := get_some ls (k := k) (by omega); have hel := map_get cDl hex
                refine C_skip_then ?_
                refine C_seq ?_
                refine C_block ?_
                refine C_seq ?_
                refine C_region ?_
                refine L_q rfl rfl rfl (q_move rfl) ?_
                refine L_q rfl rfl rfl (by first | exact q_index tb rfl rfl rfl rfl (by first | exact gvo | exact gvd gvo (by omega)) (by omega) (by first | omega | (simp; done) | (simp; omega)) | exact q_indexP tb rfl rfl rfl rfl (by omega) (by omega)) ?_
                refine L_q rfl rfl rfl (q_loadEA tb rfl rfl (by first | exact gvo | exact gvd gvo (by omega)) (i := k) (o := 0) (by omega) hel rfl rfl) ?_
                refine L_alloc tb rfl rfl fun g9 => ?_
                refine L_q rfl rfl rfl (q_assign rfl) ?_
                first | refine L_store tb rfl rfl rfl rfl rfl rfl rfl rfl ?_ | (refine L_front1 ?_; refine L_store tb rfl rfl rfl rfl rfl rfl rfl rfl ?_) | (refine L_front2 ?_; refine L_store tb rfl rfl rfl rfl rfl rfl rfl rfl ?_) | (refine L_front3 ?_; refine L_store tb rfl rfl rfl rfl rfl rfl rfl rfl ?_) | (refine L_front4 ?_; refine L_store tb rfl rfl rfl rfl rfl rfl rfl rfl ?_) | (refine L_front5 ?_; refine L_store tb rfl rfl rfl rfl rfl rfl rfl rfl ?_) | (refine L_front6 ?_; refine L_store tb rfl rfl rfl rfl rfl rfl rfl rfl ?_)
                refine L_then ?_
                refine C_seq ?_
                refine C_block ?_
                refine C_seq ?_
                refine C_region ?_
                refine L_q rfl rfl rfl (q_field tb rfl rfl rfl) ?_
                refine L_q rfl rfl rfl (q_load tb rfl rfl bxo rfl) ?_
                refine L_call tb rfl rfl (ct_profile_within _ _ _) no_ps rfl ?_
                refine L_q rfl rfl rfl (q_not rfl (by first | exact (rfl : (!true) = false) | exact (rfl : (!false) = true) | exact decide_not.symm | rfl)) ?_
                refine L_q rfl rfl rfl (q_move rfl) ?_
                refine L_dec (d := 60) rfl (fun h9 => ?_) (fun h9 => ?_)
                · -- t60 True
                  refine L_skip rfl rfl rfl rfl rfl rfl rfl ?_
                  refine L_skip rfl rfl rfl rfl rfl rfl rfl ?_
                  refine L_skip rfl rfl rfl rfl rfl rfl rfl ?_
                  refine L_skip rfl rfl rfl rfl rfl rfl rfl ?_
                  refine L_q rfl rfl rfl (by first | exact q_pickT rfl rfl | exact q_pickF rfl rfl) ?_
                  refine L_q rfl rfl rfl (q_assign rfl) ?_
                  refine L_then ?_
                  refine C_true rfl ?_
                  refine C_seq ?_
                  refine C_region ?_
                  refine L_q rfl rfl rfl (q_move rfl) ?_
                  refine L_q rfl rfl rfl (q_assign rfl) ?_
                  refine L_q rfl rfl rfl (q_assign rfl) ?_
                  refine L_then ?_
                  refine C_ret ?_
                  have hc9 : ckDl1 gs.length (secAt ls k) x = 2 := by unfold ckDl1; rw [if_pos (by omega)]
                  have e9 : ckPl nm sf gs ls = ((k : Int), 2) := by rw [ckPl_7 hn9 hs9 hz hm hg9 hl, ← hf.1, ckLegs_bad hex (by omega), hc9]
                  rw [e9]
                  exact ret_of (res2 rfl rfl rfl) sub_nil (by intro r hr; cases hr) ⟨rfl, rfl⟩
                · -- t60 False
                  refine L_qg rfl rfl rfl rfl rfl rfl rfl (q_field tb rfl rfl rfl) ?_
                  refine L_qg rfl rfl rfl rfl rfl rfl rfl (q_load tb rfl rfl bxo rfl) ?_
                  refine L_callg tb rfl rfl rfl rfl rfl rfl (ct_profile_within _ _ _) no_ps rfl ?_
                  refine L_qg rfl rfl rfl rfl rfl rfl rfl (q_not rfl (by first | exact (rfl : (!true) = false) | exact (rfl : (!false) = true) | exact decide_not.symm | rfl)) ?_
                  refine L_q rfl rfl rfl (by first | exact q_pickT rfl rfl | exact q_pickF rfl rfl) ?_
                  refine L_q rfl rfl rfl (q_assign rfl) ?_
                  refine L_then ?_
                  refine C_dec rfl (fun h11 => ?_) (fun h11 => ?_)
                  · -- t55 True
                    refine C_seq ?_
                    refine C_region ?_
                    refine L_q rfl rfl rfl (q_move rfl) ?_
                    refine L_q rfl rfl rfl (q_assign rfl) ?_
                    refine L_q rfl rfl rfl (q_assign rfl) ?_
                    refine L_then ?_
                    refine C_ret ?_
                    have hc9 : ckDl1 gs.length (secAt ls k) x = 2 := by unfold ckDl1; rw [if_pos (by omega)]
                    have e9 : ckPl nm sf gs ls = ((k : Int), 2) := by rw [ckPl_7 hn9 hs9 hz hm hg9 hl, ← hf.1, ckLegs_bad hex (by omega), hc9]
                    rw [e9]
                    exact ret_of (res2 rfl rfl rfl) sub_nil (by intro r hr; cases hr) ⟨rfl, rfl⟩
                  · -- t55 False
                    refine C_seq ?_
                    refine C_region ?_
                    refine L_q rfl rfl rfl (q_field tb rfl rfl rfl) ?_
                    refine L_q rfl rfl rfl (q_load tb rfl rfl bxo rfl) ?_
                    refine L_q rfl rfl rfl (q_field tb rfl rfl rfl) ?_
                    refine L_q rfl rfl rfl (q_load tb rfl rfl bxo rfl) ?_
                    refine L_q rfl rfl rfl (q_len tb rfl rfl (by first | exact gvo | exact gvd gvo (by omega))) ?_
                    refine L_q rfl rfl rfl (q_sub rfl rfl (by first | exact IntWalk.i64_in _ (by omega) | rfl)) ?_
                    refine L_call tb rfl rfl (ct_profile_within _ _ _) no_ps rfl ?_
                    refine L_q rfl rfl rfl (q_not rfl (by first | exact (rfl : (!true) = false) | exact (rfl : (!false) = true) | exact decide_not.symm | rfl)) ?_
                    refine L_q rfl rfl rfl (q_assign rfl) ?_
                    refine L_then ?_
                    refine C_dec rfl (fun h12 => ?_) (fun h12 => ?_)
                    · -- t67 True
                      refine C_seq ?_
                      refine C_region ?_
                      refine L_q rfl rfl rfl (q_move rfl) ?_
                      refine L_q rfl rfl rfl (q_assign rfl) ?_
                      refine L_q rfl rfl rfl (q_assign rfl) ?_
                      refine L_then ?_
                      refine C_ret ?_
                      have hc9 : ckDl1 gs.length (secAt ls k) x = 6 := by unfold ckDl1; rw [if_neg (by omega), if_pos (by omega)]
                      have e9 : ckPl nm sf gs ls = ((k : Int), 6) := by rw [ckPl_7 hn9 hs9 hz hm hg9 hl, ← hf.1, ckLegs_bad hex (by omega), hc9]
                      rw [e9]
                      exact ret_of (res2 rfl rfl rfl) sub_nil (by intro r hr; cases hr) ⟨rfl, rfl⟩
                    · -- t67 False
                      refine C_skip_blk ?_
                      refine C_seq ?_
                      refine C_region ?_
                      refine L_q rfl rfl rfl (q_move rfl) ?_
                      refine L_q rfl rfl rfl (q_field tb rfl rfl rfl) ?_
                      refine L_q rfl rfl rfl (q_load tb rfl rfl bxo rfl) ?_
                      refine L_q rfl rfl rfl (q_add rfl rfl (by first | exact IntWalk.i64_in _ (by omega) | rfl)) ?_
                      refine L_q rfl rfl rfl (q_assign rfl) ?_
                      refine L_then ?_
                      refine C_seq ?_
                      refine C_region ?_
                      refine L_q rfl rfl rfl (q_move rfl) ?_
                      refine L_q rfl rfl rfl (q_gtr rfl rfl) ?_
                      refine L_then ?_
                      refine C_dec rfl (fun h13 => ?_) (fun h13 => ?_)
                      · -- t82 True
                        refine C_seq ?_
                        refine C_region ?_
                        refine L_q rfl rfl rfl (q_move rfl) ?_
                        refine L_q rfl rfl rfl (q_assign rfl) ?_
                        refine L_q rfl rfl rfl (q_assign rfl) ?_
                        refine L_then ?_
                        refine C_ret ?_
                        have hc9 : ckDl1 gs.length (secAt ls k) x = 8 := by unfold ckDl1; rw [if_neg (by omega), if_neg (by omega), if_pos (by omega)]
                        have e9 : ckPl nm sf gs ls = ((k : Int), 8) := by rw [ckPl_7 hn9 hs9 hz hm hg9 hl, ← hf.1, ckLegs_bad hex (by omega), hc9]
                        rw [e9]
                        exact ret_of (res2 rfl rfl rfl) sub_nil (by intro r hr; cases hr) ⟨rfl, rfl⟩
                      · -- t82 False
                        refine C_skip_blk ?_
                        refine C_region ?_
                        refine L_q rfl rfl rfl (q_add rfl rfl (by first | exact IntWalk.i64_in _ (by omega) | rfl)) ?_
                        refine L_q rfl rfl rfl (q_move rfl) ?_
                        refine L_end ?_
                        have hc9 : ckDl1 gs.length (secAt ls k) x = 0 := by unfold ckDl1; rw [if_neg (by omega), if_neg (by omega), if_neg (by omega)]
                        have hsec : secAt ls (k + 1) = secAt ls k + x.s := by show secAt ls k + (dlAt ls k).s = _; rw [dlAt_get hex]
                        exact fun ac_ wo_ hs_ => ⟨k + 1, ⟨by omega, by rw [hsec, ← ckLegs_ok hex hc9]; exact hf.1, by omega, by omega⟩, (by dsimp only; omega), hs_.weak ⟨rfl, en hsec.symm, rfl, rfl, rfl, trivial⟩ (fun h => h.pk (by repeat (first | with_reducible exact pk_nil | refine pk_box rfl ?_ | refine pk_rd rfl ?_ | refine pk_sl rfl ?_ | with_reducible refine pk_app ?_ | with_reducible refine pk_app0 ?_ | with_reducible refine pk_app0L ?_ | with_reducible exact pk_tl | refine pk_var ?_)))⟩
              · -- t51 False
                refine C_exit ?_
                change C Try.prog _ _ _ _ _ _ _
                refine C_seq ?_
                refine C_region ?_
                refine L_q rfl rfl rfl (q_assign rfl) ?_
                refine L_q rfl rfl rfl (q_assign rfl) ?_
                refine L_then ?_
                refine C_ret ?_
                rw [ckPl_7 hn9 hs9 hz hm hg9 hl, ← hf.1, ckLegs_end (by omega)]
                exact ret_of (res2 rfl rfl rfl) sub_nil (by intro r hr; cases hr) ⟨rfl, rfl⟩
set_option maxRecDepth 100000 in
theorem ct_shotlineref02_CheckPlan (nm : ByteArray) (sf : Int) (v u : Value) (gs : List Gs) (ls : List Dl) (hle : gs.length ≤ 100000) (hle2 : ls.length ≤ 100000) : Ct Try.prog 108 [.agg (cPl nm sf v u).toArray] [(v, 2, gs.map cGs), (u, 3, ls.map cDl)] (isV (.tuple #[.int .i64 (ckPl nm sf gs ls).1, .int .i64 (ckPl nm sf gs ls).2])) := by
  refine Ct.of (N := 84) Try.func108 rfl rfl rfl fun w => ?_
  refine C_weak (E' := [(0, .agg (cPl nm sf v u).toArray)]) (rs' := [rd v 2 (gs.map cGs), rd u 3 (ls.map cDl)]) ⟨rfl, trivial⟩ (fun _ h => h) ?_
  have hl1 := len_map cGs gs
  have hl2 := len_map cDl ls
  refine C_seq ?_
  refine C_region ?_
  refine L_box rfl rfl rfl fun g1 => ?_
  refine L_q rfl rfl rfl (q_assign rfl) ?_
  refine L_q rfl rfl rfl (q_assign rfl) ?_
  refine L_then ?_
  refine C_seq ?_
  refine C_seq ?_
  refine C_region ?_
  refine L_q rfl rfl rfl (q_field tb rfl rfl rfl) ?_
  refine L_q rfl rfl rfl (q_load tb rfl rfl bxo rfl) ?_
  refine L_call tb rfl rfl (ct_shotlinebase_IsName _) no_ps rfl ?_
  refine L_q rfl rfl rfl (q_not rfl (by first | exact (rfl : (!true) = false) | exact (rfl : (!false) = true) | exact decide_not.symm | rfl)) ?_
  refine L_then ?_
  refine C_dec rfl (fun hn => ?_) (fun hn => ?_)
  · -- t12 True
    refine C_seq ?_
    refine C_region ?_
    refine L_q rfl rfl rfl (q_assign rfl) ?_
    refine L_q rfl rfl rfl (q_assign rfl) ?_
    refine L_then ?_
    refine C_ret ?_
    rw [ckPl_1 hn]
    exact ret_of (res2 rfl rfl rfl) sub_nil (by intro r hr; cases hr) ⟨rfl, rfl⟩
  · -- t12 False
    refine C_skip_then ?_
    refine C_seq ?_
    refine C_seq ?_
    refine C_region ?_
    refine L_q rfl rfl rfl (q_field tb rfl rfl rfl) ?_
    refine L_q rfl rfl rfl (q_load tb rfl rfl bxo rfl) ?_
    refine L_call tb rfl rfl (ct_shotlinebase_Within _ _ _) no_ps rfl ?_
    refine L_q rfl rfl rfl (q_not rfl (by first | exact (rfl : (!true) = false) | exact (rfl : (!false) = true) | exact decide_not.symm | rfl)) ?_
    refine L_then ?_
    refine C_dec rfl (fun hs => ?_) (fun hs => ?_)
    · -- t16 True
      refine C_seq ?_
      refine C_region ?_
      refine L_q rfl rfl rfl (q_assign rfl) ?_
      refine L_q rfl rfl rfl (q_assign rfl) ?_
      refine L_then ?_
      refine C_ret ?_
      rw [ckPl_2 (Decidable.not_not.1 hn) hs]
      exact ret_of (res2 rfl rfl rfl) sub_nil (by intro r hr; cases hr) ⟨rfl, rfl⟩
    · -- t16 False
      refine C_skip_then ?_
      refine C_seq ?_
      refine C_seq ?_
      refine C_region ?_
      refine L_q rfl rfl rfl (q_field tb rfl rfl rfl) ?_
      refine L_q rfl rfl rfl (q_load tb rfl rfl bxo rfl) ?_
      refine L_q rfl rfl rfl (q_len tb rfl rfl (by first | exact gvo | exact gvd gvo (by omega))) ?_
      refine L_q rfl rfl rfl (q_eql rfl rfl) ?_
      refine L_then ?_
      refine C_dec rfl (fun h3 => ?_) (fun h3 => ?_)
      · -- t20 True
        refine C_seq ?_
        refine C_region ?_
        refine L_q rfl rfl rfl (q_assign rfl) ?_
        refine L_q rfl rfl rfl (q_assign rfl) ?_
        refine L_then ?_
        refine C_ret ?_
        rw [ckPl_3 (Decidable.not_not.1 hn) (Decidable.not_not.1 hs) (by omega)]
        exact ret_of (res2 rfl rfl rfl) sub_nil (by intro r hr; cases hr) ⟨rfl, rfl⟩
      · -- t20 False
        have hn9 := Decidable.not_not.1 hn
        have hs9 := Decidable.not_not.1 hs
        have hz : ¬ gs.length = 0 := by omega
        refine C_skip_then ?_
        refine C_seq ?_
        refine C_seq ?_
        refine C_region ?_
        refine L_q rfl rfl rfl (q_field tb rfl rfl rfl) ?_
        refine L_q rfl rfl rfl (q_load tb rfl rfl bxo rfl) ?_
        refine L_q rfl rfl rfl (q_len tb rfl rfl (by first | exact gvo | exact gvd gvo (by omega))) ?_
        refine L_q rfl rfl rfl (q_gtr rfl rfl) ?_
        refine L_then ?_
        refine C_dec rfl (fun h4 => ?_) (fun h4 => ?_)
        · -- t24 True
          refine C_seq ?_
          refine C_region ?_
          refine L_q rfl rfl rfl (q_assign rfl) ?_
          refine L_q rfl rfl rfl (q_assign rfl) ?_
          refine L_then ?_
          refine C_ret ?_
          rw [ckPl_4 hn9 hs9 hz (by omega)]
          exact ret_of (res2 rfl rfl rfl) sub_nil (by intro r hr; cases hr) ⟨rfl, rfl⟩
        · -- t24 False
          have hm : ¬ gs.length > 8 := by omega
          refine C_skip_then ?_
          refine C_seq ?_
          refine C_seq ?_
          refine C_region ?_
          refine L_q rfl rfl rfl (q_assign rfl) ?_
          refine L_then ?_
          refine C_block ?_
          refine C_loop (ι := Nat) (fun k => ([(1, .pointer (some ⟨g1, 0, none⟩)), (4, .int .i64 (k : Int))], [box g1 44 (cPl nm sf v u), rd v 2 (gs.map cGs), rd u 3 (ls.map cDl)])) (fun k => k ≤ gs.length ∧ ckGs (gs.drop k) = ckGs gs) (fun k => gs.length - k) 0 ⟨Nat.zero_le _, rfl⟩ (fun a w hs => hs.weak ⟨rfl, rfl, trivial⟩ (fun h => h.pk (by repeat (first | with_reducible exact pk_nil | refine pk_box rfl ?_ | refine pk_rd rfl ?_ | refine pk_sl rfl ?_ | with_reducible refine pk_app ?_ | with_reducible refine pk_app0 ?_ | with_reducible refine pk_app0L ?_ | with_reducible exact pk_tl | refine pk_var ?_)))) ?_
          rintro k ⟨hk, hf⟩
          dsimp only at hk hf ⊢
          refine C_seq ?_
          refine C_seq ?_
          refine C_region ?_
          refine L_q rfl rfl rfl (q_move rfl) ?_
          refine L_q rfl rfl rfl (q_field tb rfl rfl rfl) ?_
          refine L_q rfl rfl rfl (q_load tb rfl rfl bxo rfl) ?_
          refine L_q rfl rfl rfl (q_len tb rfl rfl (by first | exact gvo | exact gvd gvo (by omega))) ?_
          refine L_q rfl rfl rfl (q_lss rfl rfl) ?_
          refine L_then ?_
          refine C_dec rfl (fun h5 => ?_) (fun h5 => ?_)
          · -- t29 True
            obtain ⟨x, hex⟩ := get_some gs (k := k) (by omega); have hel := map_get cGs hex
            refine C_skip_then ?_
            refine C_seq ?_
            refine C_block ?_
            refine C_seq ?_
            refine C_region ?_
            refine L_q rfl rfl rfl (q_field tb rfl rfl rfl) ?_
            refine L_q rfl rfl rfl (q_load tb rfl rfl bxo rfl) ?_
            refine L_q rfl rfl rfl (q_move rfl) ?_
            refine L_q rfl rfl rfl (by first | exact q_index tb rfl rfl rfl rfl (by first | exact gvo | exact gvd gvo (by omega)) (by omega) (by first | omega | (simp; done) | (simp; omega)) | exact q_indexP tb rfl rfl rfl rfl (by omega) (by omega)) ?_
            refine L_q rfl rfl rfl (q_loadEA tb rfl rfl (by first | exact gvo | exact gvd gvo (by omega)) (i := k) (o := 0) (by omega) hel rfl rfl) ?_
            refine L_call tb rfl rfl (ct_shotlineref01_CheckGas x.o x.h) no_ps rfl ?_
            refine L_q rfl rfl rfl (q_assign rfl) ?_
            refine L_then ?_
            refine C_seq ?_
            refine C_region ?_
            refine L_q rfl rfl rfl (q_move rfl) ?_
            refine L_q rfl rfl rfl (q_neq rfl rfl) ?_
            refine L_then ?_
            refine C_dec rfl (fun hgb => ?_) (fun hgb => ?_)
            · -- t39 True
              refine C_seq ?_
              refine C_region ?_
              refine L_q rfl rfl rfl (q_move rfl) ?_
              refine L_q rfl rfl rfl (q_assign rfl) ?_
              refine L_q rfl rfl rfl (q_assign rfl) ?_
              refine L_then ?_
              refine C_ret ?_
              have e8 : ckGs gs = ckGas x.o x.h := by rw [← hf, ckGs_step hex, if_pos hgb]
              rw [ckPl_5 hn9 hs9 hz hm (by rw [e8]; exact hgb), e8]
              exact ret_of (res2 rfl rfl rfl) sub_nil (by intro r hr; cases hr) ⟨rfl, rfl⟩
            · -- t39 False
              refine C_skip_blk ?_
              refine C_region ?_
              refine L_q rfl rfl rfl (q_move rfl) ?_
              refine L_q rfl rfl rfl (q_add rfl rfl (by first | exact IntWalk.i64_in _ (by omega) | rfl)) ?_
              refine L_q rfl rfl rfl (q_assign rfl) ?_
              refine L_end ?_
              exact fun ac_ wo_ hs_ => ⟨k + 1, ⟨by omega, by rw [← hf, ckGs_step hex, if_neg hgb]⟩, (by dsimp only; omega), hs_.weak ⟨rfl, rfl, trivial⟩ (fun h => h.pk (by repeat (first | with_reducible exact pk_nil | refine pk_box rfl ?_ | refine pk_rd rfl ?_ | refine pk_sl rfl ?_ | with_reducible refine pk_app ?_ | with_reducible refine pk_app0 ?_ | with_reducible refine pk_app0L ?_ | with_reducible exact pk_tl | refine pk_var ?_)))⟩
          · -- t29 False
            have hg9 : ckGs gs = 0 := by rw [← hf, drop_all (by omega)]; rfl
            refine C_exit ?_
            change C Try.prog _ _ _ _ _ _ _
            refine C_seq ?_
            refine C_seq ?_
            refine C_region ?_
            refine L_q rfl rfl rfl (q_field tb rfl rfl rfl) ?_
            refine L_q rfl rfl rfl (q_load tb rfl rfl bxo rfl) ?_
            refine L_q rfl rfl rfl (q_len tb rfl rfl (by first | exact gvo | exact gvd gvo (by omega))) ?_
            refine L_q rfl rfl rfl (q_gtr rfl rfl) ?_
            refine L_then ?_
            refine C_dec rfl (fun h7 => ?_) (fun h7 => ?_)
            · -- t44 True
              refine C_seq ?_
              refine C_region ?_
              refine L_q rfl rfl rfl (q_assign rfl) ?_
              refine L_q rfl rfl rfl (q_assign rfl) ?_
              refine L_then ?_
              refine C_ret ?_
              rw [ckPl_6 hn9 hs9 hz hm hg9 (by omega)]
              exact ret_of (res2 rfl rfl rfl) sub_nil (by intro r hr; cases hr) ⟨rfl, rfl⟩
            · -- t44 False
              have hl : ¬ ls.length > 60 := by omega
              refine C_skip_then ?_
              refine C_seq ?_
              refine C_region ?_
              refine L_q rfl rfl rfl (q_assign rfl) ?_
              refine L_then ?_
              refine C_seq ?_
              refine C_seq ?_
              refine C_region ?_
              refine L_q rfl rfl rfl (q_assign rfl) ?_
              refine L_then ?_
              refine C_block ?_
              refine C_loop (ι := Nat) (fun k => ([(1, .pointer (some ⟨g1, 0, none⟩)), (6, .int .i64 (secAt ls k)), (7, .int .i64 (k : Int))], [box g1 44 (cPl nm sf v u), rd v 2 (gs.map cGs), rd u 3 (ls.map cDl)])) (fun k => k ≤ ls.length ∧ ckLegs gs.length k (secAt ls k) (ls.drop k) = ckLegs gs.length 0 0 ls ∧ 0 ≤ secAt ls k ∧ secAt ls k ≤ 1000000) (fun k => ls.length - k) 0 ⟨Nat.zero_le _, rfl, by show (0 : Int) ≤ 0; omega, by show (0 : Int) ≤ 1000000; omega⟩ (fun a w hs => hs.weak ⟨rfl, rfl, rfl, trivial⟩ (fun h => h.pk (by repeat (first | with_reducible exact pk_nil | refine pk_box rfl ?_ | refine pk_rd rfl ?_ | refine pk_sl rfl ?_ | with_reducible refine pk_app ?_ | with_reducible refine pk_app0 ?_ | with_reducible refine pk_app0L ?_ | with_reducible exact pk_tl | refine pk_var ?_)))) ?_
              rintro k ⟨hk, hf⟩
              dsimp only at hk hf ⊢
              refine C_seq ?_
              refine C_seq ?_
              refine C_region ?_
              refine L_q rfl rfl rfl (q_move rfl) ?_
              refine L_q rfl rfl rfl (q_field tb rfl rfl rfl) ?_
              refine L_q rfl rfl rfl (q_load tb rfl rfl bxo rfl) ?_
              refine L_q rfl rfl rfl (q_len tb rfl rfl (by first | exact gvo | exact gvd gvo (by omega))) ?_
              refine L_q rfl rfl rfl (q_lss rfl rfl) ?_
              refine L_then ?_
              refine C_dec rfl (fun h8 => ?_) (fun h8 => ?_)
              · -- t49 True
                obtain ⟨x, hex⟩ := get_some ls (k := k) (by omega); have hel := map_get cDl hex
                refine C_skip_then ?_
                refine C_seq ?_
                refine C_block ?_
                refine C_seq ?_
                refine C_region ?_
                refine L_q rfl rfl rfl (q_field tb rfl rfl rfl) ?_
                refine L_q rfl rfl rfl (q_load tb rfl rfl bxo rfl) ?_
                refine L_q rfl rfl rfl (q_move rfl) ?_
                refine L_q rfl rfl rfl (by first | exact q_index tb rfl rfl rfl rfl (by first | exact gvo | exact gvd gvo (by omega)) (by omega) (by first | omega | (simp; done) | (simp; omega)) | exact q_indexP tb rfl rfl rfl rfl (by omega) (by omega)) ?_
                refine L_q rfl rfl rfl (q_loadEA tb rfl rfl (by first | exact gvo | exact gvd gvo (by omega)) (i := k) (o := 0) (by omega) hel rfl rfl) ?_
                refine L_alloc tb rfl rfl fun g8 => ?_
                first | refine L_store tb rfl rfl rfl rfl rfl rfl rfl rfl ?_ | (refine L_front1 ?_; refine L_store tb rfl rfl rfl rfl rfl rfl rfl rfl ?_) | (refine L_front2 ?_; refine L_store tb rfl rfl rfl rfl rfl rfl rfl rfl ?_) | (refine L_front3 ?_; refine L_store tb rfl rfl rfl rfl rfl rfl rfl rfl ?_) | (refine L_front4 ?_; refine L_store tb rfl rfl rfl rfl rfl rfl rfl rfl ?_) | (refine L_front5 ?_; refine L_store tb rfl rfl rfl rfl rfl rfl rfl rfl ?_) | (refine L_front6 ?_; refine L_store tb rfl rfl rfl rfl rfl rfl rfl rfl ?_)
                refine L_then ?_
                refine C_seq ?_
                refine C_seq ?_
                refine C_region ?_
                refine L_q rfl rfl rfl (q_field tb rfl rfl rfl) ?_
                refine L_q rfl rfl rfl (q_load tb rfl rfl bxo rfl) ?_
                refine L_call tb rfl rfl (ct_shotlinebase_Within _ _ _) no_ps rfl ?_
                refine L_q rfl rfl rfl (q_not rfl (by first | exact (rfl : (!true) = false) | exact (rfl : (!false) = true) | exact decide_not.symm | rfl)) ?_
                refine L_q rfl rfl rfl (q_move rfl) ?_
                refine L_dec (d := 61) rfl (fun h9 => ?_) (fun h9 => ?_)
                · -- t61 True
                  refine L_skip rfl rfl rfl rfl rfl rfl rfl ?_
                  refine L_skip rfl rfl rfl rfl rfl rfl rfl ?_
                  refine L_skip rfl rfl rfl rfl rfl rfl rfl ?_
                  refine L_skip rfl rfl rfl rfl rfl rfl rfl ?_
                  refine L_q rfl rfl rfl (by first | exact q_pickT rfl rfl | exact q_pickF rfl rfl) ?_
                  refine L_then ?_
                  refine C_true rfl ?_
                  refine C_seq ?_
                  refine C_region ?_
                  refine L_q rfl rfl rfl (q_move rfl) ?_
                  refine L_q rfl rfl rfl (q_assign rfl) ?_
                  refine L_q rfl rfl rfl (q_assign rfl) ?_
                  refine L_then ?_
                  refine C_ret ?_
                  have hc9 : ckDl1 gs.length (secAt ls k) x = 2 := by unfold ckDl1; rw [if_pos (by omega)]
                  have e9 : ckPl nm sf gs ls = ((k : Int), 2) := by rw [ckPl_7 hn9 hs9 hz hm hg9 hl, ← hf.1, ckLegs_bad hex (by omega), hc9]
                  rw [e9]
                  exact ret_of (res2 rfl rfl rfl) sub_nil (by intro r hr; cases hr) ⟨rfl, rfl⟩
                · -- t61 False
                  refine L_qg rfl rfl rfl rfl rfl rfl rfl (q_field tb rfl rfl rfl) ?_
                  refine L_qg rfl rfl rfl rfl rfl rfl rfl (q_load tb rfl rfl bxo rfl) ?_
                  refine L_callg tb rfl rfl rfl rfl rfl rfl (ct_shotlinebase_Within _ _ _) no_ps rfl ?_
                  refine L_qg rfl rfl rfl rfl rfl rfl rfl (q_not rfl (by first | exact (rfl : (!true) = false) | exact (rfl : (!false) = true) | exact decide_not.symm | rfl)) ?_
                  refine L_q rfl rfl rfl (by first | exact q_pickT rfl rfl | exact q_pickF rfl rfl) ?_
                  refine L_then ?_
                  refine C_dec rfl (fun h11 => ?_) (fun h11 => ?_)
                  · -- t66 True
                    refine C_seq ?_
                    refine C_region ?_
                    refine L_q rfl rfl rfl (q_move rfl) ?_
                    refine L_q rfl rfl rfl (q_assign rfl) ?_
                    refine L_q rfl rfl rfl (q_assign rfl) ?_
                    refine L_then ?_
                    refine C_ret ?_
                    have hc9 : ckDl1 gs.length (secAt ls k) x = 2 := by unfold ckDl1; rw [if_pos (by omega)]
                    have e9 : ckPl nm sf gs ls = ((k : Int), 2) := by rw [ckPl_7 hn9 hs9 hz hm hg9 hl, ← hf.1, ckLegs_bad hex (by omega), hc9]
                    rw [e9]
                    exact ret_of (res2 rfl rfl rfl) sub_nil (by intro r hr; cases hr) ⟨rfl, rfl⟩
                  · -- t66 False
                    refine C_skip_then ?_
                    refine C_seq ?_
                    refine C_seq ?_
                    refine C_region ?_
                    refine L_q rfl rfl rfl (q_field tb rfl rfl rfl) ?_
                    refine L_q rfl rfl rfl (q_load tb rfl rfl bxo rfl) ?_
                    refine L_q rfl rfl rfl (q_field tb rfl rfl rfl) ?_
                    refine L_q rfl rfl rfl (q_load tb rfl rfl bxo rfl) ?_
                    refine L_q rfl rfl rfl (q_len tb rfl rfl (by first | exact gvo | exact gvd gvo (by omega))) ?_
                    refine L_q rfl rfl rfl (q_sub rfl rfl (by first | exact IntWalk.i64_in _ (by omega) | rfl)) ?_
                    refine L_call tb rfl rfl (ct_shotlinebase_Within _ _ _) no_ps rfl ?_
                    refine L_q rfl rfl rfl (q_not rfl (by first | exact (rfl : (!true) = false) | exact (rfl : (!false) = true) | exact decide_not.symm | rfl)) ?_
                    refine L_then ?_
                    refine C_dec rfl (fun h12 => ?_) (fun h12 => ?_)
                    · -- t75 True
                      refine C_seq ?_
                      refine C_region ?_
                      refine L_q rfl rfl rfl (q_move rfl) ?_
                      refine L_q rfl rfl rfl (q_assign rfl) ?_
                      refine L_q rfl rfl rfl (q_assign rfl) ?_
                      refine L_then ?_
                      refine C_ret ?_
                      have hc9 : ckDl1 gs.length (secAt ls k) x = 6 := by unfold ckDl1; rw [if_neg (by omega), if_pos (by omega)]
                      have e9 : ckPl nm sf gs ls = ((k : Int), 6) := by rw [ckPl_7 hn9 hs9 hz hm hg9 hl, ← hf.1, ckLegs_bad hex (by omega), hc9]
                      rw [e9]
                      exact ret_of (res2 rfl rfl rfl) sub_nil (by intro r hr; cases hr) ⟨rfl, rfl⟩
                    · -- t75 False
                      refine C_skip_then ?_
                      refine C_seq ?_
                      refine C_region ?_
                      refine L_q rfl rfl rfl (q_move rfl) ?_
                      refine L_q rfl rfl rfl (q_field tb rfl rfl rfl) ?_
                      refine L_q rfl rfl rfl (q_load tb rfl rfl bxo rfl) ?_
                      refine L_q rfl rfl rfl (q_add rfl rfl (by first | exact IntWalk.i64_in _ (by omega) | rfl)) ?_
                      refine L_q rfl rfl rfl (q_assign rfl) ?_
                      refine L_then ?_
                      refine C_seq ?_
                      refine C_region ?_
                      refine L_q rfl rfl rfl (q_move rfl) ?_
                      refine L_q rfl rfl rfl (q_gtr rfl rfl) ?_
                      refine L_then ?_
                      refine C_dec rfl (fun h13 => ?_) (fun h13 => ?_)
                      · -- t82 True
                        refine C_seq ?_
                        refine C_region ?_
                        refine L_q rfl rfl rfl (q_move rfl) ?_
                        refine L_q rfl rfl rfl (q_assign rfl) ?_
                        refine L_q rfl rfl rfl (q_assign rfl) ?_
                        refine L_then ?_
                        refine C_ret ?_
                        have hc9 : ckDl1 gs.length (secAt ls k) x = 8 := by unfold ckDl1; rw [if_neg (by omega), if_neg (by omega), if_pos (by omega)]
                        have e9 : ckPl nm sf gs ls = ((k : Int), 8) := by rw [ckPl_7 hn9 hs9 hz hm hg9 hl, ← hf.1, ckLegs_bad hex (by omega), hc9]
                        rw [e9]
                        exact ret_of (res2 rfl rfl rfl) sub_nil (by intro r hr; cases hr) ⟨rfl, rfl⟩
                      · -- t82 False
                        refine C_skip_blk ?_
                        refine C_region ?_
                        refine L_q rfl rfl rfl (q_move rfl) ?_
                        refine L_q rfl rfl rfl (q_add rfl rfl (by first | exact IntWalk.i64_in _ (by omega) | rfl)) ?_
                        refine L_q rfl rfl rfl (q_assign rfl) ?_
                        refine L_end ?_
                        have hc9 : ckDl1 gs.length (secAt ls k) x = 0 := by unfold ckDl1; rw [if_neg (by omega), if_neg (by omega), if_neg (by omega)]
                        have hsec : secAt ls (k + 1) = secAt ls k + x.s := by show secAt ls k + (dlAt ls k).s = _; rw [dlAt_get hex]
                        exact fun ac_ wo_ hs_ => ⟨k + 1, ⟨by omega, by rw [hsec, ← ckLegs_ok hex hc9]; exact hf.1, by omega, by omega⟩, (by dsimp only; omega), hs_.weak ⟨rfl, en hsec.symm, rfl, trivial⟩ (fun h => h.pk (by repeat (first | with_reducible exact pk_nil | refine pk_box rfl ?_ | refine pk_rd rfl ?_ | refine pk_sl rfl ?_ | with_reducible refine pk_app ?_ | with_reducible refine pk_app0 ?_ | with_reducible refine pk_app0L ?_ | with_reducible exact pk_tl | refine pk_var ?_)))⟩
              · -- t49 False
                refine C_exit ?_
                change C Try.prog _ _ _ _ _ _ _
                refine C_seq ?_
                refine C_region ?_
                refine L_q rfl rfl rfl (q_assign rfl) ?_
                refine L_q rfl rfl rfl (q_assign rfl) ?_
                refine L_then ?_
                refine C_ret ?_
                rw [ckPl_7 hn9 hs9 hz hm hg9 hl, ← hf.1, ckLegs_end (by omega)]
                exact ret_of (res2 rfl rfl rfl) sub_nil (by intro r hr; cases hr) ⟨rfl, rfl⟩
set_option maxRecDepth 100000 in
theorem ct_exposure_checkPlan (nm : ByteArray) (sf : Int) (v u : Value) (gs : List Gs) (ls : List Dl) (hle : gs.length ≤ 100000) (hle2 : ls.length ≤ 100000) (hnm : nm.size ≤ 1000000000000) : Ct Try.prog 107 [.agg (cPl nm sf v u).toArray] [(v, 2, gs.map cGs), (u, 3, ls.map cDl)] (isV (.int .i64 ((ckPl nm sf gs ls).2))) := by
  refine Ct.of (N := 11) Try.func107 rfl rfl rfl fun w => ?_
  refine C_weak (E' := [(0, .agg (cPl nm sf v u).toArray)]) (rs' := [rd v 2 (gs.map cGs), rd u 3 (ls.map cDl)]) ⟨rfl, trivial⟩ (fun _ h => h) ?_
  have hl1 := len_map cGs gs
  have hl2 := len_map cDl ls
  refine C_seq ?_
  refine C_region ?_
  refine L_box rfl rfl rfl fun g1 => ?_
  refine L_q rfl rfl rfl (q_assign rfl) ?_
  refine L_then ?_
  refine C_seq ?_
  refine C_region ?_
  refine L_q rfl rfl rfl (q_loadA tb rfl rfl bxo rfl rfl) ?_
  refine L_call tb rfl rfl (ct_profile_CheckPlan nm sf v u gs ls hle hle2 hnm) (ps_cons (by first | exact gvo | exact gvd gvo (by omega)) (ps_cons (by first | exact gvo | exact gvd gvo (by omega)) no_ps)) rfl ?_
  refine L_q rfl rfl rfl (q_move rfl) ?_
  refine L_q rfl rfl rfl (q_ext0 rfl) ?_
  refine L_q rfl rfl rfl (q_ext1 rfl) ?_
  refine L_q rfl rfl rfl (q_assign rfl) ?_
  refine L_q rfl rfl rfl (q_assign rfl) ?_
  refine L_then ?_
  refine C_seq ?_
  refine C_region ?_
  refine L_q rfl rfl rfl (q_move rfl) ?_
  refine L_q rfl rfl rfl (q_assign rfl) ?_
  refine L_then ?_
  refine C_ret ?_
  exact ret_of (res1 rfl rfl) sub_nil (by intro r hr; cases hr) ⟨rfl, rfl⟩
set_option maxRecDepth 100000 in
theorem ct_shotlineref05_Err (nm : ByteArray) (sf : Int) (v u : Value) (gs : List Gs) (ls : List Dl) (hle : gs.length ≤ 100000) (hle2 : ls.length ≤ 100000) : Ct Try.prog 43 [.agg (cPl nm sf v u).toArray] [(v, 2, gs.map cGs), (u, 3, ls.map cDl)] (isV (.int .i64 ((ckPl nm sf gs ls).2))) := by
  refine Ct.of (N := 11) Try.func43 rfl rfl rfl fun w => ?_
  refine C_weak (E' := [(0, .agg (cPl nm sf v u).toArray)]) (rs' := [rd v 2 (gs.map cGs), rd u 3 (ls.map cDl)]) ⟨rfl, trivial⟩ (fun _ h => h) ?_
  have hl1 := len_map cGs gs
  have hl2 := len_map cDl ls
  refine C_seq ?_
  refine C_region ?_
  refine L_box rfl rfl rfl fun g1 => ?_
  refine L_q rfl rfl rfl (q_assign rfl) ?_
  refine L_then ?_
  refine C_seq ?_
  refine C_region ?_
  refine L_q rfl rfl rfl (q_loadA tb rfl rfl bxo rfl rfl) ?_
  refine L_call tb rfl rfl (ct_shotlineref02_CheckPlan nm sf v u gs ls hle hle2) (ps_cons (by first | exact gvo | exact gvd gvo (by omega)) (ps_cons (by first | exact gvo | exact gvd gvo (by omega)) no_ps)) rfl ?_
  refine L_q rfl rfl rfl (q_move rfl) ?_
  refine L_q rfl rfl rfl (q_ext0 rfl) ?_
  refine L_q rfl rfl rfl (q_ext1 rfl) ?_
  refine L_q rfl rfl rfl (q_assign rfl) ?_
  refine L_q rfl rfl rfl (q_assign rfl) ?_
  refine L_then ?_
  refine C_seq ?_
  refine C_region ?_
  refine L_q rfl rfl rfl (q_move rfl) ?_
  refine L_q rfl rfl rfl (q_assign rfl) ?_
  refine L_then ?_
  refine C_ret ?_
  exact ret_of (res1 rfl rfl) sub_nil (by intro r hr; cases hr) ⟨rfl, rfl⟩
end Go.Proofs.Ytolnohjbpllmhaa
