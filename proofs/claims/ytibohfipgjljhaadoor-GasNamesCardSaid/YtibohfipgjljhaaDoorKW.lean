/-
  Walks: each function named returns what its model says. Conditions: those in front of each theorem.
-/
import Derived.Test.YtibohfipgjljhaaDoorKV
namespace Go.Proofs.YtibohfipgjljhaaDoor
open Go.RowKit

set_option maxRecDepth 100000 in
set_option maxHeartbeats 2000000 in
theorem ct_ParseQ (l : Tx) (hl : l.length ≤ 1000000) : CtQ KQ Tryd.prog 43 [.string (bs l)] [] (isV (.tuple #[gsV (prS l).1.o (prS l).1.h, .int .i64 (prS l).2])) := by
  refine CtQ.of (N := 26) Tryd.func43 rfl rfl rfl fun w hQ => ?_
  refine C_weak (E' := [(0, .string (bs l))]) (rs' := []) ⟨rfl, trivial⟩ (fun _ h => h) ?_
  refine C_seq ?_
  refine C_region ?_
  refine L_alloc tb rfl rfl fun g2 => ?_
  refine L_q rfl rfl rfl (q_assign rfl) ?_
  refine L_then ?_
  refine C_seq ?_
  refine C_region ?_
  refine L_q rfl rfl rfl (q_move rfl) ?_
  refine L_lo rfl rfl rfl (lo_callQ tb stQ hQ rfl rfl (ct_readQ l hl) no_ps isV_sinks) ?_
  rintro _ _ ⟨rfl, rfl⟩
  refine L_q rfl rfl rfl (q_move rfl) ?_
  refine L_q rfl rfl rfl (q_ext0 rfl) ?_
  refine L_q rfl rfl rfl (q_ext1 rfl) ?_
  refine L_alloc tb rfl rfl fun g4 => ?_
  first | refine L_store tb rfl rfl rfl rfl rfl rfl rfl rfl ?_ | (refine L_front1 ?_; refine L_store tb rfl rfl rfl rfl rfl rfl rfl rfl ?_) | (refine L_front2 ?_; refine L_store tb rfl rfl rfl rfl rfl rfl rfl rfl ?_) | (refine L_front3 ?_; refine L_store tb rfl rfl rfl rfl rfl rfl rfl rfl ?_) | (refine L_front4 ?_; refine L_store tb rfl rfl rfl rfl rfl rfl rfl rfl ?_) | (refine L_front5 ?_; refine L_store tb rfl rfl rfl rfl rfl rfl rfl rfl ?_) | (refine L_front6 ?_; refine L_store tb rfl rfl rfl rfl rfl rfl rfl rfl ?_)
  refine L_q rfl rfl rfl (q_assign rfl) ?_
  refine L_then ?_
  refine C_seq ?_
  refine C_seq ?_
  refine C_region ?_
  refine L_q rfl rfl rfl (q_move rfl) ?_
  refine L_q rfl rfl rfl (q_not rfl (by first | exact (rfl : (!true) = false) | exact (rfl : (!false) = true) | exact decide_not.symm | rfl)) ?_
  refine L_q rfl rfl rfl (q_move rfl) ?_
  refine L_bool (d := 13) rfl (fun h13 => ?_) (fun h13 => ?_)
  · -- t13 True
    rw [Bool.not_eq_true'] at h13
    refine L_skip rfl rfl rfl rfl rfl rfl rfl ?_
    refine L_skip rfl rfl rfl rfl rfl rfl rfl ?_
    refine L_skip rfl rfl rfl rfl rfl rfl rfl ?_
    refine L_q rfl rfl rfl (by first | exact q_pickT rfl rfl | exact q_pickF rfl rfl) ?_
    refine L_q rfl rfl rfl (q_move rfl) ?_
    refine L_skip rfl rfl rfl rfl rfl rfl rfl ?_
    refine L_skip rfl rfl rfl rfl rfl rfl rfl ?_
    refine L_skip rfl rfl rfl rfl rfl rfl rfl ?_
    refine L_skip rfl rfl rfl rfl rfl rfl rfl ?_
    refine L_q rfl rfl rfl (by first | exact q_pickT rfl rfl | exact q_pickF rfl rfl) ?_
    refine L_then ?_
    refine C_true rfl ?_
    refine C_seq ?_
    refine C_region ?_
    refine L_q rfl rfl rfl (by first | exact q_build tb rfl rfl rfl rfl | exact q_buildArr tb rfl rfl rfl rfl rfl) ?_
    first | refine L_store tb rfl rfl rfl rfl rfl rfl rfl rfl ?_ | (refine L_front1 ?_; refine L_store tb rfl rfl rfl rfl rfl rfl rfl rfl ?_) | (refine L_front2 ?_; refine L_store tb rfl rfl rfl rfl rfl rfl rfl rfl ?_) | (refine L_front3 ?_; refine L_store tb rfl rfl rfl rfl rfl rfl rfl rfl ?_) | (refine L_front4 ?_; refine L_store tb rfl rfl rfl rfl rfl rfl rfl rfl ?_) | (refine L_front5 ?_; refine L_store tb rfl rfl rfl rfl rfl rfl rfl rfl ?_) | (refine L_front6 ?_; refine L_store tb rfl rfl rfl rfl rfl rfl rfl rfl ?_)
    refine L_q rfl rfl rfl (q_assign rfl) ?_
    refine L_then ?_
    refine C_ret ?_
    rw [pr_none (rd_isn h13)]
    dsimp only
    exact ret_of (resCT tb rfl rfl rfl rfl bxo rfl) sub_nil (by intro r hr; cases hr) ⟨rfl, rfl⟩
  · -- t13 False
    rw [Bool.not_eq_false'] at h13
    have hrd := rd_is h13
    refine L_qg rfl rfl rfl rfl rfl rfl rfl (q_loadA tb rfl rfl bxo rfl rfl) ?_
    refine L_callg tb rfl rfl rfl rfl rfl rfl (ct_gas_CheckGas (rdG l).o (rdG l).h) no_ps rfl ?_
    refine L_qg rfl rfl rfl rfl rfl rfl rfl (q_neq rfl rfl) ?_
    refine L_q rfl rfl rfl (by first | exact q_pickT rfl rfl | exact q_pickF rfl rfl) ?_
    refine L_q rfl rfl rfl (q_move rfl) ?_
    refine L_dec (d := 18) rfl (fun h18 => ?_) (fun h18 => ?_)
    · -- t18 True
      refine L_skip rfl rfl rfl rfl rfl rfl rfl ?_
      refine L_skip rfl rfl rfl rfl rfl rfl rfl ?_
      refine L_skip rfl rfl rfl rfl rfl rfl rfl ?_
      refine L_skip rfl rfl rfl rfl rfl rfl rfl ?_
      refine L_q rfl rfl rfl (by first | exact q_pickT rfl rfl | exact q_pickF rfl rfl) ?_
      refine L_then ?_
      refine C_true rfl ?_
      refine C_seq ?_
      refine C_region ?_
      refine L_q rfl rfl rfl (by first | exact q_build tb rfl rfl rfl rfl | exact q_buildArr tb rfl rfl rfl rfl rfl) ?_
      first | refine L_store tb rfl rfl rfl rfl rfl rfl rfl rfl ?_ | (refine L_front1 ?_; refine L_store tb rfl rfl rfl rfl rfl rfl rfl rfl ?_) | (refine L_front2 ?_; refine L_store tb rfl rfl rfl rfl rfl rfl rfl rfl ?_) | (refine L_front3 ?_; refine L_store tb rfl rfl rfl rfl rfl rfl rfl rfl ?_) | (refine L_front4 ?_; refine L_store tb rfl rfl rfl rfl rfl rfl rfl rfl ?_) | (refine L_front5 ?_; refine L_store tb rfl rfl rfl rfl rfl rfl rfl rfl ?_) | (refine L_front6 ?_; refine L_store tb rfl rfl rfl rfl rfl rfl rfl rfl ?_)
      refine L_q rfl rfl rfl (q_assign rfl) ?_
      refine L_then ?_
      refine C_ret ?_
      rw [pr_some hrd, if_neg (fun hh => h18 hh.1)]
      dsimp only
      exact ret_of (resCT tb rfl rfl rfl rfl bxo rfl) sub_nil (by intro r hr; cases hr) ⟨rfl, rfl⟩
    · -- t18 False
      have hg := Decidable.not_not.1 h18
      refine L_qg rfl rfl rfl rfl rfl rfl rfl (q_loadA tb rfl rfl bxo rfl rfl) ?_
      refine L_log rfl rfl rfl rfl rfl rfl rfl (lo_callQ tb stQ hQ rfl rfl (ct_nameOfQ (rdG l) hg) no_ps isV_sinks) ?_
      rintro _ _ ⟨rfl, rfl⟩
      refine L_qg rfl rfl rfl rfl rfl rfl rfl (q_move rfl) ?_
      refine L_qg rfl rfl rfl rfl rfl rfl rfl (t_ne (a := nmL (rdG l)) (b := l) rfl rfl) ?_
      refine L_q rfl rfl rfl (by first | exact q_pickT rfl rfl | exact q_pickF rfl rfl) ?_
      refine L_then ?_
      refine C_dec rfl (fun h23 => ?_) (fun h23 => ?_)
      · -- t23 True
        refine C_seq ?_
        refine C_region ?_
        refine L_q rfl rfl rfl (by first | exact q_build tb rfl rfl rfl rfl | exact q_buildArr tb rfl rfl rfl rfl rfl) ?_
        first | refine L_store tb rfl rfl rfl rfl rfl rfl rfl rfl ?_ | (refine L_front1 ?_; refine L_store tb rfl rfl rfl rfl rfl rfl rfl rfl ?_) | (refine L_front2 ?_; refine L_store tb rfl rfl rfl rfl rfl rfl rfl rfl ?_) | (refine L_front3 ?_; refine L_store tb rfl rfl rfl rfl rfl rfl rfl rfl ?_) | (refine L_front4 ?_; refine L_store tb rfl rfl rfl rfl rfl rfl rfl rfl ?_) | (refine L_front5 ?_; refine L_store tb rfl rfl rfl rfl rfl rfl rfl rfl ?_) | (refine L_front6 ?_; refine L_store tb rfl rfl rfl rfl rfl rfl rfl rfl ?_)
        refine L_q rfl rfl rfl (q_assign rfl) ?_
        refine L_then ?_
        refine C_ret ?_
        rw [pr_some hrd, if_neg (fun hh => h23 hh.2)]
        dsimp only
        exact ret_of (resCT tb rfl rfl rfl rfl bxo rfl) sub_nil (by intro r hr; cases hr) ⟨rfl, rfl⟩
      · -- t23 False
        refine C_skip_then ?_
        refine C_seq ?_
        refine C_region ?_
        refine L_q rfl rfl rfl (q_loadA tb rfl rfl bxo rfl rfl) ?_
        first | refine L_store tb rfl rfl rfl rfl rfl rfl rfl rfl ?_ | (refine L_front1 ?_; refine L_store tb rfl rfl rfl rfl rfl rfl rfl rfl ?_) | (refine L_front2 ?_; refine L_store tb rfl rfl rfl rfl rfl rfl rfl rfl ?_) | (refine L_front3 ?_; refine L_store tb rfl rfl rfl rfl rfl rfl rfl rfl ?_) | (refine L_front4 ?_; refine L_store tb rfl rfl rfl rfl rfl rfl rfl rfl ?_) | (refine L_front5 ?_; refine L_store tb rfl rfl rfl rfl rfl rfl rfl rfl ?_) | (refine L_front6 ?_; refine L_store tb rfl rfl rfl rfl rfl rfl rfl rfl ?_)
        refine L_q rfl rfl rfl (q_assign rfl) ?_
        refine L_then ?_
        refine C_ret ?_
        rw [pr_some hrd, if_pos ⟨hg, Decidable.not_not.1 h23⟩]
        dsimp only
        exact ret_of (resCT tb rfl rfl rfl rfl bxo rfl) sub_nil (by intro r hr; cases hr) ⟨rfl, rfl⟩
set_option maxRecDepth 100000 in
set_option maxHeartbeats 4000000 in
theorem ct_refParse (l : Tx) (hl : l.length ≤ 1000000) : Ct Tryd.prog 44 [.string (bs l)] [] (isV (.tuple #[gsV (prS l).1.o (prS l).1.h, .int .i64 (prS l).2])) := by
  refine Ct.of (N := 98) Tryd.func44 rfl rfl rfl fun w => ?_
  refine C_weak (E' := [(0, .string (bs l))]) (rs' := []) ⟨rfl, trivial⟩ (fun _ h => h) ?_
  refine C_seq ?_
  refine C_region ?_
  refine L_alloc tb rfl rfl fun g2 => ?_
  refine L_q rfl rfl rfl (q_assign rfl) ?_
  refine L_then ?_
  refine C_seq ?_
  refine C_region ?_
  refine L_q rfl rfl rfl (q_assign rfl) ?_
  refine L_then ?_
  refine C_seq ?_
  refine C_region ?_
  refine L_alloc tb rfl rfl fun g5 => ?_
  refine L_then ?_
  refine C_seq ?_
  refine C_seq ?_
  refine C_region ?_
  refine L_q rfl rfl rfl (q_move rfl) ?_
  refine L_then ?_
  refine C_block ?_
  refine C_seq ?_
  refine C_region ?_
  refine L_q rfl rfl rfl (t_eq (a := l) (b := tAir) rfl rfl) ?_
  refine L_q rfl rfl rfl (q_assign rfl) ?_
  refine L_then ?_
  refine C_dec rfl (fun h12 => ?_) (fun h12 => ?_)
  · -- t12 True
    refine C_seq ?_
    refine C_region ?_
    refine L_q rfl rfl rfl (by first | exact q_build tb rfl rfl rfl rfl | exact q_buildArr tb rfl rfl rfl rfl rfl) ?_
    first | refine L_store tb rfl rfl rfl rfl rfl rfl rfl rfl ?_ | (refine L_front1 ?_; refine L_store tb rfl rfl rfl rfl rfl rfl rfl rfl ?_) | (refine L_front2 ?_; refine L_store tb rfl rfl rfl rfl rfl rfl rfl rfl ?_) | (refine L_front3 ?_; refine L_store tb rfl rfl rfl rfl rfl rfl rfl rfl ?_) | (refine L_front4 ?_; refine L_store tb rfl rfl rfl rfl rfl rfl rfl rfl ?_) | (refine L_front5 ?_; refine L_store tb rfl rfl rfl rfl rfl rfl rfl rfl ?_) | (refine L_front6 ?_; refine L_store tb rfl rfl rfl rfl rfl rfl rfl rfl ?_)
    refine L_q rfl rfl rfl (q_assign rfl) ?_
    refine L_then ?_
    refine C_ret ?_
    rw [pr_air h12]
    dsimp only
    exact ret_of (resCT tb rfl rfl rfl rfl bxo rfl) sub_nil (by intro r hr; cases hr) ⟨rfl, rfl⟩
  · -- t12 False
    refine C_seq ?_
    refine C_region ?_
    refine L_q rfl rfl rfl (t_eq (a := l) (b := tOxy) rfl rfl) ?_
    refine L_q rfl rfl rfl (q_assign rfl) ?_
    refine L_then ?_
    refine C_dec rfl (fun h15 => ?_) (fun h15 => ?_)
    · -- t15 True
      refine C_seq ?_
      refine C_region ?_
      refine L_q rfl rfl rfl (by first | exact q_build tb rfl rfl rfl rfl | exact q_buildArr tb rfl rfl rfl rfl rfl) ?_
      first | refine L_store tb rfl rfl rfl rfl rfl rfl rfl rfl ?_ | (refine L_front1 ?_; refine L_store tb rfl rfl rfl rfl rfl rfl rfl rfl ?_) | (refine L_front2 ?_; refine L_store tb rfl rfl rfl rfl rfl rfl rfl rfl ?_) | (refine L_front3 ?_; refine L_store tb rfl rfl rfl rfl rfl rfl rfl rfl ?_) | (refine L_front4 ?_; refine L_store tb rfl rfl rfl rfl rfl rfl rfl rfl ?_) | (refine L_front5 ?_; refine L_store tb rfl rfl rfl rfl rfl rfl rfl rfl ?_) | (refine L_front6 ?_; refine L_store tb rfl rfl rfl rfl rfl rfl rfl rfl ?_)
      refine L_q rfl rfl rfl (q_assign rfl) ?_
      refine L_then ?_
      refine C_ret ?_
      rw [pr_oxy h15]
      dsimp only
      exact ret_of (resCT tb rfl rfl rfl rfl bxo rfl) sub_nil (by intro r hr; cases hr) ⟨rfl, rfl⟩
    · -- t15 False
      refine C_seq ?_
      refine C_region ?_
      refine L_q rfl rfl rfl (t_eq (a := l) (b := tHel) rfl rfl) ?_
      refine L_q rfl rfl rfl (q_assign rfl) ?_
      refine L_then ?_
      refine C_dec rfl (fun h18 => ?_) (fun h18 => ?_)
      · -- t18 True
        refine C_seq ?_
        refine C_region ?_
        refine L_q rfl rfl rfl (by first | exact q_build tb rfl rfl rfl rfl | exact q_buildArr tb rfl rfl rfl rfl rfl) ?_
        first | refine L_store tb rfl rfl rfl rfl rfl rfl rfl rfl ?_ | (refine L_front1 ?_; refine L_store tb rfl rfl rfl rfl rfl rfl rfl rfl ?_) | (refine L_front2 ?_; refine L_store tb rfl rfl rfl rfl rfl rfl rfl rfl ?_) | (refine L_front3 ?_; refine L_store tb rfl rfl rfl rfl rfl rfl rfl rfl ?_) | (refine L_front4 ?_; refine L_store tb rfl rfl rfl rfl rfl rfl rfl rfl ?_) | (refine L_front5 ?_; refine L_store tb rfl rfl rfl rfl rfl rfl rfl rfl ?_) | (refine L_front6 ?_; refine L_store tb rfl rfl rfl rfl rfl rfl rfl rfl ?_)
        refine L_q rfl rfl rfl (q_assign rfl) ?_
        refine L_then ?_
        refine C_ret ?_
        rw [pr_hel h18]
        dsimp only
        exact ret_of (resCT tb rfl rfl rfl rfl bxo rfl) sub_nil (by intro r hr; cases hr) ⟨rfl, rfl⟩
      · -- t18 False
        refine C_skip_blk ?_
        refine C_seq ?_
        refine C_region ?_
        refine L_q rfl rfl rfl (q_assign rfl) ?_
        refine L_q rfl rfl rfl (q_assign rfl) ?_
        refine L_then ?_
        refine C_cut (ι := Int × Nat) (fun q => ([(0, .string (bs l)), (2, .pointer (some ⟨g2, 0, none⟩)), (4, .int .i64 7), (5, .pointer (some ⟨g5, 0, none⟩)), (6, .int .i64 q.1), (7, .int .i64 (q.2 : Int))], [box g5 23 [.int .i64 0, .int .i64 0], box g2 23 [.int .i64 0, .int .i64 0]])) (fun q => (q.1 = 1 ∨ q.1 = 10) ∧ q.2 ≤ l.length ∧ rfS l = rfN q.1 (cutF 47 [] (l.drop q.2))) ?_ ?_
        · -- ahead
          refine C_seq ?_
          refine C_region ?_
          refine L_q rfl rfl rfl (q_move rfl) ?_
          refine L_q rfl rfl rfl (t_len Tryd.underlying9 rfl) ?_
          refine L_q rfl rfl rfl (q_gtr rfl rfl) ?_
          refine L_q rfl rfl rfl (q_move rfl) ?_
          refine L_dec (d := 24) rfl (fun h24 => ?_) (fun h24 => ?_)
          · -- t24 True
            refine L_qg rfl rfl rfl rfl rfl rfl rfl (q_move rfl) ?_
            refine L_qg rfl rfl rfl rfl rfl rfl rfl (t_to (j := 3) Tryd.underlying9 rfl rfl (by omega) rfl) ?_
            refine L_qg rfl rfl rfl rfl rfl rfl rfl (t_eq (a := l.take 3) (b := [103, 97, 115]) rfl rfl) ?_
            refine L_q rfl rfl rfl (by first | exact q_pickT rfl rfl | exact q_pickF rfl rfl) ?_
            refine L_then ?_
            refine C_dec rfl (fun h28 => ?_) (fun h28 => ?_)
            · -- t28 True
              refine C_region ?_
              refine L_q rfl rfl rfl (q_assign rfl) ?_
              refine L_q rfl rfl rfl (q_assign rfl) ?_
              refine L_end ?_
              exact fun ac_ wo_ hs_ => ⟨((1 : Int), (3 : Nat)), ⟨.inl rfl, by omega, rf_3 h12 h15 h18 (by omega) h28⟩, hs_.weak ⟨rfl, rfl, rfl, rfl, rfl, rfl, trivial⟩ (fun h => h.pk (by repeat (first | with_reducible exact pk_nil | refine pk_box rfl ?_ | refine pk_rd rfl ?_ | refine pk_sl rfl ?_ | with_reducible refine pk_app ?_ | with_reducible refine pk_app0 ?_ | with_reducible refine pk_app0L ?_ | with_reducible exact pk_tl | refine pk_var ?_)))⟩
            · -- t28 False
              refine C_seq ?_
              refine C_region ?_
              refine L_q rfl rfl rfl (q_move rfl) ?_
              refine L_q rfl rfl rfl (t_len Tryd.underlying9 rfl) ?_
              refine L_q rfl rfl rfl (q_lss rfl rfl) ?_
              refine L_q rfl rfl rfl (q_move rfl) ?_
              refine L_dec (d := 32) rfl (fun h32 => ?_) (fun h32 => ?_)
              · -- t32 True
                refine L_skip rfl rfl rfl rfl rfl rfl rfl ?_
                refine L_skip rfl rfl rfl rfl rfl rfl rfl ?_
                refine L_skip rfl rfl rfl rfl rfl rfl rfl ?_
                refine L_skip rfl rfl rfl rfl rfl rfl rfl ?_
                refine L_skipu rfl rfl rfl rfl rfl rfl ?_
                refine L_skipu rfl rfl rfl rfl rfl rfl ?_
                refine L_skipu rfl rfl rfl rfl rfl rfl ?_
                refine L_skip rfl rfl rfl rfl rfl rfl rfl ?_
                refine L_q rfl rfl rfl (by first | exact q_pickT rfl rfl | exact q_pickF rfl rfl) ?_
                refine L_then ?_
                refine C_true rfl ?_
                refine C_seq ?_
                refine C_region ?_
                refine L_q rfl rfl rfl (q_loadA tb rfl rfl bxo rfl rfl) ?_
                refine L_q rfl rfl rfl (q_move rfl) ?_
                first | refine L_store tb rfl rfl rfl rfl rfl rfl rfl rfl ?_ | (refine L_front1 ?_; refine L_store tb rfl rfl rfl rfl rfl rfl rfl rfl ?_) | (refine L_front2 ?_; refine L_store tb rfl rfl rfl rfl rfl rfl rfl rfl ?_) | (refine L_front3 ?_; refine L_store tb rfl rfl rfl rfl rfl rfl rfl rfl ?_) | (refine L_front4 ?_; refine L_store tb rfl rfl rfl rfl rfl rfl rfl rfl ?_) | (refine L_front5 ?_; refine L_store tb rfl rfl rfl rfl rfl rfl rfl rfl ?_) | (refine L_front6 ?_; refine L_store tb rfl rfl rfl rfl rfl rfl rfl rfl ?_)
                refine L_q rfl rfl rfl (q_assign rfl) ?_
                refine L_then ?_
                refine C_ret ?_
                rw [pr_rn (rf_0 h12 h15 h18 (by first | exact fun hh => h24 hh.1 | exact fun hh => h28 hh.2 | exact fun hh => h24 (by omega)) (by first | exact .inl (by omega) | exact .inr ⟨h36, h41⟩))]
                dsimp only
                exact ret_of (resCT tb rfl rfl rfl rfl bxo rfl) sub_nil (by intro r hr; cases hr) ⟨rfl, rfl⟩
              · -- t32 False
                refine L_qg rfl rfl rfl rfl rfl rfl rfl (q_move rfl) ?_
                refine L_qg rfl rfl rfl rfl rfl rfl rfl (t_to (j := 2) Tryd.underlying9 rfl rfl (by omega) rfl) ?_
                refine L_qg rfl rfl rfl rfl rfl rfl rfl (t_ne (a := l.take 2) (b := [110, 120]) rfl rfl) ?_
                refine L_qg rfl rfl rfl rfl rfl rfl rfl (q_move rfl) ?_
                refine L_dec (d := 36) rfl (fun h36 => ?_) (fun h36 => ?_)
                · -- t36 True
                  refine L_qg rfl rfl rfl rfl rfl rfl rfl (q_move rfl) ?_
                  refine L_qg rfl rfl rfl rfl rfl rfl rfl (t_to (j := 2) Tryd.underlying9 rfl rfl (by omega) rfl) ?_
                  refine L_qg rfl rfl rfl rfl rfl rfl rfl (t_ne (a := l.take 2) (b := [116, 120]) rfl rfl) ?_
                  refine L_qg rfl rfl rfl rfl rfl rfl rfl (by first | exact q_pickT rfl rfl | exact q_pickF rfl rfl) ?_
                  refine L_q rfl rfl rfl (by first | exact q_pickT rfl rfl | exact q_pickF rfl rfl) ?_
                  refine L_then ?_
                  refine C_dec rfl (fun h41 => ?_) (fun h41 => ?_)
                  · -- t41 True
                    refine C_seq ?_
                    refine C_region ?_
                    refine L_q rfl rfl rfl (q_loadA tb rfl rfl bxo rfl rfl) ?_
                    refine L_q rfl rfl rfl (q_move rfl) ?_
                    first | refine L_store tb rfl rfl rfl rfl rfl rfl rfl rfl ?_ | (refine L_front1 ?_; refine L_store tb rfl rfl rfl rfl rfl rfl rfl rfl ?_) | (refine L_front2 ?_; refine L_store tb rfl rfl rfl rfl rfl rfl rfl rfl ?_) | (refine L_front3 ?_; refine L_store tb rfl rfl rfl rfl rfl rfl rfl rfl ?_) | (refine L_front4 ?_; refine L_store tb rfl rfl rfl rfl rfl rfl rfl rfl ?_) | (refine L_front5 ?_; refine L_store tb rfl rfl rfl rfl rfl rfl rfl rfl ?_) | (refine L_front6 ?_; refine L_store tb rfl rfl rfl rfl rfl rfl rfl rfl ?_)
                    refine L_q rfl rfl rfl (q_assign rfl) ?_
                    refine L_then ?_
                    refine C_ret ?_
                    rw [pr_rn (rf_0 h12 h15 h18 (by first | exact fun hh => h24 hh.1 | exact fun hh => h28 hh.2 | exact fun hh => h24 (by omega)) (by first | exact .inl (by omega) | exact .inr ⟨h36, h41⟩))]
                    dsimp only
                    exact ret_of (resCT tb rfl rfl rfl rfl bxo rfl) sub_nil (by intro r hr; cases hr) ⟨rfl, rfl⟩
                  · -- t41 False
                    refine C_skip ?_
                    exact fun ac_ wo_ hs_ => ⟨((10 : Int), (2 : Nat)), ⟨.inr rfl, by omega, rf_2 h12 h15 h18 (by first | exact fun hh => h24 hh.1 | exact fun hh => h28 hh.2 | exact fun hh => h24 (by omega)) (by rintro (h | h); omega; first | exact h36 h.1 | exact h41 h.2 | (exact h36 (fun e => h.1 e)))⟩, hs_.weak ⟨rfl, rfl, rfl, rfl, rfl, rfl, trivial⟩ (fun h => h.pk (by repeat (first | with_reducible exact pk_nil | refine pk_box rfl ?_ | refine pk_rd rfl ?_ | refine pk_sl rfl ?_ | with_reducible refine pk_app ?_ | with_reducible refine pk_app0 ?_ | with_reducible refine pk_app0L ?_ | with_reducible exact pk_tl | refine pk_var ?_)))⟩
                · -- t36 False
                  refine L_skip rfl rfl rfl rfl rfl rfl rfl ?_
                  refine L_skip rfl rfl rfl rfl rfl rfl rfl ?_
                  refine L_skip rfl rfl rfl rfl rfl rfl rfl ?_
                  refine L_qg rfl rfl rfl rfl rfl rfl rfl (by first | exact q_pickT rfl rfl | exact q_pickF rfl rfl) ?_
                  refine L_q rfl rfl rfl (by first | exact q_pickT rfl rfl | exact q_pickF rfl rfl) ?_
                  refine L_then ?_
                  refine C_false rfl ?_
                  refine C_skip ?_
                  exact fun ac_ wo_ hs_ => ⟨((10 : Int), (2 : Nat)), ⟨.inr rfl, by omega, rf_2 h12 h15 h18 (by first | exact fun hh => h24 hh.1 | exact fun hh => h28 hh.2 | exact fun hh => h24 (by omega)) (by rintro (h | h); omega; first | exact h36 h.1 | exact h41 h.2 | (exact h36 (fun e => h.1 e)))⟩, hs_.weak ⟨rfl, rfl, rfl, rfl, rfl, rfl, trivial⟩ (fun h => h.pk (by repeat (first | with_reducible exact pk_nil | refine pk_box rfl ?_ | refine pk_rd rfl ?_ | refine pk_sl rfl ?_ | with_reducible refine pk_app ?_ | with_reducible refine pk_app0 ?_ | with_reducible refine pk_app0L ?_ | with_reducible exact pk_tl | refine pk_var ?_)))⟩
          · -- t24 False
            refine L_skip rfl rfl rfl rfl rfl rfl rfl ?_
            refine L_skip rfl rfl rfl rfl rfl rfl rfl ?_
            refine L_skip rfl rfl rfl rfl rfl rfl rfl ?_
            refine L_q rfl rfl rfl (by first | exact q_pickT rfl rfl | exact q_pickF rfl rfl) ?_
            refine L_then ?_
            refine C_false rfl ?_
            refine C_seq ?_
            refine C_region ?_
            refine L_q rfl rfl rfl (q_move rfl) ?_
            refine L_q rfl rfl rfl (t_len Tryd.underlying9 rfl) ?_
            refine L_q rfl rfl rfl (q_lss rfl rfl) ?_
            refine L_q rfl rfl rfl (q_move rfl) ?_
            refine L_dec (d := 32) rfl (fun h32 => ?_) (fun h32 => ?_)
            · -- t32 True
              refine L_skip rfl rfl rfl rfl rfl rfl rfl ?_
              refine L_skip rfl rfl rfl rfl rfl rfl rfl ?_
              refine L_skip rfl rfl rfl rfl rfl rfl rfl ?_
              refine L_skip rfl rfl rfl rfl rfl rfl rfl ?_
              refine L_skipu rfl rfl rfl rfl rfl rfl ?_
              refine L_skipu rfl rfl rfl rfl rfl rfl ?_
              refine L_skipu rfl rfl rfl rfl rfl rfl ?_
              refine L_skip rfl rfl rfl rfl rfl rfl rfl ?_
              refine L_q rfl rfl rfl (by first | exact q_pickT rfl rfl | exact q_pickF rfl rfl) ?_
              refine L_then ?_
              refine C_true rfl ?_
              refine C_seq ?_
              refine C_region ?_
              refine L_q rfl rfl rfl (q_loadA tb rfl rfl bxo rfl rfl) ?_
              refine L_q rfl rfl rfl (q_move rfl) ?_
              first | refine L_store tb rfl rfl rfl rfl rfl rfl rfl rfl ?_ | (refine L_front1 ?_; refine L_store tb rfl rfl rfl rfl rfl rfl rfl rfl ?_) | (refine L_front2 ?_; refine L_store tb rfl rfl rfl rfl rfl rfl rfl rfl ?_) | (refine L_front3 ?_; refine L_store tb rfl rfl rfl rfl rfl rfl rfl rfl ?_) | (refine L_front4 ?_; refine L_store tb rfl rfl rfl rfl rfl rfl rfl rfl ?_) | (refine L_front5 ?_; refine L_store tb rfl rfl rfl rfl rfl rfl rfl rfl ?_) | (refine L_front6 ?_; refine L_store tb rfl rfl rfl rfl rfl rfl rfl rfl ?_)
              refine L_q rfl rfl rfl (q_assign rfl) ?_
              refine L_then ?_
              refine C_ret ?_
              rw [pr_rn (rf_0 h12 h15 h18 (by first | exact fun hh => h24 hh.1 | exact fun hh => h28 hh.2 | exact fun hh => h24 (by omega)) (by first | exact .inl (by omega) | exact .inr ⟨h36, h41⟩))]
              dsimp only
              exact ret_of (resCT tb rfl rfl rfl rfl bxo rfl) sub_nil (by intro r hr; cases hr) ⟨rfl, rfl⟩
            · -- t32 False
              refine L_qg rfl rfl rfl rfl rfl rfl rfl (q_move rfl) ?_
              refine L_qg rfl rfl rfl rfl rfl rfl rfl (t_to (j := 2) Tryd.underlying9 rfl rfl (by omega) rfl) ?_
              refine L_qg rfl rfl rfl rfl rfl rfl rfl (t_ne (a := l.take 2) (b := [110, 120]) rfl rfl) ?_
              refine L_qg rfl rfl rfl rfl rfl rfl rfl (q_move rfl) ?_
              refine L_dec (d := 36) rfl (fun h36 => ?_) (fun h36 => ?_)
              · -- t36 True
                refine L_qg rfl rfl rfl rfl rfl rfl rfl (q_move rfl) ?_
                refine L_qg rfl rfl rfl rfl rfl rfl rfl (t_to (j := 2) Tryd.underlying9 rfl rfl (by omega) rfl) ?_
                refine L_qg rfl rfl rfl rfl rfl rfl rfl (t_ne (a := l.take 2) (b := [116, 120]) rfl rfl) ?_
                refine L_qg rfl rfl rfl rfl rfl rfl rfl (by first | exact q_pickT rfl rfl | exact q_pickF rfl rfl) ?_
                refine L_q rfl rfl rfl (by first | exact q_pickT rfl rfl | exact q_pickF rfl rfl) ?_
                refine L_then ?_
                refine C_dec rfl (fun h41 => ?_) (fun h41 => ?_)
                · -- t41 True
                  refine C_seq ?_
                  refine C_region ?_
                  refine L_q rfl rfl rfl (q_loadA tb rfl rfl bxo rfl rfl) ?_
                  refine L_q rfl rfl rfl (q_move rfl) ?_
                  first | refine L_store tb rfl rfl rfl rfl rfl rfl rfl rfl ?_ | (refine L_front1 ?_; refine L_store tb rfl rfl rfl rfl rfl rfl rfl rfl ?_) | (refine L_front2 ?_; refine L_store tb rfl rfl rfl rfl rfl rfl rfl rfl ?_) | (refine L_front3 ?_; refine L_store tb rfl rfl rfl rfl rfl rfl rfl rfl ?_) | (refine L_front4 ?_; refine L_store tb rfl rfl rfl rfl rfl rfl rfl rfl ?_) | (refine L_front5 ?_; refine L_store tb rfl rfl rfl rfl rfl rfl rfl rfl ?_) | (refine L_front6 ?_; refine L_store tb rfl rfl rfl rfl rfl rfl rfl rfl ?_)
                  refine L_q rfl rfl rfl (q_assign rfl) ?_
                  refine L_then ?_
                  refine C_ret ?_
                  rw [pr_rn (rf_0 h12 h15 h18 (by first | exact fun hh => h24 hh.1 | exact fun hh => h28 hh.2 | exact fun hh => h24 (by omega)) (by first | exact .inl (by omega) | exact .inr ⟨h36, h41⟩))]
                  dsimp only
                  exact ret_of (resCT tb rfl rfl rfl rfl bxo rfl) sub_nil (by intro r hr; cases hr) ⟨rfl, rfl⟩
                · -- t41 False
                  refine C_skip ?_
                  exact fun ac_ wo_ hs_ => ⟨((10 : Int), (2 : Nat)), ⟨.inr rfl, by omega, rf_2 h12 h15 h18 (by first | exact fun hh => h24 hh.1 | exact fun hh => h28 hh.2 | exact fun hh => h24 (by omega)) (by rintro (h | h); omega; first | exact h36 h.1 | exact h41 h.2 | (exact h36 (fun e => h.1 e)))⟩, hs_.weak ⟨rfl, rfl, rfl, rfl, rfl, rfl, trivial⟩ (fun h => h.pk (by repeat (first | with_reducible exact pk_nil | refine pk_box rfl ?_ | refine pk_rd rfl ?_ | refine pk_sl rfl ?_ | with_reducible refine pk_app ?_ | with_reducible refine pk_app0 ?_ | with_reducible refine pk_app0L ?_ | with_reducible exact pk_tl | refine pk_var ?_)))⟩
              · -- t36 False
                refine L_skip rfl rfl rfl rfl rfl rfl rfl ?_
                refine L_skip rfl rfl rfl rfl rfl rfl rfl ?_
                refine L_skip rfl rfl rfl rfl rfl rfl rfl ?_
                refine L_qg rfl rfl rfl rfl rfl rfl rfl (by first | exact q_pickT rfl rfl | exact q_pickF rfl rfl) ?_
                refine L_q rfl rfl rfl (by first | exact q_pickT rfl rfl | exact q_pickF rfl rfl) ?_
                refine L_then ?_
                refine C_false rfl ?_
                refine C_skip ?_
                exact fun ac_ wo_ hs_ => ⟨((10 : Int), (2 : Nat)), ⟨.inr rfl, by omega, rf_2 h12 h15 h18 (by first | exact fun hh => h24 hh.1 | exact fun hh => h28 hh.2 | exact fun hh => h24 (by omega)) (by rintro (h | h); omega; first | exact h36 h.1 | exact h41 h.2 | (exact h36 (fun e => h.1 e)))⟩, hs_.weak ⟨rfl, rfl, rfl, rfl, rfl, rfl, trivial⟩ (fun h => h.pk (by repeat (first | with_reducible exact pk_nil | refine pk_box rfl ?_ | refine pk_rd rfl ?_ | refine pk_sl rfl ?_ | with_reducible refine pk_app ?_ | with_reducible refine pk_app0 ?_ | with_reducible refine pk_app0L ?_ | with_reducible exact pk_tl | refine pk_var ?_)))⟩
        · -- behind
          rintro q ⟨hu, hq, hrf⟩
          have hln := len_map cT (cutF 47 [] (l.drop q.2)); have hne := cutF_ne 47 (l.drop q.2) []; have hpl := cutF_len 47 (l.drop q.2) []; have hdl : (l.drop q.2).length ≤ l.length := by rw [List.length_drop]; omega
          refine C_seq ?_
          refine C_region ?_
          refine L_q rfl rfl rfl (q_move rfl) ?_
          refine L_q rfl rfl rfl (q_move rfl) ?_
          refine L_q rfl rfl rfl (t_from (j := q.2) Tryd.underlying9 rfl rfl (by omega) rfl) ?_
          refine L_callS tb rfl rfl (ct_shotlinebase_Cut (l.drop q.2) 47 (by rw [List.length_drop]; omega)) no_ps rfl fun v47 => ?_
          refine L_q rfl rfl rfl (q_assign rfl) ?_
          refine L_then ?_
          refine C_seq ?_
          refine C_seq ?_
          refine C_region ?_
          refine L_q rfl rfl rfl (q_move rfl) ?_
          refine L_q rfl rfl rfl (q_len tb rfl rfl (by first | exact gvo | exact gvd gvo (by omega))) ?_
          refine L_q rfl rfl rfl (q_gtr rfl rfl) ?_
          refine L_then ?_
          refine C_dec rfl (fun h50 => ?_) (fun h50 => ?_)
          · -- t50 True
            refine C_seq ?_
            refine C_region ?_
            refine L_q rfl rfl rfl (q_loadA tb rfl rfl bxo rfl rfl) ?_
            refine L_q rfl rfl rfl (q_move rfl) ?_
            first | refine L_store tb rfl rfl rfl rfl rfl rfl rfl rfl ?_ | (refine L_front1 ?_; refine L_store tb rfl rfl rfl rfl rfl rfl rfl rfl ?_) | (refine L_front2 ?_; refine L_store tb rfl rfl rfl rfl rfl rfl rfl rfl ?_) | (refine L_front3 ?_; refine L_store tb rfl rfl rfl rfl rfl rfl rfl rfl ?_) | (refine L_front4 ?_; refine L_store tb rfl rfl rfl rfl rfl rfl rfl rfl ?_) | (refine L_front5 ?_; refine L_store tb rfl rfl rfl rfl rfl rfl rfl rfl ?_) | (refine L_front6 ?_; refine L_store tb rfl rfl rfl rfl rfl rfl rfl rfl ?_)
            refine L_q rfl rfl rfl (q_assign rfl) ?_
            refine L_then ?_
            refine C_ret ?_
            rw [pr_rn (hrf.trans (rn_3 (by omega)))]
            dsimp only
            exact ret_of (resCT tb rfl rfl rfl rfl bxo rfl) sub_nil (by intro r hr; cases hr) ⟨rfl, rfl⟩
          · -- t50 False
            obtain ⟨a, ha⟩ := get_some (cutF 47 [] (l.drop q.2)) (k := 0) (by omega); have hela := map_get cT ha; have hal := hpl a (List.mem_of_getElem? ha)
            rw [List.length_nil, Nat.zero_add] at hal
            refine C_skip_then ?_
            refine C_seq ?_
            refine C_region ?_
            refine L_q rfl rfl rfl (q_move rfl) ?_
            refine L_q rfl rfl rfl (by first | exact q_index tb rfl rfl rfl rfl (by first | exact gvo | exact gvd gvo (by omega)) (by omega) (by first | omega | (simp; done) | (simp; omega)) | exact q_indexP tb rfl rfl rfl rfl (by omega) (by omega)) ?_
            refine L_q rfl rfl rfl (q_loadE tb rfl rfl (by first | exact gvo | exact gvd gvo (by omega)) (i := 0) (o := 0) (by omega) hela rfl) ?_
            refine L_call tb rfl rfl (ct_shotlinebase_Number a 4 (by omega) (by decide)) no_ps rfl ?_
            refine L_q rfl rfl rfl (q_move rfl) ?_
            refine L_q rfl rfl rfl (q_ext0 rfl) ?_
            refine L_q rfl rfl rfl (q_ext1 rfl) ?_
            refine L_q rfl rfl rfl (q_assign rfl) ?_
            refine L_q rfl rfl rfl (q_assign rfl) ?_
            refine L_then ?_
            refine C_seq ?_
            refine C_seq ?_
            refine C_region ?_
            refine L_q rfl rfl rfl (q_move rfl) ?_
            refine L_q rfl rfl rfl (q_not rfl (by first | exact (rfl : (!true) = false) | exact (rfl : (!false) = true) | exact decide_not.symm | rfl)) ?_
            refine L_then ?_
            refine C_bool rfl (fun h61 => ?_) (fun h61 => ?_)
            · -- t61 True
              rw [Bool.not_eq_true'] at h61
              refine C_seq ?_
              refine C_region ?_
              refine L_q rfl rfl rfl (q_loadA tb rfl rfl bxo rfl rfl) ?_
              refine L_q rfl rfl rfl (q_move rfl) ?_
              first | refine L_store tb rfl rfl rfl rfl rfl rfl rfl rfl ?_ | (refine L_front1 ?_; refine L_store tb rfl rfl rfl rfl rfl rfl rfl rfl ?_) | (refine L_front2 ?_; refine L_store tb rfl rfl rfl rfl rfl rfl rfl rfl ?_) | (refine L_front3 ?_; refine L_store tb rfl rfl rfl rfl rfl rfl rfl rfl ?_) | (refine L_front4 ?_; refine L_store tb rfl rfl rfl rfl rfl rfl rfl rfl ?_) | (refine L_front5 ?_; refine L_store tb rfl rfl rfl rfl rfl rfl rfl rfl ?_) | (refine L_front6 ?_; refine L_store tb rfl rfl rfl rfl rfl rfl rfl rfl ?_)
              refine L_q rfl rfl rfl (q_assign rfl) ?_
              refine L_then ?_
              refine C_ret ?_
              rw [pr_rn (hrf.trans (rn_bad ha (is_not h61)))]
              dsimp only
              exact ret_of (resCT tb rfl rfl rfl rfl bxo rfl) sub_nil (by intro r hr; cases hr) ⟨rfl, rfl⟩
            · -- t61 False
              rw [Bool.not_eq_false'] at h61
              have hna := is_get h61; have hni := num_in hna
              have hmu : -100000 ≤ q.1 * ((numM a 4).getD 0) ∧ q.1 * ((numM a 4).getD 0) ≤ 100000 := by rcases hu with h | h <;> rw [h] <;> omega
              refine C_skip_then ?_
              refine C_seq ?_
              refine C_region ?_
              refine L_q rfl rfl rfl (q_move rfl) ?_
              refine L_q rfl rfl rfl (q_move rfl) ?_
              refine L_q rfl rfl rfl (q_mul rfl rfl (by first | exact IntWalk.i64_in _ (by omega) | rfl)) ?_
              refine L_q rfl rfl rfl (q_field tb rfl rfl rfl) ?_
              first | refine L_store tb rfl rfl rfl rfl rfl rfl rfl rfl ?_ | (refine L_front1 ?_; refine L_store tb rfl rfl rfl rfl rfl rfl rfl rfl ?_) | (refine L_front2 ?_; refine L_store tb rfl rfl rfl rfl rfl rfl rfl rfl ?_) | (refine L_front3 ?_; refine L_store tb rfl rfl rfl rfl rfl rfl rfl rfl ?_) | (refine L_front4 ?_; refine L_store tb rfl rfl rfl rfl rfl rfl rfl rfl ?_) | (refine L_front5 ?_; refine L_store tb rfl rfl rfl rfl rfl rfl rfl rfl ?_) | (refine L_front6 ?_; refine L_store tb rfl rfl rfl rfl rfl rfl rfl rfl ?_)
              refine L_then ?_
              refine C_cut (ι := Gs) (fun G => ([(0, .string (bs l)), (2, .pointer (some ⟨g2, 0, none⟩)), (4, .int .i64 7), (5, .pointer (some ⟨g5, 0, none⟩))], [box g5 23 (cGs G), box g2 23 [.int .i64 0, .int .i64 0]])) (fun G => rfS l = some G) ?_ ?_
              · -- ahead
                refine C_seq ?_
                refine C_region ?_
                refine L_q rfl rfl rfl (q_move rfl) ?_
                refine L_q rfl rfl rfl (q_len tb rfl rfl (by first | exact gvo | exact gvd gvo (by omega))) ?_
                refine L_q rfl rfl rfl (q_eql rfl rfl) ?_
                refine L_then ?_
                refine C_dec rfl (fun h70 => ?_) (fun h70 => ?_)
                · -- t70 True
                  obtain ⟨b, hb⟩ := get_some (cutF 47 [] (l.drop q.2)) (k := 1) (by omega); have helb := map_get cT hb; have hbl := hpl b (List.mem_of_getElem? hb)
                  rw [List.length_nil, Nat.zero_add] at hbl
                  refine C_seq ?_
                  refine C_region ?_
                  refine L_q rfl rfl rfl (q_move rfl) ?_
                  refine L_q rfl rfl rfl (by first | exact q_index tb rfl rfl rfl rfl (by first | exact gvo | exact gvd gvo (by omega)) (by omega) (by first | omega | (simp; done) | (simp; omega)) | exact q_indexP tb rfl rfl rfl rfl (by omega) (by omega)) ?_
                  refine L_q rfl rfl rfl (q_loadE tb rfl rfl (by first | exact gvo | exact gvd gvo (by omega)) (i := 1) (o := 0) (by omega) helb rfl) ?_
                  refine L_call tb rfl rfl (ct_shotlinebase_Number b 4 (by omega) (by decide)) no_ps rfl ?_
                  refine L_q rfl rfl rfl (q_move rfl) ?_
                  refine L_q rfl rfl rfl (q_ext0 rfl) ?_
                  refine L_q rfl rfl rfl (q_ext1 rfl) ?_
                  refine L_q rfl rfl rfl (q_assign rfl) ?_
                  refine L_q rfl rfl rfl (q_assign rfl) ?_
                  refine L_then ?_
                  refine C_seq ?_
                  refine C_seq ?_
                  refine C_region ?_
                  refine L_q rfl rfl rfl (q_move rfl) ?_
                  refine L_q rfl rfl rfl (q_not rfl (by first | exact (rfl : (!true) = false) | exact (rfl : (!false) = true) | exact decide_not.symm | rfl)) ?_
                  refine L_then ?_
                  refine C_bool rfl (fun h79 => ?_) (fun h79 => ?_)
                  · -- t79 True
                    rw [Bool.not_eq_true'] at h79
                    refine C_seq ?_
                    refine C_region ?_
                    refine L_q rfl rfl rfl (by first | exact q_build tb rfl rfl rfl rfl | exact q_buildArr tb rfl rfl rfl rfl rfl) ?_
                    refine L_q rfl rfl rfl (q_move rfl) ?_
                    first | refine L_store tb rfl rfl rfl rfl rfl rfl rfl rfl ?_ | (refine L_front1 ?_; refine L_store tb rfl rfl rfl rfl rfl rfl rfl rfl ?_) | (refine L_front2 ?_; refine L_store tb rfl rfl rfl rfl rfl rfl rfl rfl ?_) | (refine L_front3 ?_; refine L_store tb rfl rfl rfl rfl rfl rfl rfl rfl ?_) | (refine L_front4 ?_; refine L_store tb rfl rfl rfl rfl rfl rfl rfl rfl ?_) | (refine L_front5 ?_; refine L_store tb rfl rfl rfl rfl rfl rfl rfl rfl ?_) | (refine L_front6 ?_; refine L_store tb rfl rfl rfl rfl rfl rfl rfl rfl ?_)
                    refine L_q rfl rfl rfl (q_assign rfl) ?_
                    refine L_then ?_
                    refine C_ret ?_
                    rw [pr_rn (hrf.trans (rn_b2 (by omega) ha hb (is_not h79)))]
                    dsimp only
                    exact ret_of (resCT tb rfl rfl rfl rfl bxo rfl) sub_nil (by intro r hr; cases hr) ⟨rfl, rfl⟩
                  · -- t79 False
                    rw [Bool.not_eq_false'] at h79
                    have hnb := is_get h79; have hnj := num_in hnb
                    have hmv : -100000 ≤ q.1 * ((numM b 4).getD 0) ∧ q.1 * ((numM b 4).getD 0) ≤ 100000 := by rcases hu with h | h <;> rw [h] <;> omega
                    refine C_skip_then ?_
                    refine C_region ?_
                    refine L_q rfl rfl rfl (q_move rfl) ?_
                    refine L_q rfl rfl rfl (q_move rfl) ?_
                    refine L_q rfl rfl rfl (q_mul rfl rfl (by first | exact IntWalk.i64_in _ (by omega) | rfl)) ?_
                    refine L_q rfl rfl rfl (q_field tb rfl rfl rfl) ?_
                    first | refine L_store tb rfl rfl rfl rfl rfl rfl rfl rfl ?_ | (refine L_front1 ?_; refine L_store tb rfl rfl rfl rfl rfl rfl rfl rfl ?_) | (refine L_front2 ?_; refine L_store tb rfl rfl rfl rfl rfl rfl rfl rfl ?_) | (refine L_front3 ?_; refine L_store tb rfl rfl rfl rfl rfl rfl rfl rfl ?_) | (refine L_front4 ?_; refine L_store tb rfl rfl rfl rfl rfl rfl rfl rfl ?_) | (refine L_front5 ?_; refine L_store tb rfl rfl rfl rfl rfl rfl rfl rfl ?_) | (refine L_front6 ?_; refine L_store tb rfl rfl rfl rfl rfl rfl rfl rfl ?_)
                    refine L_end ?_
                    exact fun ac_ wo_ hs_ => ⟨⟨q.1 * ((numM a 4).getD 0), q.1 * ((numM b 4).getD 0)⟩, hrf.trans (rn_2 (by omega) ha hb hna hnb), hs_.weak ⟨rfl, rfl, rfl, rfl, trivial⟩ (fun h => h.pk (by repeat (first | with_reducible exact pk_nil | refine pk_box rfl ?_ | refine pk_rd rfl ?_ | refine pk_sl rfl ?_ | with_reducible refine pk_app ?_ | with_reducible refine pk_app0 ?_ | with_reducible refine pk_app0L ?_ | with_reducible exact pk_tl | refine pk_var ?_)))⟩
                · -- t70 False
                  refine C_skip ?_
                  exact fun ac_ wo_ hs_ => ⟨⟨q.1 * ((numM a 4).getD 0), 0⟩, hrf.trans (rn_1 (by omega) ha hna), hs_.weak ⟨rfl, rfl, rfl, rfl, trivial⟩ (fun h => h.pk (by repeat (first | with_reducible exact pk_nil | refine pk_box rfl ?_ | refine pk_rd rfl ?_ | refine pk_sl rfl ?_ | with_reducible refine pk_app ?_ | with_reducible refine pk_app0 ?_ | with_reducible refine pk_app0L ?_ | with_reducible exact pk_tl | refine pk_var ?_)))⟩
              · -- behind
                intro G hG
                dsimp only at hG ⊢
                refine C_seq ?_
                refine C_seq ?_
                refine C_region ?_
                refine L_q rfl rfl rfl (q_loadA tb rfl rfl bxo rfl rfl) ?_
                refine L_call tb rfl rfl (ct_shotlineref01_CheckGas G.o G.h) no_ps rfl ?_
                refine L_q rfl rfl rfl (q_neq rfl rfl) ?_
                refine L_q rfl rfl rfl (q_move rfl) ?_
                refine L_dec (d := 89) rfl (fun h89 => ?_) (fun h89 => ?_)
                · -- t89 True
                  refine L_skip rfl rfl rfl rfl rfl rfl rfl ?_
                  refine L_skip rfl rfl rfl rfl rfl rfl rfl ?_
                  refine L_skip rfl rfl rfl rfl rfl rfl rfl ?_
                  refine L_skip rfl rfl rfl rfl rfl rfl rfl ?_
                  refine L_q rfl rfl rfl (by first | exact q_pickT rfl rfl | exact q_pickF rfl rfl) ?_
                  refine L_then ?_
                  refine C_true rfl ?_
                  refine C_seq ?_
                  refine C_region ?_
                  refine L_q rfl rfl rfl (by first | exact q_build tb rfl rfl rfl rfl | exact q_buildArr tb rfl rfl rfl rfl rfl) ?_
                  refine L_q rfl rfl rfl (q_move rfl) ?_
                  first | refine L_store tb rfl rfl rfl rfl rfl rfl rfl rfl ?_ | (refine L_front1 ?_; refine L_store tb rfl rfl rfl rfl rfl rfl rfl rfl ?_) | (refine L_front2 ?_; refine L_store tb rfl rfl rfl rfl rfl rfl rfl rfl ?_) | (refine L_front3 ?_; refine L_store tb rfl rfl rfl rfl rfl rfl rfl rfl ?_) | (refine L_front4 ?_; refine L_store tb rfl rfl rfl rfl rfl rfl rfl rfl ?_) | (refine L_front5 ?_; refine L_store tb rfl rfl rfl rfl rfl rfl rfl rfl ?_) | (refine L_front6 ?_; refine L_store tb rfl rfl rfl rfl rfl rfl rfl rfl ?_)
                  refine L_q rfl rfl rfl (q_assign rfl) ?_
                  refine L_then ?_
                  refine C_ret ?_
                  rw [pr_rs hG, if_neg (fun hh => h89 hh.1)]
                  dsimp only
                  exact ret_of (resCT tb rfl rfl rfl rfl bxo rfl) sub_nil (by intro r hr; cases hr) ⟨rfl, rfl⟩
                · -- t89 False
                  have hg := Decidable.not_not.1 h89
                  refine L_qg rfl rfl rfl rfl rfl rfl rfl (q_loadA tb rfl rfl bxo rfl rfl) ?_
                  refine L_callg tb rfl rfl rfl rfl rfl rfl (ct_shotlineref01_Format G hg) no_ps rfl ?_
                  refine L_qg rfl rfl rfl rfl rfl rfl rfl (q_move rfl) ?_
                  refine L_qg rfl rfl rfl rfl rfl rfl rfl (t_ne (a := nmL G) (b := l) rfl rfl) ?_
                  refine L_q rfl rfl rfl (by first | exact q_pickT rfl rfl | exact q_pickF rfl rfl) ?_
                  refine L_then ?_
                  refine C_dec rfl (fun h94 => ?_) (fun h94 => ?_)
                  · -- t94 True
                    refine C_seq ?_
                    refine C_region ?_
                    refine L_q rfl rfl rfl (by first | exact q_build tb rfl rfl rfl rfl | exact q_buildArr tb rfl rfl rfl rfl rfl) ?_
                    refine L_q rfl rfl rfl (q_move rfl) ?_
                    first | refine L_store tb rfl rfl rfl rfl rfl rfl rfl rfl ?_ | (refine L_front1 ?_; refine L_store tb rfl rfl rfl rfl rfl rfl rfl rfl ?_) | (refine L_front2 ?_; refine L_store tb rfl rfl rfl rfl rfl rfl rfl rfl ?_) | (refine L_front3 ?_; refine L_store tb rfl rfl rfl rfl rfl rfl rfl rfl ?_) | (refine L_front4 ?_; refine L_store tb rfl rfl rfl rfl rfl rfl rfl rfl ?_) | (refine L_front5 ?_; refine L_store tb rfl rfl rfl rfl rfl rfl rfl rfl ?_) | (refine L_front6 ?_; refine L_store tb rfl rfl rfl rfl rfl rfl rfl rfl ?_)
                    refine L_q rfl rfl rfl (q_assign rfl) ?_
                    refine L_then ?_
                    refine C_ret ?_
                    rw [pr_rs hG, if_neg (fun hh => h94 hh.2)]
                    dsimp only
                    exact ret_of (resCT tb rfl rfl rfl rfl bxo rfl) sub_nil (by intro r hr; cases hr) ⟨rfl, rfl⟩
                  · -- t94 False
                    refine C_skip_then ?_
                    refine C_seq ?_
                    refine C_region ?_
                    refine L_q rfl rfl rfl (q_loadA tb rfl rfl bxo rfl rfl) ?_
                    first | refine L_store tb rfl rfl rfl rfl rfl rfl rfl rfl ?_ | (refine L_front1 ?_; refine L_store tb rfl rfl rfl rfl rfl rfl rfl rfl ?_) | (refine L_front2 ?_; refine L_store tb rfl rfl rfl rfl rfl rfl rfl rfl ?_) | (refine L_front3 ?_; refine L_store tb rfl rfl rfl rfl rfl rfl rfl rfl ?_) | (refine L_front4 ?_; refine L_store tb rfl rfl rfl rfl rfl rfl rfl rfl ?_) | (refine L_front5 ?_; refine L_store tb rfl rfl rfl rfl rfl rfl rfl rfl ?_) | (refine L_front6 ?_; refine L_store tb rfl rfl rfl rfl rfl rfl rfl rfl ?_)
                    refine L_q rfl rfl rfl (q_assign rfl) ?_
                    refine L_then ?_
                    refine C_ret ?_
                    rw [pr_rs hG, if_pos ⟨hg, Decidable.not_not.1 h94⟩]
                    dsimp only
                    exact ret_of (resCT tb rfl rfl rfl rfl bxo rfl) sub_nil (by intro r hr; cases hr) ⟨rfl, rfl⟩
end Go.Proofs.YtibohfipgjljhaaDoor
