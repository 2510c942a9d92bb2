/-
  Walks: each function named returns what its model says. Conditions: those in front of each theorem.
-/
import Derived.Test.YtibohfipgjljhaaDoorKU
namespace Go.Proofs.YtibohfipgjljhaaDoor
open Go.RowKit

set_option maxRecDepth 100000 in
theorem ct_FormatQ (g : Gs) : CtQ KQ Tryd.prog 42 [.agg (cGs g).toArray] [] (isV (.tuple #[.string (bs (if ckGas g.o g.h = 0 then nmL g else [])), .int .i64 (ckGas g.o g.h)])) := by
  refine CtQ.of (N := 12) Tryd.func42 rfl rfl rfl fun w hQ => ?_
  refine C_weak (E' := [(0, .agg (cGs g).toArray)]) (rs' := []) ⟨rfl, trivial⟩ (fun _ h => h) ?_
  refine C_seq ?_
  refine C_region ?_
  refine L_box rfl rfl rfl fun g1 => ?_
  refine L_q rfl rfl rfl (q_assign rfl) ?_
  refine L_q rfl rfl rfl (q_assign rfl) ?_
  refine L_then ?_
  refine C_seq ?_
  refine C_seq ?_
  refine C_region ?_
  refine L_q rfl rfl rfl (q_loadA tb rfl rfl bxo rfl rfl) ?_
  refine L_call tb rfl rfl (ct_gas_CheckGas g.o g.h) no_ps rfl ?_
  refine L_q rfl rfl rfl (q_assign rfl) ?_
  refine L_then ?_
  refine C_seq ?_
  refine C_region ?_
  refine L_q rfl rfl rfl (q_move rfl) ?_
  refine L_q rfl rfl rfl (q_neq rfl rfl) ?_
  refine L_then ?_
  refine C_dec rfl (fun hc => ?_) (fun hc => ?_)
  · -- t8 True
    refine C_seq ?_
    refine C_region ?_
    refine L_q rfl rfl rfl (q_move rfl) ?_
    refine L_q rfl rfl rfl (q_assign rfl) ?_
    refine L_q rfl rfl rfl (q_assign rfl) ?_
    refine L_then ?_
    refine C_ret ?_
    rw [if_neg hc]
    exact ret_of (res2 rfl rfl rfl) sub_nil (by intro r hr; cases hr) ⟨rfl, rfl⟩
  · -- t8 False
    have hz := Decidable.not_not.1 hc
    refine C_skip_then ?_
    refine C_seq ?_
    refine C_region ?_
    refine L_q rfl rfl rfl (q_loadA tb rfl rfl bxo rfl rfl) ?_
    refine L_lo rfl rfl rfl (lo_callQ tb stQ hQ rfl rfl (ct_nameOfQ g hz) no_ps isV_sinks) ?_
    rintro _ _ ⟨rfl, rfl⟩
    refine L_q rfl rfl rfl (q_assign rfl) ?_
    refine L_q rfl rfl rfl (q_assign rfl) ?_
    refine L_then ?_
    refine C_ret ?_
    rw [if_pos hz, hz]
    exact ret_of (res2 rfl rfl rfl) sub_nil (by intro r hr; cases hr) ⟨rfl, rfl⟩
set_option maxRecDepth 100000 in
set_option maxHeartbeats 4000000 in
theorem ct_readQ (l : Tx) (hl : l.length ≤ 1000000) : CtQ KQ Tryd.prog 91 [.string (bs l)] [] (isV (.tuple #[gsV (rdG l).o (rdG l).h, .bool (rdS l).isSome])) := by
  refine CtQ.of (N := 87) Tryd.func91 rfl rfl rfl fun w hQ => ?_
  refine C_weak (E' := [(0, .string (bs l))]) (rs' := []) ⟨rfl, trivial⟩ (fun _ h => h) ?_
  obtain ⟨bm, es, clock, hKB⟩ := id hQ.1
  refine C_seq ?_
  refine C_region ?_
  refine L_alloc tb rfl rfl fun g2 => ?_
  refine L_q rfl rfl rfl (q_assign rfl) ?_
  refine L_then ?_
  refine C_seq ?_
  refine C_seq ?_
  refine C_region ?_
  refine L_q rfl rfl rfl (q_gmap tb rfl rfl hKB) ?_
  refine L_q rfl rfl rfl (q_move rfl) ?_
  refine L_q rfl rfl rfl (look_eq (by rw [bs_size]; unfold maxLen; omega) rfl rfl hKB (look_all l)) ?_
  refine L_q rfl rfl rfl (q_move rfl) ?_
  refine L_q rfl rfl rfl (q_ext0 rfl) ?_
  refine L_q rfl rfl rfl (q_ext1 rfl) ?_
  refine L_alloc tb rfl rfl fun g4 => ?_
  first | refine L_store tb rfl rfl rfl rfl rfl rfl rfl rfl ?_ | (refine L_front1 ?_; refine L_store tb rfl rfl rfl rfl rfl rfl rfl rfl ?_) | (refine L_front2 ?_; refine L_store tb rfl rfl rfl rfl rfl rfl rfl rfl ?_) | (refine L_front3 ?_; refine L_store tb rfl rfl rfl rfl rfl rfl rfl rfl ?_) | (refine L_front4 ?_; refine L_store tb rfl rfl rfl rfl rfl rfl rfl rfl ?_) | (refine L_front5 ?_; refine L_store tb rfl rfl rfl rfl rfl rfl rfl rfl ?_) | (refine L_front6 ?_; refine L_store tb rfl rfl rfl rfl rfl rfl rfl rfl ?_)
  refine L_q rfl rfl rfl (q_assign rfl) ?_
  refine L_then ?_
  refine C_seq ?_
  refine C_region ?_
  refine L_q rfl rfl rfl (q_move rfl) ?_
  refine L_then ?_
  refine C_bool rfl (fun hkn => ?_) (fun hkn => ?_)
  · -- t23 True
    have hkn := of_decide_eq_true hkn
    have hrd := rd_known hkn
    refine C_seq ?_
    refine C_region ?_
    refine L_q rfl rfl rfl (q_loadA tb rfl rfl bxo rfl rfl) ?_
    first | refine L_store tb rfl rfl rfl rfl rfl rfl rfl rfl ?_ | (refine L_front1 ?_; refine L_store tb rfl rfl rfl rfl rfl rfl rfl rfl ?_) | (refine L_front2 ?_; refine L_store tb rfl rfl rfl rfl rfl rfl rfl rfl ?_) | (refine L_front3 ?_; refine L_store tb rfl rfl rfl rfl rfl rfl rfl rfl ?_) | (refine L_front4 ?_; refine L_store tb rfl rfl rfl rfl rfl rfl rfl rfl ?_) | (refine L_front5 ?_; refine L_store tb rfl rfl rfl rfl rfl rfl rfl rfl ?_) | (refine L_front6 ?_; refine L_store tb rfl rfl rfl rfl rfl rfl rfl rfl ?_)
    refine L_q rfl rfl rfl (q_assign rfl) ?_
    refine L_then ?_
    refine C_ret ?_
    unfold rdG
    rw [hrd]
    exact ret_of (resCT tb rfl rfl rfl rfl bxo rfl) sub_nil (by intro r hr; cases hr) ⟨rfl, rfl⟩
  · -- t23 False
    have hkn := of_decide_eq_false hkn
    refine C_skip_then ?_
    refine C_seq ?_
    refine C_seq ?_
    refine C_region ?_
    refine L_q rfl rfl rfl (by first | exact q_build tb rfl rfl rfl rfl | exact q_buildArr tb rfl rfl rfl rfl rfl) ?_
    refine L_q rfl rfl rfl (by first | exact q_build tb rfl rfl rfl rfl | exact q_buildArr tb rfl rfl rfl rfl rfl) ?_
    refine L_q rfl rfl rfl (by first | exact q_build tb rfl rfl rfl rfl | exact q_buildArr tb rfl rfl rfl rfl rfl) ?_
    refine L_q rfl rfl rfl (by first | exact q_build tb rfl rfl rfl rfl | exact q_buildArr tb rfl rfl rfl rfl rfl) ?_
    refine L_q rfl rfl rfl (q_move rfl) ?_
    refine L_then ?_
    refine C_block ?_
    refine C_loop (ι := Nat) (fun k => ([(0, .string (bs l)), (2, .pointer (some ⟨g2, 0, none⟩)), (28, .agg #[.string (bs [110, 120]), .int .i64 10, .string (bs [116, 120]), .int .i64 10, .string (bs [103, 97, 115]), .int .i64 1]), (29, .int .i64 (k : Int))], [box g2 23 [.int .i64 0, .int .i64 0]])) (fun k => k ≤ 3 ∧ (1 ≤ k → Lib.hasPrefix l [110, 120] = false) ∧ (2 ≤ k → Lib.hasPrefix l [116, 120] = false) ∧ (3 ≤ k → Lib.hasPrefix l [103, 97, 115] = false)) (fun k => 3 - k) 0 ⟨Nat.zero_le _, fun h => absurd h (by decide), fun h => absurd h (by decide), fun h => absurd h (by decide)⟩ (fun a w hs => hs.weak ⟨rfl, rfl, rfl, rfl, trivial⟩ (fun h => h.pk (by repeat (first | with_reducible exact pk_nil | refine pk_box rfl ?_ | refine pk_rd rfl ?_ | refine pk_sl rfl ?_ | with_reducible refine pk_app ?_ | with_reducible refine pk_app0 ?_ | with_reducible refine pk_app0L ?_ | with_reducible exact pk_tl | refine pk_var ?_)))) ?_
    rintro k ⟨hk, hp1, hp2, hp3⟩
    dsimp only at hk hp1 hp2 hp3 ⊢
    refine C_seq ?_
    refine C_region ?_
    refine L_q rfl rfl rfl (q_lss rfl rfl) ?_
    refine L_then ?_
    refine C_seq ?_
    refine C_dec rfl (fun h2 => ?_) (fun h2 => ?_)
    · -- t30 True
      obtain rfl | rfl | rfl : k = 0 ∨ k = 1 ∨ k = 2 := by omega
      · -- case 0
        refine C_skip_then ?_
        refine C_seq ?_
        refine C_block ?_
        refine C_seq ?_
        refine C_region ?_
        refine L_q rfl rfl rfl (q_indexVA tb rfl rfl rfl rfl (by decide) (by decide) (ds := [.string (bs [110, 120]), .int .i64 10]) rfl) ?_
        refine L_alloc tb rfl rfl fun g7 => ?_
        first | refine L_store tb rfl rfl rfl rfl rfl rfl rfl rfl ?_ | (refine L_front1 ?_; refine L_store tb rfl rfl rfl rfl rfl rfl rfl rfl ?_) | (refine L_front2 ?_; refine L_store tb rfl rfl rfl rfl rfl rfl rfl rfl ?_) | (refine L_front3 ?_; refine L_store tb rfl rfl rfl rfl rfl rfl rfl rfl ?_) | (refine L_front4 ?_; refine L_store tb rfl rfl rfl rfl rfl rfl rfl rfl ?_) | (refine L_front5 ?_; refine L_store tb rfl rfl rfl rfl rfl rfl rfl rfl ?_) | (refine L_front6 ?_; refine L_store tb rfl rfl rfl rfl rfl rfl rfl rfl ?_)
        refine L_then ?_
        refine C_seq ?_
        refine C_region ?_
        refine L_q rfl rfl rfl (q_move rfl) ?_
        refine L_q rfl rfl rfl (q_field tb rfl rfl rfl) ?_
        refine L_q rfl rfl rfl (q_load tb rfl rfl bxo rfl) ?_
        refine L_call tb rfl rfl (ct_CutPrefixQ l [110, 120]) no_ps rfl ?_
        refine L_q rfl rfl rfl (q_move rfl) ?_
        refine L_q rfl rfl rfl (q_ext0 rfl) ?_
        refine L_q rfl rfl rfl (q_ext1 rfl) ?_
        refine L_q rfl rfl rfl (q_assign rfl) ?_
        refine L_q rfl rfl rfl (q_assign rfl) ?_
        refine L_then ?_
        refine C_seq ?_
        refine C_seq ?_
        refine C_region ?_
        refine L_q rfl rfl rfl (q_move rfl) ?_
        refine L_q rfl rfl rfl (q_not rfl (by first | exact (rfl : (!true) = false) | exact (rfl : (!false) = true) | exact decide_not.symm | rfl)) ?_
        refine L_then ?_
        refine C_bool rfl (fun hpf => ?_) (fun hpf => ?_)
        · -- t40 True
          rw [Bool.not_eq_true'] at hpf
          refine C_exit ?_
          change C Tryd.prog _ _ _ _ _ _ _
          refine C_region ?_
          refine L_q rfl rfl rfl (q_add rfl rfl (by first | exact IntWalk.i64_in _ (by omega) | rfl)) ?_
          refine L_q rfl rfl rfl (q_move rfl) ?_
          refine L_end ?_
          exact fun ac_ wo_ hs_ => ⟨1, ⟨by decide, fun _ => hpf, fun h => absurd h (by decide), fun h => absurd h (by decide)⟩, (by decide), hs_.weak ⟨rfl, rfl, rfl, rfl, trivial⟩ (fun h => h.pk (by repeat (first | with_reducible exact pk_nil | refine pk_box rfl ?_ | refine pk_rd rfl ?_ | refine pk_sl rfl ?_ | with_reducible refine pk_app ?_ | with_reducible refine pk_app0 ?_ | with_reducible refine pk_app0L ?_ | with_reducible exact pk_tl | refine pk_var ?_)))⟩
        · -- t40 False
          rw [Bool.not_eq_false'] at hpf
          refine C_skip_then ?_
          refine C_seq ?_
          refine C_region ?_
          refine L_q rfl rfl rfl (q_move rfl) ?_
          refine L_call tb rfl rfl (ct_CutQ (Lib.trimPrefix l [110, 120]) (by have := trim_len l [110, 120]; omega)) no_ps rfl ?_
          refine L_q rfl rfl rfl (q_move rfl) ?_
          refine L_q rfl rfl rfl (q_ext0 rfl) ?_
          refine L_q rfl rfl rfl (q_ext1 rfl) ?_
          refine L_q rfl rfl rfl (q_ext2 rfl) ?_
          refine L_q rfl rfl rfl (q_assign rfl) ?_
          refine L_q rfl rfl rfl (q_assign rfl) ?_
          refine L_q rfl rfl rfl (q_assign rfl) ?_
          refine L_then ?_
          refine C_seq ?_
          refine C_seq ?_
          refine C_region ?_
          refine L_q rfl rfl rfl (q_move rfl) ?_
          refine L_q rfl rfl rfl (t_eq (a := (cut1 47 (Lib.trimPrefix l [110, 120])).2) (b := []) rfl rfl) ?_
          refine L_then ?_
          refine C_dec rfl (fun h48 => ?_) (fun h48 => ?_)
          · -- t48 True
            refine C_region ?_
            refine L_q rfl rfl rfl (q_assign rfl) ?_
            refine L_then ?_
            refine C_seq ?_
            refine C_region ?_
            refine L_q rfl rfl rfl (q_move rfl) ?_
            refine L_lo rfl rfl rfl (lo_callQ tb stQ hQ rfl rfl (ct_AtoiQ (cut1 47 (Lib.trimPrefix l [110, 120])).1 (by have := trim_len l [110, 120]; have := (cut1_len 47 (Lib.trimPrefix l [110, 120])).1; omega)) no_ps AtP_sinks) ?_
            rintro _ _ ⟨N51, rfl, rfl⟩
            refine L_q rfl rfl rfl (q_move rfl) ?_
            refine L_q rfl rfl rfl (q_ext0 rfl) ?_
            refine L_q rfl rfl rfl (q_ext1 rfl) ?_
            refine L_q rfl rfl rfl (q_assign rfl) ?_
            refine L_q rfl rfl rfl (q_assign rfl) ?_
            refine L_then ?_
            refine C_seq ?_
            refine C_region ?_
            refine L_q rfl rfl rfl (q_move rfl) ?_
            refine L_lo rfl rfl rfl (lo_callQ tb stQ hQ rfl rfl (ct_AtoiQ [48] (by have := trim_len l [110, 120]; have := (cut1_len 47 (Lib.trimPrefix l [110, 120])).2; first | omega | simp)) no_ps AtP_sinks) ?_
            rintro _ _ ⟨N56, rfl, rfl⟩
            refine L_q rfl rfl rfl (q_move rfl) ?_
            refine L_q rfl rfl rfl (q_ext0 rfl) ?_
            refine L_q rfl rfl rfl (q_ext1 rfl) ?_
            refine L_q rfl rfl rfl (q_assign rfl) ?_
            refine L_q rfl rfl rfl (q_assign rfl) ?_
            refine L_then ?_
            refine C_seq ?_
            refine C_seq ?_
            refine C_region ?_
            refine L_q rfl rfl rfl (q_move rfl) ?_
            refine L_q rfl rfl rfl (q_errV Tryd.underlying144 rfl) ?_
            refine L_q rfl rfl rfl (q_move rfl) ?_
            refine L_bool (d := 61) rfl (fun h60 => ?_) (fun h60 => ?_)
            · -- t61 True
              refine L_skip rfl rfl rfl rfl rfl rfl rfl ?_
              refine L_skip rfl rfl rfl rfl rfl rfl rfl ?_
              refine L_q rfl rfl rfl (by first | exact q_pickT rfl rfl | exact q_pickF rfl rfl) ?_
              refine L_q rfl rfl rfl (q_move rfl) ?_
              refine L_skip rfl rfl rfl rfl rfl rfl rfl ?_
              refine L_skip rfl rfl rfl rfl rfl rfl rfl ?_
              refine L_skip rfl rfl rfl rfl rfl rfl rfl ?_
              refine L_q rfl rfl rfl (by first | exact q_pickT rfl rfl | exact q_pickF rfl rfl) ?_
              refine L_q rfl rfl rfl (q_move rfl) ?_
              refine L_skip rfl rfl rfl rfl rfl rfl rfl ?_
              refine L_skip rfl rfl rfl rfl rfl rfl rfl ?_
              refine L_skip rfl rfl rfl rfl rfl rfl rfl ?_
              refine L_q rfl rfl rfl (by first | exact q_pickT rfl rfl | exact q_pickF rfl rfl) ?_
              refine L_then ?_
              refine C_true rfl ?_
              refine C_seq ?_
              refine C_region ?_
              refine L_q rfl rfl rfl (by first | exact q_build tb rfl rfl rfl rfl | exact q_buildArr tb rfl rfl rfl rfl rfl) ?_
              first | refine L_store tb rfl rfl rfl rfl rfl rfl rfl rfl ?_ | (refine L_front1 ?_; refine L_store tb rfl rfl rfl rfl rfl rfl rfl rfl ?_) | (refine L_front2 ?_; refine L_store tb rfl rfl rfl rfl rfl rfl rfl rfl ?_) | (refine L_front3 ?_; refine L_store tb rfl rfl rfl rfl rfl rfl rfl rfl ?_) | (refine L_front4 ?_; refine L_store tb rfl rfl rfl rfl rfl rfl rfl rfl ?_) | (refine L_front5 ?_; refine L_store tb rfl rfl rfl rfl rfl rfl rfl rfl ?_) | (refine L_front6 ?_; refine L_store tb rfl rfl rfl rfl rfl rfl rfl rfl ?_)
              refine L_q rfl rfl rfl (q_assign rfl) ?_
              refine L_then ?_
              refine C_ret ?_
              have hrd := (rd_0 hkn hpf).trans (rdN_eq (u := 10) (r := (Lib.trimPrefix l [110, 120])) (a := (cut1 47 (Lib.trimPrefix l [110, 120])).1) (b := [48]) rfl (by unfold rdB; rw [if_pos h48]))
              unfold rdG
              rw [hrd, if_neg (fun hh => by rw [hh.1] at h60; exact absurd h60 (by decide))]
              exact ret_of (resCT tb rfl rfl rfl rfl bxo rfl) sub_nil (by intro r hr; cases hr) ⟨rfl, rfl⟩
            · -- t61 False
              skip
              refine L_qg rfl rfl rfl rfl rfl rfl rfl (q_move rfl) ?_
              refine L_qg rfl rfl rfl rfl rfl rfl rfl (q_errV Tryd.underlying144 rfl) ?_
              refine L_q rfl rfl rfl (by first | exact q_pickT rfl rfl | exact q_pickF rfl rfl) ?_
              refine L_q rfl rfl rfl (q_move rfl) ?_
              refine L_bool (d := 65) rfl (fun h63 => ?_) (fun h63 => ?_)
              · -- t65 True
                refine L_skip rfl rfl rfl rfl rfl rfl rfl ?_
                refine L_skip rfl rfl rfl rfl rfl rfl rfl ?_
                refine L_skip rfl rfl rfl rfl rfl rfl rfl ?_
                refine L_q rfl rfl rfl (by first | exact q_pickT rfl rfl | exact q_pickF rfl rfl) ?_
                refine L_q rfl rfl rfl (q_move rfl) ?_
                refine L_skip rfl rfl rfl rfl rfl rfl rfl ?_
                refine L_skip rfl rfl rfl rfl rfl rfl rfl ?_
                refine L_skip rfl rfl rfl rfl rfl rfl rfl ?_
                refine L_q rfl rfl rfl (by first | exact q_pickT rfl rfl | exact q_pickF rfl rfl) ?_
                refine L_then ?_
                refine C_true rfl ?_
                refine C_seq ?_
                refine C_region ?_
                refine L_q rfl rfl rfl (by first | exact q_build tb rfl rfl rfl rfl | exact q_buildArr tb rfl rfl rfl rfl rfl) ?_
                first | refine L_store tb rfl rfl rfl rfl rfl rfl rfl rfl ?_ | (refine L_front1 ?_; refine L_store tb rfl rfl rfl rfl rfl rfl rfl rfl ?_) | (refine L_front2 ?_; refine L_store tb rfl rfl rfl rfl rfl rfl rfl rfl ?_) | (refine L_front3 ?_; refine L_store tb rfl rfl rfl rfl rfl rfl rfl rfl ?_) | (refine L_front4 ?_; refine L_store tb rfl rfl rfl rfl rfl rfl rfl rfl ?_) | (refine L_front5 ?_; refine L_store tb rfl rfl rfl rfl rfl rfl rfl rfl ?_) | (refine L_front6 ?_; refine L_store tb rfl rfl rfl rfl rfl rfl rfl rfl ?_)
                refine L_q rfl rfl rfl (q_assign rfl) ?_
                refine L_then ?_
                refine C_ret ?_
                have hrd := (rd_0 hkn hpf).trans (rdN_eq (u := 10) (r := (Lib.trimPrefix l [110, 120])) (a := (cut1 47 (Lib.trimPrefix l [110, 120])).1) (b := [48]) rfl (by unfold rdB; rw [if_pos h48]))
                unfold rdG
                rw [hrd, if_neg (fun hh => by rw [hh.2.1] at h63; exact absurd h63 (by decide))]
                exact ret_of (resCT tb rfl rfl rfl rfl bxo rfl) sub_nil (by intro r hr; cases hr) ⟨rfl, rfl⟩
              · -- t65 False
                refine L_qg rfl rfl rfl rfl rfl rfl rfl (q_move rfl) ?_
                refine L_callg tb rfl rfl rfl rfl rfl rfl (ct_gas_within (atN (cut1 47 (Lib.trimPrefix l [110, 120])).1) 0 1000) no_ps rfl ?_
                refine L_qg rfl rfl rfl rfl rfl rfl rfl (q_not rfl (by first | exact (rfl : (!true) = false) | exact (rfl : (!false) = true) | exact decide_not.symm | rfl)) ?_
                refine L_q rfl rfl rfl (by first | exact q_pickT rfl rfl | exact q_pickF rfl rfl) ?_
                refine L_q rfl rfl rfl (q_move rfl) ?_
                refine L_dec (d := 70) rfl (fun h67 => ?_) (fun h67 => ?_)
                · -- t70 True
                  refine L_skip rfl rfl rfl rfl rfl rfl rfl ?_
                  refine L_skip rfl rfl rfl rfl rfl rfl rfl ?_
                  refine L_skip rfl rfl rfl rfl rfl rfl rfl ?_
                  refine L_q rfl rfl rfl (by first | exact q_pickT rfl rfl | exact q_pickF rfl rfl) ?_
                  refine L_then ?_
                  refine C_true rfl ?_
                  refine C_seq ?_
                  refine C_region ?_
                  refine L_q rfl rfl rfl (by first | exact q_build tb rfl rfl rfl rfl | exact q_buildArr tb rfl rfl rfl rfl rfl) ?_
                  first | refine L_store tb rfl rfl rfl rfl rfl rfl rfl rfl ?_ | (refine L_front1 ?_; refine L_store tb rfl rfl rfl rfl rfl rfl rfl rfl ?_) | (refine L_front2 ?_; refine L_store tb rfl rfl rfl rfl rfl rfl rfl rfl ?_) | (refine L_front3 ?_; refine L_store tb rfl rfl rfl rfl rfl rfl rfl rfl ?_) | (refine L_front4 ?_; refine L_store tb rfl rfl rfl rfl rfl rfl rfl rfl ?_) | (refine L_front5 ?_; refine L_store tb rfl rfl rfl rfl rfl rfl rfl rfl ?_) | (refine L_front6 ?_; refine L_store tb rfl rfl rfl rfl rfl rfl rfl rfl ?_)
                  refine L_q rfl rfl rfl (q_assign rfl) ?_
                  refine L_then ?_
                  refine C_ret ?_
                  have hrd := (rd_0 hkn hpf).trans (rdN_eq (u := 10) (r := (Lib.trimPrefix l [110, 120])) (a := (cut1 47 (Lib.trimPrefix l [110, 120])).1) (b := [48]) rfl (by unfold rdB; rw [if_pos h48]))
                  unfold rdG
                  rw [hrd, if_neg (fun hh => by omega)]
                  exact ret_of (resCT tb rfl rfl rfl rfl bxo rfl) sub_nil (by intro r hr; cases hr) ⟨rfl, rfl⟩
                · -- t70 False
                  refine L_qg rfl rfl rfl rfl rfl rfl rfl (q_move rfl) ?_
                  refine L_callg tb rfl rfl rfl rfl rfl rfl (ct_gas_within (atN [48]) 0 1000) no_ps rfl ?_
                  refine L_qg rfl rfl rfl rfl rfl rfl rfl (q_not rfl decide_not.symm) ?_
                  refine L_q rfl rfl rfl (by first | exact q_pickT rfl rfl | exact q_pickF rfl rfl) ?_
                  refine L_then ?_
                  refine C_dec rfl (fun h74 => ?_) (fun h74 => ?_)
                  · -- t74 True
                    refine C_seq ?_
                    refine C_region ?_
                    refine L_q rfl rfl rfl (by first | exact q_build tb rfl rfl rfl rfl | exact q_buildArr tb rfl rfl rfl rfl rfl) ?_
                    first | refine L_store tb rfl rfl rfl rfl rfl rfl rfl rfl ?_ | (refine L_front1 ?_; refine L_store tb rfl rfl rfl rfl rfl rfl rfl rfl ?_) | (refine L_front2 ?_; refine L_store tb rfl rfl rfl rfl rfl rfl rfl rfl ?_) | (refine L_front3 ?_; refine L_store tb rfl rfl rfl rfl rfl rfl rfl rfl ?_) | (refine L_front4 ?_; refine L_store tb rfl rfl rfl rfl rfl rfl rfl rfl ?_) | (refine L_front5 ?_; refine L_store tb rfl rfl rfl rfl rfl rfl rfl rfl ?_) | (refine L_front6 ?_; refine L_store tb rfl rfl rfl rfl rfl rfl rfl rfl ?_)
                    refine L_q rfl rfl rfl (q_assign rfl) ?_
                    refine L_then ?_
                    refine C_ret ?_
                    have hrd := (rd_0 hkn hpf).trans (rdN_eq (u := 10) (r := (Lib.trimPrefix l [110, 120])) (a := (cut1 47 (Lib.trimPrefix l [110, 120])).1) (b := [48]) rfl (by unfold rdB; rw [if_pos h48]))
                    unfold rdG
                    rw [hrd, if_neg (fun hh => by omega)]
                    exact ret_of (resCT tb rfl rfl rfl rfl bxo rfl) sub_nil (by intro r hr; cases hr) ⟨rfl, rfl⟩
                  · -- t74 False
                    refine C_skip_then ?_
                    refine C_seq ?_
                    refine C_region ?_
                    refine L_q rfl rfl rfl (q_move rfl) ?_
                    refine L_q rfl rfl rfl (q_field tb rfl rfl rfl) ?_
                    refine L_q rfl rfl rfl (q_load tb rfl rfl bxo rfl) ?_
                    refine L_q rfl rfl rfl (q_mul rfl rfl (by first | exact IntWalk.i64_in _ (by omega) | rfl)) ?_
                    refine L_q rfl rfl rfl (q_move rfl) ?_
                    refine L_q rfl rfl rfl (q_field tb rfl rfl rfl) ?_
                    refine L_q rfl rfl rfl (q_load tb rfl rfl bxo rfl) ?_
                    refine L_q rfl rfl rfl (q_mul rfl rfl (by first | exact IntWalk.i64_in _ (by omega) | rfl)) ?_
                    refine L_q rfl rfl rfl (by first | exact q_build tb rfl rfl rfl rfl | exact q_buildArr tb rfl rfl rfl rfl rfl) ?_
                    first | refine L_store tb rfl rfl rfl rfl rfl rfl rfl rfl ?_ | (refine L_front1 ?_; refine L_store tb rfl rfl rfl rfl rfl rfl rfl rfl ?_) | (refine L_front2 ?_; refine L_store tb rfl rfl rfl rfl rfl rfl rfl rfl ?_) | (refine L_front3 ?_; refine L_store tb rfl rfl rfl rfl rfl rfl rfl rfl ?_) | (refine L_front4 ?_; refine L_store tb rfl rfl rfl rfl rfl rfl rfl rfl ?_) | (refine L_front5 ?_; refine L_store tb rfl rfl rfl rfl rfl rfl rfl rfl ?_) | (refine L_front6 ?_; refine L_store tb rfl rfl rfl rfl rfl rfl rfl rfl ?_)
                    refine L_q rfl rfl rfl (q_assign rfl) ?_
                    refine L_then ?_
                    refine C_ret ?_
                    have hrd := (rd_0 hkn hpf).trans (rdN_eq (u := 10) (r := (Lib.trimPrefix l [110, 120])) (a := (cut1 47 (Lib.trimPrefix l [110, 120])).1) (b := [48]) rfl (by unfold rdB; rw [if_pos h48]))
                    unfold rdG
                    rw [hrd, if_pos ⟨h60, h63, by omega, by omega⟩]
                    exact ret_of (resCT tb rfl rfl rfl rfl bxo rfl) sub_nil (by intro r hr; cases hr) ⟨rfl, rfl⟩
          · -- t48 False
            refine C_skip_then ?_
            refine C_seq ?_
            refine C_region ?_
            refine L_q rfl rfl rfl (q_move rfl) ?_
            refine L_lo rfl rfl rfl (lo_callQ tb stQ hQ rfl rfl (ct_AtoiQ (cut1 47 (Lib.trimPrefix l [110, 120])).1 (by have := trim_len l [110, 120]; have := (cut1_len 47 (Lib.trimPrefix l [110, 120])).1; omega)) no_ps AtP_sinks) ?_
            rintro _ _ ⟨N51, rfl, rfl⟩
            refine L_q rfl rfl rfl (q_move rfl) ?_
            refine L_q rfl rfl rfl (q_ext0 rfl) ?_
            refine L_q rfl rfl rfl (q_ext1 rfl) ?_
            refine L_q rfl rfl rfl (q_assign rfl) ?_
            refine L_q rfl rfl rfl (q_assign rfl) ?_
            refine L_then ?_
            refine C_seq ?_
            refine C_region ?_
            refine L_q rfl rfl rfl (q_move rfl) ?_
            refine L_lo rfl rfl rfl (lo_callQ tb stQ hQ rfl rfl (ct_AtoiQ (cut1 47 (Lib.trimPrefix l [110, 120])).2 (by have := trim_len l [110, 120]; have := (cut1_len 47 (Lib.trimPrefix l [110, 120])).2; first | omega | simp)) no_ps AtP_sinks) ?_
            rintro _ _ ⟨N56, rfl, rfl⟩
            refine L_q rfl rfl rfl (q_move rfl) ?_
            refine L_q rfl rfl rfl (q_ext0 rfl) ?_
            refine L_q rfl rfl rfl (q_ext1 rfl) ?_
            refine L_q rfl rfl rfl (q_assign rfl) ?_
            refine L_q rfl rfl rfl (q_assign rfl) ?_
            refine L_then ?_
            refine C_seq ?_
            refine C_seq ?_
            refine C_region ?_
            refine L_q rfl rfl rfl (q_move rfl) ?_
            refine L_q rfl rfl rfl (q_errV Tryd.underlying144 rfl) ?_
            refine L_q rfl rfl rfl (q_move rfl) ?_
            refine L_bool (d := 61) rfl (fun h60 => ?_) (fun h60 => ?_)
            · -- t61 True
              refine L_skip rfl rfl rfl rfl rfl rfl rfl ?_
              refine L_skip rfl rfl rfl rfl rfl rfl rfl ?_
              refine L_q rfl rfl rfl (by first | exact q_pickT rfl rfl | exact q_pickF rfl rfl) ?_
              refine L_q rfl rfl rfl (q_move rfl) ?_
              refine L_skip rfl rfl rfl rfl rfl rfl rfl ?_
              refine L_skip rfl rfl rfl rfl rfl rfl rfl ?_
              refine L_skip rfl rfl rfl rfl rfl rfl rfl ?_
              refine L_q rfl rfl rfl (by first | exact q_pickT rfl rfl | exact q_pickF rfl rfl) ?_
              refine L_q rfl rfl rfl (q_move rfl) ?_
              refine L_skip rfl rfl rfl rfl rfl rfl rfl ?_
              refine L_skip rfl rfl rfl rfl rfl rfl rfl ?_
              refine L_skip rfl rfl rfl rfl rfl rfl rfl ?_
              refine L_q rfl rfl rfl (by first | exact q_pickT rfl rfl | exact q_pickF rfl rfl) ?_
              refine L_then ?_
              refine C_true rfl ?_
              refine C_seq ?_
              refine C_region ?_
              refine L_q rfl rfl rfl (by first | exact q_build tb rfl rfl rfl rfl | exact q_buildArr tb rfl rfl rfl rfl rfl) ?_
              first | refine L_store tb rfl rfl rfl rfl rfl rfl rfl rfl ?_ | (refine L_front1 ?_; refine L_store tb rfl rfl rfl rfl rfl rfl rfl rfl ?_) | (refine L_front2 ?_; refine L_store tb rfl rfl rfl rfl rfl rfl rfl rfl ?_) | (refine L_front3 ?_; refine L_store tb rfl rfl rfl rfl rfl rfl rfl rfl ?_) | (refine L_front4 ?_; refine L_store tb rfl rfl rfl rfl rfl rfl rfl rfl ?_) | (refine L_front5 ?_; refine L_store tb rfl rfl rfl rfl rfl rfl rfl rfl ?_) | (refine L_front6 ?_; refine L_store tb rfl rfl rfl rfl rfl rfl rfl rfl ?_)
              refine L_q rfl rfl rfl (q_assign rfl) ?_
              refine L_then ?_
              refine C_ret ?_
              have hrd := (rd_0 hkn hpf).trans (rdN_eq (u := 10) (r := (Lib.trimPrefix l [110, 120])) (a := (cut1 47 (Lib.trimPrefix l [110, 120])).1) (b := (cut1 47 (Lib.trimPrefix l [110, 120])).2) rfl (by unfold rdB; rw [if_neg h48]))
              unfold rdG
              rw [hrd, if_neg (fun hh => by rw [hh.1] at h60; exact absurd h60 (by decide))]
              exact ret_of (resCT tb rfl rfl rfl rfl bxo rfl) sub_nil (by intro r hr; cases hr) ⟨rfl, rfl⟩
            · -- t61 False
              skip
              refine L_qg rfl rfl rfl rfl rfl rfl rfl (q_move rfl) ?_
              refine L_qg rfl rfl rfl rfl rfl rfl rfl (q_errV Tryd.underlying144 rfl) ?_
              refine L_q rfl rfl rfl (by first | exact q_pickT rfl rfl | exact q_pickF rfl rfl) ?_
              refine L_q rfl rfl rfl (q_move rfl) ?_
              refine L_bool (d := 65) rfl (fun h63 => ?_) (fun h63 => ?_)
              · -- t65 True
                refine L_skip rfl rfl rfl rfl rfl rfl rfl ?_
                refine L_skip rfl rfl rfl rfl rfl rfl rfl ?_
                refine L_skip rfl rfl rfl rfl rfl rfl rfl ?_
                refine L_q rfl rfl rfl (by first | exact q_pickT rfl rfl | exact q_pickF rfl rfl) ?_
                refine L_q rfl rfl rfl (q_move rfl) ?_
                refine L_skip rfl rfl rfl rfl rfl rfl rfl ?_
                refine L_skip rfl rfl rfl rfl rfl rfl rfl ?_
                refine L_skip rfl rfl rfl rfl rfl rfl rfl ?_
                refine L_q rfl rfl rfl (by first | exact q_pickT rfl rfl | exact q_pickF rfl rfl) ?_
                refine L_then ?_
                refine C_true rfl ?_
                refine C_seq ?_
                refine C_region ?_
                refine L_q rfl rfl rfl (by first | exact q_build tb rfl rfl rfl rfl | exact q_buildArr tb rfl rfl rfl rfl rfl) ?_
                first | refine L_store tb rfl rfl rfl rfl rfl rfl rfl rfl ?_ | (refine L_front1 ?_; refine L_store tb rfl rfl rfl rfl rfl rfl rfl rfl ?_) | (refine L_front2 ?_; refine L_store tb rfl rfl rfl rfl rfl rfl rfl rfl ?_) | (refine L_front3 ?_; refine L_store tb rfl rfl rfl rfl rfl rfl rfl rfl ?_) | (refine L_front4 ?_; refine L_store tb rfl rfl rfl rfl rfl rfl rfl rfl ?_) | (refine L_front5 ?_; refine L_store tb rfl rfl rfl rfl rfl rfl rfl rfl ?_) | (refine L_front6 ?_; refine L_store tb rfl rfl rfl rfl rfl rfl rfl rfl ?_)
                refine L_q rfl rfl rfl (q_assign rfl) ?_
                refine L_then ?_
                refine C_ret ?_
                have hrd := (rd_0 hkn hpf).trans (rdN_eq (u := 10) (r := (Lib.trimPrefix l [110, 120])) (a := (cut1 47 (Lib.trimPrefix l [110, 120])).1) (b := (cut1 47 (Lib.trimPrefix l [110, 120])).2) rfl (by unfold rdB; rw [if_neg h48]))
                unfold rdG
                rw [hrd, if_neg (fun hh => by rw [hh.2.1] at h63; exact absurd h63 (by decide))]
                exact ret_of (resCT tb rfl rfl rfl rfl bxo rfl) sub_nil (by intro r hr; cases hr) ⟨rfl, rfl⟩
              · -- t65 False
                refine L_qg rfl rfl rfl rfl rfl rfl rfl (q_move rfl) ?_
                refine L_callg tb rfl rfl rfl rfl rfl rfl (ct_gas_within (atN (cut1 47 (Lib.trimPrefix l [110, 120])).1) 0 1000) no_ps rfl ?_
                refine L_qg rfl rfl rfl rfl rfl rfl rfl (q_not rfl (by first | exact (rfl : (!true) = false) | exact (rfl : (!false) = true) | exact decide_not.symm | rfl)) ?_
                refine L_q rfl rfl rfl (by first | exact q_pickT rfl rfl | exact q_pickF rfl rfl) ?_
                refine L_q rfl rfl rfl (q_move rfl) ?_
                refine L_dec (d := 70) rfl (fun h67 => ?_) (fun h67 => ?_)
                · -- t70 True
                  refine L_skip rfl rfl rfl rfl rfl rfl rfl ?_
                  refine L_skip rfl rfl rfl rfl rfl rfl rfl ?_
                  refine L_skip rfl rfl rfl rfl rfl rfl rfl ?_
                  refine L_q rfl rfl rfl (by first | exact q_pickT rfl rfl | exact q_pickF rfl rfl) ?_
                  refine L_then ?_
                  refine C_true rfl ?_
                  refine C_seq ?_
                  refine C_region ?_
                  refine L_q rfl rfl rfl (by first | exact q_build tb rfl rfl rfl rfl | exact q_buildArr tb rfl rfl rfl rfl rfl) ?_
                  first | refine L_store tb rfl rfl rfl rfl rfl rfl rfl rfl ?_ | (refine L_front1 ?_; refine L_store tb rfl rfl rfl rfl rfl rfl rfl rfl ?_) | (refine L_front2 ?_; refine L_store tb rfl rfl rfl rfl rfl rfl rfl rfl ?_) | (refine L_front3 ?_; refine L_store tb rfl rfl rfl rfl rfl rfl rfl rfl ?_) | (refine L_front4 ?_; refine L_store tb rfl rfl rfl rfl rfl rfl rfl rfl ?_) | (refine L_front5 ?_; refine L_store tb rfl rfl rfl rfl rfl rfl rfl rfl ?_) | (refine L_front6 ?_; refine L_store tb rfl rfl rfl rfl rfl rfl rfl rfl ?_)
                  refine L_q rfl rfl rfl (q_assign rfl) ?_
                  refine L_then ?_
                  refine C_ret ?_
                  have hrd := (rd_0 hkn hpf).trans (rdN_eq (u := 10) (r := (Lib.trimPrefix l [110, 120])) (a := (cut1 47 (Lib.trimPrefix l [110, 120])).1) (b := (cut1 47 (Lib.trimPrefix l [110, 120])).2) rfl (by unfold rdB; rw [if_neg h48]))
                  unfold rdG
                  rw [hrd, if_neg (fun hh => by omega)]
                  exact ret_of (resCT tb rfl rfl rfl rfl bxo rfl) sub_nil (by intro r hr; cases hr) ⟨rfl, rfl⟩
                · -- t70 False
                  refine L_qg rfl rfl rfl rfl rfl rfl rfl (q_move rfl) ?_
                  refine L_callg tb rfl rfl rfl rfl rfl rfl (ct_gas_within (atN (cut1 47 (Lib.trimPrefix l [110, 120])).2) 0 1000) no_ps rfl ?_
                  refine L_qg rfl rfl rfl rfl rfl rfl rfl (q_not rfl decide_not.symm) ?_
                  refine L_q rfl rfl rfl (by first | exact q_pickT rfl rfl | exact q_pickF rfl rfl) ?_
                  refine L_then ?_
                  refine C_dec rfl (fun h74 => ?_) (fun h74 => ?_)
                  · -- t74 True
                    refine C_seq ?_
                    refine C_region ?_
                    refine L_q rfl rfl rfl (by first | exact q_build tb rfl rfl rfl rfl | exact q_buildArr tb rfl rfl rfl rfl rfl) ?_
                    first | refine L_store tb rfl rfl rfl rfl rfl rfl rfl rfl ?_ | (refine L_front1 ?_; refine L_store tb rfl rfl rfl rfl rfl rfl rfl rfl ?_) | (refine L_front2 ?_; refine L_store tb rfl rfl rfl rfl rfl rfl rfl rfl ?_) | (refine L_front3 ?_; refine L_store tb rfl rfl rfl rfl rfl rfl rfl rfl ?_) | (refine L_front4 ?_; refine L_store tb rfl rfl rfl rfl rfl rfl rfl rfl ?_) | (refine L_front5 ?_; refine L_store tb rfl rfl rfl rfl rfl rfl rfl rfl ?_) | (refine L_front6 ?_; refine L_store tb rfl rfl rfl rfl rfl rfl rfl rfl ?_)
                    refine L_q rfl rfl rfl (q_assign rfl) ?_
                    refine L_then ?_
                    refine C_ret ?_
                    have hrd := (rd_0 hkn hpf).trans (rdN_eq (u := 10) (r := (Lib.trimPrefix l [110, 120])) (a := (cut1 47 (Lib.trimPrefix l [110, 120])).1) (b := (cut1 47 (Lib.trimPrefix l [110, 120])).2) rfl (by unfold rdB; rw [if_neg h48]))
                    unfold rdG
                    rw [hrd, if_neg (fun hh => by omega)]
                    exact ret_of (resCT tb rfl rfl rfl rfl bxo rfl) sub_nil (by intro r hr; cases hr) ⟨rfl, rfl⟩
                  · -- t74 False
                    refine C_skip_then ?_
                    refine C_seq ?_
                    refine C_region ?_
                    refine L_q rfl rfl rfl (q_move rfl) ?_
                    refine L_q rfl rfl rfl (q_field tb rfl rfl rfl) ?_
                    refine L_q rfl rfl rfl (q_load tb rfl rfl bxo rfl) ?_
                    refine L_q rfl rfl rfl (q_mul rfl rfl (by first | exact IntWalk.i64_in _ (by omega) | rfl)) ?_
                    refine L_q rfl rfl rfl (q_move rfl) ?_
                    refine L_q rfl rfl rfl (q_field tb rfl rfl rfl) ?_
                    refine L_q rfl rfl rfl (q_load tb rfl rfl bxo rfl) ?_
                    refine L_q rfl rfl rfl (q_mul rfl rfl (by first | exact IntWalk.i64_in _ (by omega) | rfl)) ?_
                    refine L_q rfl rfl rfl (by first | exact q_build tb rfl rfl rfl rfl | exact q_buildArr tb rfl rfl rfl rfl rfl) ?_
                    first | refine L_store tb rfl rfl rfl rfl rfl rfl rfl rfl ?_ | (refine L_front1 ?_; refine L_store tb rfl rfl rfl rfl rfl rfl rfl rfl ?_) | (refine L_front2 ?_; refine L_store tb rfl rfl rfl rfl rfl rfl rfl rfl ?_) | (refine L_front3 ?_; refine L_store tb rfl rfl rfl rfl rfl rfl rfl rfl ?_) | (refine L_front4 ?_; refine L_store tb rfl rfl rfl rfl rfl rfl rfl rfl ?_) | (refine L_front5 ?_; refine L_store tb rfl rfl rfl rfl rfl rfl rfl rfl ?_) | (refine L_front6 ?_; refine L_store tb rfl rfl rfl rfl rfl rfl rfl rfl ?_)
                    refine L_q rfl rfl rfl (q_assign rfl) ?_
                    refine L_then ?_
                    refine C_ret ?_
                    have hrd := (rd_0 hkn hpf).trans (rdN_eq (u := 10) (r := (Lib.trimPrefix l [110, 120])) (a := (cut1 47 (Lib.trimPrefix l [110, 120])).1) (b := (cut1 47 (Lib.trimPrefix l [110, 120])).2) rfl (by unfold rdB; rw [if_neg h48]))
                    unfold rdG
                    rw [hrd, if_pos ⟨h60, h63, by omega, by omega⟩]
                    exact ret_of (resCT tb rfl rfl rfl rfl bxo rfl) sub_nil (by intro r hr; cases hr) ⟨rfl, rfl⟩
      · -- case 1
        refine C_skip_then ?_
        refine C_seq ?_
        refine C_block ?_
        refine C_seq ?_
        refine C_region ?_
        refine L_q rfl rfl rfl (q_indexVA tb rfl rfl rfl rfl (by decide) (by decide) (ds := [.string (bs [116, 120]), .int .i64 10]) rfl) ?_
        refine L_alloc tb rfl rfl fun g7 => ?_
        first | refine L_store tb rfl rfl rfl rfl rfl rfl rfl rfl ?_ | (refine L_front1 ?_; refine L_store tb rfl rfl rfl rfl rfl rfl rfl rfl ?_) | (refine L_front2 ?_; refine L_store tb rfl rfl rfl rfl rfl rfl rfl rfl ?_) | (refine L_front3 ?_; refine L_store tb rfl rfl rfl rfl rfl rfl rfl rfl ?_) | (refine L_front4 ?_; refine L_store tb rfl rfl rfl rfl rfl rfl rfl rfl ?_) | (refine L_front5 ?_; refine L_store tb rfl rfl rfl rfl rfl rfl rfl rfl ?_) | (refine L_front6 ?_; refine L_store tb rfl rfl rfl rfl rfl rfl rfl rfl ?_)
        refine L_then ?_
        refine C_seq ?_
        refine C_region ?_
        refine L_q rfl rfl rfl (q_move rfl) ?_
        refine L_q rfl rfl rfl (q_field tb rfl rfl rfl) ?_
        refine L_q rfl rfl rfl (q_load tb rfl rfl bxo rfl) ?_
        refine L_call tb rfl rfl (ct_CutPrefixQ l [116, 120]) no_ps rfl ?_
        refine L_q rfl rfl rfl (q_move rfl) ?_
        refine L_q rfl rfl rfl (q_ext0 rfl) ?_
        refine L_q rfl rfl rfl (q_ext1 rfl) ?_
        refine L_q rfl rfl rfl (q_assign rfl) ?_
        refine L_q rfl rfl rfl (q_assign rfl) ?_
        refine L_then ?_
        refine C_seq ?_
        refine C_seq ?_
        refine C_region ?_
        refine L_q rfl rfl rfl (q_move rfl) ?_
        refine L_q rfl rfl rfl (q_not rfl (by first | exact (rfl : (!true) = false) | exact (rfl : (!false) = true) | exact decide_not.symm | rfl)) ?_
        refine L_then ?_
        refine C_bool rfl (fun hpf => ?_) (fun hpf => ?_)
        · -- t40 True
          rw [Bool.not_eq_true'] at hpf
          refine C_exit ?_
          change C Tryd.prog _ _ _ _ _ _ _
          refine C_region ?_
          refine L_q rfl rfl rfl (q_add rfl rfl (by first | exact IntWalk.i64_in _ (by omega) | rfl)) ?_
          refine L_q rfl rfl rfl (q_move rfl) ?_
          refine L_end ?_
          exact fun ac_ wo_ hs_ => ⟨2, ⟨by decide, fun _ => hp1 (by decide), fun _ => hpf, fun h => absurd h (by decide)⟩, (by decide), hs_.weak ⟨rfl, rfl, rfl, rfl, trivial⟩ (fun h => h.pk (by repeat (first | with_reducible exact pk_nil | refine pk_box rfl ?_ | refine pk_rd rfl ?_ | refine pk_sl rfl ?_ | with_reducible refine pk_app ?_ | with_reducible refine pk_app0 ?_ | with_reducible refine pk_app0L ?_ | with_reducible exact pk_tl | refine pk_var ?_)))⟩
        · -- t40 False
          rw [Bool.not_eq_false'] at hpf
          refine C_skip_then ?_
          refine C_seq ?_
          refine C_region ?_
          refine L_q rfl rfl rfl (q_move rfl) ?_
          refine L_call tb rfl rfl (ct_CutQ (Lib.trimPrefix l [116, 120]) (by have := trim_len l [116, 120]; omega)) no_ps rfl ?_
          refine L_q rfl rfl rfl (q_move rfl) ?_
          refine L_q rfl rfl rfl (q_ext0 rfl) ?_
          refine L_q rfl rfl rfl (q_ext1 rfl) ?_
          refine L_q rfl rfl rfl (q_ext2 rfl) ?_
          refine L_q rfl rfl rfl (q_assign rfl) ?_
          refine L_q rfl rfl rfl (q_assign rfl) ?_
          refine L_q rfl rfl rfl (q_assign rfl) ?_
          refine L_then ?_
          refine C_seq ?_
          refine C_seq ?_
          refine C_region ?_
          refine L_q rfl rfl rfl (q_move rfl) ?_
          refine L_q rfl rfl rfl (t_eq (a := (cut1 47 (Lib.trimPrefix l [116, 120])).2) (b := []) rfl rfl) ?_
          refine L_then ?_
          refine C_dec rfl (fun h48 => ?_) (fun h48 => ?_)
          · -- t48 True
            refine C_region ?_
            refine L_q rfl rfl rfl (q_assign rfl) ?_
            refine L_then ?_
            refine C_seq ?_
            refine C_region ?_
            refine L_q rfl rfl rfl (q_move rfl) ?_
            refine L_lo rfl rfl rfl (lo_callQ tb stQ hQ rfl rfl (ct_AtoiQ (cut1 47 (Lib.trimPrefix l [116, 120])).1 (by have := trim_len l [116, 120]; have := (cut1_len 47 (Lib.trimPrefix l [116, 120])).1; omega)) no_ps AtP_sinks) ?_
            rintro _ _ ⟨N51, rfl, rfl⟩
            refine L_q rfl rfl rfl (q_move rfl) ?_
            refine L_q rfl rfl rfl (q_ext0 rfl) ?_
            refine L_q rfl rfl rfl (q_ext1 rfl) ?_
            refine L_q rfl rfl rfl (q_assign rfl) ?_
            refine L_q rfl rfl rfl (q_assign rfl) ?_
            refine L_then ?_
            refine C_seq ?_
            refine C_region ?_
            refine L_q rfl rfl rfl (q_move rfl) ?_
            refine L_lo rfl rfl rfl (lo_callQ tb stQ hQ rfl rfl (ct_AtoiQ [48] (by have := trim_len l [116, 120]; have := (cut1_len 47 (Lib.trimPrefix l [116, 120])).2; first | omega | simp)) no_ps AtP_sinks) ?_
            rintro _ _ ⟨N56, rfl, rfl⟩
            refine L_q rfl rfl rfl (q_move rfl) ?_
            refine L_q rfl rfl rfl (q_ext0 rfl) ?_
            refine L_q rfl rfl rfl (q_ext1 rfl) ?_
            refine L_q rfl rfl rfl (q_assign rfl) ?_
            refine L_q rfl rfl rfl (q_assign rfl) ?_
            refine L_then ?_
            refine C_seq ?_
            refine C_seq ?_
            refine C_region ?_
            refine L_q rfl rfl rfl (q_move rfl) ?_
            refine L_q rfl rfl rfl (q_errV Tryd.underlying144 rfl) ?_
            refine L_q rfl rfl rfl (q_move rfl) ?_
            refine L_bool (d := 61) rfl (fun h60 => ?_) (fun h60 => ?_)
            · -- t61 True
              refine L_skip rfl rfl rfl rfl rfl rfl rfl ?_
              refine L_skip rfl rfl rfl rfl rfl rfl rfl ?_
              refine L_q rfl rfl rfl (by first | exact q_pickT rfl rfl | exact q_pickF rfl rfl) ?_
              refine L_q rfl rfl rfl (q_move rfl) ?_
              refine L_skip rfl rfl rfl rfl rfl rfl rfl ?_
              refine L_skip rfl rfl rfl rfl rfl rfl rfl ?_
              refine L_skip rfl rfl rfl rfl rfl rfl rfl ?_
              refine L_q rfl rfl rfl (by first | exact q_pickT rfl rfl | exact q_pickF rfl rfl) ?_
              refine L_q rfl rfl rfl (q_move rfl) ?_
              refine L_skip rfl rfl rfl rfl rfl rfl rfl ?_
              refine L_skip rfl rfl rfl rfl rfl rfl rfl ?_
              refine L_skip rfl rfl rfl rfl rfl rfl rfl ?_
              refine L_q rfl rfl rfl (by first | exact q_pickT rfl rfl | exact q_pickF rfl rfl) ?_
              refine L_then ?_
              refine C_true rfl ?_
              refine C_seq ?_
              refine C_region ?_
              refine L_q rfl rfl rfl (by first | exact q_build tb rfl rfl rfl rfl | exact q_buildArr tb rfl rfl rfl rfl rfl) ?_
              first | refine L_store tb rfl rfl rfl rfl rfl rfl rfl rfl ?_ | (refine L_front1 ?_; refine L_store tb rfl rfl rfl rfl rfl rfl rfl rfl ?_) | (refine L_front2 ?_; refine L_store tb rfl rfl rfl rfl rfl rfl rfl rfl ?_) | (refine L_front3 ?_; refine L_store tb rfl rfl rfl rfl rfl rfl rfl rfl ?_) | (refine L_front4 ?_; refine L_store tb rfl rfl rfl rfl rfl rfl rfl rfl ?_) | (refine L_front5 ?_; refine L_store tb rfl rfl rfl rfl rfl rfl rfl rfl ?_) | (refine L_front6 ?_; refine L_store tb rfl rfl rfl rfl rfl rfl rfl rfl ?_)
              refine L_q rfl rfl rfl (q_assign rfl) ?_
              refine L_then ?_
              refine C_ret ?_
              have hrd := (rd_1 hkn (hp1 (by decide)) hpf).trans (rdN_eq (u := 10) (r := (Lib.trimPrefix l [116, 120])) (a := (cut1 47 (Lib.trimPrefix l [116, 120])).1) (b := [48]) rfl (by unfold rdB; rw [if_pos h48]))
              unfold rdG
              rw [hrd, if_neg (fun hh => by rw [hh.1] at h60; exact absurd h60 (by decide))]
              exact ret_of (resCT tb rfl rfl rfl rfl bxo rfl) sub_nil (by intro r hr; cases hr) ⟨rfl, rfl⟩
            · -- t61 False
              skip
              refine L_qg rfl rfl rfl rfl rfl rfl rfl (q_move rfl) ?_
              refine L_qg rfl rfl rfl rfl rfl rfl rfl (q_errV Tryd.underlying144 rfl) ?_
              refine L_q rfl rfl rfl (by first | exact q_pickT rfl rfl | exact q_pickF rfl rfl) ?_
              refine L_q rfl rfl rfl (q_move rfl) ?_
              refine L_bool (d := 65) rfl (fun h63 => ?_) (fun h63 => ?_)
              · -- t65 True
                refine L_skip rfl rfl rfl rfl rfl rfl rfl ?_
                refine L_skip rfl rfl rfl rfl rfl rfl rfl ?_
                refine L_skip rfl rfl rfl rfl rfl rfl rfl ?_
                refine L_q rfl rfl rfl (by first | exact q_pickT rfl rfl | exact q_pickF rfl rfl) ?_
                refine L_q rfl rfl rfl (q_move rfl) ?_
                refine L_skip rfl rfl rfl rfl rfl rfl rfl ?_
                refine L_skip rfl rfl rfl rfl rfl rfl rfl ?_
                refine L_skip rfl rfl rfl rfl rfl rfl rfl ?_
                refine L_q rfl rfl rfl (by first | exact q_pickT rfl rfl | exact q_pickF rfl rfl) ?_
                refine L_then ?_
                refine C_true rfl ?_
                refine C_seq ?_
                refine C_region ?_
                refine L_q rfl rfl rfl (by first | exact q_build tb rfl rfl rfl rfl | exact q_buildArr tb rfl rfl rfl rfl rfl) ?_
                first | refine L_store tb rfl rfl rfl rfl rfl rfl rfl rfl ?_ | (refine L_front1 ?_; refine L_store tb rfl rfl rfl rfl rfl rfl rfl rfl ?_) | (refine L_front2 ?_; refine L_store tb rfl rfl rfl rfl rfl rfl rfl rfl ?_) | (refine L_front3 ?_; refine L_store tb rfl rfl rfl rfl rfl rfl rfl rfl ?_) | (refine L_front4 ?_; refine L_store tb rfl rfl rfl rfl rfl rfl rfl rfl ?_) | (refine L_front5 ?_; refine L_store tb rfl rfl rfl rfl rfl rfl rfl rfl ?_) | (refine L_front6 ?_; refine L_store tb rfl rfl rfl rfl rfl rfl rfl rfl ?_)
                refine L_q rfl rfl rfl (q_assign rfl) ?_
                refine L_then ?_
                refine C_ret ?_
                have hrd := (rd_1 hkn (hp1 (by decide)) hpf).trans (rdN_eq (u := 10) (r := (Lib.trimPrefix l [116, 120])) (a := (cut1 47 (Lib.trimPrefix l [116, 120])).1) (b := [48]) rfl (by unfold rdB; rw [if_pos h48]))
                unfold rdG
                rw [hrd, if_neg (fun hh => by rw [hh.2.1] at h63; exact absurd h63 (by decide))]
                exact ret_of (resCT tb rfl rfl rfl rfl bxo rfl) sub_nil (by intro r hr; cases hr) ⟨rfl, rfl⟩
              · -- t65 False
                refine L_qg rfl rfl rfl rfl rfl rfl rfl (q_move rfl) ?_
                refine L_callg tb rfl rfl rfl rfl rfl rfl (ct_gas_within (atN (cut1 47 (Lib.trimPrefix l [116, 120])).1) 0 1000) no_ps rfl ?_
                refine L_qg rfl rfl rfl rfl rfl rfl rfl (q_not rfl (by first | exact (rfl : (!true) = false) | exact (rfl : (!false) = true) | exact decide_not.symm | rfl)) ?_
                refine L_q rfl rfl rfl (by first | exact q_pickT rfl rfl | exact q_pickF rfl rfl) ?_
                refine L_q rfl rfl rfl (q_move rfl) ?_
                refine L_dec (d := 70) rfl (fun h67 => ?_) (fun h67 => ?_)
                · -- t70 True
                  refine L_skip rfl rfl rfl rfl rfl rfl rfl ?_
                  refine L_skip rfl rfl rfl rfl rfl rfl rfl ?_
                  refine L_skip rfl rfl rfl rfl rfl rfl rfl ?_
                  refine L_q rfl rfl rfl (by first | exact q_pickT rfl rfl | exact q_pickF rfl rfl) ?_
                  refine L_then ?_
                  refine C_true rfl ?_
                  refine C_seq ?_
                  refine C_region ?_
                  refine L_q rfl rfl rfl (by first | exact q_build tb rfl rfl rfl rfl | exact q_buildArr tb rfl rfl rfl rfl rfl) ?_
                  first | refine L_store tb rfl rfl rfl rfl rfl rfl rfl rfl ?_ | (refine L_front1 ?_; refine L_store tb rfl rfl rfl rfl rfl rfl rfl rfl ?_) | (refine L_front2 ?_; refine L_store tb rfl rfl rfl rfl rfl rfl rfl rfl ?_) | (refine L_front3 ?_; refine L_store tb rfl rfl rfl rfl rfl rfl rfl rfl ?_) | (refine L_front4 ?_; refine L_store tb rfl rfl rfl rfl rfl rfl rfl rfl ?_) | (refine L_front5 ?_; refine L_store tb rfl rfl rfl rfl rfl rfl rfl rfl ?_) | (refine L_front6 ?_; refine L_store tb rfl rfl rfl rfl rfl rfl rfl rfl ?_)
                  refine L_q rfl rfl rfl (q_assign rfl) ?_
                  refine L_then ?_
                  refine C_ret ?_
                  have hrd := (rd_1 hkn (hp1 (by decide)) hpf).trans (rdN_eq (u := 10) (r := (Lib.trimPrefix l [116, 120])) (a := (cut1 47 (Lib.trimPrefix l [116, 120])).1) (b := [48]) rfl (by unfold rdB; rw [if_pos h48]))
                  unfold rdG
                  rw [hrd, if_neg (fun hh => by omega)]
                  exact ret_of (resCT tb rfl rfl rfl rfl bxo rfl) sub_nil (by intro r hr; cases hr) ⟨rfl, rfl⟩
                · -- t70 False
                  refine L_qg rfl rfl rfl rfl rfl rfl rfl (q_move rfl) ?_
                  refine L_callg tb rfl rfl rfl rfl rfl rfl (ct_gas_within (atN [48]) 0 1000) no_ps rfl ?_
                  refine L_qg rfl rfl rfl rfl rfl rfl rfl (q_not rfl decide_not.symm) ?_
                  refine L_q rfl rfl rfl (by first | exact q_pickT rfl rfl | exact q_pickF rfl rfl) ?_
                  refine L_then ?_
                  refine C_dec rfl (fun h74 => ?_) (fun h74 => ?_)
                  · -- t74 True
                    refine C_seq ?_
                    refine C_region ?_
                    refine L_q rfl rfl rfl (by first | exact q_build tb rfl rfl rfl rfl | exact q_buildArr tb rfl rfl rfl rfl rfl) ?_
                    first | refine L_store tb rfl rfl rfl rfl rfl rfl rfl rfl ?_ | (refine L_front1 ?_; refine L_store tb rfl rfl rfl rfl rfl rfl rfl rfl ?_) | (refine L_front2 ?_; refine L_store tb rfl rfl rfl rfl rfl rfl rfl rfl ?_) | (refine L_front3 ?_; refine L_store tb rfl rfl rfl rfl rfl rfl rfl rfl ?_) | (refine L_front4 ?_; refine L_store tb rfl rfl rfl rfl rfl rfl rfl rfl ?_) | (refine L_front5 ?_; refine L_store tb rfl rfl rfl rfl rfl rfl rfl rfl ?_) | (refine L_front6 ?_; refine L_store tb rfl rfl rfl rfl rfl rfl rfl rfl ?_)
                    refine L_q rfl rfl rfl (q_assign rfl) ?_
                    refine L_then ?_
                    refine C_ret ?_
                    have hrd := (rd_1 hkn (hp1 (by decide)) hpf).trans (rdN_eq (u := 10) (r := (Lib.trimPrefix l [116, 120])) (a := (cut1 47 (Lib.trimPrefix l [116, 120])).1) (b := [48]) rfl (by unfold rdB; rw [if_pos h48]))
                    unfold rdG
                    rw [hrd, if_neg (fun hh => by omega)]
                    exact ret_of (resCT tb rfl rfl rfl rfl bxo rfl) sub_nil (by intro r hr; cases hr) ⟨rfl, rfl⟩
                  · -- t74 False
                    refine C_skip_then ?_
                    refine C_seq ?_
                    refine C_region ?_
                    refine L_q rfl rfl rfl (q_move rfl) ?_
                    refine L_q rfl rfl rfl (q_field tb rfl rfl rfl) ?_
                    refine L_q rfl rfl rfl (q_load tb rfl rfl bxo rfl) ?_
                    refine L_q rfl rfl rfl (q_mul rfl rfl (by first | exact IntWalk.i64_in _ (by omega) | rfl)) ?_
                    refine L_q rfl rfl rfl (q_move rfl) ?_
                    refine L_q rfl rfl rfl (q_field tb rfl rfl rfl) ?_
                    refine L_q rfl rfl rfl (q_load tb rfl rfl bxo rfl) ?_
                    refine L_q rfl rfl rfl (q_mul rfl rfl (by first | exact IntWalk.i64_in _ (by omega) | rfl)) ?_
                    refine L_q rfl rfl rfl (by first | exact q_build tb rfl rfl rfl rfl | exact q_buildArr tb rfl rfl rfl rfl rfl) ?_
                    first | refine L_store tb rfl rfl rfl rfl rfl rfl rfl rfl ?_ | (refine L_front1 ?_; refine L_store tb rfl rfl rfl rfl rfl rfl rfl rfl ?_) | (refine L_front2 ?_; refine L_store tb rfl rfl rfl rfl rfl rfl rfl rfl ?_) | (refine L_front3 ?_; refine L_store tb rfl rfl rfl rfl rfl rfl rfl rfl ?_) | (refine L_front4 ?_; refine L_store tb rfl rfl rfl rfl rfl rfl rfl rfl ?_) | (refine L_front5 ?_; refine L_store tb rfl rfl rfl rfl rfl rfl rfl rfl ?_) | (refine L_front6 ?_; refine L_store tb rfl rfl rfl rfl rfl rfl rfl rfl ?_)
                    refine L_q rfl rfl rfl (q_assign rfl) ?_
                    refine L_then ?_
                    refine C_ret ?_
                    have hrd := (rd_1 hkn (hp1 (by decide)) hpf).trans (rdN_eq (u := 10) (r := (Lib.trimPrefix l [116, 120])) (a := (cut1 47 (Lib.trimPrefix l [116, 120])).1) (b := [48]) rfl (by unfold rdB; rw [if_pos h48]))
                    unfold rdG
                    rw [hrd, if_pos ⟨h60, h63, by omega, by omega⟩]
                    exact ret_of (resCT tb rfl rfl rfl rfl bxo rfl) sub_nil (by intro r hr; cases hr) ⟨rfl, rfl⟩
          · -- t48 False
            refine C_skip_then ?_
            refine C_seq ?_
            refine C_region ?_
            refine L_q rfl rfl rfl (q_move rfl) ?_
            refine L_lo rfl rfl rfl (lo_callQ tb stQ hQ rfl rfl (ct_AtoiQ (cut1 47 (Lib.trimPrefix l [116, 120])).1 (by have := trim_len l [116, 120]; have := (cut1_len 47 (Lib.trimPrefix l [116, 120])).1; omega)) no_ps AtP_sinks) ?_
            rintro _ _ ⟨N51, rfl, rfl⟩
            refine L_q rfl rfl rfl (q_move rfl) ?_
            refine L_q rfl rfl rfl (q_ext0 rfl) ?_
            refine L_q rfl rfl rfl (q_ext1 rfl) ?_
            refine L_q rfl rfl rfl (q_assign rfl) ?_
            refine L_q rfl rfl rfl (q_assign rfl) ?_
            refine L_then ?_
            refine C_seq ?_
            refine C_region ?_
            refine L_q rfl rfl rfl (q_move rfl) ?_
            refine L_lo rfl rfl rfl (lo_callQ tb stQ hQ rfl rfl (ct_AtoiQ (cut1 47 (Lib.trimPrefix l [116, 120])).2 (by have := trim_len l [116, 120]; have := (cut1_len 47 (Lib.trimPrefix l [116, 120])).2; first | omega | simp)) no_ps AtP_sinks) ?_
            rintro _ _ ⟨N56, rfl, rfl⟩
            refine L_q rfl rfl rfl (q_move rfl) ?_
            refine L_q rfl rfl rfl (q_ext0 rfl) ?_
            refine L_q rfl rfl rfl (q_ext1 rfl) ?_
            refine L_q rfl rfl rfl (q_assign rfl) ?_
            refine L_q rfl rfl rfl (q_assign rfl) ?_
            refine L_then ?_
            refine C_seq ?_
            refine C_seq ?_
            refine C_region ?_
            refine L_q rfl rfl rfl (q_move rfl) ?_
            refine L_q rfl rfl rfl (q_errV Tryd.underlying144 rfl) ?_
            refine L_q rfl rfl rfl (q_move rfl) ?_
            refine L_bool (d := 61) rfl (fun h60 => ?_) (fun h60 => ?_)
            · -- t61 True
              refine L_skip rfl rfl rfl rfl rfl rfl rfl ?_
              refine L_skip rfl rfl rfl rfl rfl rfl rfl ?_
              refine L_q rfl rfl rfl (by first | exact q_pickT rfl rfl | exact q_pickF rfl rfl) ?_
              refine L_q rfl rfl rfl (q_move rfl) ?_
              refine L_skip rfl rfl rfl rfl rfl rfl rfl ?_
              refine L_skip rfl rfl rfl rfl rfl rfl rfl ?_
              refine L_skip rfl rfl rfl rfl rfl rfl rfl ?_
              refine L_q rfl rfl rfl (by first | exact q_pickT rfl rfl | exact q_pickF rfl rfl) ?_
              refine L_q rfl rfl rfl (q_move rfl) ?_
              refine L_skip rfl rfl rfl rfl rfl rfl rfl ?_
              refine L_skip rfl rfl rfl rfl rfl rfl rfl ?_
              refine L_skip rfl rfl rfl rfl rfl rfl rfl ?_
              refine L_q rfl rfl rfl (by first | exact q_pickT rfl rfl | exact q_pickF rfl rfl) ?_
              refine L_then ?_
              refine C_true rfl ?_
              refine C_seq ?_
              refine C_region ?_
              refine L_q rfl rfl rfl (by first | exact q_build tb rfl rfl rfl rfl | exact q_buildArr tb rfl rfl rfl rfl rfl) ?_
              first | refine L_store tb rfl rfl rfl rfl rfl rfl rfl rfl ?_ | (refine L_front1 ?_; refine L_store tb rfl rfl rfl rfl rfl rfl rfl rfl ?_) | (refine L_front2 ?_; refine L_store tb rfl rfl rfl rfl rfl rfl rfl rfl ?_) | (refine L_front3 ?_; refine L_store tb rfl rfl rfl rfl rfl rfl rfl rfl ?_) | (refine L_front4 ?_; refine L_store tb rfl rfl rfl rfl rfl rfl rfl rfl ?_) | (refine L_front5 ?_; refine L_store tb rfl rfl rfl rfl rfl rfl rfl rfl ?_) | (refine L_front6 ?_; refine L_store tb rfl rfl rfl rfl rfl rfl rfl rfl ?_)
              refine L_q rfl rfl rfl (q_assign rfl) ?_
              refine L_then ?_
              refine C_ret ?_
              have hrd := (rd_1 hkn (hp1 (by decide)) hpf).trans (rdN_eq (u := 10) (r := (Lib.trimPrefix l [116, 120])) (a := (cut1 47 (Lib.trimPrefix l [116, 120])).1) (b := (cut1 47 (Lib.trimPrefix l [116, 120])).2) rfl (by unfold rdB; rw [if_neg h48]))
              unfold rdG
              rw [hrd, if_neg (fun hh => by rw [hh.1] at h60; exact absurd h60 (by decide))]
              exact ret_of (resCT tb rfl rfl rfl rfl bxo rfl) sub_nil (by intro r hr; cases hr) ⟨rfl, rfl⟩
            · -- t61 False
              skip
              refine L_qg rfl rfl rfl rfl rfl rfl rfl (q_move rfl) ?_
              refine L_qg rfl rfl rfl rfl rfl rfl rfl (q_errV Tryd.underlying144 rfl) ?_
              refine L_q rfl rfl rfl (by first | exact q_pickT rfl rfl | exact q_pickF rfl rfl) ?_
              refine L_q rfl rfl rfl (q_move rfl) ?_
              refine L_bool (d := 65) rfl (fun h63 => ?_) (fun h63 => ?_)
              · -- t65 True
                refine L_skip rfl rfl rfl rfl rfl rfl rfl ?_
                refine L_skip rfl rfl rfl rfl rfl rfl rfl ?_
                refine L_skip rfl rfl rfl rfl rfl rfl rfl ?_
                refine L_q rfl rfl rfl (by first | exact q_pickT rfl rfl | exact q_pickF rfl rfl) ?_
                refine L_q rfl rfl rfl (q_move rfl) ?_
                refine L_skip rfl rfl rfl rfl rfl rfl rfl ?_
                refine L_skip rfl rfl rfl rfl rfl rfl rfl ?_
                refine L_skip rfl rfl rfl rfl rfl rfl rfl ?_
                refine L_q rfl rfl rfl (by first | exact q_pickT rfl rfl | exact q_pickF rfl rfl) ?_
                refine L_then ?_
                refine C_true rfl ?_
                refine C_seq ?_
                refine C_region ?_
                refine L_q rfl rfl rfl (by first | exact q_build tb rfl rfl rfl rfl | exact q_buildArr tb rfl rfl rfl rfl rfl) ?_
                first | refine L_store tb rfl rfl rfl rfl rfl rfl rfl rfl ?_ | (refine L_front1 ?_; refine L_store tb rfl rfl rfl rfl rfl rfl rfl rfl ?_) | (refine L_front2 ?_; refine L_store tb rfl rfl rfl rfl rfl rfl rfl rfl ?_) | (refine L_front3 ?_; refine L_store tb rfl rfl rfl rfl rfl rfl rfl rfl ?_) | (refine L_front4 ?_; refine L_store tb rfl rfl rfl rfl rfl rfl rfl rfl ?_) | (refine L_front5 ?_; refine L_store tb rfl rfl rfl rfl rfl rfl rfl rfl ?_) | (refine L_front6 ?_; refine L_store tb rfl rfl rfl rfl rfl rfl rfl rfl ?_)
                refine L_q rfl rfl rfl (q_assign rfl) ?_
                refine L_then ?_
                refine C_ret ?_
                have hrd := (rd_1 hkn (hp1 (by decide)) hpf).trans (rdN_eq (u := 10) (r := (Lib.trimPrefix l [116, 120])) (a := (cut1 47 (Lib.trimPrefix l [116, 120])).1) (b := (cut1 47 (Lib.trimPrefix l [116, 120])).2) rfl (by unfold rdB; rw [if_neg h48]))
                unfold rdG
                rw [hrd, if_neg (fun hh => by rw [hh.2.1] at h63; exact absurd h63 (by decide))]
                exact ret_of (resCT tb rfl rfl rfl rfl bxo rfl) sub_nil (by intro r hr; cases hr) ⟨rfl, rfl⟩
              · -- t65 False
                refine L_qg rfl rfl rfl rfl rfl rfl rfl (q_move rfl) ?_
                refine L_callg tb rfl rfl rfl rfl rfl rfl (ct_gas_within (atN (cut1 47 (Lib.trimPrefix l [116, 120])).1) 0 1000) no_ps rfl ?_
                refine L_qg rfl rfl rfl rfl rfl rfl rfl (q_not rfl (by first | exact (rfl : (!true) = false) | exact (rfl : (!false) = true) | exact decide_not.symm | rfl)) ?_
                refine L_q rfl rfl rfl (by first | exact q_pickT rfl rfl | exact q_pickF rfl rfl) ?_
                refine L_q rfl rfl rfl (q_move rfl) ?_
                refine L_dec (d := 70) rfl (fun h67 => ?_) (fun h67 => ?_)
                · -- t70 True
                  refine L_skip rfl rfl rfl rfl rfl rfl rfl ?_
                  refine L_skip rfl rfl rfl rfl rfl rfl rfl ?_
                  refine L_skip rfl rfl rfl rfl rfl rfl rfl ?_
                  refine L_q rfl rfl rfl (by first | exact q_pickT rfl rfl | exact q_pickF rfl rfl) ?_
                  refine L_then ?_
                  refine C_true rfl ?_
                  refine C_seq ?_
                  refine C_region ?_
                  refine L_q rfl rfl rfl (by first | exact q_build tb rfl rfl rfl rfl | exact q_buildArr tb rfl rfl rfl rfl rfl) ?_
                  first | refine L_store tb rfl rfl rfl rfl rfl rfl rfl rfl ?_ | (refine L_front1 ?_; refine L_store tb rfl rfl rfl rfl rfl rfl rfl rfl ?_) | (refine L_front2 ?_; refine L_store tb rfl rfl rfl rfl rfl rfl rfl rfl ?_) | (refine L_front3 ?_; refine L_store tb rfl rfl rfl rfl rfl rfl rfl rfl ?_) | (refine L_front4 ?_; refine L_store tb rfl rfl rfl rfl rfl rfl rfl rfl ?_) | (refine L_front5 ?_; refine L_store tb rfl rfl rfl rfl rfl rfl rfl rfl ?_) | (refine L_front6 ?_; refine L_store tb rfl rfl rfl rfl rfl rfl rfl rfl ?_)
                  refine L_q rfl rfl rfl (q_assign rfl) ?_
                  refine L_then ?_
                  refine C_ret ?_
                  have hrd := (rd_1 hkn (hp1 (by decide)) hpf).trans (rdN_eq (u := 10) (r := (Lib.trimPrefix l [116, 120])) (a := (cut1 47 (Lib.trimPrefix l [116, 120])).1) (b := (cut1 47 (Lib.trimPrefix l [116, 120])).2) rfl (by unfold rdB; rw [if_neg h48]))
                  unfold rdG
                  rw [hrd, if_neg (fun hh => by omega)]
                  exact ret_of (resCT tb rfl rfl rfl rfl bxo rfl) sub_nil (by intro r hr; cases hr) ⟨rfl, rfl⟩
                · -- t70 False
                  refine L_qg rfl rfl rfl rfl rfl rfl rfl (q_move rfl) ?_
                  refine L_callg tb rfl rfl rfl rfl rfl rfl (ct_gas_within (atN (cut1 47 (Lib.trimPrefix l [116, 120])).2) 0 1000) no_ps rfl ?_
                  refine L_qg rfl rfl rfl rfl rfl rfl rfl (q_not rfl decide_not.symm) ?_
                  refine L_q rfl rfl rfl (by first | exact q_pickT rfl rfl | exact q_pickF rfl rfl) ?_
                  refine L_then ?_
                  refine C_dec rfl (fun h74 => ?_) (fun h74 => ?_)
                  · -- t74 True
                    refine C_seq ?_
                    refine C_region ?_
                    refine L_q rfl rfl rfl (by first | exact q_build tb rfl rfl rfl rfl | exact q_buildArr tb rfl rfl rfl rfl rfl) ?_
                    first | refine L_store tb rfl rfl rfl rfl rfl rfl rfl rfl ?_ | (refine L_front1 ?_; refine L_store tb rfl rfl rfl rfl rfl rfl rfl rfl ?_) | (refine L_front2 ?_; refine L_store tb rfl rfl rfl rfl rfl rfl rfl rfl ?_) | (refine L_front3 ?_; refine L_store tb rfl rfl rfl rfl rfl rfl rfl rfl ?_) | (refine L_front4 ?_; refine L_store tb rfl rfl rfl rfl rfl rfl rfl rfl ?_) | (refine L_front5 ?_; refine L_store tb rfl rfl rfl rfl rfl rfl rfl rfl ?_) | (refine L_front6 ?_; refine L_store tb rfl rfl rfl rfl rfl rfl rfl rfl ?_)
                    refine L_q rfl rfl rfl (q_assign rfl) ?_
                    refine L_then ?_
                    refine C_ret ?_
                    have hrd := (rd_1 hkn (hp1 (by decide)) hpf).trans (rdN_eq (u := 10) (r := (Lib.trimPrefix l [116, 120])) (a := (cut1 47 (Lib.trimPrefix l [116, 120])).1) (b := (cut1 47 (Lib.trimPrefix l [116, 120])).2) rfl (by unfold rdB; rw [if_neg h48]))
                    unfold rdG
                    rw [hrd, if_neg (fun hh => by omega)]
                    exact ret_of (resCT tb rfl rfl rfl rfl bxo rfl) sub_nil (by intro r hr; cases hr) ⟨rfl, rfl⟩
                  · -- t74 False
                    refine C_skip_then ?_
                    refine C_seq ?_
                    refine C_region ?_
                    refine L_q rfl rfl rfl (q_move rfl) ?_
                    refine L_q rfl rfl rfl (q_field tb rfl rfl rfl) ?_
                    refine L_q rfl rfl rfl (q_load tb rfl rfl bxo rfl) ?_
                    refine L_q rfl rfl rfl (q_mul rfl rfl (by first | exact IntWalk.i64_in _ (by omega) | rfl)) ?_
                    refine L_q rfl rfl rfl (q_move rfl) ?_
                    refine L_q rfl rfl rfl (q_field tb rfl rfl rfl) ?_
                    refine L_q rfl rfl rfl (q_load tb rfl rfl bxo rfl) ?_
                    refine L_q rfl rfl rfl (q_mul rfl rfl (by first | exact IntWalk.i64_in _ (by omega) | rfl)) ?_
                    refine L_q rfl rfl rfl (by first | exact q_build tb rfl rfl rfl rfl | exact q_buildArr tb rfl rfl rfl rfl rfl) ?_
                    first | refine L_store tb rfl rfl rfl rfl rfl rfl rfl rfl ?_ | (refine L_front1 ?_; refine L_store tb rfl rfl rfl rfl rfl rfl rfl rfl ?_) | (refine L_front2 ?_; refine L_store tb rfl rfl rfl rfl rfl rfl rfl rfl ?_) | (refine L_front3 ?_; refine L_store tb rfl rfl rfl rfl rfl rfl rfl rfl ?_) | (refine L_front4 ?_; refine L_store tb rfl rfl rfl rfl rfl rfl rfl rfl ?_) | (refine L_front5 ?_; refine L_store tb rfl rfl rfl rfl rfl rfl rfl rfl ?_) | (refine L_front6 ?_; refine L_store tb rfl rfl rfl rfl rfl rfl rfl rfl ?_)
                    refine L_q rfl rfl rfl (q_assign rfl) ?_
                    refine L_then ?_
                    refine C_ret ?_
                    have hrd := (rd_1 hkn (hp1 (by decide)) hpf).trans (rdN_eq (u := 10) (r := (Lib.trimPrefix l [116, 120])) (a := (cut1 47 (Lib.trimPrefix l [116, 120])).1) (b := (cut1 47 (Lib.trimPrefix l [116, 120])).2) rfl (by unfold rdB; rw [if_neg h48]))
                    unfold rdG
                    rw [hrd, if_pos ⟨h60, h63, by omega, by omega⟩]
                    exact ret_of (resCT tb rfl rfl rfl rfl bxo rfl) sub_nil (by intro r hr; cases hr) ⟨rfl, rfl⟩
      · -- case 2
        refine C_skip_then ?_
        refine C_seq ?_
        refine C_block ?_
        refine C_seq ?_
        refine C_region ?_
        refine L_q rfl rfl rfl (q_indexVA tb rfl rfl rfl rfl (by decide) (by decide) (ds := [.string (bs [103, 97, 115]), .int .i64 1]) rfl) ?_
        refine L_alloc tb rfl rfl fun g7 => ?_
        first | refine L_store tb rfl rfl rfl rfl rfl rfl rfl rfl ?_ | (refine L_front1 ?_; refine L_store tb rfl rfl rfl rfl rfl rfl rfl rfl ?_) | (refine L_front2 ?_; refine L_store tb rfl rfl rfl rfl rfl rfl rfl rfl ?_) | (refine L_front3 ?_; refine L_store tb rfl rfl rfl rfl rfl rfl rfl rfl ?_) | (refine L_front4 ?_; refine L_store tb rfl rfl rfl rfl rfl rfl rfl rfl ?_) | (refine L_front5 ?_; refine L_store tb rfl rfl rfl rfl rfl rfl rfl rfl ?_) | (refine L_front6 ?_; refine L_store tb rfl rfl rfl rfl rfl rfl rfl rfl ?_)
        refine L_then ?_
        refine C_seq ?_
        refine C_region ?_
        refine L_q rfl rfl rfl (q_move rfl) ?_
        refine L_q rfl rfl rfl (q_field tb rfl rfl rfl) ?_
        refine L_q rfl rfl rfl (q_load tb rfl rfl bxo rfl) ?_
        refine L_call tb rfl rfl (ct_CutPrefixQ l [103, 97, 115]) no_ps rfl ?_
        refine L_q rfl rfl rfl (q_move rfl) ?_
        refine L_q rfl rfl rfl (q_ext0 rfl) ?_
        refine L_q rfl rfl rfl (q_ext1 rfl) ?_
        refine L_q rfl rfl rfl (q_assign rfl) ?_
        refine L_q rfl rfl rfl (q_assign rfl) ?_
        refine L_then ?_
        refine C_seq ?_
        refine C_seq ?_
        refine C_region ?_
        refine L_q rfl rfl rfl (q_move rfl) ?_
        refine L_q rfl rfl rfl (q_not rfl (by first | exact (rfl : (!true) = false) | exact (rfl : (!false) = true) | exact decide_not.symm | rfl)) ?_
        refine L_then ?_
        refine C_bool rfl (fun hpf => ?_) (fun hpf => ?_)
        · -- t40 True
          rw [Bool.not_eq_true'] at hpf
          refine C_exit ?_
          change C Tryd.prog _ _ _ _ _ _ _
          refine C_region ?_
          refine L_q rfl rfl rfl (q_add rfl rfl (by first | exact IntWalk.i64_in _ (by omega) | rfl)) ?_
          refine L_q rfl rfl rfl (q_move rfl) ?_
          refine L_end ?_
          exact fun ac_ wo_ hs_ => ⟨3, ⟨by decide, fun _ => hp1 (by decide), fun _ => hp2 (by decide), fun _ => hpf⟩, (by decide), hs_.weak ⟨rfl, rfl, rfl, rfl, trivial⟩ (fun h => h.pk (by repeat (first | with_reducible exact pk_nil | refine pk_box rfl ?_ | refine pk_rd rfl ?_ | refine pk_sl rfl ?_ | with_reducible refine pk_app ?_ | with_reducible refine pk_app0 ?_ | with_reducible refine pk_app0L ?_ | with_reducible exact pk_tl | refine pk_var ?_)))⟩
        · -- t40 False
          rw [Bool.not_eq_false'] at hpf
          refine C_skip_then ?_
          refine C_seq ?_
          refine C_region ?_
          refine L_q rfl rfl rfl (q_move rfl) ?_
          refine L_call tb rfl rfl (ct_CutQ (Lib.trimPrefix l [103, 97, 115]) (by have := trim_len l [103, 97, 115]; omega)) no_ps rfl ?_
          refine L_q rfl rfl rfl (q_move rfl) ?_
          refine L_q rfl rfl rfl (q_ext0 rfl) ?_
          refine L_q rfl rfl rfl (q_ext1 rfl) ?_
          refine L_q rfl rfl rfl (q_ext2 rfl) ?_
          refine L_q rfl rfl rfl (q_assign rfl) ?_
          refine L_q rfl rfl rfl (q_assign rfl) ?_
          refine L_q rfl rfl rfl (q_assign rfl) ?_
          refine L_then ?_
          refine C_seq ?_
          refine C_seq ?_
          refine C_region ?_
          refine L_q rfl rfl rfl (q_move rfl) ?_
          refine L_q rfl rfl rfl (t_eq (a := (cut1 47 (Lib.trimPrefix l [103, 97, 115])).2) (b := []) rfl rfl) ?_
          refine L_then ?_
          refine C_dec rfl (fun h48 => ?_) (fun h48 => ?_)
          · -- t48 True
            refine C_region ?_
            refine L_q rfl rfl rfl (q_assign rfl) ?_
            refine L_then ?_
            refine C_seq ?_
            refine C_region ?_
            refine L_q rfl rfl rfl (q_move rfl) ?_
            refine L_lo rfl rfl rfl (lo_callQ tb stQ hQ rfl rfl (ct_AtoiQ (cut1 47 (Lib.trimPrefix l [103, 97, 115])).1 (by have := trim_len l [103, 97, 115]; have := (cut1_len 47 (Lib.trimPrefix l [103, 97, 115])).1; omega)) no_ps AtP_sinks) ?_
            rintro _ _ ⟨N51, rfl, rfl⟩
            refine L_q rfl rfl rfl (q_move rfl) ?_
            refine L_q rfl rfl rfl (q_ext0 rfl) ?_
            refine L_q rfl rfl rfl (q_ext1 rfl) ?_
            refine L_q rfl rfl rfl (q_assign rfl) ?_
            refine L_q rfl rfl rfl (q_assign rfl) ?_
            refine L_then ?_
            refine C_seq ?_
            refine C_region ?_
            refine L_q rfl rfl rfl (q_move rfl) ?_
            refine L_lo rfl rfl rfl (lo_callQ tb stQ hQ rfl rfl (ct_AtoiQ [48] (by have := trim_len l [103, 97, 115]; have := (cut1_len 47 (Lib.trimPrefix l [103, 97, 115])).2; first | omega | simp)) no_ps AtP_sinks) ?_
            rintro _ _ ⟨N56, rfl, rfl⟩
            refine L_q rfl rfl rfl (q_move rfl) ?_
            refine L_q rfl rfl rfl (q_ext0 rfl) ?_
            refine L_q rfl rfl rfl (q_ext1 rfl) ?_
            refine L_q rfl rfl rfl (q_assign rfl) ?_
            refine L_q rfl rfl rfl (q_assign rfl) ?_
            refine L_then ?_
            refine C_seq ?_
            refine C_seq ?_
            refine C_region ?_
            refine L_q rfl rfl rfl (q_move rfl) ?_
            refine L_q rfl rfl rfl (q_errV Tryd.underlying144 rfl) ?_
            refine L_q rfl rfl rfl (q_move rfl) ?_
            refine L_bool (d := 61) rfl (fun h60 => ?_) (fun h60 => ?_)
            · -- t61 True
              refine L_skip rfl rfl rfl rfl rfl rfl rfl ?_
              refine L_skip rfl rfl rfl rfl rfl rfl rfl ?_
              refine L_q rfl rfl rfl (by first | exact q_pickT rfl rfl | exact q_pickF rfl rfl) ?_
              refine L_q rfl rfl rfl (q_move rfl) ?_
              refine L_skip rfl rfl rfl rfl rfl rfl rfl ?_
              refine L_skip rfl rfl rfl rfl rfl rfl rfl ?_
              refine L_skip rfl rfl rfl rfl rfl rfl rfl ?_
              refine L_q rfl rfl rfl (by first | exact q_pickT rfl rfl | exact q_pickF rfl rfl) ?_
              refine L_q rfl rfl rfl (q_move rfl) ?_
              refine L_skip rfl rfl rfl rfl rfl rfl rfl ?_
              refine L_skip rfl rfl rfl rfl rfl rfl rfl ?_
              refine L_skip rfl rfl rfl rfl rfl rfl rfl ?_
              refine L_q rfl rfl rfl (by first | exact q_pickT rfl rfl | exact q_pickF rfl rfl) ?_
              refine L_then ?_
              refine C_true rfl ?_
              refine C_seq ?_
              refine C_region ?_
              refine L_q rfl rfl rfl (by first | exact q_build tb rfl rfl rfl rfl | exact q_buildArr tb rfl rfl rfl rfl rfl) ?_
              first | refine L_store tb rfl rfl rfl rfl rfl rfl rfl rfl ?_ | (refine L_front1 ?_; refine L_store tb rfl rfl rfl rfl rfl rfl rfl rfl ?_) | (refine L_front2 ?_; refine L_store tb rfl rfl rfl rfl rfl rfl rfl rfl ?_) | (refine L_front3 ?_; refine L_store tb rfl rfl rfl rfl rfl rfl rfl rfl ?_) | (refine L_front4 ?_; refine L_store tb rfl rfl rfl rfl rfl rfl rfl rfl ?_) | (refine L_front5 ?_; refine L_store tb rfl rfl rfl rfl rfl rfl rfl rfl ?_) | (refine L_front6 ?_; refine L_store tb rfl rfl rfl rfl rfl rfl rfl rfl ?_)
              refine L_q rfl rfl rfl (q_assign rfl) ?_
              refine L_then ?_
              refine C_ret ?_
              have hrd := (rd_2 hkn (hp1 (by decide)) (hp2 (by decide)) hpf).trans (rdN_eq (u := 1) (r := (Lib.trimPrefix l [103, 97, 115])) (a := (cut1 47 (Lib.trimPrefix l [103, 97, 115])).1) (b := [48]) rfl (by unfold rdB; rw [if_pos h48]))
              unfold rdG
              rw [hrd, if_neg (fun hh => by rw [hh.1] at h60; exact absurd h60 (by decide))]
              exact ret_of (resCT tb rfl rfl rfl rfl bxo rfl) sub_nil (by intro r hr; cases hr) ⟨rfl, rfl⟩
            · -- t61 False
              skip
              refine L_qg rfl rfl rfl rfl rfl rfl rfl (q_move rfl) ?_
              refine L_qg rfl rfl rfl rfl rfl rfl rfl (q_errV Tryd.underlying144 rfl) ?_
              refine L_q rfl rfl rfl (by first | exact q_pickT rfl rfl | exact q_pickF rfl rfl) ?_
              refine L_q rfl rfl rfl (q_move rfl) ?_
              refine L_bool (d := 65) rfl (fun h63 => ?_) (fun h63 => ?_)
              · -- t65 True
                refine L_skip rfl rfl rfl rfl rfl rfl rfl ?_
                refine L_skip rfl rfl rfl rfl rfl rfl rfl ?_
                refine L_skip rfl rfl rfl rfl rfl rfl rfl ?_
                refine L_q rfl rfl rfl (by first | exact q_pickT rfl rfl | exact q_pickF rfl rfl) ?_
                refine L_q rfl rfl rfl (q_move rfl) ?_
                refine L_skip rfl rfl rfl rfl rfl rfl rfl ?_
                refine L_skip rfl rfl rfl rfl rfl rfl rfl ?_
                refine L_skip rfl rfl rfl rfl rfl rfl rfl ?_
                refine L_q rfl rfl rfl (by first | exact q_pickT rfl rfl | exact q_pickF rfl rfl) ?_
                refine L_then ?_
                refine C_true rfl ?_
                refine C_seq ?_
                refine C_region ?_
                refine L_q rfl rfl rfl (by first | exact q_build tb rfl rfl rfl rfl | exact q_buildArr tb rfl rfl rfl rfl rfl) ?_
                first | refine L_store tb rfl rfl rfl rfl rfl rfl rfl rfl ?_ | (refine L_front1 ?_; refine L_store tb rfl rfl rfl rfl rfl rfl rfl rfl ?_) | (refine L_front2 ?_; refine L_store tb rfl rfl rfl rfl rfl rfl rfl rfl ?_) | (refine L_front3 ?_; refine L_store tb rfl rfl rfl rfl rfl rfl rfl rfl ?_) | (refine L_front4 ?_; refine L_store tb rfl rfl rfl rfl rfl rfl rfl rfl ?_) | (refine L_front5 ?_; refine L_store tb rfl rfl rfl rfl rfl rfl rfl rfl ?_) | (refine L_front6 ?_; refine L_store tb rfl rfl rfl rfl rfl rfl rfl rfl ?_)
                refine L_q rfl rfl rfl (q_assign rfl) ?_
                refine L_then ?_
                refine C_ret ?_
                have hrd := (rd_2 hkn (hp1 (by decide)) (hp2 (by decide)) hpf).trans (rdN_eq (u := 1) (r := (Lib.trimPrefix l [103, 97, 115])) (a := (cut1 47 (Lib.trimPrefix l [103, 97, 115])).1) (b := [48]) rfl (by unfold rdB; rw [if_pos h48]))
                unfold rdG
                rw [hrd, if_neg (fun hh => by rw [hh.2.1] at h63; exact absurd h63 (by decide))]
                exact ret_of (resCT tb rfl rfl rfl rfl bxo rfl) sub_nil (by intro r hr; cases hr) ⟨rfl, rfl⟩
              · -- t65 False
                refine L_qg rfl rfl rfl rfl rfl rfl rfl (q_move rfl) ?_
                refine L_callg tb rfl rfl rfl rfl rfl rfl (ct_gas_within (atN (cut1 47 (Lib.trimPrefix l [103, 97, 115])).1) 0 1000) no_ps rfl ?_
                refine L_qg rfl rfl rfl rfl rfl rfl rfl (q_not rfl (by first | exact (rfl : (!true) = false) | exact (rfl : (!false) = true) | exact decide_not.symm | rfl)) ?_
                refine L_q rfl rfl rfl (by first | exact q_pickT rfl rfl | exact q_pickF rfl rfl) ?_
                refine L_q rfl rfl rfl (q_move rfl) ?_
                refine L_dec (d := 70) rfl (fun h67 => ?_) (fun h67 => ?_)
                · -- t70 True
                  refine L_skip rfl rfl rfl rfl rfl rfl rfl ?_
                  refine L_skip rfl rfl rfl rfl rfl rfl rfl ?_
                  refine L_skip rfl rfl rfl rfl rfl rfl rfl ?_
                  refine L_q rfl rfl rfl (by first | exact q_pickT rfl rfl | exact q_pickF rfl rfl) ?_
                  refine L_then ?_
                  refine C_true rfl ?_
                  refine C_seq ?_
                  refine C_region ?_
                  refine L_q rfl rfl rfl (by first | exact q_build tb rfl rfl rfl rfl | exact q_buildArr tb rfl rfl rfl rfl rfl) ?_
                  first | refine L_store tb rfl rfl rfl rfl rfl rfl rfl rfl ?_ | (refine L_front1 ?_; refine L_store tb rfl rfl rfl rfl rfl rfl rfl rfl ?_) | (refine L_front2 ?_; refine L_store tb rfl rfl rfl rfl rfl rfl rfl rfl ?_) | (refine L_front3 ?_; refine L_store tb rfl rfl rfl rfl rfl rfl rfl rfl ?_) | (refine L_front4 ?_; refine L_store tb rfl rfl rfl rfl rfl rfl rfl rfl ?_) | (refine L_front5 ?_; refine L_store tb rfl rfl rfl rfl rfl rfl rfl rfl ?_) | (refine L_front6 ?_; refine L_store tb rfl rfl rfl rfl rfl rfl rfl rfl ?_)
                  refine L_q rfl rfl rfl (q_assign rfl) ?_
                  refine L_then ?_
                  refine C_ret ?_
                  have hrd := (rd_2 hkn (hp1 (by decide)) (hp2 (by decide)) hpf).trans (rdN_eq (u := 1) (r := (Lib.trimPrefix l [103, 97, 115])) (a := (cut1 47 (Lib.trimPrefix l [103, 97, 115])).1) (b := [48]) rfl (by unfold rdB; rw [if_pos h48]))
                  unfold rdG
                  rw [hrd, if_neg (fun hh => by omega)]
                  exact ret_of (resCT tb rfl rfl rfl rfl bxo rfl) sub_nil (by intro r hr; cases hr) ⟨rfl, rfl⟩
                · -- t70 False
                  refine L_qg rfl rfl rfl rfl rfl rfl rfl (q_move rfl) ?_
                  refine L_callg tb rfl rfl rfl rfl rfl rfl (ct_gas_within (atN [48]) 0 1000) no_ps rfl ?_
                  refine L_qg rfl rfl rfl rfl rfl rfl rfl (q_not rfl decide_not.symm) ?_
                  refine L_q rfl rfl rfl (by first | exact q_pickT rfl rfl | exact q_pickF rfl rfl) ?_
                  refine L_then ?_
                  refine C_dec rfl (fun h74 => ?_) (fun h74 => ?_)
                  · -- t74 True
                    refine C_seq ?_
                    refine C_region ?_
                    refine L_q rfl rfl rfl (by first | exact q_build tb rfl rfl rfl rfl | exact q_buildArr tb rfl rfl rfl rfl rfl) ?_
                    first | refine L_store tb rfl rfl rfl rfl rfl rfl rfl rfl ?_ | (refine L_front1 ?_; refine L_store tb rfl rfl rfl rfl rfl rfl rfl rfl ?_) | (refine L_front2 ?_; refine L_store tb rfl rfl rfl rfl rfl rfl rfl rfl ?_) | (refine L_front3 ?_; refine L_store tb rfl rfl rfl rfl rfl rfl rfl rfl ?_) | (refine L_front4 ?_; refine L_store tb rfl rfl rfl rfl rfl rfl rfl rfl ?_) | (refine L_front5 ?_; refine L_store tb rfl rfl rfl rfl rfl rfl rfl rfl ?_) | (refine L_front6 ?_; refine L_store tb rfl rfl rfl rfl rfl rfl rfl rfl ?_)
                    refine L_q rfl rfl rfl (q_assign rfl) ?_
                    refine L_then ?_
                    refine C_ret ?_
                    have hrd := (rd_2 hkn (hp1 (by decide)) (hp2 (by decide)) hpf).trans (rdN_eq (u := 1) (r := (Lib.trimPrefix l [103, 97, 115])) (a := (cut1 47 (Lib.trimPrefix l [103, 97, 115])).1) (b := [48]) rfl (by unfold rdB; rw [if_pos h48]))
                    unfold rdG
                    rw [hrd, if_neg (fun hh => by omega)]
                    exact ret_of (resCT tb rfl rfl rfl rfl bxo rfl) sub_nil (by intro r hr; cases hr) ⟨rfl, rfl⟩
                  · -- t74 False
                    refine C_skip_then ?_
                    refine C_seq ?_
                    refine C_region ?_
                    refine L_q rfl rfl rfl (q_move rfl) ?_
                    refine L_q rfl rfl rfl (q_field tb rfl rfl rfl) ?_
                    refine L_q rfl rfl rfl (q_load tb rfl rfl bxo rfl) ?_
                    refine L_q rfl rfl rfl (q_mul rfl rfl (by first | exact IntWalk.i64_in _ (by omega) | rfl)) ?_
                    refine L_q rfl rfl rfl (q_move rfl) ?_
                    refine L_q rfl rfl rfl (q_field tb rfl rfl rfl) ?_
                    refine L_q rfl rfl rfl (q_load tb rfl rfl bxo rfl) ?_
                    refine L_q rfl rfl rfl (q_mul rfl rfl (by first | exact IntWalk.i64_in _ (by omega) | rfl)) ?_
                    refine L_q rfl rfl rfl (by first | exact q_build tb rfl rfl rfl rfl | exact q_buildArr tb rfl rfl rfl rfl rfl) ?_
                    first | refine L_store tb rfl rfl rfl rfl rfl rfl rfl rfl ?_ | (refine L_front1 ?_; refine L_store tb rfl rfl rfl rfl rfl rfl rfl rfl ?_) | (refine L_front2 ?_; refine L_store tb rfl rfl rfl rfl rfl rfl rfl rfl ?_) | (refine L_front3 ?_; refine L_store tb rfl rfl rfl rfl rfl rfl rfl rfl ?_) | (refine L_front4 ?_; refine L_store tb rfl rfl rfl rfl rfl rfl rfl rfl ?_) | (refine L_front5 ?_; refine L_store tb rfl rfl rfl rfl rfl rfl rfl rfl ?_) | (refine L_front6 ?_; refine L_store tb rfl rfl rfl rfl rfl rfl rfl rfl ?_)
                    refine L_q rfl rfl rfl (q_assign rfl) ?_
                    refine L_then ?_
                    refine C_ret ?_
                    have hrd := (rd_2 hkn (hp1 (by decide)) (hp2 (by decide)) hpf).trans (rdN_eq (u := 1) (r := (Lib.trimPrefix l [103, 97, 115])) (a := (cut1 47 (Lib.trimPrefix l [103, 97, 115])).1) (b := [48]) rfl (by unfold rdB; rw [if_pos h48]))
                    unfold rdG
                    rw [hrd, if_pos ⟨h60, h63, by omega, by omega⟩]
                    exact ret_of (resCT tb rfl rfl rfl rfl bxo rfl) sub_nil (by intro r hr; cases hr) ⟨rfl, rfl⟩
          · -- t48 False
            refine C_skip_then ?_
            refine C_seq ?_
            refine C_region ?_
            refine L_q rfl rfl rfl (q_move rfl) ?_
            refine L_lo rfl rfl rfl (lo_callQ tb stQ hQ rfl rfl (ct_AtoiQ (cut1 47 (Lib.trimPrefix l [103, 97, 115])).1 (by have := trim_len l [103, 97, 115]; have := (cut1_len 47 (Lib.trimPrefix l [103, 97, 115])).1; omega)) no_ps AtP_sinks) ?_
            rintro _ _ ⟨N51, rfl, rfl⟩
            refine L_q rfl rfl rfl (q_move rfl) ?_
            refine L_q rfl rfl rfl (q_ext0 rfl) ?_
            refine L_q rfl rfl rfl (q_ext1 rfl) ?_
            refine L_q rfl rfl rfl (q_assign rfl) ?_
            refine L_q rfl rfl rfl (q_assign rfl) ?_
            refine L_then ?_
            refine C_seq ?_
            refine C_region ?_
            refine L_q rfl rfl rfl (q_move rfl) ?_
            refine L_lo rfl rfl rfl (lo_callQ tb stQ hQ rfl rfl (ct_AtoiQ (cut1 47 (Lib.trimPrefix l [103, 97, 115])).2 (by have := trim_len l [103, 97, 115]; have := (cut1_len 47 (Lib.trimPrefix l [103, 97, 115])).2; first | omega | simp)) no_ps AtP_sinks) ?_
            rintro _ _ ⟨N56, rfl, rfl⟩
            refine L_q rfl rfl rfl (q_move rfl) ?_
            refine L_q rfl rfl rfl (q_ext0 rfl) ?_
            refine L_q rfl rfl rfl (q_ext1 rfl) ?_
            refine L_q rfl rfl rfl (q_assign rfl) ?_
            refine L_q rfl rfl rfl (q_assign rfl) ?_
            refine L_then ?_
            refine C_seq ?_
            refine C_seq ?_
            refine C_region ?_
            refine L_q rfl rfl rfl (q_move rfl) ?_
            refine L_q rfl rfl rfl (q_errV Tryd.underlying144 rfl) ?_
            refine L_q rfl rfl rfl (q_move rfl) ?_
            refine L_bool (d := 61) rfl (fun h60 => ?_) (fun h60 => ?_)
            · -- t61 True
              refine L_skip rfl rfl rfl rfl rfl rfl rfl ?_
              refine L_skip rfl rfl rfl rfl rfl rfl rfl ?_
              refine L_q rfl rfl rfl (by first | exact q_pickT rfl rfl | exact q_pickF rfl rfl) ?_
              refine L_q rfl rfl rfl (q_move rfl) ?_
              refine L_skip rfl rfl rfl rfl rfl rfl rfl ?_
              refine L_skip rfl rfl rfl rfl rfl rfl rfl ?_
              refine L_skip rfl rfl rfl rfl rfl rfl rfl ?_
              refine L_q rfl rfl rfl (by first | exact q_pickT rfl rfl | exact q_pickF rfl rfl) ?_
              refine L_q rfl rfl rfl (q_move rfl) ?_
              refine L_skip rfl rfl rfl rfl rfl rfl rfl ?_
              refine L_skip rfl rfl rfl rfl rfl rfl rfl ?_
              refine L_skip rfl rfl rfl rfl rfl rfl rfl ?_
              refine L_q rfl rfl rfl (by first | exact q_pickT rfl rfl | exact q_pickF rfl rfl) ?_
              refine L_then ?_
              refine C_true rfl ?_
              refine C_seq ?_
              refine C_region ?_
              refine L_q rfl rfl rfl (by first | exact q_build tb rfl rfl rfl rfl | exact q_buildArr tb rfl rfl rfl rfl rfl) ?_
              first | refine L_store tb rfl rfl rfl rfl rfl rfl rfl rfl ?_ | (refine L_front1 ?_; refine L_store tb rfl rfl rfl rfl rfl rfl rfl rfl ?_) | (refine L_front2 ?_; refine L_store tb rfl rfl rfl rfl rfl rfl rfl rfl ?_) | (refine L_front3 ?_; refine L_store tb rfl rfl rfl rfl rfl rfl rfl rfl ?_) | (refine L_front4 ?_; refine L_store tb rfl rfl rfl rfl rfl rfl rfl rfl ?_) | (refine L_front5 ?_; refine L_store tb rfl rfl rfl rfl rfl rfl rfl rfl ?_) | (refine L_front6 ?_; refine L_store tb rfl rfl rfl rfl rfl rfl rfl rfl ?_)
              refine L_q rfl rfl rfl (q_assign rfl) ?_
              refine L_then ?_
              refine C_ret ?_
              have hrd := (rd_2 hkn (hp1 (by decide)) (hp2 (by decide)) hpf).trans (rdN_eq (u := 1) (r := (Lib.trimPrefix l [103, 97, 115])) (a := (cut1 47 (Lib.trimPrefix l [103, 97, 115])).1) (b := (cut1 47 (Lib.trimPrefix l [103, 97, 115])).2) rfl (by unfold rdB; rw [if_neg h48]))
              unfold rdG
              rw [hrd, if_neg (fun hh => by rw [hh.1] at h60; exact absurd h60 (by decide))]
              exact ret_of (resCT tb rfl rfl rfl rfl bxo rfl) sub_nil (by intro r hr; cases hr) ⟨rfl, rfl⟩
            · -- t61 False
              skip
              refine L_qg rfl rfl rfl rfl rfl rfl rfl (q_move rfl) ?_
              refine L_qg rfl rfl rfl rfl rfl rfl rfl (q_errV Tryd.underlying144 rfl) ?_
              refine L_q rfl rfl rfl (by first | exact q_pickT rfl rfl | exact q_pickF rfl rfl) ?_
              refine L_q rfl rfl rfl (q_move rfl) ?_
              refine L_bool (d := 65) rfl (fun h63 => ?_) (fun h63 => ?_)
              · -- t65 True
                refine L_skip rfl rfl rfl rfl rfl rfl rfl ?_
                refine L_skip rfl rfl rfl rfl rfl rfl rfl ?_
                refine L_skip rfl rfl rfl rfl rfl rfl rfl ?_
                refine L_q rfl rfl rfl (by first | exact q_pickT rfl rfl | exact q_pickF rfl rfl) ?_
                refine L_q rfl rfl rfl (q_move rfl) ?_
                refine L_skip rfl rfl rfl rfl rfl rfl rfl ?_
                refine L_skip rfl rfl rfl rfl rfl rfl rfl ?_
                refine L_skip rfl rfl rfl rfl rfl rfl rfl ?_
                refine L_q rfl rfl rfl (by first | exact q_pickT rfl rfl | exact q_pickF rfl rfl) ?_
                refine L_then ?_
                refine C_true rfl ?_
                refine C_seq ?_
                refine C_region ?_
                refine L_q rfl rfl rfl (by first | exact q_build tb rfl rfl rfl rfl | exact q_buildArr tb rfl rfl rfl rfl rfl) ?_
                first | refine L_store tb rfl rfl rfl rfl rfl rfl rfl rfl ?_ | (refine L_front1 ?_; refine L_store tb rfl rfl rfl rfl rfl rfl rfl rfl ?_) | (refine L_front2 ?_; refine L_store tb rfl rfl rfl rfl rfl rfl rfl rfl ?_) | (refine L_front3 ?_; refine L_store tb rfl rfl rfl rfl rfl rfl rfl rfl ?_) | (refine L_front4 ?_; refine L_store tb rfl rfl rfl rfl rfl rfl rfl rfl ?_) | (refine L_front5 ?_; refine L_store tb rfl rfl rfl rfl rfl rfl rfl rfl ?_) | (refine L_front6 ?_; refine L_store tb rfl rfl rfl rfl rfl rfl rfl rfl ?_)
                refine L_q rfl rfl rfl (q_assign rfl) ?_
                refine L_then ?_
                refine C_ret ?_
                have hrd := (rd_2 hkn (hp1 (by decide)) (hp2 (by decide)) hpf).trans (rdN_eq (u := 1) (r := (Lib.trimPrefix l [103, 97, 115])) (a := (cut1 47 (Lib.trimPrefix l [103, 97, 115])).1) (b := (cut1 47 (Lib.trimPrefix l [103, 97, 115])).2) rfl (by unfold rdB; rw [if_neg h48]))
                unfold rdG
                rw [hrd, if_neg (fun hh => by rw [hh.2.1] at h63; exact absurd h63 (by decide))]
                exact ret_of (resCT tb rfl rfl rfl rfl bxo rfl) sub_nil (by intro r hr; cases hr) ⟨rfl, rfl⟩
              · -- t65 False
                refine L_qg rfl rfl rfl rfl rfl rfl rfl (q_move rfl) ?_
                refine L_callg tb rfl rfl rfl rfl rfl rfl (ct_gas_within (atN (cut1 47 (Lib.trimPrefix l [103, 97, 115])).1) 0 1000) no_ps rfl ?_
                refine L_qg rfl rfl rfl rfl rfl rfl rfl (q_not rfl (by first | exact (rfl : (!true) = false) | exact (rfl : (!false) = true) | exact decide_not.symm | rfl)) ?_
                refine L_q rfl rfl rfl (by first | exact q_pickT rfl rfl | exact q_pickF rfl rfl) ?_
                refine L_q rfl rfl rfl (q_move rfl) ?_
                refine L_dec (d := 70) rfl (fun h67 => ?_) (fun h67 => ?_)
                · -- t70 True
                  refine L_skip rfl rfl rfl rfl rfl rfl rfl ?_
                  refine L_skip rfl rfl rfl rfl rfl rfl rfl ?_
                  refine L_skip rfl rfl rfl rfl rfl rfl rfl ?_
                  refine L_q rfl rfl rfl (by first | exact q_pickT rfl rfl | exact q_pickF rfl rfl) ?_
                  refine L_then ?_
                  refine C_true rfl ?_
                  refine C_seq ?_
                  refine C_region ?_
                  refine L_q rfl rfl rfl (by first | exact q_build tb rfl rfl rfl rfl | exact q_buildArr tb rfl rfl rfl rfl rfl) ?_
                  first | refine L_store tb rfl rfl rfl rfl rfl rfl rfl rfl ?_ | (refine L_front1 ?_; refine L_store tb rfl rfl rfl rfl rfl rfl rfl rfl ?_) | (refine L_front2 ?_; refine L_store tb rfl rfl rfl rfl rfl rfl rfl rfl ?_) | (refine L_front3 ?_; refine L_store tb rfl rfl rfl rfl rfl rfl rfl rfl ?_) | (refine L_front4 ?_; refine L_store tb rfl rfl rfl rfl rfl rfl rfl rfl ?_) | (refine L_front5 ?_; refine L_store tb rfl rfl rfl rfl rfl rfl rfl rfl ?_) | (refine L_front6 ?_; refine L_store tb rfl rfl rfl rfl rfl rfl rfl rfl ?_)
                  refine L_q rfl rfl rfl (q_assign rfl) ?_
                  refine L_then ?_
                  refine C_ret ?_
                  have hrd := (rd_2 hkn (hp1 (by decide)) (hp2 (by decide)) hpf).trans (rdN_eq (u := 1) (r := (Lib.trimPrefix l [103, 97, 115])) (a := (cut1 47 (Lib.trimPrefix l [103, 97, 115])).1) (b := (cut1 47 (Lib.trimPrefix l [103, 97, 115])).2) rfl (by unfold rdB; rw [if_neg h48]))
                  unfold rdG
                  rw [hrd, if_neg (fun hh => by omega)]
                  exact ret_of (resCT tb rfl rfl rfl rfl bxo rfl) sub_nil (by intro r hr; cases hr) ⟨rfl, rfl⟩
                · -- t70 False
                  refine L_qg rfl rfl rfl rfl rfl rfl rfl (q_move rfl) ?_
                  refine L_callg tb rfl rfl rfl rfl rfl rfl (ct_gas_within (atN (cut1 47 (Lib.trimPrefix l [103, 97, 115])).2) 0 1000) no_ps rfl ?_
                  refine L_qg rfl rfl rfl rfl rfl rfl rfl (q_not rfl decide_not.symm) ?_
                  refine L_q rfl rfl rfl (by first | exact q_pickT rfl rfl | exact q_pickF rfl rfl) ?_
                  refine L_then ?_
                  refine C_dec rfl (fun h74 => ?_) (fun h74 => ?_)
                  · -- t74 True
                    refine C_seq ?_
                    refine C_region ?_
                    refine L_q rfl rfl rfl (by first | exact q_build tb rfl rfl rfl rfl | exact q_buildArr tb rfl rfl rfl rfl rfl) ?_
                    first | refine L_store tb rfl rfl rfl rfl rfl rfl rfl rfl ?_ | (refine L_front1 ?_; refine L_store tb rfl rfl rfl rfl rfl rfl rfl rfl ?_) | (refine L_front2 ?_; refine L_store tb rfl rfl rfl rfl rfl rfl rfl rfl ?_) | (refine L_front3 ?_; refine L_store tb rfl rfl rfl rfl rfl rfl rfl rfl ?_) | (refine L_front4 ?_; refine L_store tb rfl rfl rfl rfl rfl rfl rfl rfl ?_) | (refine L_front5 ?_; refine L_store tb rfl rfl rfl rfl rfl rfl rfl rfl ?_) | (refine L_front6 ?_; refine L_store tb rfl rfl rfl rfl rfl rfl rfl rfl ?_)
                    refine L_q rfl rfl rfl (q_assign rfl) ?_
                    refine L_then ?_
                    refine C_ret ?_
                    have hrd := (rd_2 hkn (hp1 (by decide)) (hp2 (by decide)) hpf).trans (rdN_eq (u := 1) (r := (Lib.trimPrefix l [103, 97, 115])) (a := (cut1 47 (Lib.trimPrefix l [103, 97, 115])).1) (b := (cut1 47 (Lib.trimPrefix l [103, 97, 115])).2) rfl (by unfold rdB; rw [if_neg h48]))
                    unfold rdG
                    rw [hrd, if_neg (fun hh => by omega)]
                    exact ret_of (resCT tb rfl rfl rfl rfl bxo rfl) sub_nil (by intro r hr; cases hr) ⟨rfl, rfl⟩
                  · -- t74 False
                    refine C_skip_then ?_
                    refine C_seq ?_
                    refine C_region ?_
                    refine L_q rfl rfl rfl (q_move rfl) ?_
                    refine L_q rfl rfl rfl (q_field tb rfl rfl rfl) ?_
                    refine L_q rfl rfl rfl (q_load tb rfl rfl bxo rfl) ?_
                    refine L_q rfl rfl rfl (q_mul rfl rfl (by first | exact IntWalk.i64_in _ (by omega) | rfl)) ?_
                    refine L_q rfl rfl rfl (q_move rfl) ?_
                    refine L_q rfl rfl rfl (q_field tb rfl rfl rfl) ?_
                    refine L_q rfl rfl rfl (q_load tb rfl rfl bxo rfl) ?_
                    refine L_q rfl rfl rfl (q_mul rfl rfl (by first | exact IntWalk.i64_in _ (by omega) | rfl)) ?_
                    refine L_q rfl rfl rfl (by first | exact q_build tb rfl rfl rfl rfl | exact q_buildArr tb rfl rfl rfl rfl rfl) ?_
                    first | refine L_store tb rfl rfl rfl rfl rfl rfl rfl rfl ?_ | (refine L_front1 ?_; refine L_store tb rfl rfl rfl rfl rfl rfl rfl rfl ?_) | (refine L_front2 ?_; refine L_store tb rfl rfl rfl rfl rfl rfl rfl rfl ?_) | (refine L_front3 ?_; refine L_store tb rfl rfl rfl rfl rfl rfl rfl rfl ?_) | (refine L_front4 ?_; refine L_store tb rfl rfl rfl rfl rfl rfl rfl rfl ?_) | (refine L_front5 ?_; refine L_store tb rfl rfl rfl rfl rfl rfl rfl rfl ?_) | (refine L_front6 ?_; refine L_store tb rfl rfl rfl rfl rfl rfl rfl rfl ?_)
                    refine L_q rfl rfl rfl (q_assign rfl) ?_
                    refine L_then ?_
                    refine C_ret ?_
                    have hrd := (rd_2 hkn (hp1 (by decide)) (hp2 (by decide)) hpf).trans (rdN_eq (u := 1) (r := (Lib.trimPrefix l [103, 97, 115])) (a := (cut1 47 (Lib.trimPrefix l [103, 97, 115])).1) (b := (cut1 47 (Lib.trimPrefix l [103, 97, 115])).2) rfl (by unfold rdB; rw [if_neg h48]))
                    unfold rdG
                    rw [hrd, if_pos ⟨h60, h63, by omega, by omega⟩]
                    exact ret_of (resCT tb rfl rfl rfl rfl bxo rfl) sub_nil (by intro r hr; cases hr) ⟨rfl, rfl⟩
    · -- t30 False
      have hrd := rd_3 hkn (hp1 (by omega)) (hp2 (by omega)) (hp3 (by omega))
      refine C_exit ?_
      change C Tryd.prog _ _ _ _ _ _ _
      refine C_seq ?_
      refine C_region ?_
      refine L_q rfl rfl rfl (by first | exact q_build tb rfl rfl rfl rfl | exact q_buildArr tb rfl rfl rfl rfl rfl) ?_
      first | refine L_store tb rfl rfl rfl rfl rfl rfl rfl rfl ?_ | (refine L_front1 ?_; refine L_store tb rfl rfl rfl rfl rfl rfl rfl rfl ?_) | (refine L_front2 ?_; refine L_store tb rfl rfl rfl rfl rfl rfl rfl rfl ?_) | (refine L_front3 ?_; refine L_store tb rfl rfl rfl rfl rfl rfl rfl rfl ?_) | (refine L_front4 ?_; refine L_store tb rfl rfl rfl rfl rfl rfl rfl rfl ?_) | (refine L_front5 ?_; refine L_store tb rfl rfl rfl rfl rfl rfl rfl rfl ?_) | (refine L_front6 ?_; refine L_store tb rfl rfl rfl rfl rfl rfl rfl rfl ?_)
      refine L_q rfl rfl rfl (q_assign rfl) ?_
      refine L_then ?_
      refine C_ret ?_
      unfold rdG
      rw [hrd]
      exact ret_of (resCT tb rfl rfl rfl rfl bxo rfl) sub_nil (by intro r hr; cases hr) ⟨rfl, rfl⟩
end Go.Proofs.YtibohfipgjljhaaDoor
