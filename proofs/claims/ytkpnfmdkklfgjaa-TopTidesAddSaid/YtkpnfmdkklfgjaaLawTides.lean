/-
  Walks: each function named returns what its model says. Conditions: those in front of each theorem.
-/
import Derived.Test.YtkpnfmdkklfgjaaTD
import Derived.Test.YtkpnfmdkklfgjaaShTreeQ
namespace Go.Proofs.Ytkpnfmdkklfgjaa
open Go.RowKit

set_option maxRecDepth 100000 in
set_option maxHeartbeats 2000000 in
theorem ct_shotlinetop_TopTidesAdd (ma mb : Int) (v u : Value) (wa wb : List Wv) (n : Int) : Ct Try.prog 3 [.agg #[.int .i64 ma, v], .agg #[.int .i64 mb, u], .int .i64 n] [(v, 3, wa.map cWv), (u, 3, wb.map cWv)] (isV (.bool true)) := by
  refine Ct.of (N := 187) Try.func3 rfl rfl rfl fun w => ?_
  refine C_weak (E' := [(0, .agg #[.int .i64 ma, v]), (1, .agg #[.int .i64 mb, u]), (2, .int .i64 n)]) (rs' := [rd v 3 (wa.map cWv), rd u 3 (wb.map cWv)]) ⟨rfl, rfl, rfl, trivial⟩ (fun _ h => h) ?_
  have hl1 := len_map cWv wa
  have hl2 := len_map cWv wb
  refine C_seq ?_
  refine C_region ?_
  refine L_box rfl rfl rfl fun g3 => ?_
  refine L_box rfl rfl rfl fun g4 => ?_
  refine L_q rfl rfl rfl (q_assign rfl) ?_
  refine L_then ?_
  refine C_seq ?_
  refine C_seq ?_
  refine C_region ?_
  refine L_call tb rfl rfl (ct_shotlinetop_tidal) no_ps rfl ?_
  refine L_q rfl rfl rfl (q_not rfl (by first | exact (rfl : (!true) = false) | exact (rfl : (!false) = true) | exact decide_not.symm | rfl)) ?_
  refine L_then ?_
  refine C_false rfl ?_
  refine C_skip_then ?_
  refine C_seq ?_
  refine C_seq ?_
  refine C_region ?_
  refine L_q rfl rfl rfl (q_loadA tb rfl rfl bxo rfl rfl) ?_
  refine L_call tb rfl rfl (ct_shotlinelaw08_Few _ _ _) (ps_cons (by first | exact gvo | exact gvd gvo (by omega)) no_ps) rfl ?_
  refine L_q rfl rfl rfl (q_not rfl (by first | exact (rfl : (!true) = false) | exact (rfl : (!false) = true) | exact decide_not.symm | rfl)) ?_
  refine L_q rfl rfl rfl (q_move rfl) ?_
  refine L_dec (d := 23) rfl (fun h1 => ?_) (fun h1 => ?_)
  · -- t23 True
    refine L_skip rfl rfl rfl rfl rfl rfl rfl ?_
    refine L_skip rfl rfl rfl rfl rfl rfl rfl ?_
    refine L_skip rfl rfl rfl rfl rfl rfl rfl ?_
    refine L_q rfl rfl rfl (by first | exact q_pickT rfl rfl | exact q_pickF rfl rfl) ?_
    refine L_q rfl rfl rfl (q_move rfl) ?_
    refine L_skip rfl rfl rfl rfl rfl rfl rfl ?_
    refine L_skip rfl rfl rfl rfl rfl rfl rfl ?_
    refine L_skip rfl rfl rfl rfl rfl rfl rfl ?_
    refine L_q rfl rfl rfl (by first | exact q_pickT rfl rfl | exact q_pickF rfl rfl) ?_
    refine L_q rfl rfl rfl (q_move rfl) ?_
    refine L_skip rfl rfl rfl rfl rfl rfl rfl ?_
    refine L_skip rfl rfl rfl rfl rfl rfl rfl ?_
    refine L_skip rfl rfl rfl rfl rfl rfl rfl ?_
    refine L_q rfl rfl rfl (by first | exact q_pickT rfl rfl | exact q_pickF rfl rfl) ?_
    refine L_q rfl rfl rfl (q_move rfl) ?_
    refine L_skip rfl rfl rfl rfl rfl rfl rfl ?_
    refine L_skip rfl rfl rfl rfl rfl rfl rfl ?_
    refine L_skip rfl rfl rfl rfl rfl rfl rfl ?_
    refine L_skip rfl rfl rfl rfl rfl rfl rfl ?_
    refine L_skip rfl rfl rfl rfl rfl rfl rfl ?_
    refine L_skip rfl rfl rfl rfl rfl rfl rfl ?_
    refine L_skip rfl rfl rfl rfl rfl rfl rfl ?_
    refine L_skip rfl rfl rfl rfl rfl rfl rfl ?_
    refine L_q rfl rfl rfl (by first | exact q_pickT rfl rfl | exact q_pickF rfl rfl) ?_
    refine L_q rfl rfl rfl (q_move rfl) ?_
    refine L_skip rfl rfl rfl rfl rfl rfl rfl ?_
    refine L_skip rfl rfl rfl rfl rfl rfl rfl ?_
    refine L_skip rfl rfl rfl rfl rfl rfl rfl ?_
    refine L_skip rfl rfl rfl rfl rfl rfl rfl ?_
    refine L_skip rfl rfl rfl rfl rfl rfl rfl ?_
    refine L_skip rfl rfl rfl rfl rfl rfl rfl ?_
    refine L_skip rfl rfl rfl rfl rfl rfl rfl ?_
    refine L_q rfl rfl rfl (by first | exact q_pickT rfl rfl | exact q_pickF rfl rfl) ?_
    refine L_q rfl rfl rfl (q_move rfl) ?_
    refine L_skip rfl rfl rfl rfl rfl rfl rfl ?_
    refine L_skip rfl rfl rfl rfl rfl rfl rfl ?_
    refine L_skip rfl rfl rfl rfl rfl rfl rfl ?_
    refine L_q rfl rfl rfl (by first | exact q_pickT rfl rfl | exact q_pickF rfl rfl) ?_
    refine L_then ?_
    refine C_true rfl ?_
    refine C_seq ?_
    refine C_region ?_
    refine L_q rfl rfl rfl (q_assign rfl) ?_
    refine L_then ?_
    refine C_ret ?_
    exact ret_of (res1 rfl rfl) sub_nil (by intro r hr; cases hr) ⟨rfl, rfl⟩
  · -- t23 False
    refine L_qg rfl rfl rfl rfl rfl rfl rfl (q_loadA tb rfl rfl bxo rfl rfl) ?_
    refine L_callg tb rfl rfl rfl rfl rfl rfl (ct_shotlinelaw08_Few _ _ _) (ps_cons (by first | exact gvo | exact gvd gvo (by omega)) no_ps) rfl ?_
    refine L_qg rfl rfl rfl rfl rfl rfl rfl (q_not rfl (by first | exact (rfl : (!true) = false) | exact (rfl : (!false) = true) | exact decide_not.symm | rfl)) ?_
    refine L_q rfl rfl rfl (by first | exact q_pickT rfl rfl | exact q_pickF rfl rfl) ?_
    refine L_q rfl rfl rfl (q_move rfl) ?_
    refine L_dec (d := 28) rfl (fun h2 => ?_) (fun h2 => ?_)
    · -- t28 True
      refine L_skip rfl rfl rfl rfl rfl rfl rfl ?_
      refine L_skip rfl rfl rfl rfl rfl rfl rfl ?_
      refine L_skip rfl rfl rfl rfl rfl rfl rfl ?_
      refine L_q rfl rfl rfl (by first | exact q_pickT rfl rfl | exact q_pickF rfl rfl) ?_
      refine L_q rfl rfl rfl (q_move rfl) ?_
      refine L_skip rfl rfl rfl rfl rfl rfl rfl ?_
      refine L_skip rfl rfl rfl rfl rfl rfl rfl ?_
      refine L_skip rfl rfl rfl rfl rfl rfl rfl ?_
      refine L_q rfl rfl rfl (by first | exact q_pickT rfl rfl | exact q_pickF rfl rfl) ?_
      refine L_q rfl rfl rfl (q_move rfl) ?_
      refine L_skip rfl rfl rfl rfl rfl rfl rfl ?_
      refine L_skip rfl rfl rfl rfl rfl rfl rfl ?_
      refine L_skip rfl rfl rfl rfl rfl rfl rfl ?_
      refine L_skip rfl rfl rfl rfl rfl rfl rfl ?_
      refine L_skip rfl rfl rfl rfl rfl rfl rfl ?_
      refine L_skip rfl rfl rfl rfl rfl rfl rfl ?_
      refine L_skip rfl rfl rfl rfl rfl rfl rfl ?_
      refine L_skip rfl rfl rfl rfl rfl rfl rfl ?_
      refine L_q rfl rfl rfl (by first | exact q_pickT rfl rfl | exact q_pickF rfl rfl) ?_
      refine L_q rfl rfl rfl (q_move rfl) ?_
      refine L_skip rfl rfl rfl rfl rfl rfl rfl ?_
      refine L_skip rfl rfl rfl rfl rfl rfl rfl ?_
      refine L_skip rfl rfl rfl rfl rfl rfl rfl ?_
      refine L_skip rfl rfl rfl rfl rfl rfl rfl ?_
      refine L_skip rfl rfl rfl rfl rfl rfl rfl ?_
      refine L_skip rfl rfl rfl rfl rfl rfl rfl ?_
      refine L_skip rfl rfl rfl rfl rfl rfl rfl ?_
      refine L_q rfl rfl rfl (by first | exact q_pickT rfl rfl | exact q_pickF rfl rfl) ?_
      refine L_q rfl rfl rfl (q_move rfl) ?_
      refine L_skip rfl rfl rfl rfl rfl rfl rfl ?_
      refine L_skip rfl rfl rfl rfl rfl rfl rfl ?_
      refine L_skip rfl rfl rfl rfl rfl rfl rfl ?_
      refine L_q rfl rfl rfl (by first | exact q_pickT rfl rfl | exact q_pickF rfl rfl) ?_
      refine L_then ?_
      refine C_true rfl ?_
      refine C_seq ?_
      refine C_region ?_
      refine L_q rfl rfl rfl (q_assign rfl) ?_
      refine L_then ?_
      refine C_ret ?_
      exact ret_of (res1 rfl rfl) sub_nil (by intro r hr; cases hr) ⟨rfl, rfl⟩
    · -- t28 False
      refine L_qg rfl rfl rfl rfl rfl rfl rfl (q_loadA tb rfl rfl bxo rfl rfl) ?_
      refine L_callg tb rfl rfl rfl rfl rfl rfl (ct_shotlineref08_CheckTide ma v wa (by omega)) (ps_cons (by first | exact gvo | exact gvd gvo (by omega)) no_ps) rfl ?_
      refine L_qg rfl rfl rfl rfl rfl rfl rfl (q_neq rfl rfl) ?_
      refine L_q rfl rfl rfl (by first | exact q_pickT rfl rfl | exact q_pickF rfl rfl) ?_
      refine L_q rfl rfl rfl (q_move rfl) ?_
      refine L_dec (d := 33) rfl (fun h3 => ?_) (fun h3 => ?_)
      · -- t33 True
        refine L_skip rfl rfl rfl rfl rfl rfl rfl ?_
        refine L_skip rfl rfl rfl rfl rfl rfl rfl ?_
        refine L_skip rfl rfl rfl rfl rfl rfl rfl ?_
        refine L_q rfl rfl rfl (by first | exact q_pickT rfl rfl | exact q_pickF rfl rfl) ?_
        refine L_q rfl rfl rfl (q_move rfl) ?_
        refine L_skip rfl rfl rfl rfl rfl rfl rfl ?_
        refine L_skip rfl rfl rfl rfl rfl rfl rfl ?_
        refine L_skip rfl rfl rfl rfl rfl rfl rfl ?_
        refine L_skip rfl rfl rfl rfl rfl rfl rfl ?_
        refine L_skip rfl rfl rfl rfl rfl rfl rfl ?_
        refine L_skip rfl rfl rfl rfl rfl rfl rfl ?_
        refine L_skip rfl rfl rfl rfl rfl rfl rfl ?_
        refine L_skip rfl rfl rfl rfl rfl rfl rfl ?_
        refine L_q rfl rfl rfl (by first | exact q_pickT rfl rfl | exact q_pickF rfl rfl) ?_
        refine L_q rfl rfl rfl (q_move rfl) ?_
        refine L_skip rfl rfl rfl rfl rfl rfl rfl ?_
        refine L_skip rfl rfl rfl rfl rfl rfl rfl ?_
        refine L_skip rfl rfl rfl rfl rfl rfl rfl ?_
        refine L_skip rfl rfl rfl rfl rfl rfl rfl ?_
        refine L_skip rfl rfl rfl rfl rfl rfl rfl ?_
        refine L_skip rfl rfl rfl rfl rfl rfl rfl ?_
        refine L_skip rfl rfl rfl rfl rfl rfl rfl ?_
        refine L_q rfl rfl rfl (by first | exact q_pickT rfl rfl | exact q_pickF rfl rfl) ?_
        refine L_q rfl rfl rfl (q_move rfl) ?_
        refine L_skip rfl rfl rfl rfl rfl rfl rfl ?_
        refine L_skip rfl rfl rfl rfl rfl rfl rfl ?_
        refine L_skip rfl rfl rfl rfl rfl rfl rfl ?_
        refine L_q rfl rfl rfl (by first | exact q_pickT rfl rfl | exact q_pickF rfl rfl) ?_
        refine L_then ?_
        refine C_true rfl ?_
        refine C_seq ?_
        refine C_region ?_
        refine L_q rfl rfl rfl (q_assign rfl) ?_
        refine L_then ?_
        refine C_ret ?_
        exact ret_of (res1 rfl rfl) sub_nil (by intro r hr; cases hr) ⟨rfl, rfl⟩
      · -- t33 False
        refine L_qg rfl rfl rfl rfl rfl rfl rfl (q_loadA tb rfl rfl bxo rfl rfl) ?_
        refine L_callg tb rfl rfl rfl rfl rfl rfl (ct_shotlineref08_CheckTide mb u wb (by omega)) (ps_cons (by first | exact gvo | exact gvd gvo (by omega)) no_ps) rfl ?_
        refine L_qg rfl rfl rfl rfl rfl rfl rfl (q_neq rfl rfl) ?_
        refine L_q rfl rfl rfl (by first | exact q_pickT rfl rfl | exact q_pickF rfl rfl) ?_
        refine L_q rfl rfl rfl (q_move rfl) ?_
        refine L_dec (d := 38) rfl (fun h4 => ?_) (fun h4 => ?_)
        · -- t38 True
          refine L_skip rfl rfl rfl rfl rfl rfl rfl ?_
          refine L_skip rfl rfl rfl rfl rfl rfl rfl ?_
          refine L_skip rfl rfl rfl rfl rfl rfl rfl ?_
          refine L_skip rfl rfl rfl rfl rfl rfl rfl ?_
          refine L_skip rfl rfl rfl rfl rfl rfl rfl ?_
          refine L_skip rfl rfl rfl rfl rfl rfl rfl ?_
          refine L_skip rfl rfl rfl rfl rfl rfl rfl ?_
          refine L_skip rfl rfl rfl rfl rfl rfl rfl ?_
          refine L_q rfl rfl rfl (by first | exact q_pickT rfl rfl | exact q_pickF rfl rfl) ?_
          refine L_q rfl rfl rfl (q_move rfl) ?_
          refine L_skip rfl rfl rfl rfl rfl rfl rfl ?_
          refine L_skip rfl rfl rfl rfl rfl rfl rfl ?_
          refine L_skip rfl rfl rfl rfl rfl rfl rfl ?_
          refine L_skip rfl rfl rfl rfl rfl rfl rfl ?_
          refine L_skip rfl rfl rfl rfl rfl rfl rfl ?_
          refine L_skip rfl rfl rfl rfl rfl rfl rfl ?_
          refine L_skip rfl rfl rfl rfl rfl rfl rfl ?_
          refine L_q rfl rfl rfl (by first | exact q_pickT rfl rfl | exact q_pickF rfl rfl) ?_
          refine L_q rfl rfl rfl (q_move rfl) ?_
          refine L_skip rfl rfl rfl rfl rfl rfl rfl ?_
          refine L_skip rfl rfl rfl rfl rfl rfl rfl ?_
          refine L_skip rfl rfl rfl rfl rfl rfl rfl ?_
          refine L_q rfl rfl rfl (by first | exact q_pickT rfl rfl | exact q_pickF rfl rfl) ?_
          refine L_then ?_
          refine C_true rfl ?_
          refine C_seq ?_
          refine C_region ?_
          refine L_q rfl rfl rfl (q_assign rfl) ?_
          refine L_then ?_
          refine C_ret ?_
          exact ret_of (res1 rfl rfl) sub_nil (by intro r hr; cases hr) ⟨rfl, rfl⟩
        · -- t38 False
          obtain ⟨hma, hla, hoa⟩ := ckTd_ok (Decidable.not_not.1 h3); obtain ⟨hmb, hlb, hob⟩ := ckTd_ok (Decidable.not_not.1 h4)
          refine L_qg rfl rfl rfl rfl rfl rfl rfl (q_field tb rfl rfl rfl) ?_
          refine L_qg rfl rfl rfl rfl rfl rfl rfl (q_load tb rfl rfl bxo rfl) ?_
          refine L_qg rfl rfl rfl rfl rfl rfl rfl (q_len tb rfl rfl (by first | exact gvo | exact gvd gvo (by omega))) ?_
          refine L_qg rfl rfl rfl rfl rfl rfl rfl (q_field tb rfl rfl rfl) ?_
          refine L_qg rfl rfl rfl rfl rfl rfl rfl (q_load tb rfl rfl bxo rfl) ?_
          refine L_qg rfl rfl rfl rfl rfl rfl rfl (q_len tb rfl rfl (by first | exact gvo | exact gvd gvo (by omega))) ?_
          refine L_qg rfl rfl rfl rfl rfl rfl rfl (q_add rfl rfl (by first | exact IntWalk.i64_in _ (by omega) | rfl)) ?_
          refine L_qg rfl rfl rfl rfl rfl rfl rfl (q_gtr rfl rfl) ?_
          refine L_q rfl rfl rfl (by first | exact q_pickT rfl rfl | exact q_pickF rfl rfl) ?_
          refine L_q rfl rfl rfl (q_move rfl) ?_
          refine L_dec (d := 48) rfl (fun h5 => ?_) (fun h5 => ?_)
          · -- t48 True
            refine L_skip rfl rfl rfl rfl rfl rfl rfl ?_
            refine L_skip rfl rfl rfl rfl rfl rfl rfl ?_
            refine L_skip rfl rfl rfl rfl rfl rfl rfl ?_
            refine L_skip rfl rfl rfl rfl rfl rfl rfl ?_
            refine L_skip rfl rfl rfl rfl rfl rfl rfl ?_
            refine L_skip rfl rfl rfl rfl rfl rfl rfl ?_
            refine L_skip rfl rfl rfl rfl rfl rfl rfl ?_
            refine L_q rfl rfl rfl (by first | exact q_pickT rfl rfl | exact q_pickF rfl rfl) ?_
            refine L_q rfl rfl rfl (q_move rfl) ?_
            refine L_skip rfl rfl rfl rfl rfl rfl rfl ?_
            refine L_skip rfl rfl rfl rfl rfl rfl rfl ?_
            refine L_skip rfl rfl rfl rfl rfl rfl rfl ?_
            refine L_q rfl rfl rfl (by first | exact q_pickT rfl rfl | exact q_pickF rfl rfl) ?_
            refine L_then ?_
            refine C_true rfl ?_
            refine C_seq ?_
            refine C_region ?_
            refine L_q rfl rfl rfl (q_assign rfl) ?_
            refine L_then ?_
            refine C_ret ?_
            exact ret_of (res1 rfl rfl) sub_nil (by intro r hr; cases hr) ⟨rfl, rfl⟩
          · -- t48 False
            refine L_qg rfl rfl rfl rfl rfl rfl rfl (q_field tb rfl rfl rfl) ?_
            refine L_qg rfl rfl rfl rfl rfl rfl rfl (q_load tb rfl rfl bxo rfl) ?_
            refine L_qg rfl rfl rfl rfl rfl rfl rfl (q_field tb rfl rfl rfl) ?_
            refine L_qg rfl rfl rfl rfl rfl rfl rfl (q_load tb rfl rfl bxo rfl) ?_
            refine L_qg rfl rfl rfl rfl rfl rfl rfl (q_add rfl rfl (by first | exact IntWalk.i64_in _ (by omega) | rfl)) ?_
            refine L_callg tb rfl rfl rfl rfl rfl rfl (ct_shotlinebase_Within _ _ _) no_ps rfl ?_
            refine L_qg rfl rfl rfl rfl rfl rfl rfl (q_not rfl (by first | exact (rfl : (!true) = false) | exact (rfl : (!false) = true) | exact decide_not.symm | rfl)) ?_
            refine L_q rfl rfl rfl (by first | exact q_pickT rfl rfl | exact q_pickF rfl rfl) ?_
            refine L_q rfl rfl rfl (q_move rfl) ?_
            refine L_dec (d := 57) rfl (fun h6 => ?_) (fun h6 => ?_)
            · -- t57 True
              refine L_skip rfl rfl rfl rfl rfl rfl rfl ?_
              refine L_skip rfl rfl rfl rfl rfl rfl rfl ?_
              refine L_skip rfl rfl rfl rfl rfl rfl rfl ?_
              refine L_q rfl rfl rfl (by first | exact q_pickT rfl rfl | exact q_pickF rfl rfl) ?_
              refine L_then ?_
              refine C_true rfl ?_
              refine C_seq ?_
              refine C_region ?_
              refine L_q rfl rfl rfl (q_assign rfl) ?_
              refine L_then ?_
              refine C_ret ?_
              exact ret_of (res1 rfl rfl) sub_nil (by intro r hr; cases hr) ⟨rfl, rfl⟩
            · -- t57 False
              refine L_qg rfl rfl rfl rfl rfl rfl rfl (q_move rfl) ?_
              refine L_callg tb rfl rfl rfl rfl rfl rfl (ct_shotlineref08_IsMinute _) no_ps rfl ?_
              refine L_qg rfl rfl rfl rfl rfl rfl rfl (q_not rfl (by first | exact (rfl : (!true) = false) | exact (rfl : (!false) = true) | exact decide_not.symm | rfl)) ?_
              refine L_q rfl rfl rfl (by first | exact q_pickT rfl rfl | exact q_pickF rfl rfl) ?_
              refine L_then ?_
              refine C_dec rfl (fun h7 => ?_) (fun h7 => ?_)
              · -- t61 True
                refine C_seq ?_
                refine C_region ?_
                refine L_q rfl rfl rfl (q_assign rfl) ?_
                refine L_then ?_
                refine C_ret ?_
                exact ret_of (res1 rfl rfl) sub_nil (by intro r hr; cases hr) ⟨rfl, rfl⟩
              · -- t61 False
                have hn : 0 ≤ n ∧ n ≤ 1000000 := by omega
                obtain ⟨d1, d2⟩ := lev_add (a := wa) (b := wb) (ma := ma) (mb := mb) (m := n); obtain ⟨d3, d4⟩ := lev_ov hoa (ma := ma) hn; obtain ⟨d5, d6⟩ := lev_bd hoa hla (m := n) hma; obtain ⟨d7, d8⟩ := lev_bd hob hlb (m := n) hmb
                refine C_skip_then ?_
                refine C_seq ?_
                refine C_region ?_
                refine L_q rfl rfl rfl (q_loadA tb rfl rfl bxo rfl rfl) ?_
                refine L_q rfl rfl rfl (q_move rfl) ?_
                refine L_call tb rfl rfl (ct_site_LevelAt ma v wa hoa hla hma n hn) (ps_cons (by first | exact gvo | exact gvd gvo (by omega)) no_ps) rfl ?_
                refine L_q rfl rfl rfl (q_move rfl) ?_
                refine L_q rfl rfl rfl (q_ext0 rfl) ?_
                refine L_q rfl rfl rfl (q_ext1 rfl) ?_
                refine L_alloc tb rfl rfl fun g7 => ?_
                first | refine L_store tb rfl rfl rfl rfl rfl rfl rfl rfl ?_ | (refine L_front1 ?_; refine L_store tb rfl rfl rfl rfl rfl rfl rfl rfl ?_) | (refine L_front2 ?_; refine L_store tb rfl rfl rfl rfl rfl rfl rfl rfl ?_) | (refine L_front3 ?_; refine L_store tb rfl rfl rfl rfl rfl rfl rfl rfl ?_) | (refine L_front4 ?_; refine L_store tb rfl rfl rfl rfl rfl rfl rfl rfl ?_) | (refine L_front5 ?_; refine L_store tb rfl rfl rfl rfl rfl rfl rfl rfl ?_) | (refine L_front6 ?_; refine L_store tb rfl rfl rfl rfl rfl rfl rfl rfl ?_)
                refine L_q rfl rfl rfl (q_assign rfl) ?_
                refine L_then ?_
                refine C_seq ?_
                refine C_region ?_
                refine L_q rfl rfl rfl (q_loadA tb rfl rfl bxo rfl rfl) ?_
                refine L_q rfl rfl rfl (q_move rfl) ?_
                refine L_call tb rfl rfl (ct_site_LevelAt mb u wb hob hlb hmb n hn) (ps_cons (by first | exact gvo | exact gvd gvo (by omega)) no_ps) rfl ?_
                refine L_q rfl rfl rfl (q_move rfl) ?_
                refine L_q rfl rfl rfl (q_ext0 rfl) ?_
                refine L_q rfl rfl rfl (q_ext1 rfl) ?_
                refine L_alloc tb rfl rfl fun g9 => ?_
                first | refine L_store tb rfl rfl rfl rfl rfl rfl rfl rfl ?_ | (refine L_front1 ?_; refine L_store tb rfl rfl rfl rfl rfl rfl rfl rfl ?_) | (refine L_front2 ?_; refine L_store tb rfl rfl rfl rfl rfl rfl rfl rfl ?_) | (refine L_front3 ?_; refine L_store tb rfl rfl rfl rfl rfl rfl rfl rfl ?_) | (refine L_front4 ?_; refine L_store tb rfl rfl rfl rfl rfl rfl rfl rfl ?_) | (refine L_front5 ?_; refine L_store tb rfl rfl rfl rfl rfl rfl rfl rfl ?_) | (refine L_front6 ?_; refine L_store tb rfl rfl rfl rfl rfl rfl rfl rfl ?_)
                refine L_q rfl rfl rfl (q_assign rfl) ?_
                refine L_then ?_
                refine C_seq ?_
                refine C_res (rs' := [box g9 31 [.int .i64 (levM mb wb n).lo, .int .i64 (levM mb wb n).hi], box g7 31 [.int .i64 (levM ma wa n).lo, .int .i64 (levM ma wa n).hi], box g4 24 [.int .i64 mb, u], box g3 24 [.int .i64 ma, v], rd v 3 (wa.map cWv), rd u 3 (wb.map cWv)]) (fun _ h => h.pk (by repeat (first | with_reducible exact pk_nil | refine pk_box rfl ?_ | refine pk_rd rfl ?_ | refine pk_sl rfl ?_ | with_reducible refine pk_app ?_ | with_reducible refine pk_app0 ?_ | with_reducible refine pk_app0L ?_ | with_reducible exact pk_tl | refine pk_var ?_))) ?_
                refine Kp.C_treeO0 (ι := Nat) (.q 0 (.q 1 (.q 2 (.q 3 (.q 4 (.q 6 (.q 7 (.q 9 (.q 10 (.q 13 (.s2 5 18 (.s2 8 18 (.s2 11 18 (.q 12 (.s2 14 18 (.q 15 (.q 16 (.q 17 (.s 18 (.s 19 (.s 20 .nil)))))) (.s 14 (.q 15 (.q 16 (.q 17 (.s 19 (.s 20 .nil)))))))) (.s 11 (.q 12 (.s 14 (.q 15 (.q 16 (.q 17 (.s 19 (.s 20 .nil))))))))) (.s 8 (.s 11 (.q 12 (.s 14 (.q 15 (.q 16 (.q 17 (.s 19 (.s 20 .nil)))))))))) (.s 5 (.s 8 (.s 11 (.q 12 (.s 14 (.q 15 (.q 16 (.q 17 (.s 19 (.s 20 .nil))))))))))))))))))))) (fun q => ([(2, .int .i64 n), (3, .pointer (some ⟨g3, 0, none⟩)), (4, .pointer (some ⟨g4, 0, none⟩)), (7, .pointer (some ⟨g7, 0, none⟩)), (8, .int .i64 0), (9, .pointer (some ⟨g9, 0, none⟩)), (10, .int .i64 0), (11, .pointer (some ⟨q, 0, none⟩)), (12, .int .i64 0)], [box q 31 [.int .i64 (levM (ma + mb) (wa ++ wb) n).lo, .int .i64 (levM (ma + mb) (wa ++ wb) n).hi], box g9 31 [.int .i64 (levM mb wb n).lo, .int .i64 (levM mb wb n).hi], box g7 31 [.int .i64 (levM ma wa n).lo, .int .i64 (levM ma wa n).hi], box g4 24 [.int .i64 mb, u], box g3 24 [.int .i64 ma, v], rd v 3 (wa.map cWv), rd u 3 (wb.map cWv)])) mixed (by kernel_rfl) rfl (by kernel_rfl) ?_ ?_
                · skip
                  refine Kp.Z_q rfl rfl rfl rfl (q_field tb rfl rfl rfl) ?_
                  refine Kp.Z_q rfl rfl rfl rfl (q_load tb rfl rfl bxo rfl) ?_
                  refine Kp.Z_q rfl rfl rfl rfl (q_field tb rfl rfl rfl) ?_
                  refine Kp.Z_q rfl rfl rfl rfl (q_load tb rfl rfl bxo rfl) ?_
                  refine Kp.Z_q rfl rfl rfl rfl (q_add rfl rfl (by first | exact IntWalk.i64_in _ (by omega) | rfl)) ?_
                  refine Kp.Z_q rfl rfl rfl rfl (q_field tb rfl rfl rfl) ?_
                  refine Kp.Z_q rfl rfl rfl rfl (q_load tb rfl rfl bxo rfl) ?_
                  refine Kp.Z_q rfl rfl rfl rfl (q_field tb rfl rfl rfl) ?_
                  refine Kp.Z_q rfl rfl rfl rfl (q_load tb rfl rfl bxo rfl) ?_
                  refine Kp.Z_q rfl rfl rfl rfl (q_move rfl) ?_
                  refine Kp.Z_s2 ?_ ?_
                  · skip
                    refine Kp.St_mk rfl rfl rfl rfl (lo_bslice tb rfl rfl rfl (xs := []) rfl rfl (by simp) rfl (by omega) rfl) fun v80 => ?_
                    refine Kp.Z_s2 ?_ ?_
                    · skip
                      first | refine Kp.St_append tb rfl rfl rfl (List.Perm.refl _) rfl rfl rfl (by omega) rfl rfl (l2 := wa.map cWv) gvo (oneWv wa) (by simp [maxLen]; omega) (by simp; omega) fun v83 => ?_ | refine Kp.St_append tb rfl rfl rfl perm1 rfl rfl rfl (by omega) rfl rfl (l2 := wa.map cWv) gvo (oneWv wa) (by simp [maxLen]; omega) (by simp; omega) fun v83 => ?_ | refine Kp.St_append tb rfl rfl rfl (perm_front (pre := [_, _])) rfl rfl rfl (by omega) rfl rfl (l2 := wa.map cWv) gvo (oneWv wa) (by simp [maxLen]; omega) (by simp; omega) fun v83 => ?_ | refine Kp.St_append tb rfl rfl rfl (perm_front (pre := [_, _, _])) rfl rfl rfl (by omega) rfl rfl (l2 := wa.map cWv) gvo (oneWv wa) (by simp [maxLen]; omega) (by simp; omega) fun v83 => ?_ | refine Kp.St_append tb rfl rfl rfl (perm_front (pre := [_, _, _, _])) rfl rfl rfl (by omega) rfl rfl (l2 := wa.map cWv) gvo (oneWv wa) (by simp [maxLen]; omega) (by simp; omega) fun v83 => ?_
                      refine Kp.Z_s2 ?_ ?_
                      · skip
                        first | refine Kp.St_appendF tb rfl rfl rfl (List.Perm.refl _) rfl rfl rfl (by omega) rfl rfl (l2 := wb.map cWv) gvo (oneWv wb) (by simp [maxLen]; omega) (by simp; omega) fun A86 c86 => ?_ | refine Kp.St_appendF tb rfl rfl rfl perm1 rfl rfl rfl (by omega) rfl rfl (l2 := wb.map cWv) gvo (oneWv wb) (by simp [maxLen]; omega) (by simp; omega) fun A86 c86 => ?_ | refine Kp.St_appendF tb rfl rfl rfl (perm_front (pre := [_, _])) rfl rfl rfl (by omega) rfl rfl (l2 := wb.map cWv) gvo (oneWv wb) (by simp [maxLen]; omega) (by simp; omega) fun A86 c86 => ?_ | refine Kp.St_appendF tb rfl rfl rfl (perm_front (pre := [_, _, _])) rfl rfl rfl (by omega) rfl rfl (l2 := wb.map cWv) gvo (oneWv wb) (by simp [maxLen]; omega) (by simp; omega) fun A86 c86 => ?_ | refine Kp.St_appendF tb rfl rfl rfl (perm_front (pre := [_, _, _, _])) rfl rfl rfl (by omega) rfl rfl (l2 := wb.map cWv) gvo (oneWv wb) (by simp [maxLen]; omega) (by simp; omega) fun A86 c86 => ?_
                        refine Kp.Z_q rfl rfl rfl rfl (by first | exact q_build tb rfl rfl rfl rfl | exact q_buildArr tb rfl rfl rfl rfl rfl) ?_
                        refine Kp.Z_s2 ?_ ?_
                        · skip
                          refine Kp.St_call tb rfl rfl rfl rfl (ct_site_LevelAt (ma + mb) _ (wa ++ wb) (app_ok hoa hob) (by rw [List.length_append]; omega) (by omega) n hn) (ps_cons (by rw [List.map_append]; first | exact gs0 | exact gv1 gs0) no_ps) rfl ?_
                          refine Kp.Z_q rfl rfl rfl rfl (q_move rfl) ?_
                          refine Kp.Z_q rfl rfl rfl rfl (q_ext0 rfl) ?_
                          refine Kp.Z_q rfl rfl rfl rfl (q_ext1 rfl) ?_
                          refine Kp.Z_s ?_
                          refine Kp.St_alloc tb rfl rfl rfl rfl fun g11 => ?_
                          refine Kp.Z_s ?_
                          first | refine Kp.St_store tb rfl rfl (List.Perm.refl _) rfl rfl rfl rfl rfl rfl rfl rfl ?_ | refine Kp.St_store tb rfl rfl perm1 rfl rfl rfl rfl rfl rfl rfl rfl ?_ | refine Kp.St_store tb rfl rfl (perm_front (pre := [_, _])) rfl rfl rfl rfl rfl rfl rfl rfl ?_ | refine Kp.St_store tb rfl rfl (perm_front (pre := [_, _, _])) rfl rfl rfl rfl rfl rfl rfl rfl ?_ | refine Kp.St_store tb rfl rfl (perm_front (pre := [_, _, _, _])) rfl rfl rfl rfl rfl rfl rfl rfl ?_
                          refine Kp.Z_s ?_
                          refine Kp.St_q rfl rfl rfl rfl (q_assign rfl) ?_
                          refine Kp.Z_nil ?_
                          try dsimp only [List.append, List.cons_append, List.nil_append]
                          exact ⟨g11, fun a_ w_ hs_ => hs_.weak ⟨rfl, rfl, rfl, rfl, rfl, rfl, rfl, rfl, rfl, trivial⟩ (fun h => h.pk (by repeat (first | with_reducible exact pk_nil | refine pk_box rfl ?_ | refine pk_rd rfl ?_ | refine pk_sl rfl ?_ | with_reducible refine pk_app ?_ | with_reducible refine pk_app0 ?_ | with_reducible refine pk_app0L ?_ | with_reducible exact pk_tl | refine pk_var ?_)))⟩
                        · skip
                          refine Kp.St_alloc tb rfl rfl rfl rfl fun g11 => ?_
                          refine Kp.Z_s ?_
                          refine Kp.St_call tb rfl rfl rfl rfl (ct_site_LevelAt (ma + mb) _ (wa ++ wb) (app_ok hoa hob) (by rw [List.length_append]; omega) (by omega) n hn) (ps_cons (by rw [List.map_append]; first | exact gs0 | exact gv1 gs0) no_ps) rfl ?_
                          refine Kp.Z_q rfl rfl rfl rfl (q_move rfl) ?_
                          refine Kp.Z_q rfl rfl rfl rfl (q_ext0 rfl) ?_
                          refine Kp.Z_q rfl rfl rfl rfl (q_ext1 rfl) ?_
                          refine Kp.Z_s ?_
                          first | refine Kp.St_store tb rfl rfl (List.Perm.refl _) rfl rfl rfl rfl rfl rfl rfl rfl ?_ | refine Kp.St_store tb rfl rfl perm1 rfl rfl rfl rfl rfl rfl rfl rfl ?_ | refine Kp.St_store tb rfl rfl (perm_front (pre := [_, _])) rfl rfl rfl rfl rfl rfl rfl rfl ?_ | refine Kp.St_store tb rfl rfl (perm_front (pre := [_, _, _])) rfl rfl rfl rfl rfl rfl rfl rfl ?_ | refine Kp.St_store tb rfl rfl (perm_front (pre := [_, _, _, _])) rfl rfl rfl rfl rfl rfl rfl rfl ?_
                          refine Kp.Z_s ?_
                          refine Kp.St_q rfl rfl rfl rfl (q_assign rfl) ?_
                          refine Kp.Z_nil ?_
                          try dsimp only [List.append, List.cons_append, List.nil_append]
                          exact ⟨g11, fun a_ w_ hs_ => hs_.weak ⟨rfl, rfl, rfl, rfl, rfl, rfl, rfl, rfl, rfl, trivial⟩ (fun h => h.pk (by repeat (first | with_reducible exact pk_nil | refine pk_box rfl ?_ | refine pk_rd rfl ?_ | refine pk_sl rfl ?_ | with_reducible refine pk_app ?_ | with_reducible refine pk_app0 ?_ | with_reducible refine pk_app0L ?_ | with_reducible exact pk_tl | refine pk_var ?_)))⟩
                      · skip
                        refine Kp.St_alloc tb rfl rfl rfl rfl fun g11 => ?_
                        refine Kp.Z_s ?_
                        first | refine Kp.St_appendF tb rfl rfl rfl (List.Perm.refl _) rfl rfl rfl (by omega) rfl rfl (l2 := wb.map cWv) gvo (oneWv wb) (by simp [maxLen]; omega) (by simp; omega) fun A86 c86 => ?_ | refine Kp.St_appendF tb rfl rfl rfl perm1 rfl rfl rfl (by omega) rfl rfl (l2 := wb.map cWv) gvo (oneWv wb) (by simp [maxLen]; omega) (by simp; omega) fun A86 c86 => ?_ | refine Kp.St_appendF tb rfl rfl rfl (perm_front (pre := [_, _])) rfl rfl rfl (by omega) rfl rfl (l2 := wb.map cWv) gvo (oneWv wb) (by simp [maxLen]; omega) (by simp; omega) fun A86 c86 => ?_ | refine Kp.St_appendF tb rfl rfl rfl (perm_front (pre := [_, _, _])) rfl rfl rfl (by omega) rfl rfl (l2 := wb.map cWv) gvo (oneWv wb) (by simp [maxLen]; omega) (by simp; omega) fun A86 c86 => ?_ | refine Kp.St_appendF tb rfl rfl rfl (perm_front (pre := [_, _, _, _])) rfl rfl rfl (by omega) rfl rfl (l2 := wb.map cWv) gvo (oneWv wb) (by simp [maxLen]; omega) (by simp; omega) fun A86 c86 => ?_
                        refine Kp.Z_q rfl rfl rfl rfl (by first | exact q_build tb rfl rfl rfl rfl | exact q_buildArr tb rfl rfl rfl rfl rfl) ?_
                        refine Kp.Z_s ?_
                        refine Kp.St_call tb rfl rfl rfl rfl (ct_site_LevelAt (ma + mb) _ (wa ++ wb) (app_ok hoa hob) (by rw [List.length_append]; omega) (by omega) n hn) (ps_cons (by rw [List.map_append]; first | exact gs0 | exact gv1 gs0) no_ps) rfl ?_
                        refine Kp.Z_q rfl rfl rfl rfl (q_move rfl) ?_
                        refine Kp.Z_q rfl rfl rfl rfl (q_ext0 rfl) ?_
                        refine Kp.Z_q rfl rfl rfl rfl (q_ext1 rfl) ?_
                        refine Kp.Z_s ?_
                        first | refine Kp.St_store tb rfl rfl (List.Perm.refl _) rfl rfl rfl rfl rfl rfl rfl rfl ?_ | refine Kp.St_store tb rfl rfl perm1 rfl rfl rfl rfl rfl rfl rfl rfl ?_ | refine Kp.St_store tb rfl rfl (perm_front (pre := [_, _])) rfl rfl rfl rfl rfl rfl rfl rfl ?_ | refine Kp.St_store tb rfl rfl (perm_front (pre := [_, _, _])) rfl rfl rfl rfl rfl rfl rfl rfl ?_ | refine Kp.St_store tb rfl rfl (perm_front (pre := [_, _, _, _])) rfl rfl rfl rfl rfl rfl rfl rfl ?_
                        refine Kp.Z_s ?_
                        refine Kp.St_q rfl rfl rfl rfl (q_assign rfl) ?_
                        refine Kp.Z_nil ?_
                        try dsimp only [List.append, List.cons_append, List.nil_append]
                        exact ⟨g11, fun a_ w_ hs_ => hs_.weak ⟨rfl, rfl, rfl, rfl, rfl, rfl, rfl, rfl, rfl, trivial⟩ (fun h => h.pk (by repeat (first | with_reducible exact pk_nil | refine pk_box rfl ?_ | refine pk_rd rfl ?_ | refine pk_sl rfl ?_ | with_reducible refine pk_app ?_ | with_reducible refine pk_app0 ?_ | with_reducible refine pk_app0L ?_ | with_reducible exact pk_tl | refine pk_var ?_)))⟩
                    · skip
                      refine Kp.St_alloc tb rfl rfl rfl rfl fun g11 => ?_
                      refine Kp.Z_s ?_
                      first | refine Kp.St_append tb rfl rfl rfl (List.Perm.refl _) rfl rfl rfl (by omega) rfl rfl (l2 := wa.map cWv) gvo (oneWv wa) (by simp [maxLen]; omega) (by simp; omega) fun v83 => ?_ | refine Kp.St_append tb rfl rfl rfl perm1 rfl rfl rfl (by omega) rfl rfl (l2 := wa.map cWv) gvo (oneWv wa) (by simp [maxLen]; omega) (by simp; omega) fun v83 => ?_ | refine Kp.St_append tb rfl rfl rfl (perm_front (pre := [_, _])) rfl rfl rfl (by omega) rfl rfl (l2 := wa.map cWv) gvo (oneWv wa) (by simp [maxLen]; omega) (by simp; omega) fun v83 => ?_ | refine Kp.St_append tb rfl rfl rfl (perm_front (pre := [_, _, _])) rfl rfl rfl (by omega) rfl rfl (l2 := wa.map cWv) gvo (oneWv wa) (by simp [maxLen]; omega) (by simp; omega) fun v83 => ?_ | refine Kp.St_append tb rfl rfl rfl (perm_front (pre := [_, _, _, _])) rfl rfl rfl (by omega) rfl rfl (l2 := wa.map cWv) gvo (oneWv wa) (by simp [maxLen]; omega) (by simp; omega) fun v83 => ?_
                      refine Kp.Z_s ?_
                      first | refine Kp.St_appendF tb rfl rfl rfl (List.Perm.refl _) rfl rfl rfl (by omega) rfl rfl (l2 := wb.map cWv) gvo (oneWv wb) (by simp [maxLen]; omega) (by simp; omega) fun A86 c86 => ?_ | refine Kp.St_appendF tb rfl rfl rfl perm1 rfl rfl rfl (by omega) rfl rfl (l2 := wb.map cWv) gvo (oneWv wb) (by simp [maxLen]; omega) (by simp; omega) fun A86 c86 => ?_ | refine Kp.St_appendF tb rfl rfl rfl (perm_front (pre := [_, _])) rfl rfl rfl (by omega) rfl rfl (l2 := wb.map cWv) gvo (oneWv wb) (by simp [maxLen]; omega) (by simp; omega) fun A86 c86 => ?_ | refine Kp.St_appendF tb rfl rfl rfl (perm_front (pre := [_, _, _])) rfl rfl rfl (by omega) rfl rfl (l2 := wb.map cWv) gvo (oneWv wb) (by simp [maxLen]; omega) (by simp; omega) fun A86 c86 => ?_ | refine Kp.St_appendF tb rfl rfl rfl (perm_front (pre := [_, _, _, _])) rfl rfl rfl (by omega) rfl rfl (l2 := wb.map cWv) gvo (oneWv wb) (by simp [maxLen]; omega) (by simp; omega) fun A86 c86 => ?_
                      refine Kp.Z_q rfl rfl rfl rfl (by first | exact q_build tb rfl rfl rfl rfl | exact q_buildArr tb rfl rfl rfl rfl rfl) ?_
                      refine Kp.Z_s ?_
                      refine Kp.St_call tb rfl rfl rfl rfl (ct_site_LevelAt (ma + mb) _ (wa ++ wb) (app_ok hoa hob) (by rw [List.length_append]; omega) (by omega) n hn) (ps_cons (by rw [List.map_append]; first | exact gs0 | exact gv1 gs0) no_ps) rfl ?_
                      refine Kp.Z_q rfl rfl rfl rfl (q_move rfl) ?_
                      refine Kp.Z_q rfl rfl rfl rfl (q_ext0 rfl) ?_
                      refine Kp.Z_q rfl rfl rfl rfl (q_ext1 rfl) ?_
                      refine Kp.Z_s ?_
                      first | refine Kp.St_store tb rfl rfl (List.Perm.refl _) rfl rfl rfl rfl rfl rfl rfl rfl ?_ | refine Kp.St_store tb rfl rfl perm1 rfl rfl rfl rfl rfl rfl rfl rfl ?_ | refine Kp.St_store tb rfl rfl (perm_front (pre := [_, _])) rfl rfl rfl rfl rfl rfl rfl rfl ?_ | refine Kp.St_store tb rfl rfl (perm_front (pre := [_, _, _])) rfl rfl rfl rfl rfl rfl rfl rfl ?_ | refine Kp.St_store tb rfl rfl (perm_front (pre := [_, _, _, _])) rfl rfl rfl rfl rfl rfl rfl rfl ?_
                      refine Kp.Z_s ?_
                      refine Kp.St_q rfl rfl rfl rfl (q_assign rfl) ?_
                      refine Kp.Z_nil ?_
                      try dsimp only [List.append, List.cons_append, List.nil_append]
                      exact ⟨g11, fun a_ w_ hs_ => hs_.weak ⟨rfl, rfl, rfl, rfl, rfl, rfl, rfl, rfl, rfl, trivial⟩ (fun h => h.pk (by repeat (first | with_reducible exact pk_nil | refine pk_box rfl ?_ | refine pk_rd rfl ?_ | refine pk_sl rfl ?_ | with_reducible refine pk_app ?_ | with_reducible refine pk_app0 ?_ | with_reducible refine pk_app0L ?_ | with_reducible exact pk_tl | refine pk_var ?_)))⟩
                  · skip
                    refine Kp.St_alloc tb rfl rfl rfl rfl fun g11 => ?_
                    refine Kp.Z_s ?_
                    refine Kp.St_mk rfl rfl rfl rfl (lo_bslice tb rfl rfl rfl (xs := []) rfl rfl (by simp) rfl (by omega) rfl) fun v80 => ?_
                    refine Kp.Z_s ?_
                    first | refine Kp.St_append tb rfl rfl rfl (List.Perm.refl _) rfl rfl rfl (by omega) rfl rfl (l2 := wa.map cWv) gvo (oneWv wa) (by simp [maxLen]; omega) (by simp; omega) fun v83 => ?_ | refine Kp.St_append tb rfl rfl rfl perm1 rfl rfl rfl (by omega) rfl rfl (l2 := wa.map cWv) gvo (oneWv wa) (by simp [maxLen]; omega) (by simp; omega) fun v83 => ?_ | refine Kp.St_append tb rfl rfl rfl (perm_front (pre := [_, _])) rfl rfl rfl (by omega) rfl rfl (l2 := wa.map cWv) gvo (oneWv wa) (by simp [maxLen]; omega) (by simp; omega) fun v83 => ?_ | refine Kp.St_append tb rfl rfl rfl (perm_front (pre := [_, _, _])) rfl rfl rfl (by omega) rfl rfl (l2 := wa.map cWv) gvo (oneWv wa) (by simp [maxLen]; omega) (by simp; omega) fun v83 => ?_ | refine Kp.St_append tb rfl rfl rfl (perm_front (pre := [_, _, _, _])) rfl rfl rfl (by omega) rfl rfl (l2 := wa.map cWv) gvo (oneWv wa) (by simp [maxLen]; omega) (by simp; omega) fun v83 => ?_
                    refine Kp.Z_s ?_
                    first | refine Kp.St_appendF tb rfl rfl rfl (List.Perm.refl _) rfl rfl rfl (by omega) rfl rfl (l2 := wb.map cWv) gvo (oneWv wb) (by simp [maxLen]; omega) (by simp; omega) fun A86 c86 => ?_ | refine Kp.St_appendF tb rfl rfl rfl perm1 rfl rfl rfl (by omega) rfl rfl (l2 := wb.map cWv) gvo (oneWv wb) (by simp [maxLen]; omega) (by simp; omega) fun A86 c86 => ?_ | refine Kp.St_appendF tb rfl rfl rfl (perm_front (pre := [_, _])) rfl rfl rfl (by omega) rfl rfl (l2 := wb.map cWv) gvo (oneWv wb) (by simp [maxLen]; omega) (by simp; omega) fun A86 c86 => ?_ | refine Kp.St_appendF tb rfl rfl rfl (perm_front (pre := [_, _, _])) rfl rfl rfl (by omega) rfl rfl (l2 := wb.map cWv) gvo (oneWv wb) (by simp [maxLen]; omega) (by simp; omega) fun A86 c86 => ?_ | refine Kp.St_appendF tb rfl rfl rfl (perm_front (pre := [_, _, _, _])) rfl rfl rfl (by omega) rfl rfl (l2 := wb.map cWv) gvo (oneWv wb) (by simp [maxLen]; omega) (by simp; omega) fun A86 c86 => ?_
                    refine Kp.Z_q rfl rfl rfl rfl (by first | exact q_build tb rfl rfl rfl rfl | exact q_buildArr tb rfl rfl rfl rfl rfl) ?_
                    refine Kp.Z_s ?_
                    refine Kp.St_call tb rfl rfl rfl rfl (ct_site_LevelAt (ma + mb) _ (wa ++ wb) (app_ok hoa hob) (by rw [List.length_append]; omega) (by omega) n hn) (ps_cons (by rw [List.map_append]; first | exact gs0 | exact gv1 gs0) no_ps) rfl ?_
                    refine Kp.Z_q rfl rfl rfl rfl (q_move rfl) ?_
                    refine Kp.Z_q rfl rfl rfl rfl (q_ext0 rfl) ?_
                    refine Kp.Z_q rfl rfl rfl rfl (q_ext1 rfl) ?_
                    refine Kp.Z_s ?_
                    first | refine Kp.St_store tb rfl rfl (List.Perm.refl _) rfl rfl rfl rfl rfl rfl rfl rfl ?_ | refine Kp.St_store tb rfl rfl perm1 rfl rfl rfl rfl rfl rfl rfl rfl ?_ | refine Kp.St_store tb rfl rfl (perm_front (pre := [_, _])) rfl rfl rfl rfl rfl rfl rfl rfl ?_ | refine Kp.St_store tb rfl rfl (perm_front (pre := [_, _, _])) rfl rfl rfl rfl rfl rfl rfl rfl ?_ | refine Kp.St_store tb rfl rfl (perm_front (pre := [_, _, _, _])) rfl rfl rfl rfl rfl rfl rfl rfl ?_
                    refine Kp.Z_s ?_
                    refine Kp.St_q rfl rfl rfl rfl (q_assign rfl) ?_
                    refine Kp.Z_nil ?_
                    try dsimp only [List.append, List.cons_append, List.nil_append]
                    exact ⟨g11, fun a_ w_ hs_ => hs_.weak ⟨rfl, rfl, rfl, rfl, rfl, rfl, rfl, rfl, rfl, trivial⟩ (fun h => h.pk (by repeat (first | with_reducible exact pk_nil | refine pk_box rfl ?_ | refine pk_rd rfl ?_ | refine pk_sl rfl ?_ | with_reducible refine pk_app ?_ | with_reducible refine pk_app0 ?_ | with_reducible refine pk_app0L ?_ | with_reducible exact pk_tl | refine pk_var ?_)))⟩
                · skip
                  (intro g11; dsimp only)
                  refine L_then ?_
                  refine C_seq ?_
                  refine C_seq ?_
                  refine C_region ?_
                  refine L_q rfl rfl rfl (q_move rfl) ?_
                  refine L_q rfl rfl rfl (q_false (q_neq rfl rfl) (by simp)) ?_
                  refine L_q rfl rfl rfl (q_move rfl) ?_
                  refine L_qg rfl rfl rfl rfl rfl rfl rfl (q_move rfl) ?_
                  refine L_qg rfl rfl rfl rfl rfl rfl rfl (q_false (q_neq rfl rfl) (by simp)) ?_
                  refine L_q rfl rfl rfl (by first | exact q_pickT rfl rfl | exact q_pickF rfl rfl) ?_
                  refine L_q rfl rfl rfl (q_move rfl) ?_
                  refine L_qg rfl rfl rfl rfl rfl rfl rfl (q_move rfl) ?_
                  refine L_qg rfl rfl rfl rfl rfl rfl rfl (q_false (q_neq rfl rfl) (by simp)) ?_
                  refine L_q rfl rfl rfl (by first | exact q_pickT rfl rfl | exact q_pickF rfl rfl) ?_
                  refine L_q rfl rfl rfl (q_move rfl) ?_
                  refine L_qg rfl rfl rfl rfl rfl rfl rfl (q_field tb rfl rfl rfl) ?_
                  refine L_qg rfl rfl rfl rfl rfl rfl rfl (q_load tb rfl rfl bxo rfl) ?_
                  refine L_qg rfl rfl rfl rfl rfl rfl rfl (q_field tb rfl rfl rfl) ?_
                  refine L_qg rfl rfl rfl rfl rfl rfl rfl (q_load tb rfl rfl bxo rfl) ?_
                  refine L_qg rfl rfl rfl rfl rfl rfl rfl (q_field tb rfl rfl rfl) ?_
                  refine L_qg rfl rfl rfl rfl rfl rfl rfl (q_load tb rfl rfl bxo rfl) ?_
                  refine L_qg rfl rfl rfl rfl rfl rfl rfl (q_add rfl rfl (by first | exact IntWalk.i64_in _ (by omega) | rfl)) ?_
                  refine L_qg rfl rfl rfl rfl rfl rfl rfl (q_field tb rfl rfl rfl) ?_
                  refine L_qg rfl rfl rfl rfl rfl rfl rfl (q_load tb rfl rfl bxo rfl) ?_
                  refine L_qg rfl rfl rfl rfl rfl rfl rfl (q_field tb rfl rfl rfl) ?_
                  refine L_qg rfl rfl rfl rfl rfl rfl rfl (q_load tb rfl rfl bxo rfl) ?_
                  refine L_qg rfl rfl rfl rfl rfl rfl rfl (q_add rfl rfl (by first | exact IntWalk.i64_in _ (by omega) | rfl)) ?_
                  refine L_qg rfl rfl rfl rfl rfl rfl rfl (q_add rfl rfl (by first | exact IntWalk.i64_in _ (by omega) | rfl)) ?_
                  refine L_callg tb rfl rfl rfl rfl rfl rfl (ct_shotlinebase_Within _ _ _) no_ps rfl ?_
                  refine L_qg rfl rfl rfl rfl rfl rfl rfl (q_not rfl (by first | exact (rfl : (!true) = false) | exact (rfl : (!false) = true) | exact decide_not.symm | rfl)) ?_
                  refine L_q rfl rfl rfl (by first | exact q_pickT rfl rfl | exact q_pickF rfl rfl) ?_
                  refine L_q rfl rfl rfl (q_move rfl) ?_
                  refine L_dec (d := 119) rfl (fun h15 => ?_) (fun h15 => ?_)
                  · -- t119 True
                    exfalso; omega
                  · -- t119 False
                    refine L_qg rfl rfl rfl rfl rfl rfl rfl (q_field tb rfl rfl rfl) ?_
                    refine L_qg rfl rfl rfl rfl rfl rfl rfl (q_load tb rfl rfl bxo rfl) ?_
                    refine L_qg rfl rfl rfl rfl rfl rfl rfl (q_field tb rfl rfl rfl) ?_
                    refine L_qg rfl rfl rfl rfl rfl rfl rfl (q_load tb rfl rfl bxo rfl) ?_
                    refine L_qg rfl rfl rfl rfl rfl rfl rfl (q_field tb rfl rfl rfl) ?_
                    refine L_qg rfl rfl rfl rfl rfl rfl rfl (q_load tb rfl rfl bxo rfl) ?_
                    refine L_qg rfl rfl rfl rfl rfl rfl rfl (q_add rfl rfl (by first | exact IntWalk.i64_in _ (by omega) | rfl)) ?_
                    refine L_qg rfl rfl rfl rfl rfl rfl rfl (q_sub rfl rfl (by first | exact IntWalk.i64_in _ (by omega) | rfl)) ?_
                    refine L_qg rfl rfl rfl rfl rfl rfl rfl (q_field tb rfl rfl rfl) ?_
                    refine L_qg rfl rfl rfl rfl rfl rfl rfl (q_load tb rfl rfl bxo rfl) ?_
                    refine L_qg rfl rfl rfl rfl rfl rfl rfl (q_field tb rfl rfl rfl) ?_
                    refine L_qg rfl rfl rfl rfl rfl rfl rfl (q_load tb rfl rfl bxo rfl) ?_
                    refine L_qg rfl rfl rfl rfl rfl rfl rfl (q_add rfl rfl (by first | exact IntWalk.i64_in _ (by omega) | rfl)) ?_
                    refine L_callg tb rfl rfl rfl rfl rfl rfl (ct_shotlinebase_Within _ _ _) no_ps rfl ?_
                    refine L_qg rfl rfl rfl rfl rfl rfl rfl (q_not rfl (by first | exact (rfl : (!true) = false) | exact (rfl : (!false) = true) | exact decide_not.symm | rfl)) ?_
                    refine L_q rfl rfl rfl (by first | exact q_pickT rfl rfl | exact q_pickF rfl rfl) ?_
                    refine L_then ?_
                    refine C_dec rfl (fun h16 => ?_) (fun h16 => ?_)
                    · -- t135 True
                      exfalso; omega
                    · -- t135 False
                      refine C_skip_then ?_
                      refine C_seq ?_
                      refine C_region ?_
                      refine L_q rfl rfl rfl (q_field tb rfl rfl rfl) ?_
                      refine L_q rfl rfl rfl (q_load tb rfl rfl bxo rfl) ?_
                      refine L_q rfl rfl rfl (q_neg rfl (by first | exact IntWalk.i64_in _ (by omega) | rfl)) ?_
                      refine L_q rfl rfl rfl (by first | exact q_build tb rfl rfl rfl rfl | exact q_buildArr tb rfl rfl rfl rfl rfl) ?_
                      refine L_alloc tb rfl rfl fun g13 => ?_
                      first | refine L_store tb rfl rfl rfl rfl rfl rfl rfl rfl ?_ | (refine L_front1 ?_; refine L_store tb rfl rfl rfl rfl rfl rfl rfl rfl ?_) | (refine L_front2 ?_; refine L_store tb rfl rfl rfl rfl rfl rfl rfl rfl ?_) | (refine L_front3 ?_; refine L_store tb rfl rfl rfl rfl rfl rfl rfl rfl ?_) | (refine L_front4 ?_; refine L_store tb rfl rfl rfl rfl rfl rfl rfl rfl ?_) | (refine L_front5 ?_; refine L_store tb rfl rfl rfl rfl rfl rfl rfl rfl ?_) | (refine L_front6 ?_; refine L_store tb rfl rfl rfl rfl rfl rfl rfl rfl ?_)
                      refine L_then ?_
                      refine C_seq ?_
                      refine C_seq ?_
                      refine C_res (rs' := [box g13 24 [.int .i64 (0 - ma), .slice none 0 0], box g11 31 [.int .i64 (levM (ma + mb) (wa ++ wb) n).lo, .int .i64 (levM (ma + mb) (wa ++ wb) n).hi], box g9 31 [.int .i64 (levM mb wb n).lo, .int .i64 (levM mb wb n).hi], box g7 31 [.int .i64 (levM ma wa n).lo, .int .i64 (levM ma wa n).hi], box g4 24 [.int .i64 mb, u], box g3 24 [.int .i64 ma, v], rd v 3 (wa.map cWv), rd u 3 (wb.map cWv)]) (fun _ h => h.pk (by repeat (first | with_reducible exact pk_nil | refine pk_box rfl ?_ | refine pk_rd rfl ?_ | refine pk_sl rfl ?_ | with_reducible refine pk_app ?_ | with_reducible refine pk_app0 ?_ | with_reducible refine pk_app0L ?_ | with_reducible exact pk_tl | refine pk_var ?_))) ?_
                      refine C_region ?_
                      refine L_q rfl rfl rfl (q_assign rfl) ?_
                      refine L_then ?_
                      refine C_block ?_
                      refine C_nil 36 3 ?_
                      refine C_loop (ι := Nat × Value) (fun q => ([(2, .int .i64 n), (3, .pointer (some ⟨g3, 0, none⟩)), (7, .pointer (some ⟨g7, 0, none⟩)), (13, .pointer (some ⟨g13, 0, none⟩)), (14, .int .i64 (q.1 : Int))], [box g13 24 [.int .i64 (0 - ma), q.2], sl q.2 36 3 (((wa.map ovW).take q.1).map cWv), box g11 31 [.int .i64 (levM (ma + mb) (wa ++ wb) n).lo, .int .i64 (levM (ma + mb) (wa ++ wb) n).hi], box g9 31 [.int .i64 (levM mb wb n).lo, .int .i64 (levM mb wb n).hi], box g7 31 [.int .i64 (levM ma wa n).lo, .int .i64 (levM ma wa n).hi], box g4 24 [.int .i64 mb, u], box g3 24 [.int .i64 ma, v], rd v 3 (wa.map cWv), rd u 3 (wb.map cWv)])) (fun q => q.1 ≤ wa.length) (fun q => wa.length - q.1) (0, .slice none 0 0) (Nat.zero_le _) (fun a w hs => hs.weak ⟨rfl, rfl, rfl, rfl, rfl, trivial⟩ (fun h => h.pk (by repeat (first | with_reducible exact pk_nil | refine pk_box rfl ?_ | refine pk_rd rfl ?_ | refine pk_sl rfl ?_ | with_reducible refine pk_app ?_ | with_reducible refine pk_app0 ?_ | with_reducible refine pk_app0L ?_ | with_reducible exact pk_tl | refine pk_var ?_)))) ?_
                      rintro ⟨k, y⟩ hk9
                      dsimp only at hk9 ⊢
                      refine C_seq ?_
                      refine C_seq ?_
                      refine C_region ?_
                      refine L_q rfl rfl rfl (q_move rfl) ?_
                      refine L_q rfl rfl rfl (q_field tb rfl rfl rfl) ?_
                      refine L_q rfl rfl rfl (q_load tb rfl rfl bxo rfl) ?_
                      refine L_q rfl rfl rfl (q_len tb rfl rfl (by first | exact gvo | exact gvd gvo (by omega))) ?_
                      refine L_q rfl rfl rfl (q_lss rfl rfl) ?_
                      refine L_then ?_
                      refine C_dec rfl (fun h17 => ?_) (fun h17 => ?_)
                      · -- t144 True
                        obtain ⟨z, hz⟩ := get_some wa (k := k) (by omega); have hel := map_get cWv hz; have hzw := hoa z (List.mem_of_getElem? hz); have hzf := hzw.f
                        refine C_skip_then ?_
                        refine C_seq ?_
                        refine C_block ?_
                        refine C_seq ?_
                        refine C_region ?_
                        refine L_q rfl rfl rfl (q_field tb rfl rfl rfl) ?_
                        refine L_q rfl rfl rfl (q_load tb rfl rfl bxo rfl) ?_
                        refine L_q rfl rfl rfl (q_move rfl) ?_
                        refine L_q rfl rfl rfl (by first | exact q_index tb rfl rfl rfl rfl (by first | exact gvo | exact gvd gvo (by omega)) (by omega) (by first | omega | (simp; done) | (simp; omega)) | exact q_indexP tb rfl rfl rfl rfl (by omega) (by omega)) ?_
                        refine L_q rfl rfl rfl (q_loadEA tb rfl rfl (by first | exact gvo | exact gvd gvo (by omega)) (i := k) (o := 0) (by omega) hel rfl rfl) ?_
                        refine L_alloc tb rfl rfl fun g15 => ?_
                        first | refine L_store tb rfl rfl rfl rfl rfl rfl rfl rfl ?_ | (refine L_front1 ?_; refine L_store tb rfl rfl rfl rfl rfl rfl rfl rfl ?_) | (refine L_front2 ?_; refine L_store tb rfl rfl rfl rfl rfl rfl rfl rfl ?_) | (refine L_front3 ?_; refine L_store tb rfl rfl rfl rfl rfl rfl rfl rfl ?_) | (refine L_front4 ?_; refine L_store tb rfl rfl rfl rfl rfl rfl rfl rfl ?_) | (refine L_front5 ?_; refine L_store tb rfl rfl rfl rfl rfl rfl rfl rfl ?_) | (refine L_front6 ?_; refine L_store tb rfl rfl rfl rfl rfl rfl rfl rfl ?_)
                        refine L_then ?_
                        refine C_seq ?_
                        refine C_res (rs' := [box g15 36 (cWv z), box g13 24 [.int .i64 (0 - ma), y], sl y 36 3 (((wa.map ovW).take k).map cWv), box g11 31 [.int .i64 (levM (ma + mb) (wa ++ wb) n).lo, .int .i64 (levM (ma + mb) (wa ++ wb) n).hi], box g9 31 [.int .i64 (levM mb wb n).lo, .int .i64 (levM mb wb n).hi], box g7 31 [.int .i64 (levM ma wa n).lo, .int .i64 (levM ma wa n).hi], box g4 24 [.int .i64 mb, u], box g3 24 [.int .i64 ma, v], rd v 3 (wa.map cWv), rd u 3 (wb.map cWv)]) (fun _ h => h.pk (by repeat (first | with_reducible exact pk_nil | refine pk_box rfl ?_ | refine pk_rd rfl ?_ | refine pk_sl rfl ?_ | with_reducible refine pk_app ?_ | with_reducible refine pk_app0 ?_ | with_reducible refine pk_app0L ?_ | with_reducible exact pk_tl | refine pk_var ?_))) ?_
                        refine C_region ?_
                        refine L_q rfl rfl rfl (q_field tb rfl rfl rfl) ?_
                        refine L_q rfl rfl rfl (q_load tb rfl rfl bxo rfl) ?_
                        refine L_q rfl rfl rfl (q_add rfl rfl (by first | exact IntWalk.i64_in _ (by omega) | rfl)) ?_
                        have hmf : 0 ≤ (z.f + 2048) % 4096 ∧ (z.f + 2048) % 4096 ≤ 4095 := by omega
                        refine L_call tb rfl rfl (ct_shotlinebase_Mod (z.f + 2048) 4096 (by omega)) no_ps rfl ?_
                        refine L_q rfl rfl rfl (q_field tb rfl rfl rfl) ?_
                        first | refine L_store tb rfl rfl rfl rfl rfl rfl rfl rfl ?_ | (refine L_front1 ?_; refine L_store tb rfl rfl rfl rfl rfl rfl rfl rfl ?_) | (refine L_front2 ?_; refine L_store tb rfl rfl rfl rfl rfl rfl rfl rfl ?_) | (refine L_front3 ?_; refine L_store tb rfl rfl rfl rfl rfl rfl rfl rfl ?_) | (refine L_front4 ?_; refine L_store tb rfl rfl rfl rfl rfl rfl rfl rfl ?_) | (refine L_front5 ?_; refine L_store tb rfl rfl rfl rfl rfl rfl rfl rfl ?_) | (refine L_front6 ?_; refine L_store tb rfl rfl rfl rfl rfl rfl rfl rfl ?_)
                        refine L_then ?_
                        refine C_res (rs' := [box g15 36 (cWv (ovW z)), box g13 24 [.int .i64 (0 - ma), y], sl y 36 3 (((wa.map ovW).take k).map cWv), box g11 31 [.int .i64 (levM (ma + mb) (wa ++ wb) n).lo, .int .i64 (levM (ma + mb) (wa ++ wb) n).hi], box g9 31 [.int .i64 (levM mb wb n).lo, .int .i64 (levM mb wb n).hi], box g7 31 [.int .i64 (levM ma wa n).lo, .int .i64 (levM ma wa n).hi], box g4 24 [.int .i64 mb, u], box g3 24 [.int .i64 ma, v], rd v 3 (wa.map cWv), rd u 3 (wb.map cWv)]) (fun _ h => h.pk (by repeat (first | with_reducible exact pk_nil | refine pk_box rfl ?_ | refine pk_rd rfl ?_ | refine pk_sl rfl ?_ | with_reducible refine pk_app ?_ | with_reducible refine pk_app0 ?_ | with_reducible refine pk_app0L ?_ | with_reducible exact pk_tl | refine pk_var ?_))) ?_
                        refine C_region ?_
                        refine L_q rfl rfl rfl (q_field tb rfl rfl rfl) ?_
                        refine L_q rfl rfl rfl (q_load tb rfl rfl bxo rfl) ?_
                        refine L_q rfl rfl rfl (q_loadA tb rfl rfl bxo rfl rfl) ?_
                        refine L_mk (lo_bslice tb rfl rfl rfl (xs := [cWv (ovW z)]) rfl rfl (by simp [cWv]) rfl (by omega) rfl) rfl rfl rfl fun v160 => ?_
                        first | (refine L_front1 ?_; refine L_append tb rfl rfl rfl (by omega) rfl rfl (by first | exact gvo | exact gvd gvo (by omega)) (by simp [Value.oneCell', cWv]) (by simp [maxLen]; omega) (by simp; omega) rfl fun v161 => ?_) | (refine L_front2 ?_; refine L_append tb rfl rfl rfl (by omega) rfl rfl (by first | exact gvo | exact gvd gvo (by omega)) (by simp [Value.oneCell', cWv]) (by simp [maxLen]; omega) (by simp; omega) rfl fun v161 => ?_) | (refine L_front3 ?_; refine L_append tb rfl rfl rfl (by omega) rfl rfl (by first | exact gvo | exact gvd gvo (by omega)) (by simp [Value.oneCell', cWv]) (by simp [maxLen]; omega) (by simp; omega) rfl fun v161 => ?_) | (refine L_front4 ?_; refine L_append tb rfl rfl rfl (by omega) rfl rfl (by first | exact gvo | exact gvd gvo (by omega)) (by simp [Value.oneCell', cWv]) (by simp [maxLen]; omega) (by simp; omega) rfl fun v161 => ?_) | (refine L_front5 ?_; refine L_append tb rfl rfl rfl (by omega) rfl rfl (by first | exact gvo | exact gvd gvo (by omega)) (by simp [Value.oneCell', cWv]) (by simp [maxLen]; omega) (by simp; omega) rfl fun v161 => ?_) | (refine L_front6 ?_; refine L_append tb rfl rfl rfl (by omega) rfl rfl (by first | exact gvo | exact gvd gvo (by omega)) (by simp [Value.oneCell', cWv]) (by simp [maxLen]; omega) (by simp; omega) rfl fun v161 => ?_) | (refine L_append tb rfl rfl rfl (by omega) rfl rfl (by first | exact gvo | exact gvd gvo (by omega)) (by simp [Value.oneCell', cWv]) (by simp [maxLen]; omega) (by simp; omega) rfl fun v161 => ?_)
                        refine L_form (v := v161) gvo (fun A161 c161 hv161 _ => ?_)
                        subst hv161
                        refine L_q rfl rfl rfl (q_field tb rfl rfl rfl) ?_
                        first | refine L_store tb rfl rfl rfl rfl rfl rfl rfl rfl ?_ | (refine L_front1 ?_; refine L_store tb rfl rfl rfl rfl rfl rfl rfl rfl ?_) | (refine L_front2 ?_; refine L_store tb rfl rfl rfl rfl rfl rfl rfl rfl ?_) | (refine L_front3 ?_; refine L_store tb rfl rfl rfl rfl rfl rfl rfl rfl ?_) | (refine L_front4 ?_; refine L_store tb rfl rfl rfl rfl rfl rfl rfl rfl ?_) | (refine L_front5 ?_; refine L_store tb rfl rfl rfl rfl rfl rfl rfl rfl ?_) | (refine L_front6 ?_; refine L_store tb rfl rfl rfl rfl rfl rfl rfl rfl ?_)
                        refine L_blk ?_
                        refine C_region ?_
                        refine L_q rfl rfl rfl (q_move rfl) ?_
                        refine L_q rfl rfl rfl (q_add rfl rfl (by first | exact IntWalk.i64_in _ (by omega) | rfl)) ?_
                        refine L_q rfl rfl rfl (q_assign rfl) ?_
                        refine L_end ?_
                        exact fun ac_ wo_ hs_ => ⟨(k + 1, .slice A161 _ c161), (by dsimp only; omega), (by dsimp only; omega), hs_.weak ⟨rfl, rfl, rfl, rfl, rfl, trivial⟩ (fun h => h.pk (by repeat (first | with_reducible exact pk_nil | refine pk_box (by first | rfl | exact (ov_cells hz)) ?_ | refine pk_rd rfl ?_ | refine pk_sl (by first | rfl | exact (ov_cells hz)) ?_ | with_reducible refine pk_app ?_ | with_reducible refine pk_app0 ?_ | with_reducible refine pk_app0L ?_ | with_reducible exact pk_tl | refine pk_var ?_)))⟩
                      · -- t144 False
                        obtain rfl : k = wa.length := by omega
                        rw [ov_all]
                        refine C_exit ?_
                        change C Try.prog _ _ _ _ _ _ _
                        refine C_seq ?_
                        refine C_region ?_
                        refine L_q rfl rfl rfl (q_loadA tb rfl rfl bxo rfl rfl) ?_
                        refine L_q rfl rfl rfl (q_move rfl) ?_
                        refine L_call tb rfl rfl (ct_site_LevelAt (0 - ma) y (wa.map ovW) (ov_ok hoa) (by rw [List.length_map]; omega) (by omega) n hn) (ps_cons (by first | exact gvo | exact gvd gvo (by omega)) no_ps) rfl ?_
                        refine L_q rfl rfl rfl (q_move rfl) ?_
                        refine L_q rfl rfl rfl (q_ext0 rfl) ?_
                        refine L_q rfl rfl rfl (q_ext1 rfl) ?_
                        refine L_alloc tb rfl rfl fun g16 => ?_
                        first | refine L_store tb rfl rfl rfl rfl rfl rfl rfl rfl ?_ | (refine L_front1 ?_; refine L_store tb rfl rfl rfl rfl rfl rfl rfl rfl ?_) | (refine L_front2 ?_; refine L_store tb rfl rfl rfl rfl rfl rfl rfl rfl ?_) | (refine L_front3 ?_; refine L_store tb rfl rfl rfl rfl rfl rfl rfl rfl ?_) | (refine L_front4 ?_; refine L_store tb rfl rfl rfl rfl rfl rfl rfl rfl ?_) | (refine L_front5 ?_; refine L_store tb rfl rfl rfl rfl rfl rfl rfl rfl ?_) | (refine L_front6 ?_; refine L_store tb rfl rfl rfl rfl rfl rfl rfl rfl ?_)
                        refine L_q rfl rfl rfl (q_assign rfl) ?_
                        refine L_then ?_
                        refine C_seq ?_
                        refine C_region ?_
                        refine L_q rfl rfl rfl (q_move rfl) ?_
                        refine L_q rfl rfl rfl (q_true (q_eql rfl rfl) (by simp)) ?_
                        refine L_q rfl rfl rfl (q_move rfl) ?_
                        refine L_qg rfl rfl rfl rfl rfl rfl rfl (q_field tb rfl rfl rfl) ?_
                        refine L_qg rfl rfl rfl rfl rfl rfl rfl (q_load tb rfl rfl bxo rfl) ?_
                        refine L_qg rfl rfl rfl rfl rfl rfl rfl (q_field tb rfl rfl rfl) ?_
                        refine L_qg rfl rfl rfl rfl rfl rfl rfl (q_load tb rfl rfl bxo rfl) ?_
                        refine L_qg rfl rfl rfl rfl rfl rfl rfl (q_neg rfl (by first | exact IntWalk.i64_in _ (by omega) | rfl)) ?_
                        refine L_qg rfl rfl rfl rfl rfl rfl rfl (q_true (q_eql rfl rfl) (decide_eq_true d3)) ?_
                        refine L_q rfl rfl rfl (by first | exact q_pickT rfl rfl | exact q_pickF rfl rfl) ?_
                        refine L_q rfl rfl rfl (q_move rfl) ?_
                        refine L_qg rfl rfl rfl rfl rfl rfl rfl (q_field tb rfl rfl rfl) ?_
                        refine L_qg rfl rfl rfl rfl rfl rfl rfl (q_load tb rfl rfl bxo rfl) ?_
                        refine L_qg rfl rfl rfl rfl rfl rfl rfl (q_field tb rfl rfl rfl) ?_
                        refine L_qg rfl rfl rfl rfl rfl rfl rfl (q_load tb rfl rfl bxo rfl) ?_
                        refine L_qg rfl rfl rfl rfl rfl rfl rfl (q_neg rfl (by first | exact IntWalk.i64_in _ (by omega) | rfl)) ?_
                        refine L_qg rfl rfl rfl rfl rfl rfl rfl (q_true (q_eql rfl rfl) (decide_eq_true d4)) ?_
                        refine L_q rfl rfl rfl (by first | exact q_pickT rfl rfl | exact q_pickF rfl rfl) ?_
                        refine L_q rfl rfl rfl (q_assign rfl) ?_
                        refine L_then ?_
                        refine C_ret ?_
                        exact ret_of (res1 rfl rfl) sub_nil (by intro r hr; cases hr) ⟨rfl, rfl⟩
end Go.Proofs.Ytkpnfmdkklfgjaa
