/-
  Walks: each function named returns what its model says. Conditions: those in front of each theorem.
-/
import Derived.Test.YtkpnfmdkklfgjaaTC
import Derived.Test.YtkpnfmdkklfgjaaEqT
namespace Go.Proofs.Ytkpnfmdkklfgjaa
open Go.RowKit

set_option maxRecDepth 100000 in
theorem ct_shotlinelaw08_few (me : Int) (v : Value) (ws : List Wv) : Ct Try.prog 31 [.agg #[.int .i64 me, v]] [(v, 3, ws.map cWv)] (isV (.bool (decide (ws.length ≤ 4 ∨ (ws.length > 10 ∧ ws.length ≤ 12))))) := by
  refine Ct.of (N := 19) Try.func31 rfl rfl rfl fun w => ?_
  refine C_weak (E' := [(0, .agg #[.int .i64 me, v])]) (rs' := [rd v 3 (ws.map cWv)]) ⟨rfl, trivial⟩ (fun _ h => h) ?_
  have hl1 := len_map cWv ws
  refine C_seq ?_
  refine C_region ?_
  refine L_box rfl rfl rfl fun g1 => ?_
  refine L_q rfl rfl rfl (q_assign rfl) ?_
  refine L_then ?_
  refine C_seq ?_
  refine C_region ?_
  refine L_q rfl rfl rfl (q_field tb rfl rfl rfl) ?_
  refine L_q rfl rfl rfl (q_load tb rfl rfl bxo rfl) ?_
  refine L_q rfl rfl rfl (q_len tb rfl rfl (by first | exact gvo | exact gvd gvo (by omega))) ?_
  refine L_q rfl rfl rfl (q_leq rfl rfl) ?_
  refine L_q rfl rfl rfl (q_move rfl) ?_
  refine L_dec (d := 7) rfl (fun h1 => ?_) (fun h1 => ?_)
  · -- t7 True
    refine L_skip rfl rfl rfl rfl rfl rfl rfl ?_
    refine L_skip rfl rfl rfl rfl rfl rfl rfl ?_
    refine L_skip rfl rfl rfl rfl rfl rfl rfl ?_
    refine L_skip rfl rfl rfl rfl rfl rfl rfl ?_
    refine L_skip rfl rfl rfl rfl rfl rfl rfl ?_
    refine L_skipu rfl rfl rfl rfl rfl rfl ?_
    refine L_skipu rfl rfl rfl rfl rfl rfl ?_
    refine L_skipu rfl rfl rfl rfl rfl rfl ?_
    refine L_skipu rfl rfl rfl rfl rfl rfl ?_
    refine L_skip rfl rfl rfl rfl rfl rfl rfl ?_
    refine L_q rfl rfl rfl (by first | exact q_pickT rfl rfl | exact q_pickF rfl rfl) ?_
    refine L_q rfl rfl rfl (q_assign rfl) ?_
    refine L_then ?_
    refine C_ret ?_
    exact ret_of (res1 rfl rfl) sub_nil (by intro r hr; cases hr) ⟨(by first | rfl | exact congrArg Value.bool (decide_eq_decide.2 (by omega)) | exact congrArg Value.bool (decide_eq_true (by omega)).symm | exact congrArg Value.bool (decide_eq_false (by omega)).symm | exact congrArg Value.bool (decide_eq_true (by omega))), rfl⟩
  · -- t7 False
    refine L_qg rfl rfl rfl rfl rfl rfl rfl (q_field tb rfl rfl rfl) ?_
    refine L_qg rfl rfl rfl rfl rfl rfl rfl (q_load tb rfl rfl bxo rfl) ?_
    refine L_qg rfl rfl rfl rfl rfl rfl rfl (q_len tb rfl rfl (by first | exact gvo | exact gvd gvo (by omega))) ?_
    refine L_qg rfl rfl rfl rfl rfl rfl rfl (q_gtr rfl rfl) ?_
    refine L_qg rfl rfl rfl rfl rfl rfl rfl (q_move rfl) ?_
    refine L_dec (d := 12) rfl (fun h2 => ?_) (fun h2 => ?_)
    · -- t12 True
      refine L_qg rfl rfl rfl rfl rfl rfl rfl (q_field tb rfl rfl rfl) ?_
      refine L_qg rfl rfl rfl rfl rfl rfl rfl (q_load tb rfl rfl bxo rfl) ?_
      refine L_qg rfl rfl rfl rfl rfl rfl rfl (q_len tb rfl rfl (by first | exact gvo | exact gvd gvo (by omega))) ?_
      refine L_qg rfl rfl rfl rfl rfl rfl rfl (q_leq rfl rfl) ?_
      refine L_qg rfl rfl rfl rfl rfl rfl rfl (by first | exact q_pickT rfl rfl | exact q_pickF rfl rfl) ?_
      refine L_q rfl rfl rfl (by first | exact q_pickT rfl rfl | exact q_pickF rfl rfl) ?_
      refine L_q rfl rfl rfl (q_assign rfl) ?_
      refine L_then ?_
      refine C_ret ?_
      exact ret_of (res1 rfl rfl) sub_nil (by intro r hr; cases hr) ⟨(by first | rfl | exact congrArg Value.bool (decide_eq_decide.2 (by omega)) | exact congrArg Value.bool (decide_eq_true (by omega)).symm | exact congrArg Value.bool (decide_eq_false (by omega)).symm | exact congrArg Value.bool (decide_eq_true (by omega))), rfl⟩
    · -- t12 False
      refine L_skip rfl rfl rfl rfl rfl rfl rfl ?_
      refine L_skip rfl rfl rfl rfl rfl rfl rfl ?_
      refine L_skip rfl rfl rfl rfl rfl rfl rfl ?_
      refine L_skip rfl rfl rfl rfl rfl rfl rfl ?_
      refine L_qg rfl rfl rfl rfl rfl rfl rfl (by first | exact q_pickT rfl rfl | exact q_pickF rfl rfl) ?_
      refine L_q rfl rfl rfl (by first | exact q_pickT rfl rfl | exact q_pickF rfl rfl) ?_
      refine L_q rfl rfl rfl (q_assign rfl) ?_
      refine L_then ?_
      refine C_ret ?_
      exact ret_of (res1 rfl rfl) sub_nil (by intro r hr; cases hr) ⟨(by first | rfl | exact congrArg Value.bool (decide_eq_decide.2 (by omega)) | exact congrArg Value.bool (decide_eq_true (by omega)).symm | exact congrArg Value.bool (decide_eq_false (by omega)).symm | exact congrArg Value.bool (decide_eq_true (by omega))), rfl⟩
set_option maxRecDepth 100000 in
theorem ct_shotlinelaw08_Few (me : Int) (v : Value) (ws : List Wv) : Ct Try.prog 7 [.agg #[.int .i64 me, v]] [(v, 3, ws.map cWv)] (isV (.bool (decide (ws.length ≤ 4 ∨ (ws.length > 10 ∧ ws.length ≤ 12))))) := by
  refine Ct.of (N := 5) Try.func7 rfl rfl rfl fun w => ?_
  refine C_weak (E' := [(0, .agg #[.int .i64 me, v])]) (rs' := [rd v 3 (ws.map cWv)]) ⟨rfl, trivial⟩ (fun _ h => h) ?_
  have hl1 := len_map cWv ws
  refine C_seq ?_
  refine C_region ?_
  refine L_box rfl rfl rfl fun g1 => ?_
  refine L_q rfl rfl rfl (q_assign rfl) ?_
  refine L_then ?_
  refine C_seq ?_
  refine C_region ?_
  refine L_q rfl rfl rfl (q_loadA tb rfl rfl bxo rfl rfl) ?_
  refine L_call tb rfl rfl (ct_shotlinelaw08_few _ _ _) (ps_cons (by first | exact gvo | exact gvd gvo (by omega)) no_ps) rfl ?_
  refine L_q rfl rfl rfl (q_assign rfl) ?_
  refine L_then ?_
  refine C_ret ?_
  exact ret_of (res1 rfl rfl) sub_nil (by intro r hr; cases hr) ⟨(by first | rfl | exact congrArg Value.bool (decide_eq_decide.2 (by omega)) | exact congrArg Value.bool (decide_eq_true (by omega)).symm | exact congrArg Value.bool (decide_eq_false (by omega)).symm | exact congrArg Value.bool (decide_eq_true (by omega))), rfl⟩
set_option maxRecDepth 100000 in
theorem ct_shotlineref08_CheckTide (me : Int) (v : Value) (ws : List Wv) (hl9 : ws.length ≤ 100000) : Ct Try.prog 8 [.agg #[.int .i64 me, v]] [(v, 3, ws.map cWv)] (isV (.int .i64 (ckTd me ws))) := by
  refine Ct.of (N := 29) Try.func8 rfl rfl rfl fun w => ?_
  refine C_weak (E' := [(0, .agg #[.int .i64 me, v])]) (rs' := [rd v 3 (ws.map cWv)]) ⟨rfl, trivial⟩ (fun _ h => h) ?_
  have hl1 := len_map cWv ws
  refine C_seq ?_
  refine C_region ?_
  refine L_box rfl rfl rfl fun g1 => ?_
  refine L_q rfl rfl rfl (q_assign rfl) ?_
  refine L_then ?_
  refine C_seq ?_
  refine C_seq ?_
  refine C_region ?_
  refine L_q rfl rfl rfl (q_field tb rfl rfl rfl) ?_
  refine L_q rfl rfl rfl (q_load tb rfl rfl bxo rfl) ?_
  refine L_call tb rfl rfl (ct_shotlinebase_Within _ _ _) no_ps rfl ?_
  refine L_q rfl rfl rfl (q_not rfl (by first | exact (rfl : (!true) = false) | exact (rfl : (!false) = true) | exact decide_not.symm | rfl)) ?_
  refine L_then ?_
  refine C_dec rfl (fun h1 => ?_) (fun h1 => ?_)
  · -- t8 True
    refine C_seq ?_
    refine C_region ?_
    refine L_q rfl rfl rfl (q_assign rfl) ?_
    refine L_then ?_
    refine C_ret ?_
    rw [ckTd_1 h1]
    exact ret_of (res1 rfl rfl) sub_nil (by intro r hr; cases hr) ⟨rfl, rfl⟩
  · -- t8 False
    refine C_skip_then ?_
    refine C_seq ?_
    refine C_seq ?_
    refine C_region ?_
    refine L_q rfl rfl rfl (q_field tb rfl rfl rfl) ?_
    refine L_q rfl rfl rfl (q_load tb rfl rfl bxo rfl) ?_
    refine L_q rfl rfl rfl (q_len tb rfl rfl (by first | exact gvo | exact gvd gvo (by omega))) ?_
    refine L_q rfl rfl rfl (q_gtr rfl rfl) ?_
    refine L_then ?_
    refine C_dec rfl (fun h2 => ?_) (fun h2 => ?_)
    · -- t12 True
      refine C_seq ?_
      refine C_region ?_
      refine L_q rfl rfl rfl (q_assign rfl) ?_
      refine L_then ?_
      refine C_ret ?_
      rw [ckTd_2 (by omega) (by omega)]
      exact ret_of (res1 rfl rfl) sub_nil (by intro r hr; cases hr) ⟨rfl, rfl⟩
    · -- t12 False
      refine C_skip_then ?_
      refine C_seq ?_
      refine C_seq ?_
      refine C_region ?_
      refine L_q rfl rfl rfl (q_assign rfl) ?_
      refine L_then ?_
      refine C_block ?_
      refine C_loop (ι := Nat) (fun k => ([(1, .pointer (some ⟨g1, 0, none⟩)), (3, .int .i64 (k : Int))], [box g1 24 [.int .i64 me, v], rd v 3 (ws.map cWv)])) (fun k => k ≤ ws.length ∧ ckWs (ws.drop k) = ckWs ws) (fun k => ws.length - k) 0 ⟨Nat.zero_le _, rfl⟩ (fun a w hs => hs.weak ⟨rfl, rfl, trivial⟩ (fun h => h.pk (by repeat (first | with_reducible exact pk_nil | refine pk_box rfl ?_ | refine pk_rd rfl ?_ | refine pk_sl rfl ?_ | with_reducible refine pk_app ?_ | with_reducible refine pk_app0 ?_ | with_reducible refine pk_app0L ?_ | with_reducible exact pk_tl | refine pk_var ?_)))) ?_
      rintro k ⟨hk, hf⟩
      dsimp only at hk hf ⊢
      refine C_seq ?_
      refine C_seq ?_
      refine C_region ?_
      refine L_q rfl rfl rfl (q_move rfl) ?_
      refine L_q rfl rfl rfl (q_field tb rfl rfl rfl) ?_
      refine L_q rfl rfl rfl (q_load tb rfl rfl bxo rfl) ?_
      refine L_q rfl rfl rfl (q_len tb rfl rfl (by first | exact gvo | exact gvd gvo (by omega))) ?_
      refine L_q rfl rfl rfl (q_lss rfl rfl) ?_
      refine L_then ?_
      refine C_dec rfl (fun h3 => ?_) (fun h3 => ?_)
      · -- t17 True
        obtain ⟨z, hz⟩ := get_some ws (k := k) (by omega); have hel := map_get cWv hz
        refine C_skip_then ?_
        refine C_seq ?_
        refine C_block ?_
        refine C_seq ?_
        refine C_region ?_
        refine L_q rfl rfl rfl (q_field tb rfl rfl rfl) ?_
        refine L_q rfl rfl rfl (q_load tb rfl rfl bxo rfl) ?_
        refine L_q rfl rfl rfl (q_move rfl) ?_
        refine L_q rfl rfl rfl (by first | exact q_index tb rfl rfl rfl rfl (by first | exact gvo | exact gvd gvo (by omega)) (by omega) (by first | omega | (simp; done) | (simp; omega)) | exact q_indexP tb rfl rfl rfl rfl (by omega) (by omega)) ?_
        refine L_q rfl rfl rfl (q_loadEA tb rfl rfl (by first | exact gvo | exact gvd gvo (by omega)) (i := k) (o := 0) (by omega) hel rfl rfl) ?_
        refine L_call tb rfl rfl (ct_shotlineref08_CheckWave z) no_ps rfl ?_
        refine L_q rfl rfl rfl (q_assign rfl) ?_
        refine L_then ?_
        refine C_seq ?_
        refine C_region ?_
        refine L_q rfl rfl rfl (q_move rfl) ?_
        refine L_q rfl rfl rfl (q_neq rfl rfl) ?_
        refine L_then ?_
        refine C_dec rfl (fun h3 => ?_) (fun h3 => ?_)
        · -- t27 True
          refine C_seq ?_
          refine C_region ?_
          refine L_q rfl rfl rfl (q_move rfl) ?_
          refine L_q rfl rfl rfl (q_assign rfl) ?_
          refine L_then ?_
          refine C_ret ?_
          rw [ckTd_3 (by omega) (by omega)]
          exact ret_of (res1 rfl rfl) sub_nil (by intro r hr; cases hr) ⟨(congrArg (Value.int .i64) (by rw [← hf, ckWs_step hz, if_neg (fun hh => h3 (by rw [if_pos hh])), if_neg (fun hh => h3 (by rw [if_pos hh]))])), rfl⟩
        · -- t27 False
          refine C_skip_blk ?_
          refine C_region ?_
          refine L_q rfl rfl rfl (q_move rfl) ?_
          refine L_q rfl rfl rfl (q_add rfl rfl (by first | exact IntWalk.i64_in _ (by omega) | rfl)) ?_
          refine L_q rfl rfl rfl (q_assign rfl) ?_
          refine L_end ?_
          exact fun ac_ wo_ hs_ => ⟨k + 1, ⟨by omega, by rw [← hf, ckWs_step hz, if_pos (Decidable.byContradiction fun hh => h3 (by rw [if_neg hh]; decide))]⟩, (by dsimp only; omega), hs_.weak ⟨rfl, rfl, trivial⟩ (fun h => h.pk (by repeat (first | with_reducible exact pk_nil | refine pk_box rfl ?_ | refine pk_rd rfl ?_ | refine pk_sl rfl ?_ | with_reducible refine pk_app ?_ | with_reducible refine pk_app0 ?_ | with_reducible refine pk_app0L ?_ | with_reducible exact pk_tl | refine pk_var ?_)))⟩
      · -- t17 False
        refine C_exit ?_
        change C Try.prog _ _ _ _ _ _ _
        refine C_seq ?_
        refine C_region ?_
        refine L_q rfl rfl rfl (q_assign rfl) ?_
        refine L_then ?_
        refine C_ret ?_
        rw [ckTd_3 (by omega) (by omega)]
        exact ret_of (res1 rfl rfl) sub_nil (by intro r hr; cases hr) ⟨(congrArg (Value.int .i64) (by rw [← hf, drop_all (by omega)]; rfl)), rfl⟩
set_option maxRecDepth 100000 in
theorem ct_shotlinelaw08_Tide  : Ct Try.prog 30 [] [] (fun y rs => ∃ a, y = .agg #[.int .i64 200, a] ∧ rs = [sl a 36 3 ([⟨100, 4096, 0⟩].map cWv)]) := by
  refine Ct.of (N := 4) Try.func30 rfl rfl rfl fun w => ?_
  refine C_weak (E' := []) (rs' := []) trivial (fun _ h => h) ?_
  refine C_seq ?_
  refine C_region ?_
  refine L_alloc tb rfl rfl fun g0 => ?_
  refine L_then ?_
  refine C_seq ?_
  refine C_region ?_
  refine L_q rfl rfl rfl (by first | exact q_build tb rfl rfl rfl rfl | exact q_buildArr tb rfl rfl rfl rfl rfl) ?_
  refine L_mk (lo_bslice tb rfl rfl rfl (xs := ([⟨100, 4096, 0⟩].map cWv)) rfl rfl (by decide) rfl (by omega) rfl) rfl rfl rfl fun v2 => ?_
  refine L_form (v := v2) gvo (fun A2 c2 hv2 _ => ?_)
  subst hv2
  refine L_q rfl rfl rfl (by first | exact q_build tb rfl rfl rfl rfl | exact q_buildArr tb rfl rfl rfl rfl rfl) ?_
  first | refine L_store tb rfl rfl rfl rfl rfl rfl rfl rfl ?_ | (refine L_front1 ?_; refine L_store tb rfl rfl rfl rfl rfl rfl rfl rfl ?_) | (refine L_front2 ?_; refine L_store tb rfl rfl rfl rfl rfl rfl rfl rfl ?_) | (refine L_front3 ?_; refine L_store tb rfl rfl rfl rfl rfl rfl rfl rfl ?_) | (refine L_front4 ?_; refine L_store tb rfl rfl rfl rfl rfl rfl rfl rfl ?_) | (refine L_front5 ?_; refine L_store tb rfl rfl rfl rfl rfl rfl rfl rfl ?_) | (refine L_front6 ?_; refine L_store tb rfl rfl rfl rfl rfl rfl rfl rfl ?_)
  refine L_then ?_
  refine C_ret ?_
  exact ret_of (rs' := [sl _ 36 3 ([⟨100, 4096, 0⟩].map cWv)]) (resC tb rfl rfl rfl bxo rfl) (fun w_ h_ => h_.pk (by repeat (first | with_reducible exact pk_nil | refine pk_box rfl ?_ | refine pk_rd rfl ?_ | refine pk_sl rfl ?_ | with_reducible refine pk_app ?_ | with_reducible refine pk_app0 ?_ | with_reducible refine pk_app0L ?_ | with_reducible exact pk_tl | refine pk_var ?_))) own1 ⟨_, rfl, rfl⟩
set_option maxRecDepth 100000 in
theorem ct_shotlinetop_tidal  : Ct Try.prog 6 [] [] (isV (.bool true)) := by
  refine Ct.of (N := 15) Try.func6 rfl rfl rfl fun w => ?_
  refine C_weak (E' := []) (rs' := []) trivial (fun _ h => h) ?_
  refine C_seq ?_
  refine C_region ?_
  refine L_q rfl rfl rfl (q_assign rfl) ?_
  refine L_then ?_
  refine C_seq ?_
  refine C_region ?_
  refine L_lo rfl rfl rfl (lo_call tb rfl rfl (ct_shotlinelaw08_Tide) no_ps (by rintro y rs ⟨a, _, rfl⟩ r hr; rw [List.mem_singleton.1 hr]; exact sl_sinks _ _ _ _)) ?_
  rintro _ _ ⟨a4, rfl, rfl⟩
  refine L_call tb rfl rfl (ct_site_LevelAt 200 a4 [⟨100, 4096, 0⟩] (by intro x hx; rw [List.mem_singleton.1 hx]; exact ⟨by decide, by decide, by decide⟩) (by decide) (by decide) 512 (by decide)) (ps_cons (by first | exact gvo | exact gvd gvo (by omega)) no_ps) rfl ?_
  rw [lev_ex.1, lev_ex.2]
  refine L_q rfl rfl rfl (q_move rfl) ?_
  refine L_q rfl rfl rfl (q_ext0 rfl) ?_
  refine L_q rfl rfl rfl (q_ext1 rfl) ?_
  refine L_alloc tb rfl rfl fun g1 => ?_
  first | refine L_store tb rfl rfl rfl rfl rfl rfl rfl rfl ?_ | (refine L_front1 ?_; refine L_store tb rfl rfl rfl rfl rfl rfl rfl rfl ?_) | (refine L_front2 ?_; refine L_store tb rfl rfl rfl rfl rfl rfl rfl rfl ?_) | (refine L_front3 ?_; refine L_store tb rfl rfl rfl rfl rfl rfl rfl rfl ?_) | (refine L_front4 ?_; refine L_store tb rfl rfl rfl rfl rfl rfl rfl rfl ?_) | (refine L_front5 ?_; refine L_store tb rfl rfl rfl rfl rfl rfl rfl rfl ?_) | (refine L_front6 ?_; refine L_store tb rfl rfl rfl rfl rfl rfl rfl rfl ?_)
  refine L_q rfl rfl rfl (q_assign rfl) ?_
  refine L_then ?_
  refine C_seq ?_
  refine C_region ?_
  refine L_q rfl rfl rfl (q_move rfl) ?_
  refine L_q rfl rfl rfl (q_true (q_eql rfl rfl) (by simp)) ?_
  refine L_q rfl rfl rfl (q_move rfl) ?_
  refine L_qg rfl rfl rfl rfl rfl rfl rfl (q_loadA tb rfl rfl bxo rfl rfl) ?_
  refine L_qg rfl rfl rfl rfl rfl rfl rfl (by first | exact q_build tb rfl rfl rfl rfl | exact q_buildArr tb rfl rfl rfl rfl rfl) ?_
  refine L_qg rfl rfl rfl rfl rfl rfl rfl (q_true (q_eqI (xs := [270, 271]) (ys := [270, 271]) eq31 (by omega) eg31 rfl rfl rfl rfl Iff.rfl) (by decide)) ?_
  refine L_q rfl rfl rfl (by first | exact q_pickT rfl rfl | exact q_pickF rfl rfl) ?_
  refine L_q rfl rfl rfl (q_assign rfl) ?_
  refine L_then ?_
  refine C_ret ?_
  exact ret_of (res1 rfl rfl) sub_nil (by intro r hr; cases hr) ⟨rfl, rfl⟩
end Go.Proofs.Ytkpnfmdkklfgjaa
