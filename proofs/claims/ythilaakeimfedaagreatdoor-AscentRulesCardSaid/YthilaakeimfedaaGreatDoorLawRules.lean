/-
  Walks: each function named returns what its model says. Conditions: those in front of each theorem.
-/
import Derived.Test.YthilaakeimfedaaGreatDoorAR
import Derived.Test.YthilaakeimfedaaGreatDoorLH
import Derived.Test.YthilaakeimfedaaGreatDoorAs9
namespace Go.Proofs.YthilaakeimfedaaGreatDoor
open Go.RowKit

set_option maxRecDepth 100000 in
set_option maxHeartbeats 2000000 in
theorem ct_shotlinelaw04_AscentRules (r : Rl) (f t : Int) : CtQ KQ Tryz.prog 5 [.agg (cRl r).toArray, .int .i64 f, .int .i64 t] [] (isV (.bool true)) := by
 refine CtQ.of (N := 137) Tryz.func5 rfl rfl rfl fun w hQ => ?_
 refine C_weak (E' := [(0, .agg (cRl r).toArray), (1, .int .i64 f), (2, .int .i64 t)]) (rs' := []) ⟨rfl, rfl, rfl, trivial⟩ (fun _ h => h) ?_
 refine C_seq ?_
 refine C_region ?_
 refine L_box rfl rfl rfl fun g3 => ?_
 refine Jq (q_assign rfl) ?_
 refine L_then ?_
 refine C_seq ?_
 refine C_seq ?_
 refine C_region ?_
 refine L_lo rfl rfl rfl (lo_callQ tb stQ hQ rfl rfl (ct_shotlinelaw04_awake) no_ps isV_sinks) ?_
 rintro _ _ ⟨rfl, rfl⟩
 refine Jq (q_not rfl rfl) ?_
 refine L_then ?_
 refine C_false rfl ?_
 refine C_skip_then ?_
 refine C_seq ?_
 refine C_region ?_
 refine Jq (q_loadA tb rfl rfl bxo rfl rfl) ?_
 refine Jq (q_move rfl) ?_
 refine L_call tb rfl rfl (ct_ascent_FactorAt r f) no_ps rfl ?_
 refine Jq (q_move rfl) ?_
 refine Jq (q_ext0 rfl) ?_
 refine Jq (q_ext1 rfl) ?_
 refine Jq (q_assign rfl) ?_
 refine Jq (q_assign rfl) ?_
 refine L_then ?_
 refine C_seq ?_
 refine C_region ?_
 refine Jq (q_loadA tb rfl rfl bxo rfl rfl) ?_
 refine Jq (q_move rfl) ?_
 refine Jq (q_move rfl) ?_
 refine L_call tb rfl rfl (ct_ascent_RiseSeconds r f t) no_ps rfl ?_
 refine Jq (q_move rfl) ?_
 refine Jq (q_ext0 rfl) ?_
 refine Jq (q_ext1 rfl) ?_
 refine Jq (q_assign rfl) ?_
 refine Jq (q_assign rfl) ?_
 refine L_then ?_
 refine C_seq ?_
 refine C_region ?_
 refine Jq (q_loadA tb rfl rfl bxo rfl rfl) ?_
 refine Jq (q_move rfl) ?_
 refine L_call tb rfl rfl (ct_ascent_NextStop r f) no_ps rfl ?_
 refine Jq (q_move rfl) ?_
 refine Jq (q_ext0 rfl) ?_
 refine Jq (q_ext1 rfl) ?_
 refine Jq (q_assign rfl) ?_
 refine Jq (q_assign rfl) ?_
 refine L_then ?_
 refine C_seq ?_
 refine C_region ?_
 refine Jq (q_loadA tb rfl rfl bxo rfl rfl) ?_
 refine L_call tb rfl rfl (ct_shotlineref04_CheckRules _) no_ps rfl ?_
 refine Jq (q_assign rfl) ?_
 refine L_then ?_
 refine C_seq ?_
 refine C_seq ?_
 refine C_region ?_
 refine Jq (q_loadA tb rfl rfl bxo rfl rfl) ?_
 refine L_call tb rfl rfl (ct_ascent_CheckRules _) no_ps rfl ?_
 refine Jq (q_move rfl) ?_
 refine Jq (q_false (q_neq rfl rfl) (decide_eq_false fun h => h rfl)) ?_
 refine L_then ?_
 refine C_false rfl ?_
 refine C_skip_then ?_
 refine C_cut (ι := Unit) (fun _p => ([(1, .int .i64 f), (2, .int .i64 t), (3, .pointer (some ⟨g3, 0, none⟩)), (7, .int .i64 ((facE r f).1)), (8, .int .i64 ((facE r f).2)), (9, .int .i64 ((risE r f t).1)), (10, .int .i64 ((risE r f t).2)), (11, .int .i64 ((nxtE r f).1)), (12, .int .i64 ((nxtE r f).2)), (13, .int .i64 ((erR r [f])))], [box g3 26 (cRl r)])) (fun _p => True) ?_ ?_
 ·skip
  refine C_seq ?_
  refine C_region ?_
  refine Jq (q_move rfl) ?_
  refine Jq (q_eql rfl rfl) ?_
  refine Jq (q_move rfl) ?_
  refine L_dec (d := 43) rfl (fun h3 => ?_) (fun h3 => ?_)
  ·skip
   refine Jg (q_move rfl) ?_
   refine L_callg tb rfl rfl rfl rfl rfl rfl (ct_shotlineref04_IsDepth _) no_ps rfl ?_
   refine Jg (q_not rfl decide_not.symm) ?_
   refine Jq (q_pickT rfl rfl) ?_
   refine L_then ?_
   refine C_dec rfl (fun h4 => ?_) (fun h4 => ?_)
   ·skip
    refine C_region ?_
    refine Jq (q_assign rfl) ?_
    refine L_end ?_
    exact fun ac_ wo_ hs_ => ⟨(), trivial, hs_.weak ⟨rfl, rfl, rfl, rfl, rfl, rfl, rfl, rfl, rfl, en (by unfold erR; rw [dep_1]; (repeat' split) <;> omega), trivial⟩ (fun h => h.pk (by repeat (first | with_reducible exact pk_nil | refine pk_box rfl ?_ | refine pk_rd rfl ?_ | refine pk_sl rfl ?_ | with_reducible refine pk_app ?_ | with_reducible refine pk_app0 ?_ | with_reducible refine pk_app0L ?_ | with_reducible exact pk_tl | refine pk_var ?_)))⟩
   ·skip
    refine C_skip ?_
    exact fun ac_ wo_ hs_ => ⟨(), trivial, hs_.weak ⟨rfl, rfl, rfl, rfl, rfl, rfl, rfl, rfl, rfl, en (by unfold erR; rw [dep_1]; (repeat' split) <;> omega), trivial⟩ (fun h => h.pk (by repeat (first | with_reducible exact pk_nil | refine pk_box rfl ?_ | refine pk_rd rfl ?_ | refine pk_sl rfl ?_ | with_reducible refine pk_app ?_ | with_reducible refine pk_app0 ?_ | with_reducible refine pk_app0L ?_ | with_reducible exact pk_tl | refine pk_var ?_)))⟩
  ·skip
   refine Jk ?_
   refine Jk ?_
   refine Jk ?_
   refine Jq (q_pickF rfl rfl) ?_
   refine L_then ?_
   refine C_false rfl ?_
   refine C_skip ?_
   exact fun ac_ wo_ hs_ => ⟨(), trivial, hs_.weak ⟨rfl, rfl, rfl, rfl, rfl, rfl, rfl, rfl, rfl, en (by unfold erR; rw [dep_1]; (repeat' split) <;> omega), trivial⟩ (fun h => h.pk (by repeat (first | with_reducible exact pk_nil | refine pk_box rfl ?_ | refine pk_rd rfl ?_ | refine pk_sl rfl ?_ | with_reducible refine pk_app ?_ | with_reducible refine pk_app0 ?_ | with_reducible refine pk_app0L ?_ | with_reducible exact pk_tl | refine pk_var ?_)))⟩
 ·skip
  intro _ _
  refine C_seq ?_
  refine C_seq ?_
  refine C_region ?_
  refine Jq (q_move rfl) ?_
  refine Jq (q_neq rfl rfl) ?_
  refine L_then ?_
  refine C_dec rfl (fun hc => ?_) (fun hc => ?_)
  ·skip
   rw [facE_1 hc, nxtE_1 hc, risE_1 (b := t) (by rw [erR_2 hc]; exact hc), erR_2 hc]
   dsimp only
   refine C_seq ?_
   refine C_region ?_
   refine Jq (q_move rfl) ?_
   refine Jq (q_move rfl) ?_
   refine Jq (q_true (q_eql rfl rfl) (decide_eq_true rfl)) ?_
   refine Jq (q_move rfl) ?_
   refine Jg (q_move rfl) ?_
   refine Jg (q_move rfl) ?_
   refine Jg (q_true (q_eql rfl rfl) (decide_eq_true rfl)) ?_
   refine Jq (q_pickT rfl rfl) ?_
   refine Jq (q_move rfl) ?_
   refine Jg (q_move rfl) ?_
   refine Jg (q_move rfl) ?_
   refine Jg (q_true (q_eql rfl rfl) (decide_eq_true rfl)) ?_
   refine Jq (q_pickT rfl rfl) ?_
   refine Jq (q_move rfl) ?_
   refine Jg (q_move rfl) ?_
   refine Jg (q_true (q_eql rfl rfl) (decide_eq_true rfl)) ?_
   refine Jq (q_pickT rfl rfl) ?_
   refine Jq (q_move rfl) ?_
   refine Jg (q_move rfl) ?_
   refine Jg (q_true (q_eql rfl rfl) (decide_eq_true rfl)) ?_
   refine Jq (q_pickT rfl rfl) ?_
   refine Jq (q_move rfl) ?_
   refine Jg (q_move rfl) ?_
   refine Jg (q_true (q_eql rfl rfl) (decide_eq_true rfl)) ?_
   refine Jq (q_pickT rfl rfl) ?_
   refine Jq (q_assign rfl) ?_
   refine L_then ?_
   refine C_ret ?_
   exact ret_of (res1 rfl rfl) sub_nil (by intro r hr; cases hr) ⟨rfl, rfl⟩
  ·skip
   have hz := Decidable.not_not.1 hc
   rw [facE_2 hz]
   obtain ⟨H, hd9⟩ := erR_ok hz
   have hd := dep1_ok hd9
   dsimp only
   refine C_skip_then ?_
   refine C_seq ?_
   refine C_seq ?_
   refine C_region ?_
   refine Jq (q_move rfl) ?_
   refine Jq (q_false (q_neq rfl rfl) (decide_eq_false fun h => h rfl)) ?_
   refine Jq (q_move rfl) ?_
   refine Jg (q_move rfl) ?_
   refine Jg (q_loadA tb rfl rfl bxo rfl rfl) ?_
   refine Jg (q_move rfl) ?_
   refine L_callg tb rfl rfl rfl rfl rfl rfl (ct_shotlineref04_FactorAt r H f hd) no_ps rfl ?_
   refine Jg (q_false (q_neq rfl rfl) (decide_eq_false fun h => h rfl)) ?_
   refine Jq (q_pickF rfl rfl) ?_
   refine L_then ?_
   refine C_false rfl ?_
   refine C_skip_then ?_
   refine C_seq ?_
   refine C_seq ?_
   refine C_region ?_
   refine Jq (q_move rfl) ?_
   refine Jq (q_eql rfl rfl) ?_
   refine Jq (q_move rfl) ?_
   refine L_dec (d := 86) rfl (fun e0 => ?_) (fun e0 => ?_)
   ·skip
    rw [nxtE_2 hz e0]
    dsimp only
    refine Jg (q_move rfl) ?_
    refine Jg (q_false (q_neq rfl rfl) (decide_eq_false fun h => h rfl)) ?_
    refine Jg (q_move rfl) ?_
    refine Jg (q_move rfl) ?_
    refine Jg (q_false (q_neq rfl rfl) (decide_eq_false fun h => h rfl)) ?_
    refine Jg (q_pickF rfl rfl) ?_
    refine Jq (q_pickT rfl rfl) ?_
    refine Jq (q_move rfl) ?_
    refine Jg (q_move rfl) ?_
    refine Jg (q_false (q_gtr rfl rfl) (decide_eq_false (by omega))) ?_
    refine Jg (q_move rfl) ?_
    refine Jk ?_
    refine Jk ?_
    refine Jk ?_
    refine Ju ?_
    refine Ju ?_
    refine Ju ?_
    refine Ju ?_
    refine Ju ?_
    refine Jk ?_
    refine Jg (q_pickF rfl rfl) ?_
    refine Jq (q_pickF rfl rfl) ?_
    refine L_then ?_
    refine C_false rfl ?_
    refine C_skip_then ?_
    refine C_seq ?_
    refine C_seq ?_
    refine C_region ?_
    refine Jq (q_move rfl) ?_
    refine L_call tb rfl rfl (ct_shotlineref04_IsDepth _) no_ps rfl ?_
    refine Jq (q_not rfl decide_not.symm) ?_
    refine L_then ?_
    refine C_dec rfl (fun e1 => ?_) (fun e1 => ?_)
    ·skip
     have e9 := erR_b hz e1
     rw [risE_1 (by rw [e9]; decide), e9]
     dsimp only
     refine C_seq ?_
     refine C_region ?_
     refine Jq (q_move rfl) ?_
     refine Jq (q_true (q_eql rfl rfl) (decide_eq_true rfl)) ?_
     refine Jq (q_move rfl) ?_
     refine Jg (q_move rfl) ?_
     refine Jg (q_true (q_eql rfl rfl) (decide_eq_true rfl)) ?_
     refine Jq (q_pickT rfl rfl) ?_
     refine Jq (q_assign rfl) ?_
     refine L_then ?_
     refine C_ret ?_
     exact ret_of (res1 rfl rfl) sub_nil (by intro r hr; cases hr) ⟨rfl, rfl⟩
    ·skip
     refine C_skip_then ?_
     refine C_seq ?_
     refine C_seq ?_
     refine C_region ?_
     refine Jq (q_move rfl) ?_
     refine Jq (q_move rfl) ?_
     refine Jq (q_gtr rfl rfl) ?_
     refine L_then ?_
     refine C_dec rfl (fun e2 => ?_) (fun e2 => ?_)
     ·skip
      rw [risE_2 (erR_c hz (Decidable.not_not.1 e1)) e2]
      dsimp only
      refine C_seq ?_
      refine C_region ?_
      refine Jq (q_move rfl) ?_
      refine Jq (q_true (q_eql rfl rfl) (decide_eq_true rfl)) ?_
      refine Jq (q_move rfl) ?_
      refine Jg (q_move rfl) ?_
      refine Jg (q_true (q_eql rfl rfl) (decide_eq_true rfl)) ?_
      refine Jq (q_pickT rfl rfl) ?_
      refine Jq (q_assign rfl) ?_
      refine L_then ?_
      refine C_ret ?_
      exact ret_of (res1 rfl rfl) sub_nil (by intro r hr; cases hr) ⟨rfl, rfl⟩
     ·skip
      have e8 := Decidable.not_not.1 e1
      rw [risE_3 (erR_c hz e8) e2]
      dsimp only
      refine C_skip_then ?_
      refine C_seq ?_
      refine C_region ?_
      refine Jq (q_move rfl) ?_
      refine Jq (q_true (q_eql rfl rfl) (decide_eq_true rfl)) ?_
      refine Jq (q_move rfl) ?_
      refine Jg (q_move rfl) ?_
      refine Jg (q_loadA tb rfl rfl bxo rfl rfl) ?_
      refine Jg (q_move rfl) ?_
      refine Jg (q_move rfl) ?_
      refine L_callg tb rfl rfl rfl rfl rfl rfl (ct_shotlineref04_RiseSeconds r H f t (by omega) (by omega)) no_ps rfl ?_
      refine Jg (q_true (q_eql rfl rfl) (decide_eq_true rfl)) ?_
      refine Jq (q_pickT rfl rfl) ?_
      refine Jq (q_assign rfl) ?_
      refine L_then ?_
      refine C_ret ?_
      exact ret_of (res1 rfl rfl) sub_nil (by intro r hr; cases hr) ⟨rfl, rfl⟩
   ·skip
    rw [nxtE_3 hz e0]
    dsimp only
    refine Jk ?_
    refine Jk ?_
    refine Jk ?_
    refine Ju ?_
    refine Ju ?_
    refine Jk ?_
    refine Jq (q_pickF rfl rfl) ?_
    refine Jq (q_move rfl) ?_
    refine Jg (q_move rfl) ?_
    refine Jg (q_true (q_gtr rfl rfl) (decide_eq_true (by omega))) ?_
    refine Jg (q_move rfl) ?_
    refine Jg (q_move rfl) ?_
    refine Jg (q_false (q_neq rfl rfl) (decide_eq_false fun h => h rfl)) ?_
    refine Jg (q_move rfl) ?_
    refine Jg (q_move rfl) ?_
    refine Jg (q_loadA tb rfl rfl bxo rfl rfl) ?_
    refine Jg (q_move rfl) ?_
    refine L_callg tb rfl rfl rfl rfl rfl rfl (ct_shotlineref04_NextStop r H f (by omega)) no_ps rfl ?_
    refine Jg (q_false (q_neq rfl rfl) (decide_eq_false fun h => h rfl)) ?_
    refine Jg (q_pickF rfl rfl) ?_
    refine Jg (q_pickT rfl rfl) ?_
    refine Jq (q_pickF rfl rfl) ?_
    refine L_then ?_
    refine C_false rfl ?_
    refine C_skip_then ?_
    refine C_seq ?_
    refine C_seq ?_
    refine C_region ?_
    refine Jq (q_move rfl) ?_
    refine L_call tb rfl rfl (ct_shotlineref04_IsDepth _) no_ps rfl ?_
    refine Jq (q_not rfl decide_not.symm) ?_
    refine L_then ?_
    refine C_dec rfl (fun e1 => ?_) (fun e1 => ?_)
    ·skip
     have e9 := erR_b hz e1
     rw [risE_1 (by rw [e9]; decide), e9]
     dsimp only
     refine C_seq ?_
     refine C_region ?_
     refine Jq (q_move rfl) ?_
     refine Jq (q_true (q_eql rfl rfl) (decide_eq_true rfl)) ?_
     refine Jq (q_move rfl) ?_
     refine Jg (q_move rfl) ?_
     refine Jg (q_true (q_eql rfl rfl) (decide_eq_true rfl)) ?_
     refine Jq (q_pickT rfl rfl) ?_
     refine Jq (q_assign rfl) ?_
     refine L_then ?_
     refine C_ret ?_
     exact ret_of (res1 rfl rfl) sub_nil (by intro r hr; cases hr) ⟨rfl, rfl⟩
    ·skip
     refine C_skip_then ?_
     refine C_seq ?_
     refine C_seq ?_
     refine C_region ?_
     refine Jq (q_move rfl) ?_
     refine Jq (q_move rfl) ?_
     refine Jq (q_gtr rfl rfl) ?_
     refine L_then ?_
     refine C_dec rfl (fun e2 => ?_) (fun e2 => ?_)
     ·skip
      rw [risE_2 (erR_c hz (Decidable.not_not.1 e1)) e2]
      dsimp only
      refine C_seq ?_
      refine C_region ?_
      refine Jq (q_move rfl) ?_
      refine Jq (q_true (q_eql rfl rfl) (decide_eq_true rfl)) ?_
      refine Jq (q_move rfl) ?_
      refine Jg (q_move rfl) ?_
      refine Jg (q_true (q_eql rfl rfl) (decide_eq_true rfl)) ?_
      refine Jq (q_pickT rfl rfl) ?_
      refine Jq (q_assign rfl) ?_
      refine L_then ?_
      refine C_ret ?_
      exact ret_of (res1 rfl rfl) sub_nil (by intro r hr; cases hr) ⟨rfl, rfl⟩
     ·skip
      have e8 := Decidable.not_not.1 e1
      rw [risE_3 (erR_c hz e8) e2]
      dsimp only
      refine C_skip_then ?_
      refine C_seq ?_
      refine C_region ?_
      refine Jq (q_move rfl) ?_
      refine Jq (q_true (q_eql rfl rfl) (decide_eq_true rfl)) ?_
      refine Jq (q_move rfl) ?_
      refine Jg (q_move rfl) ?_
      refine Jg (q_loadA tb rfl rfl bxo rfl rfl) ?_
      refine Jg (q_move rfl) ?_
      refine Jg (q_move rfl) ?_
      refine L_callg tb rfl rfl rfl rfl rfl rfl (ct_shotlineref04_RiseSeconds r H f t (by omega) (by omega)) no_ps rfl ?_
      refine Jg (q_true (q_eql rfl rfl) (decide_eq_true rfl)) ?_
      refine Jq (q_pickT rfl rfl) ?_
      refine Jq (q_assign rfl) ?_
      refine L_then ?_
      refine C_ret ?_
      exact ret_of (res1 rfl rfl) sub_nil (by intro r hr; cases hr) ⟨rfl, rfl⟩
end Go.Proofs.YthilaakeimfedaaGreatDoor
