/-
  Walks: each function named returns what its model says. Conditions: those in front of each theorem.
-/
import Derived.Test.YthilaakeimfedaaGreatDoorAR
import Derived.Test.YthilaakeimfedaaGreatDoorLH
import Derived.Test.YthilaakeimfedaaGreatDoorAs9
namespace Go.Proofs.YthilaakeimfedaaGreatDoor
open Go.RowKit

set_option maxRecDepth 100000 in
set_option maxHeartbeats 2000000 in
theorem ct_shotlinelaw04_AscentTasks (v u z : Value) (x : Asc) (d : Int) : CtQ KQ Tryz.prog 4 [.agg (cAt v u z x).toArray, .int .i64 d] [(v, 4, x.ts.map cCp), (u, 4, x.ls.map cLd), (z, 3, x.gs.map cAg)] (isV (.bool true)) := by
 refine CtQ.of (N := 62) Tryz.func4 rfl rfl rfl fun w hQ => ?_
 refine C_weak (E' := [(0, .agg (cAt v u z x).toArray), (1, .int .i64 d)]) (rs' := [rd v 4 (x.ts.map cCp), rd u 4 (x.ls.map cLd), rd z 3 (x.gs.map cAg)]) ⟨rfl, rfl, trivial⟩ (fun _ h => h) ?_
 have hl1 := len_map cCp x.ts
 have hl2 := len_map cLd x.ls
 have hl3 := len_map cAg x.gs
 refine C_seq ?_
 refine C_region ?_
 refine L_box rfl rfl rfl fun g2 => ?_
 refine Jq (q_assign rfl) ?_
 refine L_then ?_
 refine C_seq ?_
 refine C_seq ?_
 refine C_region ?_
 refine L_lo rfl rfl rfl (lo_callQ tb stQ hQ rfl rfl (ct_shotlinelaw04_awake) no_ps isV_sinks) ?_
 rintro _ _ ⟨rfl, rfl⟩
 refine Jq (q_not rfl rfl) ?_
 refine L_then ?_
 refine C_false rfl ?_
 refine C_skip_then ?_
 refine C_seq ?_
 refine C_seq ?_
 refine C_region ?_
 refine Jq (q_loadA tb rfl rfl bxo rfl rfl) ?_
 refine L_call tb rfl rfl (ct_shotlinelaw04_Light v u z x) (ps_cons gvo (ps_cons gvo (ps_cons gvo no_ps))) rfl ?_
 refine Jq (q_not rfl decide_not.symm) ?_
 refine L_then ?_
 refine C_dec rfl (fun hl => ?_) (fun hl => ?_)
 ·skip
  refine C_seq ?_
  refine C_region ?_
  refine Jq (q_assign rfl) ?_
  refine L_then ?_
  refine C_ret ?_
  exact ret_of (res1 rfl rfl) sub_nil (by intro r hr; cases hr) ⟨rfl, rfl⟩
 ·skip
  have hL := light_len (Decidable.not_not.1 hl)
  refine C_skip_then ?_
  refine C_seq ?_
  refine C_region ?_
  refine Jq (q_loadA tb rfl rfl bxo rfl rfl) ?_
  refine L_lo rfl rfl rfl (lo_call tb rfl rfl (ct_shotlinelaw04_own v u z x (by omega) (by omega) (by omega)) (ps_cons gvo (ps_cons gvo (ps_cons gvo no_ps))) isTo_sinks) ?_
  rintro _ _ ⟨A16, n16, c16, B16, m16, d16, C16, k16, e16, rfl, rfl⟩
  refine Jq (q_move rfl) ?_
  refine L_call tb rfl rfl (ct_ascent_GasFor _ _ _ x (by omega) (by omega) (by omega) d) (ps_cons gvo (ps_cons gvo (ps_cons gvo no_ps))) rfl ?_
  refine Jq (q_move rfl) ?_
  refine Jq (q_ext0 rfl) ?_
  refine Jq (q_ext1 rfl) ?_
  refine Jq (q_assign rfl) ?_
  refine Jq (q_assign rfl) ?_
  refine L_then ?_
  refine C_seq ?_
  refine C_region ?_
  refine Jq (q_loadA tb rfl rfl bxo rfl rfl) ?_
  refine L_call tb rfl rfl (ct_shotlineref04_CheckTask v u z x (by omega) (by omega) (by omega)) (ps_cons gvo (ps_cons gvo (ps_cons gvo no_ps))) rfl ?_
  refine Jq (q_assign rfl) ?_
  refine L_then ?_
  refine C_seq ?_
  refine C_seq ?_
  refine C_region ?_
  refine Jq (q_loadA tb rfl rfl bxo rfl rfl) ?_
  refine L_lo rfl rfl rfl (lo_call tb rfl rfl (ct_shotlinelaw04_own v u z x (by omega) (by omega) (by omega)) (ps_cons gvo (ps_cons gvo (ps_cons gvo no_ps))) isTo_sinks) ?_
  rintro _ _ ⟨A24, n24, c24, B24, m24, d24, C24, k24, e24, rfl, rfl⟩
  refine L_call tb rfl rfl (ct_ascent_CheckTask _ _ _ x (by omega) (by omega) (by omega)) (ps_cons gvo (ps_cons gvo (ps_cons gvo no_ps))) rfl ?_
  refine Jq (q_move rfl) ?_
  refine Jq (q_false (q_neq rfl rfl) (decide_eq_false fun h => h rfl)) ?_
  refine L_then ?_
  refine C_false rfl ?_
  refine C_skip_then ?_
  refine C_cut (ι := Unit) (fun _p => ([(1, .int .i64 d), (2, .pointer (some ⟨g2, 0, none⟩)), (5, .int .i64 ((gasE x d).1)), (6, .int .i64 ((gasE x d).2)), (7, .int .i64 ((tkD x d)))], [box g2 28 (cAt v u z x), rd v 4 (x.ts.map cCp), rd u 4 (x.ls.map cLd), rd z 3 (x.gs.map cAg)])) (fun _p => True) ?_ ?_
  ·skip
   refine C_seq ?_
   refine C_region ?_
   refine Jq (q_move rfl) ?_
   refine Jq (q_eql rfl rfl) ?_
   refine Jq (q_move rfl) ?_
   refine L_dec (d := 30) rfl (fun h4 => ?_) (fun h4 => ?_)
   ·skip
    refine Jg (q_move rfl) ?_
    refine L_callg tb rfl rfl rfl rfl rfl rfl (ct_shotlineref04_IsDepth _) no_ps rfl ?_
    refine Jg (q_not rfl decide_not.symm) ?_
    refine Jq (q_pickT rfl rfl) ?_
    refine L_then ?_
    refine C_dec rfl (fun h5 => ?_) (fun h5 => ?_)
    ·skip
     refine C_region ?_
     refine Jq (q_assign rfl) ?_
     refine L_end ?_
     exact fun ac_ wo_ hs_ => ⟨(), trivial, hs_.weak ⟨rfl, rfl, rfl, rfl, en (by unfold tkD; rw [dep_1]; (repeat' split) <;> omega), trivial⟩ (fun h => h.pk (by repeat (first | with_reducible exact pk_nil | refine pk_box rfl ?_ | refine pk_rd rfl ?_ | refine pk_sl rfl ?_ | with_reducible refine pk_app ?_ | with_reducible refine pk_app0 ?_ | with_reducible refine pk_app0L ?_ | with_reducible exact pk_tl | refine pk_var ?_)))⟩
    ·skip
     refine C_skip ?_
     exact fun ac_ wo_ hs_ => ⟨(), trivial, hs_.weak ⟨rfl, rfl, rfl, rfl, en (by unfold tkD; rw [dep_1]; (repeat' split) <;> omega), trivial⟩ (fun h => h.pk (by repeat (first | with_reducible exact pk_nil | refine pk_box rfl ?_ | refine pk_rd rfl ?_ | refine pk_sl rfl ?_ | with_reducible refine pk_app ?_ | with_reducible refine pk_app0 ?_ | with_reducible refine pk_app0L ?_ | with_reducible exact pk_tl | refine pk_var ?_)))⟩
   ·skip
    refine Jk ?_
    refine Jk ?_
    refine Jk ?_
    refine Jq (q_pickF rfl rfl) ?_
    refine L_then ?_
    refine C_false rfl ?_
    refine C_skip ?_
    exact fun ac_ wo_ hs_ => ⟨(), trivial, hs_.weak ⟨rfl, rfl, rfl, rfl, en (by unfold tkD; rw [dep_1]; (repeat' split) <;> omega), trivial⟩ (fun h => h.pk (by repeat (first | with_reducible exact pk_nil | refine pk_box rfl ?_ | refine pk_rd rfl ?_ | refine pk_sl rfl ?_ | with_reducible refine pk_app ?_ | with_reducible refine pk_app0 ?_ | with_reducible refine pk_app0L ?_ | with_reducible exact pk_tl | refine pk_var ?_)))⟩
  ·skip
   intro _ _
   refine C_seq ?_
   refine C_seq ?_
   refine C_region ?_
   refine Jq (q_move rfl) ?_
   refine Jq (q_neq rfl rfl) ?_
   refine L_then ?_
   refine C_dec rfl (fun hc => ?_) (fun hc => ?_)
   ·skip
    rw [tkD_bad hc]
    dsimp only
    refine C_seq ?_
    refine C_region ?_
    refine Jq (q_move rfl) ?_
    refine Jq (q_move rfl) ?_
    refine Jq (q_true (q_eql rfl rfl) (decide_eq_true rfl)) ?_
    refine Jq (q_move rfl) ?_
    refine Jg (q_move rfl) ?_
    refine Jg (q_true (q_eql rfl rfl) (decide_eq_true rfl)) ?_
    refine Jq (q_pickT rfl rfl) ?_
    refine Jq (q_assign rfl) ?_
    refine L_then ?_
    refine C_ret ?_
    exact ret_of (res1 rfl rfl) sub_nil (by intro r hr; cases hr) ⟨rfl, rfl⟩
   ·skip
    obtain ⟨hz, hd9⟩ := tkD_ok (Decidable.not_not.1 hc)
    refine C_skip_then ?_
    refine C_seq ?_
    refine C_region ?_
    refine Jq (q_loadA tb rfl rfl bxo rfl rfl) ?_
    refine Jq (q_move rfl) ?_
    refine L_call tb rfl rfl (ct_shotlineref04_GasFor v u z x (by omega) d) (ps_cons gvo no_ps) rfl ?_
    refine Jq (q_assign rfl) ?_
    refine L_then ?_
    refine C_seq ?_
    refine C_seq ?_
    refine C_region ?_
    refine Jq (q_move rfl) ?_
    refine Jq (q_lss rfl rfl) ?_
    refine L_then ?_
    refine C_dec rfl (fun hg => ?_) (fun hg => ?_)
    ·skip
     rw [gasE_4 hz hd9 (by omega)]
     dsimp only
     refine C_seq ?_
     refine C_region ?_
     refine Jq (q_move rfl) ?_
     refine Jq (q_true (q_eql rfl rfl) (decide_eq_true rfl)) ?_
     refine Jq (q_move rfl) ?_
     refine Jg (q_move rfl) ?_
     refine Jg (q_true (q_eql rfl rfl) (decide_eq_true rfl)) ?_
     refine Jq (q_pickT rfl rfl) ?_
     refine Jq (q_assign rfl) ?_
     refine L_then ?_
     refine C_ret ?_
     exact ret_of (res1 rfl rfl) sub_nil (by intro r hr; cases hr) ⟨rfl, rfl⟩
    ·skip
     rw [gasE_3 hz hd9 (by omega)]
     dsimp only
     refine C_skip_then ?_
     refine C_seq ?_
     refine C_region ?_
     refine Jq (q_move rfl) ?_
     refine Jq (q_true (q_eql rfl rfl) (decide_eq_true rfl)) ?_
     refine Jq (q_move rfl) ?_
     refine Jg (q_move rfl) ?_
     refine Jg (q_move rfl) ?_
     refine Jg (q_true (q_eql rfl rfl) (decide_eq_true rfl)) ?_
     refine Jq (q_pickT rfl rfl) ?_
     refine Jq (q_assign rfl) ?_
     refine L_then ?_
     refine C_ret ?_
     exact ret_of (res1 rfl rfl) sub_nil (by intro r hr; cases hr) ⟨rfl, rfl⟩
end Go.Proofs.YthilaakeimfedaaGreatDoor
