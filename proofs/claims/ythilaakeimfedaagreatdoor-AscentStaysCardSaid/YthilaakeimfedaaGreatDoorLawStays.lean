/-
  Walks: each function named returns what its model says. Conditions: those in front of each theorem.
-/
import Derived.Test.YthilaakeimfedaaGreatDoorAR
import Derived.Test.YthilaakeimfedaaGreatDoorAS
import Derived.Test.YthilaakeimfedaaGreatDoorLH
namespace Go.Proofs.YthilaakeimfedaaGreatDoor
open Go.RowKit

set_option maxRecDepth 100000 in
set_option maxHeartbeats 2000000 in
theorem ct_shotlinelaw04_AscentStays (v u z : Value) (x : Asc) : CtQ KQ Tryz.prog 3 [.agg (cAt v u z x).toArray] [(v, 4, x.ts.map cCp), (u, 4, x.ls.map cLd), (z, 3, x.gs.map cAg)] (isV (.bool true)) := by
 refine CtQ.of (N := 35) Tryz.func3 rfl rfl rfl fun w hQ => ?_
 refine C_weak (E' := [(0, .agg (cAt v u z x).toArray)]) (rs' := [rd v 4 (x.ts.map cCp), rd u 4 (x.ls.map cLd), rd z 3 (x.gs.map cAg)]) ⟨rfl, trivial⟩ (fun _ h => h) ?_
 have hl1 := len_map cCp x.ts
 have hl2 := len_map cLd x.ls
 have hl3 := len_map cAg x.gs
 refine C_seq ?_
 refine C_region ?_
 refine L_box rfl rfl rfl fun g1 => ?_
 refine Jq (q_assign rfl) ?_
 refine L_then ?_
 refine C_seq ?_
 refine C_seq ?_
 refine C_region ?_
 refine L_lo rfl rfl rfl (lo_callQ tb stQ hQ rfl rfl (ct_shotlinelaw04_awake) no_ps isV_sinks) ?_
 rintro _ _ ⟨rfl, rfl⟩
 refine Jq (q_not rfl rfl) ?_
 refine L_then ?_
 refine C_false rfl ?_
 refine C_skip_then ?_
 refine C_seq ?_
 refine C_seq ?_
 refine C_region ?_
 refine Jq (q_loadA tb rfl rfl bxo rfl rfl) ?_
 refine L_call tb rfl rfl (ct_shotlinelaw04_Light v u z x) (ps_cons gvo (ps_cons gvo (ps_cons gvo no_ps))) rfl ?_
 refine Jq (q_not rfl decide_not.symm) ?_
 refine L_then ?_
 refine C_dec rfl (fun hl => ?_) (fun hl => ?_)
 ·skip
  refine C_seq ?_
  refine C_region ?_
  refine Jq (q_assign rfl) ?_
  refine L_then ?_
  refine C_ret ?_
  exact ret_of (res1 rfl rfl) sub_nil (by intro r hr; cases hr) ⟨rfl, rfl⟩
 ·skip
  have hL := light_len (Decidable.not_not.1 hl)
  refine C_skip_then ?_
  refine C_seq ?_
  refine C_region ?_
  refine Jq (q_loadA tb rfl rfl bxo rfl rfl) ?_
  refine L_lo rfl rfl rfl (lo_call tb rfl rfl (ct_shotlinelaw04_own v u z x (by omega) (by omega) (by omega)) (ps_cons gvo (ps_cons gvo (ps_cons gvo no_ps))) isTo_sinks) ?_
  rintro _ _ ⟨A14, n14, c14, B14, m14, d14, C14, k14, e14, rfl, rfl⟩
  refine L_call tb rfl rfl (ct_ascent_NoStopSeconds _ _ _ x (by omega) (by omega) (by omega)) (ps_cons gvo (ps_cons gvo (ps_cons gvo no_ps))) rfl ?_
  refine Jq (q_move rfl) ?_
  refine Jq (q_ext0 rfl) ?_
  refine Jq (q_ext1 rfl) ?_
  refine Jq (q_assign rfl) ?_
  refine Jq (q_assign rfl) ?_
  refine L_then ?_
  refine C_seq ?_
  refine C_region ?_
  refine Jq (q_loadA tb rfl rfl bxo rfl rfl) ?_
  refine L_call tb rfl rfl (ct_shotlineref04_CheckTask v u z x (by omega) (by omega) (by omega)) (ps_cons gvo (ps_cons gvo (ps_cons gvo no_ps))) rfl ?_
  refine Jq (q_assign rfl) ?_
  refine L_then ?_
  refine C_seq ?_
  refine C_region ?_
  refine Jq (q_assign rfl) ?_
  refine L_then ?_
  refine C_cut (ι := Unit) (fun _p => ([(1, .pointer (some ⟨g1, 0, none⟩)), (3, .int .i64 ((nsE x).1)), (4, .int .i64 ((nsE x).2)), (5, .int .i64 ((nsE x).2)), (6, .int .i64 ((nsE x).1))], [box g1 28 (cAt v u z x), rd v 4 (x.ts.map cCp), rd u 4 (x.ls.map cLd), rd z 3 (x.gs.map cAg)])) (fun _p => True) ?_ ?_
  ·skip
   refine C_seq ?_
   refine C_region ?_
   refine Jq (q_move rfl) ?_
   refine Jq (q_eql rfl rfl) ?_
   refine L_then ?_
   refine C_dec rfl (fun hc => ?_) (fun hc => ?_)
   ·skip
    have H := ckAsc_ok hc
    refine C_region ?_
    refine Jq (q_loadA tb rfl rfl bxo rfl rfl) ?_
    refine L_call tb rfl rfl (ct_shotlineref04_NoStopSeconds v u z x H) (ps_cons gvo (ps_cons gvo (ps_cons gvo no_ps))) rfl ?_
    refine Jq (q_move rfl) ?_
    refine Jq (q_ext0 rfl) ?_
    refine Jq (q_ext1 rfl) ?_
    refine Jq (q_assign rfl) ?_
    refine Jq (q_assign rfl) ?_
    refine L_end ?_
    exact fun ac_ wo_ hs_ => ⟨(), trivial, hs_.weak ⟨rfl, rfl, rfl, en (by rw [nsE_2 hc]), en (by rw [nsE_2 hc]), trivial⟩ (fun h => h.pk (by repeat (first | with_reducible exact pk_nil | refine pk_box rfl ?_ | refine pk_rd rfl ?_ | refine pk_sl rfl ?_ | with_reducible refine pk_app ?_ | with_reducible refine pk_app0 ?_ | with_reducible refine pk_app0L ?_ | with_reducible exact pk_tl | refine pk_var ?_)))⟩
   ·skip
    refine C_skip ?_
    exact fun ac_ wo_ hs_ => ⟨(), trivial, hs_.weak ⟨rfl, rfl, rfl, en (by rw [nsE_1 hc]), en (by rw [nsE_1 hc]), trivial⟩ (fun h => h.pk (by repeat (first | with_reducible exact pk_nil | refine pk_box rfl ?_ | refine pk_rd rfl ?_ | refine pk_sl rfl ?_ | with_reducible refine pk_app ?_ | with_reducible refine pk_app0 ?_ | with_reducible refine pk_app0L ?_ | with_reducible exact pk_tl | refine pk_var ?_)))⟩
  ·skip
   intro _ _
   refine C_seq ?_
   refine C_region ?_
   refine Jq (q_move rfl) ?_
   refine Jq (q_move rfl) ?_
   refine Jq (q_true (q_eql rfl rfl) (decide_eq_true rfl)) ?_
   refine Jq (q_move rfl) ?_
   refine Jg (q_move rfl) ?_
   refine Jg (q_move rfl) ?_
   refine Jg (q_true (q_eql rfl rfl) (decide_eq_true rfl)) ?_
   refine Jq (q_pickT rfl rfl) ?_
   refine Jq (q_assign rfl) ?_
   refine L_then ?_
   refine C_ret ?_
   exact ret_of (res1 rfl rfl) sub_nil (by intro r hr; cases hr) ⟨rfl, rfl⟩
end Go.Proofs.YthilaakeimfedaaGreatDoor
