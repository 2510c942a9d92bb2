/-
  Walks: each function named returns what its model says. Conditions: those in front of each theorem.
-/
import Derived.Test.YthilaakeimfedaaGreatDoorAD
import Derived.Test.YthilaakeimfedaaGreatDoorAE
import Derived.Test.YthilaakeimfedaaGreatDoorFol
import Derived.Test.YthilaakeimfedaaGreatDoorU
import Derived.Test.YthilaakeimfedaaGreatDoorEqT
import Derived.Test.YthilaakeimfedaaGreatDoorShTreeH
import Derived.Test.YthilaakeimfedaaGreatDoorAR
import Derived.Test.YthilaakeimfedaaGreatDoorAS
import Derived.Test.YthilaakeimfedaaGreatDoorLH
namespace Go.Proofs.YthilaakeimfedaaGreatDoor
open Go.RowKit

set_option maxRecDepth 100000 in
theorem ct_shotlinebase_CopyInts (v : Value) (ns : List Int) (hle : ns.length ≤ 100000) : Ct Tryz.prog 121 [v] [(v, 1, ns.map cI)] (isSl 3 1 (ns.map cI)) := by
 refine Ct.of (N := 6) Tryz.func121 rfl rfl rfl fun w => ?_
 refine C_weak (E' := [(0, v)]) (rs' := [rd v 1 (ns.map cI)]) ⟨rfl, trivial⟩ (fun _ h => h) ?_
 have hl := len_map cI ns
 refine C_seq ?_
 refine C_region ?_
 refine Jq (q_assign rfl) ?_
 refine L_then ?_
 refine C_seq ?_
 refine C_region ?_
 refine L_mk (lo_bslice tb rfl rfl rfl (xs := []) rfl rfl (by simp) rfl (by omega) rfl) rfl rfl rfl fun v3 => ?_
 refine Jq (q_move rfl) ?_
 refine L_ap tb rfl rfl rfl rfl gvo (cI_flat ns) (by simp [maxLen]; omega) (by simp; omega) fun v5 => ?_
 refine Jq (q_assign rfl) ?_
 refine L_then ?_
 refine C_ret ?_
 exact ret_of (rs' := [sl v5 3 1 (ns.map cI)]) (res1 rfl rfl) (fun _ h => h.sub (by repeat (first | exact List.Sublist.refl _ | apply List.Sublist.cons_cons | apply List.Sublist.cons))) own1 rfl
set_option maxRecDepth 100000 in
theorem ct_shotlinelaw04_schedule (a b : Value) (L : List Dl) (F : List Int) (hla : L.length ≤ 100000) (hlb : F.length ≤ 100000) : Ct Tryz.prog 49 [.agg #[a, b]] [(a, 3, L.map cDl), (b, 1, F.map cI)] (isSo 51 3 L F) := by
 refine Ct.of (N := 10) Tryz.func49 rfl rfl rfl fun w => ?_
 refine C_weak (E' := [(0, .agg #[a, b])]) (rs' := [rd a 3 (L.map cDl), rd b 1 (F.map cI)]) ⟨rfl, trivial⟩ (fun _ h => h) ?_
 have hl4 := len_map cDl L
 have hl5 := len_map cI F
 refine C_seq ?_
 refine C_region ?_
 refine L_box rfl rfl rfl fun g1 => ?_
 refine L_alloc tb rfl rfl fun g2 => ?_
 refine L_then ?_
 refine C_seq ?_
 refine C_draw (n := 7) [(0, false), (1, false), (3, false), (4, false), (2, true), (5, true), (6, false)] mixed (by kernel_rfl) ?_
 refine Yq rfl (q_field tb rfl rfl rfl) ?_
 refine Yq rfl (q_load tb rfl rfl bxo rfl) ?_
 refine Yq rfl (q_field tb rfl rfl rfl) ?_
 refine Yq rfl (q_load tb rfl rfl bxo rfl) ?_
 refine W_callSF tb rfl rfl rfl rfl (ct_shotlinebase_CopyLegs a L (by omega)) (ps_cons gvo no_ps) rfl fun A5 n5 c5 => ?_
 refine W_callSF tb rfl rfl rfl rfl (ct_shotlinebase_CopyInts b F (by omega)) (ps_cons gvo no_ps) rfl fun A8 n8 c8 => ?_
 refine Yq rfl (by first | exact q_build tb rfl rfl rfl rfl | exact q_buildArr tb rfl rfl rfl rfl rfl) ?_
 refine W_nil ?_
 refine L_st tb rfl rfl ?_
 refine L_then ?_
 refine C_ret ?_
 exact ret_of (rs' := [sl _ 51 3 (L.map cDl), sl _ 3 1 (F.map cI)]) (resC tb rfl rfl rfl bxo rfl) (fun w_ h_ => h_.pk (by repeat (first | with_reducible exact pk_nil | refine pk_box rfl ?_ | refine pk_rd rfl ?_ | refine pk_sl rfl ?_ | with_reducible refine pk_app ?_ | with_reducible refine pk_app0 ?_ | with_reducible refine pk_app0L ?_ | with_reducible exact pk_tl | refine pk_var ?_))) own2 ⟨_, _, _, _, _, _, rfl, rfl⟩
set_option maxRecDepth 100000 in
set_option maxHeartbeats 1000000 in
theorem ct_shotlinelaw04_short (a b : Value) (L : List Dl) (F : List Int) : Ct Tryz.prog 48 [.agg #[a, b]] [(a, 3, L.map cDl), (b, 1, F.map cI)] (isV (.bool (decide (shortP L F)))) := by
 refine Ct.of (N := 25) Tryz.func48 rfl rfl rfl fun w => ?_
 refine C_weak (E' := [(0, .agg #[a, b])]) (rs' := [rd a 3 (L.map cDl), rd b 1 (F.map cI)]) ⟨rfl, trivial⟩ (fun _ h => h) ?_
 have hl4 := len_map cDl L
 have hl5 := len_map cI F
 refine C_seq ?_
 refine C_region ?_
 refine L_box rfl rfl rfl fun g1 => ?_
 refine Jq (q_assign rfl) ?_
 refine L_then ?_
 refine C_seq ?_
 refine C_region ?_
 refine Jq (q_field tb rfl rfl rfl) ?_
 refine Jq (q_load tb rfl rfl bxo rfl) ?_
 refine Jq (q_len tb rfl rfl gvo) ?_
 refine Jq (q_leq rfl rfl) ?_
 refine Jq (q_move rfl) ?_
 refine L_dec (d := 7) rfl (fun h1 => ?_) (fun h1 => ?_)
 ·skip
  refine Jk ?_
  refine Jk ?_
  refine Jk ?_
  refine Jk ?_
  refine Jk ?_
  refine Ju ?_
  refine Ju ?_
  refine Ju ?_
  refine Ju ?_
  refine Jk ?_
  refine Jq (q_pickT rfl rfl) ?_
  refine Jq (q_move rfl) ?_
  refine Jg (q_field tb rfl rfl rfl) ?_
  refine Jg (q_load tb rfl rfl bxo rfl) ?_
  refine Jg (q_len tb rfl rfl gvo) ?_
  refine Jg (q_leq rfl rfl) ?_
  refine Jq (q_pickT rfl rfl) ?_
  refine Jq (q_assign rfl) ?_
  refine L_then ?_
  refine C_ret ?_
  exact ret_of (res1 rfl rfl) sub_nil (by intro r hr; cases hr) ⟨(by unfold shortP; first | rfl | exact congrArg Value.bool (decide_eq_decide.2 (by omega)) | exact congrArg Value.bool (decide_eq_true (by omega)).symm | exact congrArg Value.bool (decide_eq_false (by omega)).symm | exact congrArg Value.bool (decide_eq_true (by omega))), rfl⟩
 ·skip
  refine Jg (q_field tb rfl rfl rfl) ?_
  refine Jg (q_load tb rfl rfl bxo rfl) ?_
  refine Jg (q_len tb rfl rfl gvo) ?_
  refine Jg (q_gtr rfl rfl) ?_
  refine Jg (q_move rfl) ?_
  refine L_dec (d := 12) rfl (fun h2 => ?_) (fun h2 => ?_)
  ·skip
   refine Jg (q_field tb rfl rfl rfl) ?_
   refine Jg (q_load tb rfl rfl bxo rfl) ?_
   refine Jg (q_len tb rfl rfl gvo) ?_
   refine Jg (q_leq rfl rfl) ?_
   refine Jg (q_pickT rfl rfl) ?_
   refine Jq (q_pickF rfl rfl) ?_
   refine Jq (q_move rfl) ?_
   refine L_dec (d := 19) rfl (fun h3 => ?_) (fun h3 => ?_)
   ·skip
    refine Jg (q_field tb rfl rfl rfl) ?_
    refine Jg (q_load tb rfl rfl bxo rfl) ?_
    refine Jg (q_len tb rfl rfl gvo) ?_
    refine Jg (q_leq rfl rfl) ?_
    refine Jq (q_pickT rfl rfl) ?_
    refine Jq (q_assign rfl) ?_
    refine L_then ?_
    refine C_ret ?_
    exact ret_of (res1 rfl rfl) sub_nil (by intro r hr; cases hr) ⟨(by unfold shortP; first | rfl | exact congrArg Value.bool (decide_eq_decide.2 (by omega)) | exact congrArg Value.bool (decide_eq_true (by omega)).symm | exact congrArg Value.bool (decide_eq_false (by omega)).symm | exact congrArg Value.bool (decide_eq_true (by omega))), rfl⟩
   ·skip
    refine Jk ?_
    refine Jk ?_
    refine Jk ?_
    refine Jk ?_
    refine Jq (q_pickF rfl rfl) ?_
    refine Jq (q_assign rfl) ?_
    refine L_then ?_
    refine C_ret ?_
    exact ret_of (res1 rfl rfl) sub_nil (by intro r hr; cases hr) ⟨(by unfold shortP; first | rfl | exact congrArg Value.bool (decide_eq_decide.2 (by omega)) | exact congrArg Value.bool (decide_eq_true (by omega)).symm | exact congrArg Value.bool (decide_eq_false (by omega)).symm | exact congrArg Value.bool (decide_eq_true (by omega))), rfl⟩
  ·skip
   refine Jk ?_
   refine Jk ?_
   refine Jk ?_
   refine Jk ?_
   refine Jg (q_pickF rfl rfl) ?_
   refine Jq (q_pickF rfl rfl) ?_
   refine Jq (q_move rfl) ?_
   refine Jk ?_
   refine Jk ?_
   refine Jk ?_
   refine Jk ?_
   refine Jq (q_pickF rfl rfl) ?_
   refine Jq (q_assign rfl) ?_
   refine L_then ?_
   refine C_ret ?_
   exact ret_of (res1 rfl rfl) sub_nil (by intro r hr; cases hr) ⟨(by unfold shortP; first | rfl | exact congrArg Value.bool (decide_eq_decide.2 (by omega)) | exact congrArg Value.bool (decide_eq_true (by omega)).symm | exact congrArg Value.bool (decide_eq_false (by omega)).symm | exact congrArg Value.bool (decide_eq_true (by omega))), rfl⟩
end Go.Proofs.YthilaakeimfedaaGreatDoor
namespace Go.Proofs.YthilaakeimfedaaGreatDoor
open Go.RowKit

set_option maxRecDepth 100000 in
set_option maxHeartbeats 4000000 in
theorem ct_shotlinelaw04_AscentChecks (v u z : Value) (x : Asc) (a b : Value) (L : List Dl) (F : List Int) : CtQ KQ Tryz.prog 8 [.agg (cAt v u z x).toArray, .agg #[a, b]] [(v, 4, x.ts.map cCp), (u, 4, x.ls.map cLd), (z, 3, x.gs.map cAg), (a, 3, L.map cDl), (b, 1, F.map cI)] (isV (.bool true)) := by
 refine CtQ.of (N := 45) Tryz.func8 rfl rfl rfl fun w hQ => ?_
 refine C_weak (E' := [(0, .agg (cAt v u z x).toArray), (1, .agg #[a, b])]) (rs' := [rd v 4 (x.ts.map cCp), rd u 4 (x.ls.map cLd), rd z 3 (x.gs.map cAg), rd a 3 (L.map cDl), rd b 1 (F.map cI)]) ⟨rfl, rfl, trivial⟩ (fun _ h => h) ?_
 have hl1 := len_map cCp x.ts
 have hl2 := len_map cLd x.ls
 have hl3 := len_map cAg x.gs
 have hl4 := len_map cDl L
 have hl5 := len_map cI F
 refine C_seq ?_
 refine C_region ?_
 refine L_box rfl rfl rfl fun g2 => ?_
 refine L_box rfl rfl rfl fun g3 => ?_
 refine Jq (q_assign rfl) ?_
 refine L_then ?_
 refine C_seq ?_
 refine C_seq ?_
 refine C_region ?_
 refine L_lo rfl rfl rfl (lo_callQ tb stQ hQ rfl rfl (ct_shotlinelaw04_awake) no_ps isV_sinks) ?_
 rintro _ _ ⟨rfl, rfl⟩
 refine Jq (q_not rfl rfl) ?_
 refine L_then ?_
 refine C_false rfl ?_
 refine C_skip_then ?_
 refine C_seq ?_
 refine C_seq ?_
 refine C_region ?_
 refine Jq (q_loadA tb rfl rfl bxo rfl rfl) ?_
 refine L_call tb rfl rfl (ct_shotlinelaw04_Light v u z x) (ps_cons gvo (ps_cons gvo (ps_cons gvo no_ps))) rfl ?_
 refine Jq (q_not rfl decide_not.symm) ?_
 refine Jq (q_move rfl) ?_
 refine L_dec (d := 14) rfl (fun hl => ?_) (fun hl => ?_)
 ·skip
  refine Jk ?_
  refine Jk ?_
  refine Jk ?_
  refine Jq (q_pickT rfl rfl) ?_
  refine L_then ?_
  refine C_true rfl ?_
  refine C_seq ?_
  refine C_region ?_
  refine Jq (q_assign rfl) ?_
  refine L_then ?_
  refine C_ret ?_
  exact ret_of (res1 rfl rfl) sub_nil (by intro r hr; cases hr) ⟨rfl, rfl⟩
 ·skip
  refine Jg (q_loadA tb rfl rfl bxo rfl rfl) ?_
  refine L_callg tb rfl rfl rfl rfl rfl rfl (ct_shotlinelaw04_short a b L F) (ps_cons gvo (ps_cons gvo no_ps)) rfl ?_
  refine Jg (q_not rfl decide_not.symm) ?_
  refine Jq (q_pickF rfl rfl) ?_
  refine L_then ?_
  refine C_dec rfl (fun hs => ?_) (fun hs => ?_)
  ·skip
   refine C_seq ?_
   refine C_region ?_
   refine Jq (q_assign rfl) ?_
   refine L_then ?_
   refine C_ret ?_
   exact ret_of (res1 rfl rfl) sub_nil (by intro r hr; cases hr) ⟨rfl, rfl⟩
  ·skip
   have hL := light_len (Decidable.not_not.1 hl)
   have hsh := Decidable.not_not.1 hs
   obtain ⟨hs1, hs2⟩ := hsh
   have hlb4 : L.length ≤ 402 := by omega
   refine C_skip_then ?_
   refine C_seq ?_
   refine C_draw (n := 10) [(0, false), (2, false), (1, true), (3, true), (4, true), (5, false), (6, false), (7, false), (8, false), (9, false)] mixed (by kernel_rfl) ?_
   refine Yq rfl (q_loadA tb rfl rfl bxo rfl rfl) ?_
   refine Yq rfl (q_loadA tb rfl rfl bxo rfl rfl) ?_
   refine W_lo rfl rfl rfl rfl (lo_call tb rfl rfl (ct_shotlinelaw04_own v u z x (by omega) (by omega) (by omega)) (ps_cons gvo (ps_cons gvo (ps_cons gvo no_ps))) isTo_sinks) ?_
   rintro _ _ ⟨A21, n21, c21, B21, m21, d21, C21, k21, e21, rfl, rfl⟩
   refine W_lo rfl rfl rfl rfl (lo_call tb rfl rfl (ct_shotlinelaw04_schedule a b L F (by omega) (by omega)) (ps_cons gvo (ps_cons gvo no_ps)) isSo_sinks) ?_
   rintro _ _ ⟨A23, n23, c23, B23, m23, d23, rfl, rfl⟩
   refine W_call tb rfl rfl rfl rfl (ct_ascent_CheckSchedule _ _ _ x _ _ L F (by omega) (by omega) (by omega) (by omega) (by omega)) (ps_cons gvo (ps_cons gvo (ps_cons gvo (ps_cons gvo (ps_cons gvo no_ps))))) rfl ?_
   refine Yq rfl (q_move rfl) ?_
   refine Yq rfl (q_ext0 rfl) ?_
   refine Yq rfl (q_ext1 rfl) ?_
   refine Yq rfl (q_assign rfl) ?_
   refine Yq rfl (q_assign rfl) ?_
   refine W_nil ?_
   refine L_then ?_
   refine C_seq ?_
   refine C_region ?_
   refine Jq (q_loadA tb rfl rfl bxo rfl rfl) ?_
   refine L_call tb rfl rfl (ct_shotlineref04_CheckTask v u z x (by omega) (by omega) (by omega)) (ps_cons gvo (ps_cons gvo (ps_cons gvo no_ps))) rfl ?_
   refine Jq (q_assign rfl) ?_
   refine L_then ?_
   refine C_seq ?_
   refine C_region ?_
   refine Jq (q_assign rfl) ?_
   refine L_then ?_
   refine C_cut (ι := Unit) (fun _p => ([(2, .pointer (some ⟨g2, 0, none⟩)), (3, .pointer (some ⟨g3, 0, none⟩)), (5, .int .i64 ((csE x L F).1)), (6, .int .i64 ((csE x L F).2)), (7, .int .i64 ((csE x L F).2)), (8, .int .i64 ((csE x L F).1))], [box g2 28 (cAt v u z x), box g3 74 [a, b], rd v 4 (x.ts.map cCp), rd u 4 (x.ls.map cLd), rd z 3 (x.gs.map cAg), rd a 3 (L.map cDl), rd b 1 (F.map cI)])) (fun _p => True) ?_ ?_
   ·skip
    refine C_seq ?_
    refine C_region ?_
    refine Jq (q_move rfl) ?_
    refine Jq (q_eql rfl rfl) ?_
    refine L_then ?_
    refine C_dec rfl (fun hc => ?_) (fun hc => ?_)
    ·skip
     have H := ckAsc_ok hc
     refine C_region ?_
     refine Jq (q_loadA tb rfl rfl bxo rfl rfl) ?_
     refine Jq (q_loadA tb rfl rfl bxo rfl rfl) ?_
     refine L_call tb rfl rfl (ct_shotlineref04_CheckSchedule v u z x a b L F H (by omega) (by omega)) (ps_cons gvo (ps_cons gvo (ps_cons gvo (ps_cons gvo (ps_cons gvo no_ps))))) rfl ?_
     refine Jq (q_move rfl) ?_
     refine Jq (q_ext0 rfl) ?_
     refine Jq (q_ext1 rfl) ?_
     refine Jq (q_assign rfl) ?_
     refine Jq (q_assign rfl) ?_
     refine L_end ?_
     exact fun ac_ wo_ hs_ => ⟨(), trivial, hs_.weak ⟨rfl, rfl, rfl, rfl, en (by rw [csE_2 hc]), en (by rw [csE_2 hc]), trivial⟩ (fun h => h.pk (by repeat (first | with_reducible exact pk_nil | refine pk_box rfl ?_ | refine pk_rd rfl ?_ | refine pk_sl rfl ?_ | with_reducible refine pk_app ?_ | with_reducible refine pk_app0 ?_ | with_reducible refine pk_app0L ?_ | with_reducible exact pk_tl | refine pk_var ?_)))⟩
    ·skip
     refine C_skip ?_
     exact fun ac_ wo_ hs_ => ⟨(), trivial, hs_.weak ⟨rfl, rfl, rfl, rfl, en (by rw [csE_1 hc]), en (by rw [csE_1 hc]), trivial⟩ (fun h => h.pk (by repeat (first | with_reducible exact pk_nil | refine pk_box rfl ?_ | refine pk_rd rfl ?_ | refine pk_sl rfl ?_ | with_reducible refine pk_app ?_ | with_reducible refine pk_app0 ?_ | with_reducible refine pk_app0L ?_ | with_reducible exact pk_tl | refine pk_var ?_)))⟩
   ·skip
    intro _ _
    refine C_seq ?_
    refine C_region ?_
    refine Jq (q_move rfl) ?_
    refine Jq (q_move rfl) ?_
    refine Jq (q_true (q_eql rfl rfl) (decide_eq_true rfl)) ?_
    refine Jq (q_move rfl) ?_
    refine Jg (q_move rfl) ?_
    refine Jg (q_move rfl) ?_
    refine Jg (q_true (q_eql rfl rfl) (decide_eq_true rfl)) ?_
    refine Jq (q_pickT rfl rfl) ?_
    refine Jq (q_assign rfl) ?_
    refine L_then ?_
    refine C_ret ?_
    exact ret_of (res1 rfl rfl) sub_nil (by intro r hr; cases hr) ⟨rfl, rfl⟩
end Go.Proofs.YthilaakeimfedaaGreatDoor
