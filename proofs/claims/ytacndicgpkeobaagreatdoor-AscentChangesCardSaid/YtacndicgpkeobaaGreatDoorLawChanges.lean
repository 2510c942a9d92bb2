/-
  Walks: each function named returns what its model says. Conditions: those in front of each theorem.
-/
import Derived.Test.YtacndicgpkeobaaGreatDoorAQ
import Derived.Test.YtacndicgpkeobaaGreatDoorAD
import Derived.Test.YtacndicgpkeobaaGreatDoorShBld
import Derived.Test.YtacndicgpkeobaaGreatDoorLH
import Derived.Test.YtacndicgpkeobaaGreatDoorLHs
import Derived.Test.YtacndicgpkeobaaGreatDoorLHe
import Derived.Test.YtacndicgpkeobaaGreatDoorBG
import Derived.Test.YtacndicgpkeobaaGreatDoorBD
namespace Go.Proofs.YtacndicgpkeobaaGreatDoor
open Go.RowKit

set_option maxRecDepth 100000 in
set_option maxHeartbeats 2000000 in
theorem ct_shotlinelaw04_awake  : CtQ KQ Tryz.prog 7 [] [] (isV (.bool true)) := by
 refine CtQ.of (N := 70) Tryz.func7 rfl rfl rfl fun w hQ => ?_
 refine C_weak (E' := []) (rs' := []) trivial (fun _ h => h) ?_
 refine C_seq ?_
 refine C_region ?_
 refine Jq (q_assign rfl) ?_
 refine L_then ?_
 refine C_seq ?_
 refine C_region ?_
 refine L_lo rfl rfl rfl (lo_call tb rfl rfl (ct_shotlinelaw04_At1000 2400000) no_ps isTo_sinks) ?_
 rintro _ _ ⟨A12, n12, c12, B12, m12, d12, C12, k12, e12, rfl, rfl⟩
 refine L_lo rfl rfl rfl (lo_call tb rfl rfl (ct_ascent_Generate _ _ _ (exA (ldA 2400000 2400000) 1000) (by decide) (by decide) (by decide)) (ps_cons gvo (ps_cons gvo (ps_cons gvo no_ps))) isSc_sinks) ?_
 rintro _ _ ⟨A13, n13, c13, B13, m13, d13, rfl, rfl⟩
 rw [gnE_2 ex_ck1, gen_ex]
 dsimp only
 refine Jq (q_move rfl) ?_
 refine Jq (q_ext0 rfl) ?_
 refine Jq (q_ext1 rfl) ?_
 refine L_alloc tb rfl rfl fun g1 => ?_
 refine L_st tb rfl rfl ?_
 refine Jq (q_assign rfl) ?_
 refine L_then ?_
 refine C_seq ?_
 refine C_region ?_
 refine Jq (q_loadA tb rfl rfl bxo rfl rfl) ?_
 refine L_lo rfl rfl rfl (lo_callQ tb stQ hQ rfl rfl (ct_ascent_Print _ _ exL exF (by decide) (by decide)) (ps_cons gvo (ps_cons gvo no_ps)) isV_sinks) ?_
 rintro _ _ ⟨rfl, rfl⟩
 rw [pr_ex, sc_ex]
 refine Jq (q_move rfl) ?_
 refine Jq (q_ext0 rfl) ?_
 refine Jq (q_ext1 rfl) ?_
 refine Jq (q_assign rfl) ?_
 refine Jq (q_assign rfl) ?_
 refine L_then ?_
 refine C_seq ?_
 refine C_region ?_
 refine L_lo rfl rfl rfl (lo_call tb rfl rfl (ct_shotlinelaw04_At1000 2000000) no_ps isTo_sinks) ?_
 rintro _ _ ⟨A22, n22, c22, B22, m22, d22, C22, k22, e22, rfl, rfl⟩
 refine L_call tb rfl rfl (ct_ascent_Direct _ _ _ (exA (ldA 2000000 2000000) 1000) (by decide) (by decide) (by decide)) (ps_cons gvo (ps_cons gvo (ps_cons gvo no_ps))) rfl ?_
 rw [drE_2 ex_ck2, dir_ex]
 refine Jq (q_move rfl) ?_
 refine Jq (q_ext0 rfl) ?_
 refine Jq (q_ext1 rfl) ?_
 refine Jq (q_assign rfl) ?_
 refine Jq (q_assign rfl) ?_
 refine L_then ?_
 refine C_seq ?_
 refine C_region ?_
 refine L_lo rfl rfl rfl (lo_call tb rfl rfl (ct_shotlinelaw04_At1000 740230) no_ps isTo_sinks) ?_
 rintro _ _ ⟨A27, n27, c27, B27, m27, d27, C27, k27, e27, rfl, rfl⟩
 refine L_call tb rfl rfl (ct_ascent_NoStopSeconds _ _ _ (exA (ldA 740230 740230) 1000) (by decide) (by decide) (by decide)) (ps_cons gvo (ps_cons gvo (ps_cons gvo no_ps))) rfl ?_
 rw [nsE_2 ex_ck3, ns_ex]
 refine Jq (q_move rfl) ?_
 refine Jq (q_ext0 rfl) ?_
 refine Jq (q_ext1 rfl) ?_
 refine Jq (q_assign rfl) ?_
 refine Jq (q_assign rfl) ?_
 refine L_then ?_
 refine C_seq ?_
 refine C_region ?_
 refine Jq (by first | exact q_build tb rfl rfl rfl rfl | exact q_buildArr tb rfl rfl rfl rfl rfl) ?_
 refine L_call tb rfl rfl (ct_ascent_FactorAt ⟨500, 500, 60, 300, 800, 1000, 0⟩ 333) no_ps rfl ?_
 rw [fa_ex]
 refine Jq (q_move rfl) ?_
 refine Jq (q_ext0 rfl) ?_
 refine Jq (q_ext1 rfl) ?_
 refine Jq (q_assign rfl) ?_
 refine Jq (q_assign rfl) ?_
 refine L_then ?_
 refine C_seq ?_
 refine C_region ?_
 refine Jq (q_move rfl) ?_
 refine Jq (q_true (q_eql rfl rfl) rfl) ?_
 refine Jq (q_move rfl) ?_
 refine Jg (q_move rfl) ?_
 refine Jg (q_true (q_eql rfl rfl) rfl) ?_
 refine Jq (q_pickT rfl rfl) ?_
 refine Jq (q_move rfl) ?_
 refine Jg (q_move rfl) ?_
 refine Jg (q_true (t_eq (a := exT) (b := exT) rfl rfl) (decide_eq_true rfl)) ?_
 refine Jq (q_pickT rfl rfl) ?_
 refine Jq (q_move rfl) ?_
 refine Jg (q_move rfl) ?_
 refine Jg (q_true (q_eql rfl rfl) rfl) ?_
 refine Jq (q_pickT rfl rfl) ?_
 refine Jq (q_move rfl) ?_
 refine Jg (q_move rfl) ?_
 refine Jg (q_true (q_eql rfl rfl) rfl) ?_
 refine Jq (q_pickT rfl rfl) ?_
 refine Jq (q_move rfl) ?_
 refine Jg (q_move rfl) ?_
 refine Jg (q_true (q_eql rfl rfl) rfl) ?_
 refine Jq (q_pickT rfl rfl) ?_
 refine Jq (q_move rfl) ?_
 refine Jg (q_move rfl) ?_
 refine Jg (q_true (q_eql rfl rfl) rfl) ?_
 refine Jq (q_pickT rfl rfl) ?_
 refine Jq (q_move rfl) ?_
 refine Jg (q_move rfl) ?_
 refine Jg (q_true (q_eql rfl rfl) rfl) ?_
 refine Jq (q_pickT rfl rfl) ?_
 refine Jq (q_move rfl) ?_
 refine Jg (q_move rfl) ?_
 refine Jg (q_true (q_eql rfl rfl) rfl) ?_
 refine Jq (q_pickT rfl rfl) ?_
 refine Jq (q_assign rfl) ?_
 refine L_then ?_
 refine C_ret ?_
 exact ret_of (res1 rfl rfl) sub_nil (by intro r hr; cases hr) ⟨rfl, rfl⟩
end Go.Proofs.YtacndicgpkeobaaGreatDoor
namespace Go.Proofs.YtacndicgpkeobaaGreatDoor
open Go.RowKit

set_option maxRecDepth 100000 in
set_option maxHeartbeats 4000000 in
theorem ct_shotlinelaw04_AscentChanges (v u z : Value) (x : Asc) (kd val : Int) (wv : Value) (cs : List (Int × Int)) : CtQ KQ Tryz.prog 3 [.agg (cAt v u z x).toArray, .agg #[.int .i64 kd, .int .i64 val], wv] [(v, 4, x.ts.map cCp), (u, 4, x.ls.map cLd), (z, 3, x.gs.map cAg), (wv, 2, cs.map cSp)] (isV (.bool true)) := by
 refine CtQ.of (N := 105) Tryz.func3 rfl rfl rfl fun w hQ => ?_
 refine C_weak (E' := [(0, .agg (cAt v u z x).toArray), (1, .agg #[.int .i64 kd, .int .i64 val]), (2, wv)]) (rs' := [rd v 4 (x.ts.map cCp), rd u 4 (x.ls.map cLd), rd z 3 (x.gs.map cAg), rd wv 2 (cs.map cSp)]) ⟨rfl, rfl, rfl, trivial⟩ (fun _ h => h) ?_
 have hl1 := len_map cCp x.ts
 have hl2 := len_map cLd x.ls
 have hl3 := len_map cAg x.gs
 have hlc := len_map cSp cs
 refine C_seq ?_
 refine C_region ?_
 refine L_box rfl rfl rfl fun g3 => ?_
 refine L_box rfl rfl rfl fun g4 => ?_
 refine Jq (q_assign rfl) ?_
 refine L_then ?_
 refine C_seq ?_
 refine C_seq ?_
 refine C_region ?_
 refine L_lo rfl rfl rfl (lo_callQ tb stQ hQ rfl rfl (ct_shotlinelaw04_awake) no_ps isV_sinks) ?_
 rintro _ _ ⟨rfl, rfl⟩
 refine Jq (q_not rfl rfl) ?_
 refine L_then ?_
 refine C_false rfl ?_
 refine C_skip_then ?_
 refine C_seq ?_
 refine C_seq ?_
 refine C_region ?_
 refine Jq (q_loadA tb rfl rfl bxo rfl rfl) ?_
 refine L_call tb rfl rfl (ct_shotlinelaw04_Light v u z x) (ps_cons gvo (ps_cons gvo (ps_cons gvo no_ps))) rfl ?_
 refine Jq (q_not rfl decide_not.symm) ?_
 refine Jq (q_move rfl) ?_
 refine L_dec (d := 19) rfl (fun hl => ?_) (fun hl => ?_)
 iterate 4 refine Jk ?_
 iterate 3 refine Ju ?_
 refine Jk ?_
 refine Jq (q_pickT rfl rfl) ?_
 refine Jq (q_move rfl) ?_
 iterate 3 refine Jk ?_
 refine Jq (q_pickT rfl rfl) ?_
 refine L_then ?_
 refine C_true rfl ?_
 refine C_seq ?_
 refine C_region ?_
 refine Jq (q_assign rfl) ?_
 refine L_then ?_
 refine C_ret ?_
 exact ret_of (res1 rfl rfl) sub_nil (by intro r hr; cases hr) ⟨rfl, rfl⟩
 refine Jg (q_move rfl) ?_
 refine Jg (q_len tb rfl rfl gvo) ?_
 refine Jg (q_gtr rfl rfl) ?_
 refine Jg (q_move rfl) ?_
 refine L_dec (d := 23) rfl (fun h4 => ?_) (fun h4 => ?_)
 refine Jg (q_move rfl) ?_
 refine Jg (q_len tb rfl rfl gvo) ?_
 refine Jg (q_leq rfl rfl) ?_
 refine Jg (q_pickT rfl rfl) ?_
 refine Jq (q_pickF rfl rfl) ?_
 refine Jq (q_move rfl) ?_
 refine L_dec (d := 29) rfl (fun h5 => ?_) (fun h5 => ?_)
 iterate 3 refine Jk ?_
 refine Jq (q_pickT rfl rfl) ?_
 refine L_then ?_
 refine C_true rfl ?_
 refine C_seq ?_
 refine C_region ?_
 refine Jq (q_assign rfl) ?_
 refine L_then ?_
 refine C_ret ?_
 exact ret_of (res1 rfl rfl) sub_nil (by intro r hr; cases hr) ⟨rfl, rfl⟩
 refine Jg (q_move rfl) ?_
 refine Jg (q_len tb rfl rfl gvo) ?_
 refine Jg (q_gtr rfl rfl) ?_
 refine Jq (q_pickF rfl rfl) ?_
 refine L_then ?_
 refine C_dec rfl (fun hq0 => ?_) (fun hq0 => ?_)
 refine C_seq ?_
 refine C_region ?_
 refine Jq (q_assign rfl) ?_
 refine L_then ?_
 refine C_ret ?_
 exact ret_of (res1 rfl rfl) sub_nil (by intro r hr; cases hr) ⟨rfl, rfl⟩
 have hL := light_len (Decidable.not_not.1 hl)
 refine C_skip_then ?_
 refine C_seq ?_
 refine C_wideF1 tb (k := 7) [(0, false), (2, false), (1, true), (3, true), (4, false), (5, false), (6, false)] [.s 8, .q 9] mixed (by kernel_rfl) rfl rfl rfl rfl (by kernel_rfl) rfl ?_
 refine X1_q rfl rfl rfl rfl (q_loadA tb rfl rfl bxo rfl rfl) ?_
 refine X1_q rfl rfl rfl rfl (q_loadA tb rfl rfl bxo rfl rfl) ?_
 refine X1_lo rfl rfl rfl rfl (lo_call tb rfl rfl (ct_shotlinelaw04_own v u z x (by omega) (by omega) (by omega)) (ps_cons gvo (ps_cons gvo (ps_cons gvo no_ps))) isTo_sinks) ?_
 rintro _ _ ⟨A36, n36, c36, B36, m36, d36, C36, k36, e36, rfl, rfl⟩
 try dsimp only [List.cons_append, List.nil_append]
 refine X1_lo rfl rfl rfl rfl (lo_call tb rfl rfl (ct_ascent_Changed _ _ _ x kd val (by omega) (by omega) (by omega)) (ps_cons gvo (ps_cons gvo (ps_cons gvo no_ps))) isRg_sinks) ?_
 rintro _ rs38 ⟨⟨A38, n38, c38, B38, m38, d38, C38, k38, e38, rfl, hsk38, hG38⟩, ho38⟩
 try dsimp only [List.cons_append, List.nil_append]
 refine X1_q rfl rfl rfl rfl (q_move rfl) ?_
 refine X1_q rfl rfl rfl rfl (q_ext0 rfl) ?_
 refine X1_q rfl rfl rfl rfl (q_ext1 rfl) ?_
 refine X1_nil ?_
 intro g7
 try try dsimp only [List.cons_append, List.nil_append]
 first | refine X_store tb rfl rfl (List.Perm.refl _) rfl rfl rfl rfl rfl rfl rfl rfl ?_ | refine X_store tb rfl rfl perm1 rfl rfl rfl rfl rfl rfl rfl rfl ?_ | refine X_store tb rfl rfl (perm_front (pre := [_, _])) rfl rfl rfl rfl rfl rfl rfl rfl ?_ | refine X_store tb rfl rfl (perm_front (pre := [_, _, _])) rfl rfl rfl rfl rfl rfl rfl rfl ?_
 refine X_q rfl rfl rfl rfl (q_assign rfl) ?_
 refine X_nil ?_
 try dsimp only [List.cons_append, List.nil_append]
 refine L_then ?_
 refine C_seq ?_
 refine C_region ?_
 refine Jq (q_loadA tb rfl rfl bxo rfl rfl) ?_
 refine L_lo rfl rfl rfl (lo_call tb rfl rfl (ct_shotlinelaw04_own v u z x (by omega) (by omega) (by omega)) (ps_cons gvo (ps_cons gvo (ps_cons gvo no_ps))) isTo_sinks) ?_
 rintro _ _ ⟨A43, n43, c43, B43, m43, d43, C43, k43, e43, rfl, rfl⟩
 refine L_mk (lo_bslice tb rfl rfl rfl (xs := []) rfl rfl (by simp) rfl (by omega) rfl) rfl rfl rfl fun v44 => ?_
 refine Jq (q_move rfl) ?_
 refine L_ap tb rfl rfl rfl rfl gvo (one_sp cs) (by simp [maxLen]; omega) (by simp; omega) fun v46 => ?_
 refine L_callSN tb rfl rfl (ct_ascent_Variants _ _ _ x _ cs (by omega) (by omega) (by omega) (by omega)) (ps_cons gvo (ps_cons gvo (ps_cons gvo (ps_cons gvo no_ps)))) rfl fun v47 => ?_
 refine Jq (q_move rfl) ?_
 refine Jq (q_ext0 rfl) ?_
 refine Jq (q_ext1 rfl) ?_
 refine Jq (q_assign rfl) ?_
 refine Jq (q_assign rfl) ?_
 refine L_then ?_
 refine C_seq ?_
 refine C_seq ?_
 refine C_region ?_
 refine Jq (q_loadA tb rfl rfl bxo rfl rfl) ?_
 refine L_call tb rfl rfl (ct_shotlineref04_CheckTask v u z x (by omega) (by omega) (by omega)) (ps_cons gvo (ps_cons gvo (ps_cons gvo no_ps))) rfl ?_
 refine Jq (q_assign rfl) ?_
 refine L_then ?_
 refine C_seq ?_
 refine C_region ?_
 refine Jq (q_move rfl) ?_
 refine Jq (q_neq rfl rfl) ?_
 refine L_then ?_
 refine C_dec rfl (fun hc => ?_) (fun hc => ?_)
 obtain ⟨r1, r2⟩ := ch_1 (kd := kd) (v := val) hc
 obtain ⟨r3, r4⟩ := vr_1 (cs := cs) hc
 rw [r1, r2, r3, r4]
 rw [r2] at hG38
 refine C_seq ?_
 refine C_region ?_
 refine Jq (q_move rfl) ?_
 refine Jq (q_move rfl) ?_
 refine Jq (q_true (q_eql rfl rfl) (decide_eq_true rfl)) ?_
 refine Jq (q_move rfl) ?_
 refine Jg (q_move rfl) ?_
 refine Jg (q_move rfl) ?_
 refine Jg (q_true (q_eql rfl rfl) (decide_eq_true rfl)) ?_
 refine Jq (q_pickT rfl rfl) ?_
 refine Jq (q_move rfl) ?_
 refine Jg (q_loadA tb rfl rfl bxo rfl rfl) ?_
 refine L_callg tb rfl rfl rfl rfl rfl rfl (ct_shotlinelaw04_none _ _ _) (ps_cons (gv1 (gv1 (gv_r (gv1 (by rw [List.append_assoc]; refine And.left (hG38 _ ?_ ?_ ?_) <;> exact gvo))))) (ps_cons (gv1 (gv1 (gv_r (gv1 (by rw [List.append_assoc]; refine And.left (And.right (hG38 _ ?_ ?_ ?_)) <;> exact gvo))))) (ps_cons (gv1 (gv1 (gv_r (gv1 (by rw [List.append_assoc]; refine And.right (And.right (hG38 _ ?_ ?_ ?_)) <;> exact gvo))))) no_ps))) rfl ?_
 refine Jq (q_pickT rfl rfl) ?_
 refine Jq (q_move rfl) ?_
 refine Jg (q_move rfl) ?_
 refine Jg (q_len tb rfl rfl gvo) ?_
 refine Jg (q_true (q_eql rfl rfl) (decide_eq_true rfl)) ?_
 refine Jq (q_pickT rfl rfl) ?_
 refine Jq (q_assign rfl) ?_
 refine L_then ?_
 refine C_ret ?_
 exact ret_of (res1 rfl rfl) sub_nil (by intro r hr; cases hr) ⟨rfl, rfl⟩
 have hz := Decidable.not_not.1 hc
 have H := ckAsc_ok hz
 obtain ⟨r1, r2⟩ := ch_E (kd := kd) (v := val) hz
 rw [r1, r2]
 rw [r2] at hG38
 have hb9 := chA_len H kd val
 refine C_skip_then ?_
 refine C_seq ?_
 refine C_region ?_
 refine Jq (q_loadA tb rfl rfl bxo rfl rfl) ?_
 refine Jq (q_loadA tb rfl rfl bxo rfl rfl) ?_
 refine L_lo rfl rfl rfl (lo_call tb rfl rfl (ct_shotlineref04_Changed v u z x kd val H) (ps_cons gvo (ps_cons gvo (ps_cons gvo no_ps))) isRg_sinks) ?_
 rintro _ rs74 ⟨⟨A74, n74, c74, B74, m74, d74, C74, k74, e74, rfl, hsk74, hG74⟩, ho74⟩
 refine Jq (q_move rfl) ?_
 refine Jq (q_ext0 rfl) ?_
 refine Jq (q_ext1 rfl) ?_
 refine L_alloc tb rfl rfl fun g12 => ?_
 refine L_st tb rfl rfl ?_
 refine Jq (q_assign rfl) ?_
 refine L_then ?_
 refine C_seq ?_
 refine C_seq ?_
 refine C_region ?_
 refine Jq (q_move rfl) ?_
 refine Jq (q_move rfl) ?_
 refine Jq (q_false (q_neq rfl rfl) (decide_eq_false fun h => h rfl)) ?_
 refine Jq (q_move rfl) ?_
 refine Jg (q_loadA tb rfl rfl bxo rfl rfl) ?_
 refine Jg (q_loadA tb rfl rfl bxo rfl rfl) ?_
 refine L_callg tb rfl rfl rfl rfl rfl rfl (ct_shotlinelaw04_same _ _ _ _ _ _ (chgA x kd val) hb9.1 hb9.2.1 hb9.2.2) (ps_cons (gv1 (gv_r (gv1 (gv1 (gv_r (gv1 (by rw [List.append_assoc]; refine And.left (hG38 _ ?_ ?_ ?_) <;> exact gvo))))))) (ps_cons (gv1 (gv_r (gv1 (gv1 (gv_r (gv1 (by rw [List.append_assoc]; refine And.left (And.right (hG38 _ ?_ ?_ ?_)) <;> exact gvo))))))) (ps_cons (gv1 (gv_r (gv1 (gv1 (gv_r (gv1 (by rw [List.append_assoc]; refine And.right (And.right (hG38 _ ?_ ?_ ?_)) <;> exact gvo))))))) (ps_cons (gv1 (by refine And.left (hG74 _ ?_ ?_ ?_) <;> exact gvo)) (ps_cons (gv1 (by refine And.left (And.right (hG74 _ ?_ ?_ ?_)) <;> exact gvo)) (ps_cons (gv1 (by refine And.right (And.right (hG74 _ ?_ ?_ ?_)) <;> exact gvo)) no_ps)))))) rfl ?_
 refine Jg (q_not rfl rfl) ?_
 refine Jq (q_pickF rfl rfl) ?_
 refine L_then ?_
 refine C_false rfl ?_
 refine C_skip_then ?_
 refine C_seq ?_
 refine C_seq ?_
 refine C_region ?_
 refine Jq (q_move rfl) ?_
 refine Jq (q_len tb rfl rfl gvo) ?_
 refine Jq (q_gtr rfl rfl) ?_
 refine L_then ?_
 refine C_dec rfl (fun hn => ?_) (fun hn => ?_)
 obtain ⟨r3, r4⟩ := vr_2 (x := x) (cs := cs) hz (by omega)
 rw [r3, r4]
 refine C_seq ?_
 refine C_region ?_
 refine Jq (q_move rfl) ?_
 refine Jq (q_true (q_eql rfl rfl) (decide_eq_true rfl)) ?_
 refine Jq (q_move rfl) ?_
 refine Jg (q_move rfl) ?_
 refine Jg (q_len tb rfl rfl gvo) ?_
 refine Jg (q_true (q_eql rfl rfl) (decide_eq_true rfl)) ?_
 refine Jq (q_pickT rfl rfl) ?_
 refine Jq (q_assign rfl) ?_
 refine L_then ?_
 refine C_ret ?_
 exact ret_of (res1 rfl rfl) sub_nil (by intro r hr; cases hr) ⟨rfl, rfl⟩
 obtain ⟨r3, r4⟩ := vr_3 (x := x) (cs := cs) hz (by omega)
 rw [r3, r4]
 refine C_skip_then ?_
 refine C_seq ?_
 refine C_region ?_
 refine Jq (q_move rfl) ?_
 refine Jq (q_true (q_eql rfl rfl) (decide_eq_true rfl)) ?_
 refine Jq (q_move rfl) ?_
 refine Jg (q_move rfl) ?_
 refine Jg (q_loadA tb rfl rfl bxo rfl rfl) ?_
 refine Jg (q_move rfl) ?_
 refine L_log rfl rfl rfl rfl rfl rfl rfl (lo_call tb rfl rfl (ct_shotlineref04_Variants v u z x wv cs H (by omega)) (ps_cons gvo (ps_cons gvo (ps_cons gvo (ps_cons gvo no_ps)))) isSl_sinks) ?_
 intro v102 rs_ hr_; unfold isSl at hr_; subst hr_
 refine L_callg tb rfl rfl rfl rfl rfl rfl (ct_shotlinebase_Ints _ _ (varA x :: cs.map (varC x)) (by simp; omega)) (ps_cons gvo (ps_cons gvo no_ps)) rfl ?_
 refine Jq (q_pickT rfl rfl) ?_
 refine Jq (q_assign rfl) ?_
 refine L_then ?_
 refine C_ret ?_
 exact ret_of (res1 rfl rfl) sub_nil (by intro r hr; cases hr) ⟨rfl, rfl⟩
 iterate 3 refine Jk ?_
 refine Jg (q_pickF rfl rfl) ?_
 refine Jq (q_pickF rfl rfl) ?_
 refine Jq (q_move rfl) ?_
 refine Jg (q_move rfl) ?_
 refine Jg (q_len tb rfl rfl gvo) ?_
 refine Jg (q_gtr rfl rfl) ?_
 refine Jq (q_pickF rfl rfl) ?_
 refine L_then ?_
 refine C_dec rfl (fun hq0 => ?_) (fun hq0 => ?_)
 refine C_seq ?_
 refine C_region ?_
 refine Jq (q_assign rfl) ?_
 refine L_then ?_
 refine C_ret ?_
 exact ret_of (res1 rfl rfl) sub_nil (by intro r hr; cases hr) ⟨rfl, rfl⟩
 have hL := light_len (Decidable.not_not.1 hl)
 refine C_skip_then ?_
 refine C_seq ?_
 refine C_wideF1 tb (k := 7) [(0, false), (2, false), (1, true), (3, true), (4, false), (5, false), (6, false)] [.s 8, .q 9] mixed (by kernel_rfl) rfl rfl rfl rfl (by kernel_rfl) rfl ?_
 refine X1_q rfl rfl rfl rfl (q_loadA tb rfl rfl bxo rfl rfl) ?_
 refine X1_q rfl rfl rfl rfl (q_loadA tb rfl rfl bxo rfl rfl) ?_
 refine X1_lo rfl rfl rfl rfl (lo_call tb rfl rfl (ct_shotlinelaw04_own v u z x (by omega) (by omega) (by omega)) (ps_cons gvo (ps_cons gvo (ps_cons gvo no_ps))) isTo_sinks) ?_
 rintro _ _ ⟨A36, n36, c36, B36, m36, d36, C36, k36, e36, rfl, rfl⟩
 try dsimp only [List.cons_append, List.nil_append]
 refine X1_lo rfl rfl rfl rfl (lo_call tb rfl rfl (ct_ascent_Changed _ _ _ x kd val (by omega) (by omega) (by omega)) (ps_cons gvo (ps_cons gvo (ps_cons gvo no_ps))) isRg_sinks) ?_
 rintro _ rs38 ⟨⟨A38, n38, c38, B38, m38, d38, C38, k38, e38, rfl, hsk38, hG38⟩, ho38⟩
 try dsimp only [List.cons_append, List.nil_append]
 refine X1_q rfl rfl rfl rfl (q_move rfl) ?_
 refine X1_q rfl rfl rfl rfl (q_ext0 rfl) ?_
 refine X1_q rfl rfl rfl rfl (q_ext1 rfl) ?_
 refine X1_nil ?_
 intro g7
 try try dsimp only [List.cons_append, List.nil_append]
 first | refine X_store tb rfl rfl (List.Perm.refl _) rfl rfl rfl rfl rfl rfl rfl rfl ?_ | refine X_store tb rfl rfl perm1 rfl rfl rfl rfl rfl rfl rfl rfl ?_ | refine X_store tb rfl rfl (perm_front (pre := [_, _])) rfl rfl rfl rfl rfl rfl rfl rfl ?_ | refine X_store tb rfl rfl (perm_front (pre := [_, _, _])) rfl rfl rfl rfl rfl rfl rfl rfl ?_
 refine X_q rfl rfl rfl rfl (q_assign rfl) ?_
 refine X_nil ?_
 try dsimp only [List.cons_append, List.nil_append]
 refine L_then ?_
 refine C_seq ?_
 refine C_region ?_
 refine Jq (q_loadA tb rfl rfl bxo rfl rfl) ?_
 refine L_lo rfl rfl rfl (lo_call tb rfl rfl (ct_shotlinelaw04_own v u z x (by omega) (by omega) (by omega)) (ps_cons gvo (ps_cons gvo (ps_cons gvo no_ps))) isTo_sinks) ?_
 rintro _ _ ⟨A43, n43, c43, B43, m43, d43, C43, k43, e43, rfl, rfl⟩
 refine L_mk (lo_bslice tb rfl rfl rfl (xs := []) rfl rfl (by simp) rfl (by omega) rfl) rfl rfl rfl fun v44 => ?_
 refine Jq (q_move rfl) ?_
 refine L_ap tb rfl rfl rfl rfl gvo (one_sp cs) (by simp [maxLen]; omega) (by simp; omega) fun v46 => ?_
 refine L_callSN tb rfl rfl (ct_ascent_Variants _ _ _ x _ cs (by omega) (by omega) (by omega) (by omega)) (ps_cons gvo (ps_cons gvo (ps_cons gvo (ps_cons gvo no_ps)))) rfl fun v47 => ?_
 refine Jq (q_move rfl) ?_
 refine Jq (q_ext0 rfl) ?_
 refine Jq (q_ext1 rfl) ?_
 refine Jq (q_assign rfl) ?_
 refine Jq (q_assign rfl) ?_
 refine L_then ?_
 refine C_seq ?_
 refine C_seq ?_
 refine C_region ?_
 refine Jq (q_loadA tb rfl rfl bxo rfl rfl) ?_
 refine L_call tb rfl rfl (ct_shotlineref04_CheckTask v u z x (by omega) (by omega) (by omega)) (ps_cons gvo (ps_cons gvo (ps_cons gvo no_ps))) rfl ?_
 refine Jq (q_assign rfl) ?_
 refine L_then ?_
 refine C_seq ?_
 refine C_region ?_
 refine Jq (q_move rfl) ?_
 refine Jq (q_neq rfl rfl) ?_
 refine L_then ?_
 refine C_dec rfl (fun hc => ?_) (fun hc => ?_)
 obtain ⟨r1, r2⟩ := ch_1 (kd := kd) (v := val) hc
 obtain ⟨r3, r4⟩ := vr_1 (cs := cs) hc
 rw [r1, r2, r3, r4]
 rw [r2] at hG38
 refine C_seq ?_
 refine C_region ?_
 refine Jq (q_move rfl) ?_
 refine Jq (q_move rfl) ?_
 refine Jq (q_true (q_eql rfl rfl) (decide_eq_true rfl)) ?_
 refine Jq (q_move rfl) ?_
 refine Jg (q_move rfl) ?_
 refine Jg (q_move rfl) ?_
 refine Jg (q_true (q_eql rfl rfl) (decide_eq_true rfl)) ?_
 refine Jq (q_pickT rfl rfl) ?_
 refine Jq (q_move rfl) ?_
 refine Jg (q_loadA tb rfl rfl bxo rfl rfl) ?_
 refine L_callg tb rfl rfl rfl rfl rfl rfl (ct_shotlinelaw04_none _ _ _) (ps_cons (gv1 (gv1 (gv_r (gv1 (by rw [List.append_assoc]; refine And.left (hG38 _ ?_ ?_ ?_) <;> exact gvo))))) (ps_cons (gv1 (gv1 (gv_r (gv1 (by rw [List.append_assoc]; refine And.left (And.right (hG38 _ ?_ ?_ ?_)) <;> exact gvo))))) (ps_cons (gv1 (gv1 (gv_r (gv1 (by rw [List.append_assoc]; refine And.right (And.right (hG38 _ ?_ ?_ ?_)) <;> exact gvo))))) no_ps))) rfl ?_
 refine Jq (q_pickT rfl rfl) ?_
 refine Jq (q_move rfl) ?_
 refine Jg (q_move rfl) ?_
 refine Jg (q_len tb rfl rfl gvo) ?_
 refine Jg (q_true (q_eql rfl rfl) (decide_eq_true rfl)) ?_
 refine Jq (q_pickT rfl rfl) ?_
 refine Jq (q_assign rfl) ?_
 refine L_then ?_
 refine C_ret ?_
 exact ret_of (res1 rfl rfl) sub_nil (by intro r hr; cases hr) ⟨rfl, rfl⟩
 have hz := Decidable.not_not.1 hc
 have H := ckAsc_ok hz
 obtain ⟨r1, r2⟩ := ch_E (kd := kd) (v := val) hz
 rw [r1, r2]
 rw [r2] at hG38
 have hb9 := chA_len H kd val
 refine C_skip_then ?_
 refine C_seq ?_
 refine C_region ?_
 refine Jq (q_loadA tb rfl rfl bxo rfl rfl) ?_
 refine Jq (q_loadA tb rfl rfl bxo rfl rfl) ?_
 refine L_lo rfl rfl rfl (lo_call tb rfl rfl (ct_shotlineref04_Changed v u z x kd val H) (ps_cons gvo (ps_cons gvo (ps_cons gvo no_ps))) isRg_sinks) ?_
 rintro _ rs74 ⟨⟨A74, n74, c74, B74, m74, d74, C74, k74, e74, rfl, hsk74, hG74⟩, ho74⟩
 refine Jq (q_move rfl) ?_
 refine Jq (q_ext0 rfl) ?_
 refine Jq (q_ext1 rfl) ?_
 refine L_alloc tb rfl rfl fun g12 => ?_
 refine L_st tb rfl rfl ?_
 refine Jq (q_assign rfl) ?_
 refine L_then ?_
 refine C_seq ?_
 refine C_seq ?_
 refine C_region ?_
 refine Jq (q_move rfl) ?_
 refine Jq (q_move rfl) ?_
 refine Jq (q_false (q_neq rfl rfl) (decide_eq_false fun h => h rfl)) ?_
 refine Jq (q_move rfl) ?_
 refine Jg (q_loadA tb rfl rfl bxo rfl rfl) ?_
 refine Jg (q_loadA tb rfl rfl bxo rfl rfl) ?_
 refine L_callg tb rfl rfl rfl rfl rfl rfl (ct_shotlinelaw04_same _ _ _ _ _ _ (chgA x kd val) hb9.1 hb9.2.1 hb9.2.2) (ps_cons (gv1 (gv_r (gv1 (gv1 (gv_r (gv1 (by rw [List.append_assoc]; refine And.left (hG38 _ ?_ ?_ ?_) <;> exact gvo))))))) (ps_cons (gv1 (gv_r (gv1 (gv1 (gv_r (gv1 (by rw [List.append_assoc]; refine And.left (And.right (hG38 _ ?_ ?_ ?_)) <;> exact gvo))))))) (ps_cons (gv1 (gv_r (gv1 (gv1 (gv_r (gv1 (by rw [List.append_assoc]; refine And.right (And.right (hG38 _ ?_ ?_ ?_)) <;> exact gvo))))))) (ps_cons (gv1 (by refine And.left (hG74 _ ?_ ?_ ?_) <;> exact gvo)) (ps_cons (gv1 (by refine And.left (And.right (hG74 _ ?_ ?_ ?_)) <;> exact gvo)) (ps_cons (gv1 (by refine And.right (And.right (hG74 _ ?_ ?_ ?_)) <;> exact gvo)) no_ps)))))) rfl ?_
 refine Jg (q_not rfl rfl) ?_
 refine Jq (q_pickF rfl rfl) ?_
 refine L_then ?_
 refine C_false rfl ?_
 refine C_skip_then ?_
 refine C_seq ?_
 refine C_seq ?_
 refine C_region ?_
 refine Jq (q_move rfl) ?_
 refine Jq (q_len tb rfl rfl gvo) ?_
 refine Jq (q_gtr rfl rfl) ?_
 refine L_then ?_
 refine C_dec rfl (fun hn => ?_) (fun hn => ?_)
 obtain ⟨r3, r4⟩ := vr_2 (x := x) (cs := cs) hz (by omega)
 rw [r3, r4]
 refine C_seq ?_
 refine C_region ?_
 refine Jq (q_move rfl) ?_
 refine Jq (q_true (q_eql rfl rfl) (decide_eq_true rfl)) ?_
 refine Jq (q_move rfl) ?_
 refine Jg (q_move rfl) ?_
 refine Jg (q_len tb rfl rfl gvo) ?_
 refine Jg (q_true (q_eql rfl rfl) (decide_eq_true rfl)) ?_
 refine Jq (q_pickT rfl rfl) ?_
 refine Jq (q_assign rfl) ?_
 refine L_then ?_
 refine C_ret ?_
 exact ret_of (res1 rfl rfl) sub_nil (by intro r hr; cases hr) ⟨rfl, rfl⟩
 obtain ⟨r3, r4⟩ := vr_3 (x := x) (cs := cs) hz (by omega)
 rw [r3, r4]
 refine C_skip_then ?_
 refine C_seq ?_
 refine C_region ?_
 refine Jq (q_move rfl) ?_
 refine Jq (q_true (q_eql rfl rfl) (decide_eq_true rfl)) ?_
 refine Jq (q_move rfl) ?_
 refine Jg (q_move rfl) ?_
 refine Jg (q_loadA tb rfl rfl bxo rfl rfl) ?_
 refine Jg (q_move rfl) ?_
 refine L_log rfl rfl rfl rfl rfl rfl rfl (lo_call tb rfl rfl (ct_shotlineref04_Variants v u z x wv cs H (by omega)) (ps_cons gvo (ps_cons gvo (ps_cons gvo (ps_cons gvo no_ps)))) isSl_sinks) ?_
 intro v102 rs_ hr_; unfold isSl at hr_; subst hr_
 refine L_callg tb rfl rfl rfl rfl rfl rfl (ct_shotlinebase_Ints _ _ (varA x :: cs.map (varC x)) (by simp; omega)) (ps_cons gvo (ps_cons gvo no_ps)) rfl ?_
 refine Jq (q_pickT rfl rfl) ?_
 refine Jq (q_assign rfl) ?_
 refine L_then ?_
 refine C_ret ?_
 exact ret_of (res1 rfl rfl) sub_nil (by intro r hr; cases hr) ⟨rfl, rfl⟩
end Go.Proofs.YtacndicgpkeobaaGreatDoor
