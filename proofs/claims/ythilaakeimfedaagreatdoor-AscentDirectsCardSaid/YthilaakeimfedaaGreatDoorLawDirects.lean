/-
  Walks: each function named returns what its model says. Conditions: those in front of each theorem.
-/
import Derived.Test.YthilaakeimfedaaGreatDoorAR
import Derived.Test.YthilaakeimfedaaGreatDoorAS
import Derived.Test.YthilaakeimfedaaGreatDoorLH
import Derived.Test.YthilaakeimfedaaGreatDoorAs10
namespace Go.Proofs.YthilaakeimfedaaGreatDoor
open Go.RowKit

set_option maxRecDepth 100000 in
set_option maxHeartbeats 4000000 in
theorem ct_shotlinelaw04_AscentDirects (v u z : Value) (x : Asc) : CtQ KQ Tryz.prog 7 [.agg (cAt v u z x).toArray] [(v, 4, x.ts.map cCp), (u, 4, x.ls.map cLd), (z, 3, x.gs.map cAg)] (isV (.bool true)) := by
 refine CtQ.of (N := 80) Tryz.func7 rfl rfl rfl fun w hQ => ?_
 refine C_weak (E' := [(0, .agg (cAt v u z x).toArray)]) (rs' := [rd v 4 (x.ts.map cCp), rd u 4 (x.ls.map cLd), rd z 3 (x.gs.map cAg)]) ⟨rfl, trivial⟩ (fun _ h => h) ?_
 have hl1 := len_map cCp x.ts
 have hl2 := len_map cLd x.ls
 have hl3 := len_map cAg x.gs
 refine C_seq ?_
 refine C_region ?_
 refine L_box rfl rfl rfl fun g1 => ?_
 refine Jq (q_assign rfl) ?_
 refine L_then ?_
 refine C_seq ?_
 refine C_seq ?_
 refine C_region ?_
 refine L_lo rfl rfl rfl (lo_callQ tb stQ hQ rfl rfl (ct_shotlinelaw04_awake) no_ps isV_sinks) ?_
 rintro _ _ ⟨rfl, rfl⟩
 refine Jq (q_not rfl rfl) ?_
 refine L_then ?_
 refine C_false rfl ?_
 refine C_skip_then ?_
 refine C_seq ?_
 refine C_seq ?_
 refine C_region ?_
 refine Jq (q_loadA tb rfl rfl bxo rfl rfl) ?_
 refine L_call tb rfl rfl (ct_shotlinelaw04_Light v u z x) (ps_cons gvo (ps_cons gvo (ps_cons gvo no_ps))) rfl ?_
 refine Jq (q_not rfl decide_not.symm) ?_
 refine L_then ?_
 refine C_dec rfl (fun hl => ?_) (fun hl => ?_)
 ·skip
  refine C_seq ?_
  refine C_region ?_
  refine Jq (q_assign rfl) ?_
  refine L_then ?_
  refine C_ret ?_
  exact ret_of (res1 rfl rfl) sub_nil (by intro r hr; cases hr) ⟨rfl, rfl⟩
 ·skip
  have hL := light_len (Decidable.not_not.1 hl)
  refine C_skip_then ?_
  refine C_seq ?_
  refine C_region ?_
  refine Jq (q_loadA tb rfl rfl bxo rfl rfl) ?_
  refine L_lo rfl rfl rfl (lo_call tb rfl rfl (ct_shotlinelaw04_own v u z x (by omega) (by omega) (by omega)) (ps_cons gvo (ps_cons gvo (ps_cons gvo no_ps))) isTo_sinks) ?_
  rintro _ _ ⟨A18, n18, c18, B18, m18, d18, C18, k18, e18, rfl, rfl⟩
  refine L_call tb rfl rfl (ct_ascent_Direct _ _ _ x (by omega) (by omega) (by omega)) (ps_cons gvo (ps_cons gvo (ps_cons gvo no_ps))) rfl ?_
  refine Jq (q_move rfl) ?_
  refine Jq (q_ext0 rfl) ?_
  refine Jq (q_ext1 rfl) ?_
  refine Jq (q_assign rfl) ?_
  refine Jq (q_assign rfl) ?_
  refine L_then ?_
  refine C_seq ?_
  refine C_region ?_
  refine Jq (q_loadA tb rfl rfl bxo rfl rfl) ?_
  refine L_call tb rfl rfl (ct_shotlineref04_CheckTask v u z x (by omega) (by omega) (by omega)) (ps_cons gvo (ps_cons gvo (ps_cons gvo no_ps))) rfl ?_
  refine Jq (q_assign rfl) ?_
  refine L_then ?_
  refine C_seq ?_
  refine C_region ?_
  refine Jq (q_assign rfl) ?_
  refine L_then ?_
  refine C_cut (ι := Unit) (fun _p => ([(1, .pointer (some ⟨g1, 0, none⟩)), (3, .int .i64 ((drE x).1)), (4, .int .i64 ((drE x).2)), (5, .int .i64 ((drE x).2)), (6, .int .i64 ((drE x).1))], [box g1 28 (cAt v u z x), rd v 4 (x.ts.map cCp), rd u 4 (x.ls.map cLd), rd z 3 (x.gs.map cAg)])) (fun _p => True) ?_ ?_
  ·skip
   refine C_seq ?_
   refine C_region ?_
   refine Jq (q_move rfl) ?_
   refine Jq (q_eql rfl rfl) ?_
   refine L_then ?_
   refine C_dec rfl (fun hc => ?_) (fun hc => ?_)
   ·skip
    have H := ckAsc_ok hc
    refine C_region ?_
    refine Jq (q_loadA tb rfl rfl bxo rfl rfl) ?_
    refine L_call tb rfl rfl (ct_shotlineref04_Direct v u z x H) (ps_cons gvo (ps_cons gvo (ps_cons gvo no_ps))) rfl ?_
    refine Jq (q_move rfl) ?_
    refine Jq (q_ext0 rfl) ?_
    refine Jq (q_ext1 rfl) ?_
    refine Jq (q_assign rfl) ?_
    refine Jq (q_assign rfl) ?_
    refine L_end ?_
    exact fun ac_ wo_ hs_ => ⟨(), trivial, hs_.weak ⟨rfl, rfl, rfl, en (by rw [drE_2 hc]), en (by rw [drE_2 hc]), trivial⟩ (fun h => h.pk (by repeat (first | with_reducible exact pk_nil | refine pk_box rfl ?_ | refine pk_rd rfl ?_ | refine pk_sl rfl ?_ | with_reducible refine pk_app ?_ | with_reducible refine pk_app0 ?_ | with_reducible refine pk_app0L ?_ | with_reducible exact pk_tl | refine pk_var ?_)))⟩
   ·skip
    refine C_skip ?_
    exact fun ac_ wo_ hs_ => ⟨(), trivial, hs_.weak ⟨rfl, rfl, rfl, en (by rw [drE_1 hc]), en (by rw [drE_1 hc]), trivial⟩ (fun h => h.pk (by repeat (first | with_reducible exact pk_nil | refine pk_box rfl ?_ | refine pk_rd rfl ?_ | refine pk_sl rfl ?_ | with_reducible refine pk_app ?_ | with_reducible refine pk_app0 ?_ | with_reducible refine pk_app0L ?_ | with_reducible exact pk_tl | refine pk_var ?_)))⟩
  ·skip
   intro _ _
   refine C_seq ?_
   refine C_seq ?_
   refine C_region ?_
   refine Jq (q_move rfl) ?_
   refine Jq (q_move rfl) ?_
   refine Jq (q_false (q_neq rfl rfl) (decide_eq_false fun h => h rfl)) ?_
   refine Jq (q_move rfl) ?_
   refine Jg (q_move rfl) ?_
   refine Jg (q_move rfl) ?_
   refine Jg (q_false (q_neq rfl rfl) (decide_eq_false fun h => h rfl)) ?_
   refine Jq (q_pickF rfl rfl) ?_
   refine L_then ?_
   refine C_false rfl ?_
   refine C_skip_then ?_
   refine C_seq ?_
   refine C_seq ?_
   refine C_region ?_
   refine Jq (q_move rfl) ?_
   refine Jq (q_neq rfl rfl) ?_
   refine Jq (q_move rfl) ?_
   refine L_dec (d := 41) rfl (fun ha => ?_) (fun ha => ?_)
   ·skip
    refine Jk ?_
    refine Jk ?_
    refine Jk ?_
    refine Jq (q_pickT rfl rfl) ?_
    refine L_then ?_
    refine C_true rfl ?_
    refine C_seq ?_
    refine C_region ?_
    refine Jq (q_assign rfl) ?_
    refine L_then ?_
    refine C_ret ?_
    exact ret_of (res1 rfl rfl) sub_nil (by intro r hr; cases hr) ⟨rfl, rfl⟩
   ·skip
    refine Jg (q_field tb rfl rfl rfl) ?_
    refine Jg (q_load tb rfl rfl bxo rfl) ?_
    refine Jg (q_eql rfl rfl) ?_
    refine Jq (q_pickF rfl rfl) ?_
    refine L_then ?_
    refine C_dec rfl (fun hd => ?_) (fun hd => ?_)
    ·skip
     refine C_seq ?_
     refine C_region ?_
     refine Jq (q_assign rfl) ?_
     refine L_then ?_
     refine C_ret ?_
     exact ret_of (res1 rfl rfl) sub_nil (by intro r hr; cases hr) ⟨rfl, rfl⟩
    ·skip
     obtain ⟨hz, hdy⟩ := drE_yes (Decidable.not_not.1 ha)
     have H := ckAsc_ok hz
     have hde := H.de; have hrf := H.r.fi; have hfn := fnA_in H
     obtain ⟨hg, f0, hf0, hk0⟩ := dir_yes H hd hdy
     have hck := up_ck H (to := 0) (by omega) hg
     refine C_skip_then ?_
     refine C_seq ?_
     refine C_drawA1 tb (n := 11) (k := 10) [(0, false), (1, false), (2, false), (3, false), (5, false), (6, false), (7, false), (4, true), (8, true), (9, false)] mixed rfl rfl rfl (by kernel_rfl) rfl ?_
     refine Yq rfl (q_field tb rfl rfl rfl) ?_
     refine Yq rfl (q_loadA tb rfl rfl bxo rfl rfl) ?_
     refine Yq rfl (q_field tb rfl rfl rfl) ?_
     refine Yq rfl (q_load tb rfl rfl bxo rfl) ?_
     refine Yq rfl (q_loadA tb rfl rfl bxo rfl rfl) ?_
     refine Yq rfl (q_field tb rfl rfl rfl) ?_
     refine Yq rfl (q_load tb rfl rfl bxo rfl) ?_
     refine W_call tb rfl rfl rfl rfl (ct_shotlineref04_RiseSeconds x.r H.r x.de 0 (by omega) (by omega)) no_ps rfl ?_
     refine W_call tb rfl rfl rfl rfl (ct_shotlineref04_GasFor _ _ _ x (by omega) x.de) (ps_cons gvo no_ps) rfl ?_
     refine Yq rfl (by first | exact q_build tb rfl rfl rfl rfl | exact q_buildArr tb rfl rfl rfl rfl rfl) ?_
     refine W_nil ?_
     intro g7
     refine L_st tb rfl rfl ?_
     refine L_then ?_
     refine C_seq ?_
     refine C_seq ?_
     refine C_region ?_
     refine Jq (q_assign rfl) ?_
     refine L_then ?_
     refine C_block ?_
     refine C_loop (ι := Nat) (fun k => ([(1, .pointer (some ⟨g1, 0, none⟩)), (7, .pointer (some ⟨g7, 0, none⟩)), (8, .int .i64 (k : Int))], [box g7 51 (cDl (upA x 0 (gasA x x.de))), box g1 28 (cAt v u z x), rd v 4 (x.ts.map cCp), rd u 4 (x.ls.map cLd), rd z 3 (x.gs.map cAg)])) (fun k => k ≤ fnA x + 1 ∧ ∀ j, j < k → keptT x.ts x.ls (lgA x (upA x 0 (gasA x x.de))) (faA x) j ≠ 2) (fun k => fnA x + 1 - k) 0 ⟨Nat.zero_le _, fun j hj => absurd hj (Nat.not_lt_zero _)⟩ (fun a w hs => hs.weak ⟨rfl, rfl, rfl, trivial⟩ (fun h => h.pk (by repeat (first | with_reducible exact pk_nil | refine pk_box rfl ?_ | refine pk_rd rfl ?_ | refine pk_sl rfl ?_ | with_reducible refine pk_app ?_ | with_reducible refine pk_app0 ?_ | with_reducible refine pk_app0L ?_ | with_reducible exact pk_tl | refine pk_var ?_)))) ?_
     rintro k ⟨hk, hall⟩
     dsimp only at hk hall ⊢
     refine C_seq ?_
     refine C_seq ?_
     refine C_region ?_
     refine Jq (q_move rfl) ?_
     refine Jq (q_field tb rfl rfl rfl) ?_
     refine Jq (q_field tb rfl rfl rfl) ?_
     refine Jq (q_load tb rfl rfl bxo rfl) ?_
     refine Jq (q_leq rfl rfl) ?_
     refine L_then ?_
     refine C_dec rfl (fun h8 => ?_) (fun h8 => ?_)
     ·skip
      refine C_skip_then ?_
      refine C_seq ?_
      refine C_block ?_
      refine C_seq ?_
      refine Kp.C_treeO0 (ι := Unit) (.q 0 (.q 2 (.q 4 (.s3 1 3 5 (.s2 3 5 (.s 5 (.q 6 (.s 7 (.q 8 (.q 9 (.q 10 (.s 11 (.s 12 .nil)))))))) (.s 3 (.q 6 (.s 7 (.q 8 (.q 9 (.q 10 (.s 11 (.s 12 .nil))))))))) (.s2 1 5 (.s 5 (.q 6 (.s 7 (.q 8 (.q 9 (.q 10 (.s 11 (.s 12 .nil)))))))) (.q 6 (.s 1 (.s 7 (.q 8 (.q 9 (.q 10 (.s 11 (.s 12 .nil))))))))) (.s2 1 3 (.s 3 (.q 6 (.s 7 (.q 8 (.q 9 (.q 10 (.s 11 (.s 12 .nil)))))))) (.q 6 (.s 1 (.s 7 (.q 8 (.q 9 (.q 10 (.s 11 (.s 12 .nil))))))))))))) (fun q => ([(1, .pointer (some ⟨g1, 0, none⟩)), (7, .pointer (some ⟨g7, 0, none⟩)), (8, .int .i64 (k : Int)), (9, .int .i64 ((csE x [(upA x 0 (gasA x x.de))] [(k : Int)]).1)), (10, .int .i64 ((csE x [(upA x 0 (gasA x x.de))] [(k : Int)]).2))], [box g7 51 (cDl (upA x 0 (gasA x x.de))), box g1 28 (cAt v u z x), rd v 4 (x.ts.map cCp), rd u 4 (x.ls.map cLd), rd z 3 (x.gs.map cAg)])) mixed (by kernel_rfl) rfl (by kernel_rfl) ?_ ?_
      ·skip
       refine Kp.Zq rfl (q_loadA tb rfl rfl bxo rfl rfl) ?_
       refine Kp.Zq rfl (q_loadA tb rfl rfl bxo rfl rfl) ?_
       refine Kp.Zq rfl (q_move rfl) ?_
       refine Kp.Z_s3 ?_ ?_ ?_
       ·skip
        refine Kp.St_lo rfl rfl rfl rfl (lo_call tb rfl rfl (ct_shotlinelaw04_own v u z x (by omega) (by omega) (by omega)) (ps_cons gvo (ps_cons gvo (ps_cons gvo no_ps))) isTo_sinks) ?_
        rintro _ _ ⟨A65, n65, c65, B65, m65, d65, C65, k65, e65, rfl, rfl⟩
        try dsimp only [List.cons_append, List.nil_append]
        refine Kp.Z_s2 ?_ ?_
        ·skip
         refine Kp.St_mkF rfl rfl rfl rfl (lo_bslice tb rfl rfl rfl (xs := [cDl (upA x 0 (gasA x x.de))]) rfl rfl (by simp [cDl]) rfl (by omega) rfl) fun A67 c67 => ?_
         refine Kp.Z_s ?_
         refine Kp.St_mkF rfl rfl rfl rfl (lo_bslice tb rfl rfl rfl (xs := [[_]]) rfl rfl (by simp) rfl (by omega) rfl) fun A69 c69 => ?_
         refine Kp.Zq rfl (by first | exact q_build tb rfl rfl rfl rfl | exact q_buildArr tb rfl rfl rfl rfl rfl) ?_
         refine Kp.Z_s ?_
         refine Kp.St_call tb rfl rfl rfl rfl (ct_ascent_CheckSchedule _ _ _ x _ _ [(upA x 0 (gasA x x.de))] [(k : Int)] (by omega) (by omega) (by omega) (by simp) (by simp)) (ps_cons gvo (ps_cons gvo (ps_cons gvo (ps_cons gvo (ps_cons gvo no_ps))))) rfl ?_
         refine Kp.Zq rfl (q_move rfl) ?_
         refine Kp.Zq rfl (q_ext0 rfl) ?_
         refine Kp.Zq rfl (q_ext1 rfl) ?_
         refine Kp.Z_s ?_
         refine Kp.Sq rfl (q_assign rfl) ?_
         refine Kp.Z_s ?_
         refine Kp.Sq rfl (q_assign rfl) ?_
         refine Kp.Z_nil ?_
         try dsimp only [List.append, List.cons_append, List.nil_append]
         exact ⟨(), fun a_ w_ hs_ => hs_.weak ⟨rfl, rfl, rfl, rfl, rfl, trivial⟩ (fun h => h.pk (by repeat (first | with_reducible exact pk_nil | refine pk_box rfl ?_ | refine pk_rd rfl ?_ | refine pk_sl rfl ?_ | with_reducible refine pk_app ?_ | with_reducible refine pk_app0 ?_ | with_reducible refine pk_app0L ?_ | with_reducible exact pk_tl | refine pk_var ?_)))⟩
        ·skip
         refine Kp.St_mkF rfl rfl rfl rfl (lo_bslice tb rfl rfl rfl (xs := [[_]]) rfl rfl (by simp) rfl (by omega) rfl) fun A69 c69 => ?_
         refine Kp.Z_s ?_
         refine Kp.St_mkF rfl rfl rfl rfl (lo_bslice tb rfl rfl rfl (xs := [cDl (upA x 0 (gasA x x.de))]) rfl rfl (by simp [cDl]) rfl (by omega) rfl) fun A67 c67 => ?_
         refine Kp.Zq rfl (by first | exact q_build tb rfl rfl rfl rfl | exact q_buildArr tb rfl rfl rfl rfl rfl) ?_
         refine Kp.Z_s ?_
         refine Kp.St_call tb rfl rfl rfl rfl (ct_ascent_CheckSchedule _ _ _ x _ _ [(upA x 0 (gasA x x.de))] [(k : Int)] (by omega) (by omega) (by omega) (by simp) (by simp)) (ps_cons gvo (ps_cons gvo (ps_cons gvo (ps_cons gvo (ps_cons gvo no_ps))))) rfl ?_
         refine Kp.Zq rfl (q_move rfl) ?_
         refine Kp.Zq rfl (q_ext0 rfl) ?_
         refine Kp.Zq rfl (q_ext1 rfl) ?_
         refine Kp.Z_s ?_
         refine Kp.Sq rfl (q_assign rfl) ?_
         refine Kp.Z_s ?_
         refine Kp.Sq rfl (q_assign rfl) ?_
         refine Kp.Z_nil ?_
         try dsimp only [List.append, List.cons_append, List.nil_append]
         exact ⟨(), fun a_ w_ hs_ => hs_.weak ⟨rfl, rfl, rfl, rfl, rfl, trivial⟩ (fun h => h.pk (by repeat (first | with_reducible exact pk_nil | refine pk_box rfl ?_ | refine pk_rd rfl ?_ | refine pk_sl rfl ?_ | with_reducible refine pk_app ?_ | with_reducible refine pk_app0 ?_ | with_reducible refine pk_app0L ?_ | with_reducible exact pk_tl | refine pk_var ?_)))⟩
       ·skip
        refine Kp.St_mkF rfl rfl rfl rfl (lo_bslice tb rfl rfl rfl (xs := [cDl (upA x 0 (gasA x x.de))]) rfl rfl (by simp [cDl]) rfl (by omega) rfl) fun A67 c67 => ?_
        refine Kp.Z_s2 ?_ ?_
        ·skip
         refine Kp.St_lo rfl rfl rfl rfl (lo_call tb rfl rfl (ct_shotlinelaw04_own v u z x (by omega) (by omega) (by omega)) (ps_cons gvo (ps_cons gvo (ps_cons gvo no_ps))) isTo_sinks) ?_
         rintro _ _ ⟨A65, n65, c65, B65, m65, d65, C65, k65, e65, rfl, rfl⟩
         try dsimp only [List.cons_append, List.nil_append]
         refine Kp.Z_s ?_
         refine Kp.St_mkF rfl rfl rfl rfl (lo_bslice tb rfl rfl rfl (xs := [[_]]) rfl rfl (by simp) rfl (by omega) rfl) fun A69 c69 => ?_
         refine Kp.Zq rfl (by first | exact q_build tb rfl rfl rfl rfl | exact q_buildArr tb rfl rfl rfl rfl rfl) ?_
         refine Kp.Z_s ?_
         refine Kp.St_call tb rfl rfl rfl rfl (ct_ascent_CheckSchedule _ _ _ x _ _ [(upA x 0 (gasA x x.de))] [(k : Int)] (by omega) (by omega) (by omega) (by simp) (by simp)) (ps_cons gvo (ps_cons gvo (ps_cons gvo (ps_cons gvo (ps_cons gvo no_ps))))) rfl ?_
         refine Kp.Zq rfl (q_move rfl) ?_
         refine Kp.Zq rfl (q_ext0 rfl) ?_
         refine Kp.Zq rfl (q_ext1 rfl) ?_
         refine Kp.Z_s ?_
         refine Kp.Sq rfl (q_assign rfl) ?_
         refine Kp.Z_s ?_
         refine Kp.Sq rfl (q_assign rfl) ?_
         refine Kp.Z_nil ?_
         try dsimp only [List.append, List.cons_append, List.nil_append]
         exact ⟨(), fun a_ w_ hs_ => hs_.weak ⟨rfl, rfl, rfl, rfl, rfl, trivial⟩ (fun h => h.pk (by repeat (first | with_reducible exact pk_nil | refine pk_box rfl ?_ | refine pk_rd rfl ?_ | refine pk_sl rfl ?_ | with_reducible refine pk_app ?_ | with_reducible refine pk_app0 ?_ | with_reducible refine pk_app0L ?_ | with_reducible exact pk_tl | refine pk_var ?_)))⟩
        ·skip
         refine Kp.St_mkF rfl rfl rfl rfl (lo_bslice tb rfl rfl rfl (xs := [[_]]) rfl rfl (by simp) rfl (by omega) rfl) fun A69 c69 => ?_
         refine Kp.Zq rfl (by first | exact q_build tb rfl rfl rfl rfl | exact q_buildArr tb rfl rfl rfl rfl rfl) ?_
         refine Kp.Z_s ?_
         refine Kp.St_lo rfl rfl rfl rfl (lo_call tb rfl rfl (ct_shotlinelaw04_own v u z x (by omega) (by omega) (by omega)) (ps_cons gvo (ps_cons gvo (ps_cons gvo no_ps))) isTo_sinks) ?_
         rintro _ _ ⟨A65, n65, c65, B65, m65, d65, C65, k65, e65, rfl, rfl⟩
         try dsimp only [List.cons_append, List.nil_append]
         refine Kp.Z_s ?_
         refine Kp.St_call tb rfl rfl rfl rfl (ct_ascent_CheckSchedule _ _ _ x _ _ [(upA x 0 (gasA x x.de))] [(k : Int)] (by omega) (by omega) (by omega) (by simp) (by simp)) (ps_cons gvo (ps_cons gvo (ps_cons gvo (ps_cons gvo (ps_cons gvo no_ps))))) rfl ?_
         refine Kp.Zq rfl (q_move rfl) ?_
         refine Kp.Zq rfl (q_ext0 rfl) ?_
         refine Kp.Zq rfl (q_ext1 rfl) ?_
         refine Kp.Z_s ?_
         refine Kp.Sq rfl (q_assign rfl) ?_
         refine Kp.Z_s ?_
         refine Kp.Sq rfl (q_assign rfl) ?_
         refine Kp.Z_nil ?_
         try dsimp only [List.append, List.cons_append, List.nil_append]
         exact ⟨(), fun a_ w_ hs_ => hs_.weak ⟨rfl, rfl, rfl, rfl, rfl, trivial⟩ (fun h => h.pk (by repeat (first | with_reducible exact pk_nil | refine pk_box rfl ?_ | refine pk_rd rfl ?_ | refine pk_sl rfl ?_ | with_reducible refine pk_app ?_ | with_reducible refine pk_app0 ?_ | with_reducible refine pk_app0L ?_ | with_reducible exact pk_tl | refine pk_var ?_)))⟩
       ·skip
        refine Kp.St_mkF rfl rfl rfl rfl (lo_bslice tb rfl rfl rfl (xs := [[_]]) rfl rfl (by simp) rfl (by omega) rfl) fun A69 c69 => ?_
        refine Kp.Z_s2 ?_ ?_
        ·skip
         refine Kp.St_lo rfl rfl rfl rfl (lo_call tb rfl rfl (ct_shotlinelaw04_own v u z x (by omega) (by omega) (by omega)) (ps_cons gvo (ps_cons gvo (ps_cons gvo no_ps))) isTo_sinks) ?_
         rintro _ _ ⟨A65, n65, c65, B65, m65, d65, C65, k65, e65, rfl, rfl⟩
         try dsimp only [List.cons_append, List.nil_append]
         refine Kp.Z_s ?_
         refine Kp.St_mkF rfl rfl rfl rfl (lo_bslice tb rfl rfl rfl (xs := [cDl (upA x 0 (gasA x x.de))]) rfl rfl (by simp [cDl]) rfl (by omega) rfl) fun A67 c67 => ?_
         refine Kp.Zq rfl (by first | exact q_build tb rfl rfl rfl rfl | exact q_buildArr tb rfl rfl rfl rfl rfl) ?_
         refine Kp.Z_s ?_
         refine Kp.St_call tb rfl rfl rfl rfl (ct_ascent_CheckSchedule _ _ _ x _ _ [(upA x 0 (gasA x x.de))] [(k : Int)] (by omega) (by omega) (by omega) (by simp) (by simp)) (ps_cons gvo (ps_cons gvo (ps_cons gvo (ps_cons gvo (ps_cons gvo no_ps))))) rfl ?_
         refine Kp.Zq rfl (q_move rfl) ?_
         refine Kp.Zq rfl (q_ext0 rfl) ?_
         refine Kp.Zq rfl (q_ext1 rfl) ?_
         refine Kp.Z_s ?_
         refine Kp.Sq rfl (q_assign rfl) ?_
         refine Kp.Z_s ?_
         refine Kp.Sq rfl (q_assign rfl) ?_
         refine Kp.Z_nil ?_
         try dsimp only [List.append, List.cons_append, List.nil_append]
         exact ⟨(), fun a_ w_ hs_ => hs_.weak ⟨rfl, rfl, rfl, rfl, rfl, trivial⟩ (fun h => h.pk (by repeat (first | with_reducible exact pk_nil | refine pk_box rfl ?_ | refine pk_rd rfl ?_ | refine pk_sl rfl ?_ | with_reducible refine pk_app ?_ | with_reducible refine pk_app0 ?_ | with_reducible refine pk_app0L ?_ | with_reducible exact pk_tl | refine pk_var ?_)))⟩
        ·skip
         refine Kp.St_mkF rfl rfl rfl rfl (lo_bslice tb rfl rfl rfl (xs := [cDl (upA x 0 (gasA x x.de))]) rfl rfl (by simp [cDl]) rfl (by omega) rfl) fun A67 c67 => ?_
         refine Kp.Zq rfl (by first | exact q_build tb rfl rfl rfl rfl | exact q_buildArr tb rfl rfl rfl rfl rfl) ?_
         refine Kp.Z_s ?_
         refine Kp.St_lo rfl rfl rfl rfl (lo_call tb rfl rfl (ct_shotlinelaw04_own v u z x (by omega) (by omega) (by omega)) (ps_cons gvo (ps_cons gvo (ps_cons gvo no_ps))) isTo_sinks) ?_
         rintro _ _ ⟨A65, n65, c65, B65, m65, d65, C65, k65, e65, rfl, rfl⟩
         try dsimp only [List.cons_append, List.nil_append]
         refine Kp.Z_s ?_
         refine Kp.St_call tb rfl rfl rfl rfl (ct_ascent_CheckSchedule _ _ _ x _ _ [(upA x 0 (gasA x x.de))] [(k : Int)] (by omega) (by omega) (by omega) (by simp) (by simp)) (ps_cons gvo (ps_cons gvo (ps_cons gvo (ps_cons gvo (ps_cons gvo no_ps))))) rfl ?_
         refine Kp.Zq rfl (q_move rfl) ?_
         refine Kp.Zq rfl (q_ext0 rfl) ?_
         refine Kp.Zq rfl (q_ext1 rfl) ?_
         refine Kp.Z_s ?_
         refine Kp.Sq rfl (q_assign rfl) ?_
         refine Kp.Z_s ?_
         refine Kp.Sq rfl (q_assign rfl) ?_
         refine Kp.Z_nil ?_
         try dsimp only [List.append, List.cons_append, List.nil_append]
         exact ⟨(), fun a_ w_ hs_ => hs_.weak ⟨rfl, rfl, rfl, rfl, rfl, trivial⟩ (fun h => h.pk (by repeat (first | with_reducible exact pk_nil | refine pk_box rfl ?_ | refine pk_rd rfl ?_ | refine pk_sl rfl ?_ | with_reducible refine pk_app ?_ | with_reducible refine pk_app0 ?_ | with_reducible refine pk_app0L ?_ | with_reducible exact pk_tl | refine pk_var ?_)))⟩
      ·skip
       intro _
       refine L_then ?_
       refine C_seq ?_
       refine C_region ?_
       refine Jq (q_move rfl) ?_
       refine Jq (q_eql rfl rfl) ?_
       refine L_then ?_
       refine C_dec rfl (fun hk9 => ?_) (fun hk9 => ?_)
       ·skip
        have e9 : (csE x [(upA x 0 (gasA x x.de))] [(k : Int)]) = ((upA x 0 (gasA x x.de)).s, 0) := dir_ok9 hz H hck rfl (show k ≤ fnA x by omega) hk9
        rw [e9]
        dsimp only
        refine C_seq ?_
        refine C_region ?_
        refine Jq (q_move rfl) ?_
        refine Jq (q_field tb rfl rfl rfl) ?_
        refine Jq (q_load tb rfl rfl bxo rfl) ?_
        refine Jq (q_true (q_eql rfl rfl) (decide_eq_true rfl)) ?_
        refine Jq (q_assign rfl) ?_
        refine L_then ?_
        refine C_ret ?_
        exact ret_of (res1 rfl rfl) sub_nil (by intro r hr; cases hr) ⟨rfl, rfl⟩
       ·skip
        refine C_skip_blk ?_
        refine C_region ?_
        refine Jq (q_move rfl) ?_
        refine Jq (q_add rfl rfl (by first | exact IntWalk.i64_in _ (by omega) | rfl)) ?_
        refine Jq (q_assign rfl) ?_
        refine L_end ?_
        exact fun ac_ wo_ hs_ => ⟨k + 1, ⟨by omega, fun j hj => (by rcases Nat.lt_succ_iff_lt_or_eq.1 hj with h9 | rfl; exact hall j h9; exact dir_no9 hz H hck rfl (by omega) hk9)⟩, (by dsimp only; omega), hs_.weak ⟨rfl, rfl, rfl, trivial⟩ (fun h => h.pk (by repeat (first | with_reducible exact pk_nil | refine pk_box rfl ?_ | refine pk_rd rfl ?_ | refine pk_sl rfl ?_ | with_reducible refine pk_app ?_ | with_reducible refine pk_app0 ?_ | with_reducible refine pk_app0L ?_ | with_reducible exact pk_tl | refine pk_var ?_)))⟩
     ·skip
      exact absurd hk0 (hall f0 (by omega))
end Go.Proofs.YthilaakeimfedaaGreatDoor
