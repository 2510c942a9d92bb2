/-
  Walks: each function named returns what its model says. Conditions: those in front of each theorem.
-/
import Derived.Test.YthilaakeimfedaaGreatDoorAR
import Derived.Test.YthilaakeimfedaaGreatDoorAC
import Derived.Test.YthilaakeimfedaaGreatDoorLH
import Derived.Test.YthilaakeimfedaaGreatDoorLHs
namespace Go.Proofs.YthilaakeimfedaaGreatDoor
open Go.RowKit

set_option maxRecDepth 100000 in
set_option maxHeartbeats 4000000 in
theorem ct_shotlinelaw04_AscentLegs (v u z : Value) (x : Asc) (y : Dl) : CtQ KQ Tryz.prog 6 [.agg (cAt v u z x).toArray, .agg (cDl y).toArray] [(v, 4, x.ts.map cCp), (u, 4, x.ls.map cLd), (z, 3, x.gs.map cAg)] (isV (.bool true)) := by
 refine CtQ.of (N := 136) Tryz.func6 rfl rfl rfl fun w hQ => ?_
 refine C_weak (E' := [(0, .agg (cAt v u z x).toArray), (1, .agg (cDl y).toArray)]) (rs' := [rd v 4 (x.ts.map cCp), rd u 4 (x.ls.map cLd), rd z 3 (x.gs.map cAg)]) ⟨rfl, rfl, trivial⟩ (fun _ h => h) ?_
 have hl1 := len_map cCp x.ts
 have hl2 := len_map cLd x.ls
 have hl3 := len_map cAg x.gs
 refine C_form (v := v) gvo (fun Av cv hv _ => ?_)
 subst hv
 refine C_form (v := u) gvo (fun Au cu hu _ => ?_)
 subst hu
 refine C_form (v := z) gvo (fun Az cz hz _ => ?_)
 subst hz
 refine C_seq ?_
 refine C_region ?_
 refine L_box rfl rfl rfl fun g2 => ?_
 refine L_box rfl rfl rfl fun g3 => ?_
 refine Jq (q_assign rfl) ?_
 refine L_then ?_
 refine C_seq ?_
 refine C_seq ?_
 refine C_region ?_
 refine L_lo rfl rfl rfl (lo_callQ tb stQ hQ rfl rfl (ct_shotlinelaw04_awake) no_ps isV_sinks) ?_
 rintro _ _ ⟨rfl, rfl⟩
 refine Jq (q_not rfl rfl) ?_
 refine L_then ?_
 refine C_false rfl ?_
 refine C_skip_then ?_
 refine C_seq ?_
 refine C_seq ?_
 refine C_region ?_
 refine Jq (q_loadA tb rfl rfl bxo rfl rfl) ?_
 refine L_call tb rfl rfl (ct_shotlinelaw04_Light _ _ _ x) (ps_cons gvo (ps_cons gvo (ps_cons gvo no_ps))) rfl ?_
 refine Jq (q_not rfl decide_not.symm) ?_
 refine L_then ?_
 refine C_dec rfl (fun hl => ?_) (fun hl => ?_)
 ·skip
  refine C_seq ?_
  refine C_region ?_
  refine Jq (q_assign rfl) ?_
  refine L_then ?_
  refine C_ret ?_
  exact ret_of (res1 rfl rfl) sub_nil (by intro r hr; cases hr) ⟨rfl, rfl⟩
 ·skip
  have hL := light_len (Decidable.not_not.1 hl)
  refine C_skip_then ?_
  refine C_seq ?_
  refine C_wideF1 tb (k := 7) [(0, false), (2, false), (1, true), (3, true), (4, false), (5, false), (6, false)] [.s 8, .q 9] mixed (by kernel_rfl) rfl rfl rfl rfl (by kernel_rfl) rfl ?_
  refine X1_q rfl rfl rfl rfl (q_loadA tb rfl rfl bxo rfl rfl) ?_
  refine X1_q rfl rfl rfl rfl (q_loadA tb rfl rfl bxo rfl rfl) ?_
  refine X1_lo rfl rfl rfl rfl (lo_call tb rfl rfl (ct_shotlinelaw04_own _ _ _ x (by omega) (by omega) (by omega)) (ps_cons gvo (ps_cons gvo (ps_cons gvo no_ps))) isTo_sinks) ?_
  rintro _ _ ⟨A19, n19, c19, B19, m19, d19, C19, k19, e19, rfl, rfl⟩
  dsimp only [List.cons_append, List.nil_append]
  refine X1_lo rfl rfl rfl rfl (lo_call tb rfl rfl (ct_ascent_TaskOf _ _ _ x y (by omega) (by omega) (by omega)) (ps_cons gvo (ps_cons gvo (ps_cons gvo no_ps))) isTe_sinks) ?_
  rintro _ _ ⟨A21, n21, c21, B21, m21, d21, rfl, rfl⟩
  dsimp only [List.cons_append, List.nil_append]
  refine X1_q rfl rfl rfl rfl (q_move rfl) ?_
  refine X1_q rfl rfl rfl rfl (q_ext0 rfl) ?_
  refine X1_q rfl rfl rfl rfl (q_ext1 rfl) ?_
  refine X1_nil ?_
  intro g5
  try dsimp only [List.cons_append, List.nil_append]
  first | refine X_store tb rfl rfl (List.Perm.refl _) rfl rfl rfl rfl rfl rfl rfl rfl ?_ | refine X_store tb rfl rfl perm1 rfl rfl rfl rfl rfl rfl rfl rfl ?_ | refine X_store tb rfl rfl (perm_front (pre := [_, _])) rfl rfl rfl rfl rfl rfl rfl rfl ?_ | refine X_store tb rfl rfl (perm_front (pre := [_, _, _])) rfl rfl rfl rfl rfl rfl rfl rfl ?_
  refine X_q rfl rfl rfl rfl (q_assign rfl) ?_
  refine X_nil ?_
  dsimp only [List.cons_append, List.nil_append]
  refine L_then ?_
  refine C_seq ?_
  refine C_wideF1 tb (k := 7) [(0, false), (2, false), (1, true), (3, true), (4, false), (5, false), (6, false)] [.s 8, .q 9] mixed (by kernel_rfl) rfl rfl rfl rfl (by kernel_rfl) rfl ?_
  refine X1_q rfl rfl rfl rfl (q_loadA tb rfl rfl bxo rfl rfl) ?_
  refine X1_q rfl rfl rfl rfl (q_loadA tb rfl rfl bxo rfl rfl) ?_
  refine X1_lo rfl rfl rfl rfl (lo_call tb rfl rfl (ct_shotlinelaw04_own _ _ _ x (by omega) (by omega) (by omega)) (ps_cons gvo (ps_cons gvo (ps_cons gvo no_ps))) isTo_sinks) ?_
  rintro _ _ ⟨A26, n26, c26, B26, m26, d26, C26, k26, e26, rfl, rfl⟩
  dsimp only [List.cons_append, List.nil_append]
  refine X1_lo rfl rfl rfl rfl (lo_call tb rfl rfl (ct_ascent_Moved _ _ _ x y (by omega) (by omega) (by omega)) (ps_cons gvo (ps_cons gvo (ps_cons gvo no_ps))) isTk_sinks) ?_
  rintro _ _ ⟨A28, n28, c28, B28, m28, d28, C28, k28, e28, rfl, rfl⟩
  dsimp only [List.cons_append, List.nil_append]
  refine X1_q rfl rfl rfl rfl (q_move rfl) ?_
  refine X1_q rfl rfl rfl rfl (q_ext0 rfl) ?_
  refine X1_q rfl rfl rfl rfl (q_ext1 rfl) ?_
  refine X1_nil ?_
  intro g7
  try dsimp only [List.cons_append, List.nil_append]
  first | refine X_store tb rfl rfl (List.Perm.refl _) rfl rfl rfl rfl rfl rfl rfl rfl ?_ | refine X_store tb rfl rfl perm1 rfl rfl rfl rfl rfl rfl rfl rfl ?_ | refine X_store tb rfl rfl (perm_front (pre := [_, _])) rfl rfl rfl rfl rfl rfl rfl rfl ?_ | refine X_store tb rfl rfl (perm_front (pre := [_, _, _])) rfl rfl rfl rfl rfl rfl rfl rfl ?_
  refine X_q rfl rfl rfl rfl (q_assign rfl) ?_
  refine X_nil ?_
  dsimp only [List.cons_append, List.nil_append]
  refine L_then ?_
  refine C_seq ?_
  refine C_region ?_
  refine Jq (q_loadA tb rfl rfl bxo rfl rfl) ?_
  refine L_call tb rfl rfl (ct_shotlineref04_CheckTask _ _ _ x (by omega) (by omega) (by omega)) (ps_cons gvo (ps_cons gvo (ps_cons gvo no_ps))) rfl ?_
  refine Jq (q_assign rfl) ?_
  refine L_then ?_
  refine C_cut (ι := Unit) (fun _p => ([(2, .pointer (some ⟨g2, 0, none⟩)), (3, .pointer (some ⟨g3, 0, none⟩)), (5, .pointer (some ⟨g5, 0, none⟩)), (6, .int .i64 ((alE x y))), (7, .pointer (some ⟨g7, 0, none⟩)), (8, .int .i64 ((alE x y))), (9, .int .i64 ((alE x y)))], [box g7 28 (cAt (.slice A28 n28 c28) (.slice B28 m28 d28) (.slice C28 k28 e28) (mvE x y)), box g5 57 (cDv (.slice A21 n21 c21) (.slice B21 m21 d21) (toLg x y) (toFa x y)), sl (.slice A21 n21 c21) 66 4 ((toTs x y).map cCp), sl (.slice B21 m21 d21) 139 4 ((toLs x y).map cLd), sl (.slice A28 n28 c28) 66 4 ((mvE x y).ts.map cCp), sl (.slice B28 m28 d28) 139 4 ((mvE x y).ls.map cLd), sl (.slice C28 k28 e28) 144 3 ((mvE x y).gs.map cAg), box g2 28 (cAt (.slice Av (x.ts.map cCp).length cv) (.slice Au (x.ls.map cLd).length cu) (.slice Az (x.gs.map cAg).length cz) x), box g3 51 (cDl y), rd (.slice Av (x.ts.map cCp).length cv) 4 (x.ts.map cCp), rd (.slice Au (x.ls.map cLd).length cu) 4 (x.ls.map cLd), rd (.slice Az (x.gs.map cAg).length cz) 3 (x.gs.map cAg)])) (fun _p => True) ?_ ?_
  ·skip
   refine C_seq ?_
   refine C_region ?_
   refine Jq (q_move rfl) ?_
   refine Jq (q_eql rfl rfl) ?_
   refine L_then ?_
   refine C_dec rfl (fun hc => ?_) (fun hc => ?_)
   ·skip
    have H := ckAsc_ok hc
    refine C_region ?_
    refine Jq (q_loadA tb rfl rfl bxo rfl rfl) ?_
    refine Jq (q_loadA tb rfl rfl bxo rfl rfl) ?_
    refine L_call tb rfl rfl (ct_shotlineref04_LegErr _ _ _ x y H) (ps_cons gvo no_ps) rfl ?_
    refine Jq (q_assign rfl) ?_
    refine L_end ?_
    exact fun ac_ wo_ hs_ => ⟨(), trivial, hs_.weak ⟨rfl, rfl, rfl, rfl, rfl, rfl, en (by rw [alE_2 hc]), trivial⟩ (fun h => h.pk (by repeat (first | with_reducible exact pk_nil | refine pk_box rfl ?_ | refine pk_rd rfl ?_ | refine pk_sl rfl ?_ | with_reducible refine pk_app ?_ | with_reducible refine pk_app0 ?_ | with_reducible refine pk_app0L ?_ | with_reducible exact pk_tl | refine pk_var ?_)))⟩
   ·skip
    refine C_skip ?_
    exact fun ac_ wo_ hs_ => ⟨(), trivial, hs_.weak ⟨rfl, rfl, rfl, rfl, rfl, rfl, en (by rw [alE_1 hc]), trivial⟩ (fun h => h.pk (by repeat (first | with_reducible exact pk_nil | refine pk_box rfl ?_ | refine pk_rd rfl ?_ | refine pk_sl rfl ?_ | with_reducible refine pk_app ?_ | with_reducible refine pk_app0 ?_ | with_reducible refine pk_app0L ?_ | with_reducible exact pk_tl | refine pk_var ?_)))⟩
  ·skip
   intro _ _
   refine C_seq ?_
   refine C_seq ?_
   refine C_region ?_
   refine Jq (q_move rfl) ?_
   refine Jq (q_neq rfl rfl) ?_
   refine L_then ?_
   refine C_dec rfl (fun h1 => ?_) (fun h1 => ?_)
   ·skip
    obtain ⟨e1, e2, e3, e4⟩ := to_1 h1
    rw [e1, e2, e3, e4, mvE_1 h1]
    refine C_seq ?_
    refine C_region ?_
    refine Jq (q_move rfl) ?_
    refine Jq (q_move rfl) ?_
    refine Jq (q_true (q_eql rfl rfl) (decide_eq_true rfl)) ?_
    refine Jq (q_move rfl) ?_
    refine Jg (q_move rfl) ?_
    refine Jg (q_move rfl) ?_
    refine Jg (q_true (q_eql rfl rfl) (decide_eq_true rfl)) ?_
    refine Jq (q_pickT rfl rfl) ?_
    refine Jq (q_move rfl) ?_
    refine Jg (q_field tb rfl rfl rfl) ?_
    refine Jg (q_load tb rfl rfl bxo rfl) ?_
    refine Jg (q_len tb rfl rfl gvo) ?_
    refine Jg (q_field tb rfl rfl rfl) ?_
    refine Jg (q_load tb rfl rfl bxo rfl) ?_
    refine Jg (q_len tb rfl rfl gvo) ?_
    refine Jg (q_add rfl rfl (by first | exact IntWalk.i64_in _ (by omega) | rfl)) ?_
    refine Jg (q_true (q_eql rfl rfl) (decide_eq_true rfl)) ?_
    refine Jq (q_pickT rfl rfl) ?_
    refine Jq (q_move rfl) ?_
    refine Jg (q_field tb rfl rfl rfl) ?_
    refine Jg (q_loadA tb rfl rfl bxo rfl rfl) ?_
    refine Jg (by first | exact q_build tb rfl rfl rfl rfl | exact q_buildArr tb rfl rfl rfl rfl rfl) ?_
    refine Jg (q_true (q_eqI (xs := [0, 0, 0, 0, 0]) (ys := [0, 0, 0, 0, 0]) eq55 (by omega) eg55 rfl rfl rfl rfl Iff.rfl) (by simp)) ?_
    refine Jq (q_pickT rfl rfl) ?_
    refine Jq (q_move rfl) ?_
    refine Jg (q_field tb rfl rfl rfl) ?_
    refine Jg (q_load tb rfl rfl bxo rfl) ?_
    refine Jg (q_true (q_eql rfl rfl) (decide_eq_true rfl)) ?_
    refine Jq (q_pickT rfl rfl) ?_
    refine Jq (q_move rfl) ?_
    refine Jg (q_loadA tb rfl rfl bxo rfl rfl) ?_
    refine L_callg tb rfl rfl rfl rfl rfl rfl (ct_shotlinelaw04_none _ _ _) (ps_cons gvo (ps_cons gvo (ps_cons gvo no_ps))) rfl ?_
    refine Jq (q_pickT rfl rfl) ?_
    refine Jq (q_assign rfl) ?_
    refine L_then ?_
    refine C_ret ?_
    exact ret_of (res1 rfl rfl) sub_nil (by intro r hr; cases hr) ⟨rfl, rfl⟩
   ·skip
    have hz := Decidable.not_not.1 h1
    obtain ⟨H, hy⟩ := alE_ok hz
    have ha := (ckAl_ok hy).1
    obtain ⟨e1, e2, e3, e4⟩ := to_2 hz
    rw [e1, e2, e3, e4, mvE_2 hz, hz]
    have hb1 := beh_len H
    have hb2 := beh_len (bh_ok H ha)
    refine C_skip_then ?_
    refine C_seq ?_
    refine C_region ?_
    refine Jq (q_loadA tb rfl rfl bxo rfl rfl) ?_
    refine Jq (q_loadA tb rfl rfl bxo rfl rfl) ?_
    refine L_call tb rfl rfl (ct_shotlineref04_TaskOf _ _ _ x y H ha) (ps_cons gvo (ps_cons gvo (ps_cons gvo no_ps))) rfl ?_
    refine L_alloc tb rfl rfl fun g10 => ?_
    refine L_st tb rfl rfl ?_
    refine L_then ?_
    refine C_seq ?_
    refine C_seq ?_
    refine C_region ?_
    refine Jq (q_move rfl) ?_
    refine Jq (q_false (q_neq rfl rfl) (decide_eq_false fun h => h rfl)) ?_
    refine Jq (q_move rfl) ?_
    refine Jg (q_field tb rfl rfl rfl) ?_
    refine Jg (q_loadA tb rfl rfl bxo rfl rfl) ?_
    refine Jg (q_field tb rfl rfl rfl) ?_
    refine Jg (q_loadA tb rfl rfl bxo rfl rfl) ?_
    refine Jg (q_false (q_neI (xs := [(lgA x y).f, (lgA x y).t, (lgA x y).s, (lgA x y).g.o, (lgA x y).g.h]) (ys := [(lgA x y).f, (lgA x y).t, (lgA x y).s, (lgA x y).g.o, (lgA x y).g.h]) eq55 (by omega) eg55 rfl rfl rfl rfl Iff.rfl) (by simp)) ?_
    refine Jq (q_pickF rfl rfl) ?_
    refine Jq (q_move rfl) ?_
    refine Jg (q_field tb rfl rfl rfl) ?_
    refine Jg (q_load tb rfl rfl bxo rfl) ?_
    refine Jg (q_field tb rfl rfl rfl) ?_
    refine Jg (q_load tb rfl rfl bxo rfl) ?_
    refine Jg (q_false (q_neq rfl rfl) (decide_eq_false fun h => h rfl)) ?_
    refine Jq (q_pickF rfl rfl) ?_
    refine Jq (q_move rfl) ?_
    refine Jg (q_field tb rfl rfl rfl) ?_
    refine Jg (q_load tb rfl rfl bxo rfl) ?_
    refine Jg (q_len tb rfl rfl gvo) ?_
    refine Jg (q_field tb rfl rfl rfl) ?_
    refine Jg (q_load tb rfl rfl bxo rfl) ?_
    refine Jg (q_len tb rfl rfl gvo) ?_
    refine Jg (q_false (q_neq rfl rfl) (decide_eq_false fun h => h rfl)) ?_
    refine Jq (q_pickF rfl rfl) ?_
    refine Jq (q_move rfl) ?_
    refine Jg (q_field tb rfl rfl rfl) ?_
    refine Jg (q_load tb rfl rfl bxo rfl) ?_
    refine Jg (q_field tb rfl rfl rfl) ?_
    refine Jg (q_load tb rfl rfl bxo rfl) ?_
    refine L_callg tb rfl rfl rfl rfl rfl rfl (ct_shotlineref03_Same _ _ x.ls (by omega)) (ps_cons gvo (ps_cons gvo no_ps)) rfl ?_
    refine Jg (q_not rfl rfl) ?_
    refine Jq (q_pickF rfl rfl) ?_
    refine L_then ?_
    refine C_false rfl ?_
    refine C_skip_then ?_
    refine C_seq ?_
    refine C_seq ?_
    refine C_region ?_
    refine Jq (q_assign rfl) ?_
    refine L_then ?_
    refine C_block ?_
    refine C_res (rs' := [box g10 57 (cDv (.slice Av (x.ts.map cCp).length cv) (.slice Au (x.ls.map cLd).length cu) (lgA x y) (faA x)), box g7 28 (cAt (.slice A28 n28 c28) (.slice B28 m28 d28) (.slice C28 k28 e28) (bhA x y)), box g5 57 (cDv (.slice A21 n21 c21) (.slice B21 m21 d21) (lgA x y) (faA x)), sl (.slice A21 n21 c21) 66 4 (x.ts.map cCp), sl (.slice A28 n28 c28) 66 4 ((bhA x y).ts.map cCp), sl (.slice B28 m28 d28) 139 4 ((bhA x y).ls.map cLd), sl (.slice C28 k28 e28) 144 3 ((bhA x y).gs.map cAg), box g2 28 (cAt (.slice Av (x.ts.map cCp).length cv) (.slice Au (x.ls.map cLd).length cu) (.slice Az (x.gs.map cAg).length cz) x), box g3 51 (cDl y), rd (.slice Av (x.ts.map cCp).length cv) 4 (x.ts.map cCp), rd (.slice Au (x.ls.map cLd).length cu) 4 (x.ls.map cLd), rd (.slice Az (x.gs.map cAg).length cz) 3 (x.gs.map cAg)]) (fun _ h_ => h_.pk (by repeat (first | with_reducible exact pk_nil | refine pk_box rfl ?_ | refine pk_rd rfl ?_ | refine pk_sl rfl ?_ | with_reducible refine pk_app ?_ | with_reducible refine pk_app0 ?_ | with_reducible refine pk_app0L ?_ | with_reducible exact pk_tl | refine pk_var ?_))) ?_
    refine C_loop (ι := Nat) (fun k => ([(2, .pointer (some ⟨g2, 0, none⟩)), (3, .pointer (some ⟨g3, 0, none⟩)), (5, .pointer (some ⟨g5, 0, none⟩)), (7, .pointer (some ⟨g7, 0, none⟩)), (8, .int .i64 0), (11, .int .i64 (k : Int))], [box g10 57 (cDv (.slice Av (x.ts.map cCp).length cv) (.slice Au (x.ls.map cLd).length cu) (lgA x y) (faA x)), box g7 28 (cAt (.slice A28 n28 c28) (.slice B28 m28 d28) (.slice C28 k28 e28) (bhA x y)), box g5 57 (cDv (.slice A21 n21 c21) (.slice B21 m21 d21) (lgA x y) (faA x)), sl (.slice A21 n21 c21) 66 4 (x.ts.map cCp), sl (.slice A28 n28 c28) 66 4 ((bhA x y).ts.map cCp), sl (.slice B28 m28 d28) 139 4 ((bhA x y).ls.map cLd), sl (.slice C28 k28 e28) 144 3 ((bhA x y).gs.map cAg), box g2 28 (cAt (.slice Av (x.ts.map cCp).length cv) (.slice Au (x.ls.map cLd).length cu) (.slice Az (x.gs.map cAg).length cz) x), box g3 51 (cDl y), rd (.slice Av (x.ts.map cCp).length cv) 4 (x.ts.map cCp), rd (.slice Au (x.ls.map cLd).length cu) 4 (x.ls.map cLd), rd (.slice Az (x.gs.map cAg).length cz) 3 (x.gs.map cAg)])) (fun k => k ≤ x.ts.length) (fun k => x.ts.length - k) 0 (Nat.zero_le _) (fun a w hs => hs.weak ⟨rfl, rfl, rfl, rfl, rfl, rfl, trivial⟩ (fun h => h.pk (by repeat (first | with_reducible exact pk_nil | refine pk_box rfl ?_ | refine pk_rd rfl ?_ | refine pk_sl rfl ?_ | with_reducible refine pk_app ?_ | with_reducible refine pk_app0 ?_ | with_reducible refine pk_app0L ?_ | with_reducible exact pk_tl | refine pk_var ?_)))) ?_
    intro k hk
    dsimp only at hk ⊢
    refine C_seq ?_
    refine C_seq ?_
    refine C_region ?_
    refine Jq (q_move rfl) ?_
    refine Jq (q_field tb rfl rfl rfl) ?_
    refine Jq (q_load tb rfl rfl bxo rfl) ?_
    refine Jq (q_len tb rfl rfl gvo) ?_
    refine Jq (q_lss rfl rfl) ?_
    refine L_then ?_
    refine C_dec rfl (fun h6 => ?_) (fun h6 => ?_)
    ·skip
     obtain ⟨c9, he⟩ := get_some x.ts (k := k) (by omega); have hel := map_get cCp he
     refine C_skip_then ?_
     refine C_seq ?_
     refine C_block ?_
     refine C_seq ?_
     refine C_draw (n := 11) [(0, false), (1, false), (2, false), (3, false), (4, false), (5, false), (6, false), (7, false), (8, false), (9, false), (10, false)] mixed (by kernel_rfl) ?_
     refine Yq rfl (q_field tb rfl rfl rfl) ?_
     refine Yq rfl (q_load tb rfl rfl bxo rfl) ?_
     refine Yq rfl (q_move rfl) ?_
     refine Yq rfl (by first | exact q_index tb rfl rfl rfl rfl gvo (by omega) (by first | omega | (simp; done) | (simp; omega)) | exact q_indexP tb rfl rfl rfl rfl (by omega) (by omega)) ?_
     refine Yq rfl (q_loadEA tb rfl rfl gvo (i := k) (o := 0) (by omega) hel rfl rfl) ?_
     refine Yq rfl (q_field tb rfl rfl rfl) ?_
     refine Yq rfl (q_load tb rfl rfl bxo rfl) ?_
     refine Yq rfl (q_move rfl) ?_
     refine Yq rfl (by first | exact q_index tb rfl rfl rfl rfl gvo (by omega) (by first | omega | (simp; done) | (simp; omega)) | exact q_indexP tb rfl rfl rfl rfl (by omega) (by omega)) ?_
     refine Yq rfl (q_loadEA tb rfl rfl gvo (i := k) (o := 0) (by omega) hel rfl rfl) ?_
     refine Yq rfl (q_false (q_neI (xs := [c9.n, c9.h, c9.b, c9.s]) (ys := [c9.n, c9.h, c9.b, c9.s]) eq66 (by omega) eg66 rfl rfl rfl rfl Iff.rfl) (by simp)) ?_
     refine W_nil ?_
     refine L_then ?_
     refine C_false rfl ?_
     refine C_skip_blk ?_
     refine C_region ?_
     refine Jq (q_move rfl) ?_
     refine Jq (q_add rfl rfl (by first | exact IntWalk.i64_in _ (by omega) | rfl)) ?_
     refine Jq (q_assign rfl) ?_
     refine L_end ?_
     exact fun ac_ wo_ hs_ => ⟨k + 1, (by omega), (by dsimp only; omega), hs_.weak ⟨rfl, rfl, rfl, rfl, rfl, rfl, trivial⟩ (fun h => h.pk (by repeat (first | with_reducible exact pk_nil | refine pk_box rfl ?_ | refine pk_rd rfl ?_ | refine pk_sl rfl ?_ | with_reducible refine pk_app ?_ | with_reducible refine pk_app0 ?_ | with_reducible refine pk_app0L ?_ | with_reducible exact pk_tl | refine pk_var ?_)))⟩
    ·skip
     refine C_exit ?_
     change C Tryz.prog _ _ _ _ _ _ _
     refine C_seq ?_
     refine C_draw (n := 9) [(0, false), (1, false), (2, false), (3, false), (4, false), (5, false), (6, true), (7, true), (8, false)] mixed (by kernel_rfl) ?_
     refine Yq rfl (q_move rfl) ?_
     refine Yq rfl (q_true (q_eql rfl rfl) (decide_eq_true rfl)) ?_
     refine Yq rfl (q_move rfl) ?_
     refine Yg rfl (q_loadA tb rfl rfl bxo rfl rfl) ?_
     refine Yg rfl (q_loadA tb rfl rfl bxo rfl rfl) ?_
     refine Yg rfl (q_loadA tb rfl rfl bxo rfl rfl) ?_
     refine W_log rfl rfl rfl rfl rfl rfl rfl rfl (lo_call tb rfl rfl (ct_shotlineref04_Moved _ _ _ x y H ha) (ps_cons gvo (ps_cons gvo (ps_cons gvo no_ps))) isBh_sinks) ?_
     rintro _ _ ⟨A133, n133, c133, rfl, rfl⟩
     refine W_callg tb rfl rfl rfl rfl rfl rfl rfl rfl (ct_shotlinelaw04_same _ _ _ _ _ _ (bhA x y) (by omega) (by omega) (by omega)) (ps_cons gvo (ps_cons gvo (ps_cons gvo (ps_cons gvo (ps_cons gvo (ps_cons gvo no_ps)))))) rfl ?_
     refine Yq rfl (q_pickT rfl rfl) ?_
     refine W_nil ?_
     refine Jq (q_assign rfl) ?_
     refine L_then ?_
     refine C_ret ?_
     exact ret_of (res1 rfl rfl) sub_nil (by intro r hr; cases hr) ⟨rfl, rfl⟩
end Go.Proofs.YthilaakeimfedaaGreatDoor
