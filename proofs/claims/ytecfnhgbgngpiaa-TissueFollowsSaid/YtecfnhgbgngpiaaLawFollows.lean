/-
  Walks: each function named returns what its model says. Conditions: those in front of each theorem.
-/
import Derived.Test.YtecfnhgbgngpiaaFo
import Derived.Test.YtecfnhgbgngpiaaM
import Derived.Test.YtecfnhgbgngpiaaS
import Derived.Test.YtecfnhgbgngpiaaR
import Derived.Test.YtecfnhgbgngpiaaK
import Derived.Test.YtecfnhgbgngpiaaShTreeQ
namespace Go.Proofs.Ytecfnhgbgngpiaa
open Go.RowKit

set_option maxRecDepth 100000 in
set_option maxHeartbeats 4000000 in
theorem ct_shotlinelaw03_TissueFollows (v u z : Value) (x : Lg) (fi : Int) (ts : List Cp) (ls : List Ld) (xs : List Lg) : Ct Try.prog 3 [.agg (cDv v u x fi).toArray, z] [(v, 4, ts.map cCp), (u, 4, ls.map cLd), (z, 5, xs.map cLg)] (isV (.bool true)) := by
  refine Ct.of (N := 152) Try.func3 rfl rfl rfl fun w => ?_
  refine C_weak (E' := [(0, .agg (cDv v u x fi).toArray), (1, z)]) (rs' := [rd v 4 (ts.map cCp), rd u 4 (ls.map cLd), rd z 5 (xs.map cLg)]) ⟨rfl, rfl, trivial⟩ (fun _ h => h) ?_
  have hl1 := len_map cCp ts
  have hl2 := len_map cLd ls
  have hl3 := len_map cLg xs
  refine C_seq ?_
  refine C_region ?_
  refine L_box rfl rfl rfl fun g2 => ?_
  refine L_q rfl rfl rfl (q_assign rfl) ?_
  refine L_then ?_
  refine C_seq ?_
  refine C_seq ?_
  refine C_region ?_
  refine L_call tb rfl rfl (ct_shotlinelaw03_awake) no_ps rfl ?_
  refine L_q rfl rfl rfl (q_not rfl (by first | exact (rfl : (!true) = false) | exact (rfl : (!false) = true) | exact decide_not.symm | rfl)) ?_
  refine L_then ?_
  refine C_false rfl ?_
  refine C_skip_then ?_
  refine C_seq ?_
  refine C_seq ?_
  refine C_region ?_
  refine L_q rfl rfl rfl (q_loadA tb rfl rfl bxo rfl rfl) ?_
  refine L_call tb rfl rfl (ct_shotlinelaw03_light v u x fi ts ls) (ps_cons (by first | exact gvo | exact gvd gvo (by omega)) (ps_cons (by first | exact gvo | exact gvd gvo (by omega)) no_ps)) rfl ?_
  refine L_q rfl rfl rfl (q_not rfl (by first | exact (rfl : (!true) = false) | exact (rfl : (!false) = true) | exact decide_not.symm | rfl)) ?_
  refine L_q rfl rfl rfl (q_move rfl) ?_
  refine L_dec (d := 18) rfl (fun h2 => ?_) (fun h2 => ?_)
  · -- t18 True
    refine L_skip rfl rfl rfl rfl rfl rfl rfl ?_
    refine L_skip rfl rfl rfl rfl rfl rfl rfl ?_
    refine L_skip rfl rfl rfl rfl rfl rfl rfl ?_
    refine L_skip rfl rfl rfl rfl rfl rfl rfl ?_
    refine L_skipu rfl rfl rfl rfl rfl rfl ?_
    refine L_skipu rfl rfl rfl rfl rfl rfl ?_
    refine L_skipu rfl rfl rfl rfl rfl rfl ?_
    refine L_skip rfl rfl rfl rfl rfl rfl rfl ?_
    refine L_q rfl rfl rfl (by first | exact q_pickT rfl rfl | exact q_pickF rfl rfl) ?_
    refine L_q rfl rfl rfl (q_move rfl) ?_
    refine L_skip rfl rfl rfl rfl rfl rfl rfl ?_
    refine L_skip rfl rfl rfl rfl rfl rfl rfl ?_
    refine L_skip rfl rfl rfl rfl rfl rfl rfl ?_
    refine L_q rfl rfl rfl (by first | exact q_pickT rfl rfl | exact q_pickF rfl rfl) ?_
    refine L_then ?_
    refine C_true rfl ?_
    refine C_seq ?_
    refine C_region ?_
    refine L_q rfl rfl rfl (q_assign rfl) ?_
    refine L_then ?_
    refine C_ret ?_
    exact ret_of (res1 rfl rfl) sub_nil (by intro r hr; cases hr) ⟨rfl, rfl⟩
  · -- t18 False
    refine L_qg rfl rfl rfl rfl rfl rfl rfl (q_move rfl) ?_
    refine L_qg rfl rfl rfl rfl rfl rfl rfl (q_len tb rfl rfl (by first | exact gvo | exact gvd gvo (by omega))) ?_
    refine L_qg rfl rfl rfl rfl rfl rfl rfl (q_gtr rfl rfl) ?_
    refine L_qg rfl rfl rfl rfl rfl rfl rfl (q_move rfl) ?_
    refine L_dec (d := 22) rfl (fun h4 => ?_) (fun h4 => ?_)
    · -- t22 True
      refine L_qg rfl rfl rfl rfl rfl rfl rfl (q_move rfl) ?_
      refine L_qg rfl rfl rfl rfl rfl rfl rfl (q_len tb rfl rfl (by first | exact gvo | exact gvd gvo (by omega))) ?_
      refine L_qg rfl rfl rfl rfl rfl rfl rfl (q_leq rfl rfl) ?_
      refine L_qg rfl rfl rfl rfl rfl rfl rfl (by first | exact q_pickT rfl rfl | exact q_pickF rfl rfl) ?_
      refine L_q rfl rfl rfl (by first | exact q_pickT rfl rfl | exact q_pickF rfl rfl) ?_
      refine L_q rfl rfl rfl (q_move rfl) ?_
      refine L_dec (d := 28) rfl (fun h5 => ?_) (fun h5 => ?_)
      · -- t28 True
        refine L_skip rfl rfl rfl rfl rfl rfl rfl ?_
        refine L_skip rfl rfl rfl rfl rfl rfl rfl ?_
        refine L_skip rfl rfl rfl rfl rfl rfl rfl ?_
        refine L_q rfl rfl rfl (by first | exact q_pickT rfl rfl | exact q_pickF rfl rfl) ?_
        refine L_then ?_
        refine C_true rfl ?_
        refine C_seq ?_
        refine C_region ?_
        refine L_q rfl rfl rfl (q_assign rfl) ?_
        refine L_then ?_
        refine C_ret ?_
        exact ret_of (res1 rfl rfl) sub_nil (by intro r hr; cases hr) ⟨rfl, rfl⟩
      · -- t28 False
        refine L_qg rfl rfl rfl rfl rfl rfl rfl (q_move rfl) ?_
        refine L_qg rfl rfl rfl rfl rfl rfl rfl (q_len tb rfl rfl (by first | exact gvo | exact gvd gvo (by omega))) ?_
        refine L_qg rfl rfl rfl rfl rfl rfl rfl (q_gtr rfl rfl) ?_
        refine L_q rfl rfl rfl (by first | exact q_pickT rfl rfl | exact q_pickF rfl rfl) ?_
        refine L_then ?_
        refine C_dec rfl (fun h7 => ?_) (fun h7 => ?_)
        · -- t32 True
          refine C_seq ?_
          refine C_region ?_
          refine L_q rfl rfl rfl (q_assign rfl) ?_
          refine L_then ?_
          refine C_ret ?_
          exact ret_of (res1 rfl rfl) sub_nil (by intro r hr; cases hr) ⟨rfl, rfl⟩
        · -- t32 False
          refine C_skip_then ?_
          refine C_seq ?_
          refine Kp.C_treeO0 (ι := {q : Value × List Value // q.2.length = if folC ts ls xs fi = 0 then xs.length else 0}) (.q 0 (.q 1 (.q 3 (.q 4 (.q 7 (.q 9 (.q 10 (.s2 2 6 (.s2 5 6 (.s 6 (.s 8 (.s 11 (.q 12 (.q 13 (.q 14 (.s 15 (.s 16 .nil)))))))) (.s 5 (.s 8 (.s 11 (.q 12 (.q 13 (.q 14 (.s 15 (.s 16 .nil))))))))) (.s 2 (.s 5 (.s 8 (.s 11 (.q 12 (.q 13 (.q 14 (.s 15 (.s 16 .nil))))))))))))))))) (fun q => ([(1, z), (2, .pointer (some ⟨g2, 0, none⟩)), (5, q.1.1), (6, .int .i64 ((folC ts ls xs fi)))], (sl q.1.1 23 1 (q.1.2.reverse.map fun x => [x]) :: box g2 29 (cDv v u x fi) :: rd v 4 (ts.map cCp) :: rd u 4 (ls.map cLd) :: rd z 5 (xs.map cLg) :: rlR 56 ts ls xs fi.toNat q.1.2))) mixed (by kernel_rfl) rfl (by kernel_rfl) ?_ ?_
          · skip
            refine Kp.Z_q rfl rfl rfl rfl (q_field tb rfl rfl rfl) ?_
            refine Kp.Z_q rfl rfl rfl rfl (q_load tb rfl rfl bxo rfl) ?_
            refine Kp.Z_q rfl rfl rfl rfl (q_field tb rfl rfl rfl) ?_
            refine Kp.Z_q rfl rfl rfl rfl (q_load tb rfl rfl bxo rfl) ?_
            refine Kp.Z_q rfl rfl rfl rfl (q_move rfl) ?_
            refine Kp.Z_q rfl rfl rfl rfl (q_field tb rfl rfl rfl) ?_
            refine Kp.Z_q rfl rfl rfl rfl (q_load tb rfl rfl bxo rfl) ?_
            refine Kp.Z_s2 ?_ ?_
            · skip
              refine Kp.St_mk rfl rfl rfl rfl (lo_call tb rfl rfl (ct_shotlinelaw03_table v ts (by omega)) (ps_cons (by first | exact gvo | exact gs0 | exact gv1 gs0 | exact gv1 (gv1 gs0) | exact gv1 (gv1 (gv1 gs0))) no_ps) isSl_sinks) fun v36 => ?_
              refine Kp.Z_s2 ?_ ?_
              · skip
                refine Kp.St_mk rfl rfl rfl rfl (lo_call tb rfl rfl (ct_shotlinelaw03_loads u ls (by omega)) (ps_cons (by first | exact gvo | exact gs0 | exact gv1 gs0 | exact gv1 (gv1 gs0) | exact gv1 (gv1 (gv1 gs0))) no_ps) isSl_sinks) fun v39 => ?_
                refine Kp.Z_s ?_
                refine Kp.St_mk rfl rfl rfl rfl (lo_bslice tb rfl rfl rfl (xs := []) rfl rfl (by simp) rfl (by omega) rfl) fun v40 => ?_
                refine Kp.Z_s ?_
                first | refine Kp.St_append tb rfl rfl rfl (List.Perm.refl _) rfl rfl rfl (by omega) rfl rfl (l2 := xs.map cLg) (by first | exact gvo | exact gs0 | exact gv1 gs0 | exact gv1 (gv1 gs0) | exact gv1 (gv1 (gv1 gs0))) (oneLg xs) (by simp [maxLen]; omega) (by simp; omega) fun v42 => ?_ | refine Kp.St_append tb rfl rfl rfl perm1 rfl rfl rfl (by omega) rfl rfl (l2 := xs.map cLg) (by first | exact gvo | exact gs0 | exact gv1 gs0 | exact gv1 (gv1 gs0) | exact gv1 (gv1 (gv1 gs0))) (oneLg xs) (by simp [maxLen]; omega) (by simp; omega) fun v42 => ?_ | refine Kp.St_append tb rfl rfl rfl Kp.perm2 rfl rfl rfl (by omega) rfl rfl (l2 := xs.map cLg) (by first | exact gvo | exact gs0 | exact gv1 gs0 | exact gv1 (gv1 gs0) | exact gv1 (gv1 (gv1 gs0))) (oneLg xs) (by simp [maxLen]; omega) (by simp; omega) fun v42 => ?_ | refine Kp.St_append tb rfl rfl rfl Kp.perm3 rfl rfl rfl (by omega) rfl rfl (l2 := xs.map cLg) (by first | exact gvo | exact gs0 | exact gv1 gs0 | exact gv1 (gv1 gs0) | exact gv1 (gv1 (gv1 gs0))) (oneLg xs) (by simp [maxLen]; omega) (by simp; omega) fun v42 => ?_ | refine Kp.St_append tb rfl rfl rfl (perm_front (pre := [_, _])) rfl rfl rfl (by omega) rfl rfl (l2 := xs.map cLg) (by first | exact gvo | exact gs0 | exact gv1 gs0 | exact gv1 (gv1 gs0) | exact gv1 (gv1 (gv1 gs0))) (oneLg xs) (by simp [maxLen]; omega) (by simp; omega) fun v42 => ?_ | refine Kp.St_append tb rfl rfl rfl (perm_front (pre := [_, _, _])) rfl rfl rfl (by omega) rfl rfl (l2 := xs.map cLg) (by first | exact gvo | exact gs0 | exact gv1 gs0 | exact gv1 (gv1 gs0) | exact gv1 (gv1 (gv1 gs0))) (oneLg xs) (by simp [maxLen]; omega) (by simp; omega) fun v42 => ?_ | refine Kp.St_append tb rfl rfl rfl (perm_front (pre := [_, _, _, _])) rfl rfl rfl (by omega) rfl rfl (l2 := xs.map cLg) (by first | exact gvo | exact gs0 | exact gv1 gs0 | exact gv1 (gv1 gs0) | exact gv1 (gv1 (gv1 gs0))) (oneLg xs) (by simp [maxLen]; omega) (by simp; omega) fun v42 => ?_
                refine Kp.Z_s ?_
                refine Kp.St_lo rfl rfl rfl rfl (lo_call tb rfl rfl (ct_tissue_Followed v36 v39 v42 fi ts ls xs (by omega) (by omega) (by omega)) (ps_cons (by first | exact gvo | exact gs0 | exact gv1 gs0 | exact gv1 (gv1 gs0) | exact gv1 (gv1 (gv1 gs0))) (ps_cons (by first | exact gvo | exact gs0 | exact gv1 gs0 | exact gv1 (gv1 gs0) | exact gv1 (gv1 (gv1 gs0))) (ps_cons (by first | exact gvo | exact gs0 | exact gv1 gs0 | exact gv1 (gv1 gs0) | exact gv1 (gv1 (gv1 gs0))) no_ps))) FolP_sinks) ?_
                rintro _ _ ⟨s45, vs45, rfl, rfl, hl45⟩
                refine Kp.Z_q rfl rfl rfl rfl (q_move rfl) ?_
                refine Kp.Z_q rfl rfl rfl rfl (q_ext0 rfl) ?_
                refine Kp.Z_q rfl rfl rfl rfl (q_ext1 rfl) ?_
                refine Kp.Z_s ?_
                refine Kp.St_q rfl rfl rfl rfl (q_assign rfl) ?_
                refine Kp.Z_s ?_
                refine Kp.St_q rfl rfl rfl rfl (q_assign rfl) ?_
                refine Kp.Z_nil ?_
                try dsimp only [List.append, List.cons_append, List.nil_append]
                exact ⟨⟨(s45, vs45), hl45⟩, fun a_ w_ hs_ => hs_.weak ⟨rfl, rfl, rfl, rfl, trivial⟩ (fun h_ => (show WS _ _ (sl s45 23 1 (vs45.reverse.map fun x => [x]) :: box g2 29 (cDv v u x fi) :: rd v 4 (ts.map cCp) :: rd u 4 (ls.map cLd) :: rd z 5 (xs.map cLg) :: rlR 56 ts ls xs fi.toNat vs45) _ from h_.pk (by repeat (first | with_reducible exact pk_nil | refine pk_box rfl ?_ | refine pk_rd rfl ?_ | refine pk_sl rfl ?_ | with_reducible refine pk_app ?_ | with_reducible refine pk_app0 ?_ | with_reducible refine pk_app0L ?_ | with_reducible exact pk_tl | refine pk_var ?_))))⟩
              · skip
                refine Kp.St_mk rfl rfl rfl rfl (lo_bslice tb rfl rfl rfl (xs := []) rfl rfl (by simp) rfl (by omega) rfl) fun v40 => ?_
                refine Kp.Z_s ?_
                refine Kp.St_mk rfl rfl rfl rfl (lo_call tb rfl rfl (ct_shotlinelaw03_loads u ls (by omega)) (ps_cons (by first | exact gvo | exact gs0 | exact gv1 gs0 | exact gv1 (gv1 gs0) | exact gv1 (gv1 (gv1 gs0))) no_ps) isSl_sinks) fun v39 => ?_
                refine Kp.Z_s ?_
                first | refine Kp.St_append tb rfl rfl rfl (List.Perm.refl _) rfl rfl rfl (by omega) rfl rfl (l2 := xs.map cLg) (by first | exact gvo | exact gs0 | exact gv1 gs0 | exact gv1 (gv1 gs0) | exact gv1 (gv1 (gv1 gs0))) (oneLg xs) (by simp [maxLen]; omega) (by simp; omega) fun v42 => ?_ | refine Kp.St_append tb rfl rfl rfl perm1 rfl rfl rfl (by omega) rfl rfl (l2 := xs.map cLg) (by first | exact gvo | exact gs0 | exact gv1 gs0 | exact gv1 (gv1 gs0) | exact gv1 (gv1 (gv1 gs0))) (oneLg xs) (by simp [maxLen]; omega) (by simp; omega) fun v42 => ?_ | refine Kp.St_append tb rfl rfl rfl Kp.perm2 rfl rfl rfl (by omega) rfl rfl (l2 := xs.map cLg) (by first | exact gvo | exact gs0 | exact gv1 gs0 | exact gv1 (gv1 gs0) | exact gv1 (gv1 (gv1 gs0))) (oneLg xs) (by simp [maxLen]; omega) (by simp; omega) fun v42 => ?_ | refine Kp.St_append tb rfl rfl rfl Kp.perm3 rfl rfl rfl (by omega) rfl rfl (l2 := xs.map cLg) (by first | exact gvo | exact gs0 | exact gv1 gs0 | exact gv1 (gv1 gs0) | exact gv1 (gv1 (gv1 gs0))) (oneLg xs) (by simp [maxLen]; omega) (by simp; omega) fun v42 => ?_ | refine Kp.St_append tb rfl rfl rfl (perm_front (pre := [_, _])) rfl rfl rfl (by omega) rfl rfl (l2 := xs.map cLg) (by first | exact gvo | exact gs0 | exact gv1 gs0 | exact gv1 (gv1 gs0) | exact gv1 (gv1 (gv1 gs0))) (oneLg xs) (by simp [maxLen]; omega) (by simp; omega) fun v42 => ?_ | refine Kp.St_append tb rfl rfl rfl (perm_front (pre := [_, _, _])) rfl rfl rfl (by omega) rfl rfl (l2 := xs.map cLg) (by first | exact gvo | exact gs0 | exact gv1 gs0 | exact gv1 (gv1 gs0) | exact gv1 (gv1 (gv1 gs0))) (oneLg xs) (by simp [maxLen]; omega) (by simp; omega) fun v42 => ?_ | refine Kp.St_append tb rfl rfl rfl (perm_front (pre := [_, _, _, _])) rfl rfl rfl (by omega) rfl rfl (l2 := xs.map cLg) (by first | exact gvo | exact gs0 | exact gv1 gs0 | exact gv1 (gv1 gs0) | exact gv1 (gv1 (gv1 gs0))) (oneLg xs) (by simp [maxLen]; omega) (by simp; omega) fun v42 => ?_
                refine Kp.Z_s ?_
                refine Kp.St_lo rfl rfl rfl rfl (lo_call tb rfl rfl (ct_tissue_Followed v36 v39 v42 fi ts ls xs (by omega) (by omega) (by omega)) (ps_cons (by first | exact gvo | exact gs0 | exact gv1 gs0 | exact gv1 (gv1 gs0) | exact gv1 (gv1 (gv1 gs0))) (ps_cons (by first | exact gvo | exact gs0 | exact gv1 gs0 | exact gv1 (gv1 gs0) | exact gv1 (gv1 (gv1 gs0))) (ps_cons (by first | exact gvo | exact gs0 | exact gv1 gs0 | exact gv1 (gv1 gs0) | exact gv1 (gv1 (gv1 gs0))) no_ps))) FolP_sinks) ?_
                rintro _ _ ⟨s45, vs45, rfl, rfl, hl45⟩
                refine Kp.Z_q rfl rfl rfl rfl (q_move rfl) ?_
                refine Kp.Z_q rfl rfl rfl rfl (q_ext0 rfl) ?_
                refine Kp.Z_q rfl rfl rfl rfl (q_ext1 rfl) ?_
                refine Kp.Z_s ?_
                refine Kp.St_q rfl rfl rfl rfl (q_assign rfl) ?_
                refine Kp.Z_s ?_
                refine Kp.St_q rfl rfl rfl rfl (q_assign rfl) ?_
                refine Kp.Z_nil ?_
                try dsimp only [List.append, List.cons_append, List.nil_append]
                exact ⟨⟨(s45, vs45), hl45⟩, fun a_ w_ hs_ => hs_.weak ⟨rfl, rfl, rfl, rfl, trivial⟩ (fun h_ => (show WS _ _ (sl s45 23 1 (vs45.reverse.map fun x => [x]) :: box g2 29 (cDv v u x fi) :: rd v 4 (ts.map cCp) :: rd u 4 (ls.map cLd) :: rd z 5 (xs.map cLg) :: rlR 56 ts ls xs fi.toNat vs45) _ from h_.pk (by repeat (first | with_reducible exact pk_nil | refine pk_box rfl ?_ | refine pk_rd rfl ?_ | refine pk_sl rfl ?_ | with_reducible refine pk_app ?_ | with_reducible refine pk_app0 ?_ | with_reducible refine pk_app0L ?_ | with_reducible exact pk_tl | refine pk_var ?_))))⟩
            · skip
              refine Kp.St_mk rfl rfl rfl rfl (lo_bslice tb rfl rfl rfl (xs := []) rfl rfl (by simp) rfl (by omega) rfl) fun v40 => ?_
              refine Kp.Z_s ?_
              refine Kp.St_mk rfl rfl rfl rfl (lo_call tb rfl rfl (ct_shotlinelaw03_table v ts (by omega)) (ps_cons (by first | exact gvo | exact gs0 | exact gv1 gs0 | exact gv1 (gv1 gs0) | exact gv1 (gv1 (gv1 gs0))) no_ps) isSl_sinks) fun v36 => ?_
              refine Kp.Z_s ?_
              refine Kp.St_mk rfl rfl rfl rfl (lo_call tb rfl rfl (ct_shotlinelaw03_loads u ls (by omega)) (ps_cons (by first | exact gvo | exact gs0 | exact gv1 gs0 | exact gv1 (gv1 gs0) | exact gv1 (gv1 (gv1 gs0))) no_ps) isSl_sinks) fun v39 => ?_
              refine Kp.Z_s ?_
              first | refine Kp.St_append tb rfl rfl rfl (List.Perm.refl _) rfl rfl rfl (by omega) rfl rfl (l2 := xs.map cLg) (by first | exact gvo | exact gs0 | exact gv1 gs0 | exact gv1 (gv1 gs0) | exact gv1 (gv1 (gv1 gs0))) (oneLg xs) (by simp [maxLen]; omega) (by simp; omega) fun v42 => ?_ | refine Kp.St_append tb rfl rfl rfl perm1 rfl rfl rfl (by omega) rfl rfl (l2 := xs.map cLg) (by first | exact gvo | exact gs0 | exact gv1 gs0 | exact gv1 (gv1 gs0) | exact gv1 (gv1 (gv1 gs0))) (oneLg xs) (by simp [maxLen]; omega) (by simp; omega) fun v42 => ?_ | refine Kp.St_append tb rfl rfl rfl Kp.perm2 rfl rfl rfl (by omega) rfl rfl (l2 := xs.map cLg) (by first | exact gvo | exact gs0 | exact gv1 gs0 | exact gv1 (gv1 gs0) | exact gv1 (gv1 (gv1 gs0))) (oneLg xs) (by simp [maxLen]; omega) (by simp; omega) fun v42 => ?_ | refine Kp.St_append tb rfl rfl rfl Kp.perm3 rfl rfl rfl (by omega) rfl rfl (l2 := xs.map cLg) (by first | exact gvo | exact gs0 | exact gv1 gs0 | exact gv1 (gv1 gs0) | exact gv1 (gv1 (gv1 gs0))) (oneLg xs) (by simp [maxLen]; omega) (by simp; omega) fun v42 => ?_ | refine Kp.St_append tb rfl rfl rfl (perm_front (pre := [_, _])) rfl rfl rfl (by omega) rfl rfl (l2 := xs.map cLg) (by first | exact gvo | exact gs0 | exact gv1 gs0 | exact gv1 (gv1 gs0) | exact gv1 (gv1 (gv1 gs0))) (oneLg xs) (by simp [maxLen]; omega) (by simp; omega) fun v42 => ?_ | refine Kp.St_append tb rfl rfl rfl (perm_front (pre := [_, _, _])) rfl rfl rfl (by omega) rfl rfl (l2 := xs.map cLg) (by first | exact gvo | exact gs0 | exact gv1 gs0 | exact gv1 (gv1 gs0) | exact gv1 (gv1 (gv1 gs0))) (oneLg xs) (by simp [maxLen]; omega) (by simp; omega) fun v42 => ?_ | refine Kp.St_append tb rfl rfl rfl (perm_front (pre := [_, _, _, _])) rfl rfl rfl (by omega) rfl rfl (l2 := xs.map cLg) (by first | exact gvo | exact gs0 | exact gv1 gs0 | exact gv1 (gv1 gs0) | exact gv1 (gv1 (gv1 gs0))) (oneLg xs) (by simp [maxLen]; omega) (by simp; omega) fun v42 => ?_
              refine Kp.Z_s ?_
              refine Kp.St_lo rfl rfl rfl rfl (lo_call tb rfl rfl (ct_tissue_Followed v36 v39 v42 fi ts ls xs (by omega) (by omega) (by omega)) (ps_cons (by first | exact gvo | exact gs0 | exact gv1 gs0 | exact gv1 (gv1 gs0) | exact gv1 (gv1 (gv1 gs0))) (ps_cons (by first | exact gvo | exact gs0 | exact gv1 gs0 | exact gv1 (gv1 gs0) | exact gv1 (gv1 (gv1 gs0))) (ps_cons (by first | exact gvo | exact gs0 | exact gv1 gs0 | exact gv1 (gv1 gs0) | exact gv1 (gv1 (gv1 gs0))) no_ps))) FolP_sinks) ?_
              rintro _ _ ⟨s45, vs45, rfl, rfl, hl45⟩
              refine Kp.Z_q rfl rfl rfl rfl (q_move rfl) ?_
              refine Kp.Z_q rfl rfl rfl rfl (q_ext0 rfl) ?_
              refine Kp.Z_q rfl rfl rfl rfl (q_ext1 rfl) ?_
              refine Kp.Z_s ?_
              refine Kp.St_q rfl rfl rfl rfl (q_assign rfl) ?_
              refine Kp.Z_s ?_
              refine Kp.St_q rfl rfl rfl rfl (q_assign rfl) ?_
              refine Kp.Z_nil ?_
              try dsimp only [List.append, List.cons_append, List.nil_append]
              exact ⟨⟨(s45, vs45), hl45⟩, fun a_ w_ hs_ => hs_.weak ⟨rfl, rfl, rfl, rfl, trivial⟩ (fun h_ => (show WS _ _ (sl s45 23 1 (vs45.reverse.map fun x => [x]) :: box g2 29 (cDv v u x fi) :: rd v 4 (ts.map cCp) :: rd u 4 (ls.map cLd) :: rd z 5 (xs.map cLg) :: rlR 56 ts ls xs fi.toNat vs45) _ from h_.pk (by repeat (first | with_reducible exact pk_nil | refine pk_box rfl ?_ | refine pk_rd rfl ?_ | refine pk_sl rfl ?_ | with_reducible refine pk_app ?_ | with_reducible refine pk_app0 ?_ | with_reducible refine pk_app0L ?_ | with_reducible exact pk_tl | refine pk_var ?_))))⟩
          · skip
            (rintro ⟨⟨s5, vs⟩, hvl⟩; dsimp only at hvl ⊢)
            refine L_then ?_
            refine C_seq ?_
            refine C_region ?_
            refine L_q rfl rfl rfl (q_field tb rfl rfl rfl) ?_
            refine L_q rfl rfl rfl (q_load tb rfl rfl bxo rfl) ?_
            refine L_q rfl rfl rfl (q_field tb rfl rfl rfl) ?_
            refine L_q rfl rfl rfl (q_load tb rfl rfl bxo rfl) ?_
            refine L_call tb rfl rfl (ct_shotlineref03_CheckLoads v u ts ls (by omega)) (ps_cons (by first | exact gvo | exact gvd gvo (by omega)) (ps_cons (by first | exact gvo | exact gvd gvo (by omega)) no_ps)) rfl ?_
            refine L_q rfl rfl rfl (q_assign rfl) ?_
            refine L_then ?_
            refine C_cut (ι := Unit) (fun _p => ([(1, z), (2, .pointer (some ⟨g2, 0, none⟩)), (5, s5), (6, .int .i64 ((folC ts ls xs fi))), (7, .int .i64 ((folC1 ts ls xs)))], (sl s5 23 1 (vs.reverse.map fun x => [x]) :: box g2 29 (cDv v u x fi) :: rd v 4 (ts.map cCp) :: rd u 4 (ls.map cLd) :: rd z 5 (xs.map cLg) :: rlR 56 ts ls xs fi.toNat vs))) (fun _p => True) ?_ ?_
            · -- ahead
              refine C_seq ?_
              refine C_region ?_
              refine L_q rfl rfl rfl (q_move rfl) ?_
              refine L_q rfl rfl rfl (q_eql rfl rfl) ?_
              refine L_q rfl rfl rfl (q_move rfl) ?_
              refine L_dec (d := 55) rfl (fun h8 => ?_) (fun h8 => ?_)
              · -- t55 True
                refine L_qg rfl rfl rfl rfl rfl rfl rfl (q_move rfl) ?_
                refine L_qg rfl rfl rfl rfl rfl rfl rfl (q_len tb rfl rfl (by first | exact gvo | exact gvd gvo (by omega))) ?_
                refine L_qg rfl rfl rfl rfl rfl rfl rfl (q_gtr rfl rfl) ?_
                refine L_q rfl rfl rfl (by first | exact q_pickT rfl rfl | exact q_pickF rfl rfl) ?_
                refine L_then ?_
                refine C_dec rfl (fun h9 => ?_) (fun h9 => ?_)
                · -- t59 True
                  refine C_region ?_
                  refine L_q rfl rfl rfl (q_assign rfl) ?_
                  refine L_end ?_
                  exact fun ac_ wo_ hs_ => ⟨(), trivial, hs_.weak ⟨rfl, rfl, rfl, rfl, en (by unfold folC1; split <;> omega), trivial⟩ (fun h => h.pk (by repeat (first | with_reducible exact pk_nil | refine pk_box rfl ?_ | refine pk_rd rfl ?_ | refine pk_sl rfl ?_ | with_reducible refine pk_app ?_ | with_reducible refine pk_app0 ?_ | with_reducible refine pk_app0L ?_ | with_reducible exact pk_tl | refine pk_var ?_)))⟩
                · -- t59 False
                  refine C_skip ?_
                  exact fun ac_ wo_ hs_ => ⟨(), trivial, hs_.weak ⟨rfl, rfl, rfl, rfl, en (by unfold folC1; split <;> omega), trivial⟩ (fun h => h.pk (by repeat (first | with_reducible exact pk_nil | refine pk_box rfl ?_ | refine pk_rd rfl ?_ | refine pk_sl rfl ?_ | with_reducible refine pk_app ?_ | with_reducible refine pk_app0 ?_ | with_reducible refine pk_app0L ?_ | with_reducible exact pk_tl | refine pk_var ?_)))⟩
              · -- t55 False
                refine L_skip rfl rfl rfl rfl rfl rfl rfl ?_
                refine L_skip rfl rfl rfl rfl rfl rfl rfl ?_
                refine L_skip rfl rfl rfl rfl rfl rfl rfl ?_
                refine L_q rfl rfl rfl (by first | exact q_pickT rfl rfl | exact q_pickF rfl rfl) ?_
                refine L_then ?_
                refine C_false rfl ?_
                refine C_skip ?_
                exact fun ac_ wo_ hs_ => ⟨(), trivial, hs_.weak ⟨rfl, rfl, rfl, rfl, en (by unfold folC1; split <;> omega), trivial⟩ (fun h => h.pk (by repeat (first | with_reducible exact pk_nil | refine pk_box rfl ?_ | refine pk_rd rfl ?_ | refine pk_sl rfl ?_ | with_reducible refine pk_app ?_ | with_reducible refine pk_app0 ?_ | with_reducible refine pk_app0L ?_ | with_reducible exact pk_tl | refine pk_var ?_)))⟩
            · -- behind
              intro _ _
              refine C_seq ?_
              refine C_seq ?_
              refine C_region ?_
              refine L_q rfl rfl rfl (q_assign rfl) ?_
              refine L_then ?_
              refine C_block ?_
              refine C_loop (ι := Nat × Int) (fun p => ([(1, z), (2, .pointer (some ⟨g2, 0, none⟩)), (5, s5), (6, .int .i64 ((folC ts ls xs fi))), (7, .int .i64 p.2), (8, .int .i64 (p.1 : Int))], (sl s5 23 1 (vs.reverse.map fun x => [x]) :: box g2 29 (cDv v u x fi) :: rd v 4 (ts.map cCp) :: rd u 4 (ls.map cLd) :: rd z 5 (xs.map cLg) :: rlR 56 ts ls xs fi.toNat vs))) (fun p => p.1 ≤ xs.length ∧ (if p.2 ≠ 0 then p.2 else ckLgs (xs.drop p.1)) = folC2 ts ls xs) (fun p => xs.length - p.1) (0, folC1 ts ls xs) ⟨Nat.zero_le _, rfl⟩ (fun a w hs => hs.weak ⟨rfl, rfl, rfl, rfl, rfl, rfl, trivial⟩ (fun h => h.pk (by repeat (first | with_reducible exact pk_nil | refine pk_box rfl ?_ | refine pk_rd rfl ?_ | refine pk_sl rfl ?_ | with_reducible refine pk_app ?_ | with_reducible refine pk_app0 ?_ | with_reducible refine pk_app0L ?_ | with_reducible exact pk_tl | refine pk_var ?_)))) ?_
              rintro ⟨k, c⟩ ⟨hk, hf⟩
              dsimp only at hk hf ⊢
              refine C_seq ?_
              refine C_seq ?_
              refine C_region ?_
              refine L_q rfl rfl rfl (q_move rfl) ?_
              refine L_q rfl rfl rfl (q_move rfl) ?_
              refine L_q rfl rfl rfl (q_len tb rfl rfl (by first | exact gvo | exact gvd gvo (by omega))) ?_
              refine L_q rfl rfl rfl (q_lss rfl rfl) ?_
              refine L_q rfl rfl rfl (q_move rfl) ?_
              refine L_dec (d := 64) rfl (fun h11 => ?_) (fun h11 => ?_)
              · -- t64 True
                refine L_qg rfl rfl rfl rfl rfl rfl rfl (q_move rfl) ?_
                refine L_qg rfl rfl rfl rfl rfl rfl rfl (q_eql rfl rfl) ?_
                refine L_q rfl rfl rfl (by first | exact q_pickT rfl rfl | exact q_pickF rfl rfl) ?_
                refine L_then ?_
                refine C_dec rfl (fun h12 => ?_) (fun h12 => ?_)
                · -- t67 True
                  obtain ⟨y, he⟩ := get_some xs (k := k) (by omega); have hel := map_get cLg he
                  refine C_skip_then ?_
                  refine C_seq ?_
                  refine C_block ?_
                  refine C_region ?_
                  refine L_q rfl rfl rfl (q_move rfl) ?_
                  refine L_q rfl rfl rfl (q_move rfl) ?_
                  refine L_q rfl rfl rfl (by first | exact q_index tb rfl rfl rfl rfl (by first | exact gvo | exact gvd gvo (by omega)) (by omega) (by first | omega | (simp; done) | (simp; omega)) | exact q_indexP tb rfl rfl rfl rfl (by omega) (by omega)) ?_
                  refine L_q rfl rfl rfl (q_loadEA tb rfl rfl (by first | exact gvo | exact gvd gvo (by omega)) (i := k) (o := 0) (by omega) hel rfl rfl) ?_
                  refine L_call tb rfl rfl (ct_shotlineref03_CheckLeg y) no_ps rfl ?_
                  refine L_q rfl rfl rfl (q_assign rfl) ?_
                  refine L_blk ?_
                  refine C_region ?_
                  refine L_q rfl rfl rfl (q_move rfl) ?_
                  refine L_q rfl rfl rfl (q_add rfl rfl (by first | exact IntWalk.i64_in _ (by omega) | rfl)) ?_
                  refine L_q rfl rfl rfl (q_assign rfl) ?_
                  refine L_end ?_
                  exact fun ac_ wo_ hs_ => ⟨(k + 1, ckLeg y), ⟨by dsimp only; omega, folL_step he (by omega) hf⟩, (by dsimp only; omega), hs_.weak ⟨rfl, rfl, rfl, rfl, rfl, rfl, trivial⟩ (fun h => h.pk (by repeat (first | with_reducible exact pk_nil | refine pk_box rfl ?_ | refine pk_rd rfl ?_ | refine pk_sl rfl ?_ | with_reducible refine pk_app ?_ | with_reducible refine pk_app0 ?_ | with_reducible refine pk_app0L ?_ | with_reducible exact pk_tl | refine pk_var ?_)))⟩
                · -- t67 False
                  have hc2 : c = folC2 ts ls xs := folL_end (by omega) hf
                  subst hc2
                  refine C_exit ?_
                  change C Try.prog _ _ _ _ _ _ _
                  refine C_cut (ι := Unit) (fun _p => ([(1, z), (2, .pointer (some ⟨g2, 0, none⟩)), (5, s5), (6, .int .i64 ((folC ts ls xs fi))), (7, .int .i64 ((folC ts ls xs fi)))], (sl s5 23 1 (vs.reverse.map fun x => [x]) :: box g2 29 (cDv v u x fi) :: rd v 4 (ts.map cCp) :: rd u 4 (ls.map cLd) :: rd z 5 (xs.map cLg) :: rlR 56 ts ls xs fi.toNat vs))) (fun _p => True) ?_ ?_
                  · -- ahead
                    refine C_seq ?_
                    refine C_region ?_
                    refine L_q rfl rfl rfl (q_move rfl) ?_
                    refine L_q rfl rfl rfl (q_eql rfl rfl) ?_
                    refine L_q rfl rfl rfl (q_move rfl) ?_
                    refine L_dec (d := 77) rfl (fun h13 => ?_) (fun h13 => ?_)
                    · -- t77 True
                      refine L_qg rfl rfl rfl rfl rfl rfl rfl (q_field tb rfl rfl rfl) ?_
                      refine L_qg rfl rfl rfl rfl rfl rfl rfl (q_load tb rfl rfl bxo rfl) ?_
                      refine L_callg tb rfl rfl rfl rfl rfl rfl (ct_shotlineref03_IsFine fi) no_ps rfl ?_
                      refine L_qg rfl rfl rfl rfl rfl rfl rfl (q_not rfl (by first | exact (rfl : (!true) = false) | exact (rfl : (!false) = true) | exact decide_not.symm | rfl)) ?_
                      refine L_q rfl rfl rfl (by first | exact q_pickT rfl rfl | exact q_pickF rfl rfl) ?_
                      refine L_then ?_
                      refine C_dec rfl (fun h14 => ?_) (fun h14 => ?_)
                      · -- t82 True
                        refine C_region ?_
                        refine L_q rfl rfl rfl (q_assign rfl) ?_
                        refine L_end ?_
                        exact fun ac_ wo_ hs_ => ⟨(), trivial, hs_.weak ⟨rfl, rfl, rfl, rfl, en (by have h9 := folC_eq (ts := ts) (ls := ls) (xs := xs) (fi := fi); rw [if_pos (by omega)] at h9; omega), trivial⟩ (fun h => h.pk (by repeat (first | with_reducible exact pk_nil | refine pk_box rfl ?_ | refine pk_rd rfl ?_ | refine pk_sl rfl ?_ | with_reducible refine pk_app ?_ | with_reducible refine pk_app0 ?_ | with_reducible refine pk_app0L ?_ | with_reducible exact pk_tl | refine pk_var ?_)))⟩
                      · -- t82 False
                        refine C_skip ?_
                        exact fun ac_ wo_ hs_ => ⟨(), trivial, hs_.weak ⟨rfl, rfl, rfl, rfl, en (by have h9 := folC_eq (ts := ts) (ls := ls) (xs := xs) (fi := fi); rw [if_neg (by omega)] at h9; omega), trivial⟩ (fun h => h.pk (by repeat (first | with_reducible exact pk_nil | refine pk_box rfl ?_ | refine pk_rd rfl ?_ | refine pk_sl rfl ?_ | with_reducible refine pk_app ?_ | with_reducible refine pk_app0 ?_ | with_reducible refine pk_app0L ?_ | with_reducible exact pk_tl | refine pk_var ?_)))⟩
                    · -- t77 False
                      refine L_skip rfl rfl rfl rfl rfl rfl rfl ?_
                      refine L_skip rfl rfl rfl rfl rfl rfl rfl ?_
                      refine L_skip rfl rfl rfl rfl rfl rfl rfl ?_
                      refine L_skip rfl rfl rfl rfl rfl rfl rfl ?_
                      refine L_q rfl rfl rfl (by first | exact q_pickT rfl rfl | exact q_pickF rfl rfl) ?_
                      refine L_then ?_
                      refine C_false rfl ?_
                      refine C_skip ?_
                      exact fun ac_ wo_ hs_ => ⟨(), trivial, hs_.weak ⟨rfl, rfl, rfl, rfl, en (by have h9 := folC_eq (ts := ts) (ls := ls) (xs := xs) (fi := fi); rw [if_neg (by omega)] at h9; omega), trivial⟩ (fun h => h.pk (by repeat (first | with_reducible exact pk_nil | refine pk_box rfl ?_ | refine pk_rd rfl ?_ | refine pk_sl rfl ?_ | with_reducible refine pk_app ?_ | with_reducible refine pk_app0 ?_ | with_reducible refine pk_app0L ?_ | with_reducible exact pk_tl | refine pk_var ?_)))⟩
                  · -- behind
                    intro _ _
                    refine C_seq ?_
                    refine C_seq ?_
                    refine C_region ?_
                    refine L_q rfl rfl rfl (q_move rfl) ?_
                    refine L_q rfl rfl rfl (q_neq rfl rfl) ?_
                    refine L_then ?_
                    refine C_dec rfl (fun hc => ?_) (fun hc => ?_)
                    · -- t84 True
                      rw [if_neg hc] at hvl
                      obtain rfl := List.eq_nil_of_length_eq_zero hvl
                      refine C_seq ?_
                      refine C_region ?_
                      refine L_q rfl rfl rfl (q_move rfl) ?_
                      refine L_q rfl rfl rfl (q_move rfl) ?_
                      refine L_q rfl rfl rfl (q_true (q_eql rfl rfl) (decide_eq_true rfl)) ?_
                      refine L_q rfl rfl rfl (q_move rfl) ?_
                      refine L_qg rfl rfl rfl rfl rfl rfl rfl (q_move rfl) ?_
                      refine L_qg rfl rfl rfl rfl rfl rfl rfl (q_len tb rfl rfl (by first | exact gvo | exact gvd gvo (by omega))) ?_
                      refine L_qg rfl rfl rfl rfl rfl rfl rfl (q_true (q_eql rfl rfl) (decide_eq_true rfl)) ?_
                      refine L_q rfl rfl rfl (by first | exact q_pickT rfl rfl | exact q_pickF rfl rfl) ?_
                      refine L_q rfl rfl rfl (q_assign rfl) ?_
                      refine L_then ?_
                      refine C_ret ?_
                      exact ret_of (res1 rfl rfl) sub_nil (by intro r hr; cases hr) ⟨rfl, rfl⟩
                    · -- t84 False
                      have hz := Decidable.not_not.1 hc
                      rw [if_pos hz] at hvl
                      have hO := folC_ok hz; have hok := hO.k; have hob := hok.b; have hof := hO.f; have hol := hO.l
                      obtain ⟨n, rfl⟩ := Int.eq_ofNat_of_zero_le hof.1
                      rw [show ((n : Int)).toNat = n from rfl]
                      refine C_skip_then ?_
                      refine C_seq ?_
                      refine C_seq ?_
                      refine C_region ?_
                      refine L_q rfl rfl rfl (q_move rfl) ?_
                      refine L_q rfl rfl rfl (q_false (q_neq rfl rfl) (decide_eq_false fun h => h hz)) ?_
                      refine L_q rfl rfl rfl (q_move rfl) ?_
                      refine L_qg rfl rfl rfl rfl rfl rfl rfl (q_move rfl) ?_
                      refine L_qg rfl rfl rfl rfl rfl rfl rfl (q_len tb rfl rfl (by first | exact gvo | exact gvd gvo (by omega))) ?_
                      refine L_qg rfl rfl rfl rfl rfl rfl rfl (q_move rfl) ?_
                      refine L_qg rfl rfl rfl rfl rfl rfl rfl (q_len tb rfl rfl (by first | exact gvo | exact gvd gvo (by omega))) ?_
                      refine L_qg rfl rfl rfl rfl rfl rfl rfl (q_false (q_neq rfl rfl) (decide_eq_false fun h => h (by rw [List.length_map, List.length_map, List.length_reverse, hvl]))) ?_
                      refine L_q rfl rfl rfl (by first | exact q_pickT rfl rfl | exact q_pickF rfl rfl) ?_
                      refine L_then ?_
                      refine C_false rfl ?_
                      refine C_skip_then ?_
                      refine C_seq ?_
                      refine C_region ?_
                      refine L_q rfl rfl rfl (q_field tb rfl rfl rfl) ?_
                      refine L_q rfl rfl rfl (q_load tb rfl rfl bxo rfl) ?_
                      refine L_q rfl rfl rfl (q_assign rfl) ?_
                      refine L_then ?_
                      refine C_seq ?_
                      refine C_seq ?_
                      refine C_region ?_
                      refine L_q rfl rfl rfl (q_assign rfl) ?_
                      refine L_then ?_
                      refine C_block ?_
                      refine C_res (fun _ hw => hw.dup (k := rd u 4 (ls.map cLd)) m3 (rd_own _ _ _)) ?_
                      refine C_loop (ι := Nat × Value) (fun p => ([(1, z), (2, .pointer (some ⟨g2, 0, none⟩)), (5, s5), (9, p.2), (10, .int .i64 (p.1 : Int))], (rd p.2 4 ((folM ts ls xs n p.1).map cLd) :: sl s5 23 1 (vs.reverse.map fun x => [x]) :: box g2 29 (cDv v u x (n : Int)) :: rd v 4 (ts.map cCp) :: rd u 4 (ls.map cLd) :: rd z 5 (xs.map cLg) :: rlR 56 ts ls xs n vs))) (fun p => p.1 ≤ xs.length) (fun p => xs.length - p.1) (0, u) (Nat.zero_le _) (fun a w hs => hs.weak ⟨rfl, rfl, rfl, rfl, rfl, trivial⟩ (fun h => h)) ?_
                      rintro ⟨k, lv⟩ hk
                      dsimp only at hk ⊢
                      refine C_seq ?_
                      refine C_seq ?_
                      refine C_region ?_
                      refine L_q rfl rfl rfl (q_move rfl) ?_
                      refine L_q rfl rfl rfl (q_move rfl) ?_
                      refine L_q rfl rfl rfl (q_len tb rfl rfl (by first | exact gvo | exact gvd gvo (by omega))) ?_
                      refine L_q rfl rfl rfl (q_lss rfl rfl) ?_
                      refine L_then ?_
                      refine C_dec rfl (fun h18 => ?_) (fun h18 => ?_)
                      · -- t107 True
                        obtain ⟨y, he⟩ := get_some xs (k := k) (by omega); have hel := map_get cLg he; have hyx := (ckLeg_ok (ckLgs_ok hO.c y (List.mem_of_getElem? he))).1; have hF := folM_ok hok hO.c (show n ≤ 6 by omega) k; have hF1 := folM_ok hok hO.c (show n ≤ 6 by omega) (k + 1); have hE := folM_E hok hO.c (show n ≤ 6 by omega) he
                        obtain ⟨v9, hv9⟩ := rev_get hvl (show k < xs.length by omega)
                        have hel9 : (vs.reverse.map fun x => [x])[k]? = some [v9] := map_get _ hv9
                        have gvm := gv_rl (ts := ts) (ls := ls) (xs := xs) (f := n) (u := 56) hv9
                        refine C_skip_then ?_
                        refine C_seq ?_
                        refine C_block ?_
                        refine C_seq ?_
                        refine C_draw (n := 17) [(0, false), (1, false), (3, false), (5, false), (6, false), (7, false), (8, false), (9, false), (10, false), (2, true), (4, true), (11, true), (12, false), (13, false), (14, false), (15, false), (16, false)] mixed (by kernel_rfl) ?_
                        refine W_q rfl rfl rfl rfl (q_field tb rfl rfl rfl) ?_
                        refine W_q rfl rfl rfl rfl (q_load tb rfl rfl bxo rfl) ?_
                        refine W_q rfl rfl rfl rfl (q_move rfl) ?_
                        refine W_q rfl rfl rfl rfl (q_move rfl) ?_
                        refine W_q rfl rfl rfl rfl (q_move rfl) ?_
                        refine W_q rfl rfl rfl rfl (by first | exact q_index tb rfl rfl rfl rfl (by first | exact gvo | exact gvd gvo (by omega)) (by omega) (by first | omega | (simp; done) | (simp; omega)) | exact q_indexP tb rfl rfl rfl rfl (by omega) (by omega)) ?_
                        refine W_q rfl rfl rfl rfl (q_loadEA tb rfl rfl (by first | exact gvo | exact gvd gvo (by omega)) (i := k) (o := 0) (by omega) hel rfl rfl) ?_
                        refine W_q rfl rfl rfl rfl (q_field tb rfl rfl rfl) ?_
                        refine W_q rfl rfl rfl rfl (q_load tb rfl rfl bxo rfl) ?_
                        refine W_callS tb rfl rfl rfl rfl (ct_shotlinelaw03_table v ts (by omega)) (ps_cons (by first | exact gvo | exact gvd gvo (by omega)) no_ps) rfl fun v113 => ?_
                        refine W_callS tb rfl rfl rfl rfl (ct_shotlinelaw03_loads lv (folM ts ls xs n k) (by have := hF.len; omega)) (ps_cons (by first | exact gvo | exact gvd gvo (by omega)) no_ps) rfl fun v115 => ?_
                        refine W_callSN tb rfl rfl rfl rfl (ct_tissue_Loaded _ _ y n ts (folM ts ls xs n k) (by omega) (by have := hF.len; omega)) (ps_cons (by first | exact gvo | exact gvd gvo (by omega)) (ps_cons (by first | exact gvo | exact gvd gvo (by omega)) no_ps)) rfl fun v122 => ?_
                        refine W_q rfl rfl rfl rfl (q_move rfl) ?_
                        refine W_q rfl rfl rfl rfl (q_ext0 rfl) ?_
                        refine W_q rfl rfl rfl rfl (q_ext1 rfl) ?_
                        refine W_q rfl rfl rfl rfl (q_assign rfl) ?_
                        refine W_q rfl rfl rfl rfl (q_assign rfl) ?_
                        refine W_nil ?_
                        refine L_then ?_
                        refine C_seq ?_
                        refine C_seq ?_
                        rw [hE]; dsimp only
                        refine C_draw (n := 26) [(0, false), (1, false), (2, false), (3, false), (4, false), (5, false), (6, false), (7, false), (8, true), (9, false), (10, false), (11, false), (12, false), (13, false), (14, false), (15, false), (16, false), (17, false), (18, false), (19, false), (20, false), (21, false), (22, true), (23, true), (24, false), (25, false)] mixed (by kernel_rfl) ?_
                        refine W_q rfl rfl rfl rfl (q_move rfl) ?_
                        refine W_q rfl rfl rfl rfl (q_false (q_neq rfl rfl) (decide_eq_false fun h => h rfl)) ?_
                        refine W_q rfl rfl rfl rfl (q_move rfl) ?_
                        refine W_qg rfl rfl rfl rfl rfl rfl rfl rfl (q_move rfl) ?_
                        refine W_qg rfl rfl rfl rfl rfl rfl rfl rfl (q_move rfl) ?_
                        refine W_qg rfl rfl rfl rfl rfl rfl rfl rfl (q_move rfl) ?_
                        refine W_qg rfl rfl rfl rfl rfl rfl rfl rfl (by first | exact q_index tb rfl rfl rfl rfl (by first | exact gvo | exact gvd gvo (by omega)) (by omega) (by first | omega | (simp; done) | (simp; omega)) | exact q_indexP tb rfl rfl rfl rfl (by omega) (by omega)) ?_
                        refine W_qg rfl rfl rfl rfl rfl rfl rfl rfl (q_loadE tb rfl rfl (by first | exact gvo | exact gvd gvo (by omega)) (i := k) (o := 0) (by omega) hel9 rfl) ?_
                        refine W_callg tb rfl rfl rfl rfl rfl rfl rfl rfl (ct_shotlineref03_Same _ _ (folM ts ls xs n (k + 1)) (by have := hF1.len; omega)) (ps_cons (by first | exact gvo | exact gs0 | exact gv1 gs0 | exact gv1 (gv1 gs0) | exact gv1 (gv1 (gv1 gs0))) (ps_cons (by first | exact gvm | exact gv1 gvm | exact gv1 (gv1 gvm) | exact gv1 (gv1 (gv1 gvm)) | exact gv1 (gv1 (gv1 (gv1 gvm))) | exact gv1 (gv1 (gv1 (gv1 (gv1 gvm)))) | exact gv1 (gv1 (gv1 (gv1 (gv1 (gv1 gvm))))) | exact gv1 (gv1 (gv1 (gv1 (gv1 (gv1 (gv1 gvm)))))) | exact gv1 (gv1 (gv1 (gv1 (gv1 (gv1 (gv1 (gv1 gvm))))))) | exact gv1 (gv1 (gv1 (gv1 (gv1 (gv1 (gv1 (gv1 (gv1 gvm)))))))) | exact gv1 (gv1 (gv1 (gv1 (gv1 (gv1 (gv1 (gv1 (gv1 (gv1 gvm))))))))) | exact gv1 (gv1 (gv1 (gv1 (gv1 (gv1 (gv1 (gv1 (gv1 (gv1 (gv1 gvm)))))))))) | exact gv1 (gv1 (gv1 (gv1 (gv1 (gv1 (gv1 (gv1 (gv1 (gv1 (gv1 (gv1 gvm))))))))))) | exact gv1 (gv1 (gv1 (gv1 (gv1 (gv1 (gv1 (gv1 (gv1 (gv1 (gv1 (gv1 (gv1 gvm))))))))))))) no_ps)) rfl ?_
                        refine W_qg rfl rfl rfl rfl rfl rfl rfl rfl (q_not rfl (by first | exact (rfl : (!true) = false) | exact (rfl : (!false) = true) | exact decide_not.symm | rfl)) ?_
                        refine W_q rfl rfl rfl rfl (by first | exact q_pickT rfl rfl | exact q_pickF rfl rfl) ?_
                        refine W_q rfl rfl rfl rfl (q_move rfl) ?_
                        refine W_qg rfl rfl rfl rfl rfl rfl rfl rfl (q_move rfl) ?_
                        refine W_qg rfl rfl rfl rfl rfl rfl rfl rfl (q_field tb rfl rfl rfl) ?_
                        refine W_qg rfl rfl rfl rfl rfl rfl rfl rfl (q_load tb rfl rfl bxo rfl) ?_
                        refine W_qg rfl rfl rfl rfl rfl rfl rfl rfl (q_move rfl) ?_
                        refine W_qg rfl rfl rfl rfl rfl rfl rfl rfl (q_move rfl) ?_
                        refine W_qg rfl rfl rfl rfl rfl rfl rfl rfl (q_move rfl) ?_
                        refine W_qg rfl rfl rfl rfl rfl rfl rfl rfl (by first | exact q_index tb rfl rfl rfl rfl (by first | exact gvo | exact gvd gvo (by omega)) (by omega) (by first | omega | (simp; done) | (simp; omega)) | exact q_indexP tb rfl rfl rfl rfl (by omega) (by omega)) ?_
                        refine W_qg rfl rfl rfl rfl rfl rfl rfl rfl (q_loadEA tb rfl rfl (by first | exact gvo | exact gvd gvo (by omega)) (i := k) (o := 0) (by omega) hel rfl rfl) ?_
                        refine W_qg rfl rfl rfl rfl rfl rfl rfl rfl (q_field tb rfl rfl rfl) ?_
                        refine W_qg rfl rfl rfl rfl rfl rfl rfl rfl (q_load tb rfl rfl bxo rfl) ?_
                        refine W_log rfl rfl rfl rfl rfl rfl rfl rfl (lo_call tb rfl rfl (ct_shotlineref03_Loaded v lv y n ts (folM ts ls xs n k) (by omega) hyx hF.len (by omega) hF.c hF.x) (ps_cons (by first | exact gvo | exact gvd gvo (by omega)) (ps_cons (by first | exact gvo | exact gvd gvo (by omega)) no_ps)) isSl_sinks) ?_
                        intro v147 rs_ hr_; unfold isSl at hr_; subst hr_
                        refine W_callg tb rfl rfl rfl rfl rfl rfl rfl rfl (ct_shotlineref03_Same _ _ (folM ts ls xs n (k + 1)) (by have := hF1.len; omega)) (ps_cons (by first | exact gvo | exact gs0 | exact gv1 gs0 | exact gv1 (gv1 gs0) | exact gv1 (gv1 (gv1 gs0))) (ps_cons (by rw [folM_step he]; first | exact gvo | exact gs0 | exact gv1 gs0) no_ps)) rfl ?_
                        refine W_qg rfl rfl rfl rfl rfl rfl rfl rfl (q_not rfl (by first | exact (rfl : (!true) = false) | exact (rfl : (!false) = true) | exact decide_not.symm | rfl)) ?_
                        refine W_q rfl rfl rfl rfl (by first | exact q_pickT rfl rfl | exact q_pickF rfl rfl) ?_
                        refine W_nil ?_
                        refine L_then ?_
                        refine C_false rfl ?_
                        refine C_skip_then ?_
                        refine C_region ?_
                        refine L_q rfl rfl rfl (q_move rfl) ?_
                        refine L_q rfl rfl rfl (q_assign rfl) ?_
                        refine L_blk ?_
                        refine C_region ?_
                        refine L_q rfl rfl rfl (q_move rfl) ?_
                        refine L_q rfl rfl rfl (q_add rfl rfl (by first | exact IntWalk.i64_in _ (by omega) | rfl)) ?_
                        refine L_q rfl rfl rfl (q_assign rfl) ?_
                        refine L_end ?_
                        exact fun ac_ wo_ hs_ => ⟨(k + 1, v122), (by dsimp only; omega), (by dsimp only; omega), hs_.weak ⟨rfl, rfl, rfl, rfl, rfl, trivial⟩ (fun h_ => sl_to_rd (h_.pk (by repeat (first | with_reducible exact pk_nil | refine pk_box rfl ?_ | refine pk_rd rfl ?_ | refine pk_sl rfl ?_ | with_reducible refine pk_app ?_ | with_reducible refine pk_app0 ?_ | with_reducible refine pk_app0L ?_ | with_reducible exact pk_tl | refine pk_var ?_))))⟩
                      · -- t107 False
                        refine C_exit ?_
                        change C Try.prog _ _ _ _ _ _ _
                        refine C_seq ?_
                        refine C_region ?_
                        refine L_q rfl rfl rfl (q_assign rfl) ?_
                        refine L_then ?_
                        refine C_ret ?_
                        exact ret_of (res1 rfl rfl) sub_nil (by intro r hr; cases hr) ⟨rfl, rfl⟩
              · -- t64 False
                refine L_skip rfl rfl rfl rfl rfl rfl rfl ?_
                refine L_skip rfl rfl rfl rfl rfl rfl rfl ?_
                refine L_q rfl rfl rfl (by first | exact q_pickT rfl rfl | exact q_pickF rfl rfl) ?_
                refine L_then ?_
                refine C_false rfl ?_
                have hc2 : c = folC2 ts ls xs := folL_end (by omega) hf
                subst hc2
                refine C_exit ?_
                change C Try.prog _ _ _ _ _ _ _
                refine C_cut (ι := Unit) (fun _p => ([(1, z), (2, .pointer (some ⟨g2, 0, none⟩)), (5, s5), (6, .int .i64 ((folC ts ls xs fi))), (7, .int .i64 ((folC ts ls xs fi)))], (sl s5 23 1 (vs.reverse.map fun x => [x]) :: box g2 29 (cDv v u x fi) :: rd v 4 (ts.map cCp) :: rd u 4 (ls.map cLd) :: rd z 5 (xs.map cLg) :: rlR 56 ts ls xs fi.toNat vs))) (fun _p => True) ?_ ?_
                · -- ahead
                  refine C_seq ?_
                  refine C_region ?_
                  refine L_q rfl rfl rfl (q_move rfl) ?_
                  refine L_q rfl rfl rfl (q_eql rfl rfl) ?_
                  refine L_q rfl rfl rfl (q_move rfl) ?_
                  refine L_dec (d := 77) rfl (fun h21 => ?_) (fun h21 => ?_)
                  · -- t77 True
                    refine L_qg rfl rfl rfl rfl rfl rfl rfl (q_field tb rfl rfl rfl) ?_
                    refine L_qg rfl rfl rfl rfl rfl rfl rfl (q_load tb rfl rfl bxo rfl) ?_
                    refine L_callg tb rfl rfl rfl rfl rfl rfl (ct_shotlineref03_IsFine fi) no_ps rfl ?_
                    refine L_qg rfl rfl rfl rfl rfl rfl rfl (q_not rfl (by first | exact (rfl : (!true) = false) | exact (rfl : (!false) = true) | exact decide_not.symm | rfl)) ?_
                    refine L_q rfl rfl rfl (by first | exact q_pickT rfl rfl | exact q_pickF rfl rfl) ?_
                    refine L_then ?_
                    refine C_dec rfl (fun h22 => ?_) (fun h22 => ?_)
                    · -- t82 True
                      refine C_region ?_
                      refine L_q rfl rfl rfl (q_assign rfl) ?_
                      refine L_end ?_
                      exact fun ac_ wo_ hs_ => ⟨(), trivial, hs_.weak ⟨rfl, rfl, rfl, rfl, en (by have h9 := folC_eq (ts := ts) (ls := ls) (xs := xs) (fi := fi); rw [if_pos (by omega)] at h9; omega), trivial⟩ (fun h => h.pk (by repeat (first | with_reducible exact pk_nil | refine pk_box rfl ?_ | refine pk_rd rfl ?_ | refine pk_sl rfl ?_ | with_reducible refine pk_app ?_ | with_reducible refine pk_app0 ?_ | with_reducible refine pk_app0L ?_ | with_reducible exact pk_tl | refine pk_var ?_)))⟩
                    · -- t82 False
                      refine C_skip ?_
                      exact fun ac_ wo_ hs_ => ⟨(), trivial, hs_.weak ⟨rfl, rfl, rfl, rfl, en (by have h9 := folC_eq (ts := ts) (ls := ls) (xs := xs) (fi := fi); rw [if_neg (by omega)] at h9; omega), trivial⟩ (fun h => h.pk (by repeat (first | with_reducible exact pk_nil | refine pk_box rfl ?_ | refine pk_rd rfl ?_ | refine pk_sl rfl ?_ | with_reducible refine pk_app ?_ | with_reducible refine pk_app0 ?_ | with_reducible refine pk_app0L ?_ | with_reducible exact pk_tl | refine pk_var ?_)))⟩
                  · -- t77 False
                    refine L_skip rfl rfl rfl rfl rfl rfl rfl ?_
                    refine L_skip rfl rfl rfl rfl rfl rfl rfl ?_
                    refine L_skip rfl rfl rfl rfl rfl rfl rfl ?_
                    refine L_skip rfl rfl rfl rfl rfl rfl rfl ?_
                    refine L_q rfl rfl rfl (by first | exact q_pickT rfl rfl | exact q_pickF rfl rfl) ?_
                    refine L_then ?_
                    refine C_false rfl ?_
                    refine C_skip ?_
                    exact fun ac_ wo_ hs_ => ⟨(), trivial, hs_.weak ⟨rfl, rfl, rfl, rfl, en (by have h9 := folC_eq (ts := ts) (ls := ls) (xs := xs) (fi := fi); rw [if_neg (by omega)] at h9; omega), trivial⟩ (fun h => h.pk (by repeat (first | with_reducible exact pk_nil | refine pk_box rfl ?_ | refine pk_rd rfl ?_ | refine pk_sl rfl ?_ | with_reducible refine pk_app ?_ | with_reducible refine pk_app0 ?_ | with_reducible refine pk_app0L ?_ | with_reducible exact pk_tl | refine pk_var ?_)))⟩
                · -- behind
                  intro _ _
                  refine C_seq ?_
                  refine C_seq ?_
                  refine C_region ?_
                  refine L_q rfl rfl rfl (q_move rfl) ?_
                  refine L_q rfl rfl rfl (q_neq rfl rfl) ?_
                  refine L_then ?_
                  refine C_dec rfl (fun hc => ?_) (fun hc => ?_)
                  · -- t84 True
                    rw [if_neg hc] at hvl
                    obtain rfl := List.eq_nil_of_length_eq_zero hvl
                    refine C_seq ?_
                    refine C_region ?_
                    refine L_q rfl rfl rfl (q_move rfl) ?_
                    refine L_q rfl rfl rfl (q_move rfl) ?_
                    refine L_q rfl rfl rfl (q_true (q_eql rfl rfl) (decide_eq_true rfl)) ?_
                    refine L_q rfl rfl rfl (q_move rfl) ?_
                    refine L_qg rfl rfl rfl rfl rfl rfl rfl (q_move rfl) ?_
                    refine L_qg rfl rfl rfl rfl rfl rfl rfl (q_len tb rfl rfl (by first | exact gvo | exact gvd gvo (by omega))) ?_
                    refine L_qg rfl rfl rfl rfl rfl rfl rfl (q_true (q_eql rfl rfl) (decide_eq_true rfl)) ?_
                    refine L_q rfl rfl rfl (by first | exact q_pickT rfl rfl | exact q_pickF rfl rfl) ?_
                    refine L_q rfl rfl rfl (q_assign rfl) ?_
                    refine L_then ?_
                    refine C_ret ?_
                    exact ret_of (res1 rfl rfl) sub_nil (by intro r hr; cases hr) ⟨rfl, rfl⟩
                  · -- t84 False
                    have hz := Decidable.not_not.1 hc
                    rw [if_pos hz] at hvl
                    have hO := folC_ok hz; have hok := hO.k; have hob := hok.b; have hof := hO.f; have hol := hO.l
                    obtain ⟨n, rfl⟩ := Int.eq_ofNat_of_zero_le hof.1
                    rw [show ((n : Int)).toNat = n from rfl]
                    refine C_skip_then ?_
                    refine C_seq ?_
                    refine C_seq ?_
                    refine C_region ?_
                    refine L_q rfl rfl rfl (q_move rfl) ?_
                    refine L_q rfl rfl rfl (q_false (q_neq rfl rfl) (decide_eq_false fun h => h hz)) ?_
                    refine L_q rfl rfl rfl (q_move rfl) ?_
                    refine L_qg rfl rfl rfl rfl rfl rfl rfl (q_move rfl) ?_
                    refine L_qg rfl rfl rfl rfl rfl rfl rfl (q_len tb rfl rfl (by first | exact gvo | exact gvd gvo (by omega))) ?_
                    refine L_qg rfl rfl rfl rfl rfl rfl rfl (q_move rfl) ?_
                    refine L_qg rfl rfl rfl rfl rfl rfl rfl (q_len tb rfl rfl (by first | exact gvo | exact gvd gvo (by omega))) ?_
                    refine L_qg rfl rfl rfl rfl rfl rfl rfl (q_false (q_neq rfl rfl) (decide_eq_false fun h => h (by rw [List.length_map, List.length_map, List.length_reverse, hvl]))) ?_
                    refine L_q rfl rfl rfl (by first | exact q_pickT rfl rfl | exact q_pickF rfl rfl) ?_
                    refine L_then ?_
                    refine C_false rfl ?_
                    refine C_skip_then ?_
                    refine C_seq ?_
                    refine C_region ?_
                    refine L_q rfl rfl rfl (q_field tb rfl rfl rfl) ?_
                    refine L_q rfl rfl rfl (q_load tb rfl rfl bxo rfl) ?_
                    refine L_q rfl rfl rfl (q_assign rfl) ?_
                    refine L_then ?_
                    refine C_seq ?_
                    refine C_seq ?_
                    refine C_region ?_
                    refine L_q rfl rfl rfl (q_assign rfl) ?_
                    refine L_then ?_
                    refine C_block ?_
                    refine C_res (fun _ hw => hw.dup (k := rd u 4 (ls.map cLd)) m3 (rd_own _ _ _)) ?_
                    refine C_loop (ι := Nat × Value) (fun p => ([(1, z), (2, .pointer (some ⟨g2, 0, none⟩)), (5, s5), (9, p.2), (10, .int .i64 (p.1 : Int))], (rd p.2 4 ((folM ts ls xs n p.1).map cLd) :: sl s5 23 1 (vs.reverse.map fun x => [x]) :: box g2 29 (cDv v u x (n : Int)) :: rd v 4 (ts.map cCp) :: rd u 4 (ls.map cLd) :: rd z 5 (xs.map cLg) :: rlR 56 ts ls xs n vs))) (fun p => p.1 ≤ xs.length) (fun p => xs.length - p.1) (0, u) (Nat.zero_le _) (fun a w hs => hs.weak ⟨rfl, rfl, rfl, rfl, rfl, trivial⟩ (fun h => h)) ?_
                    rintro ⟨k, lv⟩ hk
                    dsimp only at hk ⊢
                    refine C_seq ?_
                    refine C_seq ?_
                    refine C_region ?_
                    refine L_q rfl rfl rfl (q_move rfl) ?_
                    refine L_q rfl rfl rfl (q_move rfl) ?_
                    refine L_q rfl rfl rfl (q_len tb rfl rfl (by first | exact gvo | exact gvd gvo (by omega))) ?_
                    refine L_q rfl rfl rfl (q_lss rfl rfl) ?_
                    refine L_then ?_
                    refine C_dec rfl (fun h26 => ?_) (fun h26 => ?_)
                    · -- t107 True
                      obtain ⟨y, he⟩ := get_some xs (k := k) (by omega); have hel := map_get cLg he; have hyx := (ckLeg_ok (ckLgs_ok hO.c y (List.mem_of_getElem? he))).1; have hF := folM_ok hok hO.c (show n ≤ 6 by omega) k; have hF1 := folM_ok hok hO.c (show n ≤ 6 by omega) (k + 1); have hE := folM_E hok hO.c (show n ≤ 6 by omega) he
                      obtain ⟨v9, hv9⟩ := rev_get hvl (show k < xs.length by omega)
                      have hel9 : (vs.reverse.map fun x => [x])[k]? = some [v9] := map_get _ hv9
                      have gvm := gv_rl (ts := ts) (ls := ls) (xs := xs) (f := n) (u := 56) hv9
                      refine C_skip_then ?_
                      refine C_seq ?_
                      refine C_block ?_
                      refine C_seq ?_
                      refine C_draw (n := 17) [(0, false), (1, false), (3, false), (5, false), (6, false), (7, false), (8, false), (9, false), (10, false), (2, true), (4, true), (11, true), (12, false), (13, false), (14, false), (15, false), (16, false)] mixed (by kernel_rfl) ?_
                      refine W_q rfl rfl rfl rfl (q_field tb rfl rfl rfl) ?_
                      refine W_q rfl rfl rfl rfl (q_load tb rfl rfl bxo rfl) ?_
                      refine W_q rfl rfl rfl rfl (q_move rfl) ?_
                      refine W_q rfl rfl rfl rfl (q_move rfl) ?_
                      refine W_q rfl rfl rfl rfl (q_move rfl) ?_
                      refine W_q rfl rfl rfl rfl (by first | exact q_index tb rfl rfl rfl rfl (by first | exact gvo | exact gvd gvo (by omega)) (by omega) (by first | omega | (simp; done) | (simp; omega)) | exact q_indexP tb rfl rfl rfl rfl (by omega) (by omega)) ?_
                      refine W_q rfl rfl rfl rfl (q_loadEA tb rfl rfl (by first | exact gvo | exact gvd gvo (by omega)) (i := k) (o := 0) (by omega) hel rfl rfl) ?_
                      refine W_q rfl rfl rfl rfl (q_field tb rfl rfl rfl) ?_
                      refine W_q rfl rfl rfl rfl (q_load tb rfl rfl bxo rfl) ?_
                      refine W_callS tb rfl rfl rfl rfl (ct_shotlinelaw03_table v ts (by omega)) (ps_cons (by first | exact gvo | exact gvd gvo (by omega)) no_ps) rfl fun v113 => ?_
                      refine W_callS tb rfl rfl rfl rfl (ct_shotlinelaw03_loads lv (folM ts ls xs n k) (by have := hF.len; omega)) (ps_cons (by first | exact gvo | exact gvd gvo (by omega)) no_ps) rfl fun v115 => ?_
                      refine W_callSN tb rfl rfl rfl rfl (ct_tissue_Loaded _ _ y n ts (folM ts ls xs n k) (by omega) (by have := hF.len; omega)) (ps_cons (by first | exact gvo | exact gvd gvo (by omega)) (ps_cons (by first | exact gvo | exact gvd gvo (by omega)) no_ps)) rfl fun v122 => ?_
                      refine W_q rfl rfl rfl rfl (q_move rfl) ?_
                      refine W_q rfl rfl rfl rfl (q_ext0 rfl) ?_
                      refine W_q rfl rfl rfl rfl (q_ext1 rfl) ?_
                      refine W_q rfl rfl rfl rfl (q_assign rfl) ?_
                      refine W_q rfl rfl rfl rfl (q_assign rfl) ?_
                      refine W_nil ?_
                      refine L_then ?_
                      refine C_seq ?_
                      refine C_seq ?_
                      rw [hE]; dsimp only
                      refine C_draw (n := 26) [(0, false), (1, false), (2, false), (3, false), (4, false), (5, false), (6, false), (7, false), (8, true), (9, false), (10, false), (11, false), (12, false), (13, false), (14, false), (15, false), (16, false), (17, false), (18, false), (19, false), (20, false), (21, false), (22, true), (23, true), (24, false), (25, false)] mixed (by kernel_rfl) ?_
                      refine W_q rfl rfl rfl rfl (q_move rfl) ?_
                      refine W_q rfl rfl rfl rfl (q_false (q_neq rfl rfl) (decide_eq_false fun h => h rfl)) ?_
                      refine W_q rfl rfl rfl rfl (q_move rfl) ?_
                      refine W_qg rfl rfl rfl rfl rfl rfl rfl rfl (q_move rfl) ?_
                      refine W_qg rfl rfl rfl rfl rfl rfl rfl rfl (q_move rfl) ?_
                      refine W_qg rfl rfl rfl rfl rfl rfl rfl rfl (q_move rfl) ?_
                      refine W_qg rfl rfl rfl rfl rfl rfl rfl rfl (by first | exact q_index tb rfl rfl rfl rfl (by first | exact gvo | exact gvd gvo (by omega)) (by omega) (by first | omega | (simp; done) | (simp; omega)) | exact q_indexP tb rfl rfl rfl rfl (by omega) (by omega)) ?_
                      refine W_qg rfl rfl rfl rfl rfl rfl rfl rfl (q_loadE tb rfl rfl (by first | exact gvo | exact gvd gvo (by omega)) (i := k) (o := 0) (by omega) hel9 rfl) ?_
                      refine W_callg tb rfl rfl rfl rfl rfl rfl rfl rfl (ct_shotlineref03_Same _ _ (folM ts ls xs n (k + 1)) (by have := hF1.len; omega)) (ps_cons (by first | exact gvo | exact gs0 | exact gv1 gs0 | exact gv1 (gv1 gs0) | exact gv1 (gv1 (gv1 gs0))) (ps_cons (by first | exact gvm | exact gv1 gvm | exact gv1 (gv1 gvm) | exact gv1 (gv1 (gv1 gvm)) | exact gv1 (gv1 (gv1 (gv1 gvm))) | exact gv1 (gv1 (gv1 (gv1 (gv1 gvm)))) | exact gv1 (gv1 (gv1 (gv1 (gv1 (gv1 gvm))))) | exact gv1 (gv1 (gv1 (gv1 (gv1 (gv1 (gv1 gvm)))))) | exact gv1 (gv1 (gv1 (gv1 (gv1 (gv1 (gv1 (gv1 gvm))))))) | exact gv1 (gv1 (gv1 (gv1 (gv1 (gv1 (gv1 (gv1 (gv1 gvm)))))))) | exact gv1 (gv1 (gv1 (gv1 (gv1 (gv1 (gv1 (gv1 (gv1 (gv1 gvm))))))))) | exact gv1 (gv1 (gv1 (gv1 (gv1 (gv1 (gv1 (gv1 (gv1 (gv1 (gv1 gvm)))))))))) | exact gv1 (gv1 (gv1 (gv1 (gv1 (gv1 (gv1 (gv1 (gv1 (gv1 (gv1 (gv1 gvm))))))))))) | exact gv1 (gv1 (gv1 (gv1 (gv1 (gv1 (gv1 (gv1 (gv1 (gv1 (gv1 (gv1 (gv1 gvm))))))))))))) no_ps)) rfl ?_
                      refine W_qg rfl rfl rfl rfl rfl rfl rfl rfl (q_not rfl (by first | exact (rfl : (!true) = false) | exact (rfl : (!false) = true) | exact decide_not.symm | rfl)) ?_
                      refine W_q rfl rfl rfl rfl (by first | exact q_pickT rfl rfl | exact q_pickF rfl rfl) ?_
                      refine W_q rfl rfl rfl rfl (q_move rfl) ?_
                      refine W_qg rfl rfl rfl rfl rfl rfl rfl rfl (q_move rfl) ?_
                      refine W_qg rfl rfl rfl rfl rfl rfl rfl rfl (q_field tb rfl rfl rfl) ?_
                      refine W_qg rfl rfl rfl rfl rfl rfl rfl rfl (q_load tb rfl rfl bxo rfl) ?_
                      refine W_qg rfl rfl rfl rfl rfl rfl rfl rfl (q_move rfl) ?_
                      refine W_qg rfl rfl rfl rfl rfl rfl rfl rfl (q_move rfl) ?_
                      refine W_qg rfl rfl rfl rfl rfl rfl rfl rfl (q_move rfl) ?_
                      refine W_qg rfl rfl rfl rfl rfl rfl rfl rfl (by first | exact q_index tb rfl rfl rfl rfl (by first | exact gvo | exact gvd gvo (by omega)) (by omega) (by first | omega | (simp; done) | (simp; omega)) | exact q_indexP tb rfl rfl rfl rfl (by omega) (by omega)) ?_
                      refine W_qg rfl rfl rfl rfl rfl rfl rfl rfl (q_loadEA tb rfl rfl (by first | exact gvo | exact gvd gvo (by omega)) (i := k) (o := 0) (by omega) hel rfl rfl) ?_
                      refine W_qg rfl rfl rfl rfl rfl rfl rfl rfl (q_field tb rfl rfl rfl) ?_
                      refine W_qg rfl rfl rfl rfl rfl rfl rfl rfl (q_load tb rfl rfl bxo rfl) ?_
                      refine W_log rfl rfl rfl rfl rfl rfl rfl rfl (lo_call tb rfl rfl (ct_shotlineref03_Loaded v lv y n ts (folM ts ls xs n k) (by omega) hyx hF.len (by omega) hF.c hF.x) (ps_cons (by first | exact gvo | exact gvd gvo (by omega)) (ps_cons (by first | exact gvo | exact gvd gvo (by omega)) no_ps)) isSl_sinks) ?_
                      intro v147 rs_ hr_; unfold isSl at hr_; subst hr_
                      refine W_callg tb rfl rfl rfl rfl rfl rfl rfl rfl (ct_shotlineref03_Same _ _ (folM ts ls xs n (k + 1)) (by have := hF1.len; omega)) (ps_cons (by first | exact gvo | exact gs0 | exact gv1 gs0 | exact gv1 (gv1 gs0) | exact gv1 (gv1 (gv1 gs0))) (ps_cons (by rw [folM_step he]; first | exact gvo | exact gs0 | exact gv1 gs0) no_ps)) rfl ?_
                      refine W_qg rfl rfl rfl rfl rfl rfl rfl rfl (q_not rfl (by first | exact (rfl : (!true) = false) | exact (rfl : (!false) = true) | exact decide_not.symm | rfl)) ?_
                      refine W_q rfl rfl rfl rfl (by first | exact q_pickT rfl rfl | exact q_pickF rfl rfl) ?_
                      refine W_nil ?_
                      refine L_then ?_
                      refine C_false rfl ?_
                      refine C_skip_then ?_
                      refine C_region ?_
                      refine L_q rfl rfl rfl (q_move rfl) ?_
                      refine L_q rfl rfl rfl (q_assign rfl) ?_
                      refine L_blk ?_
                      refine C_region ?_
                      refine L_q rfl rfl rfl (q_move rfl) ?_
                      refine L_q rfl rfl rfl (q_add rfl rfl (by first | exact IntWalk.i64_in _ (by omega) | rfl)) ?_
                      refine L_q rfl rfl rfl (q_assign rfl) ?_
                      refine L_end ?_
                      exact fun ac_ wo_ hs_ => ⟨(k + 1, v122), (by dsimp only; omega), (by dsimp only; omega), hs_.weak ⟨rfl, rfl, rfl, rfl, rfl, trivial⟩ (fun h_ => sl_to_rd (h_.pk (by repeat (first | with_reducible exact pk_nil | refine pk_box rfl ?_ | refine pk_rd rfl ?_ | refine pk_sl rfl ?_ | with_reducible refine pk_app ?_ | with_reducible refine pk_app0 ?_ | with_reducible refine pk_app0L ?_ | with_reducible exact pk_tl | refine pk_var ?_))))⟩
                    · -- t107 False
                      refine C_exit ?_
                      change C Try.prog _ _ _ _ _ _ _
                      refine C_seq ?_
                      refine C_region ?_
                      refine L_q rfl rfl rfl (q_assign rfl) ?_
                      refine L_then ?_
                      refine C_ret ?_
                      exact ret_of (res1 rfl rfl) sub_nil (by intro r hr; cases hr) ⟨rfl, rfl⟩
    · -- t22 False
      refine L_skip rfl rfl rfl rfl rfl rfl rfl ?_
      refine L_skip rfl rfl rfl rfl rfl rfl rfl ?_
      refine L_skip rfl rfl rfl rfl rfl rfl rfl ?_
      refine L_qg rfl rfl rfl rfl rfl rfl rfl (by first | exact q_pickT rfl rfl | exact q_pickF rfl rfl) ?_
      refine L_q rfl rfl rfl (by first | exact q_pickT rfl rfl | exact q_pickF rfl rfl) ?_
      refine L_q rfl rfl rfl (q_move rfl) ?_
      refine L_qg rfl rfl rfl rfl rfl rfl rfl (q_move rfl) ?_
      refine L_qg rfl rfl rfl rfl rfl rfl rfl (q_len tb rfl rfl (by first | exact gvo | exact gvd gvo (by omega))) ?_
      refine L_qg rfl rfl rfl rfl rfl rfl rfl (q_gtr rfl rfl) ?_
      refine L_q rfl rfl rfl (by first | exact q_pickT rfl rfl | exact q_pickF rfl rfl) ?_
      refine L_then ?_
      refine C_dec rfl (fun h28 => ?_) (fun h28 => ?_)
      · -- t32 True
        refine C_seq ?_
        refine C_region ?_
        refine L_q rfl rfl rfl (q_assign rfl) ?_
        refine L_then ?_
        refine C_ret ?_
        exact ret_of (res1 rfl rfl) sub_nil (by intro r hr; cases hr) ⟨rfl, rfl⟩
      · -- t32 False
        refine C_skip_then ?_
        refine C_seq ?_
        refine Kp.C_treeO0 (ι := {q : Value × List Value // q.2.length = if folC ts ls xs fi = 0 then xs.length else 0}) (.q 0 (.q 1 (.q 3 (.q 4 (.q 7 (.q 9 (.q 10 (.s2 2 6 (.s2 5 6 (.s 6 (.s 8 (.s 11 (.q 12 (.q 13 (.q 14 (.s 15 (.s 16 .nil)))))))) (.s 5 (.s 8 (.s 11 (.q 12 (.q 13 (.q 14 (.s 15 (.s 16 .nil))))))))) (.s 2 (.s 5 (.s 8 (.s 11 (.q 12 (.q 13 (.q 14 (.s 15 (.s 16 .nil))))))))))))))))) (fun q => ([(1, z), (2, .pointer (some ⟨g2, 0, none⟩)), (5, q.1.1), (6, .int .i64 ((folC ts ls xs fi)))], (sl q.1.1 23 1 (q.1.2.reverse.map fun x => [x]) :: box g2 29 (cDv v u x fi) :: rd v 4 (ts.map cCp) :: rd u 4 (ls.map cLd) :: rd z 5 (xs.map cLg) :: rlR 56 ts ls xs fi.toNat q.1.2))) mixed (by kernel_rfl) rfl (by kernel_rfl) ?_ ?_
        · skip
          refine Kp.Z_q rfl rfl rfl rfl (q_field tb rfl rfl rfl) ?_
          refine Kp.Z_q rfl rfl rfl rfl (q_load tb rfl rfl bxo rfl) ?_
          refine Kp.Z_q rfl rfl rfl rfl (q_field tb rfl rfl rfl) ?_
          refine Kp.Z_q rfl rfl rfl rfl (q_load tb rfl rfl bxo rfl) ?_
          refine Kp.Z_q rfl rfl rfl rfl (q_move rfl) ?_
          refine Kp.Z_q rfl rfl rfl rfl (q_field tb rfl rfl rfl) ?_
          refine Kp.Z_q rfl rfl rfl rfl (q_load tb rfl rfl bxo rfl) ?_
          refine Kp.Z_s2 ?_ ?_
          · skip
            refine Kp.St_mk rfl rfl rfl rfl (lo_call tb rfl rfl (ct_shotlinelaw03_table v ts (by omega)) (ps_cons (by first | exact gvo | exact gs0 | exact gv1 gs0 | exact gv1 (gv1 gs0) | exact gv1 (gv1 (gv1 gs0))) no_ps) isSl_sinks) fun v36 => ?_
            refine Kp.Z_s2 ?_ ?_
            · skip
              refine Kp.St_mk rfl rfl rfl rfl (lo_call tb rfl rfl (ct_shotlinelaw03_loads u ls (by omega)) (ps_cons (by first | exact gvo | exact gs0 | exact gv1 gs0 | exact gv1 (gv1 gs0) | exact gv1 (gv1 (gv1 gs0))) no_ps) isSl_sinks) fun v39 => ?_
              refine Kp.Z_s ?_
              refine Kp.St_mk rfl rfl rfl rfl (lo_bslice tb rfl rfl rfl (xs := []) rfl rfl (by simp) rfl (by omega) rfl) fun v40 => ?_
              refine Kp.Z_s ?_
              first | refine Kp.St_append tb rfl rfl rfl (List.Perm.refl _) rfl rfl rfl (by omega) rfl rfl (l2 := xs.map cLg) (by first | exact gvo | exact gs0 | exact gv1 gs0 | exact gv1 (gv1 gs0) | exact gv1 (gv1 (gv1 gs0))) (oneLg xs) (by simp [maxLen]; omega) (by simp; omega) fun v42 => ?_ | refine Kp.St_append tb rfl rfl rfl perm1 rfl rfl rfl (by omega) rfl rfl (l2 := xs.map cLg) (by first | exact gvo | exact gs0 | exact gv1 gs0 | exact gv1 (gv1 gs0) | exact gv1 (gv1 (gv1 gs0))) (oneLg xs) (by simp [maxLen]; omega) (by simp; omega) fun v42 => ?_ | refine Kp.St_append tb rfl rfl rfl Kp.perm2 rfl rfl rfl (by omega) rfl rfl (l2 := xs.map cLg) (by first | exact gvo | exact gs0 | exact gv1 gs0 | exact gv1 (gv1 gs0) | exact gv1 (gv1 (gv1 gs0))) (oneLg xs) (by simp [maxLen]; omega) (by simp; omega) fun v42 => ?_ | refine Kp.St_append tb rfl rfl rfl Kp.perm3 rfl rfl rfl (by omega) rfl rfl (l2 := xs.map cLg) (by first | exact gvo | exact gs0 | exact gv1 gs0 | exact gv1 (gv1 gs0) | exact gv1 (gv1 (gv1 gs0))) (oneLg xs) (by simp [maxLen]; omega) (by simp; omega) fun v42 => ?_ | refine Kp.St_append tb rfl rfl rfl (perm_front (pre := [_, _])) rfl rfl rfl (by omega) rfl rfl (l2 := xs.map cLg) (by first | exact gvo | exact gs0 | exact gv1 gs0 | exact gv1 (gv1 gs0) | exact gv1 (gv1 (gv1 gs0))) (oneLg xs) (by simp [maxLen]; omega) (by simp; omega) fun v42 => ?_ | refine Kp.St_append tb rfl rfl rfl (perm_front (pre := [_, _, _])) rfl rfl rfl (by omega) rfl rfl (l2 := xs.map cLg) (by first | exact gvo | exact gs0 | exact gv1 gs0 | exact gv1 (gv1 gs0) | exact gv1 (gv1 (gv1 gs0))) (oneLg xs) (by simp [maxLen]; omega) (by simp; omega) fun v42 => ?_ | refine Kp.St_append tb rfl rfl rfl (perm_front (pre := [_, _, _, _])) rfl rfl rfl (by omega) rfl rfl (l2 := xs.map cLg) (by first | exact gvo | exact gs0 | exact gv1 gs0 | exact gv1 (gv1 gs0) | exact gv1 (gv1 (gv1 gs0))) (oneLg xs) (by simp [maxLen]; omega) (by simp; omega) fun v42 => ?_
              refine Kp.Z_s ?_
              refine Kp.St_lo rfl rfl rfl rfl (lo_call tb rfl rfl (ct_tissue_Followed v36 v39 v42 fi ts ls xs (by omega) (by omega) (by omega)) (ps_cons (by first | exact gvo | exact gs0 | exact gv1 gs0 | exact gv1 (gv1 gs0) | exact gv1 (gv1 (gv1 gs0))) (ps_cons (by first | exact gvo | exact gs0 | exact gv1 gs0 | exact gv1 (gv1 gs0) | exact gv1 (gv1 (gv1 gs0))) (ps_cons (by first | exact gvo | exact gs0 | exact gv1 gs0 | exact gv1 (gv1 gs0) | exact gv1 (gv1 (gv1 gs0))) no_ps))) FolP_sinks) ?_
              rintro _ _ ⟨s45, vs45, rfl, rfl, hl45⟩
              refine Kp.Z_q rfl rfl rfl rfl (q_move rfl) ?_
              refine Kp.Z_q rfl rfl rfl rfl (q_ext0 rfl) ?_
              refine Kp.Z_q rfl rfl rfl rfl (q_ext1 rfl) ?_
              refine Kp.Z_s ?_
              refine Kp.St_q rfl rfl rfl rfl (q_assign rfl) ?_
              refine Kp.Z_s ?_
              refine Kp.St_q rfl rfl rfl rfl (q_assign rfl) ?_
              refine Kp.Z_nil ?_
              try dsimp only [List.append, List.cons_append, List.nil_append]
              exact ⟨⟨(s45, vs45), hl45⟩, fun a_ w_ hs_ => hs_.weak ⟨rfl, rfl, rfl, rfl, trivial⟩ (fun h_ => (show WS _ _ (sl s45 23 1 (vs45.reverse.map fun x => [x]) :: box g2 29 (cDv v u x fi) :: rd v 4 (ts.map cCp) :: rd u 4 (ls.map cLd) :: rd z 5 (xs.map cLg) :: rlR 56 ts ls xs fi.toNat vs45) _ from h_.pk (by repeat (first | with_reducible exact pk_nil | refine pk_box rfl ?_ | refine pk_rd rfl ?_ | refine pk_sl rfl ?_ | with_reducible refine pk_app ?_ | with_reducible refine pk_app0 ?_ | with_reducible refine pk_app0L ?_ | with_reducible exact pk_tl | refine pk_var ?_))))⟩
            · skip
              refine Kp.St_mk rfl rfl rfl rfl (lo_bslice tb rfl rfl rfl (xs := []) rfl rfl (by simp) rfl (by omega) rfl) fun v40 => ?_
              refine Kp.Z_s ?_
              refine Kp.St_mk rfl rfl rfl rfl (lo_call tb rfl rfl (ct_shotlinelaw03_loads u ls (by omega)) (ps_cons (by first | exact gvo | exact gs0 | exact gv1 gs0 | exact gv1 (gv1 gs0) | exact gv1 (gv1 (gv1 gs0))) no_ps) isSl_sinks) fun v39 => ?_
              refine Kp.Z_s ?_
              first | refine Kp.St_append tb rfl rfl rfl (List.Perm.refl _) rfl rfl rfl (by omega) rfl rfl (l2 := xs.map cLg) (by first | exact gvo | exact gs0 | exact gv1 gs0 | exact gv1 (gv1 gs0) | exact gv1 (gv1 (gv1 gs0))) (oneLg xs) (by simp [maxLen]; omega) (by simp; omega) fun v42 => ?_ | refine Kp.St_append tb rfl rfl rfl perm1 rfl rfl rfl (by omega) rfl rfl (l2 := xs.map cLg) (by first | exact gvo | exact gs0 | exact gv1 gs0 | exact gv1 (gv1 gs0) | exact gv1 (gv1 (gv1 gs0))) (oneLg xs) (by simp [maxLen]; omega) (by simp; omega) fun v42 => ?_ | refine Kp.St_append tb rfl rfl rfl Kp.perm2 rfl rfl rfl (by omega) rfl rfl (l2 := xs.map cLg) (by first | exact gvo | exact gs0 | exact gv1 gs0 | exact gv1 (gv1 gs0) | exact gv1 (gv1 (gv1 gs0))) (oneLg xs) (by simp [maxLen]; omega) (by simp; omega) fun v42 => ?_ | refine Kp.St_append tb rfl rfl rfl Kp.perm3 rfl rfl rfl (by omega) rfl rfl (l2 := xs.map cLg) (by first | exact gvo | exact gs0 | exact gv1 gs0 | exact gv1 (gv1 gs0) | exact gv1 (gv1 (gv1 gs0))) (oneLg xs) (by simp [maxLen]; omega) (by simp; omega) fun v42 => ?_ | refine Kp.St_append tb rfl rfl rfl (perm_front (pre := [_, _])) rfl rfl rfl (by omega) rfl rfl (l2 := xs.map cLg) (by first | exact gvo | exact gs0 | exact gv1 gs0 | exact gv1 (gv1 gs0) | exact gv1 (gv1 (gv1 gs0))) (oneLg xs) (by simp [maxLen]; omega) (by simp; omega) fun v42 => ?_ | refine Kp.St_append tb rfl rfl rfl (perm_front (pre := [_, _, _])) rfl rfl rfl (by omega) rfl rfl (l2 := xs.map cLg) (by first | exact gvo | exact gs0 | exact gv1 gs0 | exact gv1 (gv1 gs0) | exact gv1 (gv1 (gv1 gs0))) (oneLg xs) (by simp [maxLen]; omega) (by simp; omega) fun v42 => ?_ | refine Kp.St_append tb rfl rfl rfl (perm_front (pre := [_, _, _, _])) rfl rfl rfl (by omega) rfl rfl (l2 := xs.map cLg) (by first | exact gvo | exact gs0 | exact gv1 gs0 | exact gv1 (gv1 gs0) | exact gv1 (gv1 (gv1 gs0))) (oneLg xs) (by simp [maxLen]; omega) (by simp; omega) fun v42 => ?_
              refine Kp.Z_s ?_
              refine Kp.St_lo rfl rfl rfl rfl (lo_call tb rfl rfl (ct_tissue_Followed v36 v39 v42 fi ts ls xs (by omega) (by omega) (by omega)) (ps_cons (by first | exact gvo | exact gs0 | exact gv1 gs0 | exact gv1 (gv1 gs0) | exact gv1 (gv1 (gv1 gs0))) (ps_cons (by first | exact gvo | exact gs0 | exact gv1 gs0 | exact gv1 (gv1 gs0) | exact gv1 (gv1 (gv1 gs0))) (ps_cons (by first | exact gvo | exact gs0 | exact gv1 gs0 | exact gv1 (gv1 gs0) | exact gv1 (gv1 (gv1 gs0))) no_ps))) FolP_sinks) ?_
              rintro _ _ ⟨s45, vs45, rfl, rfl, hl45⟩
              refine Kp.Z_q rfl rfl rfl rfl (q_move rfl) ?_
              refine Kp.Z_q rfl rfl rfl rfl (q_ext0 rfl) ?_
              refine Kp.Z_q rfl rfl rfl rfl (q_ext1 rfl) ?_
              refine Kp.Z_s ?_
              refine Kp.St_q rfl rfl rfl rfl (q_assign rfl) ?_
              refine Kp.Z_s ?_
              refine Kp.St_q rfl rfl rfl rfl (q_assign rfl) ?_
              refine Kp.Z_nil ?_
              try dsimp only [List.append, List.cons_append, List.nil_append]
              exact ⟨⟨(s45, vs45), hl45⟩, fun a_ w_ hs_ => hs_.weak ⟨rfl, rfl, rfl, rfl, trivial⟩ (fun h_ => (show WS _ _ (sl s45 23 1 (vs45.reverse.map fun x => [x]) :: box g2 29 (cDv v u x fi) :: rd v 4 (ts.map cCp) :: rd u 4 (ls.map cLd) :: rd z 5 (xs.map cLg) :: rlR 56 ts ls xs fi.toNat vs45) _ from h_.pk (by repeat (first | with_reducible exact pk_nil | refine pk_box rfl ?_ | refine pk_rd rfl ?_ | refine pk_sl rfl ?_ | with_reducible refine pk_app ?_ | with_reducible refine pk_app0 ?_ | with_reducible refine pk_app0L ?_ | with_reducible exact pk_tl | refine pk_var ?_))))⟩
          · skip
            refine Kp.St_mk rfl rfl rfl rfl (lo_bslice tb rfl rfl rfl (xs := []) rfl rfl (by simp) rfl (by omega) rfl) fun v40 => ?_
            refine Kp.Z_s ?_
            refine Kp.St_mk rfl rfl rfl rfl (lo_call tb rfl rfl (ct_shotlinelaw03_table v ts (by omega)) (ps_cons (by first | exact gvo | exact gs0 | exact gv1 gs0 | exact gv1 (gv1 gs0) | exact gv1 (gv1 (gv1 gs0))) no_ps) isSl_sinks) fun v36 => ?_
            refine Kp.Z_s ?_
            refine Kp.St_mk rfl rfl rfl rfl (lo_call tb rfl rfl (ct_shotlinelaw03_loads u ls (by omega)) (ps_cons (by first | exact gvo | exact gs0 | exact gv1 gs0 | exact gv1 (gv1 gs0) | exact gv1 (gv1 (gv1 gs0))) no_ps) isSl_sinks) fun v39 => ?_
            refine Kp.Z_s ?_
            first | refine Kp.St_append tb rfl rfl rfl (List.Perm.refl _) rfl rfl rfl (by omega) rfl rfl (l2 := xs.map cLg) (by first | exact gvo | exact gs0 | exact gv1 gs0 | exact gv1 (gv1 gs0) | exact gv1 (gv1 (gv1 gs0))) (oneLg xs) (by simp [maxLen]; omega) (by simp; omega) fun v42 => ?_ | refine Kp.St_append tb rfl rfl rfl perm1 rfl rfl rfl (by omega) rfl rfl (l2 := xs.map cLg) (by first | exact gvo | exact gs0 | exact gv1 gs0 | exact gv1 (gv1 gs0) | exact gv1 (gv1 (gv1 gs0))) (oneLg xs) (by simp [maxLen]; omega) (by simp; omega) fun v42 => ?_ | refine Kp.St_append tb rfl rfl rfl Kp.perm2 rfl rfl rfl (by omega) rfl rfl (l2 := xs.map cLg) (by first | exact gvo | exact gs0 | exact gv1 gs0 | exact gv1 (gv1 gs0) | exact gv1 (gv1 (gv1 gs0))) (oneLg xs) (by simp [maxLen]; omega) (by simp; omega) fun v42 => ?_ | refine Kp.St_append tb rfl rfl rfl Kp.perm3 rfl rfl rfl (by omega) rfl rfl (l2 := xs.map cLg) (by first | exact gvo | exact gs0 | exact gv1 gs0 | exact gv1 (gv1 gs0) | exact gv1 (gv1 (gv1 gs0))) (oneLg xs) (by simp [maxLen]; omega) (by simp; omega) fun v42 => ?_ | refine Kp.St_append tb rfl rfl rfl (perm_front (pre := [_, _])) rfl rfl rfl (by omega) rfl rfl (l2 := xs.map cLg) (by first | exact gvo | exact gs0 | exact gv1 gs0 | exact gv1 (gv1 gs0) | exact gv1 (gv1 (gv1 gs0))) (oneLg xs) (by simp [maxLen]; omega) (by simp; omega) fun v42 => ?_ | refine Kp.St_append tb rfl rfl rfl (perm_front (pre := [_, _, _])) rfl rfl rfl (by omega) rfl rfl (l2 := xs.map cLg) (by first | exact gvo | exact gs0 | exact gv1 gs0 | exact gv1 (gv1 gs0) | exact gv1 (gv1 (gv1 gs0))) (oneLg xs) (by simp [maxLen]; omega) (by simp; omega) fun v42 => ?_ | refine Kp.St_append tb rfl rfl rfl (perm_front (pre := [_, _, _, _])) rfl rfl rfl (by omega) rfl rfl (l2 := xs.map cLg) (by first | exact gvo | exact gs0 | exact gv1 gs0 | exact gv1 (gv1 gs0) | exact gv1 (gv1 (gv1 gs0))) (oneLg xs) (by simp [maxLen]; omega) (by simp; omega) fun v42 => ?_
            refine Kp.Z_s ?_
            refine Kp.St_lo rfl rfl rfl rfl (lo_call tb rfl rfl (ct_tissue_Followed v36 v39 v42 fi ts ls xs (by omega) (by omega) (by omega)) (ps_cons (by first | exact gvo | exact gs0 | exact gv1 gs0 | exact gv1 (gv1 gs0) | exact gv1 (gv1 (gv1 gs0))) (ps_cons (by first | exact gvo | exact gs0 | exact gv1 gs0 | exact gv1 (gv1 gs0) | exact gv1 (gv1 (gv1 gs0))) (ps_cons (by first | exact gvo | exact gs0 | exact gv1 gs0 | exact gv1 (gv1 gs0) | exact gv1 (gv1 (gv1 gs0))) no_ps))) FolP_sinks) ?_
            rintro _ _ ⟨s45, vs45, rfl, rfl, hl45⟩
            refine Kp.Z_q rfl rfl rfl rfl (q_move rfl) ?_
            refine Kp.Z_q rfl rfl rfl rfl (q_ext0 rfl) ?_
            refine Kp.Z_q rfl rfl rfl rfl (q_ext1 rfl) ?_
            refine Kp.Z_s ?_
            refine Kp.St_q rfl rfl rfl rfl (q_assign rfl) ?_
            refine Kp.Z_s ?_
            refine Kp.St_q rfl rfl rfl rfl (q_assign rfl) ?_
            refine Kp.Z_nil ?_
            try dsimp only [List.append, List.cons_append, List.nil_append]
            exact ⟨⟨(s45, vs45), hl45⟩, fun a_ w_ hs_ => hs_.weak ⟨rfl, rfl, rfl, rfl, trivial⟩ (fun h_ => (show WS _ _ (sl s45 23 1 (vs45.reverse.map fun x => [x]) :: box g2 29 (cDv v u x fi) :: rd v 4 (ts.map cCp) :: rd u 4 (ls.map cLd) :: rd z 5 (xs.map cLg) :: rlR 56 ts ls xs fi.toNat vs45) _ from h_.pk (by repeat (first | with_reducible exact pk_nil | refine pk_box rfl ?_ | refine pk_rd rfl ?_ | refine pk_sl rfl ?_ | with_reducible refine pk_app ?_ | with_reducible refine pk_app0 ?_ | with_reducible refine pk_app0L ?_ | with_reducible exact pk_tl | refine pk_var ?_))))⟩
        · skip
          (rintro ⟨⟨s5, vs⟩, hvl⟩; dsimp only at hvl ⊢)
          refine L_then ?_
          refine C_seq ?_
          refine C_region ?_
          refine L_q rfl rfl rfl (q_field tb rfl rfl rfl) ?_
          refine L_q rfl rfl rfl (q_load tb rfl rfl bxo rfl) ?_
          refine L_q rfl rfl rfl (q_field tb rfl rfl rfl) ?_
          refine L_q rfl rfl rfl (q_load tb rfl rfl bxo rfl) ?_
          refine L_call tb rfl rfl (ct_shotlineref03_CheckLoads v u ts ls (by omega)) (ps_cons (by first | exact gvo | exact gvd gvo (by omega)) (ps_cons (by first | exact gvo | exact gvd gvo (by omega)) no_ps)) rfl ?_
          refine L_q rfl rfl rfl (q_assign rfl) ?_
          refine L_then ?_
          refine C_cut (ι := Unit) (fun _p => ([(1, z), (2, .pointer (some ⟨g2, 0, none⟩)), (5, s5), (6, .int .i64 ((folC ts ls xs fi))), (7, .int .i64 ((folC1 ts ls xs)))], (sl s5 23 1 (vs.reverse.map fun x => [x]) :: box g2 29 (cDv v u x fi) :: rd v 4 (ts.map cCp) :: rd u 4 (ls.map cLd) :: rd z 5 (xs.map cLg) :: rlR 56 ts ls xs fi.toNat vs))) (fun _p => True) ?_ ?_
          · -- ahead
            refine C_seq ?_
            refine C_region ?_
            refine L_q rfl rfl rfl (q_move rfl) ?_
            refine L_q rfl rfl rfl (q_eql rfl rfl) ?_
            refine L_q rfl rfl rfl (q_move rfl) ?_
            refine L_dec (d := 55) rfl (fun h29 => ?_) (fun h29 => ?_)
            · -- t55 True
              refine L_qg rfl rfl rfl rfl rfl rfl rfl (q_move rfl) ?_
              refine L_qg rfl rfl rfl rfl rfl rfl rfl (q_len tb rfl rfl (by first | exact gvo | exact gvd gvo (by omega))) ?_
              refine L_qg rfl rfl rfl rfl rfl rfl rfl (q_gtr rfl rfl) ?_
              refine L_q rfl rfl rfl (by first | exact q_pickT rfl rfl | exact q_pickF rfl rfl) ?_
              refine L_then ?_
              refine C_dec rfl (fun h30 => ?_) (fun h30 => ?_)
              · -- t59 True
                refine C_region ?_
                refine L_q rfl rfl rfl (q_assign rfl) ?_
                refine L_end ?_
                exact fun ac_ wo_ hs_ => ⟨(), trivial, hs_.weak ⟨rfl, rfl, rfl, rfl, en (by unfold folC1; split <;> omega), trivial⟩ (fun h => h.pk (by repeat (first | with_reducible exact pk_nil | refine pk_box rfl ?_ | refine pk_rd rfl ?_ | refine pk_sl rfl ?_ | with_reducible refine pk_app ?_ | with_reducible refine pk_app0 ?_ | with_reducible refine pk_app0L ?_ | with_reducible exact pk_tl | refine pk_var ?_)))⟩
              · -- t59 False
                refine C_skip ?_
                exact fun ac_ wo_ hs_ => ⟨(), trivial, hs_.weak ⟨rfl, rfl, rfl, rfl, en (by unfold folC1; split <;> omega), trivial⟩ (fun h => h.pk (by repeat (first | with_reducible exact pk_nil | refine pk_box rfl ?_ | refine pk_rd rfl ?_ | refine pk_sl rfl ?_ | with_reducible refine pk_app ?_ | with_reducible refine pk_app0 ?_ | with_reducible refine pk_app0L ?_ | with_reducible exact pk_tl | refine pk_var ?_)))⟩
            · -- t55 False
              refine L_skip rfl rfl rfl rfl rfl rfl rfl ?_
              refine L_skip rfl rfl rfl rfl rfl rfl rfl ?_
              refine L_skip rfl rfl rfl rfl rfl rfl rfl ?_
              refine L_q rfl rfl rfl (by first | exact q_pickT rfl rfl | exact q_pickF rfl rfl) ?_
              refine L_then ?_
              refine C_false rfl ?_
              refine C_skip ?_
              exact fun ac_ wo_ hs_ => ⟨(), trivial, hs_.weak ⟨rfl, rfl, rfl, rfl, en (by unfold folC1; split <;> omega), trivial⟩ (fun h => h.pk (by repeat (first | with_reducible exact pk_nil | refine pk_box rfl ?_ | refine pk_rd rfl ?_ | refine pk_sl rfl ?_ | with_reducible refine pk_app ?_ | with_reducible refine pk_app0 ?_ | with_reducible refine pk_app0L ?_ | with_reducible exact pk_tl | refine pk_var ?_)))⟩
          · -- behind
            intro _ _
            refine C_seq ?_
            refine C_seq ?_
            refine C_region ?_
            refine L_q rfl rfl rfl (q_assign rfl) ?_
            refine L_then ?_
            refine C_block ?_
            refine C_loop (ι := Nat × Int) (fun p => ([(1, z), (2, .pointer (some ⟨g2, 0, none⟩)), (5, s5), (6, .int .i64 ((folC ts ls xs fi))), (7, .int .i64 p.2), (8, .int .i64 (p.1 : Int))], (sl s5 23 1 (vs.reverse.map fun x => [x]) :: box g2 29 (cDv v u x fi) :: rd v 4 (ts.map cCp) :: rd u 4 (ls.map cLd) :: rd z 5 (xs.map cLg) :: rlR 56 ts ls xs fi.toNat vs))) (fun p => p.1 ≤ xs.length ∧ (if p.2 ≠ 0 then p.2 else ckLgs (xs.drop p.1)) = folC2 ts ls xs) (fun p => xs.length - p.1) (0, folC1 ts ls xs) ⟨Nat.zero_le _, rfl⟩ (fun a w hs => hs.weak ⟨rfl, rfl, rfl, rfl, rfl, rfl, trivial⟩ (fun h => h.pk (by repeat (first | with_reducible exact pk_nil | refine pk_box rfl ?_ | refine pk_rd rfl ?_ | refine pk_sl rfl ?_ | with_reducible refine pk_app ?_ | with_reducible refine pk_app0 ?_ | with_reducible refine pk_app0L ?_ | with_reducible exact pk_tl | refine pk_var ?_)))) ?_
            rintro ⟨k, c⟩ ⟨hk, hf⟩
            dsimp only at hk hf ⊢
            refine C_seq ?_
            refine C_seq ?_
            refine C_region ?_
            refine L_q rfl rfl rfl (q_move rfl) ?_
            refine L_q rfl rfl rfl (q_move rfl) ?_
            refine L_q rfl rfl rfl (q_len tb rfl rfl (by first | exact gvo | exact gvd gvo (by omega))) ?_
            refine L_q rfl rfl rfl (q_lss rfl rfl) ?_
            refine L_q rfl rfl rfl (q_move rfl) ?_
            refine L_dec (d := 64) rfl (fun h32 => ?_) (fun h32 => ?_)
            · -- t64 True
              refine L_qg rfl rfl rfl rfl rfl rfl rfl (q_move rfl) ?_
              refine L_qg rfl rfl rfl rfl rfl rfl rfl (q_eql rfl rfl) ?_
              refine L_q rfl rfl rfl (by first | exact q_pickT rfl rfl | exact q_pickF rfl rfl) ?_
              refine L_then ?_
              refine C_dec rfl (fun h33 => ?_) (fun h33 => ?_)
              · -- t67 True
                obtain ⟨y, he⟩ := get_some xs (k := k) (by omega); have hel := map_get cLg he
                refine C_skip_then ?_
                refine C_seq ?_
                refine C_block ?_
                refine C_region ?_
                refine L_q rfl rfl rfl (q_move rfl) ?_
                refine L_q rfl rfl rfl (q_move rfl) ?_
                refine L_q rfl rfl rfl (by first | exact q_index tb rfl rfl rfl rfl (by first | exact gvo | exact gvd gvo (by omega)) (by omega) (by first | omega | (simp; done) | (simp; omega)) | exact q_indexP tb rfl rfl rfl rfl (by omega) (by omega)) ?_
                refine L_q rfl rfl rfl (q_loadEA tb rfl rfl (by first | exact gvo | exact gvd gvo (by omega)) (i := k) (o := 0) (by omega) hel rfl rfl) ?_
                refine L_call tb rfl rfl (ct_shotlineref03_CheckLeg y) no_ps rfl ?_
                refine L_q rfl rfl rfl (q_assign rfl) ?_
                refine L_blk ?_
                refine C_region ?_
                refine L_q rfl rfl rfl (q_move rfl) ?_
                refine L_q rfl rfl rfl (q_add rfl rfl (by first | exact IntWalk.i64_in _ (by omega) | rfl)) ?_
                refine L_q rfl rfl rfl (q_assign rfl) ?_
                refine L_end ?_
                exact fun ac_ wo_ hs_ => ⟨(k + 1, ckLeg y), ⟨by dsimp only; omega, folL_step he (by omega) hf⟩, (by dsimp only; omega), hs_.weak ⟨rfl, rfl, rfl, rfl, rfl, rfl, trivial⟩ (fun h => h.pk (by repeat (first | with_reducible exact pk_nil | refine pk_box rfl ?_ | refine pk_rd rfl ?_ | refine pk_sl rfl ?_ | with_reducible refine pk_app ?_ | with_reducible refine pk_app0 ?_ | with_reducible refine pk_app0L ?_ | with_reducible exact pk_tl | refine pk_var ?_)))⟩
              · -- t67 False
                have hc2 : c = folC2 ts ls xs := folL_end (by omega) hf
                subst hc2
                refine C_exit ?_
                change C Try.prog _ _ _ _ _ _ _
                refine C_cut (ι := Unit) (fun _p => ([(1, z), (2, .pointer (some ⟨g2, 0, none⟩)), (5, s5), (6, .int .i64 ((folC ts ls xs fi))), (7, .int .i64 ((folC ts ls xs fi)))], (sl s5 23 1 (vs.reverse.map fun x => [x]) :: box g2 29 (cDv v u x fi) :: rd v 4 (ts.map cCp) :: rd u 4 (ls.map cLd) :: rd z 5 (xs.map cLg) :: rlR 56 ts ls xs fi.toNat vs))) (fun _p => True) ?_ ?_
                · -- ahead
                  refine C_seq ?_
                  refine C_region ?_
                  refine L_q rfl rfl rfl (q_move rfl) ?_
                  refine L_q rfl rfl rfl (q_eql rfl rfl) ?_
                  refine L_q rfl rfl rfl (q_move rfl) ?_
                  refine L_dec (d := 77) rfl (fun h34 => ?_) (fun h34 => ?_)
                  · -- t77 True
                    refine L_qg rfl rfl rfl rfl rfl rfl rfl (q_field tb rfl rfl rfl) ?_
                    refine L_qg rfl rfl rfl rfl rfl rfl rfl (q_load tb rfl rfl bxo rfl) ?_
                    refine L_callg tb rfl rfl rfl rfl rfl rfl (ct_shotlineref03_IsFine fi) no_ps rfl ?_
                    refine L_qg rfl rfl rfl rfl rfl rfl rfl (q_not rfl (by first | exact (rfl : (!true) = false) | exact (rfl : (!false) = true) | exact decide_not.symm | rfl)) ?_
                    refine L_q rfl rfl rfl (by first | exact q_pickT rfl rfl | exact q_pickF rfl rfl) ?_
                    refine L_then ?_
                    refine C_dec rfl (fun h35 => ?_) (fun h35 => ?_)
                    · -- t82 True
                      refine C_region ?_
                      refine L_q rfl rfl rfl (q_assign rfl) ?_
                      refine L_end ?_
                      exact fun ac_ wo_ hs_ => ⟨(), trivial, hs_.weak ⟨rfl, rfl, rfl, rfl, en (by have h9 := folC_eq (ts := ts) (ls := ls) (xs := xs) (fi := fi); rw [if_pos (by omega)] at h9; omega), trivial⟩ (fun h => h.pk (by repeat (first | with_reducible exact pk_nil | refine pk_box rfl ?_ | refine pk_rd rfl ?_ | refine pk_sl rfl ?_ | with_reducible refine pk_app ?_ | with_reducible refine pk_app0 ?_ | with_reducible refine pk_app0L ?_ | with_reducible exact pk_tl | refine pk_var ?_)))⟩
                    · -- t82 False
                      refine C_skip ?_
                      exact fun ac_ wo_ hs_ => ⟨(), trivial, hs_.weak ⟨rfl, rfl, rfl, rfl, en (by have h9 := folC_eq (ts := ts) (ls := ls) (xs := xs) (fi := fi); rw [if_neg (by omega)] at h9; omega), trivial⟩ (fun h => h.pk (by repeat (first | with_reducible exact pk_nil | refine pk_box rfl ?_ | refine pk_rd rfl ?_ | refine pk_sl rfl ?_ | with_reducible refine pk_app ?_ | with_reducible refine pk_app0 ?_ | with_reducible refine pk_app0L ?_ | with_reducible exact pk_tl | refine pk_var ?_)))⟩
                  · -- t77 False
                    refine L_skip rfl rfl rfl rfl rfl rfl rfl ?_
                    refine L_skip rfl rfl rfl rfl rfl rfl rfl ?_
                    refine L_skip rfl rfl rfl rfl rfl rfl rfl ?_
                    refine L_skip rfl rfl rfl rfl rfl rfl rfl ?_
                    refine L_q rfl rfl rfl (by first | exact q_pickT rfl rfl | exact q_pickF rfl rfl) ?_
                    refine L_then ?_
                    refine C_false rfl ?_
                    refine C_skip ?_
                    exact fun ac_ wo_ hs_ => ⟨(), trivial, hs_.weak ⟨rfl, rfl, rfl, rfl, en (by have h9 := folC_eq (ts := ts) (ls := ls) (xs := xs) (fi := fi); rw [if_neg (by omega)] at h9; omega), trivial⟩ (fun h => h.pk (by repeat (first | with_reducible exact pk_nil | refine pk_box rfl ?_ | refine pk_rd rfl ?_ | refine pk_sl rfl ?_ | with_reducible refine pk_app ?_ | with_reducible refine pk_app0 ?_ | with_reducible refine pk_app0L ?_ | with_reducible exact pk_tl | refine pk_var ?_)))⟩
                · -- behind
                  intro _ _
                  refine C_seq ?_
                  refine C_seq ?_
                  refine C_region ?_
                  refine L_q rfl rfl rfl (q_move rfl) ?_
                  refine L_q rfl rfl rfl (q_neq rfl rfl) ?_
                  refine L_then ?_
                  refine C_dec rfl (fun hc => ?_) (fun hc => ?_)
                  · -- t84 True
                    rw [if_neg hc] at hvl
                    obtain rfl := List.eq_nil_of_length_eq_zero hvl
                    refine C_seq ?_
                    refine C_region ?_
                    refine L_q rfl rfl rfl (q_move rfl) ?_
                    refine L_q rfl rfl rfl (q_move rfl) ?_
                    refine L_q rfl rfl rfl (q_true (q_eql rfl rfl) (decide_eq_true rfl)) ?_
                    refine L_q rfl rfl rfl (q_move rfl) ?_
                    refine L_qg rfl rfl rfl rfl rfl rfl rfl (q_move rfl) ?_
                    refine L_qg rfl rfl rfl rfl rfl rfl rfl (q_len tb rfl rfl (by first | exact gvo | exact gvd gvo (by omega))) ?_
                    refine L_qg rfl rfl rfl rfl rfl rfl rfl (q_true (q_eql rfl rfl) (decide_eq_true rfl)) ?_
                    refine L_q rfl rfl rfl (by first | exact q_pickT rfl rfl | exact q_pickF rfl rfl) ?_
                    refine L_q rfl rfl rfl (q_assign rfl) ?_
                    refine L_then ?_
                    refine C_ret ?_
                    exact ret_of (res1 rfl rfl) sub_nil (by intro r hr; cases hr) ⟨rfl, rfl⟩
                  · -- t84 False
                    have hz := Decidable.not_not.1 hc
                    rw [if_pos hz] at hvl
                    have hO := folC_ok hz; have hok := hO.k; have hob := hok.b; have hof := hO.f; have hol := hO.l
                    obtain ⟨n, rfl⟩ := Int.eq_ofNat_of_zero_le hof.1
                    rw [show ((n : Int)).toNat = n from rfl]
                    refine C_skip_then ?_
                    refine C_seq ?_
                    refine C_seq ?_
                    refine C_region ?_
                    refine L_q rfl rfl rfl (q_move rfl) ?_
                    refine L_q rfl rfl rfl (q_false (q_neq rfl rfl) (decide_eq_false fun h => h hz)) ?_
                    refine L_q rfl rfl rfl (q_move rfl) ?_
                    refine L_qg rfl rfl rfl rfl rfl rfl rfl (q_move rfl) ?_
                    refine L_qg rfl rfl rfl rfl rfl rfl rfl (q_len tb rfl rfl (by first | exact gvo | exact gvd gvo (by omega))) ?_
                    refine L_qg rfl rfl rfl rfl rfl rfl rfl (q_move rfl) ?_
                    refine L_qg rfl rfl rfl rfl rfl rfl rfl (q_len tb rfl rfl (by first | exact gvo | exact gvd gvo (by omega))) ?_
                    refine L_qg rfl rfl rfl rfl rfl rfl rfl (q_false (q_neq rfl rfl) (decide_eq_false fun h => h (by rw [List.length_map, List.length_map, List.length_reverse, hvl]))) ?_
                    refine L_q rfl rfl rfl (by first | exact q_pickT rfl rfl | exact q_pickF rfl rfl) ?_
                    refine L_then ?_
                    refine C_false rfl ?_
                    refine C_skip_then ?_
                    refine C_seq ?_
                    refine C_region ?_
                    refine L_q rfl rfl rfl (q_field tb rfl rfl rfl) ?_
                    refine L_q rfl rfl rfl (q_load tb rfl rfl bxo rfl) ?_
                    refine L_q rfl rfl rfl (q_assign rfl) ?_
                    refine L_then ?_
                    refine C_seq ?_
                    refine C_seq ?_
                    refine C_region ?_
                    refine L_q rfl rfl rfl (q_assign rfl) ?_
                    refine L_then ?_
                    refine C_block ?_
                    refine C_res (fun _ hw => hw.dup (k := rd u 4 (ls.map cLd)) m3 (rd_own _ _ _)) ?_
                    refine C_loop (ι := Nat × Value) (fun p => ([(1, z), (2, .pointer (some ⟨g2, 0, none⟩)), (5, s5), (9, p.2), (10, .int .i64 (p.1 : Int))], (rd p.2 4 ((folM ts ls xs n p.1).map cLd) :: sl s5 23 1 (vs.reverse.map fun x => [x]) :: box g2 29 (cDv v u x (n : Int)) :: rd v 4 (ts.map cCp) :: rd u 4 (ls.map cLd) :: rd z 5 (xs.map cLg) :: rlR 56 ts ls xs n vs))) (fun p => p.1 ≤ xs.length) (fun p => xs.length - p.1) (0, u) (Nat.zero_le _) (fun a w hs => hs.weak ⟨rfl, rfl, rfl, rfl, rfl, trivial⟩ (fun h => h)) ?_
                    rintro ⟨k, lv⟩ hk
                    dsimp only at hk ⊢
                    refine C_seq ?_
                    refine C_seq ?_
                    refine C_region ?_
                    refine L_q rfl rfl rfl (q_move rfl) ?_
                    refine L_q rfl rfl rfl (q_move rfl) ?_
                    refine L_q rfl rfl rfl (q_len tb rfl rfl (by first | exact gvo | exact gvd gvo (by omega))) ?_
                    refine L_q rfl rfl rfl (q_lss rfl rfl) ?_
                    refine L_then ?_
                    refine C_dec rfl (fun h39 => ?_) (fun h39 => ?_)
                    · -- t107 True
                      obtain ⟨y, he⟩ := get_some xs (k := k) (by omega); have hel := map_get cLg he; have hyx := (ckLeg_ok (ckLgs_ok hO.c y (List.mem_of_getElem? he))).1; have hF := folM_ok hok hO.c (show n ≤ 6 by omega) k; have hF1 := folM_ok hok hO.c (show n ≤ 6 by omega) (k + 1); have hE := folM_E hok hO.c (show n ≤ 6 by omega) he
                      obtain ⟨v9, hv9⟩ := rev_get hvl (show k < xs.length by omega)
                      have hel9 : (vs.reverse.map fun x => [x])[k]? = some [v9] := map_get _ hv9
                      have gvm := gv_rl (ts := ts) (ls := ls) (xs := xs) (f := n) (u := 56) hv9
                      refine C_skip_then ?_
                      refine C_seq ?_
                      refine C_block ?_
                      refine C_seq ?_
                      refine C_draw (n := 17) [(0, false), (1, false), (3, false), (5, false), (6, false), (7, false), (8, false), (9, false), (10, false), (2, true), (4, true), (11, true), (12, false), (13, false), (14, false), (15, false), (16, false)] mixed (by kernel_rfl) ?_
                      refine W_q rfl rfl rfl rfl (q_field tb rfl rfl rfl) ?_
                      refine W_q rfl rfl rfl rfl (q_load tb rfl rfl bxo rfl) ?_
                      refine W_q rfl rfl rfl rfl (q_move rfl) ?_
                      refine W_q rfl rfl rfl rfl (q_move rfl) ?_
                      refine W_q rfl rfl rfl rfl (q_move rfl) ?_
                      refine W_q rfl rfl rfl rfl (by first | exact q_index tb rfl rfl rfl rfl (by first | exact gvo | exact gvd gvo (by omega)) (by omega) (by first | omega | (simp; done) | (simp; omega)) | exact q_indexP tb rfl rfl rfl rfl (by omega) (by omega)) ?_
                      refine W_q rfl rfl rfl rfl (q_loadEA tb rfl rfl (by first | exact gvo | exact gvd gvo (by omega)) (i := k) (o := 0) (by omega) hel rfl rfl) ?_
                      refine W_q rfl rfl rfl rfl (q_field tb rfl rfl rfl) ?_
                      refine W_q rfl rfl rfl rfl (q_load tb rfl rfl bxo rfl) ?_
                      refine W_callS tb rfl rfl rfl rfl (ct_shotlinelaw03_table v ts (by omega)) (ps_cons (by first | exact gvo | exact gvd gvo (by omega)) no_ps) rfl fun v113 => ?_
                      refine W_callS tb rfl rfl rfl rfl (ct_shotlinelaw03_loads lv (folM ts ls xs n k) (by have := hF.len; omega)) (ps_cons (by first | exact gvo | exact gvd gvo (by omega)) no_ps) rfl fun v115 => ?_
                      refine W_callSN tb rfl rfl rfl rfl (ct_tissue_Loaded _ _ y n ts (folM ts ls xs n k) (by omega) (by have := hF.len; omega)) (ps_cons (by first | exact gvo | exact gvd gvo (by omega)) (ps_cons (by first | exact gvo | exact gvd gvo (by omega)) no_ps)) rfl fun v122 => ?_
                      refine W_q rfl rfl rfl rfl (q_move rfl) ?_
                      refine W_q rfl rfl rfl rfl (q_ext0 rfl) ?_
                      refine W_q rfl rfl rfl rfl (q_ext1 rfl) ?_
                      refine W_q rfl rfl rfl rfl (q_assign rfl) ?_
                      refine W_q rfl rfl rfl rfl (q_assign rfl) ?_
                      refine W_nil ?_
                      refine L_then ?_
                      refine C_seq ?_
                      refine C_seq ?_
                      rw [hE]; dsimp only
                      refine C_draw (n := 26) [(0, false), (1, false), (2, false), (3, false), (4, false), (5, false), (6, false), (7, false), (8, true), (9, false), (10, false), (11, false), (12, false), (13, false), (14, false), (15, false), (16, false), (17, false), (18, false), (19, false), (20, false), (21, false), (22, true), (23, true), (24, false), (25, false)] mixed (by kernel_rfl) ?_
                      refine W_q rfl rfl rfl rfl (q_move rfl) ?_
                      refine W_q rfl rfl rfl rfl (q_false (q_neq rfl rfl) (decide_eq_false fun h => h rfl)) ?_
                      refine W_q rfl rfl rfl rfl (q_move rfl) ?_
                      refine W_qg rfl rfl rfl rfl rfl rfl rfl rfl (q_move rfl) ?_
                      refine W_qg rfl rfl rfl rfl rfl rfl rfl rfl (q_move rfl) ?_
                      refine W_qg rfl rfl rfl rfl rfl rfl rfl rfl (q_move rfl) ?_
                      refine W_qg rfl rfl rfl rfl rfl rfl rfl rfl (by first | exact q_index tb rfl rfl rfl rfl (by first | exact gvo | exact gvd gvo (by omega)) (by omega) (by first | omega | (simp; done) | (simp; omega)) | exact q_indexP tb rfl rfl rfl rfl (by omega) (by omega)) ?_
                      refine W_qg rfl rfl rfl rfl rfl rfl rfl rfl (q_loadE tb rfl rfl (by first | exact gvo | exact gvd gvo (by omega)) (i := k) (o := 0) (by omega) hel9 rfl) ?_
                      refine W_callg tb rfl rfl rfl rfl rfl rfl rfl rfl (ct_shotlineref03_Same _ _ (folM ts ls xs n (k + 1)) (by have := hF1.len; omega)) (ps_cons (by first | exact gvo | exact gs0 | exact gv1 gs0 | exact gv1 (gv1 gs0) | exact gv1 (gv1 (gv1 gs0))) (ps_cons (by first | exact gvm | exact gv1 gvm | exact gv1 (gv1 gvm) | exact gv1 (gv1 (gv1 gvm)) | exact gv1 (gv1 (gv1 (gv1 gvm))) | exact gv1 (gv1 (gv1 (gv1 (gv1 gvm)))) | exact gv1 (gv1 (gv1 (gv1 (gv1 (gv1 gvm))))) | exact gv1 (gv1 (gv1 (gv1 (gv1 (gv1 (gv1 gvm)))))) | exact gv1 (gv1 (gv1 (gv1 (gv1 (gv1 (gv1 (gv1 gvm))))))) | exact gv1 (gv1 (gv1 (gv1 (gv1 (gv1 (gv1 (gv1 (gv1 gvm)))))))) | exact gv1 (gv1 (gv1 (gv1 (gv1 (gv1 (gv1 (gv1 (gv1 (gv1 gvm))))))))) | exact gv1 (gv1 (gv1 (gv1 (gv1 (gv1 (gv1 (gv1 (gv1 (gv1 (gv1 gvm)))))))))) | exact gv1 (gv1 (gv1 (gv1 (gv1 (gv1 (gv1 (gv1 (gv1 (gv1 (gv1 (gv1 gvm))))))))))) | exact gv1 (gv1 (gv1 (gv1 (gv1 (gv1 (gv1 (gv1 (gv1 (gv1 (gv1 (gv1 (gv1 gvm))))))))))))) no_ps)) rfl ?_
                      refine W_qg rfl rfl rfl rfl rfl rfl rfl rfl (q_not rfl (by first | exact (rfl : (!true) = false) | exact (rfl : (!false) = true) | exact decide_not.symm | rfl)) ?_
                      refine W_q rfl rfl rfl rfl (by first | exact q_pickT rfl rfl | exact q_pickF rfl rfl) ?_
                      refine W_q rfl rfl rfl rfl (q_move rfl) ?_
                      refine W_qg rfl rfl rfl rfl rfl rfl rfl rfl (q_move rfl) ?_
                      refine W_qg rfl rfl rfl rfl rfl rfl rfl rfl (q_field tb rfl rfl rfl) ?_
                      refine W_qg rfl rfl rfl rfl rfl rfl rfl rfl (q_load tb rfl rfl bxo rfl) ?_
                      refine W_qg rfl rfl rfl rfl rfl rfl rfl rfl (q_move rfl) ?_
                      refine W_qg rfl rfl rfl rfl rfl rfl rfl rfl (q_move rfl) ?_
                      refine W_qg rfl rfl rfl rfl rfl rfl rfl rfl (q_move rfl) ?_
                      refine W_qg rfl rfl rfl rfl rfl rfl rfl rfl (by first | exact q_index tb rfl rfl rfl rfl (by first | exact gvo | exact gvd gvo (by omega)) (by omega) (by first | omega | (simp; done) | (simp; omega)) | exact q_indexP tb rfl rfl rfl rfl (by omega) (by omega)) ?_
                      refine W_qg rfl rfl rfl rfl rfl rfl rfl rfl (q_loadEA tb rfl rfl (by first | exact gvo | exact gvd gvo (by omega)) (i := k) (o := 0) (by omega) hel rfl rfl) ?_
                      refine W_qg rfl rfl rfl rfl rfl rfl rfl rfl (q_field tb rfl rfl rfl) ?_
                      refine W_qg rfl rfl rfl rfl rfl rfl rfl rfl (q_load tb rfl rfl bxo rfl) ?_
                      refine W_log rfl rfl rfl rfl rfl rfl rfl rfl (lo_call tb rfl rfl (ct_shotlineref03_Loaded v lv y n ts (folM ts ls xs n k) (by omega) hyx hF.len (by omega) hF.c hF.x) (ps_cons (by first | exact gvo | exact gvd gvo (by omega)) (ps_cons (by first | exact gvo | exact gvd gvo (by omega)) no_ps)) isSl_sinks) ?_
                      intro v147 rs_ hr_; unfold isSl at hr_; subst hr_
                      refine W_callg tb rfl rfl rfl rfl rfl rfl rfl rfl (ct_shotlineref03_Same _ _ (folM ts ls xs n (k + 1)) (by have := hF1.len; omega)) (ps_cons (by first | exact gvo | exact gs0 | exact gv1 gs0 | exact gv1 (gv1 gs0) | exact gv1 (gv1 (gv1 gs0))) (ps_cons (by rw [folM_step he]; first | exact gvo | exact gs0 | exact gv1 gs0) no_ps)) rfl ?_
                      refine W_qg rfl rfl rfl rfl rfl rfl rfl rfl (q_not rfl (by first | exact (rfl : (!true) = false) | exact (rfl : (!false) = true) | exact decide_not.symm | rfl)) ?_
                      refine W_q rfl rfl rfl rfl (by first | exact q_pickT rfl rfl | exact q_pickF rfl rfl) ?_
                      refine W_nil ?_
                      refine L_then ?_
                      refine C_false rfl ?_
                      refine C_skip_then ?_
                      refine C_region ?_
                      refine L_q rfl rfl rfl (q_move rfl) ?_
                      refine L_q rfl rfl rfl (q_assign rfl) ?_
                      refine L_blk ?_
                      refine C_region ?_
                      refine L_q rfl rfl rfl (q_move rfl) ?_
                      refine L_q rfl rfl rfl (q_add rfl rfl (by first | exact IntWalk.i64_in _ (by omega) | rfl)) ?_
                      refine L_q rfl rfl rfl (q_assign rfl) ?_
                      refine L_end ?_
                      exact fun ac_ wo_ hs_ => ⟨(k + 1, v122), (by dsimp only; omega), (by dsimp only; omega), hs_.weak ⟨rfl, rfl, rfl, rfl, rfl, trivial⟩ (fun h_ => sl_to_rd (h_.pk (by repeat (first | with_reducible exact pk_nil | refine pk_box rfl ?_ | refine pk_rd rfl ?_ | refine pk_sl rfl ?_ | with_reducible refine pk_app ?_ | with_reducible refine pk_app0 ?_ | with_reducible refine pk_app0L ?_ | with_reducible exact pk_tl | refine pk_var ?_))))⟩
                    · -- t107 False
                      refine C_exit ?_
                      change C Try.prog _ _ _ _ _ _ _
                      refine C_seq ?_
                      refine C_region ?_
                      refine L_q rfl rfl rfl (q_assign rfl) ?_
                      refine L_then ?_
                      refine C_ret ?_
                      exact ret_of (res1 rfl rfl) sub_nil (by intro r hr; cases hr) ⟨rfl, rfl⟩
            · -- t64 False
              refine L_skip rfl rfl rfl rfl rfl rfl rfl ?_
              refine L_skip rfl rfl rfl rfl rfl rfl rfl ?_
              refine L_q rfl rfl rfl (by first | exact q_pickT rfl rfl | exact q_pickF rfl rfl) ?_
              refine L_then ?_
              refine C_false rfl ?_
              have hc2 : c = folC2 ts ls xs := folL_end (by omega) hf
              subst hc2
              refine C_exit ?_
              change C Try.prog _ _ _ _ _ _ _
              refine C_cut (ι := Unit) (fun _p => ([(1, z), (2, .pointer (some ⟨g2, 0, none⟩)), (5, s5), (6, .int .i64 ((folC ts ls xs fi))), (7, .int .i64 ((folC ts ls xs fi)))], (sl s5 23 1 (vs.reverse.map fun x => [x]) :: box g2 29 (cDv v u x fi) :: rd v 4 (ts.map cCp) :: rd u 4 (ls.map cLd) :: rd z 5 (xs.map cLg) :: rlR 56 ts ls xs fi.toNat vs))) (fun _p => True) ?_ ?_
              · -- ahead
                refine C_seq ?_
                refine C_region ?_
                refine L_q rfl rfl rfl (q_move rfl) ?_
                refine L_q rfl rfl rfl (q_eql rfl rfl) ?_
                refine L_q rfl rfl rfl (q_move rfl) ?_
                refine L_dec (d := 77) rfl (fun h42 => ?_) (fun h42 => ?_)
                · -- t77 True
                  refine L_qg rfl rfl rfl rfl rfl rfl rfl (q_field tb rfl rfl rfl) ?_
                  refine L_qg rfl rfl rfl rfl rfl rfl rfl (q_load tb rfl rfl bxo rfl) ?_
                  refine L_callg tb rfl rfl rfl rfl rfl rfl (ct_shotlineref03_IsFine fi) no_ps rfl ?_
                  refine L_qg rfl rfl rfl rfl rfl rfl rfl (q_not rfl (by first | exact (rfl : (!true) = false) | exact (rfl : (!false) = true) | exact decide_not.symm | rfl)) ?_
                  refine L_q rfl rfl rfl (by first | exact q_pickT rfl rfl | exact q_pickF rfl rfl) ?_
                  refine L_then ?_
                  refine C_dec rfl (fun h43 => ?_) (fun h43 => ?_)
                  · -- t82 True
                    refine C_region ?_
                    refine L_q rfl rfl rfl (q_assign rfl) ?_
                    refine L_end ?_
                    exact fun ac_ wo_ hs_ => ⟨(), trivial, hs_.weak ⟨rfl, rfl, rfl, rfl, en (by have h9 := folC_eq (ts := ts) (ls := ls) (xs := xs) (fi := fi); rw [if_pos (by omega)] at h9; omega), trivial⟩ (fun h => h.pk (by repeat (first | with_reducible exact pk_nil | refine pk_box rfl ?_ | refine pk_rd rfl ?_ | refine pk_sl rfl ?_ | with_reducible refine pk_app ?_ | with_reducible refine pk_app0 ?_ | with_reducible refine pk_app0L ?_ | with_reducible exact pk_tl | refine pk_var ?_)))⟩
                  · -- t82 False
                    refine C_skip ?_
                    exact fun ac_ wo_ hs_ => ⟨(), trivial, hs_.weak ⟨rfl, rfl, rfl, rfl, en (by have h9 := folC_eq (ts := ts) (ls := ls) (xs := xs) (fi := fi); rw [if_neg (by omega)] at h9; omega), trivial⟩ (fun h => h.pk (by repeat (first | with_reducible exact pk_nil | refine pk_box rfl ?_ | refine pk_rd rfl ?_ | refine pk_sl rfl ?_ | with_reducible refine pk_app ?_ | with_reducible refine pk_app0 ?_ | with_reducible refine pk_app0L ?_ | with_reducible exact pk_tl | refine pk_var ?_)))⟩
                · -- t77 False
                  refine L_skip rfl rfl rfl rfl rfl rfl rfl ?_
                  refine L_skip rfl rfl rfl rfl rfl rfl rfl ?_
                  refine L_skip rfl rfl rfl rfl rfl rfl rfl ?_
                  refine L_skip rfl rfl rfl rfl rfl rfl rfl ?_
                  refine L_q rfl rfl rfl (by first | exact q_pickT rfl rfl | exact q_pickF rfl rfl) ?_
                  refine L_then ?_
                  refine C_false rfl ?_
                  refine C_skip ?_
                  exact fun ac_ wo_ hs_ => ⟨(), trivial, hs_.weak ⟨rfl, rfl, rfl, rfl, en (by have h9 := folC_eq (ts := ts) (ls := ls) (xs := xs) (fi := fi); rw [if_neg (by omega)] at h9; omega), trivial⟩ (fun h => h.pk (by repeat (first | with_reducible exact pk_nil | refine pk_box rfl ?_ | refine pk_rd rfl ?_ | refine pk_sl rfl ?_ | with_reducible refine pk_app ?_ | with_reducible refine pk_app0 ?_ | with_reducible refine pk_app0L ?_ | with_reducible exact pk_tl | refine pk_var ?_)))⟩
              · -- behind
                intro _ _
                refine C_seq ?_
                refine C_seq ?_
                refine C_region ?_
                refine L_q rfl rfl rfl (q_move rfl) ?_
                refine L_q rfl rfl rfl (q_neq rfl rfl) ?_
                refine L_then ?_
                refine C_dec rfl (fun hc => ?_) (fun hc => ?_)
                · -- t84 True
                  rw [if_neg hc] at hvl
                  obtain rfl := List.eq_nil_of_length_eq_zero hvl
                  refine C_seq ?_
                  refine C_region ?_
                  refine L_q rfl rfl rfl (q_move rfl) ?_
                  refine L_q rfl rfl rfl (q_move rfl) ?_
                  refine L_q rfl rfl rfl (q_true (q_eql rfl rfl) (decide_eq_true rfl)) ?_
                  refine L_q rfl rfl rfl (q_move rfl) ?_
                  refine L_qg rfl rfl rfl rfl rfl rfl rfl (q_move rfl) ?_
                  refine L_qg rfl rfl rfl rfl rfl rfl rfl (q_len tb rfl rfl (by first | exact gvo | exact gvd gvo (by omega))) ?_
                  refine L_qg rfl rfl rfl rfl rfl rfl rfl (q_true (q_eql rfl rfl) (decide_eq_true rfl)) ?_
                  refine L_q rfl rfl rfl (by first | exact q_pickT rfl rfl | exact q_pickF rfl rfl) ?_
                  refine L_q rfl rfl rfl (q_assign rfl) ?_
                  refine L_then ?_
                  refine C_ret ?_
                  exact ret_of (res1 rfl rfl) sub_nil (by intro r hr; cases hr) ⟨rfl, rfl⟩
                · -- t84 False
                  have hz := Decidable.not_not.1 hc
                  rw [if_pos hz] at hvl
                  have hO := folC_ok hz; have hok := hO.k; have hob := hok.b; have hof := hO.f; have hol := hO.l
                  obtain ⟨n, rfl⟩ := Int.eq_ofNat_of_zero_le hof.1
                  rw [show ((n : Int)).toNat = n from rfl]
                  refine C_skip_then ?_
                  refine C_seq ?_
                  refine C_seq ?_
                  refine C_region ?_
                  refine L_q rfl rfl rfl (q_move rfl) ?_
                  refine L_q rfl rfl rfl (q_false (q_neq rfl rfl) (decide_eq_false fun h => h hz)) ?_
                  refine L_q rfl rfl rfl (q_move rfl) ?_
                  refine L_qg rfl rfl rfl rfl rfl rfl rfl (q_move rfl) ?_
                  refine L_qg rfl rfl rfl rfl rfl rfl rfl (q_len tb rfl rfl (by first | exact gvo | exact gvd gvo (by omega))) ?_
                  refine L_qg rfl rfl rfl rfl rfl rfl rfl (q_move rfl) ?_
                  refine L_qg rfl rfl rfl rfl rfl rfl rfl (q_len tb rfl rfl (by first | exact gvo | exact gvd gvo (by omega))) ?_
                  refine L_qg rfl rfl rfl rfl rfl rfl rfl (q_false (q_neq rfl rfl) (decide_eq_false fun h => h (by rw [List.length_map, List.length_map, List.length_reverse, hvl]))) ?_
                  refine L_q rfl rfl rfl (by first | exact q_pickT rfl rfl | exact q_pickF rfl rfl) ?_
                  refine L_then ?_
                  refine C_false rfl ?_
                  refine C_skip_then ?_
                  refine C_seq ?_
                  refine C_region ?_
                  refine L_q rfl rfl rfl (q_field tb rfl rfl rfl) ?_
                  refine L_q rfl rfl rfl (q_load tb rfl rfl bxo rfl) ?_
                  refine L_q rfl rfl rfl (q_assign rfl) ?_
                  refine L_then ?_
                  refine C_seq ?_
                  refine C_seq ?_
                  refine C_region ?_
                  refine L_q rfl rfl rfl (q_assign rfl) ?_
                  refine L_then ?_
                  refine C_block ?_
                  refine C_res (fun _ hw => hw.dup (k := rd u 4 (ls.map cLd)) m3 (rd_own _ _ _)) ?_
                  refine C_loop (ι := Nat × Value) (fun p => ([(1, z), (2, .pointer (some ⟨g2, 0, none⟩)), (5, s5), (9, p.2), (10, .int .i64 (p.1 : Int))], (rd p.2 4 ((folM ts ls xs n p.1).map cLd) :: sl s5 23 1 (vs.reverse.map fun x => [x]) :: box g2 29 (cDv v u x (n : Int)) :: rd v 4 (ts.map cCp) :: rd u 4 (ls.map cLd) :: rd z 5 (xs.map cLg) :: rlR 56 ts ls xs n vs))) (fun p => p.1 ≤ xs.length) (fun p => xs.length - p.1) (0, u) (Nat.zero_le _) (fun a w hs => hs.weak ⟨rfl, rfl, rfl, rfl, rfl, trivial⟩ (fun h => h)) ?_
                  rintro ⟨k, lv⟩ hk
                  dsimp only at hk ⊢
                  refine C_seq ?_
                  refine C_seq ?_
                  refine C_region ?_
                  refine L_q rfl rfl rfl (q_move rfl) ?_
                  refine L_q rfl rfl rfl (q_move rfl) ?_
                  refine L_q rfl rfl rfl (q_len tb rfl rfl (by first | exact gvo | exact gvd gvo (by omega))) ?_
                  refine L_q rfl rfl rfl (q_lss rfl rfl) ?_
                  refine L_then ?_
                  refine C_dec rfl (fun h47 => ?_) (fun h47 => ?_)
                  · -- t107 True
                    obtain ⟨y, he⟩ := get_some xs (k := k) (by omega); have hel := map_get cLg he; have hyx := (ckLeg_ok (ckLgs_ok hO.c y (List.mem_of_getElem? he))).1; have hF := folM_ok hok hO.c (show n ≤ 6 by omega) k; have hF1 := folM_ok hok hO.c (show n ≤ 6 by omega) (k + 1); have hE := folM_E hok hO.c (show n ≤ 6 by omega) he
                    obtain ⟨v9, hv9⟩ := rev_get hvl (show k < xs.length by omega)
                    have hel9 : (vs.reverse.map fun x => [x])[k]? = some [v9] := map_get _ hv9
                    have gvm := gv_rl (ts := ts) (ls := ls) (xs := xs) (f := n) (u := 56) hv9
                    refine C_skip_then ?_
                    refine C_seq ?_
                    refine C_block ?_
                    refine C_seq ?_
                    refine C_draw (n := 17) [(0, false), (1, false), (3, false), (5, false), (6, false), (7, false), (8, false), (9, false), (10, false), (2, true), (4, true), (11, true), (12, false), (13, false), (14, false), (15, false), (16, false)] mixed (by kernel_rfl) ?_
                    refine W_q rfl rfl rfl rfl (q_field tb rfl rfl rfl) ?_
                    refine W_q rfl rfl rfl rfl (q_load tb rfl rfl bxo rfl) ?_
                    refine W_q rfl rfl rfl rfl (q_move rfl) ?_
                    refine W_q rfl rfl rfl rfl (q_move rfl) ?_
                    refine W_q rfl rfl rfl rfl (q_move rfl) ?_
                    refine W_q rfl rfl rfl rfl (by first | exact q_index tb rfl rfl rfl rfl (by first | exact gvo | exact gvd gvo (by omega)) (by omega) (by first | omega | (simp; done) | (simp; omega)) | exact q_indexP tb rfl rfl rfl rfl (by omega) (by omega)) ?_
                    refine W_q rfl rfl rfl rfl (q_loadEA tb rfl rfl (by first | exact gvo | exact gvd gvo (by omega)) (i := k) (o := 0) (by omega) hel rfl rfl) ?_
                    refine W_q rfl rfl rfl rfl (q_field tb rfl rfl rfl) ?_
                    refine W_q rfl rfl rfl rfl (q_load tb rfl rfl bxo rfl) ?_
                    refine W_callS tb rfl rfl rfl rfl (ct_shotlinelaw03_table v ts (by omega)) (ps_cons (by first | exact gvo | exact gvd gvo (by omega)) no_ps) rfl fun v113 => ?_
                    refine W_callS tb rfl rfl rfl rfl (ct_shotlinelaw03_loads lv (folM ts ls xs n k) (by have := hF.len; omega)) (ps_cons (by first | exact gvo | exact gvd gvo (by omega)) no_ps) rfl fun v115 => ?_
                    refine W_callSN tb rfl rfl rfl rfl (ct_tissue_Loaded _ _ y n ts (folM ts ls xs n k) (by omega) (by have := hF.len; omega)) (ps_cons (by first | exact gvo | exact gvd gvo (by omega)) (ps_cons (by first | exact gvo | exact gvd gvo (by omega)) no_ps)) rfl fun v122 => ?_
                    refine W_q rfl rfl rfl rfl (q_move rfl) ?_
                    refine W_q rfl rfl rfl rfl (q_ext0 rfl) ?_
                    refine W_q rfl rfl rfl rfl (q_ext1 rfl) ?_
                    refine W_q rfl rfl rfl rfl (q_assign rfl) ?_
                    refine W_q rfl rfl rfl rfl (q_assign rfl) ?_
                    refine W_nil ?_
                    refine L_then ?_
                    refine C_seq ?_
                    refine C_seq ?_
                    rw [hE]; dsimp only
                    refine C_draw (n := 26) [(0, false), (1, false), (2, false), (3, false), (4, false), (5, false), (6, false), (7, false), (8, true), (9, false), (10, false), (11, false), (12, false), (13, false), (14, false), (15, false), (16, false), (17, false), (18, false), (19, false), (20, false), (21, false), (22, true), (23, true), (24, false), (25, false)] mixed (by kernel_rfl) ?_
                    refine W_q rfl rfl rfl rfl (q_move rfl) ?_
                    refine W_q rfl rfl rfl rfl (q_false (q_neq rfl rfl) (decide_eq_false fun h => h rfl)) ?_
                    refine W_q rfl rfl rfl rfl (q_move rfl) ?_
                    refine W_qg rfl rfl rfl rfl rfl rfl rfl rfl (q_move rfl) ?_
                    refine W_qg rfl rfl rfl rfl rfl rfl rfl rfl (q_move rfl) ?_
                    refine W_qg rfl rfl rfl rfl rfl rfl rfl rfl (q_move rfl) ?_
                    refine W_qg rfl rfl rfl rfl rfl rfl rfl rfl (by first | exact q_index tb rfl rfl rfl rfl (by first | exact gvo | exact gvd gvo (by omega)) (by omega) (by first | omega | (simp; done) | (simp; omega)) | exact q_indexP tb rfl rfl rfl rfl (by omega) (by omega)) ?_
                    refine W_qg rfl rfl rfl rfl rfl rfl rfl rfl (q_loadE tb rfl rfl (by first | exact gvo | exact gvd gvo (by omega)) (i := k) (o := 0) (by omega) hel9 rfl) ?_
                    refine W_callg tb rfl rfl rfl rfl rfl rfl rfl rfl (ct_shotlineref03_Same _ _ (folM ts ls xs n (k + 1)) (by have := hF1.len; omega)) (ps_cons (by first | exact gvo | exact gs0 | exact gv1 gs0 | exact gv1 (gv1 gs0) | exact gv1 (gv1 (gv1 gs0))) (ps_cons (by first | exact gvm | exact gv1 gvm | exact gv1 (gv1 gvm) | exact gv1 (gv1 (gv1 gvm)) | exact gv1 (gv1 (gv1 (gv1 gvm))) | exact gv1 (gv1 (gv1 (gv1 (gv1 gvm)))) | exact gv1 (gv1 (gv1 (gv1 (gv1 (gv1 gvm))))) | exact gv1 (gv1 (gv1 (gv1 (gv1 (gv1 (gv1 gvm)))))) | exact gv1 (gv1 (gv1 (gv1 (gv1 (gv1 (gv1 (gv1 gvm))))))) | exact gv1 (gv1 (gv1 (gv1 (gv1 (gv1 (gv1 (gv1 (gv1 gvm)))))))) | exact gv1 (gv1 (gv1 (gv1 (gv1 (gv1 (gv1 (gv1 (gv1 (gv1 gvm))))))))) | exact gv1 (gv1 (gv1 (gv1 (gv1 (gv1 (gv1 (gv1 (gv1 (gv1 (gv1 gvm)))))))))) | exact gv1 (gv1 (gv1 (gv1 (gv1 (gv1 (gv1 (gv1 (gv1 (gv1 (gv1 (gv1 gvm))))))))))) | exact gv1 (gv1 (gv1 (gv1 (gv1 (gv1 (gv1 (gv1 (gv1 (gv1 (gv1 (gv1 (gv1 gvm))))))))))))) no_ps)) rfl ?_
                    refine W_qg rfl rfl rfl rfl rfl rfl rfl rfl (q_not rfl (by first | exact (rfl : (!true) = false) | exact (rfl : (!false) = true) | exact decide_not.symm | rfl)) ?_
                    refine W_q rfl rfl rfl rfl (by first | exact q_pickT rfl rfl | exact q_pickF rfl rfl) ?_
                    refine W_q rfl rfl rfl rfl (q_move rfl) ?_
                    refine W_qg rfl rfl rfl rfl rfl rfl rfl rfl (q_move rfl) ?_
                    refine W_qg rfl rfl rfl rfl rfl rfl rfl rfl (q_field tb rfl rfl rfl) ?_
                    refine W_qg rfl rfl rfl rfl rfl rfl rfl rfl (q_load tb rfl rfl bxo rfl) ?_
                    refine W_qg rfl rfl rfl rfl rfl rfl rfl rfl (q_move rfl) ?_
                    refine W_qg rfl rfl rfl rfl rfl rfl rfl rfl (q_move rfl) ?_
                    refine W_qg rfl rfl rfl rfl rfl rfl rfl rfl (q_move rfl) ?_
                    refine W_qg rfl rfl rfl rfl rfl rfl rfl rfl (by first | exact q_index tb rfl rfl rfl rfl (by first | exact gvo | exact gvd gvo (by omega)) (by omega) (by first | omega | (simp; done) | (simp; omega)) | exact q_indexP tb rfl rfl rfl rfl (by omega) (by omega)) ?_
                    refine W_qg rfl rfl rfl rfl rfl rfl rfl rfl (q_loadEA tb rfl rfl (by first | exact gvo | exact gvd gvo (by omega)) (i := k) (o := 0) (by omega) hel rfl rfl) ?_
                    refine W_qg rfl rfl rfl rfl rfl rfl rfl rfl (q_field tb rfl rfl rfl) ?_
                    refine W_qg rfl rfl rfl rfl rfl rfl rfl rfl (q_load tb rfl rfl bxo rfl) ?_
                    refine W_log rfl rfl rfl rfl rfl rfl rfl rfl (lo_call tb rfl rfl (ct_shotlineref03_Loaded v lv y n ts (folM ts ls xs n k) (by omega) hyx hF.len (by omega) hF.c hF.x) (ps_cons (by first | exact gvo | exact gvd gvo (by omega)) (ps_cons (by first | exact gvo | exact gvd gvo (by omega)) no_ps)) isSl_sinks) ?_
                    intro v147 rs_ hr_; unfold isSl at hr_; subst hr_
                    refine W_callg tb rfl rfl rfl rfl rfl rfl rfl rfl (ct_shotlineref03_Same _ _ (folM ts ls xs n (k + 1)) (by have := hF1.len; omega)) (ps_cons (by first | exact gvo | exact gs0 | exact gv1 gs0 | exact gv1 (gv1 gs0) | exact gv1 (gv1 (gv1 gs0))) (ps_cons (by rw [folM_step he]; first | exact gvo | exact gs0 | exact gv1 gs0) no_ps)) rfl ?_
                    refine W_qg rfl rfl rfl rfl rfl rfl rfl rfl (q_not rfl (by first | exact (rfl : (!true) = false) | exact (rfl : (!false) = true) | exact decide_not.symm | rfl)) ?_
                    refine W_q rfl rfl rfl rfl (by first | exact q_pickT rfl rfl | exact q_pickF rfl rfl) ?_
                    refine W_nil ?_
                    refine L_then ?_
                    refine C_false rfl ?_
                    refine C_skip_then ?_
                    refine C_region ?_
                    refine L_q rfl rfl rfl (q_move rfl) ?_
                    refine L_q rfl rfl rfl (q_assign rfl) ?_
                    refine L_blk ?_
                    refine C_region ?_
                    refine L_q rfl rfl rfl (q_move rfl) ?_
                    refine L_q rfl rfl rfl (q_add rfl rfl (by first | exact IntWalk.i64_in _ (by omega) | rfl)) ?_
                    refine L_q rfl rfl rfl (q_assign rfl) ?_
                    refine L_end ?_
                    exact fun ac_ wo_ hs_ => ⟨(k + 1, v122), (by dsimp only; omega), (by dsimp only; omega), hs_.weak ⟨rfl, rfl, rfl, rfl, rfl, trivial⟩ (fun h_ => sl_to_rd (h_.pk (by repeat (first | with_reducible exact pk_nil | refine pk_box rfl ?_ | refine pk_rd rfl ?_ | refine pk_sl rfl ?_ | with_reducible refine pk_app ?_ | with_reducible refine pk_app0 ?_ | with_reducible refine pk_app0L ?_ | with_reducible exact pk_tl | refine pk_var ?_))))⟩
                  · -- t107 False
                    refine C_exit ?_
                    change C Try.prog _ _ _ _ _ _ _
                    refine C_seq ?_
                    refine C_region ?_
                    refine L_q rfl rfl rfl (q_assign rfl) ?_
                    refine L_then ?_
                    refine C_ret ?_
                    exact ret_of (res1 rfl rfl) sub_nil (by intro r hr; cases hr) ⟨rfl, rfl⟩
end Go.Proofs.Ytecfnhgbgngpiaa
