/-
  Walks: each function named returns what its model says. Conditions: those in front of each theorem.
-/
import Derived.Test.YtacndicgpkeobaaGreatDoorUA
import Derived.Test.YtacndicgpkeobaaGreatDoorUB
import Derived.Test.YtacndicgpkeobaaGreatDoorXC
import Derived.Test.YtacndicgpkeobaaGreatDoorShBool
import Derived.Test.YtacndicgpkeobaaGreatDoorRd6
namespace Go.Proofs.YtacndicgpkeobaaGreatDoor
open Go.RowKit

set_option maxRecDepth 100000 in
set_option maxHeartbeats 4000000 in
theorem ct_shotlineref05_Print (t : Value) (r : Ru) (hz : ckRu r = 0) : Ct Tryz.prog 35 [.agg (cRu t r).toArray] [(t, 2, r.tb.map cOw)] (isV (.string (bs (prU r)))) := by
 refine Ct.of (N := 58) Tryz.func35 rfl rfl rfl fun w => ?_
 refine C_weak (E' := [(0, .agg (cRu t r).toArray)]) (rs' := [rd t 2 (r.tb.map cOw)]) ⟨rfl, trivial⟩ (fun _ h => h) ?_
 have hl1 := len_map cOw r.tb
 have H := ckRu_ok hz
 have hn20 := H.tb.n
 have e2 : lnU tOxy [r.lo, r.hi] ++ lnU tLim [r.na, r.de] = hdK r 2 := rfl
 have e3 : hdK r 2 ++ lnU tBre [r.br] = hdK r 3 := rfl
 have e4 : hdK r 3 ++ lnU tEme [r.em, r.pa, r.ac] = hdK r 4 := rfl
 have l2 := hdK_len H 2
 have l3 := hdK_len H 3
 have l4 := hdK_len H 4
 have g29 := congrArg List.length e2; rw [List.length_append] at g29
 have g39 := congrArg List.length e3; rw [List.length_append] at g39
 have g49 := congrArg List.length e4; rw [List.length_append] at g49
 refine C_seq ?_
 refine C_region ?_
 refine L_box rfl rfl rfl fun g1 => ?_
 refine Jq (q_assign rfl) ?_
 refine L_then ?_
 refine C_seq ?_
 refine Kp.C_dag0 (ι := Unit) 30 rfl (fun q => ([(1, .pointer (some ⟨g1, 0, none⟩)), (3, .string (bs (hdK r 4)))], [box g1 65 (cRu t r), rd t 2 (r.tb.map cOw)])) mixed (fun H hH => ?_) ?_
 have hS31 : ∀ (v11 : Value) (v17 : Value) (v22 : Value) (v31 : Value), H 0 #[true, true, true, true, true, true, true, true, true, true, true, true, true, true, true, true, true, true, true, true, true, true, true, true, true, true, true, true, true, true] [(1, .pointer (some ⟨g1, 0, none⟩)), (3, .string (bs (hdK r 4)))] [sl v11 3 1 ([r.lo, r.hi].map cI), sl v17 3 1 ([r.na, r.de].map cI), sl v22 3 1 ([r.br].map cI), sl v31 3 1 ([r.em, r.pa, r.ac].map cI)] := by
  intro v11 v17 v22 v31
  subst hH
  exact Kp.G_nil () (by kernel_rfl) (fun a_ w_ hs_ => hs_.weak ⟨rfl, rfl, trivial⟩ (fun h => h.pk (by repeat (first | with_reducible exact pk_nil | refine pk_box rfl ?_ | refine pk_rd rfl ?_ | refine pk_sl rfl ?_ | with_reducible refine pk_app ?_ | with_reducible refine pk_app0 ?_ | with_reducible refine pk_app0L ?_ | with_reducible exact pk_tl | refine pk_var ?_))))
 have hS30 : ∀ (v11 : Value) (v17 : Value) (v22 : Value) (v31 : Value), H 1 #[true, true, true, true, true, true, true, true, true, true, true, true, true, true, true, true, true, true, true, true, true, true, true, true, true, true, true, true, true, false] [(1, .pointer (some ⟨g1, 0, none⟩)), (33, .string (bs (hdK r 4)))] [sl v11 3 1 ([r.lo, r.hi].map cI), sl v17 3 1 ([r.na, r.de].map cI), sl v22 3 1 ([r.br].map cI), sl v31 3 1 ([r.em, r.pa, r.ac].map cI)] := by
  intro v11 v17 v22 v31
  subst hH
  refine Kp.G_s1 (k1 := 29) (by kernel_rfl) ?_
  refine Kp.Sq rfl (q_assign rfl) ?_
  exact Kp.G_weak (hS31 v11 v17 v22 v31) (by kernel_rfl) ⟨rfl, rfl, trivial⟩ (List.Perm.refl _)
 have hS29 : ∀ (v11 : Value) (v17 : Value) (v22 : Value) (v31 : Value), H 3 #[true, true, true, true, true, true, true, true, true, true, true, true, true, true, true, true, true, true, true, true, true, true, true, true, true, true, true, false, false, false] [(1, .pointer (some ⟨g1, 0, none⟩)), (24, .string (bs (hdK r 3))), (31, v31)] [sl v11 3 1 ([r.lo, r.hi].map cI), sl v17 3 1 ([r.na, r.de].map cI), sl v22 3 1 ([r.br].map cI), sl v31 3 1 ([r.em, r.pa, r.ac].map cI)] := by
  intro v11 v17 v22 v31
  subst hH
  refine Kp.G_s1 (k1 := 27) (by kernel_rfl) ?_
  refine Kp.St_call tb rfl rfl rfl rfl (ct_shotlineref05_numbers tEme _ [r.em, r.pa, r.ac] (hdN9_ok H 3) (hdN9_len r 3) (by decide)) (ps_cons gvo no_ps) rfl ?_
  refine Kp.G_q (k := 28) rfl (t_cat (a := hdK r 3) (b := lnU tEme [r.em, r.pa, r.ac]) (r := hdK r 4) rfl rfl (by omega) e4) (by kernel_rfl) ?_
  exact Kp.G_weak (hS30 v11 v17 v22 v31) (by kernel_rfl) ⟨rfl, rfl, trivial⟩ (List.Perm.refl _)
 have hS28 : ∀ (v11 : Value) (v17 : Value) (v22 : Value), H 4 #[true, true, true, true, true, true, true, true, true, true, true, true, true, true, true, true, true, true, true, true, true, true, true, true, true, true, false, false, false, false] [(1, .pointer (some ⟨g1, 0, none⟩)), (24, .string (bs (hdK r 3))), (26, .int .i64 r.em), (28, .int .i64 r.pa), (30, .int .i64 r.ac)] [sl v11 3 1 ([r.lo, r.hi].map cI), sl v17 3 1 ([r.na, r.de].map cI), sl v22 3 1 ([r.br].map cI)] := by
  intro v11 v17 v22
  subst hH
  refine Kp.G_s1 (k1 := 26) (by kernel_rfl) ?_
  refine Kp.St_mk rfl rfl rfl rfl (lo_bslice tb rfl rfl rfl (xs := ([r.em, r.pa, r.ac].map cI)) rfl rfl (by simp [cI]) rfl (by omega) rfl) fun v31 => ?_
  exact Kp.G_weak (hS29 v11 v17 v22 v31) (by kernel_rfl) ⟨rfl, rfl, rfl, trivial⟩ (perm_front (pre := [_, _, _])).symm
 have hS27 : ∀ (v11 : Value) (v17 : Value) (v22 : Value) (v31 : Value), H 5 #[true, true, true, true, true, true, true, true, true, true, true, true, true, true, true, true, true, true, false, false, true, true, true, true, true, true, true, false, false, false] [(1, .pointer (some ⟨g1, 0, none⟩)), (19, .string (bs (hdK r 2))), (22, v22), (31, v31)] [sl v11 3 1 ([r.lo, r.hi].map cI), sl v17 3 1 ([r.na, r.de].map cI), sl v22 3 1 ([r.br].map cI), sl v31 3 1 ([r.em, r.pa, r.ac].map cI)] := by
  intro v11 v17 v22 v31
  subst hH
  refine Kp.G_s1 (k1 := 18) (by kernel_rfl) ?_
  refine Kp.St_call tb rfl rfl rfl rfl (ct_shotlineref05_numbers tBre _ [r.br] (hdN9_ok H 2) (hdN9_len r 2) (by decide)) (ps_cons gvo no_ps) rfl ?_
  refine Kp.G_q (k := 19) rfl (t_cat (a := hdK r 2) (b := lnU tBre [r.br]) (r := hdK r 3) rfl rfl (by omega) e3) (by kernel_rfl) ?_
  exact Kp.G_weak (hS29 v11 v17 v22 v31) (by kernel_rfl) ⟨rfl, rfl, rfl, trivial⟩ (List.Perm.refl _)
 have hS26 : ∀ (v11 : Value) (v17 : Value) (v31 : Value), H 6 #[true, true, true, true, true, true, true, true, true, true, true, true, true, true, true, true, true, false, false, false, true, true, true, true, true, true, true, false, false, false] [(1, .pointer (some ⟨g1, 0, none⟩)), (19, .string (bs (hdK r 2))), (21, .int .i64 r.br), (31, v31)] [sl v11 3 1 ([r.lo, r.hi].map cI), sl v17 3 1 ([r.na, r.de].map cI), sl v31 3 1 ([r.em, r.pa, r.ac].map cI)] := by
  intro v11 v17 v31
  subst hH
  refine Kp.G_s1 (k1 := 17) (by kernel_rfl) ?_
  refine Kp.St_mk rfl rfl rfl rfl (lo_bslice tb rfl rfl rfl (xs := ([r.br].map cI)) rfl rfl (by simp [cI]) rfl (by omega) rfl) fun v22 => ?_
  exact Kp.G_weak (hS27 v11 v17 v22 v31) (by kernel_rfl) ⟨rfl, rfl, rfl, rfl, trivial⟩ (perm_front (pre := [_, _])).symm
 have hS25 : ∀ (v11 : Value) (v17 : Value) (v22 : Value), H 6 #[true, true, true, true, true, true, true, true, true, true, true, true, true, true, true, true, true, true, false, false, true, true, true, true, true, true, false, false, false, false] [(1, .pointer (some ⟨g1, 0, none⟩)), (19, .string (bs (hdK r 2))), (22, v22), (26, .int .i64 r.em), (28, .int .i64 r.pa), (30, .int .i64 r.ac)] [sl v11 3 1 ([r.lo, r.hi].map cI), sl v17 3 1 ([r.na, r.de].map cI), sl v22 3 1 ([r.br].map cI)] := by
  intro v11 v17 v22
  subst hH
  refine Kp.G_s2 (k1 := 18) (k2 := 26) (by kernel_rfl) ?_ ?_
  refine Kp.St_call tb rfl rfl rfl rfl (ct_shotlineref05_numbers tBre _ [r.br] (hdN9_ok H 2) (hdN9_len r 2) (by decide)) (ps_cons gvo no_ps) rfl ?_
  refine Kp.G_q (k := 19) rfl (t_cat (a := hdK r 2) (b := lnU tBre [r.br]) (r := hdK r 3) rfl rfl (by omega) e3) (by kernel_rfl) ?_
  exact Kp.G_weak (hS28 v11 v17 v22) (by kernel_rfl) ⟨rfl, rfl, rfl, rfl, rfl, trivial⟩ (List.Perm.refl _)
  refine Kp.St_mk rfl rfl rfl rfl (lo_bslice tb rfl rfl rfl (xs := ([r.em, r.pa, r.ac].map cI)) rfl rfl (by simp [cI]) rfl (by omega) rfl) fun v31 => ?_
  exact Kp.G_weak (hS27 v11 v17 v22 v31) (by kernel_rfl) ⟨rfl, rfl, rfl, rfl, trivial⟩ (perm_front (pre := [_, _, _])).symm
 have hS24 : ∀ (v11 : Value) (v17 : Value) (v22 : Value) (v31 : Value), H 7 #[true, true, true, true, true, true, true, true, true, true, true, true, true, false, false, true, true, true, false, false, true, true, true, true, true, true, true, false, false, false] [(1, .pointer (some ⟨g1, 0, none⟩)), (12, .string (bs (lnU tOxy [r.lo, r.hi]))), (17, v17), (22, v22), (31, v31)] [sl v11 3 1 ([r.lo, r.hi].map cI), sl v17 3 1 ([r.na, r.de].map cI), sl v22 3 1 ([r.br].map cI), sl v31 3 1 ([r.em, r.pa, r.ac].map cI)] := by
  intro v11 v17 v22 v31
  subst hH
  refine Kp.G_s1 (k1 := 13) (by kernel_rfl) ?_
  refine Kp.St_call tb rfl rfl rfl rfl (ct_shotlineref05_numbers tLim _ [r.na, r.de] (hdN9_ok H 1) (hdN9_len r 1) (by decide)) (ps_cons gvo no_ps) rfl ?_
  refine Kp.G_q (k := 14) rfl (t_cat (a := lnU tOxy [r.lo, r.hi]) (b := lnU tLim [r.na, r.de]) (r := hdK r 2) rfl rfl (by omega) e2) (by kernel_rfl) ?_
  exact Kp.G_weak (hS27 v11 v17 v22 v31) (by kernel_rfl) ⟨rfl, rfl, rfl, rfl, trivial⟩ (List.Perm.refl _)
 have hS23 : ∀ (v11 : Value) (v17 : Value), H 7 #[true, true, true, true, true, true, true, true, true, true, true, true, true, true, true, true, true, false, false, false, true, true, true, true, true, true, false, false, false, false] [(1, .pointer (some ⟨g1, 0, none⟩)), (19, .string (bs (hdK r 2))), (21, .int .i64 r.br), (26, .int .i64 r.em), (28, .int .i64 r.pa), (30, .int .i64 r.ac)] [sl v11 3 1 ([r.lo, r.hi].map cI), sl v17 3 1 ([r.na, r.de].map cI)] := by
  intro v11 v17
  subst hH
  refine Kp.G_s2 (k1 := 17) (k2 := 26) (by kernel_rfl) ?_ ?_
  refine Kp.St_mk rfl rfl rfl rfl (lo_bslice tb rfl rfl rfl (xs := ([r.br].map cI)) rfl rfl (by simp [cI]) rfl (by omega) rfl) fun v22 => ?_
  exact Kp.G_weak (hS25 v11 v17 v22) (by kernel_rfl) ⟨rfl, rfl, rfl, rfl, rfl, rfl, trivial⟩ (perm_front (pre := [_, _])).symm
  refine Kp.St_mk rfl rfl rfl rfl (lo_bslice tb rfl rfl rfl (xs := ([r.em, r.pa, r.ac].map cI)) rfl rfl (by simp [cI]) rfl (by omega) rfl) fun v31 => ?_
  exact Kp.G_weak (hS26 v11 v17 v31) (by kernel_rfl) ⟨rfl, rfl, rfl, rfl, trivial⟩ (perm_front (pre := [_, _])).symm
 have hS22 : ∀ (v11 : Value) (v17 : Value) (v22 : Value) (v31 : Value), H 8 #[true, true, true, true, true, true, true, false, true, true, true, true, true, false, false, true, true, true, false, false, true, true, true, true, true, true, true, false, false, false] [(1, .pointer (some ⟨g1, 0, none⟩)), (11, v11), (17, v17), (22, v22), (31, v31)] [sl v11 3 1 ([r.lo, r.hi].map cI), sl v17 3 1 ([r.na, r.de].map cI), sl v22 3 1 ([r.br].map cI), sl v31 3 1 ([r.em, r.pa, r.ac].map cI)] := by
  intro v11 v17 v22 v31
  subst hH
  refine Kp.G_s1 (k1 := 7) (by kernel_rfl) ?_
  refine Kp.St_call tb rfl rfl rfl rfl (ct_shotlineref05_numbers tOxy _ [r.lo, r.hi] (hdN9_ok H 0) (hdN9_len r 0) (by decide)) (ps_cons gvo no_ps) rfl ?_
  exact Kp.G_weak (hS24 v11 v17 v22 v31) (by kernel_rfl) ⟨rfl, rfl, rfl, rfl, rfl, trivial⟩ (List.Perm.refl _)
 have hS21 : ∀ (v11 : Value) (v22 : Value) (v31 : Value), H 8 #[true, true, true, true, true, true, true, true, true, true, true, true, false, false, false, true, true, true, false, false, true, true, true, true, true, true, true, false, false, false] [(1, .pointer (some ⟨g1, 0, none⟩)), (12, .string (bs (lnU tOxy [r.lo, r.hi]))), (14, .int .i64 r.na), (16, .int .i64 r.de), (22, v22), (31, v31)] [sl v11 3 1 ([r.lo, r.hi].map cI), sl v22 3 1 ([r.br].map cI), sl v31 3 1 ([r.em, r.pa, r.ac].map cI)] := by
  intro v11 v22 v31
  subst hH
  refine Kp.G_s1 (k1 := 12) (by kernel_rfl) ?_
  refine Kp.St_mk rfl rfl rfl rfl (lo_bslice tb rfl rfl rfl (xs := ([r.na, r.de].map cI)) rfl rfl (by simp [cI]) rfl (by omega) rfl) fun v17 => ?_
  exact Kp.G_weak (hS24 v11 v17 v22 v31) (by kernel_rfl) ⟨rfl, rfl, rfl, rfl, rfl, trivial⟩ (perm_front (pre := [_])).symm
 have hS20 : ∀ (v11 : Value) (v17 : Value) (v31 : Value), H 8 #[true, true, true, true, true, true, true, true, true, true, true, true, true, false, false, true, true, false, false, false, true, true, true, true, true, true, true, false, false, false] [(1, .pointer (some ⟨g1, 0, none⟩)), (12, .string (bs (lnU tOxy [r.lo, r.hi]))), (17, v17), (21, .int .i64 r.br), (31, v31)] [sl v11 3 1 ([r.lo, r.hi].map cI), sl v17 3 1 ([r.na, r.de].map cI), sl v31 3 1 ([r.em, r.pa, r.ac].map cI)] := by
  intro v11 v17 v31
  subst hH
  refine Kp.G_s2 (k1 := 13) (k2 := 17) (by kernel_rfl) ?_ ?_
  refine Kp.St_call tb rfl rfl rfl rfl (ct_shotlineref05_numbers tLim _ [r.na, r.de] (hdN9_ok H 1) (hdN9_len r 1) (by decide)) (ps_cons gvo no_ps) rfl ?_
  refine Kp.G_q (k := 14) rfl (t_cat (a := lnU tOxy [r.lo, r.hi]) (b := lnU tLim [r.na, r.de]) (r := hdK r 2) rfl rfl (by omega) e2) (by kernel_rfl) ?_
  exact Kp.G_weak (hS26 v11 v17 v31) (by kernel_rfl) ⟨rfl, rfl, rfl, rfl, trivial⟩ (List.Perm.refl _)
  refine Kp.St_mk rfl rfl rfl rfl (lo_bslice tb rfl rfl rfl (xs := ([r.br].map cI)) rfl rfl (by simp [cI]) rfl (by omega) rfl) fun v22 => ?_
  exact Kp.G_weak (hS24 v11 v17 v22 v31) (by kernel_rfl) ⟨rfl, rfl, rfl, rfl, rfl, trivial⟩ (perm_front (pre := [_, _])).symm
 have hS19 : ∀ (v11 : Value) (v17 : Value) (v22 : Value), H 8 #[true, true, true, true, true, true, true, true, true, true, true, true, true, false, false, true, true, true, false, false, true, true, true, true, true, true, false, false, false, false] [(1, .pointer (some ⟨g1, 0, none⟩)), (12, .string (bs (lnU tOxy [r.lo, r.hi]))), (17, v17), (22, v22), (26, .int .i64 r.em), (28, .int .i64 r.pa), (30, .int .i64 r.ac)] [sl v11 3 1 ([r.lo, r.hi].map cI), sl v17 3 1 ([r.na, r.de].map cI), sl v22 3 1 ([r.br].map cI)] := by
  intro v11 v17 v22
  subst hH
  refine Kp.G_s2 (k1 := 13) (k2 := 26) (by kernel_rfl) ?_ ?_
  refine Kp.St_call tb rfl rfl rfl rfl (ct_shotlineref05_numbers tLim _ [r.na, r.de] (hdN9_ok H 1) (hdN9_len r 1) (by decide)) (ps_cons gvo no_ps) rfl ?_
  refine Kp.G_q (k := 14) rfl (t_cat (a := lnU tOxy [r.lo, r.hi]) (b := lnU tLim [r.na, r.de]) (r := hdK r 2) rfl rfl (by omega) e2) (by kernel_rfl) ?_
  exact Kp.G_weak (hS25 v11 v17 v22) (by kernel_rfl) ⟨rfl, rfl, rfl, rfl, rfl, rfl, trivial⟩ (List.Perm.refl _)
  refine Kp.St_mk rfl rfl rfl rfl (lo_bslice tb rfl rfl rfl (xs := ([r.em, r.pa, r.ac].map cI)) rfl rfl (by simp [cI]) rfl (by omega) rfl) fun v31 => ?_
  exact Kp.G_weak (hS24 v11 v17 v22 v31) (by kernel_rfl) ⟨rfl, rfl, rfl, rfl, rfl, trivial⟩ (perm_front (pre := [_, _, _])).symm
 have hS18 : ∀ (v17 : Value) (v22 : Value) (v31 : Value), H 9 #[true, true, true, true, true, true, false, false, true, true, true, true, true, false, false, true, true, true, false, false, true, true, true, true, true, true, true, false, false, false] [(1, .pointer (some ⟨g1, 0, none⟩)), (7, .int .i64 r.lo), (10, .int .i64 r.hi), (17, v17), (22, v22), (31, v31)] [sl v17 3 1 ([r.na, r.de].map cI), sl v22 3 1 ([r.br].map cI), sl v31 3 1 ([r.em, r.pa, r.ac].map cI)] := by
  intro v17 v22 v31
  subst hH
  refine Kp.G_s1 (k1 := 6) (by kernel_rfl) ?_
  refine Kp.St_mk rfl rfl rfl rfl (lo_bslice tb rfl rfl rfl (xs := ([r.lo, r.hi].map cI)) rfl rfl (by simp [cI]) rfl (by omega) rfl) fun v11 => ?_
  exact Kp.G_weak (hS22 v11 v17 v22 v31) (by kernel_rfl) ⟨rfl, rfl, rfl, rfl, rfl, trivial⟩ (List.Perm.refl _)
 have hS17 : ∀ (v11 : Value) (v22 : Value) (v31 : Value), H 9 #[true, true, true, true, true, true, true, false, true, true, true, true, false, false, false, true, true, true, false, false, true, true, true, true, true, true, true, false, false, false] [(1, .pointer (some ⟨g1, 0, none⟩)), (11, v11), (14, .int .i64 r.na), (16, .int .i64 r.de), (22, v22), (31, v31)] [sl v11 3 1 ([r.lo, r.hi].map cI), sl v22 3 1 ([r.br].map cI), sl v31 3 1 ([r.em, r.pa, r.ac].map cI)] := by
  intro v11 v22 v31
  subst hH
  refine Kp.G_s2 (k1 := 7) (k2 := 12) (by kernel_rfl) ?_ ?_
  refine Kp.St_call tb rfl rfl rfl rfl (ct_shotlineref05_numbers tOxy _ [r.lo, r.hi] (hdN9_ok H 0) (hdN9_len r 0) (by decide)) (ps_cons gvo no_ps) rfl ?_
  exact Kp.G_weak (hS21 v11 v22 v31) (by kernel_rfl) ⟨rfl, rfl, rfl, rfl, rfl, rfl, trivial⟩ (List.Perm.refl _)
  refine Kp.St_mk rfl rfl rfl rfl (lo_bslice tb rfl rfl rfl (xs := ([r.na, r.de].map cI)) rfl rfl (by simp [cI]) rfl (by omega) rfl) fun v17 => ?_
  exact Kp.G_weak (hS22 v11 v17 v22 v31) (by kernel_rfl) ⟨rfl, rfl, rfl, rfl, rfl, trivial⟩ (perm_front (pre := [_])).symm
 have hS16 : ∀ (v11 : Value) (v17 : Value) (v31 : Value), H 9 #[true, true, true, true, true, true, true, false, true, true, true, true, true, false, false, true, true, false, false, false, true, true, true, true, true, true, true, false, false, false] [(1, .pointer (some ⟨g1, 0, none⟩)), (11, v11), (17, v17), (21, .int .i64 r.br), (31, v31)] [sl v11 3 1 ([r.lo, r.hi].map cI), sl v17 3 1 ([r.na, r.de].map cI), sl v31 3 1 ([r.em, r.pa, r.ac].map cI)] := by
  intro v11 v17 v31
  subst hH
  refine Kp.G_s2 (k1 := 7) (k2 := 17) (by kernel_rfl) ?_ ?_
  refine Kp.St_call tb rfl rfl rfl rfl (ct_shotlineref05_numbers tOxy _ [r.lo, r.hi] (hdN9_ok H 0) (hdN9_len r 0) (by decide)) (ps_cons gvo no_ps) rfl ?_
  exact Kp.G_weak (hS20 v11 v17 v31) (by kernel_rfl) ⟨rfl, rfl, rfl, rfl, rfl, trivial⟩ (List.Perm.refl _)
  refine Kp.St_mk rfl rfl rfl rfl (lo_bslice tb rfl rfl rfl (xs := ([r.br].map cI)) rfl rfl (by simp [cI]) rfl (by omega) rfl) fun v22 => ?_
  exact Kp.G_weak (hS22 v11 v17 v22 v31) (by kernel_rfl) ⟨rfl, rfl, rfl, rfl, rfl, trivial⟩ (perm_front (pre := [_, _])).symm
 have hS15 : ∀ (v11 : Value) (v17 : Value) (v22 : Value), H 9 #[true, true, true, true, true, true, true, false, true, true, true, true, true, false, false, true, true, true, false, false, true, true, true, true, true, true, false, false, false, false] [(1, .pointer (some ⟨g1, 0, none⟩)), (11, v11), (17, v17), (22, v22), (26, .int .i64 r.em), (28, .int .i64 r.pa), (30, .int .i64 r.ac)] [sl v11 3 1 ([r.lo, r.hi].map cI), sl v17 3 1 ([r.na, r.de].map cI), sl v22 3 1 ([r.br].map cI)] := by
  intro v11 v17 v22
  subst hH
  refine Kp.G_s2 (k1 := 7) (k2 := 26) (by kernel_rfl) ?_ ?_
  refine Kp.St_call tb rfl rfl rfl rfl (ct_shotlineref05_numbers tOxy _ [r.lo, r.hi] (hdN9_ok H 0) (hdN9_len r 0) (by decide)) (ps_cons gvo no_ps) rfl ?_
  exact Kp.G_weak (hS19 v11 v17 v22) (by kernel_rfl) ⟨rfl, rfl, rfl, rfl, rfl, rfl, rfl, trivial⟩ (List.Perm.refl _)
  refine Kp.St_mk rfl rfl rfl rfl (lo_bslice tb rfl rfl rfl (xs := ([r.em, r.pa, r.ac].map cI)) rfl rfl (by simp [cI]) rfl (by omega) rfl) fun v31 => ?_
  exact Kp.G_weak (hS22 v11 v17 v22 v31) (by kernel_rfl) ⟨rfl, rfl, rfl, rfl, rfl, trivial⟩ (perm_front (pre := [_, _, _])).symm
 have hS14 : ∀ (v11 : Value) (v31 : Value), H 9 #[true, true, true, true, true, true, true, true, true, true, true, true, false, false, false, true, true, false, false, false, true, true, true, true, true, true, true, false, false, false] [(1, .pointer (some ⟨g1, 0, none⟩)), (12, .string (bs (lnU tOxy [r.lo, r.hi]))), (14, .int .i64 r.na), (16, .int .i64 r.de), (21, .int .i64 r.br), (31, v31)] [sl v11 3 1 ([r.lo, r.hi].map cI), sl v31 3 1 ([r.em, r.pa, r.ac].map cI)] := by
  intro v11 v31
  subst hH
  refine Kp.G_s2 (k1 := 12) (k2 := 17) (by kernel_rfl) ?_ ?_
  refine Kp.St_mk rfl rfl rfl rfl (lo_bslice tb rfl rfl rfl (xs := ([r.na, r.de].map cI)) rfl rfl (by simp [cI]) rfl (by omega) rfl) fun v17 => ?_
  exact Kp.G_weak (hS20 v11 v17 v31) (by kernel_rfl) ⟨rfl, rfl, rfl, rfl, rfl, trivial⟩ (perm_front (pre := [_])).symm
  refine Kp.St_mk rfl rfl rfl rfl (lo_bslice tb rfl rfl rfl (xs := ([r.br].map cI)) rfl rfl (by simp [cI]) rfl (by omega) rfl) fun v22 => ?_
  exact Kp.G_weak (hS21 v11 v22 v31) (by kernel_rfl) ⟨rfl, rfl, rfl, rfl, rfl, rfl, trivial⟩ (perm_front (pre := [_])).symm
 have hS13 : ∀ (v11 : Value) (v22 : Value), H 9 #[true, true, true, true, true, true, true, true, true, true, true, true, false, false, false, true, true, true, false, false, true, true, true, true, true, true, false, false, false, false] [(1, .pointer (some ⟨g1, 0, none⟩)), (12, .string (bs (lnU tOxy [r.lo, r.hi]))), (14, .int .i64 r.na), (16, .int .i64 r.de), (22, v22), (26, .int .i64 r.em), (28, .int .i64 r.pa), (30, .int .i64 r.ac)] [sl v11 3 1 ([r.lo, r.hi].map cI), sl v22 3 1 ([r.br].map cI)] := by
  intro v11 v22
  subst hH
  refine Kp.G_s2 (k1 := 12) (k2 := 26) (by kernel_rfl) ?_ ?_
  refine Kp.St_mk rfl rfl rfl rfl (lo_bslice tb rfl rfl rfl (xs := ([r.na, r.de].map cI)) rfl rfl (by simp [cI]) rfl (by omega) rfl) fun v17 => ?_
  exact Kp.G_weak (hS19 v11 v17 v22) (by kernel_rfl) ⟨rfl, rfl, rfl, rfl, rfl, rfl, rfl, trivial⟩ (perm_front (pre := [_])).symm
  refine Kp.St_mk rfl rfl rfl rfl (lo_bslice tb rfl rfl rfl (xs := ([r.em, r.pa, r.ac].map cI)) rfl rfl (by simp [cI]) rfl (by omega) rfl) fun v31 => ?_
  exact Kp.G_weak (hS21 v11 v22 v31) (by kernel_rfl) ⟨rfl, rfl, rfl, rfl, rfl, rfl, trivial⟩ (perm_front (pre := [_, _])).symm
 have hS12 : ∀ (v11 : Value) (v17 : Value), H 9 #[true, true, true, true, true, true, true, true, true, true, true, true, true, false, false, true, true, false, false, false, true, true, true, true, true, true, false, false, false, false] [(1, .pointer (some ⟨g1, 0, none⟩)), (12, .string (bs (lnU tOxy [r.lo, r.hi]))), (17, v17), (21, .int .i64 r.br), (26, .int .i64 r.em), (28, .int .i64 r.pa), (30, .int .i64 r.ac)] [sl v11 3 1 ([r.lo, r.hi].map cI), sl v17 3 1 ([r.na, r.de].map cI)] := by
  intro v11 v17
  subst hH
  refine Kp.G_s3 (k1 := 13) (k2 := 17) (k3 := 26) (by kernel_rfl) ?_ ?_ ?_
  refine Kp.St_call tb rfl rfl rfl rfl (ct_shotlineref05_numbers tLim _ [r.na, r.de] (hdN9_ok H 1) (hdN9_len r 1) (by decide)) (ps_cons gvo no_ps) rfl ?_
  refine Kp.G_q (k := 14) rfl (t_cat (a := lnU tOxy [r.lo, r.hi]) (b := lnU tLim [r.na, r.de]) (r := hdK r 2) rfl rfl (by omega) e2) (by kernel_rfl) ?_
  exact Kp.G_weak (hS23 v11 v17) (by kernel_rfl) ⟨rfl, rfl, rfl, rfl, rfl, rfl, trivial⟩ (List.Perm.refl _)
  refine Kp.St_mk rfl rfl rfl rfl (lo_bslice tb rfl rfl rfl (xs := ([r.br].map cI)) rfl rfl (by simp [cI]) rfl (by omega) rfl) fun v22 => ?_
  exact Kp.G_weak (hS19 v11 v17 v22) (by kernel_rfl) ⟨rfl, rfl, rfl, rfl, rfl, rfl, rfl, trivial⟩ (perm_front (pre := [_, _])).symm
  refine Kp.St_mk rfl rfl rfl rfl (lo_bslice tb rfl rfl rfl (xs := ([r.em, r.pa, r.ac].map cI)) rfl rfl (by simp [cI]) rfl (by omega) rfl) fun v31 => ?_
  exact Kp.G_weak (hS20 v11 v17 v31) (by kernel_rfl) ⟨rfl, rfl, rfl, rfl, rfl, trivial⟩ (perm_front (pre := [_, _])).symm
 have hS11 : ∀ (v22 : Value) (v31 : Value), H 10 #[true, true, true, true, true, true, false, false, true, true, true, true, false, false, false, true, true, true, false, false, true, true, true, true, true, true, true, false, false, false] [(1, .pointer (some ⟨g1, 0, none⟩)), (7, .int .i64 r.lo), (10, .int .i64 r.hi), (14, .int .i64 r.na), (16, .int .i64 r.de), (22, v22), (31, v31)] [sl v22 3 1 ([r.br].map cI), sl v31 3 1 ([r.em, r.pa, r.ac].map cI)] := by
  intro v22 v31
  subst hH
  refine Kp.G_s2 (k1 := 6) (k2 := 12) (by kernel_rfl) ?_ ?_
  refine Kp.St_mk rfl rfl rfl rfl (lo_bslice tb rfl rfl rfl (xs := ([r.lo, r.hi].map cI)) rfl rfl (by simp [cI]) rfl (by omega) rfl) fun v11 => ?_
  exact Kp.G_weak (hS17 v11 v22 v31) (by kernel_rfl) ⟨rfl, rfl, rfl, rfl, rfl, rfl, trivial⟩ (List.Perm.refl _)
  refine Kp.St_mk rfl rfl rfl rfl (lo_bslice tb rfl rfl rfl (xs := ([r.na, r.de].map cI)) rfl rfl (by simp [cI]) rfl (by omega) rfl) fun v17 => ?_
  exact Kp.G_weak (hS18 v17 v22 v31) (by kernel_rfl) ⟨rfl, rfl, rfl, rfl, rfl, rfl, trivial⟩ (List.Perm.refl _)
 have hS10 : ∀ (v17 : Value) (v31 : Value), H 10 #[true, true, true, true, true, true, false, false, true, true, true, true, true, false, false, true, true, false, false, false, true, true, true, true, true, true, true, false, false, false] [(1, .pointer (some ⟨g1, 0, none⟩)), (7, .int .i64 r.lo), (10, .int .i64 r.hi), (17, v17), (21, .int .i64 r.br), (31, v31)] [sl v17 3 1 ([r.na, r.de].map cI), sl v31 3 1 ([r.em, r.pa, r.ac].map cI)] := by
  intro v17 v31
  subst hH
  refine Kp.G_s2 (k1 := 6) (k2 := 17) (by kernel_rfl) ?_ ?_
  refine Kp.St_mk rfl rfl rfl rfl (lo_bslice tb rfl rfl rfl (xs := ([r.lo, r.hi].map cI)) rfl rfl (by simp [cI]) rfl (by omega) rfl) fun v11 => ?_
  exact Kp.G_weak (hS16 v11 v17 v31) (by kernel_rfl) ⟨rfl, rfl, rfl, rfl, rfl, trivial⟩ (List.Perm.refl _)
  refine Kp.St_mk rfl rfl rfl rfl (lo_bslice tb rfl rfl rfl (xs := ([r.br].map cI)) rfl rfl (by simp [cI]) rfl (by omega) rfl) fun v22 => ?_
  exact Kp.G_weak (hS18 v17 v22 v31) (by kernel_rfl) ⟨rfl, rfl, rfl, rfl, rfl, rfl, trivial⟩ (perm_front (pre := [_])).symm
 have hS9 : ∀ (v17 : Value) (v22 : Value), H 10 #[true, true, true, true, true, true, false, false, true, true, true, true, true, false, false, true, true, true, false, false, true, true, true, true, true, true, false, false, false, false] [(1, .pointer (some ⟨g1, 0, none⟩)), (7, .int .i64 r.lo), (10, .int .i64 r.hi), (17, v17), (22, v22), (26, .int .i64 r.em), (28, .int .i64 r.pa), (30, .int .i64 r.ac)] [sl v17 3 1 ([r.na, r.de].map cI), sl v22 3 1 ([r.br].map cI)] := by
  intro v17 v22
  subst hH
  refine Kp.G_s2 (k1 := 6) (k2 := 26) (by kernel_rfl) ?_ ?_
  refine Kp.St_mk rfl rfl rfl rfl (lo_bslice tb rfl rfl rfl (xs := ([r.lo, r.hi].map cI)) rfl rfl (by simp [cI]) rfl (by omega) rfl) fun v11 => ?_
  exact Kp.G_weak (hS15 v11 v17 v22) (by kernel_rfl) ⟨rfl, rfl, rfl, rfl, rfl, rfl, rfl, trivial⟩ (List.Perm.refl _)
  refine Kp.St_mk rfl rfl rfl rfl (lo_bslice tb rfl rfl rfl (xs := ([r.em, r.pa, r.ac].map cI)) rfl rfl (by simp [cI]) rfl (by omega) rfl) fun v31 => ?_
  exact Kp.G_weak (hS18 v17 v22 v31) (by kernel_rfl) ⟨rfl, rfl, rfl, rfl, rfl, rfl, trivial⟩ (perm_front (pre := [_, _])).symm
 have hS8 : ∀ (v11 : Value) (v31 : Value), H 10 #[true, true, true, true, true, true, true, false, true, true, true, true, false, false, false, true, true, false, false, false, true, true, true, true, true, true, true, false, false, false] [(1, .pointer (some ⟨g1, 0, none⟩)), (11, v11), (14, .int .i64 r.na), (16, .int .i64 r.de), (21, .int .i64 r.br), (31, v31)] [sl v11 3 1 ([r.lo, r.hi].map cI), sl v31 3 1 ([r.em, r.pa, r.ac].map cI)] := by
  intro v11 v31
  subst hH
  refine Kp.G_s3 (k1 := 7) (k2 := 12) (k3 := 17) (by kernel_rfl) ?_ ?_ ?_
  refine Kp.St_call tb rfl rfl rfl rfl (ct_shotlineref05_numbers tOxy _ [r.lo, r.hi] (hdN9_ok H 0) (hdN9_len r 0) (by decide)) (ps_cons gvo no_ps) rfl ?_
  exact Kp.G_weak (hS14 v11 v31) (by kernel_rfl) ⟨rfl, rfl, rfl, rfl, rfl, rfl, trivial⟩ (List.Perm.refl _)
  refine Kp.St_mk rfl rfl rfl rfl (lo_bslice tb rfl rfl rfl (xs := ([r.na, r.de].map cI)) rfl rfl (by simp [cI]) rfl (by omega) rfl) fun v17 => ?_
  exact Kp.G_weak (hS16 v11 v17 v31) (by kernel_rfl) ⟨rfl, rfl, rfl, rfl, rfl, trivial⟩ (perm_front (pre := [_])).symm
  refine Kp.St_mk rfl rfl rfl rfl (lo_bslice tb rfl rfl rfl (xs := ([r.br].map cI)) rfl rfl (by simp [cI]) rfl (by omega) rfl) fun v22 => ?_
  exact Kp.G_weak (hS17 v11 v22 v31) (by kernel_rfl) ⟨rfl, rfl, rfl, rfl, rfl, rfl, trivial⟩ (perm_front (pre := [_])).symm
 have hS7 : ∀ (v11 : Value) (v22 : Value), H 10 #[true, true, true, true, true, true, true, false, true, true, true, true, false, false, false, true, true, true, false, false, true, true, true, true, true, true, false, false, false, false] [(1, .pointer (some ⟨g1, 0, none⟩)), (11, v11), (14, .int .i64 r.na), (16, .int .i64 r.de), (22, v22), (26, .int .i64 r.em), (28, .int .i64 r.pa), (30, .int .i64 r.ac)] [sl v11 3 1 ([r.lo, r.hi].map cI), sl v22 3 1 ([r.br].map cI)] := by
  intro v11 v22
  subst hH
  refine Kp.G_s3 (k1 := 7) (k2 := 12) (k3 := 26) (by kernel_rfl) ?_ ?_ ?_
  refine Kp.St_call tb rfl rfl rfl rfl (ct_shotlineref05_numbers tOxy _ [r.lo, r.hi] (hdN9_ok H 0) (hdN9_len r 0) (by decide)) (ps_cons gvo no_ps) rfl ?_
  exact Kp.G_weak (hS13 v11 v22) (by kernel_rfl) ⟨rfl, rfl, rfl, rfl, rfl, rfl, rfl, rfl, trivial⟩ (List.Perm.refl _)
  refine Kp.St_mk rfl rfl rfl rfl (lo_bslice tb rfl rfl rfl (xs := ([r.na, r.de].map cI)) rfl rfl (by simp [cI]) rfl (by omega) rfl) fun v17 => ?_
  exact Kp.G_weak (hS15 v11 v17 v22) (by kernel_rfl) ⟨rfl, rfl, rfl, rfl, rfl, rfl, rfl, trivial⟩ (perm_front (pre := [_])).symm
  refine Kp.St_mk rfl rfl rfl rfl (lo_bslice tb rfl rfl rfl (xs := ([r.em, r.pa, r.ac].map cI)) rfl rfl (by simp [cI]) rfl (by omega) rfl) fun v31 => ?_
  exact Kp.G_weak (hS17 v11 v22 v31) (by kernel_rfl) ⟨rfl, rfl, rfl, rfl, rfl, rfl, trivial⟩ (perm_front (pre := [_, _])).symm
 have hS6 : ∀ (v11 : Value) (v17 : Value), H 10 #[true, true, true, true, true, true, true, false, true, true, true, true, true, false, false, true, true, false, false, false, true, true, true, true, true, true, false, false, false, false] [(1, .pointer (some ⟨g1, 0, none⟩)), (11, v11), (17, v17), (21, .int .i64 r.br), (26, .int .i64 r.em), (28, .int .i64 r.pa), (30, .int .i64 r.ac)] [sl v11 3 1 ([r.lo, r.hi].map cI), sl v17 3 1 ([r.na, r.de].map cI)] := by
  intro v11 v17
  subst hH
  refine Kp.G_s3 (k1 := 7) (k2 := 17) (k3 := 26) (by kernel_rfl) ?_ ?_ ?_
  refine Kp.St_call tb rfl rfl rfl rfl (ct_shotlineref05_numbers tOxy _ [r.lo, r.hi] (hdN9_ok H 0) (hdN9_len r 0) (by decide)) (ps_cons gvo no_ps) rfl ?_
  exact Kp.G_weak (hS12 v11 v17) (by kernel_rfl) ⟨rfl, rfl, rfl, rfl, rfl, rfl, rfl, trivial⟩ (List.Perm.refl _)
  refine Kp.St_mk rfl rfl rfl rfl (lo_bslice tb rfl rfl rfl (xs := ([r.br].map cI)) rfl rfl (by simp [cI]) rfl (by omega) rfl) fun v22 => ?_
  exact Kp.G_weak (hS15 v11 v17 v22) (by kernel_rfl) ⟨rfl, rfl, rfl, rfl, rfl, rfl, rfl, trivial⟩ (perm_front (pre := [_, _])).symm
  refine Kp.St_mk rfl rfl rfl rfl (lo_bslice tb rfl rfl rfl (xs := ([r.em, r.pa, r.ac].map cI)) rfl rfl (by simp [cI]) rfl (by omega) rfl) fun v31 => ?_
  exact Kp.G_weak (hS16 v11 v17 v31) (by kernel_rfl) ⟨rfl, rfl, rfl, rfl, rfl, trivial⟩ (perm_front (pre := [_, _])).symm
 have hS5 : ∀ (v11 : Value), H 10 #[true, true, true, true, true, true, true, true, true, true, true, true, false, false, false, true, true, false, false, false, true, true, true, true, true, true, false, false, false, false] [(1, .pointer (some ⟨g1, 0, none⟩)), (12, .string (bs (lnU tOxy [r.lo, r.hi]))), (14, .int .i64 r.na), (16, .int .i64 r.de), (21, .int .i64 r.br), (26, .int .i64 r.em), (28, .int .i64 r.pa), (30, .int .i64 r.ac)] [sl v11 3 1 ([r.lo, r.hi].map cI)] := by
  intro v11
  subst hH
  refine Kp.G_s3 (k1 := 12) (k2 := 17) (k3 := 26) (by kernel_rfl) ?_ ?_ ?_
  refine Kp.St_mk rfl rfl rfl rfl (lo_bslice tb rfl rfl rfl (xs := ([r.na, r.de].map cI)) rfl rfl (by simp [cI]) rfl (by omega) rfl) fun v17 => ?_
  exact Kp.G_weak (hS12 v11 v17) (by kernel_rfl) ⟨rfl, rfl, rfl, rfl, rfl, rfl, rfl, trivial⟩ (perm_front (pre := [_])).symm
  refine Kp.St_mk rfl rfl rfl rfl (lo_bslice tb rfl rfl rfl (xs := ([r.br].map cI)) rfl rfl (by simp [cI]) rfl (by omega) rfl) fun v22 => ?_
  exact Kp.G_weak (hS13 v11 v22) (by kernel_rfl) ⟨rfl, rfl, rfl, rfl, rfl, rfl, rfl, rfl, trivial⟩ (perm_front (pre := [_])).symm
  refine Kp.St_mk rfl rfl rfl rfl (lo_bslice tb rfl rfl rfl (xs := ([r.em, r.pa, r.ac].map cI)) rfl rfl (by simp [cI]) rfl (by omega) rfl) fun v31 => ?_
  exact Kp.G_weak (hS14 v11 v31) (by kernel_rfl) ⟨rfl, rfl, rfl, rfl, rfl, rfl, trivial⟩ (perm_front (pre := [_])).symm
 have hS4 : ∀ (v31 : Value), H 11 #[true, true, true, true, true, true, false, false, true, true, true, true, false, false, false, true, true, false, false, false, true, true, true, true, true, true, true, false, false, false] [(1, .pointer (some ⟨g1, 0, none⟩)), (7, .int .i64 r.lo), (10, .int .i64 r.hi), (14, .int .i64 r.na), (16, .int .i64 r.de), (21, .int .i64 r.br), (31, v31)] [sl v31 3 1 ([r.em, r.pa, r.ac].map cI)] := by
  intro v31
  subst hH
  refine Kp.G_s3 (k1 := 6) (k2 := 12) (k3 := 17) (by kernel_rfl) ?_ ?_ ?_
  refine Kp.St_mk rfl rfl rfl rfl (lo_bslice tb rfl rfl rfl (xs := ([r.lo, r.hi].map cI)) rfl rfl (by simp [cI]) rfl (by omega) rfl) fun v11 => ?_
  exact Kp.G_weak (hS8 v11 v31) (by kernel_rfl) ⟨rfl, rfl, rfl, rfl, rfl, rfl, trivial⟩ (List.Perm.refl _)
  refine Kp.St_mk rfl rfl rfl rfl (lo_bslice tb rfl rfl rfl (xs := ([r.na, r.de].map cI)) rfl rfl (by simp [cI]) rfl (by omega) rfl) fun v17 => ?_
  exact Kp.G_weak (hS10 v17 v31) (by kernel_rfl) ⟨rfl, rfl, rfl, rfl, rfl, rfl, trivial⟩ (List.Perm.refl _)
  refine Kp.St_mk rfl rfl rfl rfl (lo_bslice tb rfl rfl rfl (xs := ([r.br].map cI)) rfl rfl (by simp [cI]) rfl (by omega) rfl) fun v22 => ?_
  exact Kp.G_weak (hS11 v22 v31) (by kernel_rfl) ⟨rfl, rfl, rfl, rfl, rfl, rfl, rfl, trivial⟩ (List.Perm.refl _)
 have hS3 : ∀ (v22 : Value), H 11 #[true, true, true, true, true, true, false, false, true, true, true, true, false, false, false, true, true, true, false, false, true, true, true, true, true, true, false, false, false, false] [(1, .pointer (some ⟨g1, 0, none⟩)), (7, .int .i64 r.lo), (10, .int .i64 r.hi), (14, .int .i64 r.na), (16, .int .i64 r.de), (22, v22), (26, .int .i64 r.em), (28, .int .i64 r.pa), (30, .int .i64 r.ac)] [sl v22 3 1 ([r.br].map cI)] := by
  intro v22
  subst hH
  refine Kp.G_s3 (k1 := 6) (k2 := 12) (k3 := 26) (by kernel_rfl) ?_ ?_ ?_
  refine Kp.St_mk rfl rfl rfl rfl (lo_bslice tb rfl rfl rfl (xs := ([r.lo, r.hi].map cI)) rfl rfl (by simp [cI]) rfl (by omega) rfl) fun v11 => ?_
  exact Kp.G_weak (hS7 v11 v22) (by kernel_rfl) ⟨rfl, rfl, rfl, rfl, rfl, rfl, rfl, rfl, trivial⟩ (List.Perm.refl _)
  refine Kp.St_mk rfl rfl rfl rfl (lo_bslice tb rfl rfl rfl (xs := ([r.na, r.de].map cI)) rfl rfl (by simp [cI]) rfl (by omega) rfl) fun v17 => ?_
  exact Kp.G_weak (hS9 v17 v22) (by kernel_rfl) ⟨rfl, rfl, rfl, rfl, rfl, rfl, rfl, rfl, trivial⟩ (List.Perm.refl _)
  refine Kp.St_mk rfl rfl rfl rfl (lo_bslice tb rfl rfl rfl (xs := ([r.em, r.pa, r.ac].map cI)) rfl rfl (by simp [cI]) rfl (by omega) rfl) fun v31 => ?_
  exact Kp.G_weak (hS11 v22 v31) (by kernel_rfl) ⟨rfl, rfl, rfl, rfl, rfl, rfl, rfl, trivial⟩ (perm_front (pre := [_])).symm
 have hS2 : ∀ (v17 : Value), H 11 #[true, true, true, true, true, true, false, false, true, true, true, true, true, false, false, true, true, false, false, false, true, true, true, true, true, true, false, false, false, false] [(1, .pointer (some ⟨g1, 0, none⟩)), (7, .int .i64 r.lo), (10, .int .i64 r.hi), (17, v17), (21, .int .i64 r.br), (26, .int .i64 r.em), (28, .int .i64 r.pa), (30, .int .i64 r.ac)] [sl v17 3 1 ([r.na, r.de].map cI)] := by
  intro v17
  subst hH
  refine Kp.G_s3 (k1 := 6) (k2 := 17) (k3 := 26) (by kernel_rfl) ?_ ?_ ?_
  refine Kp.St_mk rfl rfl rfl rfl (lo_bslice tb rfl rfl rfl (xs := ([r.lo, r.hi].map cI)) rfl rfl (by simp [cI]) rfl (by omega) rfl) fun v11 => ?_
  exact Kp.G_weak (hS6 v11 v17) (by kernel_rfl) ⟨rfl, rfl, rfl, rfl, rfl, rfl, rfl, trivial⟩ (List.Perm.refl _)
  refine Kp.St_mk rfl rfl rfl rfl (lo_bslice tb rfl rfl rfl (xs := ([r.br].map cI)) rfl rfl (by simp [cI]) rfl (by omega) rfl) fun v22 => ?_
  exact Kp.G_weak (hS9 v17 v22) (by kernel_rfl) ⟨rfl, rfl, rfl, rfl, rfl, rfl, rfl, rfl, trivial⟩ (perm_front (pre := [_])).symm
  refine Kp.St_mk rfl rfl rfl rfl (lo_bslice tb rfl rfl rfl (xs := ([r.em, r.pa, r.ac].map cI)) rfl rfl (by simp [cI]) rfl (by omega) rfl) fun v31 => ?_
  exact Kp.G_weak (hS10 v17 v31) (by kernel_rfl) ⟨rfl, rfl, rfl, rfl, rfl, rfl, trivial⟩ (perm_front (pre := [_])).symm
 have hS1 : ∀ (v11 : Value), H 11 #[true, true, true, true, true, true, true, false, true, true, true, true, false, false, false, true, true, false, false, false, true, true, true, true, true, true, false, false, false, false] [(1, .pointer (some ⟨g1, 0, none⟩)), (11, v11), (14, .int .i64 r.na), (16, .int .i64 r.de), (21, .int .i64 r.br), (26, .int .i64 r.em), (28, .int .i64 r.pa), (30, .int .i64 r.ac)] [sl v11 3 1 ([r.lo, r.hi].map cI)] := by
  intro v11
  subst hH
  refine Kp.G_s4 (k1 := 7) (k2 := 12) (k3 := 17) (k4 := 26) (by kernel_rfl) ?_ ?_ ?_ ?_
  refine Kp.St_call tb rfl rfl rfl rfl (ct_shotlineref05_numbers tOxy _ [r.lo, r.hi] (hdN9_ok H 0) (hdN9_len r 0) (by decide)) (ps_cons gvo no_ps) rfl ?_
  exact Kp.G_weak (hS5 v11) (by kernel_rfl) ⟨rfl, rfl, rfl, rfl, rfl, rfl, rfl, rfl, trivial⟩ (List.Perm.refl _)
  refine Kp.St_mk rfl rfl rfl rfl (lo_bslice tb rfl rfl rfl (xs := ([r.na, r.de].map cI)) rfl rfl (by simp [cI]) rfl (by omega) rfl) fun v17 => ?_
  exact Kp.G_weak (hS6 v11 v17) (by kernel_rfl) ⟨rfl, rfl, rfl, rfl, rfl, rfl, rfl, trivial⟩ (perm_front (pre := [_])).symm
  refine Kp.St_mk rfl rfl rfl rfl (lo_bslice tb rfl rfl rfl (xs := ([r.br].map cI)) rfl rfl (by simp [cI]) rfl (by omega) rfl) fun v22 => ?_
  exact Kp.G_weak (hS7 v11 v22) (by kernel_rfl) ⟨rfl, rfl, rfl, rfl, rfl, rfl, rfl, rfl, trivial⟩ (perm_front (pre := [_])).symm
  refine Kp.St_mk rfl rfl rfl rfl (lo_bslice tb rfl rfl rfl (xs := ([r.em, r.pa, r.ac].map cI)) rfl rfl (by simp [cI]) rfl (by omega) rfl) fun v31 => ?_
  exact Kp.G_weak (hS8 v11 v31) (by kernel_rfl) ⟨rfl, rfl, rfl, rfl, rfl, rfl, trivial⟩ (perm_front (pre := [_])).symm
 have hS0 : H 12 #[true, true, true, true, true, true, false, false, true, true, true, true, false, false, false, true, true, false, false, false, true, true, true, true, true, true, false, false, false, false] [(1, .pointer (some ⟨g1, 0, none⟩)), (7, .int .i64 r.lo), (10, .int .i64 r.hi), (14, .int .i64 r.na), (16, .int .i64 r.de), (21, .int .i64 r.br), (26, .int .i64 r.em), (28, .int .i64 r.pa), (30, .int .i64 r.ac)] [] := by
  subst hH
  refine Kp.G_s4 (k1 := 6) (k2 := 12) (k3 := 17) (k4 := 26) (by kernel_rfl) ?_ ?_ ?_ ?_
  refine Kp.St_mk rfl rfl rfl rfl (lo_bslice tb rfl rfl rfl (xs := ([r.lo, r.hi].map cI)) rfl rfl (by simp [cI]) rfl (by omega) rfl) fun v11 => ?_
  exact Kp.G_weak (hS1 v11) (by kernel_rfl) ⟨rfl, rfl, rfl, rfl, rfl, rfl, rfl, rfl, trivial⟩ (List.Perm.refl _)
  refine Kp.St_mk rfl rfl rfl rfl (lo_bslice tb rfl rfl rfl (xs := ([r.na, r.de].map cI)) rfl rfl (by simp [cI]) rfl (by omega) rfl) fun v17 => ?_
  exact Kp.G_weak (hS2 v17) (by kernel_rfl) ⟨rfl, rfl, rfl, rfl, rfl, rfl, rfl, rfl, trivial⟩ (List.Perm.refl _)
  refine Kp.St_mk rfl rfl rfl rfl (lo_bslice tb rfl rfl rfl (xs := ([r.br].map cI)) rfl rfl (by simp [cI]) rfl (by omega) rfl) fun v22 => ?_
  exact Kp.G_weak (hS3 v22) (by kernel_rfl) ⟨rfl, rfl, rfl, rfl, rfl, rfl, rfl, rfl, rfl, trivial⟩ (List.Perm.refl _)
  refine Kp.St_mk rfl rfl rfl rfl (lo_bslice tb rfl rfl rfl (xs := ([r.em, r.pa, r.ac].map cI)) rfl rfl (by simp [cI]) rfl (by omega) rfl) fun v31 => ?_
  exact Kp.G_weak (hS4 v31) (by kernel_rfl) ⟨rfl, rfl, rfl, rfl, rfl, rfl, rfl, trivial⟩ (List.Perm.refl _)
 subst hH
 refine Kp.G_q (k := 0) rfl (q_field tb rfl rfl rfl) (by kernel_rfl) ?_
 refine Kp.G_q (k := 1) rfl (q_field tb rfl rfl rfl) (by kernel_rfl) ?_
 refine Kp.G_q (k := 2) rfl (q_load tb rfl rfl bxo rfl) (by kernel_rfl) ?_
 refine Kp.G_q (k := 3) rfl (q_field tb rfl rfl rfl) (by kernel_rfl) ?_
 refine Kp.G_q (k := 4) rfl (q_field tb rfl rfl rfl) (by kernel_rfl) ?_
 refine Kp.G_q (k := 5) rfl (q_load tb rfl rfl bxo rfl) (by kernel_rfl) ?_
 refine Kp.G_q (k := 8) rfl (q_field tb rfl rfl rfl) (by kernel_rfl) ?_
 refine Kp.G_q (k := 9) rfl (q_load tb rfl rfl bxo rfl) (by kernel_rfl) ?_
 refine Kp.G_q (k := 10) rfl (q_field tb rfl rfl rfl) (by kernel_rfl) ?_
 refine Kp.G_q (k := 11) rfl (q_load tb rfl rfl bxo rfl) (by kernel_rfl) ?_
 refine Kp.G_q (k := 15) rfl (q_field tb rfl rfl rfl) (by kernel_rfl) ?_
 refine Kp.G_q (k := 16) rfl (q_load tb rfl rfl bxo rfl) (by kernel_rfl) ?_
 refine Kp.G_q (k := 20) rfl (q_field tb rfl rfl rfl) (by kernel_rfl) ?_
 refine Kp.G_q (k := 21) rfl (q_load tb rfl rfl bxo rfl) (by kernel_rfl) ?_
 refine Kp.G_q (k := 22) rfl (q_field tb rfl rfl rfl) (by kernel_rfl) ?_
 refine Kp.G_q (k := 23) rfl (q_load tb rfl rfl bxo rfl) (by kernel_rfl) ?_
 refine Kp.G_q (k := 24) rfl (q_field tb rfl rfl rfl) (by kernel_rfl) ?_
 refine Kp.G_q (k := 25) rfl (q_load tb rfl rfl bxo rfl) (by kernel_rfl) ?_
 exact Kp.G_weak hS0 (by kernel_rfl) ⟨rfl, rfl, rfl, rfl, rfl, rfl, rfl, rfl, rfl, trivial⟩ (List.Perm.refl _)
 intro _; dsimp only
 refine L_then ?_
 refine C_seq ?_
 refine C_seq ?_
 refine C_region ?_
 refine Jq (q_assign rfl) ?_
 refine L_then ?_
 refine C_block ?_
 refine C_loop (ι := Nat) (fun k => ([(1, .pointer (some ⟨g1, 0, none⟩)), (3, .string (bs (hdK r 4 ++ rwK r.tb k))), (4, .int .i64 (k : Int))], [box g1 65 (cRu t r), rd t 2 (r.tb.map cOw)])) (fun k => k ≤ r.tb.length) (fun k => r.tb.length - k) 0 (Nat.zero_le _) (fun a w hs => hs.weak ⟨rfl, (congrArg (fun x => some (Value.string (bs x))) (List.append_nil _).symm), rfl, trivial⟩ (fun h => h.pk (by repeat (first | with_reducible exact pk_nil | refine pk_box rfl ?_ | refine pk_rd rfl ?_ | refine pk_sl rfl ?_ | with_reducible refine pk_app ?_ | with_reducible refine pk_app0 ?_ | with_reducible refine pk_app0L ?_ | with_reducible exact pk_tl | refine pk_var ?_)))) ?_
 intro k hk
 dsimp only at hk ⊢
 refine C_seq ?_
 refine C_seq ?_
 refine C_region ?_
 refine Jq (q_move rfl) ?_
 refine Jq (q_field tb rfl rfl rfl) ?_
 refine Jq (q_load tb rfl rfl bxo rfl) ?_
 refine Jq (q_len tb rfl rfl gvo) ?_
 refine Jq (q_lss rfl rfl) ?_
 refine L_then ?_
 refine C_dec rfl (fun h1 => ?_) (fun h1 => ?_)
 obtain ⟨y, hy9⟩ := get_some r.tb (k := k) (by omega); have hel := map_get cOw hy9; have ho9 := owAt_get hy9
 have hok9 : okN [y.f, y.r] := by rw [← ho9]; exact owN_ok H (show k < r.tb.length by omega)
 have he9 : (hdK r 4 ++ rwK r.tb k) ++ lnU tRow [y.f, y.r] = hdK r 4 ++ rwK r.tb (k + 1) := by rw [rwK, ho9, List.append_assoc]; rfl
 have l9 := rwK_len H (k + 1) (by omega)
 have hle9 : [y.f, y.r].length ≤ 3 := Nat.le_succ 2
 have gc9 : (hdK r 4 ++ rwK r.tb k).length + (lnU tRow [y.f, y.r]).length = (hdK r 4).length + (rwK r.tb (k + 1)).length := by rw [← List.length_append, he9, List.length_append]
 refine C_skip_then ?_
 refine C_seq ?_
 refine C_block ?_
 refine C_draw (n := 16) [(0, false), (1, false), (2, false), (3, false), (4, false), (5, false), (6, false), (7, false), (8, false), (9, false), (10, false), (11, false), (12, false), (13, true), (14, true), (15, false)] mixed (by kernel_rfl) ?_
 refine Yq rfl (q_move rfl) ?_
 refine Yq rfl (q_field tb rfl rfl rfl) ?_
 refine Yq rfl (q_load tb rfl rfl bxo rfl) ?_
 refine Yq rfl (q_move rfl) ?_
 refine Yq rfl (by first | exact q_index tb rfl rfl rfl rfl gvo (by omega) (by first | omega | (simp; done) | (simp; omega)) | exact q_indexP tb rfl rfl rfl rfl (by omega) (by omega)) ?_
 refine Yq rfl (q_fieldE tb rfl rfl rfl gvo (by first | omega | (simp; done) | (simp; omega))) ?_
 refine Yq rfl (q_loadE tb rfl rfl gvo (i := k) (o := 0) (by omega) hel rfl) ?_
 refine Yq rfl (q_field tb rfl rfl rfl) ?_
 refine Yq rfl (q_load tb rfl rfl bxo rfl) ?_
 refine Yq rfl (q_move rfl) ?_
 refine Yq rfl (by first | exact q_index tb rfl rfl rfl rfl gvo (by omega) (by first | omega | (simp; done) | (simp; omega)) | exact q_indexP tb rfl rfl rfl rfl (by omega) (by omega)) ?_
 refine Yq rfl (q_fieldE tb rfl rfl rfl gvo (by first | omega | (simp; done) | (simp; omega))) ?_
 refine Yq rfl (q_loadE tb rfl rfl gvo (i := k) (o := 1) (by omega) hel rfl) ?_
 refine W_mk rfl (lo_bslice tb rfl rfl rfl (xs := ([y.f, y.r].map cI)) rfl rfl (by simp [cI]) rfl (by omega) rfl) rfl rfl rfl fun v54 => ?_
 refine W_call tb rfl rfl rfl rfl (ct_shotlineref05_numbers tRow _ [y.f, y.r] hok9 hle9 (by decide)) (ps_cons gvo no_ps) rfl ?_
 refine Yq rfl (t_cat (a := (hdK r 4 ++ rwK r.tb k)) (b := lnU tRow [y.f, y.r]) (r := hdK r 4 ++ rwK r.tb (k + 1)) rfl rfl (by omega) he9) ?_
 refine W_nil ?_
 refine Jq (q_assign rfl) ?_
 refine L_blk ?_
 refine C_region ?_
 refine Jq (q_move rfl) ?_
 refine Jq (q_add rfl rfl (by first | exact IntWalk.i64_in _ (by omega) | rfl)) ?_
 refine Jq (q_assign rfl) ?_
 refine L_end ?_
 exact fun ac_ wo_ hs_ => ⟨k + 1, (by omega), (by dsimp only; omega), hs_.weak ⟨rfl, rfl, rfl, trivial⟩ (fun h_ => h_.pk (by repeat (first | with_reducible exact pk_nil | refine pk_box rfl ?_ | refine pk_rd rfl ?_ | refine pk_sl rfl ?_ | with_reducible refine pk_app ?_ | with_reducible refine pk_app0 ?_ | with_reducible refine pk_app0L ?_ | with_reducible exact pk_tl | refine pk_var ?_)))⟩
 obtain rfl : k = r.tb.length := by omega
 refine C_exit ?_
 change C Tryz.prog _ _ _ _ _ _ _
 refine C_seq ?_
 refine C_region ?_
 refine Jq (q_move rfl) ?_
 refine Jq (q_assign rfl) ?_
 refine L_then ?_
 refine C_ret ?_
 exact ret_of (res1 rfl rfl) sub_nil (by intro r hr; cases hr) ⟨rfl, rfl⟩
set_option maxRecDepth 100000 in
set_option maxHeartbeats 2000000 in
theorem ct_shotlineref05_Same (v u : Value) (r : Ru) (hle : r.tb.length ≤ 100000) : Ct Tryz.prog 36 [.agg (cRu v r).toArray, .agg (cRu u r).toArray] [(v, 2, r.tb.map cOw), (u, 2, r.tb.map cOw)] (isV (.bool true)) := by
 refine Ct.of (N := 80) Tryz.func36 rfl rfl rfl fun w => ?_
 refine C_weak (E' := [(0, .agg (cRu v r).toArray), (1, .agg (cRu u r).toArray)]) (rs' := [rd v 2 (r.tb.map cOw), rd u 2 (r.tb.map cOw)]) ⟨rfl, rfl, trivial⟩ (fun _ h => h) ?_
 have hl1 := len_map cOw r.tb
 refine C_seq ?_
 refine C_region ?_
 refine L_box rfl rfl rfl fun g2 => ?_
 refine L_box rfl rfl rfl fun g3 => ?_
 refine Jq (q_assign rfl) ?_
 refine L_then ?_
 refine C_seq ?_
 refine C_seq ?_
 refine C_region ?_
 refine Jq (q_field tb rfl rfl rfl) ?_
 refine Jq (q_load tb rfl rfl bxo rfl) ?_
 refine Jq (q_len tb rfl rfl gvo) ?_
 refine Jq (q_field tb rfl rfl rfl) ?_
 refine Jq (q_load tb rfl rfl bxo rfl) ?_
 refine Jq (q_len tb rfl rfl gvo) ?_
 refine Jq (q_false (q_neq rfl rfl) (decide_eq_false (fun h => h rfl))) ?_
 refine Jq (q_move rfl) ?_
 refine Jg (q_field tb rfl rfl rfl) ?_
 refine Jg (q_loadA tb rfl rfl bxo rfl rfl) ?_
 refine Jg (q_field tb rfl rfl rfl) ?_
 refine Jg (q_loadA tb rfl rfl bxo rfl rfl) ?_
 refine Jg (q_false (q_neI (xs := [r.lo, r.hi]) (ys := [r.lo, r.hi]) eq63 (by omega) eg63 rfl rfl rfl rfl Iff.rfl) (by simp)) ?_
 refine Jq (q_pickF rfl rfl) ?_
 refine Jq (q_move rfl) ?_
 refine Jg (q_field tb rfl rfl rfl) ?_
 refine Jg (q_load tb rfl rfl bxo rfl) ?_
 refine Jg (q_field tb rfl rfl rfl) ?_
 refine Jg (q_load tb rfl rfl bxo rfl) ?_
 refine Jg (q_false (q_neq rfl rfl) (decide_eq_false (fun h => h rfl))) ?_
 refine Jq (q_pickF rfl rfl) ?_
 refine Jq (q_move rfl) ?_
 refine Jg (q_field tb rfl rfl rfl) ?_
 refine Jg (q_load tb rfl rfl bxo rfl) ?_
 refine Jg (q_field tb rfl rfl rfl) ?_
 refine Jg (q_load tb rfl rfl bxo rfl) ?_
 refine Jg (q_false (q_neq rfl rfl) (decide_eq_false (fun h => h rfl))) ?_
 refine Jq (q_pickF rfl rfl) ?_
 refine Jq (q_move rfl) ?_
 refine Jg (q_field tb rfl rfl rfl) ?_
 refine Jg (q_load tb rfl rfl bxo rfl) ?_
 refine Jg (q_field tb rfl rfl rfl) ?_
 refine Jg (q_load tb rfl rfl bxo rfl) ?_
 refine Jg (q_false (q_neq rfl rfl) (decide_eq_false (fun h => h rfl))) ?_
 refine Jq (q_pickF rfl rfl) ?_
 refine Jq (q_move rfl) ?_
 refine Jg (q_field tb rfl rfl rfl) ?_
 refine Jg (q_load tb rfl rfl bxo rfl) ?_
 refine Jg (q_field tb rfl rfl rfl) ?_
 refine Jg (q_load tb rfl rfl bxo rfl) ?_
 refine Jg (q_false (q_neq rfl rfl) (decide_eq_false (fun h => h rfl))) ?_
 refine Jq (q_pickF rfl rfl) ?_
 refine Jq (q_move rfl) ?_
 refine Jg (q_field tb rfl rfl rfl) ?_
 refine Jg (q_load tb rfl rfl bxo rfl) ?_
 refine Jg (q_field tb rfl rfl rfl) ?_
 refine Jg (q_load tb rfl rfl bxo rfl) ?_
 refine Jg (q_false (q_neq rfl rfl) (decide_eq_false (fun h => h rfl))) ?_
 refine Jq (q_pickF rfl rfl) ?_
 refine Jq (q_move rfl) ?_
 refine Jg (q_field tb rfl rfl rfl) ?_
 refine Jg (q_load tb rfl rfl bxo rfl) ?_
 refine Jg (q_field tb rfl rfl rfl) ?_
 refine Jg (q_load tb rfl rfl bxo rfl) ?_
 refine Jg (q_false (q_neq rfl rfl) (decide_eq_false (fun h => h rfl))) ?_
 refine Jq (q_pickF rfl rfl) ?_
 refine L_then ?_
 refine C_false rfl ?_
 refine C_skip_then ?_
 refine C_seq ?_
 refine C_seq ?_
 refine C_region ?_
 refine Jq (q_assign rfl) ?_
 refine L_then ?_
 refine C_block ?_
 refine C_loop (ι := Nat) (fun k => ([(2, .pointer (some ⟨g2, 0, none⟩)), (3, .pointer (some ⟨g3, 0, none⟩)), (5, .int .i64 (k : Int))], [box g2 65 (cRu v r), box g3 65 (cRu u r), rd v 2 (r.tb.map cOw), rd u 2 (r.tb.map cOw)])) (fun k => k ≤ r.tb.length) (fun k => r.tb.length - k) 0 (Nat.zero_le _) (fun a w hs => hs.weak ⟨rfl, rfl, rfl, trivial⟩ (fun h => h.pk (by repeat (first | with_reducible exact pk_nil | refine pk_box rfl ?_ | refine pk_rd rfl ?_ | refine pk_sl rfl ?_ | with_reducible refine pk_app ?_ | with_reducible refine pk_app0 ?_ | with_reducible refine pk_app0L ?_ | with_reducible exact pk_tl | refine pk_var ?_)))) ?_
 intro k hk
 dsimp only at hk ⊢
 refine C_seq ?_
 refine C_seq ?_
 refine C_region ?_
 refine Jq (q_move rfl) ?_
 refine Jq (q_field tb rfl rfl rfl) ?_
 refine Jq (q_load tb rfl rfl bxo rfl) ?_
 refine Jq (q_len tb rfl rfl gvo) ?_
 refine Jq (q_lss rfl rfl) ?_
 refine L_then ?_
 refine C_dec rfl (fun h2 => ?_) (fun h2 => ?_)
 obtain ⟨y, hy9⟩ := get_some r.tb (k := k) (by omega); have hel := map_get cOw hy9
 refine C_skip_then ?_
 refine C_seq ?_
 refine C_block ?_
 refine C_seq ?_
 refine C_draw (n := 11) [(0, false), (1, false), (2, false), (3, false), (4, false), (5, false), (6, false), (7, false), (8, false), (9, false), (10, false)] mixed (by kernel_rfl) ?_
 refine Yq rfl (q_field tb rfl rfl rfl) ?_
 refine Yq rfl (q_load tb rfl rfl bxo rfl) ?_
 refine Yq rfl (q_move rfl) ?_
 refine Yq rfl (by first | exact q_index tb rfl rfl rfl rfl gvo (by omega) (by first | omega | (simp; done) | (simp; omega)) | exact q_indexP tb rfl rfl rfl rfl (by omega) (by omega)) ?_
 refine Yq rfl (q_loadEA tb rfl rfl gvo (i := k) (o := 0) (by omega) hel rfl rfl) ?_
 refine Yq rfl (q_field tb rfl rfl rfl) ?_
 refine Yq rfl (q_load tb rfl rfl bxo rfl) ?_
 refine Yq rfl (q_move rfl) ?_
 refine Yq rfl (by first | exact q_index tb rfl rfl rfl rfl gvo (by omega) (by first | omega | (simp; done) | (simp; omega)) | exact q_indexP tb rfl rfl rfl rfl (by omega) (by omega)) ?_
 refine Yq rfl (q_loadEA tb rfl rfl gvo (i := k) (o := 0) (by omega) hel rfl rfl) ?_
 refine Yq rfl (q_false (q_neI (xs := [y.f, y.r]) (ys := [y.f, y.r]) eq175 (by omega) eg175 rfl rfl rfl rfl Iff.rfl) (by simp)) ?_
 refine W_nil ?_
 refine L_then ?_
 refine C_false rfl ?_
 refine C_skip_blk ?_
 refine C_region ?_
 refine Jq (q_move rfl) ?_
 refine Jq (q_add rfl rfl (by first | exact IntWalk.i64_in _ (by omega) | rfl)) ?_
 refine Jq (q_assign rfl) ?_
 refine L_end ?_
 exact fun ac_ wo_ hs_ => ⟨k + 1, (by omega), (by dsimp only; omega), hs_.weak ⟨rfl, rfl, rfl, trivial⟩ (fun h => h.pk (by repeat (first | with_reducible exact pk_nil | refine pk_box rfl ?_ | refine pk_rd rfl ?_ | refine pk_sl rfl ?_ | with_reducible refine pk_app ?_ | with_reducible refine pk_app0 ?_ | with_reducible refine pk_app0L ?_ | with_reducible exact pk_tl | refine pk_var ?_)))⟩
 refine C_exit ?_
 change C Tryz.prog _ _ _ _ _ _ _
 refine C_seq ?_
 refine C_region ?_
 refine Jq (q_assign rfl) ?_
 refine L_then ?_
 refine C_ret ?_
 exact ret_of (res1 rfl rfl) sub_nil (by intro r hr; cases hr) ⟨rfl, rfl⟩
end Go.Proofs.YtacndicgpkeobaaGreatDoor
