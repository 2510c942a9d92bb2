/-
  Walks: each function named returns what its model says. Conditions: those in front of each theorem.
-/
import Derived.Test.YtacndicgpkeobaaGreatDoorK
import Derived.Test.YtacndicgpkeobaaGreatDoorR
namespace Go.Proofs.YtacndicgpkeobaaGreatDoor
open Go.RowKit

set_option maxRecDepth 100000 in
theorem ct_shotlinelaw03_One  : Ct Tryz.prog 67 [] [] (isSl 120 4 ([cCp oneC])) := by
 refine Ct.of (N := 3) Tryz.func67 rfl rfl rfl fun w => ?_
 refine C_weak (E' := []) (rs' := []) trivial (fun _ h => h) ?_
 refine C_seq ?_
 refine C_region ?_
 refine Jq (q_assign rfl) ?_
 refine L_then ?_
 refine C_seq ?_
 refine C_region ?_
 refine Jq (by first | exact q_build tb rfl rfl rfl rfl | exact q_buildArr tb rfl rfl rfl rfl rfl) ?_
 refine L_mk (lo_bslice tb rfl rfl rfl (xs := [cCp oneC]) rfl rfl (by simp [cCp]) rfl (by omega) rfl) rfl rfl rfl fun v2 => ?_
 refine Jq (q_assign rfl) ?_
 refine L_then ?_
 refine C_ret ?_
 exact ret_of (rs' := [sl v2 120 4 [cCp oneC]]) (res1 rfl rfl) (fun _ h => h.sub (by repeat (first | exact List.Sublist.refl _ | apply List.Sublist.cons_cons | apply List.Sublist.cons))) own1 rfl
set_option maxRecDepth 100000 in
theorem ct_shotlinelaw03_Fresh  : Ct Tryz.prog 68 [] [] (isSl 134 4 ([cLd freshL])) := by
 refine Ct.of (N := 4) Tryz.func68 rfl rfl rfl fun w => ?_
 refine C_weak (E' := []) (rs' := []) trivial (fun _ h => h) ?_
 refine C_seq ?_
 refine C_region ?_
 refine Jq (q_assign rfl) ?_
 refine L_then ?_
 refine C_seq ?_
 refine C_region ?_
 refine Jq (by first | exact q_build tb rfl rfl rfl rfl | exact q_buildArr tb rfl rfl rfl rfl rfl) ?_
 refine Jq (by first | exact q_build tb rfl rfl rfl rfl | exact q_buildArr tb rfl rfl rfl rfl rfl) ?_
 refine L_mk (lo_bslice tb rfl rfl rfl (xs := [cLd freshL]) rfl rfl (by simp [cLd]) rfl (by omega) rfl) rfl rfl rfl fun v3 => ?_
 refine Jq (q_assign rfl) ?_
 refine L_then ?_
 refine C_ret ?_
 exact ret_of (rs' := [sl v3 134 4 [cLd freshL]]) (res1 rfl rfl) (fun _ h => h.sub (by repeat (first | exact List.Sublist.refl _ | apply List.Sublist.cons_cons | apply List.Sublist.cons))) own1 rfl
set_option maxRecDepth 100000 in
theorem ct_shotlinelaw03_Down  : Ct Tryz.prog 69 [] [] (isV (.agg (cLg downL).toArray)) := by
 refine Ct.of (N := 3) Tryz.func69 rfl rfl rfl fun w => ?_
 refine C_weak (E' := []) (rs' := []) trivial (fun _ h => h) ?_
 refine C_seq ?_
 refine C_region ?_
 refine L_alloc tb rfl rfl fun g0 => ?_
 refine L_then ?_
 refine C_seq ?_
 refine C_region ?_
 refine Jq (by first | exact q_build tb rfl rfl rfl rfl | exact q_buildArr tb rfl rfl rfl rfl rfl) ?_
 refine Jq (by first | exact q_build tb rfl rfl rfl rfl | exact q_buildArr tb rfl rfl rfl rfl rfl) ?_
 refine L_st tb rfl rfl ?_
 refine L_then ?_
 refine C_ret ?_
 exact ret_of (resC tb rfl rfl rfl m0 rfl) sub_nil (by intro r hr; cases hr) ⟨rfl, rfl⟩
theorem ct_ex_loaded (v u : Value) : Ct Tryz.prog 66 [v, u, .agg (cLg downL).toArray, .int .i64 1] [(v, 4, [cCp oneC]), (u, 4, [cLd freshL])] (isSlN 134 4 [cLd ⟨⟨1087308, 1679809⟩, ⟨0, 0⟩⟩] (.int .i64 0)) := by
 have h := ct_tissue_Loaded v u downL 1 [oneC] [freshL] (by decide) (by decide)
 rw [loaded_ex] at h
 exact h

theorem ct_ex_ceil (v u : Value) : Ct Tryz.prog 70 [v, u, .int .i64 500] [(v, 4, [cCp oneC]), (u, 4, [cLd ⟨⟨1925230, 1925230⟩, ⟨0, 0⟩⟩])] (isV (.tuple #[.agg #[.int .i64 1341, .int .i64 1341], .int .i64 0])) := by
 have h := ct_tissue_Ceiling v u 500 [oneC] [⟨⟨1925230, 1925230⟩, ⟨0, 0⟩⟩] (by decide) (by decide)
 rw [ceil_ex] at h
 exact h

theorem ct_ex_root : Ct Tryz.prog 65 [.int .i64 2] [] (isV (.tuple #[.agg #[.int .i64 840896415, .int .i64 840896416], .int .i64 0])) := by
 have h := ct_tissue_RootOf 2
 rw [root_ex] at h
 exact h

set_option maxRecDepth 100000 in
theorem ct_shotlinelaw03_awake  : Ct Tryz.prog 18 [] [] (isV (.bool true)) := by
 refine Ct.of (N := 67) Tryz.func18 rfl rfl rfl fun w => ?_
 refine C_weak (E' := []) (rs' := []) trivial (fun _ h => h) ?_
 refine C_seq ?_
 refine C_region ?_
 refine Jq (q_assign rfl) ?_
 refine L_then ?_
 refine C_seq ?_
 refine C_region ?_
 refine L_call tb rfl rfl (ct_ex_root) no_ps rfl ?_
 refine Jq (q_move rfl) ?_
 refine Jq (q_ext0 rfl) ?_
 refine Jq (q_ext1 rfl) ?_
 refine L_alloc tb rfl rfl fun g1 => ?_
 refine L_st tb rfl rfl ?_
 refine Jq (q_assign rfl) ?_
 refine L_then ?_
 refine C_seq ?_
 refine C_region ?_
 refine L_callS tb rfl rfl (ct_shotlinelaw03_One) no_ps rfl fun v12 => ?_
 refine L_callS tb rfl rfl (ct_shotlinelaw03_Fresh) no_ps rfl fun v13 => ?_
 refine L_call tb rfl rfl (ct_shotlinelaw03_Down) no_ps rfl ?_
 refine L_callSN tb rfl rfl (ct_ex_loaded _ _) (ps_cons (by first | exact gr0 | exact gs0 | exact (gv1 gr0) | exact (gv1 gs0) | exact (gv1 (gv1 gr0)) | exact (gv1 (gv1 gs0)) | exact (gv1 (gv1 (gv1 gr0))) | exact (gv1 (gv1 (gv1 gs0))) | exact (gv1 (gv1 (gv1 (gv1 gr0)))) | exact (gv1 (gv1 (gv1 (gv1 gs0)))) | exact (gv1 (gv1 (gv1 (gv1 (gv1 gr0))))) | exact (gv1 (gv1 (gv1 (gv1 (gv1 gs0))))) | exact (gv1 (gv1 (gv1 (gv1 (gv1 (gv1 gr0)))))) | exact (gv1 (gv1 (gv1 (gv1 (gv1 (gv1 gs0)))))) | exact gvd gr0 (by omega) | exact gvd gs0 (by omega) | exact gvd (gv1 gr0) (by omega) | exact gvd (gv1 gs0) (by omega) | exact gvd (gv1 (gv1 gr0)) (by omega) | exact gvd (gv1 (gv1 gs0)) (by omega) | exact gvd (gv1 (gv1 (gv1 gr0))) (by omega) | exact gvd (gv1 (gv1 (gv1 gs0))) (by omega)) (ps_cons (by first | exact gr0 | exact gs0 | exact (gv1 gr0) | exact (gv1 gs0) | exact (gv1 (gv1 gr0)) | exact (gv1 (gv1 gs0)) | exact (gv1 (gv1 (gv1 gr0))) | exact (gv1 (gv1 (gv1 gs0))) | exact (gv1 (gv1 (gv1 (gv1 gr0)))) | exact (gv1 (gv1 (gv1 (gv1 gs0)))) | exact (gv1 (gv1 (gv1 (gv1 (gv1 gr0))))) | exact (gv1 (gv1 (gv1 (gv1 (gv1 gs0))))) | exact (gv1 (gv1 (gv1 (gv1 (gv1 (gv1 gr0)))))) | exact (gv1 (gv1 (gv1 (gv1 (gv1 (gv1 gs0)))))) | exact gvd gr0 (by omega) | exact gvd gs0 (by omega) | exact gvd (gv1 gr0) (by omega) | exact gvd (gv1 gs0) (by omega) | exact gvd (gv1 (gv1 gr0)) (by omega) | exact gvd (gv1 (gv1 gs0)) (by omega) | exact gvd (gv1 (gv1 (gv1 gr0))) (by omega) | exact gvd (gv1 (gv1 (gv1 gs0))) (by omega)) no_ps)) rfl fun v15 => ?_
 refine Jq (q_move rfl) ?_
 refine Jq (q_ext0 rfl) ?_
 refine Jq (q_ext1 rfl) ?_
 refine Jq (q_assign rfl) ?_
 refine Jq (q_assign rfl) ?_
 refine L_then ?_
 refine C_seq ?_
 refine C_region ?_
 refine L_callS tb rfl rfl (ct_shotlinelaw03_One) no_ps rfl fun v19 => ?_
 refine Jq (by first | exact q_build tb rfl rfl rfl rfl | exact q_buildArr tb rfl rfl rfl rfl rfl) ?_
 refine Jq (by first | exact q_build tb rfl rfl rfl rfl | exact q_buildArr tb rfl rfl rfl rfl rfl) ?_
 refine L_mk (lo_bslice tb rfl rfl rfl (xs := [cLd ⟨⟨1925230, 1925230⟩, ⟨0, 0⟩⟩]) rfl rfl (by simp [cLd]) rfl (by omega) rfl) rfl rfl rfl fun v22 => ?_
 refine L_call tb rfl rfl (ct_ex_ceil _ _) (ps_cons (by first | exact gr0 | exact gs0 | exact (gv1 gr0) | exact (gv1 gs0) | exact (gv1 (gv1 gr0)) | exact (gv1 (gv1 gs0)) | exact (gv1 (gv1 (gv1 gr0))) | exact (gv1 (gv1 (gv1 gs0))) | exact (gv1 (gv1 (gv1 (gv1 gr0)))) | exact (gv1 (gv1 (gv1 (gv1 gs0)))) | exact (gv1 (gv1 (gv1 (gv1 (gv1 gr0))))) | exact (gv1 (gv1 (gv1 (gv1 (gv1 gs0))))) | exact (gv1 (gv1 (gv1 (gv1 (gv1 (gv1 gr0)))))) | exact (gv1 (gv1 (gv1 (gv1 (gv1 (gv1 gs0)))))) | exact gvd gr0 (by omega) | exact gvd gs0 (by omega) | exact gvd (gv1 gr0) (by omega) | exact gvd (gv1 gs0) (by omega) | exact gvd (gv1 (gv1 gr0)) (by omega) | exact gvd (gv1 (gv1 gs0)) (by omega) | exact gvd (gv1 (gv1 (gv1 gr0))) (by omega) | exact gvd (gv1 (gv1 (gv1 gs0))) (by omega)) (ps_cons (by first | exact gr0 | exact gs0 | exact (gv1 gr0) | exact (gv1 gs0) | exact (gv1 (gv1 gr0)) | exact (gv1 (gv1 gs0)) | exact (gv1 (gv1 (gv1 gr0))) | exact (gv1 (gv1 (gv1 gs0))) | exact (gv1 (gv1 (gv1 (gv1 gr0)))) | exact (gv1 (gv1 (gv1 (gv1 gs0)))) | exact (gv1 (gv1 (gv1 (gv1 (gv1 gr0))))) | exact (gv1 (gv1 (gv1 (gv1 (gv1 gs0))))) | exact (gv1 (gv1 (gv1 (gv1 (gv1 (gv1 gr0)))))) | exact (gv1 (gv1 (gv1 (gv1 (gv1 (gv1 gs0)))))) | exact gvd gr0 (by omega) | exact gvd gs0 (by omega) | exact gvd (gv1 gr0) (by omega) | exact gvd (gv1 gs0) (by omega) | exact gvd (gv1 (gv1 gr0)) (by omega) | exact gvd (gv1 (gv1 gs0)) (by omega) | exact gvd (gv1 (gv1 (gv1 gr0))) (by omega) | exact gvd (gv1 (gv1 (gv1 gs0))) (by omega)) no_ps)) rfl ?_
 refine Jq (q_move rfl) ?_
 refine Jq (q_ext0 rfl) ?_
 refine Jq (q_ext1 rfl) ?_
 refine L_alloc tb rfl rfl fun g5 => ?_
 refine L_st tb rfl rfl ?_
 refine Jq (q_assign rfl) ?_
 refine L_then ?_
 refine C_seq ?_
 refine C_region ?_
 refine Jq (q_move rfl) ?_
 refine Jq (q_true (q_eql rfl rfl) rfl) ?_
 refine Jq (q_move rfl) ?_
 refine Jg (q_loadA tb rfl rfl (by first | exact m0 | exact m1 | exact m2 | exact m3 | exact m4 | exact m5 | exact m6 | exact m7 | exact m8) rfl rfl) ?_
 refine Jg (by first | exact q_build tb rfl rfl rfl rfl | exact q_buildArr tb rfl rfl rfl rfl rfl) ?_
 refine Jg (q_true (q_eqI (xs := [840896415, 840896416]) (ys := [840896415, 840896416]) eq122 (by omega) eg122 rfl rfl rfl rfl Iff.rfl) (by decide)) ?_
 refine Jq (q_pickT rfl rfl) ?_
 refine Jq (q_move rfl) ?_
 refine Jg (q_move rfl) ?_
 refine Jg (q_true (q_eql rfl rfl) rfl) ?_
 refine Jq (q_pickT rfl rfl) ?_
 refine Jq (q_move rfl) ?_
 refine Jg (q_move rfl) ?_
 refine Jg (q_len tb rfl rfl (by first | exact gr0 | exact gs0 | exact (gv1 gr0) | exact (gv1 gs0) | exact (gv1 (gv1 gr0)) | exact (gv1 (gv1 gs0)) | exact (gv1 (gv1 (gv1 gr0))) | exact (gv1 (gv1 (gv1 gs0))) | exact (gv1 (gv1 (gv1 (gv1 gr0)))) | exact (gv1 (gv1 (gv1 (gv1 gs0)))) | exact (gv1 (gv1 (gv1 (gv1 (gv1 gr0))))) | exact (gv1 (gv1 (gv1 (gv1 (gv1 gs0))))) | exact (gv1 (gv1 (gv1 (gv1 (gv1 (gv1 gr0)))))) | exact (gv1 (gv1 (gv1 (gv1 (gv1 (gv1 gs0)))))) | exact gvd gr0 (by omega) | exact gvd gs0 (by omega) | exact gvd (gv1 gr0) (by omega) | exact gvd (gv1 gs0) (by omega) | exact gvd (gv1 (gv1 gr0)) (by omega) | exact gvd (gv1 (gv1 gs0)) (by omega) | exact gvd (gv1 (gv1 (gv1 gr0))) (by omega) | exact gvd (gv1 (gv1 (gv1 gs0))) (by omega))) ?_
 refine Jg (q_true (q_eql rfl rfl) rfl) ?_
 refine Jq (q_pickT rfl rfl) ?_
 refine Jq (q_move rfl) ?_
 refine Jg (q_move rfl) ?_
 refine Jg (by first | exact q_index tb rfl rfl rfl rfl (by first | exact gr0 | exact gs0 | exact (gv1 gr0) | exact (gv1 gs0) | exact (gv1 (gv1 gr0)) | exact (gv1 (gv1 gs0)) | exact (gv1 (gv1 (gv1 gr0))) | exact (gv1 (gv1 (gv1 gs0))) | exact (gv1 (gv1 (gv1 (gv1 gr0)))) | exact (gv1 (gv1 (gv1 (gv1 gs0)))) | exact (gv1 (gv1 (gv1 (gv1 (gv1 gr0))))) | exact (gv1 (gv1 (gv1 (gv1 (gv1 gs0))))) | exact (gv1 (gv1 (gv1 (gv1 (gv1 (gv1 gr0)))))) | exact (gv1 (gv1 (gv1 (gv1 (gv1 (gv1 gs0)))))) | exact gvd gr0 (by omega) | exact gvd gs0 (by omega) | exact gvd (gv1 gr0) (by omega) | exact gvd (gv1 gs0) (by omega) | exact gvd (gv1 (gv1 gr0)) (by omega) | exact gvd (gv1 (gv1 gs0)) (by omega) | exact gvd (gv1 (gv1 (gv1 gr0))) (by omega) | exact gvd (gv1 (gv1 (gv1 gs0))) (by omega)) (by omega) (by first | omega | (simp; done) | (simp; omega)) | exact q_indexP tb rfl rfl rfl rfl (by omega) (by omega)) ?_
 refine Jg (q_fieldE tb rfl rfl rfl (by first | exact gr0 | exact gs0 | exact (gv1 gr0) | exact (gv1 gs0) | exact (gv1 (gv1 gr0)) | exact (gv1 (gv1 gs0)) | exact (gv1 (gv1 (gv1 gr0))) | exact (gv1 (gv1 (gv1 gs0))) | exact (gv1 (gv1 (gv1 (gv1 gr0)))) | exact (gv1 (gv1 (gv1 (gv1 gs0)))) | exact (gv1 (gv1 (gv1 (gv1 (gv1 gr0))))) | exact (gv1 (gv1 (gv1 (gv1 (gv1 gs0))))) | exact (gv1 (gv1 (gv1 (gv1 (gv1 (gv1 gr0)))))) | exact (gv1 (gv1 (gv1 (gv1 (gv1 (gv1 gs0)))))) | exact gvd gr0 (by omega) | exact gvd gs0 (by omega) | exact gvd (gv1 gr0) (by omega) | exact gvd (gv1 gs0) (by omega) | exact gvd (gv1 (gv1 gr0)) (by omega) | exact gvd (gv1 (gv1 gs0)) (by omega) | exact gvd (gv1 (gv1 (gv1 gr0))) (by omega) | exact gvd (gv1 (gv1 (gv1 gs0))) (by omega)) (by first | omega | (simp; done) | (simp; omega))) ?_
 refine Jg (q_loadEA tb rfl rfl (by first | exact gr0 | exact gs0 | exact (gv1 gr0) | exact (gv1 gs0) | exact (gv1 (gv1 gr0)) | exact (gv1 (gv1 gs0)) | exact (gv1 (gv1 (gv1 gr0))) | exact (gv1 (gv1 (gv1 gs0))) | exact (gv1 (gv1 (gv1 (gv1 gr0)))) | exact (gv1 (gv1 (gv1 (gv1 gs0)))) | exact (gv1 (gv1 (gv1 (gv1 (gv1 gr0))))) | exact (gv1 (gv1 (gv1 (gv1 (gv1 gs0))))) | exact (gv1 (gv1 (gv1 (gv1 (gv1 (gv1 gr0)))))) | exact (gv1 (gv1 (gv1 (gv1 (gv1 (gv1 gs0)))))) | exact gvd gr0 (by omega) | exact gvd gs0 (by omega) | exact gvd (gv1 gr0) (by omega) | exact gvd (gv1 gs0) (by omega) | exact gvd (gv1 (gv1 gr0)) (by omega) | exact gvd (gv1 (gv1 gs0)) (by omega) | exact gvd (gv1 (gv1 (gv1 gr0))) (by omega) | exact gvd (gv1 (gv1 (gv1 gs0))) (by omega)) (i := 0) (o := 0) (by rfl) rfl rfl rfl) ?_
 refine Jg (by first | exact q_build tb rfl rfl rfl rfl | exact q_buildArr tb rfl rfl rfl rfl rfl) ?_
 refine Jg (q_true (q_eqI (xs := [1087308, 1679809]) (ys := [1087308, 1679809]) eq122 (by omega) eg122 rfl rfl rfl rfl Iff.rfl) (by decide)) ?_
 refine Jq (q_pickT rfl rfl) ?_
 refine Jq (q_move rfl) ?_
 refine Jg (q_move rfl) ?_
 refine Jg (by first | exact q_index tb rfl rfl rfl rfl (by first | exact gr0 | exact gs0 | exact (gv1 gr0) | exact (gv1 gs0) | exact (gv1 (gv1 gr0)) | exact (gv1 (gv1 gs0)) | exact (gv1 (gv1 (gv1 gr0))) | exact (gv1 (gv1 (gv1 gs0))) | exact (gv1 (gv1 (gv1 (gv1 gr0)))) | exact (gv1 (gv1 (gv1 (gv1 gs0)))) | exact (gv1 (gv1 (gv1 (gv1 (gv1 gr0))))) | exact (gv1 (gv1 (gv1 (gv1 (gv1 gs0))))) | exact (gv1 (gv1 (gv1 (gv1 (gv1 (gv1 gr0)))))) | exact (gv1 (gv1 (gv1 (gv1 (gv1 (gv1 gs0)))))) | exact gvd gr0 (by omega) | exact gvd gs0 (by omega) | exact gvd (gv1 gr0) (by omega) | exact gvd (gv1 gs0) (by omega) | exact gvd (gv1 (gv1 gr0)) (by omega) | exact gvd (gv1 (gv1 gs0)) (by omega) | exact gvd (gv1 (gv1 (gv1 gr0))) (by omega) | exact gvd (gv1 (gv1 (gv1 gs0))) (by omega)) (by omega) (by first | omega | (simp; done) | (simp; omega)) | exact q_indexP tb rfl rfl rfl rfl (by omega) (by omega)) ?_
 refine Jg (q_fieldE tb rfl rfl rfl (by first | exact gr0 | exact gs0 | exact (gv1 gr0) | exact (gv1 gs0) | exact (gv1 (gv1 gr0)) | exact (gv1 (gv1 gs0)) | exact (gv1 (gv1 (gv1 gr0))) | exact (gv1 (gv1 (gv1 gs0))) | exact (gv1 (gv1 (gv1 (gv1 gr0)))) | exact (gv1 (gv1 (gv1 (gv1 gs0)))) | exact (gv1 (gv1 (gv1 (gv1 (gv1 gr0))))) | exact (gv1 (gv1 (gv1 (gv1 (gv1 gs0))))) | exact (gv1 (gv1 (gv1 (gv1 (gv1 (gv1 gr0)))))) | exact (gv1 (gv1 (gv1 (gv1 (gv1 (gv1 gs0)))))) | exact gvd gr0 (by omega) | exact gvd gs0 (by omega) | exact gvd (gv1 gr0) (by omega) | exact gvd (gv1 gs0) (by omega) | exact gvd (gv1 (gv1 gr0)) (by omega) | exact gvd (gv1 (gv1 gs0)) (by omega) | exact gvd (gv1 (gv1 (gv1 gr0))) (by omega) | exact gvd (gv1 (gv1 (gv1 gs0))) (by omega)) (by first | omega | (simp; done) | (simp; omega))) ?_
 refine Jg (q_loadEA tb rfl rfl (by first | exact gr0 | exact gs0 | exact (gv1 gr0) | exact (gv1 gs0) | exact (gv1 (gv1 gr0)) | exact (gv1 (gv1 gs0)) | exact (gv1 (gv1 (gv1 gr0))) | exact (gv1 (gv1 (gv1 gs0))) | exact (gv1 (gv1 (gv1 (gv1 gr0)))) | exact (gv1 (gv1 (gv1 (gv1 gs0)))) | exact (gv1 (gv1 (gv1 (gv1 (gv1 gr0))))) | exact (gv1 (gv1 (gv1 (gv1 (gv1 gs0))))) | exact (gv1 (gv1 (gv1 (gv1 (gv1 (gv1 gr0)))))) | exact (gv1 (gv1 (gv1 (gv1 (gv1 (gv1 gs0)))))) | exact gvd gr0 (by omega) | exact gvd gs0 (by omega) | exact gvd (gv1 gr0) (by omega) | exact gvd (gv1 gs0) (by omega) | exact gvd (gv1 (gv1 gr0)) (by omega) | exact gvd (gv1 (gv1 gs0)) (by omega) | exact gvd (gv1 (gv1 (gv1 gr0))) (by omega) | exact gvd (gv1 (gv1 (gv1 gs0))) (by omega)) (i := 0) (o := 2) (by rfl) rfl rfl rfl) ?_
 refine Jg (by first | exact q_build tb rfl rfl rfl rfl | exact q_buildArr tb rfl rfl rfl rfl rfl) ?_
 refine Jg (q_true (q_eqI (xs := [0, 0]) (ys := [0, 0]) eq122 (by omega) eg122 rfl rfl rfl rfl Iff.rfl) (by decide)) ?_
 refine Jq (q_pickT rfl rfl) ?_
 refine Jq (q_move rfl) ?_
 refine Jg (q_move rfl) ?_
 refine Jg (q_true (q_eql rfl rfl) rfl) ?_
 refine Jq (q_pickT rfl rfl) ?_
 refine Jq (q_move rfl) ?_
 refine Jg (q_loadA tb rfl rfl (by first | exact m0 | exact m1 | exact m2 | exact m3 | exact m4 | exact m5 | exact m6 | exact m7 | exact m8) rfl rfl) ?_
 refine Jg (by first | exact q_build tb rfl rfl rfl rfl | exact q_buildArr tb rfl rfl rfl rfl rfl) ?_
 refine Jg (q_true (q_eqI (xs := [1341, 1341]) (ys := [1341, 1341]) eq122 (by omega) eg122 rfl rfl rfl rfl Iff.rfl) (by decide)) ?_
 refine Jq (q_pickT rfl rfl) ?_
 refine Jq (q_assign rfl) ?_
 refine L_then ?_
 refine C_ret ?_
 exact ret_of (res1 rfl rfl) sub_nil (by intro r hr; cases hr) ⟨rfl, rfl⟩
end Go.Proofs.YtacndicgpkeobaaGreatDoor
