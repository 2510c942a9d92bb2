/-
  Walks: each function named returns what its model says. Conditions: those in front of each theorem.
-/
import Derived.Test.YtdmnejfpbbmcaaaXE
import Derived.Test.YtdmnejfpbbmcaaaXp2
namespace Go.Proofs.Ytdmnejfpbbmcaaa
open Go.RowKit

set_option maxRecDepth 100000 in
theorem ct_shotlinelaw05_few (t : Value) (r : Ru) : Ct Try.prog 53 [.agg (cRu t r).toArray] [(t, 2, r.tb.map cOw)] (isV (.bool (decide (r.tb.length ≤ 6 ∨ (r.tb.length > 20 ∧ r.tb.length ≤ 22))))) := by
 refine Ct.of (N := 19) Try.func53 rfl rfl rfl fun w => ?_
 refine C_weak (E' := [(0, .agg (cRu t r).toArray)]) (rs' := [rd t 2 (r.tb.map cOw)]) ⟨rfl, trivial⟩ (fun _ h => h) ?_
 have hl1 := len_map cOw r.tb
 refine C_seq ?_
 refine C_region ?_
 refine L_box rfl rfl rfl fun g1 => ?_
 refine Jq (q_assign rfl) ?_
 refine L_then ?_
 refine C_seq ?_
 refine C_region ?_
 refine Jq (q_field tb rfl rfl rfl) ?_
 refine Jq (q_load tb rfl rfl bxo rfl) ?_
 refine Jq (q_len tb rfl rfl gvo) ?_
 refine Jq (q_leq rfl rfl) ?_
 refine Jq (q_move rfl) ?_
 refine L_dec (d := 7) rfl (fun h1 => ?_) (fun h1 => ?_)
 iterate 5 refine Jk ?_
 iterate 4 refine Ju ?_
 refine Jk ?_
 refine Jq (q_pickT rfl rfl) ?_
 refine Jq (q_assign rfl) ?_
 refine L_then ?_
 refine C_ret ?_
 exact ret_of (res1 rfl rfl) sub_nil (by intro r hr; cases hr) ⟨(by first | rfl | exact congrArg Value.bool (decide_eq_decide.2 (by omega)) | exact congrArg Value.bool (decide_eq_true (by omega)).symm | exact congrArg Value.bool (decide_eq_false (by omega)).symm | exact congrArg Value.bool (decide_eq_true (by omega))), rfl⟩
 refine Jg (q_field tb rfl rfl rfl) ?_
 refine Jg (q_load tb rfl rfl bxo rfl) ?_
 refine Jg (q_len tb rfl rfl gvo) ?_
 refine Jg (q_gtr rfl rfl) ?_
 refine Jg (q_move rfl) ?_
 refine L_dec (d := 12) rfl (fun h2 => ?_) (fun h2 => ?_)
 refine Jg (q_field tb rfl rfl rfl) ?_
 refine Jg (q_load tb rfl rfl bxo rfl) ?_
 refine Jg (q_len tb rfl rfl gvo) ?_
 refine Jg (q_leq rfl rfl) ?_
 refine Jg (q_pickT rfl rfl) ?_
 refine Jq (q_pickF rfl rfl) ?_
 refine Jq (q_assign rfl) ?_
 refine L_then ?_
 refine C_ret ?_
 exact ret_of (res1 rfl rfl) sub_nil (by intro r hr; cases hr) ⟨(by first | rfl | exact congrArg Value.bool (decide_eq_decide.2 (by omega)) | exact congrArg Value.bool (decide_eq_true (by omega)).symm | exact congrArg Value.bool (decide_eq_false (by omega)).symm | exact congrArg Value.bool (decide_eq_true (by omega))), rfl⟩
 iterate 4 refine Jk ?_
 refine Jg (q_pickF rfl rfl) ?_
 refine Jq (q_pickF rfl rfl) ?_
 refine Jq (q_assign rfl) ?_
 refine L_then ?_
 refine C_ret ?_
 exact ret_of (res1 rfl rfl) sub_nil (by intro r hr; cases hr) ⟨(by first | rfl | exact congrArg Value.bool (decide_eq_decide.2 (by omega)) | exact congrArg Value.bool (decide_eq_true (by omega)).symm | exact congrArg Value.bool (decide_eq_false (by omega)).symm | exact congrArg Value.bool (decide_eq_true (by omega))), rfl⟩
set_option maxRecDepth 100000 in
theorem ct_shotlineref05_Copy (t : Value) (r : Ru) (hlt : r.tb.length ≤ 100000) : Ct Try.prog 27 [.agg (cRu t r).toArray] [(t, 2, r.tb.map cOw)] (fun y rs => ∃ a, y = .agg (cRu a r).toArray ∧ rs = [sl a 127 2 (r.tb.map cOw)]) := by
 refine Ct.of (N := 9) Try.func27 rfl rfl rfl fun w => ?_
 refine C_weak (E' := [(0, .agg (cRu t r).toArray)]) (rs' := [rd t 2 (r.tb.map cOw)]) ⟨rfl, trivial⟩ (fun _ h => h) ?_
 have hl1 := len_map cOw r.tb
 refine C_seq ?_
 refine C_region ?_
 refine L_box rfl rfl rfl fun g1 => ?_
 refine L_alloc tb rfl rfl fun g2 => ?_
 refine L_then ?_
 refine C_seq ?_
 refine C_region ?_
 refine L_mk (lo_bslice tb rfl rfl rfl (xs := []) rfl rfl (by simp) rfl (by omega) rfl) rfl rfl rfl fun v3 => ?_
 refine Jq (q_field tb rfl rfl rfl) ?_
 refine Jq (q_load tb rfl rfl bxo rfl) ?_
 refine L_ap tb rfl rfl rfl rfl gvo (oneOw r.tb) (by simp [maxLen]; omega) (by simp; omega) fun v6 => ?_
 refine L_form (v := v6) gvo (fun A6 c6 hv6 _ => ?_)
 subst hv6
 refine Jq (q_field tb rfl rfl rfl) ?_
 refine L_st tb rfl rfl ?_
 refine L_then ?_
 refine C_seq ?_
 refine C_region ?_
 refine Jq (q_loadA tb rfl rfl bxo rfl rfl) ?_
 refine L_st tb rfl rfl ?_
 refine L_then ?_
 refine C_ret ?_
 exact ret_of (rs' := [sl _ 127 2 (r.tb.map cOw)]) (resC tb rfl rfl rfl bxo rfl) (fun w_ h_ => h_.pk (by repeat (first | with_reducible exact pk_nil | refine pk_box rfl ?_ | refine pk_rd rfl ?_ | refine pk_sl rfl ?_ | with_reducible refine pk_app ?_ | with_reducible refine pk_app0 ?_ | with_reducible refine pk_app0L ?_ | with_reducible exact pk_tl | refine pk_var ?_))) own1 ⟨_, rfl, rfl⟩
set_option maxRecDepth 100000 in
theorem ct_shotlinebase_CopyPlan (nm : ByteArray) (sf : Int) (v u : Value) (gs : List Gs) (ls : List Dl) (hle : gs.length ≤ 100000) (hle2 : ls.length ≤ 100000) : Ct Try.prog 22 [.agg (cPl nm sf v u).toArray] [(v, 2, gs.map cGs), (u, 3, ls.map cDl)] (fun y rs => ∃ a b, y = .agg (cPl nm sf a b).toArray ∧ rs = [sl b 82 3 (ls.map cDl), sl a 80 2 (gs.map cGs)]) := by
 refine Ct.of (N := 12) Try.func22 rfl rfl rfl fun w => ?_
 refine C_weak (E' := [(0, .agg (cPl nm sf v u).toArray)]) (rs' := [rd v 2 (gs.map cGs), rd u 3 (ls.map cDl)]) ⟨rfl, trivial⟩ (fun _ h => h) ?_
 refine C_seq ?_
 refine C_region ?_
 refine L_box rfl rfl rfl fun g1 => ?_
 refine L_alloc tb rfl rfl fun g2 => ?_
 refine L_then ?_
 refine C_seq ?_
 refine C_draw (n := 7) [(0, false), (1, false), (3, false), (4, false), (2, true), (6, false), (5, true)] mixed (by kernel_rfl) ?_
 refine Yq rfl (q_field tb rfl rfl rfl) ?_
 refine Yq rfl (q_load tb rfl rfl bxo rfl) ?_
 refine Yq rfl (q_field tb rfl rfl rfl) ?_
 refine Yq rfl (q_load tb rfl rfl bxo rfl) ?_
 refine W_callSF tb rfl rfl rfl rfl (ct_shotlinebase_CopyGases v gs hle) (ps_cons gvo no_ps) rfl fun A5 n5 c5 => ?_
 refine Yq rfl (q_field tb rfl rfl rfl) ?_
 refine W_callSF tb rfl rfl rfl rfl (ct_shotlinebase_CopyLegs u ls hle2) (ps_cons gvo no_ps) rfl fun A8 n8 c8 => ?_
 refine W_nil ?_
 refine L_st tb rfl rfl ?_
 refine Jq (q_field tb rfl rfl rfl) ?_
 refine L_st tb rfl rfl ?_
 refine L_then ?_
 refine C_seq ?_
 refine C_region ?_
 refine Jq (q_loadA tb rfl rfl bxo rfl rfl) ?_
 refine L_st tb rfl rfl ?_
 refine L_then ?_
 refine C_ret ?_
 exact ret_of (rs' := [sl _ 82 3 (ls.map cDl), sl _ 80 2 (gs.map cGs)]) (resC tb rfl rfl rfl bxo rfl) (fun w_ h_ => h_.sub (by repeat (first | exact List.Sublist.refl _ | apply List.Sublist.cons_cons | apply List.Sublist.cons))) (by intro r hr; simp only [List.mem_cons, List.not_mem_nil, or_false] at hr; rcases hr with rfl | rfl <;> exact sl_own _ _ _ _) ⟨_, _, rfl, rfl⟩
end Go.Proofs.Ytdmnejfpbbmcaaa
