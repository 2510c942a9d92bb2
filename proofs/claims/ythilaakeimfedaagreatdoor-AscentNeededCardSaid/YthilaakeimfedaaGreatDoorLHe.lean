/-
  Walks: each function named returns what its model says. Conditions: those in front of each theorem.
-/
import Derived.Test.YthilaakeimfedaaGreatDoorAD
import Derived.Test.YthilaakeimfedaaGreatDoorAE
import Derived.Test.YthilaakeimfedaaGreatDoorT
import Derived.Test.YthilaakeimfedaaGreatDoorU
import Derived.Test.YthilaakeimfedaaGreatDoorEqT
import Derived.Test.YthilaakeimfedaaGreatDoorShTreeH
namespace Go.Proofs.YthilaakeimfedaaGreatDoor
set_option maxRecDepth 100000
set_option maxHeartbeats 4000000
open Go.RowKit

set_option maxRecDepth 100000 in
theorem ct_shotlinebase_CopyInts (v : Value) (ns : List Int) (hle : ns.length ≤ 100000) : Ct Tryz.prog 121 [v] [(v, 1, ns.map cI)] (isSl 3 1 (ns.map cI)) := by
 refine Ct.of (N := 6) Tryz.func121 rfl rfl rfl fun w => ?_
 refine C_weak (E' := [(0, v)]) (rs' := [rd v 1 (ns.map cI)]) ⟨rfl, trivial⟩ (fun _ h => h) ?_
 have hl := len_map cI ns
 refine C_seq ?_
 refine C_region ?_
 refine Jq (q_assign rfl) ?_
 refine L_then ?_
 refine C_seq ?_
 refine C_region ?_
 refine L_mk (lo_bslice tb rfl rfl rfl (xs := []) rfl rfl (by simp) rfl (by omega) rfl) rfl rfl rfl fun v3 => ?_
 refine Jq (q_move rfl) ?_
 refine L_ap tb rfl rfl rfl rfl gvo (cI_flat ns) (by simp [maxLen]; omega) (by simp; omega) fun v5 => ?_
 refine Jq (q_assign rfl) ?_
 refine L_then ?_
 refine C_ret ?_
 exact ret_of (rs' := [sl v5 3 1 (ns.map cI)]) (res1 rfl rfl) (fun _ h => h.sub (by repeat (first | exact List.Sublist.refl _ | apply List.Sublist.cons_cons | apply List.Sublist.cons))) own1 rfl
set_option maxRecDepth 100000 in
theorem ct_shotlinelaw04_schedule (a b : Value) (L : List Dl) (F : List Int) (hla : L.length ≤ 100000) (hlb : F.length ≤ 100000) : Ct Tryz.prog 49 [.agg #[a, b]] [(a, 3, L.map cDl), (b, 1, F.map cI)] (isSo 51 3 L F) := by
 refine Ct.of (N := 10) Tryz.func49 rfl rfl rfl fun w => ?_
 refine C_weak (E' := [(0, .agg #[a, b])]) (rs' := [rd a 3 (L.map cDl), rd b 1 (F.map cI)]) ⟨rfl, trivial⟩ (fun _ h => h) ?_
 have hl4 := len_map cDl L
 have hl5 := len_map cI F
 refine C_seq ?_
 refine C_region ?_
 refine L_box rfl rfl rfl fun g1 => ?_
 refine L_alloc tb rfl rfl fun g2 => ?_
 refine L_then ?_
 refine C_seq ?_
 refine C_draw (n := 7) [(0, false), (1, false), (3, false), (4, false), (2, true), (5, true), (6, false)] mixed (by kernel_rfl) ?_
 refine Yq rfl (q_field tb rfl rfl rfl) ?_
 refine Yq rfl (q_load tb rfl rfl bxo rfl) ?_
 refine Yq rfl (q_field tb rfl rfl rfl) ?_
 refine Yq rfl (q_load tb rfl rfl bxo rfl) ?_
 refine W_callSF tb rfl rfl rfl rfl (ct_shotlinebase_CopyLegs a L (by omega)) (ps_cons gvo no_ps) rfl fun A5 n5 c5 => ?_
 refine W_callSF tb rfl rfl rfl rfl (ct_shotlinebase_CopyInts b F (by omega)) (ps_cons gvo no_ps) rfl fun A8 n8 c8 => ?_
 refine Yq rfl (by first | exact q_build tb rfl rfl rfl rfl | exact q_buildArr tb rfl rfl rfl rfl rfl) ?_
 refine W_nil ?_
 refine L_st tb rfl rfl ?_
 refine L_then ?_
 refine C_ret ?_
 exact ret_of (rs' := [sl _ 51 3 (L.map cDl), sl _ 3 1 (F.map cI)]) (resC tb rfl rfl rfl bxo rfl) (fun w_ h_ => h_.pk (by repeat (first | with_reducible exact pk_nil | refine pk_box rfl ?_ | refine pk_rd rfl ?_ | refine pk_sl rfl ?_ | with_reducible refine pk_app ?_ | with_reducible refine pk_app0 ?_ | with_reducible refine pk_app0L ?_ | with_reducible exact pk_tl | refine pk_var ?_))) own2 ⟨_, _, _, _, _, _, rfl, rfl⟩
set_option maxRecDepth 100000 in
set_option maxHeartbeats 1000000 in
theorem ct_shotlinelaw04_short (a b : Value) (L : List Dl) (F : List Int) : Ct Tryz.prog 48 [.agg #[a, b]] [(a, 3, L.map cDl), (b, 1, F.map cI)] (isV (.bool (decide (shortP L F)))) := by
 refine Ct.of (N := 25) Tryz.func48 rfl rfl rfl fun w => ?_
 refine C_weak (E' := [(0, .agg #[a, b])]) (rs' := [rd a 3 (L.map cDl), rd b 1 (F.map cI)]) ⟨rfl, trivial⟩ (fun _ h => h) ?_
 have hl4 := len_map cDl L
 have hl5 := len_map cI F
 refine C_seq ?_
 refine C_region ?_
 refine L_box rfl rfl rfl fun g1 => ?_
 refine Jq (q_assign rfl) ?_
 refine L_then ?_
 refine C_seq ?_
 refine C_region ?_
 refine Jq (q_field tb rfl rfl rfl) ?_
 refine Jq (q_load tb rfl rfl bxo rfl) ?_
 refine Jq (q_len tb rfl rfl gvo) ?_
 refine Jq (q_leq rfl rfl) ?_
 refine Jq (q_move rfl) ?_
 refine L_dec (d := 7) rfl (fun h1 => ?_) (fun h1 => ?_)
 iterate 5 refine Jk ?_
 iterate 4 refine Ju ?_
 refine Jk ?_
 refine Jq (q_pickT rfl rfl) ?_
 refine Jq (q_move rfl) ?_
 refine Jg (q_field tb rfl rfl rfl) ?_
 refine Jg (q_load tb rfl rfl bxo rfl) ?_
 refine Jg (q_len tb rfl rfl gvo) ?_
 refine Jg (q_leq rfl rfl) ?_
 refine Jq (q_pickT rfl rfl) ?_
 refine Jq (q_assign rfl) ?_
 refine L_then ?_
 refine C_ret ?_
 exact ret_of (res1 rfl rfl) sub_nil (by intro r hr; cases hr) ⟨(by unfold shortP; first | rfl | exact congrArg Value.bool (decide_eq_decide.2 (by omega)) | exact congrArg Value.bool (decide_eq_true (by omega)).symm | exact congrArg Value.bool (decide_eq_false (by omega)).symm | exact congrArg Value.bool (decide_eq_true (by omega))), rfl⟩
 refine Jg (q_field tb rfl rfl rfl) ?_
 refine Jg (q_load tb rfl rfl bxo rfl) ?_
 refine Jg (q_len tb rfl rfl gvo) ?_
 refine Jg (q_gtr rfl rfl) ?_
 refine Jg (q_move rfl) ?_
 refine L_dec (d := 12) rfl (fun h2 => ?_) (fun h2 => ?_)
 refine Jg (q_field tb rfl rfl rfl) ?_
 refine Jg (q_load tb rfl rfl bxo rfl) ?_
 refine Jg (q_len tb rfl rfl gvo) ?_
 refine Jg (q_leq rfl rfl) ?_
 refine Jg (q_pickT rfl rfl) ?_
 refine Jq (q_pickF rfl rfl) ?_
 refine Jq (q_move rfl) ?_
 refine L_dec (d := 19) rfl (fun h3 => ?_) (fun h3 => ?_)
 refine Jg (q_field tb rfl rfl rfl) ?_
 refine Jg (q_load tb rfl rfl bxo rfl) ?_
 refine Jg (q_len tb rfl rfl gvo) ?_
 refine Jg (q_leq rfl rfl) ?_
 refine Jq (q_pickT rfl rfl) ?_
 refine Jq (q_assign rfl) ?_
 refine L_then ?_
 refine C_ret ?_
 exact ret_of (res1 rfl rfl) sub_nil (by intro r hr; cases hr) ⟨(by unfold shortP; first | rfl | exact congrArg Value.bool (decide_eq_decide.2 (by omega)) | exact congrArg Value.bool (decide_eq_true (by omega)).symm | exact congrArg Value.bool (decide_eq_false (by omega)).symm | exact congrArg Value.bool (decide_eq_true (by omega))), rfl⟩
 iterate 4 refine Jk ?_
 refine Jq (q_pickF rfl rfl) ?_
 refine Jq (q_assign rfl) ?_
 refine L_then ?_
 refine C_ret ?_
 exact ret_of (res1 rfl rfl) sub_nil (by intro r hr; cases hr) ⟨(by unfold shortP; first | rfl | exact congrArg Value.bool (decide_eq_decide.2 (by omega)) | exact congrArg Value.bool (decide_eq_true (by omega)).symm | exact congrArg Value.bool (decide_eq_false (by omega)).symm | exact congrArg Value.bool (decide_eq_true (by omega))), rfl⟩
 iterate 4 refine Jk ?_
 refine Jg (q_pickF rfl rfl) ?_
 refine Jq (q_pickF rfl rfl) ?_
 refine Jq (q_move rfl) ?_
 iterate 4 refine Jk ?_
 refine Jq (q_pickF rfl rfl) ?_
 refine Jq (q_assign rfl) ?_
 refine L_then ?_
 refine C_ret ?_
 exact ret_of (res1 rfl rfl) sub_nil (by intro r hr; cases hr) ⟨(by unfold shortP; first | rfl | exact congrArg Value.bool (decide_eq_decide.2 (by omega)) | exact congrArg Value.bool (decide_eq_true (by omega)).symm | exact congrArg Value.bool (decide_eq_false (by omega)).symm | exact congrArg Value.bool (decide_eq_true (by omega))), rfl⟩
end Go.Proofs.YthilaakeimfedaaGreatDoor
