/-
  Walks: each function named returns what its model says. Conditions: those in front of each theorem.
-/
import Derived.Test.YtfhfadfnbnliiaaRp
import Derived.Test.YtfhfadfnbnliiaaS
import Derived.Test.YtfhfadfnbnliiaaMod9
namespace Go.Proofs.Ytfhfadfnbnliiaa
open Go.RowKit

theorem satM_cells (ts : List Cp) (g : Gs) (p : Int) : List.replicate (ts.map cCp).length (cLd (satL g p)) = (satM ts g p).map cLd := by unfold satM; rw [List.map_replicate, List.length_map]
theorem satM_cells2 (ts : List Cp) (g : Gs) (p : Int) : List.replicate ts.length (cLd (satL g p)) = (satM ts g p).map cLd := by unfold satM; rw [List.map_replicate]
theorem rep_step {α : Type} (k : Nat) (c : α) : List.replicate k c ++ [c] = List.replicate (k + 1) c := (List.replicate_succ').symm

set_option maxRecDepth 100000 in
theorem ct_tissue_Saturated (v : Value) (g : Gs) (p : Int) (ts : List Cp) (hle : ts.length ≤ 1000000) : Ct Try.prog 59 [v, .agg #[.int .i64 g.o, .int .i64 g.h], .int .i64 p] [(v, 4, ts.map cCp)] (isSlN 62 4 ((satE ts g p).1.map cLd) (.int .i64 (satE ts g p).2)) := by
  refine Ct.of (N := 42) Try.func59 rfl rfl rfl fun w => ?_
  refine C_weak (E' := [(0, v), (1, .agg #[.int .i64 g.o, .int .i64 g.h]), (2, .int .i64 p)]) (rs' := [rd v 4 (ts.map cCp)]) ⟨rfl, rfl, rfl, trivial⟩ (fun _ h => h) ?_
  have hl1 := len_map cCp ts
  refine C_seq ?_
  refine C_region ?_
  refine L_box rfl rfl rfl fun g4 => ?_
  refine L_q rfl rfl rfl (q_assign rfl) ?_
  refine L_q rfl rfl rfl (q_assign rfl) ?_
  refine L_then ?_
  refine C_seq ?_
  refine C_seq ?_
  refine C_region ?_
  refine L_q rfl rfl rfl (q_move rfl) ?_
  refine L_call tb rfl rfl (ct_tissue_CheckTable v ts hle) (ps_cons (by first | exact gvo | exact gvd gvo (by omega)) no_ps) rfl ?_
  refine L_q rfl rfl rfl (q_assign rfl) ?_
  refine L_then ?_
  refine C_seq ?_
  refine C_region ?_
  refine L_q rfl rfl rfl (q_move rfl) ?_
  refine L_q rfl rfl rfl (q_neq rfl rfl) ?_
  refine L_then ?_
  refine C_dec rfl (fun h1 => ?_) (fun h1 => ?_)
  · -- t15 True
    refine C_seq ?_
    refine C_region ?_
    refine L_q rfl rfl rfl (q_move rfl) ?_
    refine L_q rfl rfl rfl (q_assign rfl) ?_
    refine L_q rfl rfl rfl (q_assign rfl) ?_
    refine L_then ?_
    refine C_ret ?_
    rw [satE_1 h1]
    exact ret_of (rs' := [sl (.slice none 0 0) 62 4 []]) (res2 rfl rfl rfl) (fun w_ h_ => ws_nil (sub_nil w_ h_)) own1 ⟨_, rfl, rfl⟩
  · -- t15 False
    refine C_skip_then ?_
    refine C_seq ?_
    refine C_seq ?_
    refine C_region ?_
    refine L_q rfl rfl rfl (by first | exact q_loadA tb rfl rfl bxo rfl rfl | exact q_loadEA tb rfl rfl (by first | exact gvo | exact gvd gvo (by omega)) (by omega) (by simp) rfl rfl) ?_
    refine L_call tb rfl rfl (ct_gas_CheckGas g.o g.h) no_ps rfl ?_
    refine L_q rfl rfl rfl (q_assign rfl) ?_
    refine L_then ?_
    refine C_seq ?_
    refine C_region ?_
    refine L_q rfl rfl rfl (q_move rfl) ?_
    refine L_q rfl rfl rfl (q_neq rfl rfl) ?_
    refine L_then ?_
    refine C_dec rfl (fun h2 => ?_) (fun h2 => ?_)
    · -- t20 True
      refine C_seq ?_
      refine C_region ?_
      refine L_q rfl rfl rfl (q_move rfl) ?_
      refine L_q rfl rfl rfl (q_assign rfl) ?_
      refine L_q rfl rfl rfl (q_assign rfl) ?_
      refine L_then ?_
      refine C_ret ?_
      rw [satE_2 (Decidable.not_not.1 h1) h2]
      exact ret_of (rs' := [sl (.slice none 0 0) 62 4 []]) (res2 rfl rfl rfl) (fun w_ h_ => ws_nil (sub_nil w_ h_)) own1 ⟨_, rfl, rfl⟩
    · -- t20 False
      have hg9 := ckGas_rg (Decidable.not_not.1 h2)
      refine C_skip_then ?_
      refine C_seq ?_
      refine C_seq ?_
      refine C_region ?_
      refine L_q rfl rfl rfl (q_move rfl) ?_
      refine L_call tb rfl rfl (ct_tissue_isPressure p) no_ps rfl ?_
      refine L_q rfl rfl rfl (q_not rfl (by first | exact (rfl : (!true) = false) | exact (rfl : (!false) = true) | exact decide_not.symm | rfl)) ?_
      refine L_then ?_
      refine C_dec rfl (fun h3 => ?_) (fun h3 => ?_)
      · -- t24 True
        refine C_seq ?_
        refine C_region ?_
        refine L_q rfl rfl rfl (q_assign rfl) ?_
        refine L_q rfl rfl rfl (q_assign rfl) ?_
        refine L_then ?_
        refine C_ret ?_
        rw [satE_3 (Decidable.not_not.1 h1) (Decidable.not_not.1 h2) (fun hh => h3 (by unfold okPr at hh; exact hh))]
        exact ret_of (rs' := [sl (.slice none 0 0) 62 4 []]) (res2 rfl rfl rfl) (fun w_ h_ => ws_nil (sub_nil w_ h_)) own1 ⟨_, rfl, rfl⟩
      · -- t24 False
        have ht9 := ckTab_yes9 (Decidable.not_not.1 h1)
        refine C_skip_then ?_
        refine C_seq ?_
        refine C_region ?_
        refine L_q rfl rfl rfl (by first | exact q_loadA tb rfl rfl bxo rfl rfl | exact q_loadEA tb rfl rfl (by first | exact gvo | exact gvd gvo (by omega)) (by omega) (by simp) rfl rfl) ?_
        refine L_q rfl rfl rfl (q_move rfl) ?_
        refine L_call tb rfl rfl (ct_tissue_breathed g.o g.h p (by omega) (by omega)) no_ps rfl ?_
        refine L_q rfl rfl rfl (q_move rfl) ?_
        refine L_q rfl rfl rfl (q_ext0 rfl) ?_
        refine L_q rfl rfl rfl (q_ext1 rfl) ?_
        refine L_q rfl rfl rfl (q_assign rfl) ?_
        refine L_q rfl rfl rfl (q_assign rfl) ?_
        refine L_then ?_
        refine C_seq ?_
        refine C_region ?_
        refine L_q rfl rfl rfl (q_move rfl) ?_
        refine L_q rfl rfl rfl (q_move rfl) ?_
        refine L_q rfl rfl rfl (by first | exact q_build tb rfl rfl rfl rfl | exact q_buildArr tb rfl rfl rfl rfl rfl) ?_
        refine L_q rfl rfl rfl (q_move rfl) ?_
        refine L_q rfl rfl rfl (q_move rfl) ?_
        refine L_q rfl rfl rfl (by first | exact q_build tb rfl rfl rfl rfl | exact q_buildArr tb rfl rfl rfl rfl rfl) ?_
        refine L_q rfl rfl rfl (by first | exact q_build tb rfl rfl rfl rfl | exact q_buildArr tb rfl rfl rfl rfl rfl) ?_
        refine L_mk (lo_bslice tb rfl rfl rfl (xs := [cLd (satL g p)]) rfl rfl (by simp [cLd]) rfl (by omega) rfl) rfl rfl rfl fun v38 => ?_
        refine L_q rfl rfl rfl (q_move rfl) ?_
        refine L_q rfl rfl rfl (q_len tb rfl rfl (by first | exact gvo | exact gvd gvo (by omega))) ?_
        refine L_callS tb rfl rfl (ct_slices_Repeat_shotline_api_TissueLoad_shotline_api_TissueLoad v38 (cLd (satL g p)) (ts.map cCp).length (by omega) (by simp [cLd, Value.oneCell'])) (ps_cons (by first | exact gvo | exact gvd gvo (by omega)) no_ps) rfl fun v41 => ?_
        refine L_q rfl rfl rfl (q_assign rfl) ?_
        refine L_q rfl rfl rfl (q_assign rfl) ?_
        refine L_then ?_
        refine C_ret ?_
        rw [satE_4 (Decidable.not_not.1 h1) (Decidable.not_not.1 h2) (by unfold okPr; omega)]
        exact ret_of (rs' := [sl v41 62 4 ((satM ts g p).map cLd)]) (res2 rfl rfl rfl) (fun w_ h_ => h_.pk (by repeat (first | with_reducible exact pk_nil | refine pk_box (by first | rfl | exact satM_cells _ _ _) ?_ | refine pk_rd rfl ?_ | refine pk_sl (by first | rfl | exact satM_cells _ _ _) ?_ | with_reducible refine pk_app ?_ | with_reducible refine pk_app0 ?_ | with_reducible exact pk_tl | refine pk_var ?_))) own1 ⟨_, rfl, rfl⟩
set_option maxRecDepth 100000 in
theorem ct_shotlineref03_Saturated (v : Value) (g : Gs) (p : Int) (ts : List Cp) (H : okSat ts g p) : Ct Try.prog 62 [v, .agg #[.int .i64 g.o, .int .i64 g.h], .int .i64 p] [(v, 4, ts.map cCp)] (isSl 62 4 ((satM ts g p).map cLd)) := by
  refine Ct.of (N := 36) Try.func62 rfl rfl rfl fun w => ?_
  refine C_weak (E' := [(0, v), (1, .agg #[.int .i64 g.o, .int .i64 g.h]), (2, .int .i64 p)]) (rs' := [rd v 4 (ts.map cCp)]) ⟨rfl, rfl, rfl, trivial⟩ (fun _ h => h) ?_
  have hl1 := len_map cCp ts
  have h1 := H.g; have h2 := H.p; have h3 := H.t
  refine C_seq ?_
  refine C_region ?_
  refine L_box rfl rfl rfl fun g4 => ?_
  refine L_q rfl rfl rfl (q_assign rfl) ?_
  refine L_then ?_
  refine C_seq ?_
  refine C_draw (n := 8) [(0, false), (2, false), (4, false), (5, false), (6, false), (1, true), (3, true), (7, true)] mixed (by kernel_rfl) ?_
  refine W_q rfl rfl rfl rfl (by first | exact q_loadA tb rfl rfl bxo rfl rfl | exact q_loadEA tb rfl rfl (by first | exact gvo | exact gvd gvo (by omega)) (by omega) (by simp) rfl rfl) ?_
  refine W_q rfl rfl rfl rfl (q_move rfl) ?_
  refine W_q rfl rfl rfl rfl (by first | exact q_field tb rfl rfl rfl | exact q_fieldE tb rfl rfl rfl (by first | exact gvo | exact gvd gvo (by omega)) (by first | omega | (simp; done) | (simp; omega))) ?_
  refine W_q rfl rfl rfl rfl (by first | exact q_load tb rfl rfl bxo rfl | exact q_loadE tb rfl rfl (by first | exact gvo | exact gvd gvo (by omega)) (by omega) (by simp) rfl) ?_
  refine W_q rfl rfl rfl rfl (q_move rfl) ?_
  refine W_call tb rfl rfl rfl rfl (ct_shotlineref01_Nitrogen g.o g.h (by omega)) no_ps rfl ?_
  refine W_call tb rfl rfl rfl rfl (ct_shotlineref03_breathed (1000 - g.o - g.h) p (by omega) (by omega)) no_ps rfl ?_
  refine W_call tb rfl rfl rfl rfl (ct_shotlineref03_breathed g.h p (by omega) (by omega)) no_ps rfl ?_
  refine W_nil ?_
  refine L_q rfl rfl rfl (q_assign rfl) ?_
  refine L_q rfl rfl rfl (q_assign rfl) ?_
  refine L_then ?_
  refine C_seq ?_
  refine C_region ?_
  refine L_q rfl rfl rfl (q_assign rfl) ?_
  refine L_then ?_
  refine C_seq ?_
  refine C_seq ?_
  refine C_region ?_
  refine L_q rfl rfl rfl (q_assign rfl) ?_
  refine L_then ?_
  refine C_block ?_
  refine C_nil 62 4 ?_
  refine C_loop (ι := Nat × Value) (fun q => ([(0, v), (7, .int .i64 (((1000 - g.o - g.h) * (p - 63)))), (8, .int .i64 ((g.h * (p - 63)))), (9, q.2), (10, .int .i64 (q.1 : Int))], [sl q.2 62 4 (List.replicate q.1 (cLd (satL g p))), rd v 4 (ts.map cCp)])) (fun q => q.1 ≤ ts.length) (fun q => ts.length - q.1) (0, .slice none 0 0) (Nat.zero_le _) (fun a w hs => hs.weak ⟨rfl, rfl, rfl, rfl, rfl, trivial⟩ (fun h => h.pk (by repeat (first | with_reducible exact pk_nil | refine pk_box rfl ?_ | refine pk_rd rfl ?_ | refine pk_sl rfl ?_ | with_reducible refine pk_app ?_ | with_reducible refine pk_app0 ?_ | with_reducible exact pk_tl | refine pk_var ?_)))) ?_
  rintro ⟨k, y⟩ hk9
  dsimp only at hk9 ⊢
  refine C_seq ?_
  refine C_seq ?_
  refine C_region ?_
  refine L_q rfl rfl rfl (q_move rfl) ?_
  refine L_q rfl rfl rfl (q_move rfl) ?_
  refine L_q rfl rfl rfl (q_len tb rfl rfl (by first | exact gvo | exact gvd gvo (by omega))) ?_
  refine L_q rfl rfl rfl (q_lss rfl rfl) ?_
  refine L_then ?_
  refine C_dec rfl (fun h1 => ?_) (fun h1 => ?_)
  · -- t22 True
    refine C_skip_then ?_
    refine C_seq ?_
    refine C_block ?_
    refine C_region ?_
    refine L_q rfl rfl rfl (q_move rfl) ?_
    refine L_q rfl rfl rfl (q_move rfl) ?_
    refine L_q rfl rfl rfl (q_move rfl) ?_
    refine L_q rfl rfl rfl (by first | exact q_build tb rfl rfl rfl rfl | exact q_buildArr tb rfl rfl rfl rfl rfl) ?_
    refine L_q rfl rfl rfl (q_move rfl) ?_
    refine L_q rfl rfl rfl (q_move rfl) ?_
    refine L_q rfl rfl rfl (by first | exact q_build tb rfl rfl rfl rfl | exact q_buildArr tb rfl rfl rfl rfl rfl) ?_
    refine L_q rfl rfl rfl (by first | exact q_build tb rfl rfl rfl rfl | exact q_buildArr tb rfl rfl rfl rfl rfl) ?_
    refine L_mk (lo_bslice tb rfl rfl rfl (xs := [cLd (satL g p)]) rfl rfl (by simp [cLd]) rfl (by omega) rfl) rfl rfl rfl fun v33 => ?_
    first | (refine L_front1 ?_; refine L_append tb rfl rfl rfl (by omega) rfl rfl (by first | exact gvo | exact gvd gvo (by omega)) (by simp [Value.oneCell', cLd]) (by simp [maxLen, List.length_replicate]; omega) (by simp [List.length_replicate]; omega) rfl fun v34 => ?_) | (refine L_front2 ?_; refine L_append tb rfl rfl rfl (by omega) rfl rfl (by first | exact gvo | exact gvd gvo (by omega)) (by simp [Value.oneCell', cLd]) (by simp [maxLen, List.length_replicate]; omega) (by simp [List.length_replicate]; omega) rfl fun v34 => ?_) | (refine L_front3 ?_; refine L_append tb rfl rfl rfl (by omega) rfl rfl (by first | exact gvo | exact gvd gvo (by omega)) (by simp [Value.oneCell', cLd]) (by simp [maxLen, List.length_replicate]; omega) (by simp [List.length_replicate]; omega) rfl fun v34 => ?_) | (refine L_front4 ?_; refine L_append tb rfl rfl rfl (by omega) rfl rfl (by first | exact gvo | exact gvd gvo (by omega)) (by simp [Value.oneCell', cLd]) (by simp [maxLen, List.length_replicate]; omega) (by simp [List.length_replicate]; omega) rfl fun v34 => ?_) | (refine L_front5 ?_; refine L_append tb rfl rfl rfl (by omega) rfl rfl (by first | exact gvo | exact gvd gvo (by omega)) (by simp [Value.oneCell', cLd]) (by simp [maxLen, List.length_replicate]; omega) (by simp [List.length_replicate]; omega) rfl fun v34 => ?_) | (refine L_front6 ?_; refine L_append tb rfl rfl rfl (by omega) rfl rfl (by first | exact gvo | exact gvd gvo (by omega)) (by simp [Value.oneCell', cLd]) (by simp [maxLen, List.length_replicate]; omega) (by simp [List.length_replicate]; omega) rfl fun v34 => ?_) | (refine L_append tb rfl rfl rfl (by omega) rfl rfl (by first | exact gvo | exact gvd gvo (by omega)) (by simp [Value.oneCell', cLd]) (by simp [maxLen, List.length_replicate]; omega) (by simp [List.length_replicate]; omega) rfl fun v34 => ?_)
    refine L_q rfl rfl rfl (q_assign rfl) ?_
    refine L_blk ?_
    refine C_region ?_
    refine L_q rfl rfl rfl (q_move rfl) ?_
    refine L_q rfl rfl rfl (q_add rfl rfl (by first | exact IntWalk.i64_in _ (by omega) | rfl)) ?_
    refine L_q rfl rfl rfl (q_assign rfl) ?_
    refine L_end ?_
    exact fun ac_ wo_ hs_ => ⟨(k + 1, v34), (by dsimp only; omega), (by dsimp only; omega), hs_.weak ⟨rfl, rfl, rfl, rfl, rfl, trivial⟩ (fun h => h.pk (by repeat (first | with_reducible exact pk_nil | refine pk_box (by first | rfl | exact rep_step _ _) ?_ | refine pk_rd rfl ?_ | refine pk_sl (by first | rfl | exact rep_step _ _) ?_ | with_reducible refine pk_app ?_ | with_reducible refine pk_app0 ?_ | with_reducible exact pk_tl | refine pk_var ?_)))⟩
  · -- t22 False
    refine C_exit ?_
    change C Try.prog _ _ _ _ _ _ _
    refine C_seq ?_
    refine C_region ?_
    refine L_q rfl rfl rfl (q_move rfl) ?_
    refine L_q rfl rfl rfl (q_assign rfl) ?_
    refine L_then ?_
    refine C_ret ?_
    obtain rfl : k = ts.length := by omega
    exact ret_of (rs' := [sl y 62 4 ((satM ts g p).map cLd)]) (res1 rfl rfl) (fun w_ h_ => h_.pk (by repeat (first | with_reducible exact pk_nil | refine pk_box (by first | rfl | exact satM_cells2 _ _ _) ?_ | refine pk_rd rfl ?_ | refine pk_sl (by first | rfl | exact satM_cells2 _ _ _) ?_ | with_reducible refine pk_app ?_ | with_reducible refine pk_app0 ?_ | with_reducible exact pk_tl | refine pk_var ?_))) own1 rfl
end Go.Proofs.Ytfhfadfnbnliiaa
