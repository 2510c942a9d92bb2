/-
  Walks: each function named returns what its model says. Conditions: those in front of each theorem.
-/
import Derived.Test.YtibohfipgjljhaaDoorKG
namespace Go.Proofs.YtibohfipgjljhaaDoor
open Go.RowKit

set_option maxRecDepth 100000 in
theorem ct_shotlinebase_CopyGases (v : Value) (gs : List Gs) (hle : gs.length ≤ 100000) : Ct Tryd.prog 67 [v] [(v, 2, gs.map cGs)] (isSl 23 2 (gs.map cGs)) := by
  refine Ct.of (N := 6) Tryd.func67 rfl rfl rfl fun w => ?_
  refine C_weak (E' := [(0, v)]) (rs' := [rd v 2 (gs.map cGs)]) ⟨rfl, trivial⟩ (fun _ h => h) ?_
  have hl := len_map cGs gs
  refine C_seq ?_
  refine C_region ?_
  refine L_q rfl rfl rfl (q_assign rfl) ?_
  refine L_then ?_
  refine C_seq ?_
  refine C_region ?_
  refine L_mk (lo_bslice tb rfl rfl rfl (xs := []) rfl rfl (by simp) rfl (by omega) rfl) rfl rfl rfl fun v3 => ?_
  refine L_q rfl rfl rfl (q_move rfl) ?_
  first | (refine L_front1 ?_; refine L_append tb rfl rfl rfl (by omega) rfl rfl (by first | exact gvo | exact gvd gvo (by omega)) (oneGs gs) (by simp [maxLen]; omega) (by simp; omega) rfl fun v5 => ?_) | (refine L_front2 ?_; refine L_append tb rfl rfl rfl (by omega) rfl rfl (by first | exact gvo | exact gvd gvo (by omega)) (oneGs gs) (by simp [maxLen]; omega) (by simp; omega) rfl fun v5 => ?_) | (refine L_front3 ?_; refine L_append tb rfl rfl rfl (by omega) rfl rfl (by first | exact gvo | exact gvd gvo (by omega)) (oneGs gs) (by simp [maxLen]; omega) (by simp; omega) rfl fun v5 => ?_) | (refine L_front4 ?_; refine L_append tb rfl rfl rfl (by omega) rfl rfl (by first | exact gvo | exact gvd gvo (by omega)) (oneGs gs) (by simp [maxLen]; omega) (by simp; omega) rfl fun v5 => ?_) | (refine L_front5 ?_; refine L_append tb rfl rfl rfl (by omega) rfl rfl (by first | exact gvo | exact gvd gvo (by omega)) (oneGs gs) (by simp [maxLen]; omega) (by simp; omega) rfl fun v5 => ?_) | (refine L_front6 ?_; refine L_append tb rfl rfl rfl (by omega) rfl rfl (by first | exact gvo | exact gvd gvo (by omega)) (oneGs gs) (by simp [maxLen]; omega) (by simp; omega) rfl fun v5 => ?_) | (refine L_append tb rfl rfl rfl (by omega) rfl rfl (by first | exact gvo | exact gvd gvo (by omega)) (oneGs gs) (by simp [maxLen]; omega) (by simp; omega) rfl fun v5 => ?_)
  refine L_q rfl rfl rfl (q_assign rfl) ?_
  refine L_then ?_
  refine C_ret ?_
  exact ret_of (rs' := [sl v5 23 2 (gs.map cGs)]) (res1 rfl rfl) (fun _ h => h.sub (by repeat (first | exact List.Sublist.refl _ | apply List.Sublist.cons_cons | apply List.Sublist.cons))) own1 rfl
theorem cAq_ok {a : Aim} (H : okAim a) : (cAi a ++ [Value.int .i64 (IntKind.i64.wrap (a.su + a.de))]) = cAp a := by
  have hsu := H.su; have hde := H.de
  rw [IntWalk.i64_in _ (by omega)]; rfl
theorem ct_MeetsT (a : Aim) (H : okAim a) (o h : Int) (ho : 0 ≤ o ∧ o ≤ 1000) (hh : 0 ≤ h ∧ h ≤ 1000) (hm : meetP a o h) : Ct Tryd.prog 65 [.agg #[.int .i64 o, .int .i64 h], .agg (cAi a).toArray] [] (isV (.bool true)) := (decide_eq_true hm) ▸ ct_shotlineref01_Meets a H o h ho hh

set_option maxRecDepth 100000 in
theorem ct_checkGasesE (v : Value) (gs : List Gs) (hle : gs.length ≤ 100000) : Ct Tryd.prog 102 [v] [(v, 2, gs.map cGs)] (isV (.int .i64 (ckGs8 gs))) := by
  refine Ct.of (N := 21) Tryd.func102 rfl rfl rfl fun w => ?_
  refine C_weak (E' := [(0, v)]) (rs' := [rd v 2 (gs.map cGs)]) ⟨rfl, trivial⟩ (fun _ h => h) ?_
  have hl1 := len_map cGs gs
  refine C_seq ?_
  refine C_region ?_
  refine L_q rfl rfl rfl (q_assign rfl) ?_
  refine L_then ?_
  refine C_seq ?_
  refine C_seq ?_
  refine C_region ?_
  refine L_q rfl rfl rfl (q_move rfl) ?_
  refine L_q rfl rfl rfl (q_len tb rfl rfl (by first | exact gvo | exact gvd gvo (by omega))) ?_
  refine L_q rfl rfl rfl (q_gtr rfl rfl) ?_
  refine L_then ?_
  refine C_dec rfl (fun h1 => ?_) (fun h1 => ?_)
  · -- t8 True
    refine C_seq ?_
    refine C_region ?_
    refine L_q rfl rfl rfl (q_assign rfl) ?_
    refine L_then ?_
    refine C_ret ?_
    rw [show ckGs8 gs = 8 from if_pos (by omega)]
    exact ret_of (res1 rfl rfl) sub_nil (by intro r hr; cases hr) ⟨rfl, rfl⟩
  · -- t8 False
    refine C_skip_then ?_
    refine C_seq ?_
    refine C_seq ?_
    refine C_region ?_
    refine L_q rfl rfl rfl (q_move rfl) ?_
    refine L_q rfl rfl rfl (q_len tb rfl rfl (by first | exact gvo | exact gvd gvo (by omega))) ?_
    refine L_q rfl rfl rfl (q_move rfl) ?_
    refine L_then ?_
    refine C_block ?_
    refine C_loop (ι := Nat) (fun k => ([(9, v), (10, .int .i64 (gs.map cGs).length), (11, .int .i64 (k : Int))], [rd v 2 (gs.map cGs)])) (fun k => k ≤ gs.length ∧ ckGl (gs.drop k) = ckGl gs) (fun k => gs.length - k) 0 ⟨Nat.zero_le _, rfl⟩ (fun a w hs => hs.weak ⟨rfl, rfl, rfl, trivial⟩ (fun h => h.pk (by repeat (first | with_reducible exact pk_nil | refine pk_box rfl ?_ | refine pk_rd rfl ?_ | refine pk_sl rfl ?_ | with_reducible refine pk_app ?_ | with_reducible refine pk_app0 ?_ | with_reducible refine pk_app0L ?_ | with_reducible exact pk_tl | refine pk_var ?_)))) ?_
    rintro k ⟨hk, hf⟩
    dsimp only at hk hf ⊢
    refine C_seq ?_
    refine C_region ?_
    refine L_q rfl rfl rfl (q_lss rfl rfl) ?_
    refine L_then ?_
    refine C_seq ?_
    refine C_dec rfl (fun h2 => ?_) (fun h2 => ?_)
    · -- t12 True
      obtain ⟨g, he⟩ := get_some gs (k := k) (by omega); have hel := map_get cGs he
      refine C_skip_then ?_
      refine C_seq ?_
      refine C_block ?_
      refine C_seq ?_
      refine C_region ?_
      refine L_q rfl rfl rfl (by first | exact q_index tb rfl rfl rfl rfl (by first | exact gvo | exact gvd gvo (by omega)) (by omega) (by first | omega | (simp; done) | (simp; omega)) | exact q_indexP tb rfl rfl rfl rfl (by omega) (by omega)) ?_
      refine L_q rfl rfl rfl (q_loadEA tb rfl rfl (by first | exact gvo | exact gvd gvo (by omega)) (i := k) (o := 0) (by omega) hel rfl rfl) ?_
      refine L_alloc tb rfl rfl fun g4 => ?_
      first | refine L_store tb rfl rfl rfl rfl rfl rfl rfl rfl ?_ | (refine L_front1 ?_; refine L_store tb rfl rfl rfl rfl rfl rfl rfl rfl ?_) | (refine L_front2 ?_; refine L_store tb rfl rfl rfl rfl rfl rfl rfl rfl ?_) | (refine L_front3 ?_; refine L_store tb rfl rfl rfl rfl rfl rfl rfl rfl ?_) | (refine L_front4 ?_; refine L_store tb rfl rfl rfl rfl rfl rfl rfl rfl ?_) | (refine L_front5 ?_; refine L_store tb rfl rfl rfl rfl rfl rfl rfl rfl ?_) | (refine L_front6 ?_; refine L_store tb rfl rfl rfl rfl rfl rfl rfl rfl ?_)
      refine L_then ?_
      refine C_seq ?_
      refine C_region ?_
      refine L_q rfl rfl rfl (q_loadA tb rfl rfl bxo rfl rfl) ?_
      refine L_call tb rfl rfl (ct_gas_CheckGas g.o g.h) no_ps rfl ?_
      refine L_q rfl rfl rfl (q_assign rfl) ?_
      refine L_then ?_
      refine C_seq ?_
      refine C_region ?_
      refine L_q rfl rfl rfl (q_move rfl) ?_
      refine L_q rfl rfl rfl (q_neq rfl rfl) ?_
      refine L_then ?_
      refine C_dec rfl (fun hg => ?_) (fun hg => ?_)
      · -- t18 True
        refine C_seq ?_
        refine C_region ?_
        refine L_q rfl rfl rfl (q_move rfl) ?_
        refine L_q rfl rfl rfl (q_assign rfl) ?_
        refine L_then ?_
        refine C_ret ?_
        rw [show ckGs8 gs = ckGl gs from if_neg (by omega), ← hf, ckGl_yes he hg]
        exact ret_of (res1 rfl rfl) sub_nil (by intro r hr; cases hr) ⟨rfl, rfl⟩
      · -- t18 False
        refine C_skip_blk ?_
        refine C_region ?_
        refine L_q rfl rfl rfl (q_add rfl rfl (by first | exact IntWalk.i64_in _ (by omega) | rfl)) ?_
        refine L_q rfl rfl rfl (q_move rfl) ?_
        refine L_end ?_
        exact fun ac_ wo_ hs_ => ⟨k + 1, ⟨by omega, by rw [← hf, ckGl_no he hg]⟩, (by first | omega | (dsimp only; omega)), hs_.weak ⟨rfl, rfl, rfl, trivial⟩ (fun h => h.pk (by repeat (first | with_reducible exact pk_nil | refine pk_box rfl ?_ | refine pk_rd rfl ?_ | refine pk_sl rfl ?_ | with_reducible refine pk_app ?_ | with_reducible refine pk_app0 ?_ | with_reducible refine pk_app0L ?_ | with_reducible exact pk_tl | refine pk_var ?_)))⟩
    · -- t12 False
      refine C_exit ?_
      change C Tryd.prog _ _ _ _ _ _ _
      refine C_seq ?_
      refine C_region ?_
      refine L_q rfl rfl rfl (q_assign rfl) ?_
      refine L_then ?_
      refine C_ret ?_
      rw [show ckGs8 gs = ckGl gs from if_neg (by omega), ← hf, ckGl_end (by omega)]
      exact ret_of (res1 rfl rfl) sub_nil (by intro r hr; cases hr) ⟨rfl, rfl⟩
set_option maxRecDepth 100000 in
theorem ct_shotlineref01_CheckGases (v : Value) (gs : List Gs) (hle : gs.length ≤ 100000) : Ct Tryd.prog 68 [v] [(v, 2, gs.map cGs)] (isV (.int .i64 (ckGs8 gs))) := by
  refine Ct.of (N := 22) Tryd.func68 rfl rfl rfl fun w => ?_
  refine C_weak (E' := [(0, v)]) (rs' := [rd v 2 (gs.map cGs)]) ⟨rfl, trivial⟩ (fun _ h => h) ?_
  have hl1 := len_map cGs gs
  refine C_seq ?_
  refine C_region ?_
  refine L_q rfl rfl rfl (q_assign rfl) ?_
  refine L_then ?_
  refine C_seq ?_
  refine C_seq ?_
  refine C_region ?_
  refine L_q rfl rfl rfl (q_move rfl) ?_
  refine L_q rfl rfl rfl (q_len tb rfl rfl (by first | exact gvo | exact gvd gvo (by omega))) ?_
  refine L_q rfl rfl rfl (q_gtr rfl rfl) ?_
  refine L_then ?_
  refine C_dec rfl (fun h1 => ?_) (fun h1 => ?_)
  · -- t7 True
    refine C_seq ?_
    refine C_region ?_
    refine L_q rfl rfl rfl (q_assign rfl) ?_
    refine L_then ?_
    refine C_ret ?_
    rw [show ckGs8 gs = 8 from if_pos (by omega)]
    exact ret_of (res1 rfl rfl) sub_nil (by intro r hr; cases hr) ⟨rfl, rfl⟩
  · -- t7 False
    refine C_skip_then ?_
    refine C_seq ?_
    refine C_seq ?_
    refine C_region ?_
    refine L_q rfl rfl rfl (q_assign rfl) ?_
    refine L_then ?_
    refine C_block ?_
    refine C_loop (ι := Nat) (fun k => ([(0, v), (3, .int .i64 (k : Int))], [rd v 2 (gs.map cGs)])) (fun k => k ≤ gs.length ∧ ckGl (gs.drop k) = ckGl gs) (fun k => gs.length - k) 0 ⟨Nat.zero_le _, rfl⟩ (fun a w hs => hs.weak ⟨rfl, rfl, trivial⟩ (fun h => h.pk (by repeat (first | with_reducible exact pk_nil | refine pk_box rfl ?_ | refine pk_rd rfl ?_ | refine pk_sl rfl ?_ | with_reducible refine pk_app ?_ | with_reducible refine pk_app0 ?_ | with_reducible refine pk_app0L ?_ | with_reducible exact pk_tl | refine pk_var ?_)))) ?_
    rintro k ⟨hk, hf⟩
    dsimp only at hk hf ⊢
    refine C_seq ?_
    refine C_seq ?_
    refine C_region ?_
    refine L_q rfl rfl rfl (q_move rfl) ?_
    refine L_q rfl rfl rfl (q_move rfl) ?_
    refine L_q rfl rfl rfl (q_len tb rfl rfl (by first | exact gvo | exact gvd gvo (by omega))) ?_
    refine L_q rfl rfl rfl (q_lss rfl rfl) ?_
    refine L_then ?_
    refine C_dec rfl (fun h2 => ?_) (fun h2 => ?_)
    · -- t11 True
      obtain ⟨g, he⟩ := get_some gs (k := k) (by omega); have hel := map_get cGs he
      refine C_skip_then ?_
      refine C_seq ?_
      refine C_block ?_
      refine C_seq ?_
      refine C_region ?_
      refine L_q rfl rfl rfl (q_move rfl) ?_
      refine L_q rfl rfl rfl (q_move rfl) ?_
      refine L_q rfl rfl rfl (by first | exact q_index tb rfl rfl rfl rfl (by first | exact gvo | exact gvd gvo (by omega)) (by omega) (by first | omega | (simp; done) | (simp; omega)) | exact q_indexP tb rfl rfl rfl rfl (by omega) (by omega)) ?_
      refine L_q rfl rfl rfl (q_loadEA tb rfl rfl (by first | exact gvo | exact gvd gvo (by omega)) (i := k) (o := 0) (by omega) hel rfl rfl) ?_
      refine L_call tb rfl rfl (ct_shotlineref01_CheckGas g.o g.h) no_ps rfl ?_
      refine L_q rfl rfl rfl (q_assign rfl) ?_
      refine L_then ?_
      refine C_seq ?_
      refine C_region ?_
      refine L_q rfl rfl rfl (q_move rfl) ?_
      refine L_q rfl rfl rfl (q_neq rfl rfl) ?_
      refine L_then ?_
      refine C_dec rfl (fun hg => ?_) (fun hg => ?_)
      · -- t20 True
        refine C_seq ?_
        refine C_region ?_
        refine L_q rfl rfl rfl (q_move rfl) ?_
        refine L_q rfl rfl rfl (q_assign rfl) ?_
        refine L_then ?_
        refine C_ret ?_
        rw [show ckGs8 gs = ckGl gs from if_neg (by omega), ← hf, ckGl_yes he hg]
        exact ret_of (res1 rfl rfl) sub_nil (by intro r hr; cases hr) ⟨rfl, rfl⟩
      · -- t20 False
        refine C_skip_blk ?_
        refine C_region ?_
        refine L_q rfl rfl rfl (q_move rfl) ?_
        refine L_q rfl rfl rfl (q_add rfl rfl (by first | exact IntWalk.i64_in _ (by omega) | rfl)) ?_
        refine L_q rfl rfl rfl (q_assign rfl) ?_
        refine L_end ?_
        exact fun ac_ wo_ hs_ => ⟨k + 1, ⟨by omega, by rw [← hf, ckGl_no he hg]⟩, (by first | omega | (dsimp only; omega)), hs_.weak ⟨rfl, rfl, trivial⟩ (fun h => h.pk (by repeat (first | with_reducible exact pk_nil | refine pk_box rfl ?_ | refine pk_rd rfl ?_ | refine pk_sl rfl ?_ | with_reducible refine pk_app ?_ | with_reducible refine pk_app0 ?_ | with_reducible refine pk_app0L ?_ | with_reducible exact pk_tl | refine pk_var ?_)))⟩
    · -- t11 False
      refine C_exit ?_
      change C Tryd.prog _ _ _ _ _ _ _
      refine C_seq ?_
      refine C_region ?_
      refine L_q rfl rfl rfl (q_assign rfl) ?_
      refine L_then ?_
      refine C_ret ?_
      rw [show ckGs8 gs = ckGl gs from if_neg (by omega), ← hf, ckGl_end (by omega)]
      exact ret_of (res1 rfl rfl) sub_nil (by intro r hr; cases hr) ⟨rfl, rfl⟩
set_option maxRecDepth 100000 in
set_option maxHeartbeats 4000000 in
theorem ct_RichestE (v : Value) (a : Aim) (gs : List Gs) (hle : gs.length ≤ 100000) : Ct Tryd.prog 64 [v, .agg (cAi a).toArray] [(v, 2, gs.map cGs)] (isV (.tuple #[.int .i64 (rcE a gs).1, .int .i64 (rcE a gs).2])) := by
  refine Ct.of (N := 73) Tryd.func64 rfl rfl rfl fun w => ?_
  refine C_weak (E' := [(0, v), (1, .agg (cAi a).toArray)]) (rs' := [rd v 2 (gs.map cGs)]) ⟨rfl, rfl, trivial⟩ (fun _ h => h) ?_
  have hl1 := len_map cGs gs
  refine C_seq ?_
  refine C_region ?_
  refine L_box rfl rfl rfl fun g3 => ?_
  refine L_q rfl rfl rfl (q_assign rfl) ?_
  refine L_q rfl rfl rfl (q_assign rfl) ?_
  refine L_then ?_
  refine C_seq ?_
  refine C_seq ?_
  refine C_region ?_
  refine L_q rfl rfl rfl (q_move rfl) ?_
  refine L_call tb rfl rfl (ct_checkGasesE v gs hle) (ps_cons (by first | exact gvo | exact gvd gvo (by omega)) no_ps) rfl ?_
  refine L_q rfl rfl rfl (q_assign rfl) ?_
  refine L_then ?_
  refine C_seq ?_
  refine C_region ?_
  refine L_q rfl rfl rfl (q_move rfl) ?_
  refine L_q rfl rfl rfl (q_neq rfl rfl) ?_
  refine L_then ?_
  refine C_dec rfl (fun h1 => ?_) (fun h1 => ?_)
  · -- t15 True
    have hrc : rcC a gs ≠ 0 := by rw [rcC_1 h1]; exact h1
    refine C_seq ?_
    refine C_region ?_
    refine L_q rfl rfl rfl (q_move rfl) ?_
    refine L_q rfl rfl rfl (q_assign rfl) ?_
    refine L_q rfl rfl rfl (q_assign rfl) ?_
    refine L_then ?_
    refine C_ret ?_
    rw [rcE_1 hrc, rcC_1 h1]
    exact ret_of (res2 rfl rfl rfl) sub_nil (by intro r hr; cases hr) ⟨rfl, rfl⟩
  · -- t15 False
    have h1 := Decidable.not_not.1 h1
    have hgl : ckGl gs = 0 := by unfold ckGs8 at h1; split at h1; exact absurd h1 (by decide); exact h1
    have hl8 : gs.length ≤ 8 := by unfold ckGs8 at h1; split at h1; exact absurd h1 (by decide); omega
    refine C_skip_then ?_
    refine C_seq ?_
    refine C_region ?_
    refine L_q rfl rfl rfl (q_loadA tb rfl rfl bxo rfl rfl) ?_
    refine L_call tb rfl rfl (ct_aimE a) no_ps rfl ?_
    refine L_q rfl rfl rfl (q_move rfl) ?_
    refine L_q rfl rfl rfl (q_ext0 rfl) ?_
    refine L_q rfl rfl rfl (q_ext1 rfl) ?_
    refine L_alloc tb rfl rfl fun g7 => ?_
    first | refine L_store tb rfl rfl rfl rfl rfl rfl rfl rfl ?_ | (refine L_front1 ?_; refine L_store tb rfl rfl rfl rfl rfl rfl rfl rfl ?_) | (refine L_front2 ?_; refine L_store tb rfl rfl rfl rfl rfl rfl rfl rfl ?_) | (refine L_front3 ?_; refine L_store tb rfl rfl rfl rfl rfl rfl rfl rfl ?_) | (refine L_front4 ?_; refine L_store tb rfl rfl rfl rfl rfl rfl rfl rfl ?_) | (refine L_front5 ?_; refine L_store tb rfl rfl rfl rfl rfl rfl rfl rfl ?_) | (refine L_front6 ?_; refine L_store tb rfl rfl rfl rfl rfl rfl rfl rfl ?_)
    refine L_q rfl rfl rfl (q_assign rfl) ?_
    refine L_then ?_
    refine C_seq ?_
    refine C_seq ?_
    refine C_region ?_
    refine L_q rfl rfl rfl (q_move rfl) ?_
    refine L_q rfl rfl rfl (q_neq rfl rfl) ?_
    refine L_then ?_
    refine C_dec rfl (fun h2 => ?_) (fun h2 => ?_)
    · -- t23 True
      have hrc : rcC a gs ≠ 0 := by rw [rcC_2 h1]; exact h2
      refine C_seq ?_
      refine C_region ?_
      refine L_q rfl rfl rfl (q_move rfl) ?_
      refine L_q rfl rfl rfl (q_assign rfl) ?_
      refine L_q rfl rfl rfl (q_assign rfl) ?_
      refine L_then ?_
      refine C_ret ?_
      rw [rcE_1 hrc, rcC_2 h1]
      exact ret_of (res2 rfl rfl rfl) sub_nil (by intro r hr; cases hr) ⟨rfl, rfl⟩
    · -- t23 False
      have h2 := Decidable.not_not.1 h2
      have hz : rcC a gs = 0 := by rw [rcC_2 h1]; exact h2
      have H := ckAim_ok h2
      rw [cAq_ok H]
      refine C_skip_then ?_
      refine C_seq ?_
      refine C_region ?_
      refine L_q rfl rfl rfl (q_assign rfl) ?_
      refine L_then ?_
      refine C_seq ?_
      refine C_seq ?_
      refine C_region ?_
      refine L_q rfl rfl rfl (q_move rfl) ?_
      refine L_q rfl rfl rfl (q_len tb rfl rfl (by first | exact gvo | exact gvd gvo (by omega))) ?_
      refine L_q rfl rfl rfl (q_move rfl) ?_
      refine L_then ?_
      refine C_block ?_
      refine C_loop (ι := Nat) (fun k => ([(0, v), (7, .pointer (some ⟨g7, 0, none⟩)), (9, .int .i64 ((rcM a gs k))), (25, v), (26, .int .i64 (gs.map cGs).length), (27, .int .i64 (k : Int))], [box g7 113 (cAp a), rd v 2 (gs.map cGs)])) (fun k => k ≤ gs.length) (fun k => gs.length - k) 0 (Nat.zero_le _) (fun a w hs => hs.weak ⟨rfl, rfl, rfl, rfl, rfl, rfl, trivial⟩ (fun h => h.pk (by repeat (first | with_reducible exact pk_nil | refine pk_box rfl ?_ | refine pk_rd rfl ?_ | refine pk_sl rfl ?_ | with_reducible refine pk_app ?_ | with_reducible refine pk_app0 ?_ | with_reducible refine pk_app0L ?_ | with_reducible exact pk_tl | refine pk_var ?_)))) ?_
      intro k hk
      dsimp only at hk ⊢
      refine C_seq ?_
      refine C_region ?_
      refine L_q rfl rfl rfl (q_lss rfl rfl) ?_
      refine L_then ?_
      refine C_seq ?_
      refine C_dec rfl (fun h3 => ?_) (fun h3 => ?_)
      · -- t28 True
        obtain ⟨g, he⟩ := get_some gs (k := k) (by omega); have hel := map_get cGs he; have hgk := ckGas_ok (ckGl_ok hgl g (List.mem_of_getElem? he)); have hri := rcM_in a gs k
        refine C_skip_then ?_
        refine C_seq ?_
        refine C_block ?_
        refine C_seq ?_
        refine C_region ?_
        refine L_q rfl rfl rfl (q_move rfl) ?_
        refine L_q rfl rfl rfl (by first | exact q_index tb rfl rfl rfl rfl (by first | exact gvo | exact gvd gvo (by omega)) (by omega) (by first | omega | (simp; done) | (simp; omega)) | exact q_indexP tb rfl rfl rfl rfl (by omega) (by omega)) ?_
        refine L_q rfl rfl rfl (q_loadEA tb rfl rfl (by first | exact gvo | exact gvd gvo (by omega)) (i := k) (o := 0) (by omega) hel rfl rfl) ?_
        refine L_alloc tb rfl rfl fun g11 => ?_
        refine L_q rfl rfl rfl (q_assign rfl) ?_
        first | refine L_store tb rfl rfl rfl rfl rfl rfl rfl rfl ?_ | (refine L_front1 ?_; refine L_store tb rfl rfl rfl rfl rfl rfl rfl rfl ?_) | (refine L_front2 ?_; refine L_store tb rfl rfl rfl rfl rfl rfl rfl rfl ?_) | (refine L_front3 ?_; refine L_store tb rfl rfl rfl rfl rfl rfl rfl rfl ?_) | (refine L_front4 ?_; refine L_store tb rfl rfl rfl rfl rfl rfl rfl rfl ?_) | (refine L_front5 ?_; refine L_store tb rfl rfl rfl rfl rfl rfl rfl rfl ?_) | (refine L_front6 ?_; refine L_store tb rfl rfl rfl rfl rfl rfl rfl rfl ?_)
        refine L_then ?_
        refine C_seq ?_
        refine C_seq ?_
        refine C_region ?_
        refine L_q rfl rfl rfl (q_loadA tb rfl rfl bxo rfl rfl) ?_
        refine L_q rfl rfl rfl (q_loadA tb rfl rfl bxo rfl rfl) ?_
        refine L_call tb rfl rfl (ct_gas_aim_meets a H g.o g.h (by omega) (by omega)) no_ps rfl ?_
        refine L_q rfl rfl rfl (q_not rfl (by first | exact (rfl : (!true) = false) | exact (rfl : (!false) = true) | exact decide_not.symm | rfl)) ?_
        refine L_then ?_
        refine C_dec rfl (fun hm => ?_) (fun hm => ?_)
        · -- t35 True
          refine C_exit ?_
          change C Tryd.prog _ _ _ _ _ _ _
          refine C_region ?_
          refine L_q rfl rfl rfl (q_add rfl rfl (by first | exact IntWalk.i64_in _ (by omega) | rfl)) ?_
          refine L_q rfl rfl rfl (q_move rfl) ?_
          refine L_end ?_
          exact fun ac_ wo_ hs_ => ⟨(k + 1), (by first | omega | (dsimp only; omega)), (by first | omega | (dsimp only; omega)), hs_.weak ⟨rfl, rfl, en (by first | (rw [rcM_no he (fun hh => by first | exact hm hh.1 | (have h9 := hh.2; rw [hgb] at h9; unfold betP at h9; omega))]; done) | (rw [rcM_no he (fun hh => by first | exact hm hh.1 | (have h9 := hh.2; rw [hgb] at h9; unfold betP at h9; omega))]; first | exact hj | exact hj.symm)), rfl, rfl, rfl, trivial⟩ (fun h => h.pk (by repeat (first | with_reducible exact pk_nil | refine pk_box rfl ?_ | refine pk_rd rfl ?_ | refine pk_sl rfl ?_ | with_reducible refine pk_app ?_ | with_reducible refine pk_app0 ?_ | with_reducible refine pk_app0L ?_ | with_reducible exact pk_tl | refine pk_var ?_)))⟩
        · -- t35 False
          have hmt := Decidable.not_not.1 hm
          refine C_skip_then ?_
          refine C_seq ?_
          refine C_draw (n := 32) [(0, false), (1, false), (2, false), (3, false), (4, false), (5, false), (6, false), (7, false), (8, false), (9, false), (10, false), (11, false), (12, false), (13, false), (14, false), (15, false), (16, false), (17, false), (18, false), (19, false), (20, false), (21, false), (22, false), (23, false), (24, false), (25, false), (26, false), (27, false), (28, false), (29, false), (30, false), (31, false)] mixed (by kernel_rfl) ?_
          refine W_q rfl rfl rfl rfl (q_move rfl) ?_
          refine W_q rfl rfl rfl rfl (q_lss rfl rfl) ?_
          refine W_q rfl rfl rfl rfl (q_move rfl) ?_
          refine W_dec (d := 38) rfl (fun hneg => ?_) (fun hneg => ?_)
          · -- t38 True
            refine W_skip rfl rfl rfl rfl rfl rfl rfl rfl ?_
            refine W_skip rfl rfl rfl rfl rfl rfl rfl rfl ?_
            refine W_skip rfl rfl rfl rfl rfl rfl rfl rfl ?_
            refine W_skip rfl rfl rfl rfl rfl rfl rfl rfl ?_
            refine W_skip rfl rfl rfl rfl rfl rfl rfl rfl ?_
            refine W_skip rfl rfl rfl rfl rfl rfl rfl rfl ?_
            refine W_skip rfl rfl rfl rfl rfl rfl rfl rfl ?_
            refine W_skip rfl rfl rfl rfl rfl rfl rfl rfl ?_
            refine W_q rfl rfl rfl rfl (by first | exact q_pickT rfl rfl | exact q_pickF rfl rfl) ?_
            refine W_q rfl rfl rfl rfl (q_move rfl) ?_
            refine W_skip rfl rfl rfl rfl rfl rfl rfl rfl ?_
            refine W_skip rfl rfl rfl rfl rfl rfl rfl rfl ?_
            refine W_skip rfl rfl rfl rfl rfl rfl rfl rfl ?_
            refine W_skip rfl rfl rfl rfl rfl rfl rfl rfl ?_
            refine W_skip rfl rfl rfl rfl rfl rfl rfl rfl ?_
            refine W_skip rfl rfl rfl rfl rfl rfl rfl rfl ?_
            refine W_skip rfl rfl rfl rfl rfl rfl rfl rfl ?_
            refine W_skip rfl rfl rfl rfl rfl rfl rfl rfl ?_
            refine W_skip rfl rfl rfl rfl rfl rfl rfl rfl ?_
            refine W_skipu rfl rfl rfl rfl rfl rfl rfl ?_
            refine W_skipu rfl rfl rfl rfl rfl rfl rfl ?_
            refine W_skipu rfl rfl rfl rfl rfl rfl rfl ?_
            refine W_skipu rfl rfl rfl rfl rfl rfl rfl ?_
            refine W_skipu rfl rfl rfl rfl rfl rfl rfl ?_
            refine W_skipu rfl rfl rfl rfl rfl rfl rfl ?_
            refine W_skipu rfl rfl rfl rfl rfl rfl rfl ?_
            refine W_skipu rfl rfl rfl rfl rfl rfl rfl ?_
            refine W_skip rfl rfl rfl rfl rfl rfl rfl rfl ?_
            refine W_q rfl rfl rfl rfl (by first | exact q_pickT rfl rfl | exact q_pickF rfl rfl) ?_
            refine W_nil ?_
            refine L_then ?_
            refine C_true rfl ?_
            refine C_region ?_
            refine L_q rfl rfl rfl (q_move rfl) ?_
            refine L_q rfl rfl rfl (q_assign rfl) ?_
            refine L_blk ?_
            refine C_region ?_
            refine L_q rfl rfl rfl (q_add rfl rfl (by first | exact IntWalk.i64_in _ (by omega) | rfl)) ?_
            refine L_q rfl rfl rfl (q_move rfl) ?_
            refine L_end ?_
            exact fun ac_ wo_ hs_ => ⟨(k + 1), (by first | omega | (dsimp only; omega)), (by first | omega | (dsimp only; omega)), hs_.weak ⟨rfl, rfl, en (by rw [rcM_yes he hmt (by first | exact .inl (by omega) | exact .inr (by rw [hgb]; unfold betP; omega))]), rfl, rfl, rfl, trivial⟩ (fun h => h.pk (by repeat (first | with_reducible exact pk_nil | refine pk_box rfl ?_ | refine pk_rd rfl ?_ | refine pk_sl rfl ?_ | with_reducible refine pk_app ?_ | with_reducible refine pk_app0 ?_ | with_reducible refine pk_app0L ?_ | with_reducible exact pk_tl | refine pk_var ?_)))⟩
          · -- t38 False
            obtain ⟨j, hj⟩ := Int.eq_ofNat_of_zero_le (show 0 ≤ rcM a gs k by omega)
            obtain ⟨b, hb⟩ := get_some gs (k := j) (by omega)
            have helb := map_get cGs hb
            have hgb : gsAt gs (rcM a gs k).toNat = b := by rw [hj]; exact gsAt_get hb
            rw [hj]
            refine W_qg rfl rfl rfl rfl rfl rfl rfl rfl (q_field tb rfl rfl rfl) ?_
            refine W_qg rfl rfl rfl rfl rfl rfl rfl rfl (q_load tb rfl rfl bxo rfl) ?_
            refine W_qg rfl rfl rfl rfl rfl rfl rfl rfl (q_move rfl) ?_
            refine W_qg rfl rfl rfl rfl rfl rfl rfl rfl (q_move rfl) ?_
            refine W_qg rfl rfl rfl rfl rfl rfl rfl rfl (by first | exact q_index tb rfl rfl rfl rfl (by first | exact gvo | exact gvd gvo (by omega)) (by omega) (by first | omega | (simp; done) | (simp; omega)) | exact q_indexP tb rfl rfl rfl rfl (by omega) (by omega)) ?_
            refine W_qg rfl rfl rfl rfl rfl rfl rfl rfl (q_fieldE tb rfl rfl rfl (by first | exact gvo | exact gvd gvo (by omega)) (by first | omega | (simp; done) | (simp; omega))) ?_
            refine W_qg rfl rfl rfl rfl rfl rfl rfl rfl (q_loadE tb rfl rfl (by first | exact gvo | exact gvd gvo (by omega)) (i := j) (o := 0) (by omega) helb rfl) ?_
            refine W_qg rfl rfl rfl rfl rfl rfl rfl rfl (q_gtr rfl rfl) ?_
            refine W_q rfl rfl rfl rfl (by first | exact q_pickT rfl rfl | exact q_pickF rfl rfl) ?_
            refine W_q rfl rfl rfl rfl (q_move rfl) ?_
            refine W_dec (d := 48) rfl (fun h7 => ?_) (fun h7 => ?_)
            · -- t48 True
              refine W_skip rfl rfl rfl rfl rfl rfl rfl rfl ?_
              refine W_skip rfl rfl rfl rfl rfl rfl rfl rfl ?_
              refine W_skip rfl rfl rfl rfl rfl rfl rfl rfl ?_
              refine W_skip rfl rfl rfl rfl rfl rfl rfl rfl ?_
              refine W_skip rfl rfl rfl rfl rfl rfl rfl rfl ?_
              refine W_skip rfl rfl rfl rfl rfl rfl rfl rfl ?_
              refine W_skip rfl rfl rfl rfl rfl rfl rfl rfl ?_
              refine W_skip rfl rfl rfl rfl rfl rfl rfl rfl ?_
              refine W_skip rfl rfl rfl rfl rfl rfl rfl rfl ?_
              refine W_skipu rfl rfl rfl rfl rfl rfl rfl ?_
              refine W_skipu rfl rfl rfl rfl rfl rfl rfl ?_
              refine W_skipu rfl rfl rfl rfl rfl rfl rfl ?_
              refine W_skipu rfl rfl rfl rfl rfl rfl rfl ?_
              refine W_skipu rfl rfl rfl rfl rfl rfl rfl ?_
              refine W_skipu rfl rfl rfl rfl rfl rfl rfl ?_
              refine W_skipu rfl rfl rfl rfl rfl rfl rfl ?_
              refine W_skipu rfl rfl rfl rfl rfl rfl rfl ?_
              refine W_skip rfl rfl rfl rfl rfl rfl rfl rfl ?_
              refine W_q rfl rfl rfl rfl (by first | exact q_pickT rfl rfl | exact q_pickF rfl rfl) ?_
              refine W_nil ?_
              refine L_then ?_
              refine C_true rfl ?_
              refine C_region ?_
              refine L_q rfl rfl rfl (q_move rfl) ?_
              refine L_q rfl rfl rfl (q_assign rfl) ?_
              refine L_blk ?_
              refine C_region ?_
              refine L_q rfl rfl rfl (q_add rfl rfl (by first | exact IntWalk.i64_in _ (by omega) | rfl)) ?_
              refine L_q rfl rfl rfl (q_move rfl) ?_
              refine L_end ?_
              exact fun ac_ wo_ hs_ => ⟨(k + 1), (by first | omega | (dsimp only; omega)), (by first | omega | (dsimp only; omega)), hs_.weak ⟨rfl, rfl, en (by rw [rcM_yes he hmt (by first | exact .inl (by omega) | exact .inr (by rw [hgb]; unfold betP; omega))]), rfl, rfl, rfl, trivial⟩ (fun h => h.pk (by repeat (first | with_reducible exact pk_nil | refine pk_box rfl ?_ | refine pk_rd rfl ?_ | refine pk_sl rfl ?_ | with_reducible refine pk_app ?_ | with_reducible refine pk_app0 ?_ | with_reducible refine pk_app0L ?_ | with_reducible exact pk_tl | refine pk_var ?_)))⟩
            · -- t48 False
              refine W_qg rfl rfl rfl rfl rfl rfl rfl rfl (q_field tb rfl rfl rfl) ?_
              refine W_qg rfl rfl rfl rfl rfl rfl rfl rfl (q_load tb rfl rfl bxo rfl) ?_
              refine W_qg rfl rfl rfl rfl rfl rfl rfl rfl (q_move rfl) ?_
              refine W_qg rfl rfl rfl rfl rfl rfl rfl rfl (q_move rfl) ?_
              refine W_qg rfl rfl rfl rfl rfl rfl rfl rfl (by first | exact q_index tb rfl rfl rfl rfl (by first | exact gvo | exact gvd gvo (by omega)) (by omega) (by first | omega | (simp; done) | (simp; omega)) | exact q_indexP tb rfl rfl rfl rfl (by omega) (by omega)) ?_
              refine W_qg rfl rfl rfl rfl rfl rfl rfl rfl (q_fieldE tb rfl rfl rfl (by first | exact gvo | exact gvd gvo (by omega)) (by first | omega | (simp; done) | (simp; omega))) ?_
              refine W_qg rfl rfl rfl rfl rfl rfl rfl rfl (q_loadE tb rfl rfl (by first | exact gvo | exact gvd gvo (by omega)) (i := j) (o := 0) (by omega) helb rfl) ?_
              refine W_qg rfl rfl rfl rfl rfl rfl rfl rfl (q_eql rfl rfl) ?_
              refine W_qg rfl rfl rfl rfl rfl rfl rfl rfl (q_move rfl) ?_
              refine W_dec (d := 57) rfl (fun h9 => ?_) (fun h9 => ?_)
              · -- t57 True
                refine W_qg rfl rfl rfl rfl rfl rfl rfl rfl (q_field tb rfl rfl rfl) ?_
                refine W_qg rfl rfl rfl rfl rfl rfl rfl rfl (q_load tb rfl rfl bxo rfl) ?_
                refine W_qg rfl rfl rfl rfl rfl rfl rfl rfl (q_move rfl) ?_
                refine W_qg rfl rfl rfl rfl rfl rfl rfl rfl (q_move rfl) ?_
                refine W_qg rfl rfl rfl rfl rfl rfl rfl rfl (by first | exact q_index tb rfl rfl rfl rfl (by first | exact gvo | exact gvd gvo (by omega)) (by omega) (by first | omega | (simp; done) | (simp; omega)) | exact q_indexP tb rfl rfl rfl rfl (by omega) (by omega)) ?_
                refine W_qg rfl rfl rfl rfl rfl rfl rfl rfl (q_fieldE tb rfl rfl rfl (by first | exact gvo | exact gvd gvo (by omega)) (by first | omega | (simp; done) | (simp; omega))) ?_
                refine W_qg rfl rfl rfl rfl rfl rfl rfl rfl (q_loadE tb rfl rfl (by first | exact gvo | exact gvd gvo (by omega)) (i := j) (o := 1) (by omega) helb rfl) ?_
                refine W_qg rfl rfl rfl rfl rfl rfl rfl rfl (q_lss rfl rfl) ?_
                refine W_qg rfl rfl rfl rfl rfl rfl rfl rfl (by first | exact q_pickT rfl rfl | exact q_pickF rfl rfl) ?_
                refine W_q rfl rfl rfl rfl (by first | exact q_pickT rfl rfl | exact q_pickF rfl rfl) ?_
                refine W_nil ?_
                refine L_then ?_
                refine C_dec rfl (fun h10 => ?_) (fun h10 => ?_)
                · -- t67 True
                  refine C_region ?_
                  refine L_q rfl rfl rfl (q_move rfl) ?_
                  refine L_q rfl rfl rfl (q_assign rfl) ?_
                  refine L_blk ?_
                  refine C_region ?_
                  refine L_q rfl rfl rfl (q_add rfl rfl (by first | exact IntWalk.i64_in _ (by omega) | rfl)) ?_
                  refine L_q rfl rfl rfl (q_move rfl) ?_
                  refine L_end ?_
                  exact fun ac_ wo_ hs_ => ⟨(k + 1), (by first | omega | (dsimp only; omega)), (by first | omega | (dsimp only; omega)), hs_.weak ⟨rfl, rfl, en (by rw [rcM_yes he hmt (by first | exact .inl (by omega) | exact .inr (by rw [hgb]; unfold betP; omega))]), rfl, rfl, rfl, trivial⟩ (fun h => h.pk (by repeat (first | with_reducible exact pk_nil | refine pk_box rfl ?_ | refine pk_rd rfl ?_ | refine pk_sl rfl ?_ | with_reducible refine pk_app ?_ | with_reducible refine pk_app0 ?_ | with_reducible refine pk_app0L ?_ | with_reducible exact pk_tl | refine pk_var ?_)))⟩
                · -- t67 False
                  refine C_skip_blk ?_
                  refine C_region ?_
                  refine L_q rfl rfl rfl (q_add rfl rfl (by first | exact IntWalk.i64_in _ (by omega) | rfl)) ?_
                  refine L_q rfl rfl rfl (q_move rfl) ?_
                  refine L_end ?_
                  exact fun ac_ wo_ hs_ => ⟨(k + 1), (by first | omega | (dsimp only; omega)), (by first | omega | (dsimp only; omega)), hs_.weak ⟨rfl, rfl, en (by first | (rw [rcM_no he (fun hh => by first | exact hm hh.1 | (have h9 := hh.2; rw [hgb] at h9; unfold betP at h9; omega))]; done) | (rw [rcM_no he (fun hh => by first | exact hm hh.1 | (have h9 := hh.2; rw [hgb] at h9; unfold betP at h9; omega))]; first | exact hj | exact hj.symm)), rfl, rfl, rfl, trivial⟩ (fun h => h.pk (by repeat (first | with_reducible exact pk_nil | refine pk_box rfl ?_ | refine pk_rd rfl ?_ | refine pk_sl rfl ?_ | with_reducible refine pk_app ?_ | with_reducible refine pk_app0 ?_ | with_reducible refine pk_app0L ?_ | with_reducible exact pk_tl | refine pk_var ?_)))⟩
              · -- t57 False
                refine W_skip rfl rfl rfl rfl rfl rfl rfl rfl ?_
                refine W_skip rfl rfl rfl rfl rfl rfl rfl rfl ?_
                refine W_skip rfl rfl rfl rfl rfl rfl rfl rfl ?_
                refine W_skip rfl rfl rfl rfl rfl rfl rfl rfl ?_
                refine W_skip rfl rfl rfl rfl rfl rfl rfl rfl ?_
                refine W_skip rfl rfl rfl rfl rfl rfl rfl rfl ?_
                refine W_skip rfl rfl rfl rfl rfl rfl rfl rfl ?_
                refine W_skip rfl rfl rfl rfl rfl rfl rfl rfl ?_
                refine W_qg rfl rfl rfl rfl rfl rfl rfl rfl (by first | exact q_pickT rfl rfl | exact q_pickF rfl rfl) ?_
                refine W_q rfl rfl rfl rfl (by first | exact q_pickT rfl rfl | exact q_pickF rfl rfl) ?_
                refine W_nil ?_
                refine L_then ?_
                refine C_false rfl ?_
                refine C_skip_blk ?_
                refine C_region ?_
                refine L_q rfl rfl rfl (q_add rfl rfl (by first | exact IntWalk.i64_in _ (by omega) | rfl)) ?_
                refine L_q rfl rfl rfl (q_move rfl) ?_
                refine L_end ?_
                exact fun ac_ wo_ hs_ => ⟨(k + 1), (by first | omega | (dsimp only; omega)), (by first | omega | (dsimp only; omega)), hs_.weak ⟨rfl, rfl, en (by first | (rw [rcM_no he (fun hh => by first | exact hm hh.1 | (have h9 := hh.2; rw [hgb] at h9; unfold betP at h9; omega))]; done) | (rw [rcM_no he (fun hh => by first | exact hm hh.1 | (have h9 := hh.2; rw [hgb] at h9; unfold betP at h9; omega))]; first | exact hj | exact hj.symm)), rfl, rfl, rfl, trivial⟩ (fun h => h.pk (by repeat (first | with_reducible exact pk_nil | refine pk_box rfl ?_ | refine pk_rd rfl ?_ | refine pk_sl rfl ?_ | with_reducible refine pk_app ?_ | with_reducible refine pk_app0 ?_ | with_reducible refine pk_app0L ?_ | with_reducible exact pk_tl | refine pk_var ?_)))⟩
      · -- t28 False
        obtain rfl : k = gs.length := by omega
        refine C_exit ?_
        change C Tryd.prog _ _ _ _ _ _ _
        refine C_seq ?_
        refine C_seq ?_
        refine C_region ?_
        refine L_q rfl rfl rfl (q_move rfl) ?_
        refine L_q rfl rfl rfl (q_lss rfl rfl) ?_
        refine L_then ?_
        refine C_dec rfl (fun hend => ?_) (fun hend => ?_)
        · -- t71 True
          refine C_seq ?_
          refine C_region ?_
          refine L_q rfl rfl rfl (q_assign rfl) ?_
          refine L_q rfl rfl rfl (q_assign rfl) ?_
          refine L_then ?_
          refine C_ret ?_
          rw [rcE_2 hz hend]
          exact ret_of (res2 rfl rfl rfl) sub_nil (by intro r hr; cases hr) ⟨rfl, rfl⟩
        · -- t71 False
          refine C_skip_then ?_
          refine C_seq ?_
          refine C_region ?_
          refine L_q rfl rfl rfl (q_move rfl) ?_
          refine L_q rfl rfl rfl (q_assign rfl) ?_
          refine L_q rfl rfl rfl (q_assign rfl) ?_
          refine L_then ?_
          refine C_ret ?_
          rw [rcE_3 hz hend]
          exact ret_of (res2 rfl rfl rfl) sub_nil (by intro r hr; cases hr) ⟨rfl, rfl⟩
set_option maxRecDepth 100000 in
set_option maxHeartbeats 4000000 in
theorem ct_shotlineref01_Richest (v : Value) (a : Aim) (H : okAim a) (gs : List Gs) (hle : gs.length ≤ 100000) (hgl : ckGl gs = 0) : Ct Tryd.prog 69 [v, .agg (cAi a).toArray] [(v, 2, gs.map cGs)] (isV (.int .i64 ((rcM a gs gs.length)))) := by
  refine Ct.of (N := 64) Tryd.func69 rfl rfl rfl fun w => ?_
  refine C_weak (E' := [(0, v), (1, .agg (cAi a).toArray)]) (rs' := [rd v 2 (gs.map cGs)]) ⟨rfl, rfl, trivial⟩ (fun _ h => h) ?_
  have hl1 := len_map cGs gs
  refine C_seq ?_
  refine C_region ?_
  refine L_box rfl rfl rfl fun g3 => ?_
  refine L_q rfl rfl rfl (q_assign rfl) ?_
  refine L_then ?_
  refine C_seq ?_
  refine C_region ?_
  refine L_q rfl rfl rfl (q_assign rfl) ?_
  refine L_then ?_
  refine C_seq ?_
  refine C_seq ?_
  refine C_region ?_
  refine L_q rfl rfl rfl (q_assign rfl) ?_
  refine L_then ?_
  refine C_block ?_
  refine C_loop (ι := Nat) (fun k => ([(0, v), (3, .pointer (some ⟨g3, 0, none⟩)), (5, .int .i64 ((rcM a gs k))), (6, .int .i64 (k : Int))], [box g3 39 (cAi a), rd v 2 (gs.map cGs)])) (fun k => k ≤ gs.length) (fun k => gs.length - k) 0 (Nat.zero_le _) (fun a w hs => hs.weak ⟨rfl, rfl, rfl, rfl, trivial⟩ (fun h => h.pk (by repeat (first | with_reducible exact pk_nil | refine pk_box rfl ?_ | refine pk_rd rfl ?_ | refine pk_sl rfl ?_ | with_reducible refine pk_app ?_ | with_reducible refine pk_app0 ?_ | with_reducible refine pk_app0L ?_ | with_reducible exact pk_tl | refine pk_var ?_)))) ?_
  intro k hk
  dsimp only at hk ⊢
  refine C_seq ?_
  refine C_seq ?_
  refine C_region ?_
  refine L_q rfl rfl rfl (q_move rfl) ?_
  refine L_q rfl rfl rfl (q_move rfl) ?_
  refine L_q rfl rfl rfl (q_len tb rfl rfl (by first | exact gvo | exact gvd gvo (by omega))) ?_
  refine L_q rfl rfl rfl (q_lss rfl rfl) ?_
  refine L_then ?_
  refine C_dec rfl (fun h1 => ?_) (fun h1 => ?_)
  · -- t10 True
    obtain ⟨g, he⟩ := get_some gs (k := k) (by omega); have hel := map_get cGs he; have hgk := ckGas_ok (ckGl_ok hgl g (List.mem_of_getElem? he)); have hri := rcM_in a gs k
    refine C_skip_then ?_
    refine C_seq ?_
    refine C_block ?_
    refine C_seq ?_
    refine C_draw (n := 49) [(0, false), (1, false), (2, false), (3, false), (4, false), (5, true), (6, false), (7, false), (8, false), (9, false), (10, false), (11, false), (12, false), (13, false), (14, false), (15, false), (16, false), (17, false), (18, false), (19, false), (20, false), (21, false), (22, false), (23, false), (24, false), (25, false), (26, false), (27, false), (28, false), (29, false), (30, false), (31, false), (32, false), (33, false), (34, false), (35, false), (36, false), (37, false), (38, false), (39, false), (40, false), (41, false), (42, false), (43, false), (44, false), (45, false), (46, false), (47, false), (48, false)] mixed (by kernel_rfl) ?_
    refine W_q rfl rfl rfl rfl (q_move rfl) ?_
    refine W_q rfl rfl rfl rfl (q_move rfl) ?_
    refine W_q rfl rfl rfl rfl (by first | exact q_index tb rfl rfl rfl rfl (by first | exact gvo | exact gvd gvo (by omega)) (by omega) (by first | omega | (simp; done) | (simp; omega)) | exact q_indexP tb rfl rfl rfl rfl (by omega) (by omega)) ?_
    refine W_q rfl rfl rfl rfl (q_loadEA tb rfl rfl (by first | exact gvo | exact gvd gvo (by omega)) (i := k) (o := 0) (by omega) hel rfl rfl) ?_
    refine W_q rfl rfl rfl rfl (q_loadA tb rfl rfl bxo rfl rfl) ?_
    refine W_call tb rfl rfl rfl rfl (ct_shotlineref01_Meets a H g.o g.h (by omega) (by omega)) no_ps rfl ?_
    refine W_q rfl rfl rfl rfl (q_move rfl) ?_
    refine W_dec (d := 19) rfl (fun hm => ?_) (fun hm => ?_)
    · -- t19 True
      have hmt := hm
      refine W_qg rfl rfl rfl rfl rfl rfl rfl rfl (q_move rfl) ?_
      refine W_qg rfl rfl rfl rfl rfl rfl rfl rfl (q_lss rfl rfl) ?_
      refine W_qg rfl rfl rfl rfl rfl rfl rfl rfl (q_move rfl) ?_
      refine W_dec (d := 22) rfl (fun hneg => ?_) (fun hneg => ?_)
      · -- t22 True
        refine W_skip rfl rfl rfl rfl rfl rfl rfl rfl ?_
        refine W_skip rfl rfl rfl rfl rfl rfl rfl rfl ?_
        refine W_skip rfl rfl rfl rfl rfl rfl rfl rfl ?_
        refine W_skip rfl rfl rfl rfl rfl rfl rfl rfl ?_
        refine W_skip rfl rfl rfl rfl rfl rfl rfl rfl ?_
        refine W_skip rfl rfl rfl rfl rfl rfl rfl rfl ?_
        refine W_skip rfl rfl rfl rfl rfl rfl rfl rfl ?_
        refine W_skip rfl rfl rfl rfl rfl rfl rfl rfl ?_
        refine W_skip rfl rfl rfl rfl rfl rfl rfl rfl ?_
        refine W_skip rfl rfl rfl rfl rfl rfl rfl rfl ?_
        refine W_skip rfl rfl rfl rfl rfl rfl rfl rfl ?_
        refine W_qg rfl rfl rfl rfl rfl rfl rfl rfl (by first | exact q_pickT rfl rfl | exact q_pickF rfl rfl) ?_
        refine W_qg rfl rfl rfl rfl rfl rfl rfl rfl (q_move rfl) ?_
        refine W_skip rfl rfl rfl rfl rfl rfl rfl rfl ?_
        refine W_skip rfl rfl rfl rfl rfl rfl rfl rfl ?_
        refine W_skip rfl rfl rfl rfl rfl rfl rfl rfl ?_
        refine W_skip rfl rfl rfl rfl rfl rfl rfl rfl ?_
        refine W_skip rfl rfl rfl rfl rfl rfl rfl rfl ?_
        refine W_skip rfl rfl rfl rfl rfl rfl rfl rfl ?_
        refine W_skip rfl rfl rfl rfl rfl rfl rfl rfl ?_
        refine W_skip rfl rfl rfl rfl rfl rfl rfl rfl ?_
        refine W_skip rfl rfl rfl rfl rfl rfl rfl rfl ?_
        refine W_skip rfl rfl rfl rfl rfl rfl rfl rfl ?_
        refine W_skip rfl rfl rfl rfl rfl rfl rfl rfl ?_
        refine W_skip rfl rfl rfl rfl rfl rfl rfl rfl ?_
        refine W_skipu rfl rfl rfl rfl rfl rfl rfl ?_
        refine W_skipu rfl rfl rfl rfl rfl rfl rfl ?_
        refine W_skipu rfl rfl rfl rfl rfl rfl rfl ?_
        refine W_skipu rfl rfl rfl rfl rfl rfl rfl ?_
        refine W_skipu rfl rfl rfl rfl rfl rfl rfl ?_
        refine W_skipu rfl rfl rfl rfl rfl rfl rfl ?_
        refine W_skipu rfl rfl rfl rfl rfl rfl rfl ?_
        refine W_skipu rfl rfl rfl rfl rfl rfl rfl ?_
        refine W_skipu rfl rfl rfl rfl rfl rfl rfl ?_
        refine W_skipu rfl rfl rfl rfl rfl rfl rfl ?_
        refine W_skipu rfl rfl rfl rfl rfl rfl rfl ?_
        refine W_skip rfl rfl rfl rfl rfl rfl rfl rfl ?_
        refine W_qg rfl rfl rfl rfl rfl rfl rfl rfl (by first | exact q_pickT rfl rfl | exact q_pickF rfl rfl) ?_
        refine W_q rfl rfl rfl rfl (by first | exact q_pickT rfl rfl | exact q_pickF rfl rfl) ?_
        refine W_nil ?_
        refine L_then ?_
        refine C_true rfl ?_
        refine C_region ?_
        refine L_q rfl rfl rfl (q_move rfl) ?_
        refine L_q rfl rfl rfl (q_assign rfl) ?_
        refine L_blk ?_
        refine C_region ?_
        refine L_q rfl rfl rfl (q_move rfl) ?_
        refine L_q rfl rfl rfl (q_add rfl rfl (by first | exact IntWalk.i64_in _ (by omega) | rfl)) ?_
        refine L_q rfl rfl rfl (q_assign rfl) ?_
        refine L_end ?_
        exact fun ac_ wo_ hs_ => ⟨(k + 1), (by first | omega | (dsimp only; omega)), (by first | omega | (dsimp only; omega)), hs_.weak ⟨rfl, rfl, en (by rw [rcM_yes he hmt (by first | exact .inl (by omega) | exact .inr (by rw [hgb]; unfold betP; omega))]), rfl, trivial⟩ (fun h => h.pk (by repeat (first | with_reducible exact pk_nil | refine pk_box rfl ?_ | refine pk_rd rfl ?_ | refine pk_sl rfl ?_ | with_reducible refine pk_app ?_ | with_reducible refine pk_app0 ?_ | with_reducible refine pk_app0L ?_ | with_reducible exact pk_tl | refine pk_var ?_)))⟩
      · -- t22 False
        obtain ⟨j, hj⟩ := Int.eq_ofNat_of_zero_le (show 0 ≤ rcM a gs k by omega)
        obtain ⟨b, hb⟩ := get_some gs (k := j) (by omega)
        have helb := map_get cGs hb
        have hgb : gsAt gs (rcM a gs k).toNat = b := by rw [hj]; exact gsAt_get hb
        rw [hj]
        refine W_qg rfl rfl rfl rfl rfl rfl rfl rfl (q_move rfl) ?_
        refine W_qg rfl rfl rfl rfl rfl rfl rfl rfl (q_move rfl) ?_
        refine W_qg rfl rfl rfl rfl rfl rfl rfl rfl (by first | exact q_index tb rfl rfl rfl rfl (by first | exact gvo | exact gvd gvo (by omega)) (by omega) (by first | omega | (simp; done) | (simp; omega)) | exact q_indexP tb rfl rfl rfl rfl (by omega) (by omega)) ?_
        refine W_qg rfl rfl rfl rfl rfl rfl rfl rfl (q_fieldE tb rfl rfl rfl (by first | exact gvo | exact gvd gvo (by omega)) (by first | omega | (simp; done) | (simp; omega))) ?_
        refine W_qg rfl rfl rfl rfl rfl rfl rfl rfl (q_loadE tb rfl rfl (by first | exact gvo | exact gvd gvo (by omega)) (i := k) (o := 0) (by omega) hel rfl) ?_
        refine W_qg rfl rfl rfl rfl rfl rfl rfl rfl (q_move rfl) ?_
        refine W_qg rfl rfl rfl rfl rfl rfl rfl rfl (q_move rfl) ?_
        refine W_qg rfl rfl rfl rfl rfl rfl rfl rfl (by first | exact q_index tb rfl rfl rfl rfl (by first | exact gvo | exact gvd gvo (by omega)) (by omega) (by first | omega | (simp; done) | (simp; omega)) | exact q_indexP tb rfl rfl rfl rfl (by omega) (by omega)) ?_
        refine W_qg rfl rfl rfl rfl rfl rfl rfl rfl (q_fieldE tb rfl rfl rfl (by first | exact gvo | exact gvd gvo (by omega)) (by first | omega | (simp; done) | (simp; omega))) ?_
        refine W_qg rfl rfl rfl rfl rfl rfl rfl rfl (q_loadE tb rfl rfl (by first | exact gvo | exact gvd gvo (by omega)) (i := j) (o := 0) (by omega) helb rfl) ?_
        refine W_qg rfl rfl rfl rfl rfl rfl rfl rfl (q_gtr rfl rfl) ?_
        refine W_qg rfl rfl rfl rfl rfl rfl rfl rfl (by first | exact q_pickT rfl rfl | exact q_pickF rfl rfl) ?_
        refine W_qg rfl rfl rfl rfl rfl rfl rfl rfl (q_move rfl) ?_
        refine W_dec (d := 35) rfl (fun h5 => ?_) (fun h5 => ?_)
        · -- t35 True
          refine W_skip rfl rfl rfl rfl rfl rfl rfl rfl ?_
          refine W_skip rfl rfl rfl rfl rfl rfl rfl rfl ?_
          refine W_skip rfl rfl rfl rfl rfl rfl rfl rfl ?_
          refine W_skip rfl rfl rfl rfl rfl rfl rfl rfl ?_
          refine W_skip rfl rfl rfl rfl rfl rfl rfl rfl ?_
          refine W_skip rfl rfl rfl rfl rfl rfl rfl rfl ?_
          refine W_skip rfl rfl rfl rfl rfl rfl rfl rfl ?_
          refine W_skip rfl rfl rfl rfl rfl rfl rfl rfl ?_
          refine W_skip rfl rfl rfl rfl rfl rfl rfl rfl ?_
          refine W_skip rfl rfl rfl rfl rfl rfl rfl rfl ?_
          refine W_skip rfl rfl rfl rfl rfl rfl rfl rfl ?_
          refine W_skip rfl rfl rfl rfl rfl rfl rfl rfl ?_
          refine W_skipu rfl rfl rfl rfl rfl rfl rfl ?_
          refine W_skipu rfl rfl rfl rfl rfl rfl rfl ?_
          refine W_skipu rfl rfl rfl rfl rfl rfl rfl ?_
          refine W_skipu rfl rfl rfl rfl rfl rfl rfl ?_
          refine W_skipu rfl rfl rfl rfl rfl rfl rfl ?_
          refine W_skipu rfl rfl rfl rfl rfl rfl rfl ?_
          refine W_skipu rfl rfl rfl rfl rfl rfl rfl ?_
          refine W_skipu rfl rfl rfl rfl rfl rfl rfl ?_
          refine W_skipu rfl rfl rfl rfl rfl rfl rfl ?_
          refine W_skipu rfl rfl rfl rfl rfl rfl rfl ?_
          refine W_skipu rfl rfl rfl rfl rfl rfl rfl ?_
          refine W_skip rfl rfl rfl rfl rfl rfl rfl rfl ?_
          refine W_qg rfl rfl rfl rfl rfl rfl rfl rfl (by first | exact q_pickT rfl rfl | exact q_pickF rfl rfl) ?_
          refine W_q rfl rfl rfl rfl (by first | exact q_pickT rfl rfl | exact q_pickF rfl rfl) ?_
          refine W_nil ?_
          refine L_then ?_
          refine C_true rfl ?_
          refine C_region ?_
          refine L_q rfl rfl rfl (q_move rfl) ?_
          refine L_q rfl rfl rfl (q_assign rfl) ?_
          refine L_blk ?_
          refine C_region ?_
          refine L_q rfl rfl rfl (q_move rfl) ?_
          refine L_q rfl rfl rfl (q_add rfl rfl (by first | exact IntWalk.i64_in _ (by omega) | rfl)) ?_
          refine L_q rfl rfl rfl (q_assign rfl) ?_
          refine L_end ?_
          exact fun ac_ wo_ hs_ => ⟨(k + 1), (by first | omega | (dsimp only; omega)), (by first | omega | (dsimp only; omega)), hs_.weak ⟨rfl, rfl, en (by rw [rcM_yes he hmt (by first | exact .inl (by omega) | exact .inr (by rw [hgb]; unfold betP; omega))]), rfl, trivial⟩ (fun h => h.pk (by repeat (first | with_reducible exact pk_nil | refine pk_box rfl ?_ | refine pk_rd rfl ?_ | refine pk_sl rfl ?_ | with_reducible refine pk_app ?_ | with_reducible refine pk_app0 ?_ | with_reducible refine pk_app0L ?_ | with_reducible exact pk_tl | refine pk_var ?_)))⟩
        · -- t35 False
          refine W_qg rfl rfl rfl rfl rfl rfl rfl rfl (q_move rfl) ?_
          refine W_qg rfl rfl rfl rfl rfl rfl rfl rfl (q_move rfl) ?_
          refine W_qg rfl rfl rfl rfl rfl rfl rfl rfl (by first | exact q_index tb rfl rfl rfl rfl (by first | exact gvo | exact gvd gvo (by omega)) (by omega) (by first | omega | (simp; done) | (simp; omega)) | exact q_indexP tb rfl rfl rfl rfl (by omega) (by omega)) ?_
          refine W_qg rfl rfl rfl rfl rfl rfl rfl rfl (q_fieldE tb rfl rfl rfl (by first | exact gvo | exact gvd gvo (by omega)) (by first | omega | (simp; done) | (simp; omega))) ?_
          refine W_qg rfl rfl rfl rfl rfl rfl rfl rfl (q_loadE tb rfl rfl (by first | exact gvo | exact gvd gvo (by omega)) (i := k) (o := 0) (by omega) hel rfl) ?_
          refine W_qg rfl rfl rfl rfl rfl rfl rfl rfl (q_move rfl) ?_
          refine W_qg rfl rfl rfl rfl rfl rfl rfl rfl (q_move rfl) ?_
          refine W_qg rfl rfl rfl rfl rfl rfl rfl rfl (by first | exact q_index tb rfl rfl rfl rfl (by first | exact gvo | exact gvd gvo (by omega)) (by omega) (by first | omega | (simp; done) | (simp; omega)) | exact q_indexP tb rfl rfl rfl rfl (by omega) (by omega)) ?_
          refine W_qg rfl rfl rfl rfl rfl rfl rfl rfl (q_fieldE tb rfl rfl rfl (by first | exact gvo | exact gvd gvo (by omega)) (by first | omega | (simp; done) | (simp; omega))) ?_
          refine W_qg rfl rfl rfl rfl rfl rfl rfl rfl (q_loadE tb rfl rfl (by first | exact gvo | exact gvd gvo (by omega)) (i := j) (o := 0) (by omega) helb rfl) ?_
          refine W_qg rfl rfl rfl rfl rfl rfl rfl rfl (q_eql rfl rfl) ?_
          refine W_qg rfl rfl rfl rfl rfl rfl rfl rfl (q_move rfl) ?_
          refine W_dec (d := 47) rfl (fun h7 => ?_) (fun h7 => ?_)
          · -- t47 True
            refine W_qg rfl rfl rfl rfl rfl rfl rfl rfl (q_move rfl) ?_
            refine W_qg rfl rfl rfl rfl rfl rfl rfl rfl (q_move rfl) ?_
            refine W_qg rfl rfl rfl rfl rfl rfl rfl rfl (by first | exact q_index tb rfl rfl rfl rfl (by first | exact gvo | exact gvd gvo (by omega)) (by omega) (by first | omega | (simp; done) | (simp; omega)) | exact q_indexP tb rfl rfl rfl rfl (by omega) (by omega)) ?_
            refine W_qg rfl rfl rfl rfl rfl rfl rfl rfl (q_fieldE tb rfl rfl rfl (by first | exact gvo | exact gvd gvo (by omega)) (by first | omega | (simp; done) | (simp; omega))) ?_
            refine W_qg rfl rfl rfl rfl rfl rfl rfl rfl (q_loadE tb rfl rfl (by first | exact gvo | exact gvd gvo (by omega)) (i := k) (o := 1) (by omega) hel rfl) ?_
            refine W_qg rfl rfl rfl rfl rfl rfl rfl rfl (q_move rfl) ?_
            refine W_qg rfl rfl rfl rfl rfl rfl rfl rfl (q_move rfl) ?_
            refine W_qg rfl rfl rfl rfl rfl rfl rfl rfl (by first | exact q_index tb rfl rfl rfl rfl (by first | exact gvo | exact gvd gvo (by omega)) (by omega) (by first | omega | (simp; done) | (simp; omega)) | exact q_indexP tb rfl rfl rfl rfl (by omega) (by omega)) ?_
            refine W_qg rfl rfl rfl rfl rfl rfl rfl rfl (q_fieldE tb rfl rfl rfl (by first | exact gvo | exact gvd gvo (by omega)) (by first | omega | (simp; done) | (simp; omega))) ?_
            refine W_qg rfl rfl rfl rfl rfl rfl rfl rfl (q_loadE tb rfl rfl (by first | exact gvo | exact gvd gvo (by omega)) (i := j) (o := 1) (by omega) helb rfl) ?_
            refine W_qg rfl rfl rfl rfl rfl rfl rfl rfl (q_lss rfl rfl) ?_
            refine W_qg rfl rfl rfl rfl rfl rfl rfl rfl (by first | exact q_pickT rfl rfl | exact q_pickF rfl rfl) ?_
            refine W_qg rfl rfl rfl rfl rfl rfl rfl rfl (by first | exact q_pickT rfl rfl | exact q_pickF rfl rfl) ?_
            refine W_q rfl rfl rfl rfl (by first | exact q_pickT rfl rfl | exact q_pickF rfl rfl) ?_
            refine W_nil ?_
            refine L_then ?_
            refine C_dec rfl (fun h8 => ?_) (fun h8 => ?_)
            · -- t61 True
              refine C_region ?_
              refine L_q rfl rfl rfl (q_move rfl) ?_
              refine L_q rfl rfl rfl (q_assign rfl) ?_
              refine L_blk ?_
              refine C_region ?_
              refine L_q rfl rfl rfl (q_move rfl) ?_
              refine L_q rfl rfl rfl (q_add rfl rfl (by first | exact IntWalk.i64_in _ (by omega) | rfl)) ?_
              refine L_q rfl rfl rfl (q_assign rfl) ?_
              refine L_end ?_
              exact fun ac_ wo_ hs_ => ⟨(k + 1), (by first | omega | (dsimp only; omega)), (by first | omega | (dsimp only; omega)), hs_.weak ⟨rfl, rfl, en (by rw [rcM_yes he hmt (by first | exact .inl (by omega) | exact .inr (by rw [hgb]; unfold betP; omega))]), rfl, trivial⟩ (fun h => h.pk (by repeat (first | with_reducible exact pk_nil | refine pk_box rfl ?_ | refine pk_rd rfl ?_ | refine pk_sl rfl ?_ | with_reducible refine pk_app ?_ | with_reducible refine pk_app0 ?_ | with_reducible refine pk_app0L ?_ | with_reducible exact pk_tl | refine pk_var ?_)))⟩
            · -- t61 False
              refine C_skip_blk ?_
              refine C_region ?_
              refine L_q rfl rfl rfl (q_move rfl) ?_
              refine L_q rfl rfl rfl (q_add rfl rfl (by first | exact IntWalk.i64_in _ (by omega) | rfl)) ?_
              refine L_q rfl rfl rfl (q_assign rfl) ?_
              refine L_end ?_
              exact fun ac_ wo_ hs_ => ⟨(k + 1), (by first | omega | (dsimp only; omega)), (by first | omega | (dsimp only; omega)), hs_.weak ⟨rfl, rfl, en (by first | (rw [rcM_no he (fun hh => by first | exact hm hh.1 | (have h9 := hh.2; rw [hgb] at h9; unfold betP at h9; omega))]; done) | (rw [rcM_no he (fun hh => by first | exact hm hh.1 | (have h9 := hh.2; rw [hgb] at h9; unfold betP at h9; omega))]; first | exact hj | exact hj.symm)), rfl, trivial⟩ (fun h => h.pk (by repeat (first | with_reducible exact pk_nil | refine pk_box rfl ?_ | refine pk_rd rfl ?_ | refine pk_sl rfl ?_ | with_reducible refine pk_app ?_ | with_reducible refine pk_app0 ?_ | with_reducible refine pk_app0L ?_ | with_reducible exact pk_tl | refine pk_var ?_)))⟩
          · -- t47 False
            refine W_skip rfl rfl rfl rfl rfl rfl rfl rfl ?_
            refine W_skip rfl rfl rfl rfl rfl rfl rfl rfl ?_
            refine W_skip rfl rfl rfl rfl rfl rfl rfl rfl ?_
            refine W_skip rfl rfl rfl rfl rfl rfl rfl rfl ?_
            refine W_skip rfl rfl rfl rfl rfl rfl rfl rfl ?_
            refine W_skip rfl rfl rfl rfl rfl rfl rfl rfl ?_
            refine W_skip rfl rfl rfl rfl rfl rfl rfl rfl ?_
            refine W_skip rfl rfl rfl rfl rfl rfl rfl rfl ?_
            refine W_skip rfl rfl rfl rfl rfl rfl rfl rfl ?_
            refine W_skip rfl rfl rfl rfl rfl rfl rfl rfl ?_
            refine W_skip rfl rfl rfl rfl rfl rfl rfl rfl ?_
            refine W_qg rfl rfl rfl rfl rfl rfl rfl rfl (by first | exact q_pickT rfl rfl | exact q_pickF rfl rfl) ?_
            refine W_qg rfl rfl rfl rfl rfl rfl rfl rfl (by first | exact q_pickT rfl rfl | exact q_pickF rfl rfl) ?_
            refine W_q rfl rfl rfl rfl (by first | exact q_pickT rfl rfl | exact q_pickF rfl rfl) ?_
            refine W_nil ?_
            refine L_then ?_
            refine C_false rfl ?_
            refine C_skip_blk ?_
            refine C_region ?_
            refine L_q rfl rfl rfl (q_move rfl) ?_
            refine L_q rfl rfl rfl (q_add rfl rfl (by first | exact IntWalk.i64_in _ (by omega) | rfl)) ?_
            refine L_q rfl rfl rfl (q_assign rfl) ?_
            refine L_end ?_
            exact fun ac_ wo_ hs_ => ⟨(k + 1), (by first | omega | (dsimp only; omega)), (by first | omega | (dsimp only; omega)), hs_.weak ⟨rfl, rfl, en (by first | (rw [rcM_no he (fun hh => by first | exact hm hh.1 | (have h9 := hh.2; rw [hgb] at h9; unfold betP at h9; omega))]; done) | (rw [rcM_no he (fun hh => by first | exact hm hh.1 | (have h9 := hh.2; rw [hgb] at h9; unfold betP at h9; omega))]; first | exact hj | exact hj.symm)), rfl, trivial⟩ (fun h => h.pk (by repeat (first | with_reducible exact pk_nil | refine pk_box rfl ?_ | refine pk_rd rfl ?_ | refine pk_sl rfl ?_ | with_reducible refine pk_app ?_ | with_reducible refine pk_app0 ?_ | with_reducible refine pk_app0L ?_ | with_reducible exact pk_tl | refine pk_var ?_)))⟩
    · -- t19 False
      refine W_skip rfl rfl rfl rfl rfl rfl rfl rfl ?_
      refine W_skip rfl rfl rfl rfl rfl rfl rfl rfl ?_
      refine W_skip rfl rfl rfl rfl rfl rfl rfl rfl ?_
      refine W_skipu rfl rfl rfl rfl rfl rfl rfl ?_
      refine W_skipu rfl rfl rfl rfl rfl rfl rfl ?_
      refine W_skipu rfl rfl rfl rfl rfl rfl rfl ?_
      refine W_skipu rfl rfl rfl rfl rfl rfl rfl ?_
      refine W_skipu rfl rfl rfl rfl rfl rfl rfl ?_
      refine W_skipu rfl rfl rfl rfl rfl rfl rfl ?_
      refine W_skipu rfl rfl rfl rfl rfl rfl rfl ?_
      refine W_skipu rfl rfl rfl rfl rfl rfl rfl ?_
      refine W_skipu rfl rfl rfl rfl rfl rfl rfl ?_
      refine W_skipu rfl rfl rfl rfl rfl rfl rfl ?_
      refine W_skipu rfl rfl rfl rfl rfl rfl rfl ?_
      refine W_skip rfl rfl rfl rfl rfl rfl rfl rfl ?_
      refine W_skip rfl rfl rfl rfl rfl rfl rfl rfl ?_
      refine W_skipu rfl rfl rfl rfl rfl rfl rfl ?_
      refine W_skipu rfl rfl rfl rfl rfl rfl rfl ?_
      refine W_skipu rfl rfl rfl rfl rfl rfl rfl ?_
      refine W_skipu rfl rfl rfl rfl rfl rfl rfl ?_
      refine W_skipu rfl rfl rfl rfl rfl rfl rfl ?_
      refine W_skipu rfl rfl rfl rfl rfl rfl rfl ?_
      refine W_skipu rfl rfl rfl rfl rfl rfl rfl ?_
      refine W_skipu rfl rfl rfl rfl rfl rfl rfl ?_
      refine W_skipu rfl rfl rfl rfl rfl rfl rfl ?_
      refine W_skipu rfl rfl rfl rfl rfl rfl rfl ?_
      refine W_skipu rfl rfl rfl rfl rfl rfl rfl ?_
      refine W_skipu rfl rfl rfl rfl rfl rfl rfl ?_
      refine W_skipu rfl rfl rfl rfl rfl rfl rfl ?_
      refine W_skipu rfl rfl rfl rfl rfl rfl rfl ?_
      refine W_skipu rfl rfl rfl rfl rfl rfl rfl ?_
      refine W_skipu rfl rfl rfl rfl rfl rfl rfl ?_
      refine W_skipu rfl rfl rfl rfl rfl rfl rfl ?_
      refine W_skipu rfl rfl rfl rfl rfl rfl rfl ?_
      refine W_skipu rfl rfl rfl rfl rfl rfl rfl ?_
      refine W_skipu rfl rfl rfl rfl rfl rfl rfl ?_
      refine W_skipu rfl rfl rfl rfl rfl rfl rfl ?_
      refine W_skipu rfl rfl rfl rfl rfl rfl rfl ?_
      refine W_skipu rfl rfl rfl rfl rfl rfl rfl ?_
      refine W_skipu rfl rfl rfl rfl rfl rfl rfl ?_
      refine W_skip rfl rfl rfl rfl rfl rfl rfl rfl ?_
      refine W_q rfl rfl rfl rfl (by first | exact q_pickT rfl rfl | exact q_pickF rfl rfl) ?_
      refine W_nil ?_
      refine L_then ?_
      refine C_false rfl ?_
      refine C_skip_blk ?_
      refine C_region ?_
      refine L_q rfl rfl rfl (q_move rfl) ?_
      refine L_q rfl rfl rfl (q_add rfl rfl (by first | exact IntWalk.i64_in _ (by omega) | rfl)) ?_
      refine L_q rfl rfl rfl (q_assign rfl) ?_
      refine L_end ?_
      exact fun ac_ wo_ hs_ => ⟨(k + 1), (by first | omega | (dsimp only; omega)), (by first | omega | (dsimp only; omega)), hs_.weak ⟨rfl, rfl, en (by first | (rw [rcM_no he (fun hh => by first | exact hm hh.1 | (have h9 := hh.2; rw [hgb] at h9; unfold betP at h9; omega))]; done) | (rw [rcM_no he (fun hh => by first | exact hm hh.1 | (have h9 := hh.2; rw [hgb] at h9; unfold betP at h9; omega))]; first | exact hj | exact hj.symm)), rfl, trivial⟩ (fun h => h.pk (by repeat (first | with_reducible exact pk_nil | refine pk_box rfl ?_ | refine pk_rd rfl ?_ | refine pk_sl rfl ?_ | with_reducible refine pk_app ?_ | with_reducible refine pk_app0 ?_ | with_reducible refine pk_app0L ?_ | with_reducible exact pk_tl | refine pk_var ?_)))⟩
  · -- t10 False
    obtain rfl : k = gs.length := by omega
    refine C_exit ?_
    change C Tryd.prog _ _ _ _ _ _ _
    refine C_seq ?_
    refine C_region ?_
    refine L_q rfl rfl rfl (q_move rfl) ?_
    refine L_q rfl rfl rfl (q_assign rfl) ?_
    refine L_then ?_
    refine C_ret ?_
    exact ret_of (res1 rfl rfl) sub_nil (by intro r hr; cases hr) ⟨rfl, rfl⟩
end Go.Proofs.YtibohfipgjljhaaDoor
