/-
  Walks: each function named returns what its model says. Conditions: those in front of each theorem.
-/
import Derived.Test.YtolnohjbpllmhaaXQ
namespace Go.Proofs.Ytolnohjbpllmhaa
open Go.RowKit

set_option maxRecDepth 100000 in
theorem ct_shotlinelaw05_ExposureSwitches (nm : ByteArray) (sf : Int) (v u : Value) (gs : List Gs) (ls : List Dl) : Ct Try.prog 8 [.agg (cPl nm sf v u).toArray] [(v, 2, gs.map cGs), (u, 3, ls.map cDl)] (isV (.bool true)) := by
  refine Ct.of (N := 57) Try.func8 rfl rfl rfl fun w => ?_
  refine C_weak (E' := [(0, .agg (cPl nm sf v u).toArray)]) (rs' := [rd v 2 (gs.map cGs), rd u 3 (ls.map cDl)]) ⟨rfl, trivial⟩ (fun _ h => h) ?_
  have hl1 := len_map cGs gs
  have hl2 := len_map cDl ls
  refine C_seq ?_
  refine C_region ?_
  refine L_box rfl rfl rfl fun g1 => ?_
  refine L_q rfl rfl rfl (q_assign rfl) ?_
  refine L_then ?_
  refine C_seq ?_
  refine C_seq ?_
  refine C_region ?_
  refine L_call tb rfl rfl (ct_shotlinelaw05_awake) no_ps rfl ?_
  refine L_q rfl rfl rfl (q_not rfl (by first | exact (rfl : (!true) = false) | exact (rfl : (!false) = true) | exact decide_not.symm | rfl)) ?_
  refine L_then ?_
  refine C_false rfl ?_
  refine C_skip_then ?_
  refine C_seq ?_
  refine C_seq ?_
  refine C_region ?_
  refine L_q rfl rfl rfl (by first | exact q_loadA tb rfl rfl bxo rfl rfl | exact q_loadEA tb rfl rfl (by first | exact gvo | exact gvd gvo (by omega)) (by omega) (by simp) rfl rfl) ?_
  refine L_call tb rfl rfl (ct_shotlinelaw05_Short nm sf v u gs ls) (ps_cons (by first | exact gvo | exact gvd gvo (by omega)) (ps_cons (by first | exact gvo | exact gvd gvo (by omega)) no_ps)) rfl ?_
  refine L_q rfl rfl rfl (q_not rfl (by first | exact (rfl : (!true) = false) | exact (rfl : (!false) = true) | exact decide_not.symm | rfl)) ?_
  refine L_then ?_
  refine C_dec rfl (fun h1 => ?_) (fun h1 => ?_)
  · -- t12 True
    refine C_seq ?_
    refine C_region ?_
    refine L_q rfl rfl rfl (q_assign rfl) ?_
    refine L_then ?_
    refine C_ret ?_
    exact ret_of (res1 rfl rfl) sub_nil (by intro r hr; cases hr) ⟨rfl, rfl⟩
  · -- t12 False
    have hsh := Decidable.not_not.1 h1
    refine C_skip_then ?_
    refine C_seq ?_
    refine C_region ?_
    refine L_q rfl rfl rfl (by first | exact q_loadA tb rfl rfl bxo rfl rfl | exact q_loadEA tb rfl rfl (by first | exact gvo | exact gvd gvo (by omega)) (by omega) (by simp) rfl rfl) ?_
    refine L_lo rfl rfl rfl (lo_call tb rfl rfl (ct_shotlinebase_CopyPlan nm sf v u gs ls (by omega) (by omega)) (ps_cons (by first | exact gvo | exact gvd gvo (by omega)) (ps_cons (by first | exact gvo | exact gvd gvo (by omega)) no_ps)) (by rintro y rs ⟨a, b, _, rfl⟩ r hr; simp only [List.mem_cons, List.not_mem_nil, or_false] at hr; rcases hr with rfl | rfl <;> exact sl_sinks _ _ _ _)) ?_
    rintro _ _ ⟨a15, b15, rfl, rfl⟩
    refine L_callSN tb rfl rfl (ct_exposure_Switches nm sf a15 b15 gs ls (by omega) (by omega) (by omega)) (ps_cons (by first | exact gvo | exact gvd gvo (by omega)) (ps_cons (by first | exact gvo | exact gvd gvo (by omega)) no_ps)) rfl fun v16 => ?_
    refine L_q rfl rfl rfl (q_move rfl) ?_
    refine L_q rfl rfl rfl (q_ext0 rfl) ?_
    refine L_q rfl rfl rfl (q_ext1 rfl) ?_
    refine L_q rfl rfl rfl (q_assign rfl) ?_
    refine L_q rfl rfl rfl (q_assign rfl) ?_
    refine L_then ?_
    refine C_seq ?_
    refine C_seq ?_
    refine C_region ?_
    refine L_q rfl rfl rfl (by first | exact q_loadA tb rfl rfl bxo rfl rfl | exact q_loadEA tb rfl rfl (by first | exact gvo | exact gvd gvo (by omega)) (by omega) (by simp) rfl rfl) ?_
    refine L_call tb rfl rfl (ct_shotlineref05_Err nm sf v u gs ls (by omega) (by omega)) (ps_cons (by first | exact gvo | exact gvd gvo (by omega)) (ps_cons (by first | exact gvo | exact gvd gvo (by omega)) no_ps)) rfl ?_
    refine L_q rfl rfl rfl (q_assign rfl) ?_
    refine L_then ?_
    refine C_seq ?_
    refine C_region ?_
    refine L_q rfl rfl rfl (q_move rfl) ?_
    refine L_q rfl rfl rfl (q_neq rfl rfl) ?_
    refine L_then ?_
    refine C_dec rfl (fun hz => ?_) (fun hz => ?_)
    · -- t22 True
      rw [swE_1 hz]
      refine C_seq ?_
      refine C_region ?_
      refine L_q rfl rfl rfl (q_move rfl) ?_
      refine L_q rfl rfl rfl (q_move rfl) ?_
      refine L_q rfl rfl rfl (q_true (q_eql rfl rfl) (by simp)) ?_
      refine L_q rfl rfl rfl (q_move rfl) ?_
      refine L_qg rfl rfl rfl rfl rfl rfl rfl (q_move rfl) ?_
      refine L_qg rfl rfl rfl rfl rfl rfl rfl (q_len tb rfl rfl (by first | exact gvo | exact gvd gvo (by omega))) ?_
      refine L_qg rfl rfl rfl rfl rfl rfl rfl (q_true (q_eql rfl rfl) (by simp)) ?_
      refine L_q rfl rfl rfl (by first | exact q_pickT rfl rfl | exact q_pickF rfl rfl) ?_
      refine L_q rfl rfl rfl (q_assign rfl) ?_
      refine L_then ?_
      refine C_ret ?_
      exact ret_of (res1 rfl rfl) sub_nil (by intro r hr; cases hr) ⟨rfl, rfl⟩
    · -- t22 False
      have hz9 := Decidable.not_not.1 hz; have H := (ckPl_ok hz9).2; have hl9 := len_map cSw (swK gs ls ls.length); have hsl9 := swK_len gs ls ls.length; have hll := H.ll
      rw [swE_2 hz9]
      refine C_skip_then ?_
      refine C_seq ?_
      refine C_region ?_
      refine L_q rfl rfl rfl (by first | exact q_loadA tb rfl rfl bxo rfl rfl | exact q_loadEA tb rfl rfl (by first | exact gvo | exact gvd gvo (by omega)) (by omega) (by simp) rfl rfl) ?_
      refine L_callS tb rfl rfl (ct_shotlineref05_Switches nm sf v u gs ls H) (ps_cons (by first | exact gvo | exact gvd gvo (by omega)) (ps_cons (by first | exact gvo | exact gvd gvo (by omega)) no_ps)) rfl fun v32 => ?_
      refine L_q rfl rfl rfl (q_assign rfl) ?_
      refine L_then ?_
      refine C_seq ?_
      refine C_seq ?_
      refine C_region ?_
      refine L_q rfl rfl rfl (q_move rfl) ?_
      refine L_q rfl rfl rfl (q_false (q_neq rfl rfl) (by simp)) ?_
      refine L_q rfl rfl rfl (q_move rfl) ?_
      refine L_qg rfl rfl rfl rfl rfl rfl rfl (q_move rfl) ?_
      refine L_qg rfl rfl rfl rfl rfl rfl rfl (q_len tb rfl rfl (by first | exact gvo | exact gvd gvo (by omega))) ?_
      refine L_qg rfl rfl rfl rfl rfl rfl rfl (q_move rfl) ?_
      refine L_qg rfl rfl rfl rfl rfl rfl rfl (q_len tb rfl rfl (by first | exact gvo | exact gvd gvo (by omega))) ?_
      refine L_qg rfl rfl rfl rfl rfl rfl rfl (q_false (q_neq rfl rfl) (by simp)) ?_
      refine L_q rfl rfl rfl (by first | exact q_pickT rfl rfl | exact q_pickF rfl rfl) ?_
      refine L_then ?_
      refine C_false rfl ?_
      refine C_skip_then ?_
      refine C_seq ?_
      refine C_seq ?_
      refine C_region ?_
      refine L_q rfl rfl rfl (q_assign rfl) ?_
      refine L_then ?_
      refine C_block ?_
      refine C_loop (ι := Nat) (fun k => ([(3, v16), (6, v32), (7, .int .i64 (k : Int))], [sl v16 71 2 ((swK gs ls ls.length).map cSw), sl v32 71 2 ((swK gs ls ls.length).map cSw)])) (fun k => k ≤ (swK gs ls ls.length).length) (fun k => (swK gs ls ls.length).length - k) 0 (Nat.zero_le _) (fun a w hs => hs.weak ⟨rfl, rfl, rfl, trivial⟩ (fun h => h.pk (by repeat (first | with_reducible exact pk_nil | refine pk_box rfl ?_ | refine pk_rd rfl ?_ | refine pk_sl rfl ?_ | with_reducible refine pk_app ?_ | with_reducible refine pk_app0 ?_ | with_reducible refine pk_app0L ?_ | with_reducible exact pk_tl | refine pk_var ?_)))) ?_
      intro k hk9
      dsimp only at hk9 ⊢
      refine C_seq ?_
      refine C_seq ?_
      refine C_region ?_
      refine L_q rfl rfl rfl (q_move rfl) ?_
      refine L_q rfl rfl rfl (q_move rfl) ?_
      refine L_q rfl rfl rfl (q_len tb rfl rfl (by first | exact gvo | exact gvd gvo (by omega))) ?_
      refine L_q rfl rfl rfl (q_lss rfl rfl) ?_
      refine L_then ?_
      refine C_dec rfl (fun h5 => ?_) (fun h5 => ?_)
      · -- t45 True
        obtain ⟨x, hx⟩ := get_some (swK gs ls ls.length) (k := k) (by omega); have hel := map_get cSw hx
        refine C_skip_then ?_
        refine C_seq ?_
        refine C_block ?_
        refine C_seq ?_
        refine C_draw (n := 9) [(0, false), (1, false), (2, false), (3, false), (4, false), (5, false), (6, false), (7, false), (8, false)] mixed (by kernel_rfl) ?_
        refine W_q rfl rfl rfl rfl (q_move rfl) ?_
        refine W_q rfl rfl rfl rfl (q_move rfl) ?_
        refine W_q rfl rfl rfl rfl (by first | exact q_index tb rfl rfl rfl rfl (by first | exact gvo | exact gvd gvo (by omega)) (by omega) (by first | omega | (simp; done) | (simp; omega)) | exact q_indexP tb rfl rfl rfl rfl (by omega) (by omega)) ?_
        refine W_q rfl rfl rfl rfl (by first | exact q_loadA tb rfl rfl bxo rfl rfl | exact q_loadEA tb rfl rfl (by first | exact gvo | exact gvd gvo (by omega)) (i := k) (o := 0) (by omega) hel rfl rfl) ?_
        refine W_q rfl rfl rfl rfl (q_move rfl) ?_
        refine W_q rfl rfl rfl rfl (q_move rfl) ?_
        refine W_q rfl rfl rfl rfl (by first | exact q_index tb rfl rfl rfl rfl (by first | exact gvo | exact gvd gvo (by omega)) (by omega) (by first | omega | (simp; done) | (simp; omega)) | exact q_indexP tb rfl rfl rfl rfl (by omega) (by omega)) ?_
        refine W_q rfl rfl rfl rfl (by first | exact q_loadA tb rfl rfl bxo rfl rfl | exact q_loadEA tb rfl rfl (by first | exact gvo | exact gvd gvo (by omega)) (i := k) (o := 0) (by omega) hel rfl rfl) ?_
        refine W_q rfl rfl rfl rfl (q_false (q_neI (xs := [x.1, x.2]) (ys := [x.1, x.2]) (eqT_arr2 tb Try.underlying71 Try.underlying3 rfl) (by omega) (by kernel_rfl) rfl rfl rfl rfl Iff.rfl) (by simp)) ?_
        refine W_nil ?_
        refine L_then ?_
        refine C_false rfl ?_
        refine C_skip_blk ?_
        refine C_region ?_
        refine L_q rfl rfl rfl (q_move rfl) ?_
        refine L_q rfl rfl rfl (q_add rfl rfl (by first | exact IntWalk.i64_in _ (by omega) | rfl)) ?_
        refine L_q rfl rfl rfl (q_assign rfl) ?_
        refine L_end ?_
        exact fun ac_ wo_ hs_ => ⟨k + 1, (by dsimp only; omega), (by dsimp only; omega), hs_.weak ⟨rfl, rfl, rfl, trivial⟩ (fun h => h.pk (by repeat (first | with_reducible exact pk_nil | refine pk_box rfl ?_ | refine pk_rd rfl ?_ | refine pk_sl rfl ?_ | with_reducible refine pk_app ?_ | with_reducible refine pk_app0 ?_ | with_reducible refine pk_app0L ?_ | with_reducible exact pk_tl | refine pk_var ?_)))⟩
      · -- t45 False
        refine C_exit ?_
        change C Try.prog _ _ _ _ _ _ _
        refine C_seq ?_
        refine C_region ?_
        refine L_q rfl rfl rfl (q_assign rfl) ?_
        refine L_then ?_
        refine C_ret ?_
        exact ret_of (res1 rfl rfl) sub_nil (by intro r hr; cases hr) ⟨rfl, rfl⟩
end Go.Proofs.Ytolnohjbpllmhaa
