/-
  Walks: each function named returns what its model says. Conditions: those in front of each theorem.
-/
import Derived.Test.YtolnohjbpllmhaaXL
import Derived.Test.YtolnohjbpllmhaaXp11
import Derived.Test.YtolnohjbpllmhaaShTreeO
namespace Go.Proofs.Ytolnohjbpllmhaa
open Go.RowKit

set_option maxRecDepth 100000 in
theorem ct_exposure_firstShort_1 (n : Int) : Ct Try.prog 149 [.int .i64 n] [] (isV (.bool (decide (badA n)))) := by
  refine Ct.of (N := 6) Try.func149 rfl rfl rfl fun w => ?_
  refine C_weak (E' := [(0, .int .i64 n)]) (rs' := []) ⟨rfl, trivial⟩ (fun _ h => h) ?_
  refine C_seq ?_
  refine C_region ?_
  refine L_q rfl rfl rfl (q_assign rfl) ?_
  refine L_then ?_
  refine C_seq ?_
  refine C_region ?_
  refine L_q rfl rfl rfl (q_move rfl) ?_
  refine L_call tb rfl rfl (ct_exposure_within _ _ _) no_ps rfl ?_
  refine L_q rfl rfl rfl (q_not rfl (by first | exact (rfl : (!true) = false) | exact (rfl : (!false) = true) | exact decide_not.symm | rfl)) ?_
  refine L_q rfl rfl rfl (q_assign rfl) ?_
  refine L_then ?_
  refine C_ret ?_
  exact ret_of (res1 rfl rfl) sub_nil (by intro r hr; cases hr) ⟨(by first | rfl | exact congrArg Value.bool (decide_eq_decide.2 (by omega)) | exact congrArg Value.bool (decide_eq_true (by omega)).symm | exact congrArg Value.bool (decide_eq_false (by omega)).symm | exact congrArg Value.bool (decide_eq_true (by omega))), rfl⟩
set_option maxRecDepth 100000 in
theorem ct_slices_IndexFunc_int_int (v : Value) (ns : List Int) (hle : ns.length ≤ 100000) : Ct Try.prog 168 [v, .func (.func 149) #[] #[]] [(v, 1, ns.map cI)] (isV (.int .i64 ((if badK ns < ns.length then (badK ns : Int) else -1)))) := by
  refine Ct.of (N := 19) Try.func168 rfl rfl rfl fun w => ?_
  refine C_weak (E' := [(0, v), (1, .func (.func 149) #[] #[])]) (rs' := [rd v 1 (ns.map cI)]) ⟨rfl, rfl, trivial⟩ (fun _ h => h) ?_
  have hl := len_map cI ns
  refine C_seq ?_
  refine C_region ?_
  refine L_q rfl rfl rfl (q_assign rfl) ?_
  refine L_then ?_
  refine C_seq ?_
  refine C_seq ?_
  refine C_region ?_
  refine L_q rfl rfl rfl (q_move rfl) ?_
  refine L_q rfl rfl rfl (q_len tb rfl rfl (by first | exact gvo | exact gvd gvo (by omega))) ?_
  refine L_q rfl rfl rfl (q_move rfl) ?_
  refine L_then ?_
  refine C_block ?_
  refine C_loop (ι := Nat) (fun k => ([(0, v), (1, .func (.func 149) #[] #[]), (7, .int .i64 (ns.map cI).length), (8, .int .i64 (k : Int))], [rd v 1 (ns.map cI)])) (fun k => k ≤ ns.length ∧ ∀ i : Nat, i < k → badN ns i = false) (fun k => ns.length - k) 0 ⟨Nat.zero_le _, fun i h => absurd h (Nat.not_lt_zero _)⟩ (fun a w hs => hs.weak ⟨rfl, rfl, rfl, rfl, trivial⟩ (fun h => h.pk (by repeat (first | with_reducible exact pk_nil | refine pk_box rfl ?_ | refine pk_rd rfl ?_ | refine pk_sl rfl ?_ | with_reducible refine pk_app ?_ | with_reducible refine pk_app0 ?_ | with_reducible refine pk_app0L ?_ | with_reducible exact pk_tl | refine pk_var ?_)))) ?_
  rintro k ⟨hk, hgd⟩
  dsimp only at hk hgd ⊢
  refine C_seq ?_
  refine C_region ?_
  refine L_q rfl rfl rfl (q_lss rfl rfl) ?_
  refine L_then ?_
  refine C_seq ?_
  refine C_dec rfl (fun h1 => ?_) (fun h1 => ?_)
  · -- t9 True
    obtain ⟨x, hx⟩ := get_some ns (k := k) (by omega); have hel := map_get cI hx
    refine C_skip_then ?_
    refine C_seq ?_
    refine C_block ?_
    refine C_seq ?_
    refine C_region ?_
    refine L_q rfl rfl rfl (q_move rfl) ?_
    refine L_q rfl rfl rfl (q_assign rfl) ?_
    refine L_then ?_
    refine C_seq ?_
    refine C_region ?_
    refine L_q rfl rfl rfl (q_move rfl) ?_
    refine L_q rfl rfl rfl (q_move rfl) ?_
    refine L_q rfl rfl rfl (q_move rfl) ?_
    refine L_q rfl rfl rfl (by first | exact q_index tb rfl rfl rfl rfl (by first | exact gvo | exact gvd gvo (by omega)) (by omega) (by first | omega | (simp; done) | (simp; omega)) | exact q_indexP tb rfl rfl rfl rfl (by omega) (by omega)) ?_
    refine L_q rfl rfl rfl (q_loadE tb rfl rfl (by first | exact gvo | exact gvd gvo (by omega)) (i := k) (o := 0) (by omega) hel rfl) ?_
    refine L_callC (tb.en_ok _ (lkT_mem (rfl : lkT tb.en 149 = some ()))) rfl rfl (ct_exposure_firstShort_1 x) no_ps rfl ?_
    refine L_then ?_
    refine C_dec rfl (fun hbd => ?_) (fun hbd => ?_)
    · -- t16 True
      have e9 : badK ns = k := firstB_at (by omega) (by unfold badN; rw [hx]; exact decide_eq_true hbd) hgd
      refine C_seq ?_
      refine C_region ?_
      refine L_q rfl rfl rfl (q_move rfl) ?_
      refine L_q rfl rfl rfl (q_assign rfl) ?_
      refine L_then ?_
      refine C_ret ?_
      exact ret_of (res1 rfl rfl) sub_nil (by intro r hr; cases hr) ⟨(congrArg (Value.int .i64) (by rw [e9, if_pos (by omega)])), rfl⟩
    · -- t16 False
      refine C_skip_blk ?_
      refine C_region ?_
      refine L_q rfl rfl rfl (q_add rfl rfl (by first | exact IntWalk.i64_in _ (by omega) | rfl)) ?_
      refine L_q rfl rfl rfl (q_move rfl) ?_
      refine L_end ?_
      exact fun ac_ wo_ hs_ => ⟨k + 1, ⟨by omega, fun i hi => if h9 : i < k then hgd i h9 else (by rw [show i = k by omega]; unfold badN; rw [hx]; exact decide_eq_false hbd)⟩, (by dsimp only; omega), hs_.weak ⟨rfl, rfl, rfl, rfl, trivial⟩ (fun h => h.pk (by repeat (first | with_reducible exact pk_nil | refine pk_box rfl ?_ | refine pk_rd rfl ?_ | refine pk_sl rfl ?_ | with_reducible refine pk_app ?_ | with_reducible refine pk_app0 ?_ | with_reducible refine pk_app0L ?_ | with_reducible exact pk_tl | refine pk_var ?_)))⟩
  · -- t9 False
    have e9 : badK ns = ns.length := firstB_all (fun i hi => hgd i (by omega))
    refine C_exit ?_
    change C Try.prog _ _ _ _ _ _ _
    refine C_seq ?_
    refine C_region ?_
    refine L_q rfl rfl rfl (q_assign rfl) ?_
    refine L_then ?_
    refine C_ret ?_
    exact ret_of (res1 rfl rfl) sub_nil (by intro r hr; cases hr) ⟨(congrArg (Value.int .i64) (by rw [if_neg (by omega)])), rfl⟩
set_option maxRecDepth 100000 in
theorem ct_slices_ContainsFunc_int_int (v : Value) (ns : List Int) (hle : ns.length ≤ 100000) : Ct Try.prog 148 [v, .func (.func 149) #[] #[]] [(v, 1, ns.map cI)] (isV (.bool (decide (badK ns < ns.length)))) := by
  refine Ct.of (N := 9) Try.func148 rfl rfl rfl fun w => ?_
  refine C_weak (E' := [(0, v), (1, .func (.func 149) #[] #[])]) (rs' := [rd v 1 (ns.map cI)]) ⟨rfl, rfl, trivial⟩ (fun _ h => h) ?_
  have hl := len_map cI ns
  refine C_seq ?_
  refine C_region ?_
  refine L_q rfl rfl rfl (q_assign rfl) ?_
  refine L_then ?_
  refine C_seq ?_
  refine C_region ?_
  refine L_q rfl rfl rfl (q_move rfl) ?_
  refine L_q rfl rfl rfl (q_move rfl) ?_
  refine L_call tb rfl rfl (ct_slices_IndexFunc_int_int v ns hle) (ps_cons (by first | exact gvo | exact gvd gvo (by omega)) no_ps) rfl ?_
  refine L_q rfl rfl rfl (q_geq rfl rfl) ?_
  refine L_q rfl rfl rfl (q_assign rfl) ?_
  refine L_then ?_
  refine C_ret ?_
  exact ret_of (res1 rfl rfl) sub_nil (by intro r hr; cases hr) ⟨(congrArg Value.bool (decide_eq_decide.2 (by split <;> omega))), rfl⟩
set_option maxRecDepth 100000 in
set_option maxHeartbeats 400000 in
theorem ct_exposure_firstShort (t : Value) (r : Ru) (nm : ByteArray) (sf : Int) (v u : Value) (gs : List Gs) (ls : List Dl) (z : Value) (am : List Int) (hle : gs.length ≤ 100000) (hle2 : ls.length ≤ 100000) (hnm : nm.size ≤ 1000000000000) (hlt : r.tb.length ≤ 100000) (hla : am.length ≤ 100000) : Ct Try.prog 119 [.agg (cPl nm sf v u).toArray, .agg (cRu t r).toArray, z] [(v, 2, gs.map cGs), (u, 3, ls.map cDl), (t, 2, r.tb.map cOw), (z, 1, am.map cI)] (isV (.tuple #[.int .i64 (fsE nm sf gs ls r am).1, .int .i64 (fsE nm sf gs ls r am).2.1, .int .i64 (fsE nm sf gs ls r am).2.2])) := by
  refine Ct.ofM (N := 57) Try.func119 rfl rfl rfl fun w => ?_
  refine C_weak (E' := [(0, .agg (cPl nm sf v u).toArray), (1, .agg (cRu t r).toArray), (2, z)]) (rs' := [rd v 2 (gs.map cGs), rd u 3 (ls.map cDl), rd t 2 (r.tb.map cOw), rd z 1 (am.map cI)]) ⟨rfl, rfl, rfl, trivial⟩ (fun _ h => h) ?_
  have hl1 := len_map cGs gs
  have hl2 := len_map cDl ls
  have hl1 := len_map cOw r.tb
  have hlz := len_map cI am
  refine C_form (v := z) gvo (fun Az cz hvz _ => ?_)
  subst hvz
  refine C_seq ?_
  refine C_region ?_
  refine L_box rfl rfl rfl fun g3 => ?_
  refine L_box rfl rfl rfl fun g4 => ?_
  refine L_box rfl rfl rfl fun g5 => ?_
  refine L_alloc tb rfl rfl fun g6 => ?_
  refine L_alloc tb rfl rfl fun g7 => ?_
  refine L_alloc tb rfl rfl fun g8 => ?_
  refine L_then ?_
  refine C_seq ?_
  refine C_seq ?_
  refine C_region ?_
  refine L_q rfl rfl rfl (q_loadA tb rfl rfl bxo rfl rfl) ?_
  refine L_q rfl rfl rfl (q_loadA tb rfl rfl bxo rfl rfl) ?_
  refine L_call tb rfl rfl (ct_exposure_both t r nm sf v u gs ls hle hle2 hnm hlt) (ps_cons (by first | exact gvo | exact gvd gvo (by omega)) (ps_cons (by first | exact gvo | exact gvd gvo (by omega)) (ps_cons (by first | exact gvo | exact gvd gvo (by omega)) no_ps))) rfl ?_
  refine L_q rfl rfl rfl (q_assign rfl) ?_
  refine L_then ?_
  refine C_seq ?_
  refine C_region ?_
  refine L_q rfl rfl rfl (q_move rfl) ?_
  refine L_q rfl rfl rfl (q_neq rfl rfl) ?_
  refine L_then ?_
  refine C_dec rfl (fun h1 => ?_) (fun h1 => ?_)
  · -- t16 True
    refine C_seq ?_
    refine C_region ?_
    refine L_q rfl rfl rfl (q_move rfl) ?_
    first | refine L_store tb rfl rfl rfl rfl rfl rfl rfl rfl ?_ | (refine L_front1 ?_; refine L_store tb rfl rfl rfl rfl rfl rfl rfl rfl ?_) | (refine L_front2 ?_; refine L_store tb rfl rfl rfl rfl rfl rfl rfl rfl ?_) | (refine L_front3 ?_; refine L_store tb rfl rfl rfl rfl rfl rfl rfl rfl ?_) | (refine L_front4 ?_; refine L_store tb rfl rfl rfl rfl rfl rfl rfl rfl ?_) | (refine L_front5 ?_; refine L_store tb rfl rfl rfl rfl rfl rfl rfl rfl ?_) | (refine L_front6 ?_; refine L_store tb rfl rfl rfl rfl rfl rfl rfl rfl ?_)
    first | refine L_store tb rfl rfl rfl rfl rfl rfl rfl rfl ?_ | (refine L_front1 ?_; refine L_store tb rfl rfl rfl rfl rfl rfl rfl rfl ?_) | (refine L_front2 ?_; refine L_store tb rfl rfl rfl rfl rfl rfl rfl rfl ?_) | (refine L_front3 ?_; refine L_store tb rfl rfl rfl rfl rfl rfl rfl rfl ?_) | (refine L_front4 ?_; refine L_store tb rfl rfl rfl rfl rfl rfl rfl rfl ?_) | (refine L_front5 ?_; refine L_store tb rfl rfl rfl rfl rfl rfl rfl rfl ?_) | (refine L_front6 ?_; refine L_store tb rfl rfl rfl rfl rfl rfl rfl rfl ?_)
    first | refine L_store tb rfl rfl rfl rfl rfl rfl rfl rfl ?_ | (refine L_front1 ?_; refine L_store tb rfl rfl rfl rfl rfl rfl rfl rfl ?_) | (refine L_front2 ?_; refine L_store tb rfl rfl rfl rfl rfl rfl rfl rfl ?_) | (refine L_front3 ?_; refine L_store tb rfl rfl rfl rfl rfl rfl rfl rfl ?_) | (refine L_front4 ?_; refine L_store tb rfl rfl rfl rfl rfl rfl rfl rfl ?_) | (refine L_front5 ?_; refine L_store tb rfl rfl rfl rfl rfl rfl rfl rfl ?_) | (refine L_front6 ?_; refine L_store tb rfl rfl rfl rfl rfl rfl rfl rfl ?_)
    refine L_then ?_
    refine C_ret ?_
    rw [fsE_1 (by rw [shE_1 h1]; exact h1), shE_1 h1]
    exact ret_of0M (resCCC tb rfl rfl rfl rfl rfl rfl rfl bxo bxo bxo) sub_nil (by intro r hr; cases hr) ⟨rfl, rfl⟩
  · -- t16 False
    have hz := Decidable.not_not.1 h1; obtain ⟨_, H, HR, _⟩ := bothE_ok hz; have hll := H.ll; have hgl := H.gl
    have hTe := H.e ls.length (Nat.le_refl _); have hlg := len_map cGs gs
    refine C_skip_then ?_
    refine C_seq ?_
    refine C_block ?_
    refine C_seq ?_
    refine C_region ?_
    refine L_q rfl rfl rfl (q_load tb rfl rfl bxo rfl) ?_
    refine L_q rfl rfl rfl (q_len tb rfl rfl (by first | exact gvo | exact gvd gvo (by omega))) ?_
    refine L_q rfl rfl rfl (q_field tb rfl rfl rfl) ?_
    refine L_q rfl rfl rfl (q_load tb rfl rfl bxo rfl) ?_
    refine L_q rfl rfl rfl (q_len tb rfl rfl (by first | exact gvo | exact gvd gvo (by omega))) ?_
    refine L_q rfl rfl rfl (q_neq rfl rfl) ?_
    refine L_q rfl rfl rfl (q_assign rfl) ?_
    refine L_then ?_
    refine C_dec rfl (fun h2 => ?_) (fun h2 => ?_)
    · -- t18 True
      have h29 : am.length ≠ gs.length := by omega
      refine C_seq ?_
      refine C_region ?_
      first | refine L_store tb rfl rfl rfl rfl rfl rfl rfl rfl ?_ | (refine L_front1 ?_; refine L_store tb rfl rfl rfl rfl rfl rfl rfl rfl ?_) | (refine L_front2 ?_; refine L_store tb rfl rfl rfl rfl rfl rfl rfl rfl ?_) | (refine L_front3 ?_; refine L_store tb rfl rfl rfl rfl rfl rfl rfl rfl ?_) | (refine L_front4 ?_; refine L_store tb rfl rfl rfl rfl rfl rfl rfl rfl ?_) | (refine L_front5 ?_; refine L_store tb rfl rfl rfl rfl rfl rfl rfl rfl ?_) | (refine L_front6 ?_; refine L_store tb rfl rfl rfl rfl rfl rfl rfl rfl ?_)
      first | refine L_store tb rfl rfl rfl rfl rfl rfl rfl rfl ?_ | (refine L_front1 ?_; refine L_store tb rfl rfl rfl rfl rfl rfl rfl rfl ?_) | (refine L_front2 ?_; refine L_store tb rfl rfl rfl rfl rfl rfl rfl rfl ?_) | (refine L_front3 ?_; refine L_store tb rfl rfl rfl rfl rfl rfl rfl rfl ?_) | (refine L_front4 ?_; refine L_store tb rfl rfl rfl rfl rfl rfl rfl rfl ?_) | (refine L_front5 ?_; refine L_store tb rfl rfl rfl rfl rfl rfl rfl rfl ?_) | (refine L_front6 ?_; refine L_store tb rfl rfl rfl rfl rfl rfl rfl rfl ?_)
      first | refine L_store tb rfl rfl rfl rfl rfl rfl rfl rfl ?_ | (refine L_front1 ?_; refine L_store tb rfl rfl rfl rfl rfl rfl rfl rfl ?_) | (refine L_front2 ?_; refine L_store tb rfl rfl rfl rfl rfl rfl rfl rfl ?_) | (refine L_front3 ?_; refine L_store tb rfl rfl rfl rfl rfl rfl rfl rfl ?_) | (refine L_front4 ?_; refine L_store tb rfl rfl rfl rfl rfl rfl rfl rfl ?_) | (refine L_front5 ?_; refine L_store tb rfl rfl rfl rfl rfl rfl rfl rfl ?_) | (refine L_front6 ?_; refine L_store tb rfl rfl rfl rfl rfl rfl rfl rfl ?_)
      refine L_then ?_
      refine C_ret ?_
      rw [fsE_1 (by rw [shE_2 hz (by rw [ckAm_1 h29]; decide), ckAm_1 h29]; decide), shE_2 hz (by rw [ckAm_1 h29]; decide), ckAm_1 h29]
      exact ret_of0M (resCCC tb rfl rfl rfl rfl rfl rfl rfl bxo bxo bxo) sub_nil (by intro r hr; cases hr) ⟨rfl, rfl⟩
    · -- t18 False
      have h29 : am.length = gs.length := by omega
      refine C_seq ?_
      refine C_region ?_
      refine L_q rfl rfl rfl (q_load tb rfl rfl bxo rfl) ?_
      refine L_call tb rfl rfl (ct_slices_ContainsFunc_int_int (.slice Az (am.map cI).length cz) am hla) (ps_cons (by first | exact gvo | exact gvd gvo (by omega)) no_ps) rfl ?_
      refine L_q rfl rfl rfl (q_assign rfl) ?_
      refine L_then ?_
      refine C_dec rfl (fun h3 => ?_) (fun h3 => ?_)
      · -- t25 True
        refine C_seq ?_
        refine C_region ?_
        first | refine L_store tb rfl rfl rfl rfl rfl rfl rfl rfl ?_ | (refine L_front1 ?_; refine L_store tb rfl rfl rfl rfl rfl rfl rfl rfl ?_) | (refine L_front2 ?_; refine L_store tb rfl rfl rfl rfl rfl rfl rfl rfl ?_) | (refine L_front3 ?_; refine L_store tb rfl rfl rfl rfl rfl rfl rfl rfl ?_) | (refine L_front4 ?_; refine L_store tb rfl rfl rfl rfl rfl rfl rfl rfl ?_) | (refine L_front5 ?_; refine L_store tb rfl rfl rfl rfl rfl rfl rfl rfl ?_) | (refine L_front6 ?_; refine L_store tb rfl rfl rfl rfl rfl rfl rfl rfl ?_)
        first | refine L_store tb rfl rfl rfl rfl rfl rfl rfl rfl ?_ | (refine L_front1 ?_; refine L_store tb rfl rfl rfl rfl rfl rfl rfl rfl ?_) | (refine L_front2 ?_; refine L_store tb rfl rfl rfl rfl rfl rfl rfl rfl ?_) | (refine L_front3 ?_; refine L_store tb rfl rfl rfl rfl rfl rfl rfl rfl ?_) | (refine L_front4 ?_; refine L_store tb rfl rfl rfl rfl rfl rfl rfl rfl ?_) | (refine L_front5 ?_; refine L_store tb rfl rfl rfl rfl rfl rfl rfl rfl ?_) | (refine L_front6 ?_; refine L_store tb rfl rfl rfl rfl rfl rfl rfl rfl ?_)
        first | refine L_store tb rfl rfl rfl rfl rfl rfl rfl rfl ?_ | (refine L_front1 ?_; refine L_store tb rfl rfl rfl rfl rfl rfl rfl rfl ?_) | (refine L_front2 ?_; refine L_store tb rfl rfl rfl rfl rfl rfl rfl rfl ?_) | (refine L_front3 ?_; refine L_store tb rfl rfl rfl rfl rfl rfl rfl rfl ?_) | (refine L_front4 ?_; refine L_store tb rfl rfl rfl rfl rfl rfl rfl rfl ?_) | (refine L_front5 ?_; refine L_store tb rfl rfl rfl rfl rfl rfl rfl rfl ?_) | (refine L_front6 ?_; refine L_store tb rfl rfl rfl rfl rfl rfl rfl rfl ?_)
        refine L_then ?_
        refine C_ret ?_
        rw [fsE_1 (by rw [shE_2 hz (by rw [ckAm_2 h29 h3]; decide), ckAm_2 h29 h3]; decide), shE_2 hz (by rw [ckAm_2 h29 h3]; decide), ckAm_2 h29 h3]
        exact ret_of0M (resCCC tb rfl rfl rfl rfl rfl rfl rfl bxo bxo bxo) sub_nil (by intro r hr; cases hr) ⟨rfl, rfl⟩
      · -- t25 False
        have hc0 := ckAm_3 h29 h3
        refine C_skip_blk ?_
        refine C_seq ?_
        refine C_region ?_
        refine L_q rfl rfl rfl (q_loadA tb rfl rfl bxo rfl rfl) ?_
        refine L_callSN tb rfl rfl (ct_exposure_followed nm sf v u gs ls H) (ps_cons (by first | exact gvo | exact gvd gvo (by omega)) (ps_cons (by first | exact gvo | exact gvd gvo (by omega)) no_ps)) rfl fun v30 => ?_
        refine L_q rfl rfl rfl (q_move rfl) ?_
        refine L_q rfl rfl rfl (q_ext0 rfl) ?_
        refine L_q rfl rfl rfl (q_ext1 rfl) ?_
        refine L_form (v := v30) gvo (fun A30 c30 hv30 hn30 => ?_)
        subst hv30
        generalize hN30 : (List.map cLe (folE sf gs ls).fst).length = N30
        refine L_alloc tb rfl rfl fun g10 => ?_
        first | refine L_store tb rfl rfl rfl rfl rfl rfl rfl rfl ?_ | (refine L_front1 ?_; refine L_store tb rfl rfl rfl rfl rfl rfl rfl rfl ?_) | (refine L_front2 ?_; refine L_store tb rfl rfl rfl rfl rfl rfl rfl rfl ?_) | (refine L_front3 ?_; refine L_store tb rfl rfl rfl rfl rfl rfl rfl rfl ?_) | (refine L_front4 ?_; refine L_store tb rfl rfl rfl rfl rfl rfl rfl rfl ?_) | (refine L_front5 ?_; refine L_store tb rfl rfl rfl rfl rfl rfl rfl rfl ?_) | (refine L_front6 ?_; refine L_store tb rfl rfl rfl rfl rfl rfl rfl rfl ?_)
        first | refine L_store tb rfl rfl rfl rfl rfl rfl rfl rfl ?_ | (refine L_front1 ?_; refine L_store tb rfl rfl rfl rfl rfl rfl rfl rfl ?_) | (refine L_front2 ?_; refine L_store tb rfl rfl rfl rfl rfl rfl rfl rfl ?_) | (refine L_front3 ?_; refine L_store tb rfl rfl rfl rfl rfl rfl rfl rfl ?_) | (refine L_front4 ?_; refine L_store tb rfl rfl rfl rfl rfl rfl rfl rfl ?_) | (refine L_front5 ?_; refine L_store tb rfl rfl rfl rfl rfl rfl rfl rfl ?_) | (refine L_front6 ?_; refine L_store tb rfl rfl rfl rfl rfl rfl rfl rfl ?_)
        refine L_then ?_
        refine C_seq ?_
        refine C_seq ?_
        refine C_region ?_
        refine L_q rfl rfl rfl (q_load tb rfl rfl bxo rfl) ?_
        refine L_q rfl rfl rfl (q_neq rfl rfl) ?_
        refine L_then ?_
        refine C_dec rfl (fun h4 => ?_) (fun h4 => ?_)
        · -- t34 True
          have hT : secAt ls ls.length > 20000 := Decidable.byContradiction fun hh => h4 (by rw [folE_2 hh])
          refine C_seq ?_
          refine C_res (rs' := [box g6 3 [.int .i64 0], box g7 3 [.int .i64 0], box g8 33 [.int .i64 (folE sf gs ls).2]]) (fun _ h => h.pk (by repeat (first | with_reducible exact pk_nil | refine pk_box rfl ?_ | refine pk_rd rfl ?_ | refine pk_sl rfl ?_ | with_reducible refine pk_app ?_ | with_reducible refine pk_app0 ?_ | with_reducible refine pk_app0L ?_ | with_reducible exact pk_tl | refine pk_var ?_))) ?_
          refine Kp.C_treeO3 (ι := Unit) (ro := []) (.s2 0 1 (.s 1 (.s 2 (.s 3 .nil))) (.s2 0 2 (.s 2 (.s 3 .nil)) (.s 0 (.s 3 .nil)))) (fun _ => ([(6, .pointer (some ⟨g6, 0, none⟩)), (7, .pointer (some ⟨g7, 0, none⟩)), (8, .pointer (some ⟨g8, 0, none⟩))], [box g6 3 [.int .i64 0], box g7 3 [.int .i64 0], box g8 33 [.int .i64 (folE sf gs ls).2]])) mixed (by kernel_rfl) rfl (by kernel_rfl) ?_ ?_
          · skip
            refine Kp.Z_s2 ?_ ?_
            · skip
              refine Kp.St_q rfl rfl rfl rfl (q_load tb rfl rfl bxo rfl) ?_
              refine Kp.Z_s ?_
              first | refine Kp.St_store tb rfl rfl (List.Perm.refl _) rfl rfl rfl rfl rfl rfl rfl rfl ?_ | refine Kp.St_store tb rfl rfl perm1 rfl rfl rfl rfl rfl rfl rfl rfl ?_ | refine Kp.St_store tb rfl rfl (perm_front (pre := [_, _])) rfl rfl rfl rfl rfl rfl rfl rfl ?_
              refine Kp.Z_s ?_
              first | refine Kp.St_store tb rfl rfl (List.Perm.refl _) rfl rfl rfl rfl rfl rfl rfl rfl ?_ | refine Kp.St_store tb rfl rfl perm1 rfl rfl rfl rfl rfl rfl rfl rfl ?_ | refine Kp.St_store tb rfl rfl (perm_front (pre := [_, _])) rfl rfl rfl rfl rfl rfl rfl rfl ?_
              refine Kp.Z_s ?_
              first | refine Kp.St_store tb rfl rfl (List.Perm.refl _) rfl rfl rfl rfl rfl rfl rfl rfl ?_ | refine Kp.St_store tb rfl rfl perm1 rfl rfl rfl rfl rfl rfl rfl rfl ?_ | refine Kp.St_store tb rfl rfl (perm_front (pre := [_, _])) rfl rfl rfl rfl rfl rfl rfl rfl ?_
              refine Kp.Z_nil ?_
              try dsimp only [List.append, List.cons_append, List.nil_append]
              exact ⟨(), fun a_ w_ hs_ => hs_.weak ⟨rfl, rfl, rfl, trivial⟩ (fun h => h.pk (by repeat (first | with_reducible exact pk_nil | refine pk_box rfl ?_ | refine pk_rd rfl ?_ | refine pk_sl rfl ?_ | with_reducible refine pk_app ?_ | with_reducible refine pk_app0 ?_ | with_reducible refine pk_app0L ?_ | with_reducible exact pk_tl | refine pk_var ?_)))⟩
            · skip
              first | refine Kp.St_store tb rfl rfl (List.Perm.refl _) rfl rfl rfl rfl rfl rfl rfl rfl ?_ | refine Kp.St_store tb rfl rfl perm1 rfl rfl rfl rfl rfl rfl rfl rfl ?_ | refine Kp.St_store tb rfl rfl (perm_front (pre := [_, _])) rfl rfl rfl rfl rfl rfl rfl rfl ?_
              refine Kp.Z_s2 ?_ ?_
              · skip
                refine Kp.St_q rfl rfl rfl rfl (q_load tb rfl rfl bxo rfl) ?_
                refine Kp.Z_s ?_
                first | refine Kp.St_store tb rfl rfl (List.Perm.refl _) rfl rfl rfl rfl rfl rfl rfl rfl ?_ | refine Kp.St_store tb rfl rfl perm1 rfl rfl rfl rfl rfl rfl rfl rfl ?_ | refine Kp.St_store tb rfl rfl (perm_front (pre := [_, _])) rfl rfl rfl rfl rfl rfl rfl rfl ?_
                refine Kp.Z_s ?_
                first | refine Kp.St_store tb rfl rfl (List.Perm.refl _) rfl rfl rfl rfl rfl rfl rfl rfl ?_ | refine Kp.St_store tb rfl rfl perm1 rfl rfl rfl rfl rfl rfl rfl rfl ?_ | refine Kp.St_store tb rfl rfl (perm_front (pre := [_, _])) rfl rfl rfl rfl rfl rfl rfl rfl ?_
                refine Kp.Z_nil ?_
                try dsimp only [List.append, List.cons_append, List.nil_append]
                exact ⟨(), fun a_ w_ hs_ => hs_.weak ⟨rfl, rfl, rfl, trivial⟩ (fun h => h.pk (by repeat (first | with_reducible exact pk_nil | refine pk_box rfl ?_ | refine pk_rd rfl ?_ | refine pk_sl rfl ?_ | with_reducible refine pk_app ?_ | with_reducible refine pk_app0 ?_ | with_reducible refine pk_app0L ?_ | with_reducible exact pk_tl | refine pk_var ?_)))⟩
              · skip
                first | refine Kp.St_store tb rfl rfl (List.Perm.refl _) rfl rfl rfl rfl rfl rfl rfl rfl ?_ | refine Kp.St_store tb rfl rfl perm1 rfl rfl rfl rfl rfl rfl rfl rfl ?_ | refine Kp.St_store tb rfl rfl (perm_front (pre := [_, _])) rfl rfl rfl rfl rfl rfl rfl rfl ?_
                refine Kp.Z_s ?_
                refine Kp.St_q rfl rfl rfl rfl (q_load tb rfl rfl bxo rfl) ?_
                refine Kp.Z_s ?_
                first | refine Kp.St_store tb rfl rfl (List.Perm.refl _) rfl rfl rfl rfl rfl rfl rfl rfl ?_ | refine Kp.St_store tb rfl rfl perm1 rfl rfl rfl rfl rfl rfl rfl rfl ?_ | refine Kp.St_store tb rfl rfl (perm_front (pre := [_, _])) rfl rfl rfl rfl rfl rfl rfl rfl ?_
                refine Kp.Z_nil ?_
                try dsimp only [List.append, List.cons_append, List.nil_append]
                exact ⟨(), fun a_ w_ hs_ => hs_.weak ⟨rfl, rfl, rfl, trivial⟩ (fun h => h.pk (by repeat (first | with_reducible exact pk_nil | refine pk_box rfl ?_ | refine pk_rd rfl ?_ | refine pk_sl rfl ?_ | with_reducible refine pk_app ?_ | with_reducible refine pk_app0 ?_ | with_reducible refine pk_app0L ?_ | with_reducible exact pk_tl | refine pk_var ?_)))⟩
          intro _
          dsimp only
          refine L_then ?_
          refine C_ret ?_
          rw [fsE_1 (by rw [shE_3 hz hc0 hT]; decide), shE_3 hz hc0 hT, folE_1 hT]
          exact ret_of0M (resCCC tb rfl rfl rfl rfl rfl rfl rfl bxo bxo bxo) sub_nil (by intro r hr; cases hr) ⟨rfl, rfl⟩
        · -- t34 False
          have hT : ¬ secAt ls ls.length > 20000 := fun hh => h4 (by rw [folE_1 hh]; decide)
          rw [folE_2 hT]
          refine C_skip_then ?_
          refine C_seq ?_
          refine C_seq ?_
          refine C_res (rs' := [sl (.slice A30 N30 c30) 149 9 ((legsM sf gs ls).map cLe), box g10 128 [(.slice A30 N30 c30)], box g6 3 [.int .i64 0], box g7 3 [.int .i64 0], box g8 33 [.int .i64 0], box g5 72 [(.slice Az (am.map cI).length cz)], box g4 28 (cRu t r), box g3 44 (cPl nm sf v u), rd v 2 (gs.map cGs), rd u 3 (ls.map cDl), rd t 2 (r.tb.map cOw), rd (.slice Az (am.map cI).length cz) 1 (am.map cI)]) (fun _ h => h.pk (by repeat (first | with_reducible exact pk_nil | refine pk_box rfl ?_ | refine pk_rd rfl ?_ | refine pk_sl rfl ?_ | with_reducible refine pk_app ?_ | with_reducible refine pk_app0 ?_ | with_reducible refine pk_app0L ?_ | with_reducible exact pk_tl | refine pk_var ?_))) ?_
          refine C_region ?_
          refine L_share ?_
          refine L_res (fun _ hw => hw.dup (k := rd (.slice A30 N30 c30) 9 ((legsM sf gs ls).map cLe)) List.mem_cons_self (rd_own _ _ _)) ?_
          refine L_q rfl rfl rfl (q_load tb rfl rfl bxo rfl) ?_
          refine L_q rfl rfl rfl (q_field tb rfl rfl rfl) ?_
          refine L_q rfl rfl rfl (q_load tb rfl rfl bxo rfl) ?_
          refine L_q rfl rfl rfl (q_len tb rfl rfl (by first | exact gvo | exact gvd gvo (by omega))) ?_
          refine L_q rfl rfl rfl (q_loadA tb rfl rfl bxo rfl rfl) ?_
          rw [len_map cGs gs]
          refine L_lo rfl rfl rfl (lo_call tb rfl rfl (ct_exposure_needs (.slice A30 N30 c30) t r sf gs ls) (ps_cons (by first | exact gvo | exact gvd gvo (by omega)) (ps_cons (by first | exact gvo | exact gvd gvo (by omega)) no_ps)) (by rintro y rs ⟨s3, s4, s5, _, rfl⟩ r hr; simp only [List.mem_cons, List.not_mem_nil, or_false] at hr; rcases hr with rfl | rfl | rfl <;> exact box_sinks _ _ _)) ?_
          rintro _ _ ⟨s3, s4, s5, rfl, rfl⟩
          refine L_then ?_
          refine C_block ?_
          refine C_range2 (FinN (fun _ : Nat => [box g5 72 [(.slice Az (am.map cI).length cz)], box g6 3 [.int .i64 0], box g7 3 [.int .i64 0], box g8 33 [.int .i64 0], box g10 128 [(.slice A30 N30 c30)], rd (.slice Az (am.map cI).length cz) 1 (am.map cI), rd (.slice A30 N30 c30) 9 ((legsM sf gs ls).map cLe)]) (fun σ : Nat => if shortN r sf gs ls am σ = true then [box g5 72 [(.slice Az (am.map cI).length cz)], box g6 3 [.int .i64 (σ : Int)], box g7 3 [.int .i64 (secAt ls ls.length)], box g8 33 [.int .i64 0], box g10 128 [(.slice A30 N30 c30)], rd (.slice Az (am.map cI).length cz) 1 (am.map cI), rd (.slice A30 N30 c30) 9 ((legsM sf gs ls).map cLe)] else [box g5 72 [(.slice Az (am.map cI).length cz)], box g6 3 [.int .i64 0], box g7 3 [.int .i64 0], box g8 33 [.int .i64 0], box g10 128 [(.slice A30 N30 c30)], rd (.slice Az (am.map cI).length cz) 1 (am.map cI), rd (.slice A30 N30 c30) 9 ((legsM sf gs ls).map cLe)]) (fun σ : Nat => !shortN r sf gs ls am σ) (rnN ls ls.length)) rfl (tb.en_ok _ (lkT_mem (rfl : lkT tb.en 140 = some ()))) (fun l D fn tm hts hE => ?_) ?_ ?_
          · -- the rounds
            refine it_needsR _ _ l D _ (fun _ : Nat => [box g5 72 [(.slice Az (am.map cI).length cz)], box g6 3 [.int .i64 0], box g7 3 [.int .i64 0], box g8 33 [.int .i64 0], box g10 128 [(.slice A30 N30 c30)], rd (.slice Az (am.map cI).length cz) 1 (am.map cI), rd (.slice A30 N30 c30) 9 ((legsM sf gs ls).map cLe)]) (fun σ : Nat => if shortN r sf gs ls am σ = true then [box g5 72 [(.slice Az (am.map cI).length cz)], box g6 3 [.int .i64 (σ : Int)], box g7 3 [.int .i64 (secAt ls ls.length)], box g8 33 [.int .i64 0], box g10 128 [(.slice A30 N30 c30)], rd (.slice Az (am.map cI).length cz) 1 (am.map cI), rd (.slice A30 N30 c30) 9 ((legsM sf gs ls).map cLe)] else [box g5 72 [(.slice Az (am.map cI).length cz)], box g6 3 [.int .i64 0], box g7 3 [.int .i64 0], box g8 33 [.int .i64 0], box g10 128 [(.slice A30 N30 c30)], rd (.slice Az (am.map cI).length cz) 1 (am.map cI), rd (.slice A30 N30 c30) 9 ((legsM sf gs ls).map cLe)]) (fun σ : Nat => !shortN r sf gs ls am σ) (.slice A30 N30 c30) t r sf gs ls s3 s4 s5 H HR (by omega) rfl (fun σ h => if_neg (by intro hh; rw [hh] at h; cases h)) ?hR _ (fun w_ h_ => h_.pk (by repeat (first | with_reducible exact pk_nil | refine pk_box rfl ?_ | refine pk_rd rfl ?_ | refine pk_sl rfl ?_ | with_reducible refine pk_app ?_ | with_reducible refine pk_app0 ?_ | with_reducible refine pk_app0L ?_ | with_reducible exact pk_tl | refine pk_var ?_)))
            intro σ hσ
            refine Rnd2.of hts rfl hE (fun own => ?_)
            have h0 : 0 < ls.length := by
              rcases Nat.eq_zero_or_pos ls.length with h | h
              · rw [h] at hσ; exact absurd hσ (Nat.not_lt_zero _)
              · exact h
            have hM := rnN_T H h0
            obtain ⟨hk1, _, _⟩ := kAt_in H (σ := σ) h0 (by omega)
            have hg9 : 0 ≤ gN ls σ ∧ gN ls σ ≤ gs.length - 1 := (H.at hk1).g
            obtain ⟨x, hx⟩ := get_some am (k := (gN ls σ).toNat) (by omega)
            have helx := map_get cI hx
            have hsh : shortN r sf gs ls am σ = decide (aN r sf gs ls σ > x) := by unfold shortN amAt; rw [hx]; rfl
            dsimp only [List.nil_append, List.cons_append]
            refine C_region ?_
            refine L_alloc tb rfl rfl fun g11 => ?_
            first | refine L_store tb rfl rfl rfl rfl rfl rfl rfl rfl ?_ | (refine L_front1 ?_; refine L_store tb rfl rfl rfl rfl rfl rfl rfl rfl ?_) | (refine L_front2 ?_; refine L_store tb rfl rfl rfl rfl rfl rfl rfl rfl ?_) | (refine L_front3 ?_; refine L_store tb rfl rfl rfl rfl rfl rfl rfl rfl ?_) | (refine L_front4 ?_; refine L_store tb rfl rfl rfl rfl rfl rfl rfl rfl ?_) | (refine L_front5 ?_; refine L_store tb rfl rfl rfl rfl rfl rfl rfl rfl ?_) | (refine L_front6 ?_; refine L_store tb rfl rfl rfl rfl rfl rfl rfl rfl ?_)
            refine L_front1 ?_
            refine L_end ?_
            refine beginRh fun LP hLP => ?_
            refine C_block ?_
            refine C_seq ?_
            refine C_draw (n := 8) [(0, false), (1, false), (2, false), (3, false), (4, false), (5, false), (6, false), (7, false)] mixed (by kernel_rfl) ?_
            refine W_q rfl rfl rfl rfl (q_field tb rfl rfl rfl) ?_
            refine W_q rfl rfl rfl rfl (q_load tb rfl rfl bxo rfl) ?_
            refine W_q rfl rfl rfl rfl (q_load tb rfl rfl bxo rfl) ?_
            refine W_q rfl rfl rfl rfl (q_field tb rfl rfl rfl) ?_
            refine W_q rfl rfl rfl rfl (q_load tb rfl rfl bxo rfl) ?_
            refine W_q rfl rfl rfl rfl (by first | exact q_index tb rfl rfl rfl rfl (by first | exact gvo | exact gvd gvo (by omega)) (by omega) (by first | omega | (simp; done) | (simp; omega)) | exact q_indexP tb rfl rfl rfl rfl (by omega) (by omega)) ?_
            refine W_q rfl rfl rfl rfl (q_loadE tb rfl rfl (by first | exact gvo | exact gvd gvo (by omega)) (i := (gN ls σ).toNat) (o := 0) (by omega) helx rfl) ?_
            refine W_q rfl rfl rfl rfl (q_gtr rfl rfl) ?_
            refine W_nil ?_
            refine L_then ?_
            refine C_dec rfl (fun heq => ?_) (fun heq => ?_)
            · -- t50 True
              refine C_seq ?_
              refine C_draw (n := 4) [(0, false), (1, false), (2, false), (3, true)] mixed (by kernel_rfl) ?_
              refine W_q rfl rfl rfl rfl (q_field tb rfl rfl rfl) ?_
              refine W_q rfl rfl rfl rfl (q_load tb rfl rfl bxo rfl) ?_
              refine W_q rfl rfl rfl rfl (q_load tb rfl rfl bxo rfl) ?_
              refine W_call tb rfl rfl rfl rfl (ct_exposure_endOf (.slice A30 N30 c30) sf gs ls H) (ps_cons (by first | exact gvo | exact gvd gvo (by omega)) no_ps) rfl ?_
              refine W_nil ?_
              first | refine L_store tb rfl rfl rfl rfl rfl rfl rfl rfl ?_ | (refine L_front1 ?_; refine L_store tb rfl rfl rfl rfl rfl rfl rfl rfl ?_) | (refine L_front2 ?_; refine L_store tb rfl rfl rfl rfl rfl rfl rfl rfl ?_) | (refine L_front3 ?_; refine L_store tb rfl rfl rfl rfl rfl rfl rfl rfl ?_) | (refine L_front4 ?_; refine L_store tb rfl rfl rfl rfl rfl rfl rfl rfl ?_) | (refine L_front5 ?_; refine L_store tb rfl rfl rfl rfl rfl rfl rfl rfl ?_) | (refine L_front6 ?_; refine L_store tb rfl rfl rfl rfl rfl rfl rfl rfl ?_)
              first | refine L_store tb rfl rfl rfl rfl rfl rfl rfl rfl ?_ | (refine L_front1 ?_; refine L_store tb rfl rfl rfl rfl rfl rfl rfl rfl ?_) | (refine L_front2 ?_; refine L_store tb rfl rfl rfl rfl rfl rfl rfl rfl ?_) | (refine L_front3 ?_; refine L_store tb rfl rfl rfl rfl rfl rfl rfl rfl ?_) | (refine L_front4 ?_; refine L_store tb rfl rfl rfl rfl rfl rfl rfl rfl ?_) | (refine L_front5 ?_; refine L_store tb rfl rfl rfl rfl rfl rfl rfl rfl ?_) | (refine L_front6 ?_; refine L_store tb rfl rfl rfl rfl rfl rfl rfl rfl ?_)
              first | refine L_store tb rfl rfl rfl rfl rfl rfl rfl rfl ?_ | (refine L_front1 ?_; refine L_store tb rfl rfl rfl rfl rfl rfl rfl rfl ?_) | (refine L_front2 ?_; refine L_store tb rfl rfl rfl rfl rfl rfl rfl rfl ?_) | (refine L_front3 ?_; refine L_store tb rfl rfl rfl rfl rfl rfl rfl rfl ?_) | (refine L_front4 ?_; refine L_store tb rfl rfl rfl rfl rfl rfl rfl rfl ?_) | (refine L_front5 ?_; refine L_store tb rfl rfl rfl rfl rfl rfl rfl rfl ?_) | (refine L_front6 ?_; refine L_store tb rfl rfl rfl rfl rfl rfl rfl rfl ?_)
              refine L_then ?_
              refine C_ret ?_
              subst hLP
              have hs9 : shortN r sf gs ls am σ = true := by rw [hsh]; exact decide_eq_true heq
              exact stopR2 (by rw [hs9]; rfl) (if_pos hs9) (fun w_ h_ => h_.pk (by repeat (first | with_reducible exact pk_nil | refine pk_box rfl ?_ | refine pk_rd rfl ?_ | refine pk_sl rfl ?_ | with_reducible refine pk_app ?_ | with_reducible refine pk_app0 ?_ | with_reducible refine pk_app0L ?_ | with_reducible exact pk_tl | refine pk_var ?_)))
            · -- t50 False
              refine C_skip ?_
              subst hLP
              have hs9 : shortN r sf gs ls am σ = false := by rw [hsh]; exact decide_eq_false heq
              exact endR2 (by rw [hs9]; rfl) (if_neg (by rw [hs9]; decide)) (fun w_ h_ => h_.pk (by repeat (first | with_reducible exact pk_nil | refine pk_box rfl ?_ | refine pk_rd rfl ?_ | refine pk_sl rfl ?_ | with_reducible refine pk_app ?_ | with_reducible refine pk_app0 ?_ | with_reducible refine pk_app0L ?_ | with_reducible exact pk_tl | refine pk_var ?_)))
          · -- behind
            intro D rs_ hF
            obtain ⟨hgo9, rfl⟩ := FinN_true hF
            have hfz := failZ_no (r := r) (sf := sf) (gs := gs) (ls := ls) (am := am) (fun τ h => by simpa using hgo9 τ h)
            dsimp only
            refine blk_end ?_
            refine C_seq ?_
            refine C_region ?_
            refine L_q rfl rfl rfl (q_load tb rfl rfl bxo rfl) ?_
            refine L_call tb rfl rfl (ct_exposure_endOf (.slice A30 N30 c30) sf gs ls H) (ps_cons (by first | exact gvo | exact gvd gvo (by omega)) no_ps) rfl ?_
            first | refine L_store tb rfl rfl rfl rfl rfl rfl rfl rfl ?_ | (refine L_front1 ?_; refine L_store tb rfl rfl rfl rfl rfl rfl rfl rfl ?_) | (refine L_front2 ?_; refine L_store tb rfl rfl rfl rfl rfl rfl rfl rfl ?_) | (refine L_front3 ?_; refine L_store tb rfl rfl rfl rfl rfl rfl rfl rfl ?_) | (refine L_front4 ?_; refine L_store tb rfl rfl rfl rfl rfl rfl rfl rfl ?_) | (refine L_front5 ?_; refine L_store tb rfl rfl rfl rfl rfl rfl rfl rfl ?_) | (refine L_front6 ?_; refine L_store tb rfl rfl rfl rfl rfl rfl rfl rfl ?_)
            first | refine L_store tb rfl rfl rfl rfl rfl rfl rfl rfl ?_ | (refine L_front1 ?_; refine L_store tb rfl rfl rfl rfl rfl rfl rfl rfl ?_) | (refine L_front2 ?_; refine L_store tb rfl rfl rfl rfl rfl rfl rfl rfl ?_) | (refine L_front3 ?_; refine L_store tb rfl rfl rfl rfl rfl rfl rfl rfl ?_) | (refine L_front4 ?_; refine L_store tb rfl rfl rfl rfl rfl rfl rfl rfl ?_) | (refine L_front5 ?_; refine L_store tb rfl rfl rfl rfl rfl rfl rfl rfl ?_) | (refine L_front6 ?_; refine L_store tb rfl rfl rfl rfl rfl rfl rfl rfl ?_)
            first | refine L_store tb rfl rfl rfl rfl rfl rfl rfl rfl ?_ | (refine L_front1 ?_; refine L_store tb rfl rfl rfl rfl rfl rfl rfl rfl ?_) | (refine L_front2 ?_; refine L_store tb rfl rfl rfl rfl rfl rfl rfl rfl ?_) | (refine L_front3 ?_; refine L_store tb rfl rfl rfl rfl rfl rfl rfl rfl ?_) | (refine L_front4 ?_; refine L_store tb rfl rfl rfl rfl rfl rfl rfl rfl ?_) | (refine L_front5 ?_; refine L_store tb rfl rfl rfl rfl rfl rfl rfl rfl ?_) | (refine L_front6 ?_; refine L_store tb rfl rfl rfl rfl rfl rfl rfl rfl ?_)
            refine L_then ?_
            refine C_ret ?_
            rw [fsE_2 (shE_4 hz hc0 hT), hfz]
            exact ret_ofMC (rs1 := [box g6 3 [.int .i64 (-1)], box g7 3 [.int .i64 (secAt ls ls.length)], box g8 33 [.int .i64 0]]) (rs' := []) (fun w_ h_ => h_.pk (by repeat (first | with_reducible exact pk_nil | refine pk_box rfl ?_ | refine pk_rd rfl ?_ | refine pk_sl rfl ?_ | with_reducible refine pk_app ?_ | with_reducible refine pk_app0 ?_ | with_reducible refine pk_app0L ?_ | with_reducible exact pk_tl | refine pk_var ?_))) (resCCC tb rfl rfl rfl rfl rfl rfl rfl bxo bxo bxo) sub_nil (by intro r hr; cases hr) ⟨rfl, rfl⟩
          · -- returned out of a round
            intro D rs_ hF
            obtain ⟨σ, hσ, hs, hbf, hrc⟩ := FinN_false hF
            have hs9 : shortN r sf gs ls am σ = true := by simpa using hs
            have e9 := hrc.trans (if_pos hs9)
            subst e9
            have hfz := failZ_at hσ hs9 (fun τ h => by simpa using hbf τ h)
            rw [fsE_2 (shE_4 hz hc0 hT), hfz]
            exact ret_ofMC (rs1 := [box g6 3 [.int .i64 (σ : Int)], box g7 3 [.int .i64 (secAt ls ls.length)], box g8 33 [.int .i64 0]]) (rs' := []) (fun w_ h_ => h_.pk (by repeat (first | with_reducible exact pk_nil | refine pk_box rfl ?_ | refine pk_rd rfl ?_ | refine pk_sl rfl ?_ | with_reducible refine pk_app ?_ | with_reducible refine pk_app0 ?_ | with_reducible refine pk_app0L ?_ | with_reducible exact pk_tl | refine pk_var ?_))) (resCCC tb rfl rfl rfl rfl rfl rfl rfl bxo bxo bxo) sub_nil (by intro r hr; cases hr) ⟨rfl, rfl⟩
end Go.Proofs.Ytolnohjbpllmhaa
