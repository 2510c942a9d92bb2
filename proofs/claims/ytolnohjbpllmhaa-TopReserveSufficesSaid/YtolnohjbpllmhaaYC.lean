/-
  Walks: each function named returns what its model says. Conditions: those in front of each theorem.
-/
import Derived.Test.YtolnohjbpllmhaaYB
import Derived.Test.YtolnohjbpllmhaaXL
namespace Go.Proofs.Ytolnohjbpllmhaa
open Go.RowKit

set_option maxRecDepth 100000 in
theorem ct_shotlinelaw05_Few (t : Value) (r : Ru) : Ct Try.prog 71 [.agg (cRu t r).toArray] [(t, 2, r.tb.map cOw)] (isV (.bool (decide (r.tb.length ≤ 6 ∨ (r.tb.length > 20 ∧ r.tb.length ≤ 22))))) := by
  refine Ct.of (N := 5) Try.func71 rfl rfl rfl fun w => ?_
  refine C_weak (E' := [(0, .agg (cRu t r).toArray)]) (rs' := [rd t 2 (r.tb.map cOw)]) ⟨rfl, trivial⟩ (fun _ h => h) ?_
  have hl1 := len_map cOw r.tb
  refine C_seq ?_
  refine C_region ?_
  refine L_box rfl rfl rfl fun g1 => ?_
  refine L_q rfl rfl rfl (q_assign rfl) ?_
  refine L_then ?_
  refine C_seq ?_
  refine C_region ?_
  refine L_q rfl rfl rfl (q_loadA tb rfl rfl bxo rfl rfl) ?_
  refine L_call tb rfl rfl (ct_shotlinelaw05_few _ _) (ps_cons (by first | exact gvo | exact gvd gvo (by omega)) no_ps) rfl ?_
  refine L_q rfl rfl rfl (q_assign rfl) ?_
  refine L_then ?_
  refine C_ret ?_
  exact ret_of (res1 rfl rfl) sub_nil (by intro r hr; cases hr) ⟨rfl, rfl⟩
set_option maxRecDepth 100000 in
theorem ct_shotlinetop_exposed  : Ct Try.prog 70 [] [] (isV (.bool true)) := by
  refine Ct.of (N := 15) Try.func70 rfl rfl rfl fun w => ?_
  refine C_weak (E' := []) (rs' := []) trivial (fun _ h => h) ?_
  refine C_seq ?_
  refine C_region ?_
  refine L_q rfl rfl rfl (q_assign rfl) ?_
  refine L_then ?_
  refine C_seq ?_
  refine C_region ?_
  refine L_lo rfl rfl rfl (lo_call tb rfl rfl (ct_shotlinelaw05_Dive) no_ps (by rintro y rs ⟨a, b, _, rfl⟩ r hr; simp only [List.mem_cons, List.not_mem_nil, or_false] at hr; rcases hr with rfl | rfl <;> exact sl_sinks _ _ _ _)) ?_
  rintro _ _ ⟨a4, b4, rfl, rfl⟩
  refine L_callSN tb rfl rfl (ct_ex_cons _ _) (ps_cons (by first | exact gvo | exact gvd gvo (by omega)) (ps_cons (by first | exact gvo | exact gvd gvo (by omega)) no_ps)) rfl fun v5 => ?_
  refine L_q rfl rfl rfl (q_move rfl) ?_
  refine L_q rfl rfl rfl (q_ext0 rfl) ?_
  refine L_q rfl rfl rfl (q_ext1 rfl) ?_
  refine L_q rfl rfl rfl (q_assign rfl) ?_
  refine L_q rfl rfl rfl (q_assign rfl) ?_
  refine L_then ?_
  refine C_seq ?_
  refine C_region ?_
  refine L_q rfl rfl rfl (q_move rfl) ?_
  refine L_q rfl rfl rfl (q_true (q_eql rfl rfl) rfl) ?_
  refine L_q rfl rfl rfl (q_move rfl) ?_
  refine L_qg rfl rfl rfl rfl rfl rfl rfl (q_move rfl) ?_
  refine L_log rfl rfl rfl rfl rfl rfl rfl (lo_bsliceG tb rfl rfl rfl (xs := ([689380, 161300].map cI)) rfl rfl (by decide) rfl (by omega) rfl) ?_
  intro v12 rs_ hr_; unfold isSl at hr_; subst hr_
  refine L_callg tb rfl rfl rfl rfl rfl rfl (ct_shotlinebase_Ints _ _ [689380, 161300] (by decide)) (ps_cons (by first | exact gvo | exact gvd gvo (by omega)) (ps_cons (by first | exact gvo | exact gvd gvo (by omega)) no_ps)) rfl ?_
  refine L_q rfl rfl rfl (by first | exact q_pickT rfl rfl | exact q_pickF rfl rfl) ?_
  refine L_q rfl rfl rfl (q_assign rfl) ?_
  refine L_then ?_
  refine C_ret ?_
  exact ret_of (res1 rfl rfl) sub_nil (by intro r hr; cases hr) ⟨rfl, rfl⟩
set_option maxRecDepth 100000 in
theorem ct_shotlinetop_sumOf (v : Value) (ns : List Int) (hle : ns.length ≤ 100) (hin : ∀ x ∈ ns, 0 ≤ x ∧ x ≤ 100000000000000) : Ct Try.prog 74 [v] [(v, 1, ns.map cI)] (isV (.int .i64 (sumT ns ns.length))) := by
  refine Ct.of (N := 29) Try.func74 rfl rfl rfl fun w => ?_
  refine C_weak (E' := [(0, v)]) (rs' := [rd v 1 (ns.map cI)]) ⟨rfl, trivial⟩ (fun _ h => h) ?_
  have hl := len_map cI ns
  refine C_seq ?_
  refine C_region ?_
  refine L_q rfl rfl rfl (q_assign rfl) ?_
  refine L_then ?_
  refine C_seq ?_
  refine C_region ?_
  refine L_q rfl rfl rfl (q_assign rfl) ?_
  refine L_then ?_
  refine C_seq ?_
  refine C_seq ?_
  refine C_region ?_
  refine L_q rfl rfl rfl (q_assign rfl) ?_
  refine L_then ?_
  refine C_block ?_
  refine C_loop (ι := Nat) (fun k => ([(0, v), (3, .int .i64 ((sumT ns k))), (4, .int .i64 (k : Int))], [rd v 1 (ns.map cI)])) (fun k => k ≤ ns.length) (fun k => ns.length - k) 0 (Nat.zero_le _) (fun a w hs => hs.weak ⟨rfl, rfl, rfl, trivial⟩ (fun h => h.pk (by repeat (first | with_reducible exact pk_nil | refine pk_box rfl ?_ | refine pk_rd rfl ?_ | refine pk_sl rfl ?_ | with_reducible refine pk_app ?_ | with_reducible refine pk_app0 ?_ | with_reducible refine pk_app0L ?_ | with_reducible exact pk_tl | refine pk_var ?_)))) ?_
  intro k hk
  dsimp only at hk ⊢
  refine C_seq ?_
  refine C_seq ?_
  refine C_region ?_
  refine L_q rfl rfl rfl (q_move rfl) ?_
  refine L_q rfl rfl rfl (q_move rfl) ?_
  refine L_q rfl rfl rfl (q_len tb rfl rfl (by first | exact gvo | exact gvd gvo (by omega))) ?_
  refine L_q rfl rfl rfl (q_lss rfl rfl) ?_
  refine L_then ?_
  refine C_dec rfl (fun h1 => ?_) (fun h1 => ?_)
  · -- t8 True
    obtain ⟨x, hx⟩ := get_some ns (k := k) (by omega); have hel := map_get cI hx; have hix := hin x (List.mem_of_getElem? hx); have hsk := sumT_in hin k; have hss : sumT ns (k + 1) = sumT ns k + x := by show sumT ns k + (ns[k]?).getD 0 = _; rw [hx]; rfl
    refine C_skip_then ?_
    refine C_seq ?_
    refine C_block ?_
    refine C_seq ?_
    refine C_seq ?_
    refine C_region ?_
    refine L_q rfl rfl rfl (q_move rfl) ?_
    refine L_q rfl rfl rfl (q_move rfl) ?_
    refine L_q rfl rfl rfl (by first | exact q_index tb rfl rfl rfl rfl (by first | exact gvo | exact gvd gvo (by omega)) (by omega) (by first | omega | (simp; done) | (simp; omega)) | exact q_indexP tb rfl rfl rfl rfl (by omega) (by omega)) ?_
    refine L_q rfl rfl rfl (q_loadE tb rfl rfl (by first | exact gvo | exact gvd gvo (by omega)) (i := k) (o := 0) (by omega) hel rfl) ?_
    refine L_call tb rfl rfl (ct_shotlinebase_Within _ _ _) no_ps rfl ?_
    refine L_q rfl rfl rfl (q_not rfl (by first | exact (rfl : (!true) = false) | exact (rfl : (!false) = true) | exact decide_not.symm | rfl)) ?_
    refine L_q rfl rfl rfl (q_move rfl) ?_
    refine L_dec (d := 17) rfl (fun h17 => ?_) (fun h17 => ?_)
    · -- t17 True
      exfalso; omega
    · -- t17 False
      refine L_qg rfl rfl rfl rfl rfl rfl rfl (q_move rfl) ?_
      refine L_qg rfl rfl rfl rfl rfl rfl rfl (q_len tb rfl rfl (by first | exact gvo | exact gvd gvo (by omega))) ?_
      refine L_qg rfl rfl rfl rfl rfl rfl rfl (q_gtr rfl rfl) ?_
      refine L_q rfl rfl rfl (by first | exact q_pickT rfl rfl | exact q_pickF rfl rfl) ?_
      refine L_then ?_
      refine C_dec rfl (fun h21 => ?_) (fun h21 => ?_)
      · -- t21 True
        exfalso; omega
      · -- t21 False
        refine C_skip_then ?_
        refine C_region ?_
        refine L_q rfl rfl rfl (q_move rfl) ?_
        refine L_q rfl rfl rfl (q_move rfl) ?_
        refine L_q rfl rfl rfl (q_move rfl) ?_
        refine L_q rfl rfl rfl (by first | exact q_index tb rfl rfl rfl rfl (by first | exact gvo | exact gvd gvo (by omega)) (by omega) (by first | omega | (simp; done) | (simp; omega)) | exact q_indexP tb rfl rfl rfl rfl (by omega) (by omega)) ?_
        refine L_q rfl rfl rfl (q_loadE tb rfl rfl (by first | exact gvo | exact gvd gvo (by omega)) (i := k) (o := 0) (by omega) hel rfl) ?_
        refine L_q rfl rfl rfl (q_add rfl rfl (by first | exact IntWalk.i64_in _ (by omega) | rfl)) ?_
        refine L_q rfl rfl rfl (q_assign rfl) ?_
        refine L_blk ?_
        refine C_region ?_
        refine L_q rfl rfl rfl (q_move rfl) ?_
        refine L_q rfl rfl rfl (q_add rfl rfl (by first | exact IntWalk.i64_in _ (by omega) | rfl)) ?_
        refine L_q rfl rfl rfl (q_assign rfl) ?_
        refine L_end ?_
        exact fun ac_ wo_ hs_ => ⟨k + 1, (by dsimp only; omega), (by dsimp only; omega), hs_.weak ⟨rfl, en hss.symm, rfl, trivial⟩ (fun h => h.pk (by repeat (first | with_reducible exact pk_nil | refine pk_box rfl ?_ | refine pk_rd rfl ?_ | refine pk_sl rfl ?_ | with_reducible refine pk_app ?_ | with_reducible refine pk_app0 ?_ | with_reducible refine pk_app0L ?_ | with_reducible exact pk_tl | refine pk_var ?_)))⟩
  · -- t8 False
    refine C_exit ?_
    change C Try.prog _ _ _ _ _ _ _
    refine C_seq ?_
    refine C_region ?_
    refine L_q rfl rfl rfl (q_move rfl) ?_
    refine L_q rfl rfl rfl (q_assign rfl) ?_
    refine L_then ?_
    refine C_ret ?_
    obtain rfl : k = ns.length := by omega
    exact ret_of (res1 rfl rfl) sub_nil (by intro r hr; cases hr) ⟨rfl, rfl⟩
end Go.Proofs.Ytolnohjbpllmhaa
