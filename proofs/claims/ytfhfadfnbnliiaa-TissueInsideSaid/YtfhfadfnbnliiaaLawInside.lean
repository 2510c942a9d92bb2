/-
  Walks: each function named returns what its model says. Conditions: those in front of each theorem.
-/
import Derived.Test.YtfhfadfnbnliiaaS
namespace Go.Proofs.Ytfhfadfnbnliiaa
open Go.RowKit

set_option maxRecDepth 100000 in
set_option maxHeartbeats 2000000 in
theorem ct_shotlinelaw03_TissueInside (v u : Value) (la lb : List Ld) : Ct Try.prog 8 [v, u] [(v, 4, la.map cLd), (u, 4, lb.map cLd)] (isV (.bool true)) := by
  refine Ct.of (N := 81) Try.func8 rfl rfl rfl fun w => ?_
  refine C_weak (E' := [(0, v), (1, u)]) (rs' := [rd v 4 (la.map cLd), rd u 4 (lb.map cLd)]) ⟨rfl, rfl, trivial⟩ (fun _ h => h) ?_
  have hl1 := len_map cLd la
  have hl2 := len_map cLd lb
  refine C_seq ?_
  refine C_region ?_
  refine L_q rfl rfl rfl (q_assign rfl) ?_
  refine L_then ?_
  refine C_seq ?_
  refine C_seq ?_
  refine C_region ?_
  refine L_call tb rfl rfl (ct_shotlinelaw03_awake) no_ps rfl ?_
  refine L_q rfl rfl rfl (q_not rfl (by first | exact (rfl : (!true) = false) | exact (rfl : (!false) = true) | exact decide_not.symm | rfl)) ?_
  refine L_then ?_
  refine C_false rfl ?_
  refine C_skip_then ?_
  refine C_seq ?_
  refine C_seq ?_
  refine C_region ?_
  refine L_q rfl rfl rfl (q_move rfl) ?_
  refine L_q rfl rfl rfl (q_len tb rfl rfl (by first | exact gvo | exact gvd gvo (by omega))) ?_
  refine L_q rfl rfl rfl (q_gtr rfl rfl) ?_
  refine L_q rfl rfl rfl (q_move rfl) ?_
  refine L_dec (d := 15) rfl (fun h2 => ?_) (fun h2 => ?_)
  · -- t15 True
    refine L_skip rfl rfl rfl rfl rfl rfl rfl ?_
    refine L_skip rfl rfl rfl rfl rfl rfl rfl ?_
    refine L_skip rfl rfl rfl rfl rfl rfl rfl ?_
    refine L_q rfl rfl rfl (by first | exact q_pickT rfl rfl | exact q_pickF rfl rfl) ?_
    refine L_then ?_
    refine C_true rfl ?_
    refine C_seq ?_
    refine C_region ?_
    refine L_q rfl rfl rfl (q_assign rfl) ?_
    refine L_then ?_
    refine C_ret ?_
    exact ret_of (res1 rfl rfl) sub_nil (by intro r hr; cases hr) ⟨rfl, rfl⟩
  · -- t15 False
    refine L_qg rfl rfl rfl rfl rfl rfl rfl (q_move rfl) ?_
    refine L_qg rfl rfl rfl rfl rfl rfl rfl (q_len tb rfl rfl (by first | exact gvo | exact gvd gvo (by omega))) ?_
    refine L_qg rfl rfl rfl rfl rfl rfl rfl (q_gtr rfl rfl) ?_
    refine L_q rfl rfl rfl (by first | exact q_pickT rfl rfl | exact q_pickF rfl rfl) ?_
    refine L_then ?_
    refine C_dec rfl (fun h4 => ?_) (fun h4 => ?_)
    · -- t19 True
      refine C_seq ?_
      refine C_region ?_
      refine L_q rfl rfl rfl (q_assign rfl) ?_
      refine L_then ?_
      refine C_ret ?_
      exact ret_of (res1 rfl rfl) sub_nil (by intro r hr; cases hr) ⟨rfl, rfl⟩
    · -- t19 False
      refine C_skip_then ?_
      refine C_seq ?_
      refine C_region ?_
      refine L_q rfl rfl rfl (q_move rfl) ?_
      refine L_callS tb rfl rfl (ct_shotlinelaw03_loads v la (by omega)) (ps_cons (by first | exact gvo | exact gvd gvo (by omega)) no_ps) rfl fun v22 => ?_
      refine L_q rfl rfl rfl (q_move rfl) ?_
      refine L_callS tb rfl rfl (ct_shotlinelaw03_loads u lb (by omega)) (ps_cons (by first | exact gvo | exact gvd gvo (by omega)) no_ps) rfl fun v24 => ?_
      refine L_call tb rfl rfl (ct_tissue_Inside _ _ la lb (by omega) (by omega)) (ps_cons (by first | exact gvo | exact gvd gvo (by omega)) (ps_cons (by first | exact gvo | exact gvd gvo (by omega)) no_ps)) rfl ?_
      refine L_q rfl rfl rfl (q_move rfl) ?_
      refine L_q rfl rfl rfl (q_ext0 rfl) ?_
      refine L_q rfl rfl rfl (q_ext1 rfl) ?_
      refine L_q rfl rfl rfl (q_assign rfl) ?_
      refine L_q rfl rfl rfl (q_assign rfl) ?_
      refine L_then ?_
      refine C_seq ?_
      refine C_region ?_
      refine L_q rfl rfl rfl (q_assign rfl) ?_
      refine L_then ?_
      refine C_cut (ι := Unit) (fun _p => ([(0, v), (1, u), (5, .bool (insV la lb)), (6, .int .i64 (insC la lb)), (7, .int .i64 (if la.length ≠ lb.length then 10 else 0))], [rd v 4 (la.map cLd), rd u 4 (lb.map cLd)])) (fun _p => True) ?_ ?_
      · -- ahead
        refine C_seq ?_
        refine C_region ?_
        refine L_q rfl rfl rfl (q_move rfl) ?_
        refine L_q rfl rfl rfl (q_len tb rfl rfl (by first | exact gvo | exact gvd gvo (by omega))) ?_
        refine L_q rfl rfl rfl (q_move rfl) ?_
        refine L_q rfl rfl rfl (q_len tb rfl rfl (by first | exact gvo | exact gvd gvo (by omega))) ?_
        refine L_q rfl rfl rfl (q_neq rfl rfl) ?_
        refine L_then ?_
        refine C_dec rfl (fun h5 => ?_) (fun h5 => ?_)
        · -- t32 True
          refine C_region ?_
          refine L_q rfl rfl rfl (q_assign rfl) ?_
          refine L_end ?_
          exact fun ac_ wo_ hs_ => ⟨(), trivial, hs_.weak ⟨rfl, rfl, rfl, rfl, en (by rw [if_pos (by omega)]), trivial⟩ (fun h => h.sub (by repeat (first | exact List.Sublist.refl _ | apply List.Sublist.cons_cons | apply List.Sublist.cons)))⟩
        · -- t32 False
          refine C_skip ?_
          exact fun ac_ wo_ hs_ => ⟨(), trivial, hs_.weak ⟨rfl, rfl, rfl, rfl, en (by rw [if_neg (by omega)]), trivial⟩ (fun h => h.sub (by repeat (first | exact List.Sublist.refl _ | apply List.Sublist.cons_cons | apply List.Sublist.cons)))⟩
      · -- behind
        intro _ _
        refine C_cut (ι := Unit) (fun _p => ([(0, v), (1, u), (5, .bool (insV la lb)), (6, .int .i64 (insC la lb)), (7, .int .i64 (fst2 (if la.length ≠ lb.length then 10 else 0) (ckLds la)))], [rd v 4 (la.map cLd), rd u 4 (lb.map cLd)])) (fun _p => True) ?_ ?_
        · -- ahead
          refine C_seq ?_
          refine C_region ?_
          refine L_q rfl rfl rfl (q_assign rfl) ?_
          refine L_then ?_
          refine C_block ?_
          refine C_loop (ι := Nat × Int) (fun p => ([(0, v), (1, u), (5, .bool (insV la lb)), (6, .int .i64 (insC la lb)), (7, .int .i64 p.2), (8, .int .i64 (p.1 : Int))], [rd v 4 (la.map cLd), rd u 4 (lb.map cLd)])) (fun p => p.1 ≤ la.length ∧ fst2 p.2 (ckLds (la.drop p.1)) = (fst2 (if la.length ≠ lb.length then 10 else 0) (ckLds la))) (fun p => la.length - p.1) (0, (if la.length ≠ lb.length then 10 else 0)) ⟨Nat.zero_le _, rfl⟩ (fun a w hs => hs.weak ⟨rfl, rfl, rfl, rfl, rfl, rfl, trivial⟩ (fun h => h.sub (by repeat (first | exact List.Sublist.refl _ | apply List.Sublist.cons_cons | apply List.Sublist.cons)))) ?_
          rintro ⟨k, c⟩ ⟨hk, hf⟩
          dsimp only at hk hf ⊢
          refine C_seq ?_
          refine C_seq ?_
          refine C_region ?_
          refine L_q rfl rfl rfl (q_move rfl) ?_
          refine L_q rfl rfl rfl (q_move rfl) ?_
          refine L_q rfl rfl rfl (q_len tb rfl rfl (by first | exact gvo | exact gvd gvo (by omega))) ?_
          refine L_q rfl rfl rfl (q_lss rfl rfl) ?_
          refine L_q rfl rfl rfl (q_move rfl) ?_
          refine L_dec (d := 37) rfl (fun h6 => ?_) (fun h6 => ?_)
          · -- t37 True
            refine L_qg rfl rfl rfl rfl rfl rfl rfl (q_move rfl) ?_
            refine L_qg rfl rfl rfl rfl rfl rfl rfl (q_eql rfl rfl) ?_
            refine L_q rfl rfl rfl (by first | exact q_pickT rfl rfl | exact q_pickF rfl rfl) ?_
            refine L_then ?_
            refine C_dec rfl (fun hc => ?_) (fun hc => ?_)
            · -- t40 True
              obtain ⟨x, he⟩ := get_some la (k := k) (by omega); have hel := map_get cLd he
              refine C_skip_then ?_
              refine C_seq ?_
              refine C_block ?_
              refine C_region ?_
              refine L_q rfl rfl rfl (q_move rfl) ?_
              refine L_q rfl rfl rfl (q_move rfl) ?_
              refine L_q rfl rfl rfl (by first | exact q_index tb rfl rfl rfl rfl (by first | exact gvo | exact gvd gvo (by omega)) (by omega) (by first | omega | (simp; done) | (simp; omega)) | exact q_indexP tb rfl rfl rfl rfl (by omega) (by omega)) ?_
              refine L_q rfl rfl rfl (by first | exact q_loadA tb rfl rfl bxo rfl rfl | exact q_loadEA tb rfl rfl (by first | exact gvo | exact gvd gvo (by omega)) (i := k) (o := 0) (by omega) hel rfl rfl) ?_
              refine L_call tb rfl rfl (ct_shotlineref03_CheckLoad x) no_ps rfl ?_
              refine L_q rfl rfl rfl (q_assign rfl) ?_
              refine L_blk ?_
              refine C_region ?_
              refine L_q rfl rfl rfl (q_move rfl) ?_
              refine L_q rfl rfl rfl (q_add rfl rfl (by first | exact IntWalk.i64_in _ (by omega) | rfl)) ?_
              refine L_q rfl rfl rfl (q_assign rfl) ?_
              refine L_end ?_
              exact fun ac_ wo_ hs_ => ⟨(k + 1, ckLd x), ⟨by dsimp only; omega, by rw [ckLds_fst he, hc, fst2_0] at hf; exact hf⟩, (by dsimp only; omega), hs_.weak ⟨rfl, rfl, rfl, rfl, rfl, rfl, trivial⟩ (fun h => h.sub (by repeat (first | exact List.Sublist.refl _ | apply List.Sublist.cons_cons | apply List.Sublist.cons)))⟩
            · -- t40 False
              refine C_exit ?_
              exact fun ac_ wo_ hs_ => ⟨(), trivial, hs_.weak ⟨rfl, rfl, rfl, rfl, en (by rw [← hf]; exact (fst2_1 hc).symm), trivial⟩ (fun h => h.sub (by repeat (first | exact List.Sublist.refl _ | apply List.Sublist.cons_cons | apply List.Sublist.cons)))⟩
          · -- t37 False
            refine L_skip rfl rfl rfl rfl rfl rfl rfl ?_
            refine L_skip rfl rfl rfl rfl rfl rfl rfl ?_
            refine L_q rfl rfl rfl (by first | exact q_pickT rfl rfl | exact q_pickF rfl rfl) ?_
            refine L_then ?_
            refine C_false rfl ?_
            refine C_exit ?_
            exact fun ac_ wo_ hs_ => ⟨(), trivial, hs_.weak ⟨rfl, rfl, rfl, rfl, en (by rw [← hf, drop_all (by omega)]; exact (fst2_e _).symm), trivial⟩ (fun h => h.sub (by repeat (first | exact List.Sublist.refl _ | apply List.Sublist.cons_cons | apply List.Sublist.cons)))⟩
        · -- behind
          intro _ _
          refine C_cut (ι := Unit) (fun _p => ([(0, v), (1, u), (5, .bool (insV la lb)), (6, .int .i64 (insC la lb)), (7, .int .i64 (insC la lb))], [rd v 4 (la.map cLd), rd u 4 (lb.map cLd)])) (fun _p => True) ?_ ?_
          · -- ahead
            refine C_seq ?_
            refine C_region ?_
            refine L_q rfl rfl rfl (q_assign rfl) ?_
            refine L_then ?_
            refine C_block ?_
            refine C_loop (ι := Nat × Int) (fun p => ([(0, v), (1, u), (5, .bool (insV la lb)), (6, .int .i64 (insC la lb)), (7, .int .i64 p.2), (9, .int .i64 (p.1 : Int))], [rd v 4 (la.map cLd), rd u 4 (lb.map cLd)])) (fun p => p.1 ≤ lb.length ∧ fst2 p.2 (ckLds (lb.drop p.1)) = (fst2 (fst2 (if la.length ≠ lb.length then 10 else 0) (ckLds la)) (ckLds lb))) (fun p => lb.length - p.1) (0, (fst2 (if la.length ≠ lb.length then 10 else 0) (ckLds la))) ⟨Nat.zero_le _, rfl⟩ (fun a w hs => hs.weak ⟨rfl, rfl, rfl, rfl, rfl, rfl, trivial⟩ (fun h => h.sub (by repeat (first | exact List.Sublist.refl _ | apply List.Sublist.cons_cons | apply List.Sublist.cons)))) ?_
            rintro ⟨k, c⟩ ⟨hk, hf⟩
            dsimp only at hk hf ⊢
            refine C_seq ?_
            refine C_seq ?_
            refine C_region ?_
            refine L_q rfl rfl rfl (q_move rfl) ?_
            refine L_q rfl rfl rfl (q_move rfl) ?_
            refine L_q rfl rfl rfl (q_len tb rfl rfl (by first | exact gvo | exact gvd gvo (by omega))) ?_
            refine L_q rfl rfl rfl (q_lss rfl rfl) ?_
            refine L_q rfl rfl rfl (q_move rfl) ?_
            refine L_dec (d := 52) rfl (fun h9 => ?_) (fun h9 => ?_)
            · -- t52 True
              refine L_qg rfl rfl rfl rfl rfl rfl rfl (q_move rfl) ?_
              refine L_qg rfl rfl rfl rfl rfl rfl rfl (q_eql rfl rfl) ?_
              refine L_q rfl rfl rfl (by first | exact q_pickT rfl rfl | exact q_pickF rfl rfl) ?_
              refine L_then ?_
              refine C_dec rfl (fun hc => ?_) (fun hc => ?_)
              · -- t55 True
                obtain ⟨x, he⟩ := get_some lb (k := k) (by omega); have hel := map_get cLd he
                refine C_skip_then ?_
                refine C_seq ?_
                refine C_block ?_
                refine C_region ?_
                refine L_q rfl rfl rfl (q_move rfl) ?_
                refine L_q rfl rfl rfl (q_move rfl) ?_
                refine L_q rfl rfl rfl (by first | exact q_index tb rfl rfl rfl rfl (by first | exact gvo | exact gvd gvo (by omega)) (by omega) (by first | omega | (simp; done) | (simp; omega)) | exact q_indexP tb rfl rfl rfl rfl (by omega) (by omega)) ?_
                refine L_q rfl rfl rfl (by first | exact q_loadA tb rfl rfl bxo rfl rfl | exact q_loadEA tb rfl rfl (by first | exact gvo | exact gvd gvo (by omega)) (i := k) (o := 0) (by omega) hel rfl rfl) ?_
                refine L_call tb rfl rfl (ct_shotlineref03_CheckLoad x) no_ps rfl ?_
                refine L_q rfl rfl rfl (q_assign rfl) ?_
                refine L_blk ?_
                refine C_region ?_
                refine L_q rfl rfl rfl (q_move rfl) ?_
                refine L_q rfl rfl rfl (q_add rfl rfl (by first | exact IntWalk.i64_in _ (by omega) | rfl)) ?_
                refine L_q rfl rfl rfl (q_assign rfl) ?_
                refine L_end ?_
                exact fun ac_ wo_ hs_ => ⟨(k + 1, ckLd x), ⟨by dsimp only; omega, by rw [ckLds_fst he, hc, fst2_0] at hf; exact hf⟩, (by dsimp only; omega), hs_.weak ⟨rfl, rfl, rfl, rfl, rfl, rfl, trivial⟩ (fun h => h.sub (by repeat (first | exact List.Sublist.refl _ | apply List.Sublist.cons_cons | apply List.Sublist.cons)))⟩
              · -- t55 False
                refine C_exit ?_
                exact fun ac_ wo_ hs_ => ⟨(), trivial, hs_.weak ⟨rfl, rfl, rfl, rfl, en (by rw [insC_fst, ← hf]; exact (fst2_1 hc).symm), trivial⟩ (fun h => h.sub (by repeat (first | exact List.Sublist.refl _ | apply List.Sublist.cons_cons | apply List.Sublist.cons)))⟩
            · -- t52 False
              refine L_skip rfl rfl rfl rfl rfl rfl rfl ?_
              refine L_skip rfl rfl rfl rfl rfl rfl rfl ?_
              refine L_q rfl rfl rfl (by first | exact q_pickT rfl rfl | exact q_pickF rfl rfl) ?_
              refine L_then ?_
              refine C_false rfl ?_
              refine C_exit ?_
              exact fun ac_ wo_ hs_ => ⟨(), trivial, hs_.weak ⟨rfl, rfl, rfl, rfl, en (by rw [insC_fst, ← hf, drop_all (by omega)]; exact (fst2_e _).symm), trivial⟩ (fun h => h.sub (by repeat (first | exact List.Sublist.refl _ | apply List.Sublist.cons_cons | apply List.Sublist.cons)))⟩
          · -- behind
            intro _ _
            refine C_seq ?_
            refine C_seq ?_
            refine C_region ?_
            refine L_q rfl rfl rfl (q_move rfl) ?_
            refine L_q rfl rfl rfl (q_neq rfl rfl) ?_
            refine L_then ?_
            refine C_dec rfl (fun hz => ?_) (fun hz => ?_)
            · -- t64 True
              rw [insV_no hz]
              refine C_seq ?_
              refine C_region ?_
              refine L_q rfl rfl rfl (q_move rfl) ?_
              refine L_q rfl rfl rfl (q_move rfl) ?_
              refine L_q rfl rfl rfl (q_true (q_eql rfl rfl) (decide_eq_true rfl)) ?_
              refine L_q rfl rfl rfl (q_move rfl) ?_
              refine L_qg rfl rfl rfl rfl rfl rfl rfl (q_move rfl) ?_
              refine L_qg rfl rfl rfl rfl rfl rfl rfl (q_not rfl (by first | exact (rfl : (!true) = false) | exact (rfl : (!false) = true) | exact decide_not.symm | rfl)) ?_
              refine L_q rfl rfl rfl (by first | exact q_pickT rfl rfl | exact q_pickF rfl rfl) ?_
              refine L_q rfl rfl rfl (q_assign rfl) ?_
              refine L_then ?_
              refine C_ret ?_
              exact ret_of (res1 rfl rfl) sub_nil (by intro r hr; cases hr) ⟨rfl, rfl⟩
            · -- t64 False
              have hz := Decidable.not_not.1 hz
              refine C_skip_then ?_
              refine C_seq ?_
              refine C_region ?_
              refine L_q rfl rfl rfl (q_move rfl) ?_
              refine L_q rfl rfl rfl (q_true (q_eql rfl rfl) (decide_eq_true hz)) ?_
              refine L_q rfl rfl rfl (q_move rfl) ?_
              refine L_qg rfl rfl rfl rfl rfl rfl rfl (q_move rfl) ?_
              refine L_qg rfl rfl rfl rfl rfl rfl rfl (q_move rfl) ?_
              refine L_qg rfl rfl rfl rfl rfl rfl rfl (q_move rfl) ?_
              refine L_callg tb rfl rfl rfl rfl rfl rfl (ct_shotlineref03_Inside _ _ la lb (insC_len hz) (by omega)) (ps_cons (by first | exact gvo | exact gvd gvo (by omega)) (ps_cons (by first | exact gvo | exact gvd gvo (by omega)) no_ps)) rfl ?_
              refine L_qg rfl rfl rfl rfl rfl rfl rfl (q_true (q_eqlBool Try.underlying4 rfl rfl) (decide_eq_true (by unfold insV; simp [hz]))) ?_
              refine L_q rfl rfl rfl (by first | exact q_pickT rfl rfl | exact q_pickF rfl rfl) ?_
              refine L_q rfl rfl rfl (q_assign rfl) ?_
              refine L_then ?_
              refine C_ret ?_
              exact ret_of (res1 rfl rfl) sub_nil (by intro r hr; cases hr) ⟨rfl, rfl⟩
end Go.Proofs.Ytfhfadfnbnliiaa
