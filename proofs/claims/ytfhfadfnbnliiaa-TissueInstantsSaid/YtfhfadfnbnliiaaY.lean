/-
  Walks: each function named returns what its model says. Conditions: those in front of each theorem.
-/
import Derived.Test.YtfhfadfnbnliiaaX
namespace Go.Proofs.Ytfhfadfnbnliiaa
open Go.RowKit

set_option maxRecDepth 100000 in
set_option maxHeartbeats 4000000 in
theorem ct_tissue_Peaks (v u : Value) (x : Lg) (fa fi : Int) (ts : List Cp) (ls : List Ld) (hle : ts.length ≤ 1000000) (hle2 : ls.length ≤ 1000000) : Ct Try.prog 69 [.agg (cDv v u x fa).toArray, .int .i64 fi] [(v, 4, ts.map cCp), (u, 4, ls.map cLd)] (isSlN 3 1 ((peaksE ts ls x fa fi).1.map cI) (.int .i64 (peaksE ts ls x fa fi).2)) := by
  refine Ct.ofM (N := 59) Try.func69 rfl rfl rfl fun w => ?_
  refine C_weak (E' := [(0, .agg (cDv v u x fa).toArray), (1, .int .i64 fi)]) (rs' := [rd v 4 (ts.map cCp), rd u 4 (ls.map cLd)]) ⟨rfl, rfl, trivial⟩ (fun _ h => h) ?_
  refine C_seq ?_
  refine C_region ?_
  refine L_box rfl rfl rfl fun g2 => ?_
  refine L_q rfl rfl rfl (q_assign rfl) ?_
  refine L_q rfl rfl rfl (q_assign rfl) ?_
  refine L_then ?_
  refine C_seq ?_
  refine C_seq ?_
  refine C_region ?_
  refine L_q rfl rfl rfl (by first | exact q_loadA tb rfl rfl bxo rfl rfl | exact q_loadEA tb rfl rfl (by first | exact gvo | exact gvd gvo (by omega)) (by omega) (by simp) rfl rfl) ?_
  refine L_q rfl rfl rfl (q_move rfl) ?_
  refine L_call tb rfl rfl (ct_tissue_checkFine v u x fa fi ts ls hle hle2) (ps_cons (by first | exact gvo | exact gvd gvo (by omega)) (ps_cons (by first | exact gvo | exact gvd gvo (by omega)) no_ps)) rfl ?_
  refine L_q rfl rfl rfl (q_assign rfl) ?_
  refine L_then ?_
  refine C_seq ?_
  refine C_region ?_
  refine L_q rfl rfl rfl (q_move rfl) ?_
  refine L_q rfl rfl rfl (q_neq rfl rfl) ?_
  refine L_then ?_
  refine C_dec rfl (fun h1 => ?_) (fun h1 => ?_)
  · -- t15 True
    refine C_seq ?_
    refine C_region ?_
    refine L_q rfl rfl rfl (q_move rfl) ?_
    refine L_q rfl rfl rfl (q_assign rfl) ?_
    refine L_q rfl rfl rfl (q_assign rfl) ?_
    refine L_then ?_
    refine C_ret ?_
    rw [peaksE_1 h1]
    exact ret_of0M (rs' := [sl (.slice none 0 0) 3 1 []]) (res2 rfl rfl rfl) (fun w_ h_ => ws_nil (sub_nil w_ h_)) own1 ⟨_, rfl, rfl⟩
  · -- t15 False
    obtain ⟨H, hf0, hf6⟩ := ckFine_ok (Decidable.not_not.1 h1)
    obtain ⟨f, rfl⟩ := Int.eq_ofNat_of_zero_le hf0
    have hf : f ≤ 6 := by omega
    obtain ⟨n, hn⟩ : ∃ n : Nat, n = 2 ^ f := ⟨_, rfl⟩
    have hT : onTask ts ls x fa f n := ⟨H, hf, hn⟩
    have h64 := two_f hf hn
    have hk := H.k; have hlen := hk.len; have htb := hk.b
    have hl1 := len_map cCp ts; have hl2 := len_map cLd ls
    refine C_form (v := u) (gv1 (gv1 gr0)) (fun Au cu hu _ => ?_)
    subst hu
    refine C_res (fun _ hw => hw.dup (k := rd (.slice Au (ls.map cLd).length cu) 4 (ls.map cLd)) m2 (rd_own _ _ _)) ?_
    refine C_res (fun _ hw => hw.dup (k := rd v 4 (ts.map cCp)) m2 (rd_own _ _ _)) ?_
    refine C_skip_then ?_
    refine C_seq ?_
    refine C_tree (ι := Value × Nat × Nat) (.q 0 (.q 1 (.q 2 (.q 4 (.q 5 (.s3 3 6 7 (.s2 6 7 (.s 7 (.s 8 (.s 9 .nil))) (.s 6 (.s 8 (.s 9 .nil)))) (.s2 3 7 (.s 7 (.s 8 (.s 9 .nil))) (.s 3 (.s 8 (.s 9 .nil)))) (.s2 3 6 (.s 6 (.s 8 (.s 9 .nil))) (.s 3 (.s 8 (.s 9 .nil)))))))))) (fun q => ([(2, .pointer (some ⟨g2, 0, none⟩)), (1, .int .i64 (f : Int)), (7, .pointer (some ⟨q.2.1, 0, none⟩)), (8, .pointer (some ⟨q.2.2, 0, none⟩))], [sl q.1 3 1 (List.replicate (ts.map cCp).length [.int .i64 0]), box q.2.1 59 [q.1], box q.2.2 23 [(.slice Au (ls.map cLd).length cu)], rd v 4 (ts.map cCp), rd (.slice Au (ls.map cLd).length cu) 4 (ls.map cLd), box g2 101 (cDv v (.slice Au (ls.map cLd).length cu) x fa), rd v 4 (ts.map cCp), rd (.slice Au (ls.map cLd).length cu) 4 (ls.map cLd)])) mixed (by kernel_rfl) rfl (by kernel_rfl) ?_ ?_
    · skip
      refine Z_q rfl rfl rfl rfl (by first | exact q_field tb rfl rfl rfl | exact q_fieldE tb rfl rfl rfl (by first | exact gvo | exact gvd gvo (by omega)) (by first | omega | (simp; done) | (simp; omega))) ?_
      refine Z_q rfl rfl rfl rfl (by first | exact q_load tb rfl rfl bxo rfl | exact q_loadE tb rfl rfl (by first | exact gvo | exact gvd gvo (by omega)) (by omega) (by simp) rfl) ?_
      refine Z_q rfl rfl rfl rfl (q_len tb rfl rfl (by first | exact gvo | exact gvd gvo (by omega))) ?_
      refine Z_q rfl rfl rfl rfl (by first | exact q_field tb rfl rfl rfl | exact q_fieldE tb rfl rfl rfl (by first | exact gvo | exact gvd gvo (by omega)) (by first | omega | (simp; done) | (simp; omega))) ?_
      refine Z_q rfl rfl rfl rfl (by first | exact q_load tb rfl rfl bxo rfl | exact q_loadE tb rfl rfl (by first | exact gvo | exact gvd gvo (by omega)) (by omega) (by simp) rfl) ?_
      refine Z_s3 ?_ ?_ ?_
      · skip
        refine St_mkF rfl rfl rfl rfl (lo_make tb rfl rfl rfl (n := (ts.map cCp).length) rfl rfl (by omega) (by simp [maxLen]; omega)) fun A20 c20 => ?_
        refine Z_s2 ?_ ?_
        · skip
          refine St_alloc tb rfl rfl rfl rfl fun g7 => ?_
          refine Z_s ?_
          refine St_alloc tb rfl rfl rfl rfl fun g8 => ?_
          refine Z_s ?_
          first | refine St_store tb rfl rfl (List.Perm.refl _) rfl rfl rfl rfl rfl rfl rfl rfl ?_ | refine St_store tb rfl rfl perm1 rfl rfl rfl rfl rfl rfl rfl rfl ?_ | refine St_store tb rfl rfl (perm_front (pre := [_, _])) rfl rfl rfl rfl rfl rfl rfl rfl ?_ | refine St_store tb rfl rfl (perm_front (pre := [_, _, _])) rfl rfl rfl rfl rfl rfl rfl rfl ?_ | refine St_store tb rfl rfl (perm_front (pre := [_, _, _, _])) rfl rfl rfl rfl rfl rfl rfl rfl ?_
          refine Z_s ?_
          first | refine St_store tb rfl rfl (List.Perm.refl _) rfl rfl rfl rfl rfl rfl rfl rfl ?_ | refine St_store tb rfl rfl perm1 rfl rfl rfl rfl rfl rfl rfl rfl ?_ | refine St_store tb rfl rfl (perm_front (pre := [_, _])) rfl rfl rfl rfl rfl rfl rfl rfl ?_ | refine St_store tb rfl rfl (perm_front (pre := [_, _, _])) rfl rfl rfl rfl rfl rfl rfl rfl ?_ | refine St_store tb rfl rfl (perm_front (pre := [_, _, _, _])) rfl rfl rfl rfl rfl rfl rfl rfl ?_
          refine Z_nil ?_
          try dsimp only [List.append, List.cons_append, List.nil_append]
          exact ⟨(.slice A20 (List.replicate (ts.map cCp).length [Value.int .i64 0]).length c20, g7, g8), fun a_ w_ hs_ => hs_.weak ⟨rfl, rfl, rfl, rfl, trivial⟩ (fun h => by dsimp only; exact h.pk (by repeat (first | with_reducible exact pk_nil | refine pk_box rfl ?_ | refine pk_rd rfl ?_ | refine pk_sl rfl ?_ | with_reducible refine pk_app ?_ | with_reducible refine pk_app0 ?_ | with_reducible exact pk_tl | refine pk_var ?_)))⟩
        · skip
          refine St_alloc tb rfl rfl rfl rfl fun g8 => ?_
          refine Z_s ?_
          refine St_alloc tb rfl rfl rfl rfl fun g7 => ?_
          refine Z_s ?_
          first | refine St_store tb rfl rfl (List.Perm.refl _) rfl rfl rfl rfl rfl rfl rfl rfl ?_ | refine St_store tb rfl rfl perm1 rfl rfl rfl rfl rfl rfl rfl rfl ?_ | refine St_store tb rfl rfl (perm_front (pre := [_, _])) rfl rfl rfl rfl rfl rfl rfl rfl ?_ | refine St_store tb rfl rfl (perm_front (pre := [_, _, _])) rfl rfl rfl rfl rfl rfl rfl rfl ?_ | refine St_store tb rfl rfl (perm_front (pre := [_, _, _, _])) rfl rfl rfl rfl rfl rfl rfl rfl ?_
          refine Z_s ?_
          first | refine St_store tb rfl rfl (List.Perm.refl _) rfl rfl rfl rfl rfl rfl rfl rfl ?_ | refine St_store tb rfl rfl perm1 rfl rfl rfl rfl rfl rfl rfl rfl ?_ | refine St_store tb rfl rfl (perm_front (pre := [_, _])) rfl rfl rfl rfl rfl rfl rfl rfl ?_ | refine St_store tb rfl rfl (perm_front (pre := [_, _, _])) rfl rfl rfl rfl rfl rfl rfl rfl ?_ | refine St_store tb rfl rfl (perm_front (pre := [_, _, _, _])) rfl rfl rfl rfl rfl rfl rfl rfl ?_
          refine Z_nil ?_
          try dsimp only [List.append, List.cons_append, List.nil_append]
          exact ⟨(.slice A20 (List.replicate (ts.map cCp).length [Value.int .i64 0]).length c20, g7, g8), fun a_ w_ hs_ => hs_.weak ⟨rfl, rfl, rfl, rfl, trivial⟩ (fun h => by dsimp only; exact h.pk (by repeat (first | with_reducible exact pk_nil | refine pk_box rfl ?_ | refine pk_rd rfl ?_ | refine pk_sl rfl ?_ | with_reducible refine pk_app ?_ | with_reducible refine pk_app0 ?_ | with_reducible exact pk_tl | refine pk_var ?_)))⟩
      · skip
        refine St_alloc tb rfl rfl rfl rfl fun g7 => ?_
        refine Z_s2 ?_ ?_
        · skip
          refine St_mkF rfl rfl rfl rfl (lo_make tb rfl rfl rfl (n := (ts.map cCp).length) rfl rfl (by omega) (by simp [maxLen]; omega)) fun A20 c20 => ?_
          refine Z_s ?_
          refine St_alloc tb rfl rfl rfl rfl fun g8 => ?_
          refine Z_s ?_
          first | refine St_store tb rfl rfl (List.Perm.refl _) rfl rfl rfl rfl rfl rfl rfl rfl ?_ | refine St_store tb rfl rfl perm1 rfl rfl rfl rfl rfl rfl rfl rfl ?_ | refine St_store tb rfl rfl (perm_front (pre := [_, _])) rfl rfl rfl rfl rfl rfl rfl rfl ?_ | refine St_store tb rfl rfl (perm_front (pre := [_, _, _])) rfl rfl rfl rfl rfl rfl rfl rfl ?_ | refine St_store tb rfl rfl (perm_front (pre := [_, _, _, _])) rfl rfl rfl rfl rfl rfl rfl rfl ?_
          refine Z_s ?_
          first | refine St_store tb rfl rfl (List.Perm.refl _) rfl rfl rfl rfl rfl rfl rfl rfl ?_ | refine St_store tb rfl rfl perm1 rfl rfl rfl rfl rfl rfl rfl rfl ?_ | refine St_store tb rfl rfl (perm_front (pre := [_, _])) rfl rfl rfl rfl rfl rfl rfl rfl ?_ | refine St_store tb rfl rfl (perm_front (pre := [_, _, _])) rfl rfl rfl rfl rfl rfl rfl rfl ?_ | refine St_store tb rfl rfl (perm_front (pre := [_, _, _, _])) rfl rfl rfl rfl rfl rfl rfl rfl ?_
          refine Z_nil ?_
          try dsimp only [List.append, List.cons_append, List.nil_append]
          exact ⟨(.slice A20 (List.replicate (ts.map cCp).length [Value.int .i64 0]).length c20, g7, g8), fun a_ w_ hs_ => hs_.weak ⟨rfl, rfl, rfl, rfl, trivial⟩ (fun h => by dsimp only; exact h.pk (by repeat (first | with_reducible exact pk_nil | refine pk_box rfl ?_ | refine pk_rd rfl ?_ | refine pk_sl rfl ?_ | with_reducible refine pk_app ?_ | with_reducible refine pk_app0 ?_ | with_reducible exact pk_tl | refine pk_var ?_)))⟩
        · skip
          refine St_alloc tb rfl rfl rfl rfl fun g8 => ?_
          refine Z_s ?_
          refine St_mkF rfl rfl rfl rfl (lo_make tb rfl rfl rfl (n := (ts.map cCp).length) rfl rfl (by omega) (by simp [maxLen]; omega)) fun A20 c20 => ?_
          refine Z_s ?_
          first | refine St_store tb rfl rfl (List.Perm.refl _) rfl rfl rfl rfl rfl rfl rfl rfl ?_ | refine St_store tb rfl rfl perm1 rfl rfl rfl rfl rfl rfl rfl rfl ?_ | refine St_store tb rfl rfl (perm_front (pre := [_, _])) rfl rfl rfl rfl rfl rfl rfl rfl ?_ | refine St_store tb rfl rfl (perm_front (pre := [_, _, _])) rfl rfl rfl rfl rfl rfl rfl rfl ?_ | refine St_store tb rfl rfl (perm_front (pre := [_, _, _, _])) rfl rfl rfl rfl rfl rfl rfl rfl ?_
          refine Z_s ?_
          first | refine St_store tb rfl rfl (List.Perm.refl _) rfl rfl rfl rfl rfl rfl rfl rfl ?_ | refine St_store tb rfl rfl perm1 rfl rfl rfl rfl rfl rfl rfl rfl ?_ | refine St_store tb rfl rfl (perm_front (pre := [_, _])) rfl rfl rfl rfl rfl rfl rfl rfl ?_ | refine St_store tb rfl rfl (perm_front (pre := [_, _, _])) rfl rfl rfl rfl rfl rfl rfl rfl ?_ | refine St_store tb rfl rfl (perm_front (pre := [_, _, _, _])) rfl rfl rfl rfl rfl rfl rfl rfl ?_
          refine Z_nil ?_
          try dsimp only [List.append, List.cons_append, List.nil_append]
          exact ⟨(.slice A20 (List.replicate (ts.map cCp).length [Value.int .i64 0]).length c20, g7, g8), fun a_ w_ hs_ => hs_.weak ⟨rfl, rfl, rfl, rfl, trivial⟩ (fun h => by dsimp only; exact h.pk (by repeat (first | with_reducible exact pk_nil | refine pk_box rfl ?_ | refine pk_rd rfl ?_ | refine pk_sl rfl ?_ | with_reducible refine pk_app ?_ | with_reducible refine pk_app0 ?_ | with_reducible exact pk_tl | refine pk_var ?_)))⟩
      · skip
        refine St_alloc tb rfl rfl rfl rfl fun g8 => ?_
        refine Z_s2 ?_ ?_
        · skip
          refine St_mkF rfl rfl rfl rfl (lo_make tb rfl rfl rfl (n := (ts.map cCp).length) rfl rfl (by omega) (by simp [maxLen]; omega)) fun A20 c20 => ?_
          refine Z_s ?_
          refine St_alloc tb rfl rfl rfl rfl fun g7 => ?_
          refine Z_s ?_
          first | refine St_store tb rfl rfl (List.Perm.refl _) rfl rfl rfl rfl rfl rfl rfl rfl ?_ | refine St_store tb rfl rfl perm1 rfl rfl rfl rfl rfl rfl rfl rfl ?_ | refine St_store tb rfl rfl (perm_front (pre := [_, _])) rfl rfl rfl rfl rfl rfl rfl rfl ?_ | refine St_store tb rfl rfl (perm_front (pre := [_, _, _])) rfl rfl rfl rfl rfl rfl rfl rfl ?_ | refine St_store tb rfl rfl (perm_front (pre := [_, _, _, _])) rfl rfl rfl rfl rfl rfl rfl rfl ?_
          refine Z_s ?_
          first | refine St_store tb rfl rfl (List.Perm.refl _) rfl rfl rfl rfl rfl rfl rfl rfl ?_ | refine St_store tb rfl rfl perm1 rfl rfl rfl rfl rfl rfl rfl rfl ?_ | refine St_store tb rfl rfl (perm_front (pre := [_, _])) rfl rfl rfl rfl rfl rfl rfl rfl ?_ | refine St_store tb rfl rfl (perm_front (pre := [_, _, _])) rfl rfl rfl rfl rfl rfl rfl rfl ?_ | refine St_store tb rfl rfl (perm_front (pre := [_, _, _, _])) rfl rfl rfl rfl rfl rfl rfl rfl ?_
          refine Z_nil ?_
          try dsimp only [List.append, List.cons_append, List.nil_append]
          exact ⟨(.slice A20 (List.replicate (ts.map cCp).length [Value.int .i64 0]).length c20, g7, g8), fun a_ w_ hs_ => hs_.weak ⟨rfl, rfl, rfl, rfl, trivial⟩ (fun h => by dsimp only; exact h.pk (by repeat (first | with_reducible exact pk_nil | refine pk_box rfl ?_ | refine pk_rd rfl ?_ | refine pk_sl rfl ?_ | with_reducible refine pk_app ?_ | with_reducible refine pk_app0 ?_ | with_reducible exact pk_tl | refine pk_var ?_)))⟩
        · skip
          refine St_alloc tb rfl rfl rfl rfl fun g7 => ?_
          refine Z_s ?_
          refine St_mkF rfl rfl rfl rfl (lo_make tb rfl rfl rfl (n := (ts.map cCp).length) rfl rfl (by omega) (by simp [maxLen]; omega)) fun A20 c20 => ?_
          refine Z_s ?_
          first | refine St_store tb rfl rfl (List.Perm.refl _) rfl rfl rfl rfl rfl rfl rfl rfl ?_ | refine St_store tb rfl rfl perm1 rfl rfl rfl rfl rfl rfl rfl rfl ?_ | refine St_store tb rfl rfl (perm_front (pre := [_, _])) rfl rfl rfl rfl rfl rfl rfl rfl ?_ | refine St_store tb rfl rfl (perm_front (pre := [_, _, _])) rfl rfl rfl rfl rfl rfl rfl rfl ?_ | refine St_store tb rfl rfl (perm_front (pre := [_, _, _, _])) rfl rfl rfl rfl rfl rfl rfl rfl ?_
          refine Z_s ?_
          first | refine St_store tb rfl rfl (List.Perm.refl _) rfl rfl rfl rfl rfl rfl rfl rfl ?_ | refine St_store tb rfl rfl perm1 rfl rfl rfl rfl rfl rfl rfl rfl ?_ | refine St_store tb rfl rfl (perm_front (pre := [_, _])) rfl rfl rfl rfl rfl rfl rfl rfl ?_ | refine St_store tb rfl rfl (perm_front (pre := [_, _, _])) rfl rfl rfl rfl rfl rfl rfl rfl ?_ | refine St_store tb rfl rfl (perm_front (pre := [_, _, _, _])) rfl rfl rfl rfl rfl rfl rfl rfl ?_
          refine Z_nil ?_
          try dsimp only [List.append, List.cons_append, List.nil_append]
          exact ⟨(.slice A20 (List.replicate (ts.map cCp).length [Value.int .i64 0]).length c20, g7, g8), fun a_ w_ hs_ => hs_.weak ⟨rfl, rfl, rfl, rfl, trivial⟩ (fun h => by dsimp only; exact h.pk (by repeat (first | with_reducible exact pk_nil | refine pk_box rfl ?_ | refine pk_rd rfl ?_ | refine pk_sl rfl ?_ | with_reducible refine pk_app ?_ | with_reducible refine pk_app0 ?_ | with_reducible exact pk_tl | refine pk_var ?_)))⟩
    · skip
      (rintro ⟨v20, g7, g8⟩; dsimp only; have e0 : List.replicate (ts.map cCp).length [Value.int .i64 0] = (peaksK f ts ls x n 0).map cI := by rw [hl1]; show _ = (List.replicate ts.length (0 : Int)).map cI; rw [List.map_replicate]; rfl)
      refine L_then ?_
      refine C_seq ?_
      refine C_seq ?_
      refine C_region ?_
      refine L_q rfl rfl rfl (by first | exact q_field tb rfl rfl rfl | exact q_fieldE tb rfl rfl rfl (by first | exact gvo | exact gvd gvo (by omega)) (by first | omega | (simp; done) | (simp; omega))) ?_
      refine L_q rfl rfl rfl (by first | exact q_load tb rfl rfl bxo rfl | exact q_loadE tb rfl rfl (by first | exact gvo | exact gvd gvo (by omega)) (by omega) (by simp) rfl) ?_
      refine L_q rfl rfl rfl (by first | exact q_field tb rfl rfl rfl | exact q_fieldE tb rfl rfl rfl (by first | exact gvo | exact gvd gvo (by omega)) (by first | omega | (simp; done) | (simp; omega))) ?_
      refine L_q rfl rfl rfl (by first | exact q_load tb rfl rfl bxo rfl | exact q_loadE tb rfl rfl (by first | exact gvo | exact gvd gvo (by omega)) (by omega) (by simp) rfl) ?_
      refine L_q rfl rfl rfl (by first | exact q_field tb rfl rfl rfl | exact q_fieldE tb rfl rfl rfl (by first | exact gvo | exact gvd gvo (by omega)) (by first | omega | (simp; done) | (simp; omega))) ?_
      refine L_q rfl rfl rfl (by first | exact q_loadA tb rfl rfl bxo rfl rfl | exact q_loadEA tb rfl rfl (by first | exact gvo | exact gvd gvo (by omega)) (by omega) (by simp) rfl rfl) ?_
      refine L_q rfl rfl rfl (q_move rfl) ?_
      refine L_lo rfl rfl rfl (lo_call tb rfl rfl (ct_tissue_states v (.slice Au (ls.map cLd).length cu) x f ts ls) (ps_cons (by first | exact gvo | exact gvd gvo (by omega)) (ps_cons (by first | exact gvo | exact gvd gvo (by omega)) no_ps)) (by rintro y rs ⟨g4, g5, g6, g7, _, rfl⟩ r hr; simp only [List.mem_cons, List.not_mem_nil, or_false] at hr; rcases hr with rfl | rfl | rfl | rfl <;> exact box_sinks _ _ _)) ?_
      rintro _ _ ⟨s4, s5, s6, s7, rfl, rfl⟩
      refine L_then ?_
      refine C_block ?_
      refine C_range (fun rs_ => ∃ y : Value, rs_ = [rd y 4 ((prevM f ts ls x n (rmk x n)).map cLd), sl v20 3 1 ((peaksK f ts ls x n (rmk x n)).map cI), box g7 59 [v20], box g8 23 [y], box g2 101 (cDv v (.slice Au (ls.map cLd).length cu) x fa), rd v 4 (ts.map cCp), rd y 4 ((loadedM ts ls x f).map cLd)]) rfl (tb.en_ok _ (lkT_mem (rfl : lkT tb.en 130 = some ()))) (fun l D fn tm hts hE => ?_) ?_
      · -- the rounds
        refine it_statesR _ _ l D _ (fun k y => [rd y 4 ((prevM f ts ls x n k).map cLd), sl v20 3 1 ((peaksK f ts ls x n k).map cI), box g7 59 [v20], box g8 23 [y], box g2 101 (cDv v (.slice Au (ls.map cLd).length cu) x fa), rd v 4 (ts.map cCp)]) v (.slice Au (ls.map cLd).length cu) x f n ts ls s4 s5 s6 s7 hf hn H.xx hlen (by omega) hk.c hk.x rfl ?hR _ _ (fun w_ h_ => h_.pk (by repeat (first | with_reducible exact pk_nil | refine pk_box (by first | rfl | exact e0) ?_ | refine pk_rd rfl ?_ | refine pk_sl (by first | rfl | exact e0) ?_ | with_reducible refine pk_app ?_ | with_reducible refine pk_app0 ?_ | with_reducible exact pk_tl | refine pk_var ?_))) (fun y => ⟨y, rfl⟩)
        intro k y y9 hk9
        refine Rnd.of hts rfl hE (fun own => ?_)
        refine C_form (v := y9) (gv1 gr0) (fun Ay cy hy _ => ?_)
        subst hy
        have hpl := prevM_len (f := f) (ts := ts) (x := x) (n := n) hlen k; have hsl := stM_len (f := f) (ts := ts) (x := x) (n := n) hlen k; have hpk := peaksK_len (f := f) (x := x) (n := n) hlen k; have hpl9 := len_map cI (peaksK f ts ls x n k)
        refine C_region ?_
        refine L_alloc tb rfl rfl fun g9 => ?_
        first | refine L_store tb rfl rfl rfl rfl rfl rfl rfl rfl ?_ | (refine L_front1 ?_; refine L_store tb rfl rfl rfl rfl rfl rfl rfl rfl ?_) | (refine L_front2 ?_; refine L_store tb rfl rfl rfl rfl rfl rfl rfl rfl ?_) | (refine L_front3 ?_; refine L_store tb rfl rfl rfl rfl rfl rfl rfl rfl ?_) | (refine L_front4 ?_; refine L_store tb rfl rfl rfl rfl rfl rfl rfl rfl ?_) | (refine L_front5 ?_; refine L_store tb rfl rfl rfl rfl rfl rfl rfl rfl ?_) | (refine L_front6 ?_; refine L_store tb rfl rfl rfl rfl rfl rfl rfl rfl ?_)
        refine L_front1 ?_
        refine L_end ?_
        refine beginRh fun LP hLP => ?_
        refine C_block ?_
        refine C_seq ?_
        refine C_seq ?_
        refine C_region ?_
        refine L_q rfl rfl rfl (by first | exact q_load tb rfl rfl bxo rfl | exact q_loadE tb rfl rfl (by first | exact gvo | exact gvd gvo (by omega)) (by omega) (by simp) rfl) ?_
        refine L_q rfl rfl rfl (q_len tb rfl rfl (by first | exact gvo | exact gvd gvo (by omega))) ?_
        refine L_q rfl rfl rfl (q_move rfl) ?_
        refine L_then ?_
        refine C_block ?_
        refine C_loop (ι := Nat) (fun i => ([(2, .pointer (some ⟨g2, 0, none⟩)), (7, .pointer (some ⟨g7, 0, none⟩)), (8, .pointer (some ⟨g8, 0, none⟩)), (9, .pointer (some ⟨g9, 0, none⟩)), (33, .int .i64 (ts.length : Int)), (34, .int .i64 (i : Int))], [sl v20 3 1 ((mixL (peaksK f ts ls x n (k + 1)) (peaksK f ts ls x n k) i).map cI), LP, box g9 167 (stC x n k (.slice Ay (List.map cLd (stM f ts ls x n k)).length cy)), rd (.slice Ay (List.map cLd (stM f ts ls x n k)).length cy) 4 ((stM f ts ls x n k).map cLd), rd y 4 ((prevM f ts ls x n k).map cLd), box g7 59 [v20], box g8 23 [y], box g2 101 (cDv v (.slice Au (ls.map cLd).length cu) x fa), rd v 4 (ts.map cCp)] ++ own)) (fun i => i ≤ ts.length) (fun i => ts.length - i) 0 (Nat.zero_le _) (fun a w hs => hs.weak ⟨rfl, rfl, rfl, rfl, en (by omega), rfl, trivial⟩ (fun h => h.pk (by repeat (first | with_reducible exact pk_nil | refine pk_box rfl ?_ | refine pk_rd rfl ?_ | refine pk_sl rfl ?_ | with_reducible refine pk_app ?_ | with_reducible refine pk_app0 ?_ | with_reducible exact pk_tl | refine pk_var ?_)))) ?_
        intro i hi9
        dsimp only at hi9 ⊢
        refine C_seq ?_
        refine C_region ?_
        refine L_q rfl rfl rfl (q_lss rfl rfl) ?_
        refine L_then ?_
        refine C_seq ?_
        refine C_dec rfl (fun h2 => ?_) (fun h2 => ?_)
        · -- t35 True
          obtain ⟨z, hez⟩ := get_some (peaksK f ts ls x n k) (k := i) (by omega); have hem : (mixL (peaksK f ts ls x n (k + 1)) (peaksK f ts ls x n k) i)[i]? = some z := by rw [mix_get (peaksK_len hlen (k + 1)) (by omega)]; exact hez
          obtain ⟨a, hea⟩ := get_some (prevM f ts ls x n k) (k := i) (by omega); obtain ⟨b9, heb⟩ := get_some (stM f ts ls x n k) (k := i) (by omega); have helm := map_get cI hem; have hela := map_get cLd hea; have helb := map_get cLd heb; have hai := prevM_in (f := f) (ts := ts) H.xx h64 hk.x k (by omega) a (List.mem_of_getElem? hea); have hbi := stM_in (f := f) (ts := ts) H.xx h64 hk.x k hk9 b9 (List.mem_of_getElem? heb); have e6 := mix_cells hlen (by omega) hez hea heb; have hml9 := len_map cI (mixL (peaksK f ts ls x n (k + 1)) (peaksK f ts ls x n k) i); have hml8 := mix_len (i := i) (peaksK_len (f := f) (x := x) (n := n) hlen (k + 1)) (peaksK_len (f := f) (x := x) (n := n) hlen k)
          refine C_skip_then ?_
          refine C_seq ?_
          refine C_block ?_
          refine C_seq ?_
          refine C_region ?_
          refine L_q rfl rfl rfl (q_move rfl) ?_
          refine L_q rfl rfl rfl (q_assign rfl) ?_
          refine L_then ?_
          refine C_draw (n := 18) [(0, false), (1, false), (2, false), (3, false), (4, false), (5, false), (6, false), (7, false), (8, false), (9, false), (10, false), (11, false), (12, false), (13, false), (14, false), (15, true), (16, false), (17, false)] mixed (by kernel_rfl) ?_
          refine W_q rfl rfl rfl rfl (by first | exact q_load tb rfl rfl bxo rfl | exact q_loadE tb rfl rfl (by first | exact gvo | exact gvd gvo (by omega)) (by omega) (by simp) rfl) ?_
          refine W_q rfl rfl rfl rfl (q_move rfl) ?_
          refine W_q rfl rfl rfl rfl (by first | exact q_load tb rfl rfl bxo rfl | exact q_loadE tb rfl rfl (by first | exact gvo | exact gvd gvo (by omega)) (by omega) (by simp) rfl) ?_
          refine W_q rfl rfl rfl rfl (q_move rfl) ?_
          refine W_q rfl rfl rfl rfl (by first | exact q_index tb rfl rfl rfl rfl (by first | exact gvo | exact gvd gvo (by omega)) (by omega) (by first | omega | (simp; done) | (simp; omega)) | exact q_indexP tb rfl rfl rfl rfl (by omega) (by omega)) ?_
          refine W_q rfl rfl rfl rfl (by first | exact q_load tb rfl rfl bxo rfl | exact q_loadE tb rfl rfl (by first | exact gvo | exact gvd gvo (by omega)) (i := i) (o := 0) (by omega) helm rfl) ?_
          refine W_q rfl rfl rfl rfl (by first | exact q_load tb rfl rfl bxo rfl | exact q_loadE tb rfl rfl (by first | exact gvo | exact gvd gvo (by omega)) (by omega) (by simp) rfl) ?_
          refine W_q rfl rfl rfl rfl (q_move rfl) ?_
          refine W_q rfl rfl rfl rfl (by first | exact q_index tb rfl rfl rfl rfl (by first | exact gvo | exact gvd gvo (by omega)) (by omega) (by first | omega | (simp; done) | (simp; omega)) | exact q_indexP tb rfl rfl rfl rfl (by omega) (by omega)) ?_
          refine W_q rfl rfl rfl rfl (by first | exact q_loadA tb rfl rfl bxo rfl rfl | exact q_loadEA tb rfl rfl (by first | exact gvo | exact gvd gvo (by omega)) (i := i) (o := 0) (by omega) hela rfl rfl) ?_
          refine W_q rfl rfl rfl rfl (by first | exact q_field tb rfl rfl rfl | exact q_fieldE tb rfl rfl rfl (by first | exact gvo | exact gvd gvo (by omega)) (by first | omega | (simp; done) | (simp; omega))) ?_
          refine W_q rfl rfl rfl rfl (by first | exact q_load tb rfl rfl bxo rfl | exact q_loadE tb rfl rfl (by first | exact gvo | exact gvd gvo (by omega)) (by omega) (by simp) rfl) ?_
          refine W_q rfl rfl rfl rfl (q_move rfl) ?_
          refine W_q rfl rfl rfl rfl (by first | exact q_index tb rfl rfl rfl rfl (by first | exact gvo | exact gvd gvo (by omega)) (by omega) (by first | omega | (simp; done) | (simp; omega)) | exact q_indexP tb rfl rfl rfl rfl (by omega) (by omega)) ?_
          refine W_q rfl rfl rfl rfl (by first | exact q_loadA tb rfl rfl bxo rfl rfl | exact q_loadEA tb rfl rfl (by first | exact gvo | exact gvd gvo (by omega)) (i := i) (o := 0) (by omega) helb rfl rfl) ?_
          refine W_call tb rfl rfl rfl rfl (ct_tissue_peak a b9 hai hbi) no_ps rfl ?_
          refine W_q rfl rfl rfl rfl (q_max rfl rfl) ?_
          refine W_q rfl rfl rfl rfl (by first | exact q_index tb rfl rfl rfl rfl (by first | exact gvo | exact gvd gvo (by omega)) (by omega) (by first | omega | (simp; done) | (simp; omega)) | exact q_indexP tb rfl rfl rfl rfl (by omega) (by omega)) ?_
          refine W_nil ?_
          first | refine L_storeEl tb rfl rfl rfl rfl rfl rfl (i := i) (by omega) (by simp) ?_ | (refine L_front1 ?_; refine L_storeEl tb rfl rfl rfl rfl rfl rfl (i := i) (by omega) (by simp) ?_) | (refine L_front2 ?_; refine L_storeEl tb rfl rfl rfl rfl rfl rfl (i := i) (by omega) (by simp) ?_) | (refine L_front3 ?_; refine L_storeEl tb rfl rfl rfl rfl rfl rfl (i := i) (by omega) (by simp) ?_) | (refine L_front4 ?_; refine L_storeEl tb rfl rfl rfl rfl rfl rfl (i := i) (by omega) (by simp) ?_) | (refine L_front5 ?_; refine L_storeEl tb rfl rfl rfl rfl rfl rfl (i := i) (by omega) (by simp) ?_) | (refine L_front6 ?_; refine L_storeEl tb rfl rfl rfl rfl rfl rfl (i := i) (by omega) (by simp) ?_)
          refine L_blk ?_
          refine C_region ?_
          refine L_q rfl rfl rfl (q_add rfl rfl (by first | exact IntWalk.i64_in _ (by omega) | rfl)) ?_
          refine L_q rfl rfl rfl (q_move rfl) ?_
          refine L_end ?_
          exact fun ac_ wo_ hs_ => ⟨i + 1, (by dsimp only; omega), (by dsimp only; omega), hs_.weak ⟨rfl, rfl, rfl, rfl, rfl, rfl, trivial⟩ (fun h => h.pk (by repeat (first | with_reducible exact pk_nil | refine pk_box (by first | rfl | exact e6) ?_ | refine pk_rd rfl ?_ | refine pk_sl (by first | rfl | exact e6) ?_ | with_reducible refine pk_app ?_ | with_reducible refine pk_app0 ?_ | with_reducible exact pk_tl | refine pk_var ?_)))⟩
        · -- t35 False
          have e6 : (mixL (peaksK f ts ls x n (k + 1)) (peaksK f ts ls x n k) i) = peaksK f ts ls x n (k + 1) := mix_end (by rw [peaksK_len hlen]; omega) (by rw [peaksK_len hlen]; omega)
          refine C_exit ?_
          change C Try.prog _ _ _ _ _ _ _
          refine C_region ?_
          refine L_q rfl rfl rfl (by first | exact q_field tb rfl rfl rfl | exact q_fieldE tb rfl rfl rfl (by first | exact gvo | exact gvd gvo (by omega)) (by first | omega | (simp; done) | (simp; omega))) ?_
          refine L_q rfl rfl rfl (by first | exact q_load tb rfl rfl bxo rfl | exact q_loadE tb rfl rfl (by first | exact gvo | exact gvd gvo (by omega)) (by omega) (by simp) rfl) ?_
          first | refine L_store tb rfl rfl rfl rfl rfl rfl rfl rfl ?_ | (refine L_front1 ?_; refine L_store tb rfl rfl rfl rfl rfl rfl rfl rfl ?_) | (refine L_front2 ?_; refine L_store tb rfl rfl rfl rfl rfl rfl rfl rfl ?_) | (refine L_front3 ?_; refine L_store tb rfl rfl rfl rfl rfl rfl rfl rfl ?_) | (refine L_front4 ?_; refine L_store tb rfl rfl rfl rfl rfl rfl rfl rfl ?_) | (refine L_front5 ?_; refine L_store tb rfl rfl rfl rfl rfl rfl rfl rfl ?_) | (refine L_front6 ?_; refine L_store tb rfl rfl rfl rfl rfl rfl rfl rfl ?_)
          refine L_end ?_
          subst hLP
          have e7 : (mixL (peaksK f ts ls x n (k + 1)) (peaksK f ts ls x n k) i).map cI = (peaksK f ts ls x n (k + 1)).map cI := congrArg _ e6
          refine endR (fun w_ h_ => h_.pk (by repeat (first | with_reducible exact pk_nil | refine pk_box (by first | rfl | exact e7) ?_ | refine pk_rd rfl ?_ | refine pk_sl (by first | rfl | exact e7) ?_ | with_reducible refine pk_app ?_ | with_reducible refine pk_app0 ?_ | with_reducible exact pk_tl | refine pk_var ?_)))
      · -- behind
        rintro D rs_ ⟨y, rfl⟩
        refine blk_end ?_
        refine C_seq ?_
        refine C_region ?_
        refine L_q rfl rfl rfl (by first | exact q_load tb rfl rfl bxo rfl | exact q_loadE tb rfl rfl (by first | exact gvo | exact gvd gvo (by omega)) (by omega) (by simp) rfl) ?_
        refine L_q rfl rfl rfl (q_assign rfl) ?_
        refine L_q rfl rfl rfl (q_assign rfl) ?_
        refine L_then ?_
        refine C_ret ?_
        have e9 : peaksK f ts ls x n (rmk x n) = peaksT ts ls x f := by unfold peaksT; rw [← hn]; rfl
        rw [peaksE_2 (Decidable.not_not.1 h1), ← e9]
        exact ret_ofM (rs' := [sl v20 3 1 ((peaksK f ts ls x n (rmk x n)).map cI)]) (res2M rfl rfl rfl) (fun w_ h_ => h_.pk (by repeat (first | with_reducible exact pk_nil | refine pk_box rfl ?_ | refine pk_rd rfl ?_ | refine pk_sl rfl ?_ | with_reducible refine pk_app ?_ | with_reducible refine pk_app0 ?_ | with_reducible exact pk_tl | refine pk_var ?_))) own1 ⟨_, rfl, rfl⟩
end Go.Proofs.Ytfhfadfnbnliiaa
