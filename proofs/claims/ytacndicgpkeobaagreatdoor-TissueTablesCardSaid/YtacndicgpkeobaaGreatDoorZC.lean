/-
  Walks: each function named returns what its model says. Conditions: those in front of each theorem.
-/
import Derived.Test.YtacndicgpkeobaaGreatDoorZB
import Derived.Test.YtacndicgpkeobaaGreatDoorB
namespace Go.Proofs.YtacndicgpkeobaaGreatDoor
open Go.RowKit

set_option maxRecDepth 100000 in
set_option maxHeartbeats 4000000 in
theorem ct_tissue_Parse (t : Tx) (hl : t.length ≤ 1000000) : CtQ KQ Tryz.prog 24 [.string (bs t)] [] (PcP 120 (pacA t)) := by
 refine CtQ.ofM (N := 36) Tryz.func24 rfl rfl rfl fun w hQ => ?_
 refine C_weak (E' := [(0, .string (bs t))]) (rs' := []) ⟨rfl, trivial⟩ (fun _ h => h) ?_
 have hln := lnsF_len t
 refine C_seq ?_
 refine C_region ?_
 refine L_alloc tb rfl rfl fun g2 => ?_
 refine L_alloc tb rfl rfl fun g3 => ?_
 refine L_alloc tb rfl rfl fun g4 => ?_
 refine L_then ?_
 refine C_seq ?_
 refine C_seq ?_
 refine C_region ?_
 refine Jq (q_move rfl) ?_
 refine Jq (t_len Tryz.underlying9 rfl) ?_
 refine Jq (q_gtr rfl rfl) ?_
 refine L_then ?_
 refine C_dec rfl (fun h1 => ?_) (fun h1 => ?_)
 refine C_seq ?_
 refine C_region ?_
 refine L_st tb rfl rfl ?_
 refine L_st tb rfl rfl ?_
 refine L_st tb rfl rfl ?_
 refine L_then ?_
 refine C_ret ?_
 rw [pacA_8 (show t.length > 60000 by omega)]
 exact ret_of0M (rs' := [sl nilC 120 4 []]) (resCCC tb rfl rfl rfl rfl rfl rfl rfl bxo bxo bxo) (fun w_ h_ => ws_nil (sub_nil w_ h_)) own1 ⟨none, 0, 0, rfl, rfl⟩
 refine C_skip_then ?_
 refine C_seq ?_
 refine C_region ?_
 refine L_alloc tb rfl rfl fun g5 => ?_
 refine L_then ?_
 refine C_seq ?_
 refine C_seq ?_
 refine C_region ?_
 refine Jq (q_move rfl) ?_
 refine L_lo rfl rfl rfl (lo_call tb rfl rfl (ct_strings_Lines t) no_ps (by rintro y rs ⟨g, _, rfl⟩ r hr; rw [List.mem_singleton.1 hr]; exact box_sinks _ _ _)) ?_
 rintro _ _ ⟨g14, rfl, rfl⟩
 refine L_then ?_
 refine C_block ?_
 refine C_nil 120 4 ?_
 refine C_range2 (FinL (PCtB 120 3 34 22 (lnsF t) g2 g3 g4 g5) (PCpB 22 3 34 (lnsF t) g2 g3 g4) (goC (lnsF t)) (lnsF t).length) rfl (tb.en_ok _ (lkT_mem (rfl : lkT tb.en 138 = some ()))) (fun l D fn tm hts hE => ?_) ?_ ?_
 refine it_linesR _ _ l D _ (PCtB 120 3 34 22 (lnsF t) g2 g3 g4 g5) (PCpB 22 3 34 (lnsF t) g2 g3 g4) (goC (lnsF t)) t g14 hl rfl ?hR [box g5 22 [nilC], sl nilC 120 4 [], box g2 22 [nilC], box g3 3 [.int .i64 0], box g4 34 [.int .i64 0]] ⟨[], none, 0, rfl, rfl, rfl⟩ _ (fun w_ h_ => h_.pk (by repeat (first | with_reducible exact pk_nil | refine pk_box rfl ?_ | refine pk_rd rfl ?_ | refine pk_sl rfl ?_ | with_reducible refine pk_app ?_ | with_reducible refine pk_app0 ?_ | with_reducible refine pk_app0L ?_ | with_reducible exact pk_tl | refine pk_var ?_)))
 intro τ p hp hgo
 rintro _ ⟨L, A9, c9, hL, hG, rfl⟩
 have hτ := (List.getElem?_eq_some_iff.1 hp).1
 have hl4 := len_map cCp L
 refine Rnd3.of hts rfl hE (fun own => ?_)
 dsimp only [List.nil_append, List.cons_append]
 refine C_region ?_
 refine Jq (q_assign rfl) ?_
 refine L_end ?_
 refine beginRh fun LP hLP => ?_
 refine C_block ?_
 refine C_seq ?_
 refine C_region ?_
 refine Jq (q_move rfl) ?_
 refine L_lo rfl rfl rfl (lo_callQ tb stQ hQ rfl rfl (ct_tissue_compartment p (by have := lnsF_le hp; omega)) no_ps RcP_sinks) ?_
 rintro _ _ ⟨z18, rfl, hz18, rfl⟩
 refine Jq (q_move rfl) ?_
 refine Jq (q_ext0 rfl) ?_
 refine Jq (q_ext1 rfl) ?_
 refine L_alloc tb rfl rfl fun g7 => ?_
 refine L_st tb rfl rfl ?_
 refine Jq (q_assign rfl) ?_
 refine L_then ?_
 refine C_seq ?_
 refine C_seq ?_
 refine C_region ?_
 refine Jq (q_move rfl) ?_
 refine Jq (q_not rfl (by first | exact (rfl : (!true) = false) | exact (rfl : (!false) = true) | exact decide_not.symm | rfl)) ?_
 refine L_then ?_
 refine C_bool rfl (fun h25 => ?_) (fun h25 => ?_)
 have hb : goC (lnsF t) τ = false := (goC_at hp).trans (by simpa using h25)
 refine C_seq ?_
 refine C_res (rs' := (box g2 22 [nilC] :: box g3 3 [.int .i64 0] :: box g4 34 [.int .i64 0] :: box g5 22 [(.slice A9 (L.map cCp).length c9)] :: sl (.slice A9 (L.map cCp).length c9) 120 4 (L.map cCp) :: LP :: own)) (fun _ h => h.pk (by repeat (first | with_reducible exact pk_nil | refine pk_box rfl ?_ | refine pk_rd rfl ?_ | refine pk_sl rfl ?_ | with_reducible refine pk_app ?_ | with_reducible refine pk_app0 ?_ | with_reducible refine pk_app0L ?_ | with_reducible exact pk_tl | refine pk_var ?_))) ?_
 refine Kp.C_own3 [.q 0, .q 1, .q 2, .s 3, .s 4, .s 5] mixed (by kernel_rfl) rfl (by kernel_rfl) ?_
 refine Kp.X_q rfl rfl rfl rfl (q_load tb rfl rfl bxo rfl) ?_
 refine Kp.X_q rfl rfl rfl rfl (q_len tb rfl rfl gvo) ?_
 refine Kp.X_q rfl rfl rfl rfl (q_add (e := (τ : Int) + 1) rfl rfl (wr (by omega) (by omega))) ?_
 first | refine Kp.X_store tb rfl rfl (List.Perm.refl _) rfl rfl rfl rfl rfl rfl rfl rfl ?_ | refine Kp.X_store tb rfl rfl perm1 rfl rfl rfl rfl rfl rfl rfl rfl ?_ | refine Kp.X_store tb rfl rfl (perm_front (pre := [_, _])) rfl rfl rfl rfl rfl rfl rfl rfl ?_ | refine Kp.X_store tb rfl rfl (perm_front (pre := [_, _, _])) rfl rfl rfl rfl rfl rfl rfl rfl ?_
 first | refine Kp.X_store tb rfl rfl (List.Perm.refl _) rfl rfl rfl rfl rfl rfl rfl rfl ?_ | refine Kp.X_store tb rfl rfl perm1 rfl rfl rfl rfl rfl rfl rfl rfl ?_ | refine Kp.X_store tb rfl rfl (perm_front (pre := [_, _])) rfl rfl rfl rfl rfl rfl rfl rfl ?_ | refine Kp.X_store tb rfl rfl (perm_front (pre := [_, _, _])) rfl rfl rfl rfl rfl rfl rfl rfl ?_
 first | refine Kp.X_store tb rfl rfl (List.Perm.refl _) rfl rfl rfl rfl rfl rfl rfl rfl ?_ | refine Kp.X_store tb rfl rfl perm1 rfl rfl rfl rfl rfl rfl rfl rfl ?_ | refine Kp.X_store tb rfl rfl (perm_front (pre := [_, _])) rfl rfl rfl rfl rfl rfl rfl rfl ?_ | refine Kp.X_store tb rfl rfl (perm_front (pre := [_, _, _])) rfl rfl rfl rfl rfl rfl rfl rfl ?_
 refine Kp.X_nil ?_
 try dsimp only [List.cons_append, List.nil_append]
 refine L_then ?_
 refine C_ret ?_
 subst hLP
 exact stopR3 hb [box g2 22 [nilC], box g3 3 [.int .i64 ((τ : Int) + 1)], box g4 34 [.int .i64 7]] (by rw [if_neg (by rw [hb]; decide)]; exact ⟨hG.trans (by rw [lnc_get hp]; exact pacG_e ((goC_at hp).symm.trans hb)), rfl⟩) (fun w_ h_ => h_.pk (by repeat (first | with_reducible exact pk_nil | refine pk_box rfl ?_ | refine pk_rd rfl ?_ | refine pk_sl rfl ?_ | with_reducible refine pk_app ?_ | with_reducible refine pk_app0 ?_ | with_reducible refine pk_app0L ?_ | with_reducible exact pk_tl | refine pk_var ?_)))
 have hb : goC (lnsF t) τ = true := (goC_at hp).trans (by simpa using h25)
 have hz := isSome_eq3 (goC_at hp).symm hb hz18
 refine C_skip_then ?_
 refine C_res (rs' := (sl (.slice A9 (L.map cCp).length c9) 120 4 (L.map cCp) :: box g5 22 [(.slice A9 (L.map cCp).length c9)] :: box g7 120 (cCp z18) :: LP :: box g2 22 [nilC] :: box g3 3 [.int .i64 0] :: box g4 34 [.int .i64 0] :: own)) (fun _ h => h.pk (by repeat (first | with_reducible exact pk_nil | refine pk_box rfl ?_ | refine pk_rd rfl ?_ | refine pk_sl rfl ?_ | with_reducible refine pk_app ?_ | with_reducible refine pk_app0 ?_ | with_reducible refine pk_app0L ?_ | with_reducible exact pk_tl | refine pk_var ?_))) ?_
 refine C_region ?_
 refine Jq (q_load tb rfl rfl bxo rfl) ?_
 refine Jq (q_loadA tb rfl rfl bxo rfl rfl) ?_
 refine L_mk (lo_bslice tb rfl rfl rfl (xs := [cCp z18]) rfl rfl (by simp [cCp]) rfl (by omega) rfl) rfl rfl rfl fun v28 => ?_
 refine L_ap tb rfl rfl rfl rfl gvo (by simp [Value.oneCell', cCp]) (by simp [maxLen]; omega) (by simp; omega) fun v29 => ?_
 rw [cp_snoc]
 refine L_form (v := v29) gvo (fun A29 c29 hv29 _ => ?_)
 subst hv29
 refine L_st tb rfl rfl ?_
 refine L_end ?_
 subst hLP
 exact endR3 hb [box g5 22 [(.slice A29 ((L ++ [z18]).map cCp).length c29)], sl (.slice A29 ((L ++ [z18]).map cCp).length c29) 120 4 ((L ++ [z18]).map cCp), box g2 22 [nilC], box g3 3 [.int .i64 0], box g4 34 [.int .i64 0]] (by rw [if_pos hb]; exact ⟨L ++ [z18], _, _, by rw [List.length_append, hL]; rfl, hG.trans (by rw [lnc_get hp, pacG_s hz]; rfl), rfl⟩) (fun w_ h_ => h_.pk (by repeat (first | with_reducible exact pk_nil | refine pk_box rfl ?_ | refine pk_rd rfl ?_ | refine pk_sl rfl ?_ | with_reducible refine pk_app ?_ | with_reducible refine pk_app0 ?_ | with_reducible refine pk_app0L ?_ | with_reducible exact pk_tl | refine pk_var ?_)))
 intro D rs_ hF
 obtain ⟨hgo9, L, A9, c9, hL, hG, rfl⟩ := FinL_true hF
 rw [List.drop_length, pacG] at hG
 have hl4 := len_map cCp L
 dsimp only
 refine blk_end ?_
 refine C_seq ?_
 refine C_seq ?_
 refine C_region ?_
 refine Jq (q_load tb rfl rfl bxo rfl) ?_
 refine L_call tb rfl rfl (ct_tissue_CheckTable _ L (by omega)) (ps_cons gvo no_ps) rfl ?_
 refine Jq (q_assign rfl) ?_
 refine L_then ?_
 refine C_seq ?_
 refine C_region ?_
 refine Jq (q_move rfl) ?_
 refine Jq (q_neq rfl rfl) ?_
 refine L_then ?_
 refine C_dec rfl (fun h46 => ?_) (fun h46 => ?_)
 refine C_seq ?_
 refine C_region ?_
 refine Jq (q_move rfl) ?_
 refine L_st tb rfl rfl ?_
 refine L_st tb rfl rfl ?_
 refine L_st tb rfl rfl ?_
 refine L_then ?_
 refine C_ret ?_
 rw [pacA_c (show ¬ t.length > 60000 by omega) hG, if_pos h46]
 exact ret_ofMC (rs1 := [box g2 22 [nilC], box g3 3 [.int .i64 0], box g4 34 [.int .i64 (ckTab L)]]) (rs' := [sl nilC 120 4 []]) (fun w_ h_ => h_.pk (by repeat (first | with_reducible exact pk_nil | refine pk_box rfl ?_ | refine pk_rd rfl ?_ | refine pk_sl rfl ?_ | with_reducible refine pk_app ?_ | with_reducible refine pk_app0 ?_ | with_reducible refine pk_app0L ?_ | with_reducible exact pk_tl | refine pk_var ?_))) (resCCC tb rfl rfl rfl rfl rfl rfl rfl bxo bxo bxo) (fun w_ h_ => ws_nil (sub_nil w_ h_)) own1 ⟨none, 0, 0, rfl, rfl⟩
 refine C_skip_then ?_
 refine C_seq ?_
 refine C_region ?_
 refine Jq (q_load tb rfl rfl bxo rfl) ?_
 refine L_st tb rfl rfl ?_
 refine L_st tb rfl rfl ?_
 refine L_st tb rfl rfl ?_
 refine L_then ?_
 refine C_ret ?_
 rw [pacA_c (show ¬ t.length > 60000 by omega) hG, if_neg h46]
 exact ret_ofMC (rs1 := [box g2 22 [(.slice A9 (L.map cCp).length c9)], box g3 3 [.int .i64 0], box g4 34 [.int .i64 0], sl (.slice A9 (L.map cCp).length c9) 120 4 (L.map cCp)]) (rs' := [sl (.slice A9 (L.map cCp).length c9) 120 4 (L.map cCp)]) (fun w_ h_ => h_.pk (by repeat (first | with_reducible exact pk_nil | refine pk_box rfl ?_ | refine pk_rd rfl ?_ | refine pk_sl rfl ?_ | with_reducible refine pk_app ?_ | with_reducible refine pk_app0 ?_ | with_reducible refine pk_app0L ?_ | with_reducible exact pk_tl | refine pk_var ?_))) (resCCC tb rfl rfl rfl rfl rfl rfl rfl bxo bxo bxo) (fun w_ h_ => h_.pk (by repeat (first | with_reducible exact pk_nil | refine pk_box rfl ?_ | refine pk_rd rfl ?_ | refine pk_sl rfl ?_ | with_reducible refine pk_app ?_ | with_reducible refine pk_app0 ?_ | with_reducible refine pk_app0L ?_ | with_reducible exact pk_tl | refine pk_var ?_))) own1 ⟨_, _, _, rfl, rfl⟩
 intro D rs_ hF
 obtain ⟨σ, hσ, hs, hbf, hG, rfl⟩ := FinL_false hF
 rw [pacA_7 (show ¬ t.length > 60000 by omega) hG]
 exact ret_ofMC (rs1 := [box g2 22 [nilC], box g3 3 [.int .i64 ((σ : Int) + 1)], box g4 34 [.int .i64 7]]) (rs' := [sl nilC 120 4 []]) (fun w_ h_ => h_.pk (by repeat (first | with_reducible exact pk_nil | refine pk_box rfl ?_ | refine pk_rd rfl ?_ | refine pk_sl rfl ?_ | with_reducible refine pk_app ?_ | with_reducible refine pk_app0 ?_ | with_reducible refine pk_app0L ?_ | with_reducible exact pk_tl | refine pk_var ?_))) (resCCC tb rfl rfl rfl rfl rfl rfl rfl bxo bxo bxo) (fun w_ h_ => ws_nil (sub_nil w_ h_)) own1 ⟨none, 0, 0, rfl, rfl⟩
end Go.Proofs.YtacndicgpkeobaaGreatDoor
