/-
  Walks: each function named returns what its model says. Conditions: those in front of each theorem.
-/
import Derived.Test.YtacndicgpkeobaaGreatDoorTC
import Derived.Test.YtacndicgpkeobaaGreatDoorAE
import Derived.Test.YtacndicgpkeobaaGreatDoorShTreeH
namespace Go.Proofs.YtacndicgpkeobaaGreatDoor
open Go.RowKit

set_option maxRecDepth 100000 in
set_option maxHeartbeats 4000000 in
theorem ct_ascent_Parse (t : Tx) (hl : t.length ≤ 1000000) : CtQ KQ Tryz.prog 39 [.string (bs t)] [] (PsP 117 3 (parA t)) := by
 refine CtQ.ofM (N := 50) Tryz.func39 rfl rfl rfl fun w hQ => ?_
 refine C_weak (E' := [(0, .string (bs t))]) (rs' := []) ⟨rfl, trivial⟩ (fun _ h => h) ?_
 have hln := lnsF_len t
 refine C_seq ?_
 refine C_region ?_
 refine L_alloc tb rfl rfl fun g2 => ?_
 refine L_alloc tb rfl rfl fun g3 => ?_
 refine L_alloc tb rfl rfl fun g4 => ?_
 refine L_then ?_
 refine C_seq ?_
 refine C_seq ?_
 refine C_region ?_
 refine Jq (q_move rfl) ?_
 refine Jq (t_len Tryz.underlying9 rfl) ?_
 refine Jq (q_gtr rfl rfl) ?_
 refine L_then ?_
 refine C_dec rfl (fun h1 => ?_) (fun h1 => ?_)
 refine C_seq ?_
 refine C_region ?_
 refine Jq (by first | exact q_build tb rfl rfl rfl rfl | exact q_buildArr tb rfl rfl rfl rfl rfl) ?_
 refine L_st tb rfl rfl ?_
 refine L_st tb rfl rfl ?_
 refine L_st tb rfl rfl ?_
 refine L_then ?_
 refine C_ret ?_
 rw [parA_8 (show t.length > 60000 by omega)]
 exact ret_of0M (rs' := [sl nilS 117 3 [], sl nilS 3 1 []]) (resACC tb rfl rfl rfl rfl rfl rfl rfl bxo bxo bxo rfl) (fun w_ h_ => ws_nil (ws_nil (sub_nil w_ h_))) own2 ⟨none, none, 0, 0, 0, 0, rfl, rfl⟩
 refine C_skip_then ?_
 refine C_seq ?_
 refine C_region ?_
 refine L_alloc tb rfl rfl fun g5 => ?_
 refine L_then ?_
 refine C_seq ?_
 refine C_seq ?_
 refine C_region ?_
 refine Jq (q_move rfl) ?_
 refine L_lo rfl rfl rfl (lo_call tb rfl rfl (ct_strings_Lines t) no_ps (by rintro y rs ⟨g, _, rfl⟩ r hr; rw [List.mem_singleton.1 hr]; exact box_sinks _ _ _)) ?_
 rintro _ _ ⟨g16, rfl, rfl⟩
 refine L_then ?_
 refine C_block ?_
 refine C_nil 3 1 ?_
 refine C_nil 117 3 ?_
 refine C_range2 (FinL (PStB 80 3 34 117 (lnsF t) g2 g3 g4 g5) (PSpB 80 3 34 (lnsF t) g2 g3 g4) (goR (lnsF t)) (lnsF t).length) rfl (tb.en_ok _ (lkT_mem (rfl : lkT tb.en 138 = some ()))) (fun l D fn tm hts hE => ?_) ?_ ?_
 refine it_linesR _ _ l D _ (PStB 80 3 34 117 (lnsF t) g2 g3 g4 g5) (PSpB 80 3 34 (lnsF t) g2 g3 g4) (goR (lnsF t)) t g16 hl rfl ?hR [box g5 80 [nilS, nilS], sl nilS 117 3 [], sl nilS 3 1 [], box g2 80 [nilS, nilS], box g3 3 [.int .i64 0], box g4 34 [.int .i64 0]] ⟨[], [], none, none, 0, 0, rfl, rfl, rfl, rfl⟩ _ (fun w_ h_ => h_.pk (by repeat (first | with_reducible exact pk_nil | refine pk_box rfl ?_ | refine pk_rd rfl ?_ | refine pk_sl rfl ?_ | with_reducible refine pk_app ?_ | with_reducible refine pk_app0 ?_ | with_reducible refine pk_app0L ?_ | with_reducible exact pk_tl | refine pk_var ?_)))
 intro τ p hp hgo
 rintro _ ⟨L, F, A9, B9, c9, d9, hL, hF, hG, rfl⟩
 have hτ := (List.getElem?_eq_some_iff.1 hp).1
 refine Rnd3.of hts rfl hE (fun own => ?_)
 dsimp only [List.nil_append, List.cons_append]
 refine C_region ?_
 refine Jq (q_assign rfl) ?_
 refine L_end ?_
 refine beginRh fun LP hLP => ?_
 refine C_block ?_
 refine C_seq ?_
 refine C_region ?_
 refine Jq (q_move rfl) ?_
 refine L_lo rfl rfl rfl (lo_callQ tb stQ hQ rfl rfl (ct_ascent_read p (by have := lnsF_le hp; omega)) no_ps RdP_sinks) ?_
 rintro _ _ ⟨z20, f20, rfl, hz20, rfl⟩
 refine Jq (q_move rfl) ?_
 refine Jq (q_ext0 rfl) ?_
 refine Jq (q_ext1 rfl) ?_
 refine Jq (q_ext2 rfl) ?_
 refine L_alloc tb rfl rfl fun g7 => ?_
 refine L_st tb rfl rfl ?_
 refine Jq (q_assign rfl) ?_
 refine Jq (q_assign rfl) ?_
 refine L_then ?_
 refine C_seq ?_
 refine C_seq ?_
 refine C_region ?_
 refine Jq (q_move rfl) ?_
 refine Jq (q_not rfl (by first | exact (rfl : (!true) = false) | exact (rfl : (!false) = true) | exact decide_not.symm | rfl)) ?_
 refine L_then ?_
 refine C_bool rfl (fun h25 => ?_) (fun h25 => ?_)
 have hb : goR (lnsF t) τ = false := (goR_at hp).trans (by simpa using h25)
 have hl4 := len_map cDl L
 refine C_seq ?_
 refine C_res (rs' := (box g2 80 [nilS, nilS] :: box g3 3 [.int .i64 0] :: box g4 34 [.int .i64 0] :: box g5 80 [(.slice A9 (L.map cDl).length c9), (.slice B9 (F.map cI).length d9)] :: sl (.slice A9 (L.map cDl).length c9) 117 3 (L.map cDl) :: sl (.slice B9 (F.map cI).length d9) 3 1 (F.map cI) :: LP :: own)) (fun _ h => h.pk (by repeat (first | with_reducible exact pk_nil | refine pk_box rfl ?_ | refine pk_rd rfl ?_ | refine pk_sl rfl ?_ | with_reducible refine pk_app ?_ | with_reducible refine pk_app0 ?_ | with_reducible refine pk_app0L ?_ | with_reducible exact pk_tl | refine pk_var ?_))) ?_
 refine Kp.C_own3 [.q 0, .q 1, .q 2, .q 3, .q 4, .s 5, .s 6, .s 7] mixed (by kernel_rfl) rfl (by kernel_rfl) ?_
 refine Kp.X_q rfl rfl rfl rfl (by first | exact q_build tb rfl rfl rfl rfl | exact q_buildArr tb rfl rfl rfl rfl rfl) ?_
 refine Kp.X_q rfl rfl rfl rfl (q_field tb rfl rfl rfl) ?_
 refine Kp.X_q rfl rfl rfl rfl (q_load tb rfl rfl bxo rfl) ?_
 refine Kp.X_q rfl rfl rfl rfl (q_len tb rfl rfl gvo) ?_
 refine Kp.X_q rfl rfl rfl rfl (q_add (e := (τ : Int) + 1) rfl rfl (wr (by omega) (by omega))) ?_
 first | refine Kp.X_store tb rfl rfl (List.Perm.refl _) rfl rfl rfl rfl rfl rfl rfl rfl ?_ | refine Kp.X_store tb rfl rfl perm1 rfl rfl rfl rfl rfl rfl rfl rfl ?_ | refine Kp.X_store tb rfl rfl (perm_front (pre := [_, _])) rfl rfl rfl rfl rfl rfl rfl rfl ?_ | refine Kp.X_store tb rfl rfl (perm_front (pre := [_, _, _])) rfl rfl rfl rfl rfl rfl rfl rfl ?_
 first | refine Kp.X_store tb rfl rfl (List.Perm.refl _) rfl rfl rfl rfl rfl rfl rfl rfl ?_ | refine Kp.X_store tb rfl rfl perm1 rfl rfl rfl rfl rfl rfl rfl rfl ?_ | refine Kp.X_store tb rfl rfl (perm_front (pre := [_, _])) rfl rfl rfl rfl rfl rfl rfl rfl ?_ | refine Kp.X_store tb rfl rfl (perm_front (pre := [_, _, _])) rfl rfl rfl rfl rfl rfl rfl rfl ?_
 first | refine Kp.X_store tb rfl rfl (List.Perm.refl _) rfl rfl rfl rfl rfl rfl rfl rfl ?_ | refine Kp.X_store tb rfl rfl perm1 rfl rfl rfl rfl rfl rfl rfl rfl ?_ | refine Kp.X_store tb rfl rfl (perm_front (pre := [_, _])) rfl rfl rfl rfl rfl rfl rfl rfl ?_ | refine Kp.X_store tb rfl rfl (perm_front (pre := [_, _, _])) rfl rfl rfl rfl rfl rfl rfl rfl ?_
 refine Kp.X_nil ?_
 try dsimp only [List.cons_append, List.nil_append]
 refine L_then ?_
 refine C_ret ?_
 subst hLP
 exact stopR3 hb [box g2 80 [nilS, nilS], box g3 3 [.int .i64 ((τ : Int) + 1)], box g4 34 [.int .i64 7]] (by rw [if_neg (by rw [hb]; decide)]; exact ⟨hG.trans (by rw [ln_drop hp]; exact parG_e ((goR_at hp).symm.trans hb)), rfl⟩) (fun w_ h_ => h_.pk (by repeat (first | with_reducible exact pk_nil | refine pk_box rfl ?_ | refine pk_rd rfl ?_ | refine pk_sl rfl ?_ | with_reducible refine pk_app ?_ | with_reducible refine pk_app0 ?_ | with_reducible refine pk_app0L ?_ | with_reducible exact pk_tl | refine pk_var ?_)))
 have hb : goR (lnsF t) τ = true := (goR_at hp).trans (by simpa using h25)
 have hz := isSome_eq (goR_at hp).symm hb hz20
 have hl4 := len_map cDl L; have hl5 := len_map cI F
 refine C_skip_then ?_
 refine C_res (rs' := (sl (.slice A9 (L.map cDl).length c9) 117 3 (L.map cDl) :: sl (.slice B9 (F.map cI).length d9) 3 1 (F.map cI) :: box g5 80 [(.slice A9 (L.map cDl).length c9), (.slice B9 (F.map cI).length d9)] :: box g7 117 (cDl z20) :: LP :: box g2 80 [nilS, nilS] :: box g3 3 [.int .i64 0] :: box g4 34 [.int .i64 0] :: own)) (fun _ h => h.pk (by repeat (first | with_reducible exact pk_nil | refine pk_box rfl ?_ | refine pk_rd rfl ?_ | refine pk_sl rfl ?_ | with_reducible refine pk_app ?_ | with_reducible refine pk_app0 ?_ | with_reducible refine pk_app0L ?_ | with_reducible exact pk_tl | refine pk_var ?_))) ?_
 refine Kp.C_treeH2 (n := 11) (ι := Value × Value) (.q 0 (.q 1 (.q 2 (.q 5 (.q 6 (.q 7 (.s2 3 8 (.s2 4 8 (.q 10 (.s 8 (.s 9 .nil))) (.s 4 (.q 10 (.s 9 .nil)))) (.s 3 (.s 4 (.q 10 (.s 9 .nil))))))))))) (fun q => ([(5, .pointer (some ⟨g5, 0, none⟩)), (35, q.1), (40, q.2), (41, .pointer (some ⟨g5, 0, none⟩))], (box g5 80 [(.slice A9 (L.map cDl).length c9), (.slice B9 (F.map cI).length d9)] :: sl q.1 117 3 ((L ++ [z20]).map cDl) :: sl q.2 3 1 ((F ++ [f20]).map cI) :: LP :: box g2 80 [nilS, nilS] :: box g3 3 [.int .i64 0] :: box g4 34 [.int .i64 0] :: own))) mixed (by kernel_rfl) ?_ ?_
 refine Kp.Zq rfl (q_field tb rfl rfl rfl) ?_
 refine Kp.Zq rfl (q_load tb rfl rfl bxo rfl) ?_
 refine Kp.Zq rfl (q_loadA tb rfl rfl bxo rfl rfl) ?_
 refine Kp.Zq rfl (q_field tb rfl rfl rfl) ?_
 refine Kp.Zq rfl (q_load tb rfl rfl bxo rfl) ?_
 refine Kp.Zq rfl (q_move rfl) ?_
 refine Kp.Z_s2 ?_ ?_
 refine Kp.St_mk rfl rfl rfl rfl (lo_bslice tb rfl rfl rfl (xs := [cDl z20]) rfl rfl (by simp [cDl]) rfl (by omega) rfl) fun v34 => ?_
 refine Kp.Z_s2 ?_ ?_
 first | refine Kp.St_append tb rfl rfl rfl (List.Perm.refl _) rfl rfl rfl (by omega) rfl rfl gvo (by simp [Value.oneCell', cDl]) (by simp [maxLen]; omega) (by simp; omega) fun v35 => ?_ | refine Kp.St_append tb rfl rfl rfl perm1 rfl rfl rfl (by omega) rfl rfl gvo (by simp [Value.oneCell', cDl]) (by simp [maxLen]; omega) (by simp; omega) fun v35 => ?_ | refine Kp.St_append tb rfl rfl rfl Kp.perm2 rfl rfl rfl (by omega) rfl rfl gvo (by simp [Value.oneCell', cDl]) (by simp [maxLen]; omega) (by simp; omega) fun v35 => ?_ | refine Kp.St_append tb rfl rfl rfl Kp.perm3 rfl rfl rfl (by omega) rfl rfl gvo (by simp [Value.oneCell', cDl]) (by simp [maxLen]; omega) (by simp; omega) fun v35 => ?_ | refine Kp.St_append tb rfl rfl rfl (perm_front (pre := [_, _])) rfl rfl rfl (by omega) rfl rfl gvo (by simp [Value.oneCell', cDl]) (by simp [maxLen]; omega) (by simp; omega) fun v35 => ?_ | refine Kp.St_append tb rfl rfl rfl (perm_front (pre := [_, _, _])) rfl rfl rfl (by omega) rfl rfl gvo (by simp [Value.oneCell', cDl]) (by simp [maxLen]; omega) (by simp; omega) fun v35 => ?_ | refine Kp.St_append tb rfl rfl rfl (perm_front (pre := [_, _, _, _])) rfl rfl rfl (by omega) rfl rfl gvo (by simp [Value.oneCell', cDl]) (by simp [maxLen]; omega) (by simp; omega) fun v35 => ?_
 refine Kp.Zq rfl (q_field tb rfl rfl rfl) ?_
 refine Kp.Z_s ?_
 refine Kp.St_mk rfl rfl rfl rfl (lo_bslice tb rfl rfl rfl (xs := [[_]]) rfl rfl (by simp) rfl (by omega) rfl) fun v39 => ?_
 refine Kp.Z_s ?_
 first | refine Kp.St_append tb rfl rfl rfl (List.Perm.refl _) rfl rfl rfl (by omega) rfl rfl gvo (by simp [Value.oneCell']) (by simp [maxLen]; omega) (by simp; omega) fun v40 => ?_ | refine Kp.St_append tb rfl rfl rfl perm1 rfl rfl rfl (by omega) rfl rfl gvo (by simp [Value.oneCell']) (by simp [maxLen]; omega) (by simp; omega) fun v40 => ?_ | refine Kp.St_append tb rfl rfl rfl Kp.perm2 rfl rfl rfl (by omega) rfl rfl gvo (by simp [Value.oneCell']) (by simp [maxLen]; omega) (by simp; omega) fun v40 => ?_ | refine Kp.St_append tb rfl rfl rfl Kp.perm3 rfl rfl rfl (by omega) rfl rfl gvo (by simp [Value.oneCell']) (by simp [maxLen]; omega) (by simp; omega) fun v40 => ?_ | refine Kp.St_append tb rfl rfl rfl (perm_front (pre := [_, _])) rfl rfl rfl (by omega) rfl rfl gvo (by simp [Value.oneCell']) (by simp [maxLen]; omega) (by simp; omega) fun v40 => ?_ | refine Kp.St_append tb rfl rfl rfl (perm_front (pre := [_, _, _])) rfl rfl rfl (by omega) rfl rfl gvo (by simp [Value.oneCell']) (by simp [maxLen]; omega) (by simp; omega) fun v40 => ?_ | refine Kp.St_append tb rfl rfl rfl (perm_front (pre := [_, _, _, _])) rfl rfl rfl (by omega) rfl rfl gvo (by simp [Value.oneCell']) (by simp [maxLen]; omega) (by simp; omega) fun v40 => ?_
 refine Kp.Z_nil ?_
 try dsimp only [List.append, List.cons_append, List.nil_append]
 exact ⟨(v35, v40), fun a_ w_ hs_ => hs_.weak ⟨rfl, rfl, rfl, rfl, trivial⟩ (fun h_ => h_.pk (by repeat (first | with_reducible exact pk_nil | refine pk_box (by first | rfl | exact (dl_snoc _ _) | exact (ci_snoc _ _)) ?_ | refine pk_rd rfl ?_ | refine pk_sl (by first | rfl | exact (dl_snoc _ _) | exact (ci_snoc _ _)) ?_ | with_reducible refine pk_app ?_ | with_reducible refine pk_app0 ?_ | with_reducible refine pk_app0L ?_ | with_reducible exact pk_tl | refine pk_var ?_)))⟩
 refine Kp.St_mk rfl rfl rfl rfl (lo_bslice tb rfl rfl rfl (xs := [[_]]) rfl rfl (by simp) rfl (by omega) rfl) fun v39 => ?_
 refine Kp.Z_s ?_
 first | refine Kp.St_append tb rfl rfl rfl (List.Perm.refl _) rfl rfl rfl (by omega) rfl rfl gvo (by simp [Value.oneCell', cDl]) (by simp [maxLen]; omega) (by simp; omega) fun v35 => ?_ | refine Kp.St_append tb rfl rfl rfl perm1 rfl rfl rfl (by omega) rfl rfl gvo (by simp [Value.oneCell', cDl]) (by simp [maxLen]; omega) (by simp; omega) fun v35 => ?_ | refine Kp.St_append tb rfl rfl rfl Kp.perm2 rfl rfl rfl (by omega) rfl rfl gvo (by simp [Value.oneCell', cDl]) (by simp [maxLen]; omega) (by simp; omega) fun v35 => ?_ | refine Kp.St_append tb rfl rfl rfl Kp.perm3 rfl rfl rfl (by omega) rfl rfl gvo (by simp [Value.oneCell', cDl]) (by simp [maxLen]; omega) (by simp; omega) fun v35 => ?_ | refine Kp.St_append tb rfl rfl rfl (perm_front (pre := [_, _])) rfl rfl rfl (by omega) rfl rfl gvo (by simp [Value.oneCell', cDl]) (by simp [maxLen]; omega) (by simp; omega) fun v35 => ?_ | refine Kp.St_append tb rfl rfl rfl (perm_front (pre := [_, _, _])) rfl rfl rfl (by omega) rfl rfl gvo (by simp [Value.oneCell', cDl]) (by simp [maxLen]; omega) (by simp; omega) fun v35 => ?_ | refine Kp.St_append tb rfl rfl rfl (perm_front (pre := [_, _, _, _])) rfl rfl rfl (by omega) rfl rfl gvo (by simp [Value.oneCell', cDl]) (by simp [maxLen]; omega) (by simp; omega) fun v35 => ?_
 refine Kp.Zq rfl (q_field tb rfl rfl rfl) ?_
 refine Kp.Z_s ?_
 first | refine Kp.St_append tb rfl rfl rfl (List.Perm.refl _) rfl rfl rfl (by omega) rfl rfl gvo (by simp [Value.oneCell']) (by simp [maxLen]; omega) (by simp; omega) fun v40 => ?_ | refine Kp.St_append tb rfl rfl rfl perm1 rfl rfl rfl (by omega) rfl rfl gvo (by simp [Value.oneCell']) (by simp [maxLen]; omega) (by simp; omega) fun v40 => ?_ | refine Kp.St_append tb rfl rfl rfl Kp.perm2 rfl rfl rfl (by omega) rfl rfl gvo (by simp [Value.oneCell']) (by simp [maxLen]; omega) (by simp; omega) fun v40 => ?_ | refine Kp.St_append tb rfl rfl rfl Kp.perm3 rfl rfl rfl (by omega) rfl rfl gvo (by simp [Value.oneCell']) (by simp [maxLen]; omega) (by simp; omega) fun v40 => ?_ | refine Kp.St_append tb rfl rfl rfl (perm_front (pre := [_, _])) rfl rfl rfl (by omega) rfl rfl gvo (by simp [Value.oneCell']) (by simp [maxLen]; omega) (by simp; omega) fun v40 => ?_ | refine Kp.St_append tb rfl rfl rfl (perm_front (pre := [_, _, _])) rfl rfl rfl (by omega) rfl rfl gvo (by simp [Value.oneCell']) (by simp [maxLen]; omega) (by simp; omega) fun v40 => ?_ | refine Kp.St_append tb rfl rfl rfl (perm_front (pre := [_, _, _, _])) rfl rfl rfl (by omega) rfl rfl gvo (by simp [Value.oneCell']) (by simp [maxLen]; omega) (by simp; omega) fun v40 => ?_
 refine Kp.Z_nil ?_
 try dsimp only [List.append, List.cons_append, List.nil_append]
 exact ⟨(v35, v40), fun a_ w_ hs_ => hs_.weak ⟨rfl, rfl, rfl, rfl, trivial⟩ (fun h_ => h_.pk (by repeat (first | with_reducible exact pk_nil | refine pk_box (by first | rfl | exact (dl_snoc _ _) | exact (ci_snoc _ _)) ?_ | refine pk_rd rfl ?_ | refine pk_sl (by first | rfl | exact (dl_snoc _ _) | exact (ci_snoc _ _)) ?_ | with_reducible refine pk_app ?_ | with_reducible refine pk_app0 ?_ | with_reducible refine pk_app0L ?_ | with_reducible exact pk_tl | refine pk_var ?_)))⟩
 refine Kp.St_mk rfl rfl rfl rfl (lo_bslice tb rfl rfl rfl (xs := [[_]]) rfl rfl (by simp) rfl (by omega) rfl) fun v39 => ?_
 refine Kp.Z_s ?_
 refine Kp.St_mk rfl rfl rfl rfl (lo_bslice tb rfl rfl rfl (xs := [cDl z20]) rfl rfl (by simp [cDl]) rfl (by omega) rfl) fun v34 => ?_
 refine Kp.Z_s ?_
 first | refine Kp.St_append tb rfl rfl rfl (List.Perm.refl _) rfl rfl rfl (by omega) rfl rfl gvo (by simp [Value.oneCell', cDl]) (by simp [maxLen]; omega) (by simp; omega) fun v35 => ?_ | refine Kp.St_append tb rfl rfl rfl perm1 rfl rfl rfl (by omega) rfl rfl gvo (by simp [Value.oneCell', cDl]) (by simp [maxLen]; omega) (by simp; omega) fun v35 => ?_ | refine Kp.St_append tb rfl rfl rfl Kp.perm2 rfl rfl rfl (by omega) rfl rfl gvo (by simp [Value.oneCell', cDl]) (by simp [maxLen]; omega) (by simp; omega) fun v35 => ?_ | refine Kp.St_append tb rfl rfl rfl Kp.perm3 rfl rfl rfl (by omega) rfl rfl gvo (by simp [Value.oneCell', cDl]) (by simp [maxLen]; omega) (by simp; omega) fun v35 => ?_ | refine Kp.St_append tb rfl rfl rfl (perm_front (pre := [_, _])) rfl rfl rfl (by omega) rfl rfl gvo (by simp [Value.oneCell', cDl]) (by simp [maxLen]; omega) (by simp; omega) fun v35 => ?_ | refine Kp.St_append tb rfl rfl rfl (perm_front (pre := [_, _, _])) rfl rfl rfl (by omega) rfl rfl gvo (by simp [Value.oneCell', cDl]) (by simp [maxLen]; omega) (by simp; omega) fun v35 => ?_ | refine Kp.St_append tb rfl rfl rfl (perm_front (pre := [_, _, _, _])) rfl rfl rfl (by omega) rfl rfl gvo (by simp [Value.oneCell', cDl]) (by simp [maxLen]; omega) (by simp; omega) fun v35 => ?_
 refine Kp.Zq rfl (q_field tb rfl rfl rfl) ?_
 refine Kp.Z_s ?_
 first | refine Kp.St_append tb rfl rfl rfl (List.Perm.refl _) rfl rfl rfl (by omega) rfl rfl gvo (by simp [Value.oneCell']) (by simp [maxLen]; omega) (by simp; omega) fun v40 => ?_ | refine Kp.St_append tb rfl rfl rfl perm1 rfl rfl rfl (by omega) rfl rfl gvo (by simp [Value.oneCell']) (by simp [maxLen]; omega) (by simp; omega) fun v40 => ?_ | refine Kp.St_append tb rfl rfl rfl Kp.perm2 rfl rfl rfl (by omega) rfl rfl gvo (by simp [Value.oneCell']) (by simp [maxLen]; omega) (by simp; omega) fun v40 => ?_ | refine Kp.St_append tb rfl rfl rfl Kp.perm3 rfl rfl rfl (by omega) rfl rfl gvo (by simp [Value.oneCell']) (by simp [maxLen]; omega) (by simp; omega) fun v40 => ?_ | refine Kp.St_append tb rfl rfl rfl (perm_front (pre := [_, _])) rfl rfl rfl (by omega) rfl rfl gvo (by simp [Value.oneCell']) (by simp [maxLen]; omega) (by simp; omega) fun v40 => ?_ | refine Kp.St_append tb rfl rfl rfl (perm_front (pre := [_, _, _])) rfl rfl rfl (by omega) rfl rfl gvo (by simp [Value.oneCell']) (by simp [maxLen]; omega) (by simp; omega) fun v40 => ?_ | refine Kp.St_append tb rfl rfl rfl (perm_front (pre := [_, _, _, _])) rfl rfl rfl (by omega) rfl rfl gvo (by simp [Value.oneCell']) (by simp [maxLen]; omega) (by simp; omega) fun v40 => ?_
 refine Kp.Z_nil ?_
 try dsimp only [List.append, List.cons_append, List.nil_append]
 exact ⟨(v35, v40), fun a_ w_ hs_ => hs_.weak ⟨rfl, rfl, rfl, rfl, trivial⟩ (fun h_ => h_.pk (by repeat (first | with_reducible exact pk_nil | refine pk_box (by first | rfl | exact (dl_snoc _ _) | exact (ci_snoc _ _)) ?_ | refine pk_rd rfl ?_ | refine pk_sl (by first | rfl | exact (dl_snoc _ _) | exact (ci_snoc _ _)) ?_ | with_reducible refine pk_app ?_ | with_reducible refine pk_app0 ?_ | with_reducible refine pk_app0L ?_ | with_reducible exact pk_tl | refine pk_var ?_)))⟩
 (rintro ⟨v35, v40⟩; dsimp only; refine L_form (v := v35) gvo (fun A35 c35 hv35 _ => ?_); subst hv35; refine L_form (v := v40) gvo (fun A40 c40 hv40 _ => ?_); subst hv40)
 refine L_st tb rfl rfl ?_
 refine Jq (q_field tb rfl rfl rfl) ?_
 refine L_st tb rfl rfl ?_
 refine L_end ?_
 subst hLP
 exact endR3 hb [box g5 80 [(.slice A35 ((L ++ [z20]).map cDl).length c35), (.slice A40 ((F ++ [f20]).map cI).length c40)], sl (.slice A35 ((L ++ [z20]).map cDl).length c35) 117 3 ((L ++ [z20]).map cDl), sl (.slice A40 ((F ++ [f20]).map cI).length c40) 3 1 ((F ++ [f20]).map cI), box g2 80 [nilS, nilS], box g3 3 [.int .i64 0], box g4 34 [.int .i64 0]] (by rw [if_pos hb]; exact ⟨L ++ [z20], F ++ [f20], _, _, _, _, by rw [List.length_append, hL]; rfl, by rw [List.length_append, hF]; rfl, hG.trans (by rw [ln_drop hp, parG_s hz]; rfl), rfl⟩) (fun w_ h_ => h_.pk (by repeat (first | with_reducible exact pk_nil | refine pk_box rfl ?_ | refine pk_rd rfl ?_ | refine pk_sl rfl ?_ | with_reducible refine pk_app ?_ | with_reducible refine pk_app0 ?_ | with_reducible refine pk_app0L ?_ | with_reducible exact pk_tl | refine pk_var ?_)))
 intro D rs_ hF
 obtain ⟨hgo9, L, F, A9, B9, c9, d9, hL, hF9, hG, rfl⟩ := FinL_true hF
 rw [List.drop_length, parG] at hG
 have hl4 := len_map cDl L; have hl5 := len_map cI F
 dsimp only
 refine blk_end ?_
 refine C_seq ?_
 refine C_seq ?_
 refine C_region ?_
 refine Jq (q_loadA tb rfl rfl bxo rfl rfl) ?_
 refine L_call tb rfl rfl (ct_ascent_checkAlone _ _ L F (by omega) (by omega)) (ps_cons gvo (ps_cons gvo no_ps)) rfl ?_
 refine Jq (q_assign rfl) ?_
 refine L_then ?_
 refine C_seq ?_
 refine C_region ?_
 refine Jq (q_move rfl) ?_
 refine Jq (q_neq rfl rfl) ?_
 refine L_then ?_
 refine C_dec rfl (fun h46 => ?_) (fun h46 => ?_)
 refine C_seq ?_
 refine C_region ?_
 refine Jq (by first | exact q_build tb rfl rfl rfl rfl | exact q_buildArr tb rfl rfl rfl rfl rfl) ?_
 refine Jq (q_move rfl) ?_
 refine L_st tb rfl rfl ?_
 refine L_st tb rfl rfl ?_
 refine L_st tb rfl rfl ?_
 refine L_then ?_
 refine C_ret ?_
 rw [parA_c (show ¬ t.length > 60000 by omega) hG, if_pos h46]
 exact ret_ofMC (rs1 := [box g2 80 [nilS, nilS], box g3 3 [.int .i64 0], box g4 34 [.int .i64 (ckSch L F)]]) (rs' := [sl nilS 117 3 [], sl nilS 3 1 []]) (fun w_ h_ => h_.pk (by repeat (first | with_reducible exact pk_nil | refine pk_box rfl ?_ | refine pk_rd rfl ?_ | refine pk_sl rfl ?_ | with_reducible refine pk_app ?_ | with_reducible refine pk_app0 ?_ | with_reducible refine pk_app0L ?_ | with_reducible exact pk_tl | refine pk_var ?_))) (resACC tb rfl rfl rfl rfl rfl rfl rfl bxo bxo bxo rfl) (fun w_ h_ => ws_nil (ws_nil (sub_nil w_ h_))) own2 ⟨none, none, 0, 0, 0, 0, rfl, rfl⟩
 refine C_skip_then ?_
 refine C_seq ?_
 refine C_region ?_
 refine Jq (q_loadA tb rfl rfl bxo rfl rfl) ?_
 refine L_st tb rfl rfl ?_
 refine L_st tb rfl rfl ?_
 refine L_st tb rfl rfl ?_
 refine L_then ?_
 refine C_ret ?_
 rw [parA_c (show ¬ t.length > 60000 by omega) hG, if_neg h46]
 exact ret_ofMC (rs1 := [box g2 80 [(.slice A9 (L.map cDl).length c9), (.slice B9 (F.map cI).length d9)], box g3 3 [.int .i64 0], box g4 34 [.int .i64 0], sl (.slice A9 (L.map cDl).length c9) 117 3 (L.map cDl), sl (.slice B9 (F.map cI).length d9) 3 1 (F.map cI)]) (rs' := [sl (.slice A9 (L.map cDl).length c9) 117 3 (L.map cDl), sl (.slice B9 (F.map cI).length d9) 3 1 (F.map cI)]) (fun w_ h_ => h_.pk (by repeat (first | with_reducible exact pk_nil | refine pk_box rfl ?_ | refine pk_rd rfl ?_ | refine pk_sl rfl ?_ | with_reducible refine pk_app ?_ | with_reducible refine pk_app0 ?_ | with_reducible refine pk_app0L ?_ | with_reducible exact pk_tl | refine pk_var ?_))) (resACC tb rfl rfl rfl rfl rfl rfl rfl bxo bxo bxo rfl) (fun w_ h_ => h_.pk (by repeat (first | with_reducible exact pk_nil | refine pk_box rfl ?_ | refine pk_rd rfl ?_ | refine pk_sl rfl ?_ | with_reducible refine pk_app ?_ | with_reducible refine pk_app0 ?_ | with_reducible refine pk_app0L ?_ | with_reducible exact pk_tl | refine pk_var ?_))) own2 ⟨_, _, _, _, _, _, rfl, rfl⟩
 intro D rs_ hF
 obtain ⟨σ, hσ, hs, hbf, hG, rfl⟩ := FinL_false hF
 rw [parA_7 (show ¬ t.length > 60000 by omega) hG]
 exact ret_ofMC (rs1 := [box g2 80 [nilS, nilS], box g3 3 [.int .i64 ((σ : Int) + 1)], box g4 34 [.int .i64 7]]) (rs' := [sl nilS 117 3 [], sl nilS 3 1 []]) (fun w_ h_ => h_.pk (by repeat (first | with_reducible exact pk_nil | refine pk_box rfl ?_ | refine pk_rd rfl ?_ | refine pk_sl rfl ?_ | with_reducible refine pk_app ?_ | with_reducible refine pk_app0 ?_ | with_reducible refine pk_app0L ?_ | with_reducible exact pk_tl | refine pk_var ?_))) (resACC tb rfl rfl rfl rfl rfl rfl rfl bxo bxo bxo rfl) (fun w_ h_ => ws_nil (ws_nil (sub_nil w_ h_))) own2 ⟨none, none, 0, 0, 0, 0, rfl, rfl⟩
end Go.Proofs.YtacndicgpkeobaaGreatDoor
