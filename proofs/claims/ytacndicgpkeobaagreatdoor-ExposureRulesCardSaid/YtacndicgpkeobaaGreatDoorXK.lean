/-
  Walks: each function named returns what its model says. Conditions: those in front of each theorem.
-/
import Derived.Test.YtacndicgpkeobaaGreatDoorXJ
namespace Go.Proofs.YtacndicgpkeobaaGreatDoor
open Go.RowKit

set_option maxRecDepth 100000 in
set_option maxHeartbeats 1000000 in
theorem ct_exposure_NeedAt (t : Value) (r : Ru) (nm : ByteArray) (sf : Int) (v u : Value) (gs : List Gs) (ls : List Dl) (hle : gs.length ≤ 100000) (hle2 : ls.length ≤ 100000) (hnm : nm.size ≤ 1000000000000) (hlt : r.tb.length ≤ 100000) (c : Int) : Ct Tryz.prog 87 [.agg (cPl nm sf v u).toArray, .agg (cRu t r).toArray, .int .i64 c] [(v, 2, gs.map cGs), (u, 3, ls.map cDl), (t, 2, r.tb.map cOw)] (isV (.tuple #[.int .i64 (needE nm sf gs ls r c).1, .int .i64 (needE nm sf gs ls r c).2.1, .int .i64 (needE nm sf gs ls r c).2.2])) := by
 refine Ct.ofM (N := 49) Tryz.func87 rfl rfl rfl fun w => ?_
 refine C_weak (E' := [(0, .agg (cPl nm sf v u).toArray), (1, .agg (cRu t r).toArray), (2, .int .i64 c)]) (rs' := [rd v 2 (gs.map cGs), rd u 3 (ls.map cDl), rd t 2 (r.tb.map cOw)]) ⟨rfl, rfl, rfl, trivial⟩ (fun _ h => h) ?_
 have hl1 := len_map cGs gs
 have hl2 := len_map cDl ls
 have hl1 := len_map cOw r.tb
 refine C_seq ?_
 refine C_region ?_
 refine L_box rfl rfl rfl fun g3 => ?_
 refine L_box rfl rfl rfl fun g4 => ?_
 refine L_box rfl rfl rfl fun g5 => ?_
 refine L_alloc tb rfl rfl fun g6 => ?_
 refine L_alloc tb rfl rfl fun g7 => ?_
 refine L_alloc tb rfl rfl fun g8 => ?_
 refine L_then ?_
 refine C_seq ?_
 refine C_seq ?_
 refine C_region ?_
 refine Jq (q_loadA tb rfl rfl bxo rfl rfl) ?_
 refine Jq (q_loadA tb rfl rfl bxo rfl rfl) ?_
 refine L_call tb rfl rfl (ct_exposure_both t r nm sf v u gs ls hle hle2 hnm hlt) (ps_cons gvo (ps_cons gvo (ps_cons gvo no_ps))) rfl ?_
 refine Jq (q_assign rfl) ?_
 refine L_then ?_
 refine C_seq ?_
 refine C_region ?_
 refine Jq (q_move rfl) ?_
 refine Jq (q_neq rfl rfl) ?_
 refine L_then ?_
 refine C_dec rfl (fun h1 => ?_) (fun h1 => ?_)
 refine C_seq ?_
 refine C_region ?_
 refine Jq (q_move rfl) ?_
 refine L_st tb rfl rfl ?_
 refine L_st tb rfl rfl ?_
 refine L_st tb rfl rfl ?_
 refine L_then ?_
 refine C_ret ?_
 rw [needE_1 h1]
 exact ret_of0M (resCCC tb rfl rfl rfl rfl rfl rfl rfl bxo bxo bxo) sub_nil (by intro r hr; cases hr) ⟨rfl, rfl⟩
 have hz := Decidable.not_not.1 h1; obtain ⟨_, H, HR, _⟩ := bothE_ok hz; have hll := H.ll; have hgl := H.gl
 have hlen : ((legsM sf gs ls).map cLe).length = ls.length := le_len _ _ _ _
 have hTe := H.e ls.length (Nat.le_refl _)
 refine C_skip_then ?_
 refine C_seq ?_
 refine C_region ?_
 refine Jq (q_loadA tb rfl rfl bxo rfl rfl) ?_
 refine L_callSN tb rfl rfl (ct_exposure_followed nm sf v u gs ls H) (ps_cons gvo (ps_cons gvo no_ps)) rfl fun v21 => ?_
 refine Jq (q_move rfl) ?_
 refine Jq (q_ext0 rfl) ?_
 refine Jq (q_ext1 rfl) ?_
 refine Jq (q_assign rfl) ?_
 refine Jq (q_assign rfl) ?_
 refine L_then ?_
 refine C_seq ?_
 refine C_block ?_
 refine C_seq ?_
 refine C_region ?_
 refine Jq (q_move rfl) ?_
 refine Jq (q_neq rfl rfl) ?_
 refine Jq (q_assign rfl) ?_
 refine L_then ?_
 refine C_dec rfl (fun h2 => ?_) (fun h2 => ?_)
 have hT : secAt ls ls.length > 20000 := Decidable.byContradiction fun hh => h2 (by rw [folE_2 hh])
 refine C_seq ?_
 refine C_region ?_
 refine Jq (q_move rfl) ?_
 refine L_st tb rfl rfl ?_
 refine L_st tb rfl rfl ?_
 refine L_st tb rfl rfl ?_
 refine L_then ?_
 refine C_ret ?_
 rw [needE_2 hz hT, folE_1 hT]
 exact ret_of0M (resCCC tb rfl rfl rfl rfl rfl rfl rfl bxo bxo bxo) sub_nil (by intro r hr; cases hr) ⟨rfl, rfl⟩
 have hT : ¬ secAt ls ls.length > 20000 := fun hh => h2 (by rw [folE_1 hh]; decide)
 rw [folE_2 hT]
 refine C_seq ?_
 refine C_draw (n := 5) [(0, false), (1, false), (2, true), (3, true), (4, false)] mixed (by kernel_rfl) ?_
 refine Yq rfl (q_load tb rfl rfl bxo rfl) ?_
 refine Yq rfl (q_move rfl) ?_
 refine W_call tb rfl rfl rfl rfl (ct_exposure_endOf v21 sf gs ls H) (ps_cons gvo no_ps) rfl ?_
 refine W_call tb rfl rfl rfl rfl (ct_exposure_within _ _ _) no_ps rfl ?_
 refine Yq rfl (q_not rfl decide_not.symm) ?_
 refine W_nil ?_
 refine Jq (q_assign rfl) ?_
 refine L_then ?_
 refine C_dec rfl (fun h3 => ?_) (fun h3 => ?_)
 refine C_seq ?_
 refine C_region ?_
 refine L_st tb rfl rfl ?_
 refine L_st tb rfl rfl ?_
 refine L_st tb rfl rfl ?_
 refine L_then ?_
 refine C_ret ?_
 rw [needE_3 hz hT (by omega)]
 exact ret_of0M (resCCC tb rfl rfl rfl rfl rfl rfl rfl bxo bxo bxo) sub_nil (by intro r hr; cases hr) ⟨rfl, rfl⟩
 refine C_skip_blk ?_
 refine C_seq ?_
 refine C_seq ?_
 refine C_region ?_
 refine L_share ?_
 refine Jq (q_move rfl) ?_
 refine Jq (q_field tb rfl rfl rfl) ?_
 refine Jq (q_load tb rfl rfl bxo rfl) ?_
 refine Jq (q_len tb rfl rfl gvo) ?_
 refine Jq (q_loadA tb rfl rfl bxo rfl rfl) ?_
 rw [len_map cGs gs]
 refine L_lo rfl rfl rfl (lo_call tb rfl rfl (ct_exposure_needs v21 t r sf gs ls) (ps_cons gvo (ps_cons gvo no_ps)) (by rintro y rs ⟨s3, s4, s5, _, rfl⟩ r hr; simp only [List.mem_cons, List.not_mem_nil, or_false] at hr; rcases hr with rfl | rfl | rfl <;> exact box_sinks _ _ _)) ?_
 rintro _ _ ⟨s3, s4, s5, rfl, rfl⟩
 refine L_then ?_
 refine C_block ?_
 refine C_range2 (FinN (fun _ : Nat => [box g5 3 [.int .i64 c], box g6 3 [.int .i64 0], box g7 3 [.int .i64 0], box g8 34 [.int .i64 0]]) (fun σ : Nat => if (σ : Int) = c then [box g5 3 [.int .i64 c], box g6 3 [.int .i64 (gN ls σ)], box g7 3 [.int .i64 (aN r sf gs ls σ)], box g8 34 [.int .i64 0]] else [box g5 3 [.int .i64 c], box g6 3 [.int .i64 0], box g7 3 [.int .i64 0], box g8 34 [.int .i64 0]]) (fun σ : Nat => decide (¬ (σ : Int) = c)) (rnN ls ls.length)) rfl (tb.en_ok _ (lkT_mem (rfl : lkT tb.en 196 = some ()))) (fun l D fn tm hts hE => ?_) ?_ ?_
 refine it_needsR _ _ l D _ (fun _ : Nat => [box g5 3 [.int .i64 c], box g6 3 [.int .i64 0], box g7 3 [.int .i64 0], box g8 34 [.int .i64 0]]) (fun σ : Nat => if (σ : Int) = c then [box g5 3 [.int .i64 c], box g6 3 [.int .i64 (gN ls σ)], box g7 3 [.int .i64 (aN r sf gs ls σ)], box g8 34 [.int .i64 0]] else [box g5 3 [.int .i64 c], box g6 3 [.int .i64 0], box g7 3 [.int .i64 0], box g8 34 [.int .i64 0]]) (fun σ : Nat => decide (¬ (σ : Int) = c)) v21 t r sf gs ls s3 s4 s5 H HR (by omega) rfl (fun σ h => if_neg (of_decide_eq_true h)) ?hR _ (fun w_ h_ => h_.pk (by repeat (first | with_reducible exact pk_nil | refine pk_box rfl ?_ | refine pk_rd rfl ?_ | refine pk_sl rfl ?_ | with_reducible refine pk_app ?_ | with_reducible refine pk_app0 ?_ | with_reducible refine pk_app0L ?_ | with_reducible exact pk_tl | refine pk_var ?_)))
 intro σ hσ
 refine Rnd2.of hts rfl hE (fun own => ?_)
 dsimp only [List.nil_append, List.cons_append]
 refine C_region ?_
 refine L_alloc tb rfl rfl fun g12 => ?_
 refine L_st tb rfl rfl ?_
 refine L_front1 ?_
 refine L_end ?_
 refine beginRh fun LP hLP => ?_
 refine C_block ?_
 refine C_seq ?_
 refine C_region ?_
 refine Jq (q_field tb rfl rfl rfl) ?_
 refine Jq (q_load tb rfl rfl bxo rfl) ?_
 refine Jq (q_load tb rfl rfl bxo rfl) ?_
 refine Jq (q_eql rfl rfl) ?_
 refine L_then ?_
 refine C_dec rfl (fun heq => ?_) (fun heq => ?_)
 refine C_seq ?_
 refine C_res (rs' := (box g6 3 [.int .i64 0] :: box g7 3 [.int .i64 0] :: box g8 34 [.int .i64 0] :: box g12 240 [.int .i64 (σ : Int), .int .i64 (gN ls σ), .int .i64 (aN r sf gs ls σ)] :: LP :: box g5 3 [.int .i64 c] :: own)) (fun _ h => h.pk (by repeat (first | with_reducible exact pk_nil | refine pk_box rfl ?_ | refine pk_rd rfl ?_ | refine pk_sl rfl ?_ | with_reducible refine pk_app ?_ | with_reducible refine pk_app0 ?_ | with_reducible refine pk_app0L ?_ | with_reducible exact pk_tl | refine pk_var ?_))) ?_
 refine Kp.C_own3 [.q 0, .q 1, .q 2, .q 3, .s 4, .s 5, .s 6] mixed (by kernel_rfl) rfl (by kernel_rfl) ?_
 refine Kp.X_q rfl rfl rfl rfl (q_field tb rfl rfl rfl) ?_
 refine Kp.X_q rfl rfl rfl rfl (q_load tb rfl rfl bxo rfl) ?_
 refine Kp.X_q rfl rfl rfl rfl (q_field tb rfl rfl rfl) ?_
 refine Kp.X_q rfl rfl rfl rfl (q_load tb rfl rfl bxo rfl) ?_
 first | refine Kp.X_store tb rfl rfl (List.Perm.refl _) rfl rfl rfl rfl rfl rfl rfl rfl ?_ | refine Kp.X_store tb rfl rfl perm1 rfl rfl rfl rfl rfl rfl rfl rfl ?_ | refine Kp.X_store tb rfl rfl (perm_front (pre := [_, _])) rfl rfl rfl rfl rfl rfl rfl rfl ?_ | refine Kp.X_store tb rfl rfl (perm_front (pre := [_, _, _])) rfl rfl rfl rfl rfl rfl rfl rfl ?_
 first | refine Kp.X_store tb rfl rfl (List.Perm.refl _) rfl rfl rfl rfl rfl rfl rfl rfl ?_ | refine Kp.X_store tb rfl rfl perm1 rfl rfl rfl rfl rfl rfl rfl rfl ?_ | refine Kp.X_store tb rfl rfl (perm_front (pre := [_, _])) rfl rfl rfl rfl rfl rfl rfl rfl ?_ | refine Kp.X_store tb rfl rfl (perm_front (pre := [_, _, _])) rfl rfl rfl rfl rfl rfl rfl rfl ?_
 first | refine Kp.X_store tb rfl rfl (List.Perm.refl _) rfl rfl rfl rfl rfl rfl rfl rfl ?_ | refine Kp.X_store tb rfl rfl perm1 rfl rfl rfl rfl rfl rfl rfl rfl ?_ | refine Kp.X_store tb rfl rfl (perm_front (pre := [_, _])) rfl rfl rfl rfl rfl rfl rfl rfl ?_ | refine Kp.X_store tb rfl rfl (perm_front (pre := [_, _, _])) rfl rfl rfl rfl rfl rfl rfl rfl ?_
 refine Kp.X_nil ?_
 try dsimp only [List.cons_append, List.nil_append]
 refine L_then ?_
 refine C_ret ?_
 subst hLP
 exact stopR2 (decide_eq_false (fun hh => hh heq)) (if_pos heq) (fun w_ h_ => h_.pk (by repeat (first | with_reducible exact pk_nil | refine pk_box rfl ?_ | refine pk_rd rfl ?_ | refine pk_sl rfl ?_ | with_reducible refine pk_app ?_ | with_reducible refine pk_app0 ?_ | with_reducible refine pk_app0L ?_ | with_reducible exact pk_tl | refine pk_var ?_)))
 refine C_skip ?_
 subst hLP
 exact endR2 (decide_eq_true heq) (if_neg heq) (fun w_ h_ => h_.pk (by repeat (first | with_reducible exact pk_nil | refine pk_box rfl ?_ | refine pk_rd rfl ?_ | refine pk_sl rfl ?_ | with_reducible refine pk_app ?_ | with_reducible refine pk_app0 ?_ | with_reducible refine pk_app0L ?_ | with_reducible exact pk_tl | refine pk_var ?_)))
 intro D rs_ hF
 obtain ⟨hgo9, rfl⟩ := FinN_true hF
 have h0 : ls.length = 0 := by
  rcases Nat.eq_zero_or_pos ls.length with h | h
  · exact h
  · have h9 := rnN_pos (ls := ls) h
    have h8 := secN_eq H (Nat.le_refl ls.length)
    have h7 := of_decide_eq_true (hgo9 c.toNat (by omega))
    omega
 dsimp only
 refine blk_end ?_
 refine C_seq ?_
 refine C_region ?_
 refine L_st tb rfl rfl ?_
 refine L_st tb rfl rfl ?_
 refine L_st tb rfl rfl ?_
 refine L_then ?_
 refine C_ret ?_
 rw [needE_4 hz hT (by omega) h0]
 exact ret_ofMC (rs1 := [box g6 3 [.int .i64 0], box g7 3 [.int .i64 0], box g8 34 [.int .i64 12]]) (rs' := []) (fun w_ h_ => h_.pk (by repeat (first | with_reducible exact pk_nil | refine pk_box rfl ?_ | refine pk_rd rfl ?_ | refine pk_sl rfl ?_ | with_reducible refine pk_app ?_ | with_reducible refine pk_app0 ?_ | with_reducible refine pk_app0L ?_ | with_reducible exact pk_tl | refine pk_var ?_))) (resCCC tb rfl rfl rfl rfl rfl rfl rfl bxo bxo bxo) sub_nil (by intro r hr; cases hr) ⟨rfl, rfl⟩
 intro D rs_ hF
 obtain ⟨σ, hσ, hs, _, hrc⟩ := FinN_false hF
 have hc : (σ : Int) = c := Decidable.not_not.1 (of_decide_eq_false hs)
 have e9 := hrc.trans (if_pos hc)
 subst e9
 obtain rfl : c = (σ : Int) := hc.symm
 have h0 : ¬ ls.length = 0 := fun h => by rw [h] at hσ; exact absurd hσ (Nat.not_lt_zero _)
 rw [needE_5 hz hT (by omega) h0]
 exact ret_ofMC (rs1 := [box g5 3 [.int .i64 (σ : Int)], box g6 3 [.int .i64 (gN ls σ)], box g7 3 [.int .i64 (aN r sf gs ls σ)], box g8 34 [.int .i64 0]]) (rs' := []) (fun w_ h_ => h_.pk (by repeat (first | with_reducible exact pk_nil | refine pk_box rfl ?_ | refine pk_rd rfl ?_ | refine pk_sl rfl ?_ | with_reducible refine pk_app ?_ | with_reducible refine pk_app0 ?_ | with_reducible refine pk_app0L ?_ | with_reducible exact pk_tl | refine pk_var ?_))) (resCCC tb rfl rfl rfl rfl rfl rfl rfl bxo bxo bxo) sub_nil (by intro r hr; cases hr) ⟨rfl, rfl⟩
end Go.Proofs.YtacndicgpkeobaaGreatDoor
