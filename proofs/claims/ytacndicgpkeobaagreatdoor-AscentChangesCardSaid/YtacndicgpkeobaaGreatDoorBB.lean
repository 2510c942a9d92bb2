/-
  Walks: each function named returns what its model says. Conditions: those in front of each theorem.
-/
import Derived.Test.YtacndicgpkeobaaGreatDoorBE
import Derived.Test.YtacndicgpkeobaaGreatDoorAP
import Derived.Test.YtacndicgpkeobaaGreatDoorShTreeI
namespace Go.Proofs.YtacndicgpkeobaaGreatDoor
open Go.RowKit

set_option maxRecDepth 100000 in
set_option maxHeartbeats 4000000 in
theorem ct_ascent_task_change (v u z : Value) (x : Asc) (kd val : Int) (H : okAsc x) : Ct Tryz.prog 53 [.agg (cAt v u z x).toArray, .agg #[.int .i64 kd, .int .i64 val]] [(v, 4, x.ts.map cCp), (u, 4, x.ls.map cLd), (z, 3, x.gs.map cAg)] (isRg v u z x (chgX x kd val) (chgE x kd val)) := by
 refine Ct.of (N := 99) Tryz.func53 rfl rfl rfl fun w => ?_
 refine C_weak (E' := [(0, .agg (cAt v u z x).toArray), (1, .agg #[.int .i64 kd, .int .i64 val])]) (rs' := [rd v 4 (x.ts.map cCp), rd u 4 (x.ls.map cLd), rd z 3 (x.gs.map cAg)]) ⟨rfl, rfl, trivial⟩ (fun _ h => h) ?_
 have hl1 := len_map cCp x.ts
 have hl2 := len_map cLd x.ls
 have hl3 := len_map cAg x.gs
 have hde := H.de; have hsu := H.su; have hbl := beh_len H; have hrs := H.r.st; have hrf := H.r.fi
 refine C_form (v := v) gvo (fun Av cv hv _ => ?_)
 subst hv
 refine C_form (v := u) gvo (fun Au cu hu _ => ?_)
 subst hu
 refine C_form (v := z) gvo (fun Az cz hz _ => ?_)
 subst hz
 have hgl1 := H.g1; have hgl8 := H.g8; have hxgi := gasA_in x x.de
 refine C_seq ?_
 refine C_region ?_
 refine L_box rfl rfl rfl fun g2 => ?_
 refine L_box rfl rfl rfl fun g3 => ?_
 refine L_alloc tb rfl rfl fun g4 => ?_
 refine Jq (q_assign rfl) ?_
 refine L_then ?_
 refine C_seq ?_
 refine C_seq ?_
 refine C_region ?_
 refine Jq (q_field tb rfl rfl rfl) ?_
 refine Jq (q_load tb rfl rfl bxo rfl) ?_
 refine L_then ?_
 refine C_block ?_
 refine C_seq ?_
 refine C_region ?_
 refine Jq (q_eql rfl rfl) ?_
 refine Jq (q_assign rfl) ?_
 refine L_then ?_
 refine C_dec rfl (fun k0 => ?_) (fun k0 => ?_)
 refine C_seq ?_
 refine C_region ?_
 refine Jq (q_loadA tb rfl rfl bxo rfl rfl) ?_
 refine Jq (q_field tb rfl rfl rfl) ?_
 refine Jq (q_field tb rfl rfl rfl) ?_
 refine Jq (q_load tb rfl rfl bxo rfl) ?_
 refine L_call tb rfl rfl (ct_ascent_task_gas _ _ _ x (by omega) x.de) (ps_cons (by first | exact gvo | exact gvd gvo (by omega)) no_ps) rfl ?_
 refine Jq (q_assign rfl) ?_
 refine L_then ?_
 refine C_seq ?_
 refine C_block ?_
 refine C_seq ?_
 refine C_region ?_
 refine Jq (q_field tb rfl rfl rfl) ?_
 refine Jq (q_load tb rfl rfl bxo rfl) ?_
 refine L_call tb rfl rfl (ct_ascent_isSeconds val) no_ps rfl ?_
 refine Jq (q_not rfl decide_not.symm) ?_
 refine Jq (q_assign rfl) ?_
 refine L_then ?_
 refine C_dec rfl (fun c17 => ?_) (fun c17 => ?_)
 refine C_seq ?_
 refine C_region ?_
 refine Jq (q_loadA tb rfl rfl bxo rfl rfl) ?_
 refine L_st tb rfl rfl ?_
 refine Jq (q_assign rfl) ?_
 refine L_then ?_
 refine C_ret ?_
 obtain ⟨e1, e2⟩ := chg_0a (x := x) k0 c17
 rw [e1, e2]
 exact ret_of (rs' := []) (resCT tb rfl rfl rfl rfl bxo rfl) (fun w_ h_ => h_.pk pk_nil) (by intro r hr; cases hr) ⟨⟨_, _, _, _, _, _, _, _, _, rfl, (by intro r hr; cases hr), fun R g1 g2 g3 => ⟨g1, g2, g3⟩⟩, (by intro r hr; cases hr)⟩
 refine C_seq ?_
 refine C_region ?_
 refine Jq (q_move rfl) ?_
 refine Jq (q_lss rfl rfl) ?_
 refine Jq (q_assign rfl) ?_
 refine L_then ?_
 refine C_dec rfl (fun c23 => ?_) (fun c23 => ?_)
 refine C_seq ?_
 refine C_region ?_
 refine Jq (q_loadA tb rfl rfl bxo rfl rfl) ?_
 refine L_st tb rfl rfl ?_
 refine Jq (q_assign rfl) ?_
 refine L_then ?_
 refine C_ret ?_
 obtain ⟨e1, e2⟩ := chg_0b (x := x) k0 (Decidable.not_not.1 c17) c23
 rw [e1, e2]
 exact ret_of (rs' := []) (resCT tb rfl rfl rfl rfl bxo rfl) (fun w_ h_ => h_.pk pk_nil) (by intro r hr; cases hr) ⟨⟨_, _, _, _, _, _, _, _, _, rfl, (by intro r hr; cases hr), fun R g1 g2 g3 => ⟨g1, g2, g3⟩⟩, (by intro r hr; cases hr)⟩
 have hv1 := Decidable.not_not.1 c17
 refine C_skip_blk ?_
 refine C_seq ?_
 refine C_region ?_
 refine Jq (q_loadA tb rfl rfl bxo rfl rfl) ?_
 refine Jq (q_field tb rfl rfl rfl) ?_
 refine Jq (q_load tb rfl rfl bxo rfl) ?_
 refine Jq (q_field tb rfl rfl rfl) ?_
 refine Jq (q_field tb rfl rfl rfl) ?_
 refine Jq (q_load tb rfl rfl bxo rfl) ?_
 refine Jq (q_move rfl) ?_
 refine Jq (by first | exact q_build tb rfl rfl rfl rfl | exact q_buildArr tb rfl rfl rfl rfl rfl) ?_
 refine L_lo rfl rfl rfl (lo_call tb rfl rfl (ct_ascent_task_behind _ _ _ x ⟨val, x.de, gasA x x.de⟩ H ⟨hv1, H.de, by show 0 ≤ gasA x x.de ∧ gasA x x.de ≤ (x.gs.length : Int) - 1; omega⟩) (ps_cons (by first | exact gvo | exact gvd gvo (by omega)) (ps_cons (by first | exact gvo | exact gvd gvo (by omega)) (ps_cons (by first | exact gvo | exact gvd gvo (by omega)) no_ps))) isBh_sinks) ?_
 rintro _ _ ⟨A35, n35, c35, rfl, rfl⟩
 refine L_st tb rfl rfl ?_
 refine Jq (q_assign rfl) ?_
 refine L_then ?_
 refine C_ret ?_
 obtain ⟨e1, e2⟩ := chg_0c (x := x) k0 hv1 c23
 rw [e1, e2]
 exact ret_of (rs' := [sl _ 134 4 ((bhA x ⟨val, x.de, gasA x x.de⟩).ls.map cLd)]) (resCT tb rfl rfl rfl rfl bxo rfl) (fun w_ h_ => h_.pk (by repeat (first | with_reducible exact pk_nil | refine pk_box rfl ?_ | refine pk_rd rfl ?_ | refine pk_sl rfl ?_ | with_reducible refine pk_app ?_ | with_reducible refine pk_app0 ?_ | with_reducible refine pk_app0L ?_ | with_reducible exact pk_tl | refine pk_var ?_))) own1 ⟨⟨_, _, _, _, _, _, _, _, _, rfl, (by intro r hr; rw [List.mem_singleton.1 hr]; exact sl_sinks _ _ _ _), fun R g1 _ g3 => ⟨gv1 g1, gs0, gv1 g3⟩⟩, own1⟩
 refine C_seq ?_
 refine C_region ?_
 refine Jq (q_eql rfl rfl) ?_
 refine Jq (q_assign rfl) ?_
 refine L_then ?_
 refine C_dec rfl (fun k1 => ?_) (fun k1 => ?_)
 refine C_seq ?_
 refine C_block ?_
 refine C_seq ?_
 refine C_region ?_
 refine Jq (q_field tb rfl rfl rfl) ?_
 refine Jq (q_load tb rfl rfl bxo rfl) ?_
 refine Jq (q_field tb rfl rfl rfl) ?_
 refine Jq (q_field tb rfl rfl rfl) ?_
 refine Jq (q_load tb rfl rfl bxo rfl) ?_
 refine Jq (q_len tb rfl rfl (by first | exact gvo | exact gvd gvo (by omega))) ?_
 refine Jq (q_sub rfl rfl (by first | exact IntWalk.i64_in _ (by omega) | rfl)) ?_
 rw [hl3]
 refine L_call tb rfl rfl (ct_ascent_within val 0 ((x.gs.length : Int) - 1)) no_ps rfl ?_
 refine Jq (q_not rfl decide_not.symm) ?_
 refine Jq (q_assign rfl) ?_
 refine L_then ?_
 refine C_dec rfl (fun c38 => ?_) (fun c38 => ?_)
 refine C_seq ?_
 refine C_region ?_
 refine Jq (q_loadA tb rfl rfl bxo rfl rfl) ?_
 refine L_st tb rfl rfl ?_
 refine Jq (q_assign rfl) ?_
 refine L_then ?_
 refine C_ret ?_
 obtain ⟨e1, e2⟩ := chg_1a (x := x) k0 k1 c38
 rw [e1, e2]
 exact ret_of (rs' := []) (resCT tb rfl rfl rfl rfl bxo rfl) (fun w_ h_ => h_.pk pk_nil) (by intro r hr; cases hr) ⟨⟨_, _, _, _, _, _, _, _, _, rfl, (by intro r hr; cases hr), fun R g1 g2 g3 => ⟨g1, g2, g3⟩⟩, (by intro r hr; cases hr)⟩
 refine C_seq ?_
 refine C_region ?_
 refine Jq (q_field tb rfl rfl rfl) ?_
 refine Jq (q_field tb rfl rfl rfl) ?_
 refine Jq (q_load tb rfl rfl bxo rfl) ?_
 refine Jq (q_len tb rfl rfl (by first | exact gvo | exact gvd gvo (by omega))) ?_
 refine Jq (q_eql rfl rfl) ?_
 refine Jq (q_assign rfl) ?_
 refine L_then ?_
 refine C_dec rfl (fun c49 => ?_) (fun c49 => ?_)
 refine C_seq ?_
 refine C_region ?_
 refine Jq (q_loadA tb rfl rfl bxo rfl rfl) ?_
 refine L_st tb rfl rfl ?_
 refine Jq (q_assign rfl) ?_
 refine L_then ?_
 refine C_ret ?_
 obtain ⟨e1, e2⟩ := chg_1b (x := x) k0 k1 (Decidable.not_not.1 c38) (by omega)
 rw [e1, e2]
 exact ret_of (rs' := []) (resCT tb rfl rfl rfl rfl bxo rfl) (fun w_ h_ => h_.pk pk_nil) (by intro r hr; cases hr) ⟨⟨_, _, _, _, _, _, _, _, _, rfl, (by intro r hr; cases hr), fun R g1 g2 g3 => ⟨g1, g2, g3⟩⟩, (by intro r hr; cases hr)⟩
 have hv2 := Decidable.not_not.1 c38
 rcases (by omega : val.toNat = 0 ∨ (0 < val.toNat ∧ val.toNat < x.gs.length - 1) ∨ (0 < val.toNat ∧ val.toNat = x.gs.length - 1)) with hv0 | hv0 | hv0
 refine C_skip_blk ?_
 refine C_seq ?_
 refine C_region ?_
 refine Jq (q_field tb rfl rfl rfl) ?_
 refine Jq (q_field tb rfl rfl rfl) ?_
 refine Jq (q_load tb rfl rfl bxo rfl) ?_
 refine Jq (q_len tb rfl rfl (by first | exact gvo | exact gvd gvo (by omega))) ?_
 refine Jq (q_sub rfl rfl (by first | exact IntWalk.i64_in _ (by omega) | rfl)) ?_
 rw [hl3, show ((x.gs.length : Int) - 1) = ((x.gs.length - 1 : Nat) : Int) by omega]
 refine L_mk (lo_make tb rfl rfl rfl (n := x.gs.length - 1) rfl rfl (by omega) (by simp [maxLen]; omega)) rfl rfl rfl fun v61 => ?_
 refine Jq (q_assign rfl) ?_
 refine L_then ?_
 refine C_seq ?_
 refine C_form (v := v61) gvo (fun A61 c61 hv61 _ => ?_)
 rw [List.length_replicate] at hv61
 subst hv61
 refine C_region ?_
 refine Jq (q_move rfl) ?_
 refine Jq (q_field tb rfl rfl rfl) ?_
 refine Jq (q_field tb rfl rfl rfl) ?_
 refine Jq (q_load tb rfl rfl bxo rfl) ?_
 refine Jq (q_field tb rfl rfl rfl) ?_
 refine Jq (q_load tb rfl rfl bxo rfl) ?_
 refine Jq (q_to tb rfl rfl rfl rfl (by first | exact gvo | exact gvd gvo (by omega)) (by omega) (by first | omega | (simp; done) | (simp; omega))) ?_
 refine Jq (q_copy0 tb rfl rfl rfl rfl (sln _ _ _) (sln_take _ _ _ _) (by rw [hv0]; exact Nat.zero_min _)) ?_
 refine L_then ?_
 refine C_seq ?_
 refine Kp.C_ownS [.q 0, .q 1, .q 2, .q 3, .q 4, .q 5, .q 6, .q 7, .q 8, .q 9, .q 10, .s 11] mixed (by kernel_rfl) rfl (by kernel_rfl) ?_
 refine Kp.X_q rfl rfl rfl rfl (q_move rfl) ?_
 refine Kp.X_q rfl rfl rfl rfl (q_field tb rfl rfl rfl) ?_
 refine Kp.X_q rfl rfl rfl rfl (q_load tb rfl rfl bxo rfl) ?_
 refine Kp.X_q rfl rfl rfl rfl (q_fromF tb rfl rfl rfl rfl (by omega) (by omega)) ?_
 refine Kp.X_q rfl rfl rfl rfl (q_field tb rfl rfl rfl) ?_
 refine Kp.X_q rfl rfl rfl rfl (q_field tb rfl rfl rfl) ?_
 refine Kp.X_q rfl rfl rfl rfl (q_load tb rfl rfl bxo rfl) ?_
 refine Kp.X_q rfl rfl rfl rfl (q_field tb rfl rfl rfl) ?_
 refine Kp.X_q rfl rfl rfl rfl (q_load tb rfl rfl bxo rfl) ?_
 refine Kp.X_q rfl rfl rfl rfl (q_add rfl rfl (by first | exact IntWalk.i64_in _ (by omega) | rfl)) ?_
 refine Kp.X_q rfl rfl rfl rfl (q_from tb rfl rfl rfl rfl (by first | exact gvo | exact gvd gvo (by omega)) (by omega) (by first | omega | (simp; done) | (simp; omega))) ?_
 refine Kp.X_copy tb (k := val.toNat) (q := (x.gs.length - 1 - val.toNat)) rfl rfl rfl rfl rfl CpTo.from rfl (gvd gvo (by omega)) (fun q hq => oneAg x.gs q (flat_of_drop hq)) (by first | omega | (simp; done) | (simp; omega)) (by first | omega | (simp; done) | (simp; omega)) (by first | omega | (simp; done) | (simp; omega)) rfl ?_
 refine Kp.X_nil ?_
 dsimp only [List.cons_append, List.nil_append]
 refine L_then ?_
 refine C_seq ?_
 refine C_region ?_
 refine Jq (q_move rfl) ?_
 refine Jq (q_field tb rfl rfl rfl) ?_
 refine Jq (q_field tb rfl rfl rfl) ?_
 refine L_st tb rfl rfl ?_
 refine L_then ?_
 refine C_seq ?_
 refine C_region ?_
 refine Jq (q_loadA tb rfl rfl bxo rfl rfl) ?_
 refine L_st tb rfl rfl ?_
 refine Jq (q_assign rfl) ?_
 refine L_then ?_
 refine C_ret ?_
 obtain ⟨e1, e2⟩ := chg_1c (x := x) k0 k1 hv2 (by omega)
 rw [e1, e2]
 exact ret_of (rs' := [sl _ 112 3 ((cutG x.gs val).map cAg)]) (resCT tb rfl rfl rfl rfl bxo rfl) (fun w_ h_ => h_.pk (by repeat (first | with_reducible exact pk_nil | refine pk_box (by first | rfl | exact (cut_0 hv0 hv2) | exact (cut_1 hv0 hv2) | exact (cut_2 hv0 hv2)) ?_ | refine pk_rd rfl ?_ | refine pk_sl (by first | rfl | exact (cut_0 hv0 hv2) | exact (cut_1 hv0 hv2) | exact (cut_2 hv0 hv2)) ?_ | with_reducible refine pk_app ?_ | with_reducible refine pk_app0 ?_ | with_reducible refine pk_app0L ?_ | with_reducible exact pk_tl | refine pk_var ?_))) own1 ⟨⟨_, _, _, _, _, _, _, _, _, rfl, (by intro r hr; rw [List.mem_singleton.1 hr]; exact sl_sinks _ _ _ _), fun R g1 g2 _ => ⟨gv1 g1, gv1 g2, gs0⟩⟩, own1⟩
 refine C_skip_blk ?_
 refine C_seq ?_
 refine C_region ?_
 refine Jq (q_field tb rfl rfl rfl) ?_
 refine Jq (q_field tb rfl rfl rfl) ?_
 refine Jq (q_load tb rfl rfl bxo rfl) ?_
 refine Jq (q_len tb rfl rfl (by first | exact gvo | exact gvd gvo (by omega))) ?_
 refine Jq (q_sub rfl rfl (by first | exact IntWalk.i64_in _ (by omega) | rfl)) ?_
 rw [hl3, show ((x.gs.length : Int) - 1) = ((x.gs.length - 1 : Nat) : Int) by omega]
 refine L_mk (lo_make tb rfl rfl rfl (n := x.gs.length - 1) rfl rfl (by omega) (by simp [maxLen]; omega)) rfl rfl rfl fun v61 => ?_
 refine Jq (q_assign rfl) ?_
 refine L_then ?_
 refine C_seq ?_
 refine C_form (v := v61) gvo (fun A61 c61 hv61 _ => ?_)
 rw [List.length_replicate] at hv61
 subst hv61
 refine C_region ?_
 refine Jq (q_move rfl) ?_
 refine Jq (q_field tb rfl rfl rfl) ?_
 refine Jq (q_field tb rfl rfl rfl) ?_
 refine Jq (q_load tb rfl rfl bxo rfl) ?_
 refine Jq (q_field tb rfl rfl rfl) ?_
 refine Jq (q_load tb rfl rfl bxo rfl) ?_
 refine Jq (q_to tb rfl rfl rfl rfl (by first | exact gvo | exact gvd gvo (by omega)) (by omega) (by first | omega | (simp; done) | (simp; omega))) ?_
 first | refine L_copy tb (k := 0) (q := val.toNat) rfl rfl rfl CpTo.self rfl (gvt gvo (by omega)) (fun q hq => oneAg x.gs q (flat_of_take hq)) (by first | omega | (simp; done) | (simp; omega)) (by first | omega | (simp; done) | (simp; omega)) (by first | omega | (simp; done) | (simp; omega)) rfl ?_ | (refine L_front1 ?_; refine L_copy tb (k := 0) (q := val.toNat) rfl rfl rfl CpTo.self rfl (gvt gvo (by omega)) (fun q hq => oneAg x.gs q (flat_of_take hq)) (by first | omega | (simp; done) | (simp; omega)) (by first | omega | (simp; done) | (simp; omega)) (by first | omega | (simp; done) | (simp; omega)) rfl ?_) | (refine L_front2 ?_; refine L_copy tb (k := 0) (q := val.toNat) rfl rfl rfl CpTo.self rfl (gvt gvo (by omega)) (fun q hq => oneAg x.gs q (flat_of_take hq)) (by first | omega | (simp; done) | (simp; omega)) (by first | omega | (simp; done) | (simp; omega)) (by first | omega | (simp; done) | (simp; omega)) rfl ?_) | (refine L_front3 ?_; refine L_copy tb (k := 0) (q := val.toNat) rfl rfl rfl CpTo.self rfl (gvt gvo (by omega)) (fun q hq => oneAg x.gs q (flat_of_take hq)) (by first | omega | (simp; done) | (simp; omega)) (by first | omega | (simp; done) | (simp; omega)) (by first | omega | (simp; done) | (simp; omega)) rfl ?_)
 refine L_then ?_
 refine C_seq ?_
 refine Kp.C_ownS [.q 0, .q 1, .q 2, .q 3, .q 4, .q 5, .q 6, .q 7, .q 8, .q 9, .q 10, .s 11] mixed (by kernel_rfl) rfl (by kernel_rfl) ?_
 refine Kp.X_q rfl rfl rfl rfl (q_move rfl) ?_
 refine Kp.X_q rfl rfl rfl rfl (q_field tb rfl rfl rfl) ?_
 refine Kp.X_q rfl rfl rfl rfl (q_load tb rfl rfl bxo rfl) ?_
 refine Kp.X_q rfl rfl rfl rfl (q_fromF tb rfl rfl rfl rfl (by omega) (by omega)) ?_
 refine Kp.X_q rfl rfl rfl rfl (q_field tb rfl rfl rfl) ?_
 refine Kp.X_q rfl rfl rfl rfl (q_field tb rfl rfl rfl) ?_
 refine Kp.X_q rfl rfl rfl rfl (q_load tb rfl rfl bxo rfl) ?_
 refine Kp.X_q rfl rfl rfl rfl (q_field tb rfl rfl rfl) ?_
 refine Kp.X_q rfl rfl rfl rfl (q_load tb rfl rfl bxo rfl) ?_
 refine Kp.X_q rfl rfl rfl rfl (q_add rfl rfl (by first | exact IntWalk.i64_in _ (by omega) | rfl)) ?_
 refine Kp.X_q rfl rfl rfl rfl (q_from tb rfl rfl rfl rfl (by first | exact gvo | exact gvd gvo (by omega)) (by omega) (by first | omega | (simp; done) | (simp; omega))) ?_
 refine Kp.X_copy tb (k := val.toNat) (q := (x.gs.length - 1 - val.toNat)) rfl rfl rfl rfl rfl CpTo.from rfl (gvd gvo (by omega)) (fun q hq => oneAg x.gs q (flat_of_drop hq)) (by first | omega | (simp; done) | (simp; omega)) (by first | omega | (simp; done) | (simp; omega)) (by first | omega | (simp; done) | (simp; omega)) rfl ?_
 refine Kp.X_nil ?_
 dsimp only [List.cons_append, List.nil_append]
 refine L_then ?_
 refine C_seq ?_
 refine C_region ?_
 refine Jq (q_move rfl) ?_
 refine Jq (q_field tb rfl rfl rfl) ?_
 refine Jq (q_field tb rfl rfl rfl) ?_
 refine L_st tb rfl rfl ?_
 refine L_then ?_
 refine C_seq ?_
 refine C_region ?_
 refine Jq (q_loadA tb rfl rfl bxo rfl rfl) ?_
 refine L_st tb rfl rfl ?_
 refine Jq (q_assign rfl) ?_
 refine L_then ?_
 refine C_ret ?_
 obtain ⟨e1, e2⟩ := chg_1c (x := x) k0 k1 hv2 (by omega)
 rw [e1, e2]
 exact ret_of (rs' := [sl _ 112 3 ((cutG x.gs val).map cAg)]) (resCT tb rfl rfl rfl rfl bxo rfl) (fun w_ h_ => h_.pk (by repeat (first | with_reducible exact pk_nil | refine pk_box (by first | rfl | exact (cut_0 hv0 hv2) | exact (cut_1 hv0 hv2) | exact (cut_2 hv0 hv2)) ?_ | refine pk_rd rfl ?_ | refine pk_sl (by first | rfl | exact (cut_0 hv0 hv2) | exact (cut_1 hv0 hv2) | exact (cut_2 hv0 hv2)) ?_ | with_reducible refine pk_app ?_ | with_reducible refine pk_app0 ?_ | with_reducible refine pk_app0L ?_ | with_reducible exact pk_tl | refine pk_var ?_))) own1 ⟨⟨_, _, _, _, _, _, _, _, _, rfl, (by intro r hr; rw [List.mem_singleton.1 hr]; exact sl_sinks _ _ _ _), fun R g1 g2 _ => ⟨gv1 g1, gv1 g2, gs0⟩⟩, own1⟩
 refine C_skip_blk ?_
 refine C_seq ?_
 refine C_region ?_
 refine Jq (q_field tb rfl rfl rfl) ?_
 refine Jq (q_field tb rfl rfl rfl) ?_
 refine Jq (q_load tb rfl rfl bxo rfl) ?_
 refine Jq (q_len tb rfl rfl (by first | exact gvo | exact gvd gvo (by omega))) ?_
 refine Jq (q_sub rfl rfl (by first | exact IntWalk.i64_in _ (by omega) | rfl)) ?_
 rw [hl3, show ((x.gs.length : Int) - 1) = ((x.gs.length - 1 : Nat) : Int) by omega]
 refine L_mk (lo_make tb rfl rfl rfl (n := x.gs.length - 1) rfl rfl (by omega) (by simp [maxLen]; omega)) rfl rfl rfl fun v61 => ?_
 refine Jq (q_assign rfl) ?_
 refine L_then ?_
 refine C_seq ?_
 refine C_form (v := v61) gvo (fun A61 c61 hv61 _ => ?_)
 rw [List.length_replicate] at hv61
 subst hv61
 refine C_region ?_
 refine Jq (q_move rfl) ?_
 refine Jq (q_field tb rfl rfl rfl) ?_
 refine Jq (q_field tb rfl rfl rfl) ?_
 refine Jq (q_load tb rfl rfl bxo rfl) ?_
 refine Jq (q_field tb rfl rfl rfl) ?_
 refine Jq (q_load tb rfl rfl bxo rfl) ?_
 refine Jq (q_to tb rfl rfl rfl rfl (by first | exact gvo | exact gvd gvo (by omega)) (by omega) (by first | omega | (simp; done) | (simp; omega))) ?_
 first | refine L_copy tb (k := 0) (q := val.toNat) rfl rfl rfl CpTo.self rfl (gvt gvo (by omega)) (fun q hq => oneAg x.gs q (flat_of_take hq)) (by first | omega | (simp; done) | (simp; omega)) (by first | omega | (simp; done) | (simp; omega)) (by first | omega | (simp; done) | (simp; omega)) rfl ?_ | (refine L_front1 ?_; refine L_copy tb (k := 0) (q := val.toNat) rfl rfl rfl CpTo.self rfl (gvt gvo (by omega)) (fun q hq => oneAg x.gs q (flat_of_take hq)) (by first | omega | (simp; done) | (simp; omega)) (by first | omega | (simp; done) | (simp; omega)) (by first | omega | (simp; done) | (simp; omega)) rfl ?_) | (refine L_front2 ?_; refine L_copy tb (k := 0) (q := val.toNat) rfl rfl rfl CpTo.self rfl (gvt gvo (by omega)) (fun q hq => oneAg x.gs q (flat_of_take hq)) (by first | omega | (simp; done) | (simp; omega)) (by first | omega | (simp; done) | (simp; omega)) (by first | omega | (simp; done) | (simp; omega)) rfl ?_) | (refine L_front3 ?_; refine L_copy tb (k := 0) (q := val.toNat) rfl rfl rfl CpTo.self rfl (gvt gvo (by omega)) (fun q hq => oneAg x.gs q (flat_of_take hq)) (by first | omega | (simp; done) | (simp; omega)) (by first | omega | (simp; done) | (simp; omega)) (by first | omega | (simp; done) | (simp; omega)) rfl ?_)
 refine L_then ?_
 refine C_seq ?_
 refine Kp.C_ownS [.q 0, .q 1, .q 2, .q 3, .q 4, .q 5, .q 6, .q 7, .q 8, .q 9, .q 10, .s 11] mixed (by kernel_rfl) rfl (by kernel_rfl) ?_
 refine Kp.X_q rfl rfl rfl rfl (q_move rfl) ?_
 refine Kp.X_q rfl rfl rfl rfl (q_field tb rfl rfl rfl) ?_
 refine Kp.X_q rfl rfl rfl rfl (q_load tb rfl rfl bxo rfl) ?_
 refine Kp.X_q rfl rfl rfl rfl (q_fromF tb rfl rfl rfl rfl (by omega) (by omega)) ?_
 refine Kp.X_q rfl rfl rfl rfl (q_field tb rfl rfl rfl) ?_
 refine Kp.X_q rfl rfl rfl rfl (q_field tb rfl rfl rfl) ?_
 refine Kp.X_q rfl rfl rfl rfl (q_load tb rfl rfl bxo rfl) ?_
 refine Kp.X_q rfl rfl rfl rfl (q_field tb rfl rfl rfl) ?_
 refine Kp.X_q rfl rfl rfl rfl (q_load tb rfl rfl bxo rfl) ?_
 refine Kp.X_q rfl rfl rfl rfl (q_add rfl rfl (by first | exact IntWalk.i64_in _ (by omega) | rfl)) ?_
 refine Kp.X_q rfl rfl rfl rfl (q_from tb rfl rfl rfl rfl (by first | exact gvo | exact gvd gvo (by omega)) (by omega) (by first | omega | (simp; done) | (simp; omega))) ?_
 refine Kp.X_copy0 tb rfl rfl rfl rfl rfl rfl (sln_drop _ _ _ _ _) (sln_drop _ _ _ _ _) (by rw [show x.gs.length - 1 - val.toNat = 0 by omega]; exact Nat.min_zero _) rfl ?_
 refine Kp.X_nil ?_
 dsimp only [List.cons_append, List.nil_append]
 refine L_then ?_
 refine C_seq ?_
 refine C_region ?_
 refine Jq (q_move rfl) ?_
 refine Jq (q_field tb rfl rfl rfl) ?_
 refine Jq (q_field tb rfl rfl rfl) ?_
 refine L_st tb rfl rfl ?_
 refine L_then ?_
 refine C_seq ?_
 refine C_region ?_
 refine Jq (q_loadA tb rfl rfl bxo rfl rfl) ?_
 refine L_st tb rfl rfl ?_
 refine Jq (q_assign rfl) ?_
 refine L_then ?_
 refine C_ret ?_
 obtain ⟨e1, e2⟩ := chg_1c (x := x) k0 k1 hv2 (by omega)
 rw [e1, e2]
 exact ret_of (rs' := [sl _ 112 3 ((cutG x.gs val).map cAg)]) (resCT tb rfl rfl rfl rfl bxo rfl) (fun w_ h_ => h_.pk (by repeat (first | with_reducible exact pk_nil | refine pk_box (by first | rfl | exact (cut_0 hv0 hv2) | exact (cut_1 hv0 hv2) | exact (cut_2 hv0 hv2)) ?_ | refine pk_rd rfl ?_ | refine pk_sl (by first | rfl | exact (cut_0 hv0 hv2) | exact (cut_1 hv0 hv2) | exact (cut_2 hv0 hv2)) ?_ | with_reducible refine pk_app ?_ | with_reducible refine pk_app0 ?_ | with_reducible refine pk_app0L ?_ | with_reducible exact pk_tl | refine pk_var ?_))) own1 ⟨⟨_, _, _, _, _, _, _, _, _, rfl, (by intro r hr; rw [List.mem_singleton.1 hr]; exact sl_sinks _ _ _ _), fun R g1 g2 _ => ⟨gv1 g1, gv1 g2, gs0⟩⟩, own1⟩
 refine C_seq ?_
 refine C_region ?_
 refine Jq (q_eql rfl rfl) ?_
 refine Jq (q_assign rfl) ?_
 refine L_then ?_
 refine C_dec rfl (fun k2 => ?_) (fun k2 => ?_)
 refine C_seq ?_
 refine C_region ?_
 refine Jq (q_field tb rfl rfl rfl) ?_
 refine Jq (q_load tb rfl rfl bxo rfl) ?_
 refine Jq (q_field tb rfl rfl rfl) ?_
 refine Jq (q_field tb rfl rfl rfl) ?_
 refine Jq (q_field tb rfl rfl rfl) ?_
 refine L_st tb rfl rfl ?_
 refine L_then ?_
 refine C_seq ?_
 refine C_draw (n := 5) [(0, false), (1, false), (2, false), (3, false), (4, true)] mixed (by kernel_rfl) ?_
 refine Yq rfl (q_loadA tb rfl rfl bxo rfl rfl) ?_
 refine Yq rfl (q_field tb rfl rfl rfl) ?_
 refine Yq rfl (q_field tb rfl rfl rfl) ?_
 refine Yq rfl (q_loadA tb rfl rfl bxo rfl rfl) ?_
 refine W_call tb rfl rfl rfl rfl (ct_ascent_CheckRules (loR x.r val)) no_ps rfl ?_
 refine W_nil ?_
 refine L_st tb rfl rfl ?_
 refine Jq (q_assign rfl) ?_
 refine L_then ?_
 refine C_ret ?_
 obtain ⟨e1, e2⟩ := chg_2 (x := x) (v := val) k2
 rw [e1, e2]
 exact ret_of (rs' := []) (resCT tb rfl rfl rfl rfl bxo rfl) (fun w_ h_ => h_.pk pk_nil) (by intro r hr; cases hr) ⟨⟨_, _, _, _, _, _, _, _, _, rfl, (by intro r hr; cases hr), fun R g1 g2 g3 => ⟨g1, g2, g3⟩⟩, (by intro r hr; cases hr)⟩
 refine C_skip_blk ?_
 refine C_seq ?_
 refine C_region ?_
 refine Jq (q_loadA tb rfl rfl bxo rfl rfl) ?_
 refine L_st tb rfl rfl ?_
 refine Jq (q_assign rfl) ?_
 refine L_then ?_
 refine C_ret ?_
 obtain ⟨e1, e2⟩ := chg_3 (x := x) (v := val) k0 k1 k2
 rw [e1, e2]
 exact ret_of (rs' := []) (resCT tb rfl rfl rfl rfl bxo rfl) (fun w_ h_ => h_.pk pk_nil) (by intro r hr; cases hr) ⟨⟨_, _, _, _, _, _, _, _, _, rfl, (by intro r hr; cases hr), fun R g1 g2 g3 => ⟨g1, g2, g3⟩⟩, (by intro r hr; cases hr)⟩
set_option maxRecDepth 100000 in
set_option maxHeartbeats 2000000 in
theorem ct_ascent_Changed (v u z : Value) (x : Asc) (kd val : Int) (hle1 : x.ts.length ≤ 100000) (hle2 : x.ls.length ≤ 100000) (hle3 : x.gs.length ≤ 100000) : Ct Tryz.prog 9 [.agg (cAt v u z x).toArray, .agg #[.int .i64 kd, .int .i64 val]] [(v, 4, x.ts.map cCp), (u, 4, x.ls.map cLd), (z, 3, x.gs.map cAg)] (isRg v u z x (chA x kd val) (chE x kd val)) := by
 refine Ct.of (N := 29) Tryz.func9 rfl rfl rfl fun w => ?_
 refine C_weak (E' := [(0, .agg (cAt v u z x).toArray), (1, .agg #[.int .i64 kd, .int .i64 val])]) (rs' := [rd v 4 (x.ts.map cCp), rd u 4 (x.ls.map cLd), rd z 3 (x.gs.map cAg)]) ⟨rfl, rfl, trivial⟩ (fun _ h => h) ?_
 have hl1 := len_map cCp x.ts
 have hl2 := len_map cLd x.ls
 have hl3 := len_map cAg x.gs
 refine C_seq ?_
 refine C_region ?_
 refine L_box rfl rfl rfl fun g2 => ?_
 refine L_box rfl rfl rfl fun g3 => ?_
 refine L_alloc tb rfl rfl fun g4 => ?_
 refine Jq (q_assign rfl) ?_
 refine L_then ?_
 refine C_seq ?_
 refine C_region ?_
 refine Jq (q_loadA tb rfl rfl bxo rfl rfl) ?_
 refine L_lo rfl rfl rfl (lo_call tb rfl rfl (ct_ascent_open v u z x (by omega) (by omega) (by omega)) (ps_cons gvo (ps_cons gvo (ps_cons gvo no_ps))) isTk_sinks) ?_
 rintro _ _ ⟨A10, n10, c10, B10, m10, d10, C10, k10, e10, rfl, rfl⟩
 refine Jq (q_move rfl) ?_
 refine Jq (q_ext0 rfl) ?_
 refine Jq (q_ext1 rfl) ?_
 refine L_alloc tb rfl rfl fun g6 => ?_
 refine L_st tb rfl rfl ?_
 refine Jq (q_assign rfl) ?_
 refine L_then ?_
 refine C_seq ?_
 refine C_seq ?_
 refine C_region ?_
 refine Jq (q_move rfl) ?_
 refine Jq (q_neq rfl rfl) ?_
 refine L_then ?_
 refine C_dec rfl (fun h1 => ?_) (fun h1 => ?_)
 refine C_seq ?_
 refine C_region ?_
 refine Jq (by first | exact q_build tb rfl rfl rfl rfl | exact q_buildArr tb rfl rfl rfl rfl rfl) ?_
 refine Jq (q_move rfl) ?_
 refine L_st tb rfl rfl ?_
 refine Jq (q_assign rfl) ?_
 refine L_then ?_
 refine C_ret ?_
 obtain ⟨e1, e2⟩ := ch_1 (kd := kd) (v := val) h1
 rw [e1, e2]
 exact ret_of (rs' := [sl (.slice none 0 0) 120 4 [], sl (.slice none 0 0) 134 4 [], sl (.slice none 0 0) 112 3 []]) (resCT tb rfl rfl rfl rfl bxo rfl) (fun w_ h_ => ws_nil (ws_nil (ws_nil (sub_nil w_ h_)))) own3 ⟨rf_nil, own3⟩
 have hz := Decidable.not_not.1 h1
 rw [opA_2 hz]
 have H := ckAsc_ok hz
 refine C_skip_then ?_
 refine C_seq ?_
 refine C_region ?_
 refine Jq (q_loadA tb rfl rfl bxo rfl rfl) ?_
 refine Jq (q_loadA tb rfl rfl bxo rfl rfl) ?_
 refine L_lo rfl rfl rfl (lo_call tb rfl rfl (ct_ascent_task_change _ _ _ x kd val H) (ps_cons gvo (ps_cons gvo (ps_cons gvo no_ps))) isRg_sinks) ?_
 rintro _ rs20 ⟨⟨A20, n20, c20, B20, m20, d20, C20, k20, e20, rfl, hsk20, hG20⟩, ho20⟩
 refine Jq (q_move rfl) ?_
 refine Jq (q_ext0 rfl) ?_
 refine Jq (q_ext1 rfl) ?_
 refine L_st tb rfl rfl ?_
 refine Jq (q_assign rfl) ?_
 refine L_then ?_
 refine C_seq ?_
 refine C_seq ?_
 refine C_region ?_
 refine Jq (q_move rfl) ?_
 refine Jq (q_neq rfl rfl) ?_
 refine L_then ?_
 refine C_dec rfl (fun h2 => ?_) (fun h2 => ?_)
 refine C_seq ?_
 refine C_region ?_
 refine Jq (by first | exact q_build tb rfl rfl rfl rfl | exact q_buildArr tb rfl rfl rfl rfl rfl) ?_
 refine Jq (q_move rfl) ?_
 refine L_st tb rfl rfl ?_
 refine Jq (q_assign rfl) ?_
 refine L_then ?_
 refine C_ret ?_
 obtain ⟨e1, e2⟩ := ch_2 hz h2
 rw [e1, e2]
 exact ret_of (rs' := [sl (.slice none 0 0) 120 4 [], sl (.slice none 0 0) 134 4 [], sl (.slice none 0 0) 112 3 []]) (resCT tb rfl rfl rfl rfl bxo rfl) (fun w_ h_ => ws_nil (ws_nil (ws_nil (sub_nil w_ h_)))) own3 ⟨rf_nil, own3⟩
 refine C_skip_then ?_
 refine C_seq ?_
 refine C_region ?_
 refine Jq (q_field tb rfl rfl rfl) ?_
 refine Jq (q_loadA tb rfl rfl bxo rfl rfl) ?_
 refine L_st tb rfl rfl ?_
 refine Jq (q_assign rfl) ?_
 refine L_then ?_
 refine C_ret ?_
 obtain ⟨e1, e2⟩ := ch_3 hz h2
 rw [e1, e2]
 exact ret_of (rs' := rs20 ++ [sl (.slice A10 n10 c10) 120 4 (x.ts.map cCp), sl (.slice B10 m10 d10) 134 4 (x.ls.map cLd), sl (.slice C10 k10 e10) 112 3 (x.gs.map cAg)]) (resCT tb rfl rfl rfl rfl bxo rfl) (fun w_ h_ => h_.pk (pk_lst (by repeat (first | with_reducible exact pk_nil | refine pk_box rfl ?_ | refine pk_rd rfl ?_ | refine pk_sl rfl ?_ | with_reducible refine pk_app ?_ | with_reducible refine pk_app0 ?_ | with_reducible refine pk_app0L ?_ | with_reducible exact pk_tl | refine pk_var ?_)))) (own_app ho20 own3) ⟨⟨_, _, _, _, _, _, _, _, _, rfl, sinks_app hsk20 sinks3, fun R _ _ _ => by rw [List.append_assoc]; exact hG20 _ gs0 (gv1 gs0) (gv1 (gv1 gs0))⟩, own_app ho20 own3⟩
end Go.Proofs.YtacndicgpkeobaaGreatDoor
