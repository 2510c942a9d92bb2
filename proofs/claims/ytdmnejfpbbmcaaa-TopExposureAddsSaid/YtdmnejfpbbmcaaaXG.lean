/-
  Walks: each function named returns what its model says. Conditions: those in front of each theorem.
-/
import Derived.Test.YtdmnejfpbbmcaaaArgP
import Derived.Test.YtdmnejfpbbmcaaaXF
namespace Go.Proofs.Ytdmnejfpbbmcaaa
open Go.RowKit

set_option maxRecDepth 100000 in
theorem ct_exposure_leg_breathes (x : Le) (b n : Int) (H : okLe x) (hb : 1 ≤ b ∧ b ≤ 100000) (hn : 0 ≤ n ∧ n ≤ x.x.s) (hs : n = x.x.s ∨ x.x.s ≤ 20000) : Ct Try.prog 68 [.agg (cLe x).toArray, .int .i64 b, .int .i64 n] [] (isV (.int .i64 (brM b n x))) := by
 refine Ct.of (N := 46) Try.func68 rfl rfl rfl fun w => ?_
 refine C_weak (E' := [(0, .agg (cLe x).toArray), (1, .int .i64 b), (2, .int .i64 n)]) (rs' := []) ⟨rfl, rfl, rfl, trivial⟩ (fun _ h => h) ?_
 have hs9 := H.s; have hb9 := H.b; have hf9 := H.f; have ht9 := H.t; have hsf9 := H.sf; have hd9 := H.d
 obtain ⟨f1, f2⟩ := br_fact H hb hn
 refine C_seq ?_
 refine C_region ?_
 refine L_box rfl rfl rfl fun g3 => ?_
 refine Jq (q_assign rfl) ?_
 refine L_then ?_
 refine C_seq ?_
 refine C_seq ?_
 refine C_region ?_
 refine Jq (q_move rfl) ?_
 refine Jq (q_field tb rfl rfl rfl) ?_
 refine Jq (q_field tb rfl rfl rfl) ?_
 refine Jq (q_load tb rfl rfl bxo rfl) ?_
 refine Jq (q_eql rfl rfl) ?_
 refine L_then ?_
 refine C_dec rfl (fun heq => ?_) (fun heq => ?_)
 refine C_seq ?_
 refine C_region ?_
 refine Jq (q_move rfl) ?_
 refine Jq (q_field tb rfl rfl rfl) ?_
 refine Jq (q_load tb rfl rfl bxo rfl) ?_
 refine Jq (q_field tb rfl rfl rfl) ?_
 refine Jq (q_load tb rfl rfl bxo rfl) ?_
 refine Jq (q_add rfl rfl (by first | exact IntWalk.i64_in _ (by omega) | rfl)) ?_
 refine Jq (q_mul rfl rfl (by first | exact IntWalk.i64_in _ (by omega) | rfl)) ?_
 refine Jq (q_move rfl) ?_
 refine Jq (q_mul rfl rfl (by first | exact IntWalk.i64_in _ (by omega) | rfl)) ?_
 refine L_call tb rfl rfl (ct_exposure_up (b * (x.f + x.t) * n) 120000 (by omega)) no_ps rfl ?_
 refine Jq (q_assign rfl) ?_
 refine L_then ?_
 refine C_ret ?_
 exact ret_of (res1 rfl rfl) sub_nil (by intro r hr; cases hr) ⟨(congrArg (Value.int .i64) (by unfold brM; rw [if_pos heq])), rfl⟩
 obtain ⟨f3, f4, f5, f6, f7, f8⟩ := br_fact2 H hb hn (by omega)
 refine C_skip_then ?_
 refine C_seq ?_
 refine C_region ?_
 refine Jq (q_move rfl) ?_
 refine Jq (q_move rfl) ?_
 refine Jq (q_mul rfl rfl (by first | exact IntWalk.i64_in _ (by omega) | rfl)) ?_
 refine Jq (q_field tb rfl rfl rfl) ?_
 refine Jq (q_load tb rfl rfl bxo rfl) ?_
 refine Jq (q_mul rfl rfl (by first | exact IntWalk.i64_in _ (by omega) | rfl)) ?_
 refine Jq (q_field tb rfl rfl rfl) ?_
 refine Jq (q_field tb rfl rfl rfl) ?_
 refine Jq (q_load tb rfl rfl bxo rfl) ?_
 refine Jq (q_mul rfl rfl (by first | exact IntWalk.i64_in _ (by omega) | rfl)) ?_
 refine Jq (q_field tb rfl rfl rfl) ?_
 refine Jq (q_load tb rfl rfl bxo rfl) ?_
 refine Jq (q_field tb rfl rfl rfl) ?_
 refine Jq (q_load tb rfl rfl bxo rfl) ?_
 refine Jq (q_sub rfl rfl (by first | exact IntWalk.i64_in _ (by omega) | rfl)) ?_
 refine Jq (q_move rfl) ?_
 refine Jq (q_mul rfl rfl (by first | exact IntWalk.i64_in _ (by omega) | rfl)) ?_
 refine Jq (q_add rfl rfl (by first | exact IntWalk.i64_in _ (by omega) | rfl)) ?_
 refine Jq (q_mul rfl rfl (by first | exact IntWalk.i64_in _ (by omega) | rfl)) ?_
 refine Jq (q_field tb rfl rfl rfl) ?_
 refine Jq (q_field tb rfl rfl rfl) ?_
 refine Jq (q_load tb rfl rfl bxo rfl) ?_
 refine Jq (q_mul rfl rfl (by first | exact IntWalk.i64_in _ (by omega) | rfl)) ?_
 refine L_call tb rfl rfl (ct_exposure_up (b * n * (2 * x.f * x.x.s + (x.t - x.f) * n)) (120000 * x.x.s) (by omega)) no_ps rfl ?_
 refine Jq (q_assign rfl) ?_
 refine L_then ?_
 refine C_ret ?_
 exact ret_of (res1 rfl rfl) sub_nil (by intro r hr; cases hr) ⟨(congrArg (Value.int .i64) (by unfold brM; rw [if_neg heq])), rfl⟩
set_option maxRecDepth 100000 in
set_option maxHeartbeats 1000000 in
theorem ct_exposure_ClockOf (t : Value) (r : Ru) (nm : ByteArray) (sf : Int) (v u : Value) (gs : List Gs) (ls : List Dl) (hle : gs.length ≤ 100000) (hle2 : ls.length ≤ 100000) (hnm : nm.size ≤ 1000000000000) (hlt : r.tb.length ≤ 100000) : Ct Try.prog 26 [.agg (cPl nm sf v u).toArray, .agg (cRu t r).toArray] [(v, 2, gs.map cGs), (u, 3, ls.map cDl), (t, 2, r.tb.map cOw)] (isSlN 3 1 ((clkE nm sf gs ls r).1.map cI) (.int .i64 (clkE nm sf gs ls r).2)) := by
 refine Ct.of (N := 31) Try.func26 rfl rfl rfl fun w => ?_
 refine C_weak (E' := [(0, .agg (cPl nm sf v u).toArray), (1, .agg (cRu t r).toArray)]) (rs' := [rd v 2 (gs.map cGs), rd u 3 (ls.map cDl), rd t 2 (r.tb.map cOw)]) ⟨rfl, rfl, trivial⟩ (fun _ h => h) ?_
 have hl1 := len_map cGs gs
 have hl2 := len_map cDl ls
 have hl1 := len_map cOw r.tb
 refine C_seq ?_
 refine C_region ?_
 refine L_box rfl rfl rfl fun g2 => ?_
 refine L_box rfl rfl rfl fun g3 => ?_
 refine Jq (q_assign rfl) ?_
 refine Jq (q_assign rfl) ?_
 refine L_then ?_
 refine C_seq ?_
 refine C_seq ?_
 refine C_region ?_
 refine Jq (q_loadA tb rfl rfl bxo rfl rfl) ?_
 refine Jq (q_loadA tb rfl rfl bxo rfl rfl) ?_
 refine L_call tb rfl rfl (ct_exposure_both t r nm sf v u gs ls hle hle2 hnm hlt) (ps_cons gvo (ps_cons gvo (ps_cons gvo no_ps))) rfl ?_
 refine Jq (q_assign rfl) ?_
 refine L_then ?_
 refine C_seq ?_
 refine C_region ?_
 refine Jq (q_move rfl) ?_
 refine Jq (q_neq rfl rfl) ?_
 refine L_then ?_
 refine C_dec rfl (fun h1 => ?_) (fun h1 => ?_)
 refine C_seq ?_
 refine C_region ?_
 refine Jq (q_move rfl) ?_
 refine Jq (q_assign rfl) ?_
 refine Jq (q_assign rfl) ?_
 refine L_then ?_
 refine C_ret ?_
 rw [clkE_1 h1]
 exact ret_of (rs' := [sl (.slice none 0 0) 3 1 []]) (res2 rfl rfl rfl) (fun w_ h_ => ws_nil (sub_nil w_ h_)) own1 ⟨_, rfl, rfl⟩
 have hz := Decidable.not_not.1 h1; obtain ⟨_, H, HR, _⟩ := bothE_ok hz; have hll := H.ll
 have hlen : ((legsM sf gs ls).map cLe).length = ls.length := le_len _ _ _ _
 refine C_skip_then ?_
 refine C_seq ?_
 refine C_region ?_
 refine Jq (q_assign rfl) ?_
 refine L_then ?_
 refine C_seq ?_
 refine C_seq ?_
 refine C_region ?_
 refine Jq (q_loadA tb rfl rfl bxo rfl rfl) ?_
 refine L_callS tb rfl rfl (ct_exposure_legs nm sf v u gs ls H) (ps_cons gvo (ps_cons gvo no_ps)) rfl fun v17 => ?_
 refine Jq (q_len tb rfl rfl gvo) ?_
 refine Jq (q_move rfl) ?_
 refine L_then ?_
 refine C_block ?_
 refine C_nil 3 1 ?_
 refine C_loop (ι := Nat × Value) (fun q => ([(2, .pointer (some ⟨g2, 0, none⟩)), (3, .pointer (some ⟨g3, 0, none⟩)), (7, q.2), (17, v17), (18, .int .i64 ((legsM sf gs ls).map cLe).length), (19, .int .i64 (q.1 : Int))], [sl q.2 3 1 ((clksK r.tb sf gs ls q.1).map cI), sl v17 108 9 ((legsM sf gs ls).map cLe), box g3 53 (cRu t r), box g2 25 (cPl nm sf v u), rd v 2 (gs.map cGs), rd u 3 (ls.map cDl), rd t 2 (r.tb.map cOw)])) (fun q => q.1 ≤ ls.length) (fun q => ls.length - q.1) (0, .slice none 0 0) (Nat.zero_le _) (fun a w hs => hs.weak ⟨rfl, rfl, rfl, rfl, rfl, rfl, trivial⟩ (fun h => h.pk (by repeat (first | with_reducible exact pk_nil | refine pk_box rfl ?_ | refine pk_rd rfl ?_ | refine pk_sl rfl ?_ | with_reducible refine pk_app ?_ | with_reducible refine pk_app0 ?_ | with_reducible refine pk_app0L ?_ | with_reducible exact pk_tl | refine pk_var ?_)))) ?_
 rintro ⟨k, y⟩ hk9
 dsimp only at hk9 ⊢
 refine C_seq ?_
 refine C_region ?_
 refine Jq (q_lss rfl rfl) ?_
 refine L_then ?_
 refine C_seq ?_
 refine C_dec rfl (fun h2 => ?_) (fun h2 => ?_)
 have hel : ((legsM sf gs ls).map cLe)[k]? = some (cLe (legAt sf gs ls k)) := le_cell (by omega)
 refine C_skip_then ?_
 refine C_seq ?_
 refine C_block ?_
 refine C_seq ?_
 refine C_region ?_
 refine Jq (by first | exact q_index tb rfl rfl rfl rfl gvo (by omega) (by first | omega | (simp; done) | (simp; omega)) | exact q_indexP tb rfl rfl rfl rfl (by omega) (by omega)) ?_
 refine Jq (q_loadEA tb rfl rfl gvo (i := k) (o := 0) (by omega) hel rfl rfl) ?_
 refine L_alloc tb rfl rfl fun g9 => ?_
 refine L_st tb rfl rfl ?_
 refine L_then ?_
 refine C_res (rs' := [box g9 108 (cLe (legAt sf gs ls k)), sl y 3 1 ((clksK r.tb sf gs ls k).map cI), sl v17 108 9 ((legsM sf gs ls).map cLe), box g3 53 (cRu t r), box g2 25 (cPl nm sf v u), rd v 2 (gs.map cGs), rd u 3 (ls.map cDl), rd t 2 (r.tb.map cOw)]) (fun _ h => h.pk (by repeat (first | with_reducible exact pk_nil | refine pk_box rfl ?_ | refine pk_rd rfl ?_ | refine pk_sl rfl ?_ | with_reducible refine pk_app ?_ | with_reducible refine pk_app0 ?_ | with_reducible refine pk_app0L ?_ | with_reducible exact pk_tl | refine pk_var ?_))) ?_
 refine C_region ?_
 refine Jq (q_move rfl) ?_
 refine Jq (q_loadA tb rfl rfl bxo rfl rfl) ?_
 refine Jq (q_loadA tb rfl rfl bxo rfl rfl) ?_
 refine L_call tb rfl rfl (ct_exposure_leg_clock t (legAt sf gs ls k) r (H.le (by omega)) HR.tb) (ps_cons gvo no_ps) rfl ?_
 refine L_mk (lo_bslice tb rfl rfl rfl (xs := [cI (clkM r.tb (legAt sf gs ls k))]) rfl rfl (by simp [cI]) rfl (by omega) rfl) rfl rfl rfl fun v27 => ?_
 refine L_ap tb rfl rfl rfl rfl gvo (by simp [Value.oneCell', cI]) (by simp [maxLen, List.length_map, clksK_len]; omega) (by simp [List.length_map, clksK_len]; omega) fun v28 => ?_
 refine Jq (q_assign rfl) ?_
 refine L_blk ?_
 refine C_region ?_
 refine Jq (q_add rfl rfl (by first | exact IntWalk.i64_in _ (by omega) | rfl)) ?_
 refine Jq (q_move rfl) ?_
 refine L_end ?_
 exact fun ac_ wo_ hs_ => ⟨(k + 1, v28), (by dsimp only; omega), (by dsimp only; omega), hs_.weak ⟨rfl, rfl, rfl, rfl, rfl, rfl, trivial⟩ (fun h => h.pk (by repeat (first | with_reducible exact pk_nil | refine pk_box (by first | rfl | exact clk_cells _ _ _ _ _) ?_ | refine pk_rd rfl ?_ | refine pk_sl (by first | rfl | exact clk_cells _ _ _ _ _) ?_ | with_reducible refine pk_app ?_ | with_reducible refine pk_app0 ?_ | with_reducible refine pk_app0L ?_ | with_reducible exact pk_tl | refine pk_var ?_)))⟩
 refine C_exit ?_
 change C Try.prog _ _ _ _ _ _ _
 refine C_seq ?_
 refine C_region ?_
 refine Jq (q_move rfl) ?_
 refine Jq (q_assign rfl) ?_
 refine Jq (q_assign rfl) ?_
 refine L_then ?_
 refine C_ret ?_
 obtain rfl : k = ls.length := by omega
 rw [clkE_2 hz]
 exact ret_of (rs' := [sl y 3 1 ((clksK r.tb sf gs ls ls.length).map cI)]) (res2 rfl rfl rfl) (fun w_ h_ => h_.pk (by repeat (first | with_reducible exact pk_nil | refine pk_box rfl ?_ | refine pk_rd rfl ?_ | refine pk_sl rfl ?_ | with_reducible refine pk_app ?_ | with_reducible refine pk_app0 ?_ | with_reducible refine pk_app0L ?_ | with_reducible exact pk_tl | refine pk_var ?_))) own1 ⟨_, rfl, rfl⟩
set_option maxRecDepth 100000 in
set_option maxHeartbeats 1000000 in
theorem ct_exposure_Consumed (nm : ByteArray) (sf : Int) (v u : Value) (gs : List Gs) (ls : List Dl) (hle : gs.length ≤ 100000) (hle2 : ls.length ≤ 100000) (hnm : nm.size ≤ 1000000000000) (b : Int) : Ct Try.prog 28 [.agg (cPl nm sf v u).toArray, .int .i64 b] [(v, 2, gs.map cGs), (u, 3, ls.map cDl)] (isSlN 3 1 ((consE nm sf gs ls b).1.map cI) (.int .i64 (consE nm sf gs ls b).2)) := by
 refine Ct.of (N := 45) Try.func28 rfl rfl rfl fun w => ?_
 refine C_weak (E' := [(0, .agg (cPl nm sf v u).toArray), (1, .int .i64 b)]) (rs' := [rd v 2 (gs.map cGs), rd u 3 (ls.map cDl)]) ⟨rfl, rfl, trivial⟩ (fun _ h => h) ?_
 have hl1 := len_map cGs gs
 have hl2 := len_map cDl ls
 refine C_seq ?_
 refine C_region ?_
 refine L_box rfl rfl rfl fun g2 => ?_
 refine Jq (q_assign rfl) ?_
 refine Jq (q_assign rfl) ?_
 refine L_then ?_
 refine C_seq ?_
 refine C_seq ?_
 refine C_region ?_
 refine Jq (q_loadA tb rfl rfl bxo rfl rfl) ?_
 refine L_call tb rfl rfl (ct_exposure_checkPlan nm sf v u gs ls hle hle2 hnm) (ps_cons gvo (ps_cons gvo no_ps)) rfl ?_
 refine Jq (q_assign rfl) ?_
 refine L_then ?_
 refine C_seq ?_
 refine C_region ?_
 refine Jq (q_move rfl) ?_
 refine Jq (q_neq rfl rfl) ?_
 refine L_then ?_
 refine C_dec rfl (fun h1 => ?_) (fun h1 => ?_)
 refine C_seq ?_
 refine C_region ?_
 refine Jq (q_move rfl) ?_
 refine Jq (q_assign rfl) ?_
 refine Jq (q_assign rfl) ?_
 refine L_then ?_
 refine C_ret ?_
 rw [consE_1 h1]
 exact ret_of (rs' := [sl (.slice none 0 0) 3 1 []]) (res2 rfl rfl rfl) (fun w_ h_ => ws_nil (sub_nil w_ h_)) own1 ⟨_, rfl, rfl⟩
 refine C_skip_then ?_
 refine C_seq ?_
 refine C_seq ?_
 refine C_region ?_
 refine Jq (q_move rfl) ?_
 refine L_call tb rfl rfl (ct_exposure_isBreath _) no_ps rfl ?_
 refine Jq (q_not rfl decide_not.symm) ?_
 refine L_then ?_
 refine C_dec rfl (fun h2 => ?_) (fun h2 => ?_)
 refine C_seq ?_
 refine C_region ?_
 refine Jq (q_assign rfl) ?_
 refine Jq (q_assign rfl) ?_
 refine L_then ?_
 refine C_ret ?_
 rw [consE_2 (Decidable.not_not.1 h1) (by omega)]
 exact ret_of (rs' := [sl (.slice none 0 0) 3 1 []]) (res2 rfl rfl rfl) (fun w_ h_ => ws_nil (sub_nil w_ h_)) own1 ⟨_, rfl, rfl⟩
 have hz := Decidable.not_not.1 h1; have H := (ckPl_ok hz).2; have hll := H.ll; have hgl := H.gl; have hb := Decidable.not_not.1 h2
 have hlen : ((legsM sf gs ls).map cLe).length = ls.length := le_len _ _ _ _
 refine C_skip_then ?_
 refine C_seq ?_
 refine C_region ?_
 refine Jq (q_field tb rfl rfl rfl) ?_
 refine Jq (q_load tb rfl rfl bxo rfl) ?_
 refine Jq (q_len tb rfl rfl gvo) ?_
 rw [hl1]
 refine L_mk (lo_make tb rfl rfl rfl (n := gs.length) rfl rfl (by omega) (by simp [maxLen]; omega)) rfl rfl rfl fun v21 => ?_
 refine Jq (q_assign rfl) ?_
 refine L_then ?_
 refine C_seq ?_
 refine C_seq ?_
 refine C_res (rs' := [sl v21 3 1 ((consK gs.length ls (amtS sf gs ls b) 0).map cI), box g2 25 (cPl nm sf v u), rd v 2 (gs.map cGs), rd u 3 (ls.map cDl)]) (fun _ h => h.pk (by repeat (first | with_reducible exact pk_nil | refine pk_box (by first | rfl | exact (cons_zero _ _ _)) ?_ | refine pk_rd rfl ?_ | refine pk_sl (by first | rfl | exact (cons_zero _ _ _)) ?_ | with_reducible refine pk_app ?_ | with_reducible refine pk_app0 ?_ | with_reducible refine pk_app0L ?_ | with_reducible exact pk_tl | refine pk_var ?_))) ?_
 refine C_region ?_
 refine Jq (q_loadA tb rfl rfl bxo rfl rfl) ?_
 refine L_callS tb rfl rfl (ct_exposure_legs nm sf v u gs ls H) (ps_cons gvo (ps_cons gvo no_ps)) rfl fun v23 => ?_
 refine Jq (q_len tb rfl rfl gvo) ?_
 refine Jq (q_move rfl) ?_
 refine L_then ?_
 refine C_block ?_
 refine C_loop (ι := Nat) (fun k => ([(1, .int .i64 b), (2, .pointer (some ⟨g2, 0, none⟩)), (7, v21), (23, v23), (24, .int .i64 ((legsM sf gs ls).map cLe).length), (25, .int .i64 (k : Int))], [sl v21 3 1 ((consK gs.length ls (amtS sf gs ls b) k).map cI), sl v23 108 9 ((legsM sf gs ls).map cLe), box g2 25 (cPl nm sf v u), rd v 2 (gs.map cGs), rd u 3 (ls.map cDl)])) (fun k => k ≤ ls.length) (fun k => ls.length - k) 0 (Nat.zero_le _) (fun a w hs => hs.weak ⟨rfl, rfl, rfl, rfl, rfl, rfl, trivial⟩ (fun h => h.pk (by repeat (first | with_reducible exact pk_nil | refine pk_box rfl ?_ | refine pk_rd rfl ?_ | refine pk_sl rfl ?_ | with_reducible refine pk_app ?_ | with_reducible refine pk_app0 ?_ | with_reducible refine pk_app0L ?_ | with_reducible exact pk_tl | refine pk_var ?_)))) ?_
 intro k hk9
 dsimp only at hk9 ⊢
 refine C_seq ?_
 refine C_region ?_
 refine Jq (q_lss rfl rfl) ?_
 refine L_then ?_
 refine C_seq ?_
 refine C_dec rfl (fun h3 => ?_) (fun h3 => ?_)
 have hel : ((legsM sf gs ls).map cLe)[k]? = some (cLe (legAt sf gs ls k)) := le_cell (by omega)
 have hds := (H.at (k := k) (by omega)).s
 have hbr : 0 ≤ brM b (dlAt ls k).s (legAt sf gs ls k) ∧ brM b (dlAt ls k).s (legAt sf gs ls k) ≤ 51833333334 := amtS_in H hb (i := k) (by omega)
 obtain ⟨v0, hv0⟩ := get_some (consK gs.length ls (amtS sf gs ls b) k) (k := (dlAt ls k).g.toNat) (by rw [consK_len]; have := (H.at (k := k) (by omega)).g; omega)
 have helo := map_get cI hv0; have hg9 := (H.at (k := k) (by omega)).g; have hbd := consK_in (n := gs.length) (ls := ls) (amt := (amtS sf gs ls b)) (A := 51833333334) (by omega) k (fun i hi => amtS_in H hb (by omega)) _ _ hv0
 have hcl := consK_len gs.length ls (amtS sf gs ls b) k
 have hcm := len_map cI (consK gs.length ls (amtS sf gs ls b) k)
 refine C_skip_then ?_
 refine C_seq ?_
 refine C_block ?_
 refine C_seq ?_
 refine C_region ?_
 refine Jq (by first | exact q_index tb rfl rfl rfl rfl gvo (by omega) (by first | omega | (simp; done) | (simp; omega)) | exact q_indexP tb rfl rfl rfl rfl (by omega) (by omega)) ?_
 refine Jq (q_loadEA tb rfl rfl gvo (i := k) (o := 0) (by omega) hel rfl rfl) ?_
 refine L_alloc tb rfl rfl fun g9 => ?_
 refine L_st tb rfl rfl ?_
 refine L_then ?_
 refine C_res (rs' := [box g9 108 ([.int .i64 (dlAt ls k).s, .int .i64 (dlAt ls k).d, .int .i64 (dlAt ls k).g, .int .i64 (secAt ls k), .int .i64 (sf + depAt ls k), .int .i64 (sf + (dlAt ls k).d), .int .i64 sf, .int .i64 (gasAt gs (dlAt ls k).g).o, .int .i64 (gasAt gs (dlAt ls k).g).h]), sl v21 3 1 ((consK gs.length ls (amtS sf gs ls b) k).map cI), sl v23 108 9 ((legsM sf gs ls).map cLe), box g2 25 (cPl nm sf v u), rd v 2 (gs.map cGs), rd u 3 (ls.map cDl)]) (fun _ h => h.pk (by repeat (first | with_reducible exact pk_nil | refine pk_box rfl ?_ | refine pk_rd rfl ?_ | refine pk_sl rfl ?_ | with_reducible refine pk_app ?_ | with_reducible refine pk_app0 ?_ | with_reducible refine pk_app0L ?_ | with_reducible exact pk_tl | refine pk_var ?_))) ?_
 refine C_draw (n := 14) [(0, false), (1, false), (2, false), (3, false), (4, false), (5, false), (6, false), (7, false), (8, false), (9, false), (10, false), (11, true), (12, false), (13, false)] mixed (by kernel_rfl) ?_
 refine Yq rfl (q_move rfl) ?_
 refine Yq rfl (q_field tb rfl rfl rfl) ?_
 refine Yq rfl (q_field tb rfl rfl rfl) ?_
 refine Yq rfl (q_load tb rfl rfl bxo rfl) ?_
 refine Yq rfl (by first | exact q_index tb rfl rfl rfl rfl gvo (by omega) (by first | omega | (simp; done) | (simp; omega)) | exact q_indexP tb rfl rfl rfl rfl (by omega) (by omega)) ?_
 refine Yq rfl (q_loadE tb rfl rfl gvo (i := (dlAt ls k).g.toNat) (o := 0) (by omega) helo rfl) ?_
 refine Yq rfl (q_loadA tb rfl rfl bxo rfl rfl) ?_
 refine Yq rfl (q_move rfl) ?_
 refine Yq rfl (q_field tb rfl rfl rfl) ?_
 refine Yq rfl (q_field tb rfl rfl rfl) ?_
 refine Yq rfl (q_load tb rfl rfl bxo rfl) ?_
 refine W_call tb rfl rfl rfl rfl (ct_exposure_leg_breathes (legAt sf gs ls k) b (dlAt ls k).s (H.le (by omega)) hb (by show 0 ≤ (dlAt ls k).s ∧ (dlAt ls k).s ≤ (dlAt ls k).s; omega) (.inl rfl)) no_ps rfl ?_
 refine Yq rfl (q_add rfl rfl (by first | exact IntWalk.i64_in _ (by omega) | rfl)) ?_
 refine Yq rfl (by first | exact q_index tb rfl rfl rfl rfl gvo (by omega) (by first | omega | (simp; done) | (simp; omega)) | exact q_indexP tb rfl rfl rfl rfl (by omega) (by omega)) ?_
 refine W_nil ?_
 first | refine L_storeEl tb rfl rfl rfl rfl rfl rfl (i := (dlAt ls k).g.toNat) (by omega) (by omega) ?_ | (refine L_front1 ?_; refine L_storeEl tb rfl rfl rfl rfl rfl rfl (i := (dlAt ls k).g.toNat) (by omega) (by omega) ?_) | (refine L_front2 ?_; refine L_storeEl tb rfl rfl rfl rfl rfl rfl (i := (dlAt ls k).g.toNat) (by omega) (by omega) ?_) | (refine L_front3 ?_; refine L_storeEl tb rfl rfl rfl rfl rfl rfl (i := (dlAt ls k).g.toNat) (by omega) (by omega) ?_) | (refine L_front4 ?_; refine L_storeEl tb rfl rfl rfl rfl rfl rfl (i := (dlAt ls k).g.toNat) (by omega) (by omega) ?_) | (refine L_front5 ?_; refine L_storeEl tb rfl rfl rfl rfl rfl rfl (i := (dlAt ls k).g.toNat) (by omega) (by omega) ?_) | (refine L_front6 ?_; refine L_storeEl tb rfl rfl rfl rfl rfl rfl (i := (dlAt ls k).g.toNat) (by omega) (by omega) ?_)
 refine L_blk ?_
 refine C_region ?_
 refine Jq (q_add rfl rfl (by first | exact IntWalk.i64_in _ (by omega) | rfl)) ?_
 refine Jq (q_move rfl) ?_
 refine L_end ?_
 have e9 := cons_step (amt := (amtS sf gs ls b)) hv0
 exact fun ac_ wo_ hs_ => ⟨k + 1, (by dsimp only; omega), (by dsimp only; omega), hs_.weak ⟨rfl, rfl, rfl, rfl, rfl, rfl, trivial⟩ (fun h => h.pk (by repeat (first | with_reducible exact pk_nil | refine pk_box (by first | rfl | exact e9) ?_ | refine pk_rd rfl ?_ | refine pk_sl (by first | rfl | exact e9) ?_ | with_reducible refine pk_app ?_ | with_reducible refine pk_app0 ?_ | with_reducible refine pk_app0L ?_ | with_reducible exact pk_tl | refine pk_var ?_)))⟩
 refine C_exit ?_
 change C Try.prog _ _ _ _ _ _ _
 refine C_seq ?_
 refine C_region ?_
 refine Jq (q_move rfl) ?_
 refine Jq (q_assign rfl) ?_
 refine Jq (q_assign rfl) ?_
 refine L_then ?_
 refine C_ret ?_
 obtain rfl : k = ls.length := by omega
 rw [consE_3 hz hb]
 exact ret_of (rs' := [sl v21 3 1 ((consK gs.length ls (amtS sf gs ls b) ls.length).map cI)]) (res2 rfl rfl rfl) (fun w_ h_ => h_.pk (by repeat (first | with_reducible exact pk_nil | refine pk_box rfl ?_ | refine pk_rd rfl ?_ | refine pk_sl rfl ?_ | with_reducible refine pk_app ?_ | with_reducible refine pk_app0 ?_ | with_reducible refine pk_app0L ?_ | with_reducible exact pk_tl | refine pk_var ?_))) own1 ⟨_, rfl, rfl⟩
end Go.Proofs.Ytdmnejfpbbmcaaa
