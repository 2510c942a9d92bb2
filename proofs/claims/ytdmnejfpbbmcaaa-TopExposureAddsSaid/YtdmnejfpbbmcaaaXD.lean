/-
  Walks: each function named returns what its model says. Conditions: those in front of each theorem.
-/
import Derived.Test.YtdmnejfpbbmcaaaXC
namespace Go.Proofs.Ytdmnejfpbbmcaaa
open Go.RowKit

set_option maxRecDepth 100000 in
theorem ct_exposure_both (t : Value) (r : Ru) (nm : ByteArray) (sf : Int) (v u : Value) (gs : List Gs) (ls : List Dl) (hle : gs.length ≤ 100000) (hle2 : ls.length ≤ 100000) (hnm : nm.size ≤ 1000000000000) (hlt : r.tb.length ≤ 100000) : Ct Try.prog 63 [.agg (cPl nm sf v u).toArray, .agg (cRu t r).toArray] [(v, 2, gs.map cGs), (u, 3, ls.map cDl), (t, 2, r.tb.map cOw)] (isV (.int .i64 (bothE nm sf gs ls r))) := by
 refine Ct.of (N := 13) Try.func63 rfl rfl rfl fun w => ?_
 refine C_weak (E' := [(0, .agg (cPl nm sf v u).toArray), (1, .agg (cRu t r).toArray)]) (rs' := [rd v 2 (gs.map cGs), rd u 3 (ls.map cDl), rd t 2 (r.tb.map cOw)]) ⟨rfl, rfl, trivial⟩ (fun _ h => h) ?_
 have hl1 := len_map cGs gs
 have hl2 := len_map cDl ls
 have hl1 := len_map cOw r.tb
 refine C_seq ?_
 refine C_region ?_
 refine L_box rfl rfl rfl fun g2 => ?_
 refine L_box rfl rfl rfl fun g3 => ?_
 refine Jq (q_assign rfl) ?_
 refine L_then ?_
 refine C_seq ?_
 refine C_seq ?_
 refine C_region ?_
 refine Jq (q_loadA tb rfl rfl bxo rfl rfl) ?_
 refine L_call tb rfl rfl (ct_exposure_checkPlan nm sf v u gs ls hle hle2 hnm) (ps_cons gvo (ps_cons gvo no_ps)) rfl ?_
 refine Jq (q_assign rfl) ?_
 refine L_then ?_
 refine C_seq ?_
 refine C_region ?_
 refine Jq (q_move rfl) ?_
 refine Jq (q_neq rfl rfl) ?_
 refine L_then ?_
 refine C_dec rfl (fun h1 => ?_) (fun h1 => ?_)
 refine C_seq ?_
 refine C_region ?_
 refine Jq (q_move rfl) ?_
 refine Jq (q_assign rfl) ?_
 refine L_then ?_
 refine C_ret ?_
 rw [bothE_1 h1]
 exact ret_of (res1 rfl rfl) sub_nil (by intro r hr; cases hr) ⟨rfl, rfl⟩
 refine C_skip_then ?_
 refine C_seq ?_
 refine C_region ?_
 refine Jq (q_loadA tb rfl rfl bxo rfl rfl) ?_
 refine L_call tb rfl rfl (ct_exposure_CheckRules t r hlt) (ps_cons gvo no_ps) rfl ?_
 refine Jq (q_assign rfl) ?_
 refine L_then ?_
 refine C_ret ?_
 rw [bothE_2 (Decidable.not_not.1 h1)]
 exact ret_of (res1 rfl rfl) sub_nil (by intro r hr; cases hr) ⟨rfl, rfl⟩
set_option maxRecDepth 100000 in
theorem ct_shotlineref05_Both (t : Value) (r : Ru) (nm : ByteArray) (sf : Int) (v u : Value) (gs : List Gs) (ls : List Dl) (hle : gs.length ≤ 100000) (hle2 : ls.length ≤ 100000) (hlt : r.tb.length ≤ 100000) : Ct Try.prog 19 [.agg (cPl nm sf v u).toArray, .agg (cRu t r).toArray] [(v, 2, gs.map cGs), (u, 3, ls.map cDl), (t, 2, r.tb.map cOw)] (isV (.int .i64 (bothE nm sf gs ls r))) := by
 refine Ct.of (N := 13) Try.func19 rfl rfl rfl fun w => ?_
 refine C_weak (E' := [(0, .agg (cPl nm sf v u).toArray), (1, .agg (cRu t r).toArray)]) (rs' := [rd v 2 (gs.map cGs), rd u 3 (ls.map cDl), rd t 2 (r.tb.map cOw)]) ⟨rfl, rfl, trivial⟩ (fun _ h => h) ?_
 have hl1 := len_map cGs gs
 have hl2 := len_map cDl ls
 have hl1 := len_map cOw r.tb
 refine C_seq ?_
 refine C_region ?_
 refine L_box rfl rfl rfl fun g2 => ?_
 refine L_box rfl rfl rfl fun g3 => ?_
 refine Jq (q_assign rfl) ?_
 refine L_then ?_
 refine C_seq ?_
 refine C_seq ?_
 refine C_region ?_
 refine Jq (q_loadA tb rfl rfl bxo rfl rfl) ?_
 refine L_call tb rfl rfl (ct_shotlineref05_Err nm sf v u gs ls hle hle2) (ps_cons gvo (ps_cons gvo no_ps)) rfl ?_
 refine Jq (q_assign rfl) ?_
 refine L_then ?_
 refine C_seq ?_
 refine C_region ?_
 refine Jq (q_move rfl) ?_
 refine Jq (q_neq rfl rfl) ?_
 refine L_then ?_
 refine C_dec rfl (fun h1 => ?_) (fun h1 => ?_)
 refine C_seq ?_
 refine C_region ?_
 refine Jq (q_move rfl) ?_
 refine Jq (q_assign rfl) ?_
 refine L_then ?_
 refine C_ret ?_
 rw [bothE_1 h1]
 exact ret_of (res1 rfl rfl) sub_nil (by intro r hr; cases hr) ⟨rfl, rfl⟩
 refine C_skip_then ?_
 refine C_seq ?_
 refine C_region ?_
 refine Jq (q_loadA tb rfl rfl bxo rfl rfl) ?_
 refine L_call tb rfl rfl (ct_shotlineref05_CheckRules t r hlt) (ps_cons gvo no_ps) rfl ?_
 refine Jq (q_assign rfl) ?_
 refine L_then ?_
 refine C_ret ?_
 rw [bothE_2 (Decidable.not_not.1 h1)]
 exact ret_of (res1 rfl rfl) sub_nil (by intro r hr; cases hr) ⟨rfl, rfl⟩
set_option maxRecDepth 100000 in
theorem ct_exposure_legs (nm : ByteArray) (sf : Int) (v u : Value) (gs : List Gs) (ls : List Dl) (H : okPl sf gs ls) : Ct Try.prog 64 [.agg (cPl nm sf v u).toArray] [(v, 2, gs.map cGs), (u, 3, ls.map cDl)] (isSl 108 9 ((legsM sf gs ls).map cLe)) := by
 refine Ct.of (N := 48) Try.func64 rfl rfl rfl fun w => ?_
 refine C_weak (E' := [(0, .agg (cPl nm sf v u).toArray)]) (rs' := [rd v 2 (gs.map cGs), rd u 3 (ls.map cDl)]) ⟨rfl, trivial⟩ (fun _ h => h) ?_
 have hl1 := len_map cGs gs
 have hl2 := len_map cDl ls
 have hsf := H.sf; have hgl := H.gl; have hll := H.ll
 refine C_seq ?_
 refine C_region ?_
 refine L_box rfl rfl rfl fun g1 => ?_
 refine Jq (q_assign rfl) ?_
 refine L_then ?_
 refine C_seq ?_
 refine C_region ?_
 refine Jq (q_assign rfl) ?_
 refine L_then ?_
 refine C_seq ?_
 refine C_draw (n := 4) [(0, false), (1, false), (2, false), (3, false)] mixed (by kernel_rfl) ?_
 refine Yq rfl (q_field tb rfl rfl rfl) ?_
 refine Yq rfl (q_load tb rfl rfl bxo rfl) ?_
 refine Yq rfl (q_assign rfl) ?_
 refine Yq rfl (q_assign rfl) ?_
 refine W_nil ?_
 refine L_then ?_
 refine C_seq ?_
 refine C_seq ?_
 refine C_region ?_
 refine Jq (q_field tb rfl rfl rfl) ?_
 refine Jq (q_load tb rfl rfl bxo rfl) ?_
 refine Jq (q_len tb rfl rfl gvo) ?_
 refine Jq (q_move rfl) ?_
 refine L_then ?_
 refine C_block ?_
 refine C_nil 108 9 ?_
 refine C_loop (ι := Nat × Value) (fun q => ([(1, .pointer (some ⟨g1, 0, none⟩)), (3, q.2), (4, .int .i64 (secAt ls q.1)), (5, .int .i64 (sf + depAt ls q.1)), (11, u), (12, .int .i64 (ls.map cDl).length), (13, .int .i64 (q.1 : Int))], [sl q.2 108 9 ((legsK sf gs ls q.1).map cLe), box g1 25 (cPl nm sf v u), rd v 2 (gs.map cGs), rd u 3 (ls.map cDl)])) (fun q => q.1 ≤ ls.length) (fun q => ls.length - q.1) (0, .slice none 0 0) (Nat.zero_le _) (fun a w hs => hs.weak ⟨rfl, rfl, rfl, en (Int.add_zero sf).symm, rfl, rfl, rfl, trivial⟩ (fun h => h.pk (by repeat (first | with_reducible exact pk_nil | refine pk_box rfl ?_ | refine pk_rd rfl ?_ | refine pk_sl rfl ?_ | with_reducible refine pk_app ?_ | with_reducible refine pk_app0 ?_ | with_reducible refine pk_app0L ?_ | with_reducible exact pk_tl | refine pk_var ?_)))) ?_
 rintro ⟨k, y⟩ hk9
 dsimp only at hk9 ⊢
 refine C_seq ?_
 refine C_region ?_
 refine Jq (q_lss rfl rfl) ?_
 refine L_then ?_
 refine C_seq ?_
 refine C_dec rfl (fun h1 => ?_) (fun h1 => ?_)
 have hat := H.at (k := k) (by omega); have ha1 := hat.s; have ha2 := hat.d; have ha3 := hat.g; have hdep := H.dep (k := k) (by omega); have hse := H.e k (by omega); have hse2 := H.e (k + 1) (by omega); have hsec : secAt ls (k + 1) = secAt ls k + (dlAt ls k).s := rfl; have hel := dl_cell (show k < ls.length by omega); have helg := gas_cell (gs := gs) ha3.1 ha3.2
 refine C_skip_then ?_
 refine C_seq ?_
 refine C_block ?_
 refine C_seq ?_
 refine C_region ?_
 refine Jq (by first | exact q_index tb rfl rfl rfl rfl gvo (by omega) (by first | omega | (simp; done) | (simp; omega)) | exact q_indexP tb rfl rfl rfl rfl (by omega) (by omega)) ?_
 refine Jq (q_loadEA tb rfl rfl gvo (i := k) (o := 0) (by omega) hel rfl rfl) ?_
 refine L_alloc tb rfl rfl fun g7 => ?_
 refine L_st tb rfl rfl ?_
 refine L_then ?_
 refine C_seq ?_
 refine C_res (rs' := [box g7 82 (cDl (dlAt ls k)), sl y 108 9 ((legsK sf gs ls k).map cLe), box g1 25 (cPl nm sf v u), rd v 2 (gs.map cGs), rd u 3 (ls.map cDl)]) (fun _ h => h.pk (by repeat (first | with_reducible exact pk_nil | refine pk_box rfl ?_ | refine pk_rd rfl ?_ | refine pk_sl rfl ?_ | with_reducible refine pk_app ?_ | with_reducible refine pk_app0 ?_ | with_reducible refine pk_app0L ?_ | with_reducible exact pk_tl | refine pk_var ?_))) ?_
 refine C_draw (n := 19) [(0, false), (1, false), (2, false), (3, false), (4, false), (5, false), (6, false), (7, false), (8, false), (9, false), (10, false), (11, false), (12, false), (13, false), (14, false), (15, false), (16, false), (17, false), (18, true)] mixed (by kernel_rfl) ?_
 refine Yq rfl (q_move rfl) ?_
 refine Yq rfl (q_loadA tb rfl rfl bxo rfl rfl) ?_
 refine Yq rfl (q_move rfl) ?_
 refine Yq rfl (q_move rfl) ?_
 refine Yq rfl (q_field tb rfl rfl rfl) ?_
 refine Yq rfl (q_load tb rfl rfl bxo rfl) ?_
 refine Yq rfl (q_field tb rfl rfl rfl) ?_
 refine Yq rfl (q_load tb rfl rfl bxo rfl) ?_
 refine Yq rfl (q_add rfl rfl (by first | exact IntWalk.i64_in _ (by omega) | rfl)) ?_
 refine Yq rfl (q_field tb rfl rfl rfl) ?_
 refine Yq rfl (q_load tb rfl rfl bxo rfl) ?_
 refine Yq rfl (q_field tb rfl rfl rfl) ?_
 refine Yq rfl (q_load tb rfl rfl bxo rfl) ?_
 refine Yq rfl (q_field tb rfl rfl rfl) ?_
 refine Yq rfl (q_load tb rfl rfl bxo rfl) ?_
 refine Yq rfl (by first | exact q_index tb rfl rfl rfl rfl gvo (by omega) (by first | omega | (simp; done) | (simp; omega)) | exact q_indexP tb rfl rfl rfl rfl (by omega) (by omega)) ?_
 refine Yq rfl (q_loadEA tb rfl rfl gvo (i := (dlAt ls k).g.toNat) (o := 0) (by omega) helg rfl rfl) ?_
 refine Yq rfl (q_build (r := cLe (legAt sf gs ls k)) tb rfl rfl rfl rfl) ?_
 refine W_mk rfl (lo_bslice tb rfl rfl rfl (xs := [cLe (legAt sf gs ls k)]) rfl rfl (by simp [cLe]) rfl (by omega) rfl) rfl rfl rfl fun v35 => ?_
 refine W_nil ?_
 refine L_ap tb rfl rfl rfl rfl gvo (by simp [Value.oneCell', cLe]) (by simp [maxLen, List.length_map, legsK_len]; omega) (by simp [List.length_map, legsK_len]; omega) fun v36 => ?_
 refine Jq (q_assign rfl) ?_
 refine L_then ?_
 refine C_draw (n := 11) [(0, false), (1, false), (2, false), (3, false), (4, false), (5, false), (6, false), (7, false), (8, false), (9, false), (10, false)] mixed (by kernel_rfl) ?_
 refine Yq rfl (q_move rfl) ?_
 refine Yq rfl (q_field tb rfl rfl rfl) ?_
 refine Yq rfl (q_load tb rfl rfl bxo rfl) ?_
 refine Yq rfl (q_add rfl rfl (by first | exact IntWalk.i64_in _ (by omega) | rfl)) ?_
 refine Yq rfl (q_field tb rfl rfl rfl) ?_
 refine Yq rfl (q_load tb rfl rfl bxo rfl) ?_
 refine Yq rfl (q_field tb rfl rfl rfl) ?_
 refine Yq rfl (q_load tb rfl rfl bxo rfl) ?_
 refine Yq rfl (q_add rfl rfl (by first | exact IntWalk.i64_in _ (by omega) | rfl)) ?_
 refine Yq rfl (q_assign rfl) ?_
 refine Yq rfl (q_assign rfl) ?_
 refine W_nil ?_
 refine L_blk ?_
 refine C_region ?_
 refine Jq (q_add rfl rfl (by first | exact IntWalk.i64_in _ (by omega) | rfl)) ?_
 refine Jq (q_move rfl) ?_
 refine L_end ?_
 exact fun ac_ wo_ hs_ => ⟨(k + 1, v36), (by dsimp only; omega), (by dsimp only; omega), hs_.weak ⟨rfl, rfl, rfl, rfl, rfl, rfl, rfl, trivial⟩ (fun h => h.pk (by repeat (first | with_reducible exact pk_nil | refine pk_box (by first | rfl | exact leg_cells _ _ _ _) ?_ | refine pk_rd rfl ?_ | refine pk_sl (by first | rfl | exact leg_cells _ _ _ _) ?_ | with_reducible refine pk_app ?_ | with_reducible refine pk_app0 ?_ | with_reducible refine pk_app0L ?_ | with_reducible exact pk_tl | refine pk_var ?_)))⟩
 refine C_exit ?_
 change C Try.prog _ _ _ _ _ _ _
 refine C_seq ?_
 refine C_region ?_
 refine Jq (q_move rfl) ?_
 refine Jq (q_assign rfl) ?_
 refine L_then ?_
 refine C_ret ?_
 obtain rfl : k = ls.length := by omega
 exact ret_of (rs' := [sl y 108 9 ((legsM sf gs ls).map cLe)]) (res1 rfl rfl) (fun _ h => h.sub (by repeat (first | exact List.Sublist.refl _ | apply List.Sublist.cons_cons | apply List.Sublist.cons))) own1 rfl
set_option maxRecDepth 100000 in
theorem ct_exposure_leg_end (x : Le) (H : okLe x) : Ct Try.prog 90 [.agg (cLe x).toArray] [] (isV (.int .i64 (x.b + x.x.s))) := by
 refine Ct.of (N := 9) Try.func90 rfl rfl rfl fun w => ?_
 refine C_weak (E' := [(0, .agg (cLe x).toArray)]) (rs' := []) ⟨rfl, trivial⟩ (fun _ h => h) ?_
 have hs9 := H.s; have hb9 := H.b; have hf9 := H.f; have ht9 := H.t; have hsf9 := H.sf; have hd9 := H.d
 refine C_seq ?_
 refine C_region ?_
 refine L_box rfl rfl rfl fun g1 => ?_
 refine Jq (q_assign rfl) ?_
 refine L_then ?_
 refine C_seq ?_
 refine C_region ?_
 refine Jq (q_field tb rfl rfl rfl) ?_
 refine Jq (q_load tb rfl rfl bxo rfl) ?_
 refine Jq (q_field tb rfl rfl rfl) ?_
 refine Jq (q_field tb rfl rfl rfl) ?_
 refine Jq (q_load tb rfl rfl bxo rfl) ?_
 refine Jq (q_add rfl rfl (by first | exact IntWalk.i64_in _ (by omega) | rfl)) ?_
 refine Jq (q_assign rfl) ?_
 refine L_then ?_
 refine C_ret ?_
 exact ret_of (res1 rfl rfl) sub_nil (by intro r hr; cases hr) ⟨rfl, rfl⟩
set_option maxRecDepth 100000 in
theorem ct_exposure_leg_least (x : Le) : Ct Try.prog 97 [.agg (cLe x).toArray] [] (isV (.int .i64 (min x.f x.t))) := by
 refine Ct.of (N := 8) Try.func97 rfl rfl rfl fun w => ?_
 refine C_weak (E' := [(0, .agg (cLe x).toArray)]) (rs' := []) ⟨rfl, trivial⟩ (fun _ h => h) ?_
 refine C_seq ?_
 refine C_region ?_
 refine L_box rfl rfl rfl fun g1 => ?_
 refine Jq (q_assign rfl) ?_
 refine L_then ?_
 refine C_seq ?_
 refine C_region ?_
 refine Jq (q_field tb rfl rfl rfl) ?_
 refine Jq (q_load tb rfl rfl bxo rfl) ?_
 refine Jq (q_field tb rfl rfl rfl) ?_
 refine Jq (q_load tb rfl rfl bxo rfl) ?_
 refine Jq (q_min rfl rfl) ?_
 refine Jq (q_assign rfl) ?_
 refine L_then ?_
 refine C_ret ?_
 exact ret_of (res1 rfl rfl) sub_nil (by intro r hr; cases hr) ⟨rfl, rfl⟩
set_option maxRecDepth 100000 in
theorem ct_exposure_leg_most (x : Le) : Ct Try.prog 98 [.agg (cLe x).toArray] [] (isV (.int .i64 (max x.f x.t))) := by
 refine Ct.of (N := 8) Try.func98 rfl rfl rfl fun w => ?_
 refine C_weak (E' := [(0, .agg (cLe x).toArray)]) (rs' := []) ⟨rfl, trivial⟩ (fun _ h => h) ?_
 refine C_seq ?_
 refine C_region ?_
 refine L_box rfl rfl rfl fun g1 => ?_
 refine Jq (q_assign rfl) ?_
 refine L_then ?_
 refine C_seq ?_
 refine C_region ?_
 refine Jq (q_field tb rfl rfl rfl) ?_
 refine Jq (q_load tb rfl rfl bxo rfl) ?_
 refine Jq (q_field tb rfl rfl rfl) ?_
 refine Jq (q_load tb rfl rfl bxo rfl) ?_
 refine Jq (q_max rfl rfl) ?_
 refine Jq (q_assign rfl) ?_
 refine L_then ?_
 refine C_ret ?_
 exact ret_of (res1 rfl rfl) sub_nil (by intro r hr; cases hr) ⟨rfl, rfl⟩
set_option maxRecDepth 100000 in
theorem ct_exposure_leg_oxygen (x : Le) (H : okLe x) : Ct Try.prog 86 [.agg (cLe x).toArray] [] (isV (.agg (cRg ⟨oxLo x, oxHi x⟩).toArray)) := by
 refine Ct.of (N := 16) Try.func86 rfl rfl rfl fun w => ?_
 refine C_weak (E' := [(0, .agg (cLe x).toArray)]) (rs' := []) ⟨rfl, trivial⟩ (fun _ h => h) ?_
 have hs9 := H.s; have hb9 := H.b; have hf9 := H.f; have ht9 := H.t; have hsf9 := H.sf; have hd9 := H.d
 have hox := ox_in H
 refine C_seq ?_
 refine C_region ?_
 refine L_box rfl rfl rfl fun g1 => ?_
 refine L_alloc tb rfl rfl fun g2 => ?_
 refine L_then ?_
 refine C_seq ?_
 refine C_draw (n := 13) [(0, false), (1, false), (2, false), (3, false), (6, false), (7, false), (8, false), (9, false), (4, true), (5, false), (10, true), (11, false), (12, false)] mixed (by kernel_rfl) ?_
 refine Yq rfl (q_field tb rfl rfl rfl) ?_
 refine Yq rfl (q_field tb rfl rfl rfl) ?_
 refine Yq rfl (q_load tb rfl rfl bxo rfl) ?_
 refine Yq rfl (q_loadA tb rfl rfl bxo rfl rfl) ?_
 refine Yq rfl (q_field tb rfl rfl rfl) ?_
 refine Yq rfl (q_field tb rfl rfl rfl) ?_
 refine Yq rfl (q_load tb rfl rfl bxo rfl) ?_
 refine Yq rfl (q_loadA tb rfl rfl bxo rfl rfl) ?_
 refine W_call tb rfl rfl rfl rfl (ct_exposure_leg_least x) no_ps rfl ?_
 refine Yq rfl (q_mul rfl rfl (by first | exact IntWalk.i64_in _ (by omega) | rfl)) ?_
 refine W_call tb rfl rfl rfl rfl (ct_exposure_leg_most x) no_ps rfl ?_
 refine Yq rfl (q_mul rfl rfl (by first | exact IntWalk.i64_in _ (by omega) | rfl)) ?_
 refine Yq rfl (by first | exact q_build tb rfl rfl rfl rfl | exact q_buildArr tb rfl rfl rfl rfl rfl) ?_
 refine W_nil ?_
 refine L_st tb rfl rfl ?_
 refine L_then ?_
 refine C_ret ?_
 exact ret_of (resC tb rfl rfl rfl bxo rfl) sub_nil (by intro r hr; cases hr) ⟨rfl, rfl⟩
set_option maxRecDepth 100000 in
theorem ct_sort_Search (f : Nat) (caps : List Value) (ps : List (Value × Nat × List (List Value))) (n r : Nat) (hr : r ≤ n) (hn : n ≤ 1000000) (hen : Enters Try.prog f) (hc : ∀ i : Nat, i < n → Ct Try.prog f ([.int .i64 (i : Int)] ++ caps) ps (isV (.bool (decide (r ≤ i))))) : Ct Try.prog 99 [.int .i64 (n : Int), .func (.func f) #[] caps.toArray] ps (isV (.int .i64 (r : Int))) := by
 refine Ct.of (N := 26) Try.func99 rfl rfl rfl fun w => ?_
 refine C_weak (E' := [(0, .int .i64 (n : Int)), (1, .func (.func f) #[] caps.toArray)]) (rs' := rdOf ps) ⟨rfl, rfl, trivial⟩ (fun _ h => h) ?_
 refine C_seq ?_
 refine C_region ?_
 refine Jq (q_assign rfl) ?_
 refine L_then ?_
 refine C_seq ?_
 refine C_region ?_
 refine Jq (q_move rfl) ?_
 refine Jq (q_assign rfl) ?_
 refine Jq (q_assign rfl) ?_
 refine L_then ?_
 refine C_seq ?_
 refine C_block ?_
 refine C_loop (ι := Nat × Nat) (fun q => ([(1, .func (.func f) #[] caps.toArray), (5, .int .i64 (q.1 : Int)), (6, .int .i64 (q.2 : Int))], rdOf ps)) (fun q => q.1 ≤ r ∧ r ≤ q.2 ∧ q.2 ≤ n) (fun q => q.2 - q.1) (0, n) ⟨Nat.zero_le _, hr, Nat.le_refl _⟩ (fun a w hs => hs.weak ⟨rfl, rfl, rfl, trivial⟩ (fun h => h)) ?_
 rintro ⟨i, j⟩ ⟨hi, hj, hjn⟩
 dsimp only at hi hj hjn ⊢
 refine C_seq ?_
 refine C_seq ?_
 refine C_region ?_
 refine Jq (q_move rfl) ?_
 refine Jq (q_move rfl) ?_
 refine Jq (q_lss rfl rfl) ?_
 refine L_then ?_
 refine C_dec rfl (fun h1 => ?_) (fun h1 => ?_)
 refine C_skip_then ?_
 refine C_block ?_
 refine C_seq ?_
 refine C_region ?_
 refine Jq (q_move rfl) ?_
 refine Jq (q_move rfl) ?_
 refine Jq (q_add rfl rfl (by first | exact IntWalk.i64_in _ (by omega) | rfl)) ?_
 refine Jq (q_conv tb rfl rfl rfl (wrU (b := (i : Int) + (j : Int)) rfl (by omega))) ?_
 refine Jq (q_shr rfl rfl (by omega) (shrU1 i j)) ?_
 refine Jq (q_conv tb rfl rfl rfl (by first | exact IntWalk.i64_in _ (by omega) | rfl)) ?_
 refine Jq (q_assign rfl) ?_
 refine L_then ?_
 refine C_seq ?_
 refine C_region ?_
 refine Jq (q_move rfl) ?_
 refine Jq (q_move rfl) ?_
 refine L_callC hen rfl rfl (hc ((i + j) / 2) (by omega)) (gives_rdOf ps) rfl ?_
 refine Jq (q_not rfl decide_not.symm) ?_
 refine L_then ?_
 refine C_dec rfl (fun h2 => ?_) (fun h2 => ?_)
 refine C_region ?_
 refine Jq (q_move rfl) ?_
 refine Jq (q_add rfl rfl (by first | exact IntWalk.i64_in _ (by omega) | rfl)) ?_
 refine Jq (q_assign rfl) ?_
 refine L_end ?_
 exact fun ac_ wo_ hs_ => ⟨((i + j) / 2 + 1, j), ⟨by dsimp only; omega, by dsimp only; omega, by dsimp only; omega⟩, (by dsimp only; omega), hs_.weak ⟨rfl, rfl, rfl, trivial⟩ (fun h => h)⟩
 refine C_region ?_
 refine Jq (q_move rfl) ?_
 refine Jq (q_assign rfl) ?_
 refine L_end ?_
 exact fun ac_ wo_ hs_ => ⟨(i, (i + j) / 2), ⟨by dsimp only; omega, by dsimp only; omega, by dsimp only; omega⟩, (by dsimp only; omega), hs_.weak ⟨rfl, rfl, rfl, trivial⟩ (fun h => h)⟩
 refine C_exit ?_
 change C Try.prog _ _ _ _ _ _ _
 refine C_seq ?_
 refine C_region ?_
 refine Jq (q_move rfl) ?_
 refine Jq (q_assign rfl) ?_
 refine L_then ?_
 refine C_ret ?_
 obtain rfl : i = r := by omega
 exact ret_of (res1 rfl rfl) sub_nil (by intro r hr; cases hr) ⟨rfl, rfl⟩
set_option maxRecDepth 100000 in
theorem ct_exposure_rate_1 (b d t : Value) (r : Ru) (o : Int) (i : Nat) (hi : i < r.tb.length) (HT : okTb r.tb) : Ct Try.prog 100 [.int .i64 (i : Int), elP b 0, elP d 0] [(b, 9, [cRu t r]), (d, 1, [cI o]), (t, 2, r.tb.map cOw)] (isV (.bool (decide (1000 * (owAt r.tb i).f > o)))) := by
 refine Ct.of (N := 14) Try.func100 rfl rfl rfl fun w => ?_
 refine C_weak (E' := [(0, .int .i64 (i : Int)), (1, elP b 0), (2, elP d 0)]) (rs' := [rd b 9 ([cRu t r]), rd d 1 ([cI o]), rd t 2 (r.tb.map cOw)]) ⟨rfl, rfl, rfl, trivial⟩ (fun _ h => h) ?_
 have hl1 := len_map cOw r.tb
 have hel := ow_cell hi; have hro := HT.r i hi
 refine C_seq ?_
 refine C_region ?_
 refine Jq (q_assign rfl) ?_
 refine L_then ?_
 refine C_seq ?_
 refine C_draw (n := 9) [(0, false), (1, false), (2, false), (3, false), (4, false), (5, false), (6, false), (7, false), (8, false)] mixed (by kernel_rfl) ?_
 refine Yq rfl (by first | exact q_field tb rfl rfl rfl | exact q_fieldE tb rfl rfl rfl gvo (by first | omega | (simp; done) | (simp; omega))) ?_
 refine Yq rfl (by first | exact q_load tb rfl rfl bxo rfl | exact q_loadE tb rfl rfl gvo (i := 0) (o := 0) (by omega) rfl rfl) ?_
 refine Yq rfl (q_move rfl) ?_
 refine Yq rfl (by first | exact q_index tb rfl rfl rfl rfl gvo (by omega) (by first | omega | (simp; done) | (simp; omega)) | exact q_indexP tb rfl rfl rfl rfl (by omega) (by omega)) ?_
 refine Yq rfl (q_fieldE tb rfl rfl rfl gvo (by first | omega | (simp; done) | (simp; omega))) ?_
 refine Yq rfl (q_loadE tb rfl rfl gvo (i := i) (o := 0) (by omega) hel rfl) ?_
 refine Yq rfl (q_mul rfl rfl (by first | exact IntWalk.i64_in _ (by omega) | rfl)) ?_
 refine Yq rfl (by first | exact q_load tb rfl rfl bxo rfl | exact q_loadE tb rfl rfl gvo (i := 0) (o := 0) (by omega) rfl rfl) ?_
 refine Yq rfl (q_gtr rfl rfl) ?_
 refine W_nil ?_
 refine Jq (q_assign rfl) ?_
 refine L_then ?_
 refine C_ret ?_
 exact ret_of (res1 rfl rfl) sub_nil (by intro r hr; cases hr) ⟨rfl, rfl⟩
set_option maxRecDepth 100000 in
theorem ct_exposure_rate (t : Value) (r : Ru) (o : Int) (HT : okTb r.tb) : Ct Try.prog 87 [.agg (cRu t r).toArray, .int .i64 o] [(t, 2, r.tb.map cOw)] (isV (.int .i64 (rateM r.tb o))) := by
 refine Ct.of (N := 20) Try.func87 rfl rfl rfl fun w => ?_
 refine C_weak (E' := [(0, .agg (cRu t r).toArray), (1, .int .i64 o)]) (rs' := [rd t 2 (r.tb.map cOw)]) ⟨rfl, rfl, trivial⟩ (fun _ h => h) ?_
 have hl1 := len_map cOw r.tb
 have hn9 := HT.n; have hrl : rowsN r.tb o ≤ r.tb.length := rowsTo_le r.tb o r.tb.length
 have hsp : ∀ i : Nat, i < (r.tb.map cOw).length → decide (1000 * (owAt r.tb i).f > o) = decide (rowsN r.tb o ≤ i) := fun i hi => decide_eq_decide.2 (rowsTo_spec HT o r.tb.length (Nat.le_refl _) i (by omega))
 refine C_seq ?_
 refine C_region ?_
 refine L_box rfl rfl rfl fun g2 => ?_
 refine L_box rfl rfl rfl fun g3 => ?_
 refine Jq (q_assign rfl) ?_
 refine L_then ?_
 refine C_seq ?_
 refine C_region ?_
 refine Jq (q_field tb rfl rfl rfl) ?_
 refine Jq (q_load tb rfl rfl bxo rfl) ?_
 refine Jq (q_len tb rfl rfl gvo) ?_
 refine Jq (q_makeFunc rfl rfl) ?_
 refine L_call tb rfl rfl (ct_sort_Search 100 [.pointer (some ⟨g2, 0, none⟩), .pointer (some ⟨g3, 0, none⟩)] [(bxV g2, 9, [cRu t r]), (bxV g3, 1, [cI o]), (t, 2, r.tb.map cOw)] (r.tb.map cOw).length (rowsN r.tb o) (by omega) (by omega) (tb.en_ok _ (lkT_mem (rfl : lkT tb.en 100 = some ()))) (fun i hi => hsp i hi ▸ ct_exposure_rate_1 (bxV g2) (bxV g3) t r o i (by omega) HT)) (ps_cons (gbx bxo rfl) (ps_cons (gbx bxo rfl) (ps_cons gvo no_ps))) rfl ?_
 refine Jq (q_assign rfl) ?_
 refine L_then ?_
 refine C_seq ?_
 refine C_seq ?_
 refine C_region ?_
 refine Jq (q_move rfl) ?_
 refine Jq (q_eql rfl rfl) ?_
 refine L_then ?_
 refine C_dec rfl (fun h1 => ?_) (fun h1 => ?_)
 have hr0 : rowsN r.tb o = 0 := by omega
 refine C_seq ?_
 refine C_region ?_
 refine Jq (q_assign rfl) ?_
 refine L_then ?_
 refine C_ret ?_
 exact ret_of (res1 rfl rfl) sub_nil (by intro r hr; cases hr) ⟨(congrArg (Value.int .i64) (by unfold rateM; rw [if_pos hr0])), rfl⟩
 have hr0 : rowsN r.tb o ≠ 0 := by omega
 have hel := ow_cell (tb := r.tb) (k := rowsN r.tb o - 1) (by omega)
 refine C_skip_then ?_
 refine C_seq ?_
 refine C_region ?_
 refine Jq (q_field tb rfl rfl rfl) ?_
 refine Jq (q_load tb rfl rfl bxo rfl) ?_
 refine Jq (q_move rfl) ?_
 refine Jq (q_sub rfl rfl (by first | exact IntWalk.i64_in _ (by omega) | rfl)) ?_
 refine Jq (by first | exact q_index tb rfl rfl rfl rfl gvo (by omega) (by first | omega | (simp; done) | (simp; omega)) | exact q_indexP tb rfl rfl rfl rfl (by omega) (by omega)) ?_
 refine Jq (q_fieldE tb rfl rfl rfl gvo (by first | omega | (simp; done) | (simp; omega))) ?_
 refine Jq (q_loadE tb rfl rfl gvo (i := rowsN r.tb o - 1) (o := 1) (by omega) hel rfl) ?_
 refine Jq (q_assign rfl) ?_
 refine L_then ?_
 refine C_ret ?_
 exact ret_of (res1 rfl rfl) sub_nil (by intro r hr; cases hr) ⟨(congrArg (Value.int .i64) (by unfold rateM; rw [if_neg hr0])), rfl⟩
end Go.Proofs.Ytdmnejfpbbmcaaa
