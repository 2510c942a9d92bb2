/-
  Walks: each function named returns what its model says. Conditions: those in front of each theorem.
-/
import Derived.Test.YtdmnejfpbbmcaaaShStop
import Derived.Test.YtdmnejfpbbmcaaaXH
import Derived.Test.YtdmnejfpbbmcaaaXp4
namespace Go.Proofs.Ytdmnejfpbbmcaaa
open Go.RowKit

set_option maxRecDepth 100000 in
theorem ct_exposure_endOf (v : Value) (sf : Int) (gs : List Gs) (ls : List Dl) (H : okPl sf gs ls) : Ct Try.prog 72 [v] [(v, 9, (legsM sf gs ls).map cLe)] (isV (.int .i64 (secAt ls ls.length))) := by
 refine Ct.of (N := 13) Try.func72 rfl rfl rfl fun w => ?_
 refine C_weak (E' := [(0, v)]) (rs' := [rd v 9 ((legsM sf gs ls).map cLe)]) ⟨rfl, trivial⟩ (fun _ h => h) ?_
 have hlen : ((legsM sf gs ls).map cLe).length = ls.length := le_len _ _ _ _
 have hll := H.ll
 refine C_seq ?_
 refine C_region ?_
 refine Jq (q_assign rfl) ?_
 refine L_then ?_
 refine C_seq ?_
 refine C_seq ?_
 refine C_region ?_
 refine Jq (q_move rfl) ?_
 refine Jq (q_len tb rfl rfl gvo) ?_
 refine Jq (q_eql rfl rfl) ?_
 refine L_then ?_
 refine C_dec rfl (fun h1 => ?_) (fun h1 => ?_)
 refine C_seq ?_
 refine C_region ?_
 refine Jq (q_assign rfl) ?_
 refine L_then ?_
 refine C_ret ?_
 exact ret_of (res1 rfl rfl) sub_nil (by intro r hr; cases hr) ⟨(congrArg (Value.int .i64) (by rw [show ls.length = 0 by omega]; rfl)), rfl⟩
 have hel : ((legsM sf gs ls).map cLe)[ls.length - 1]? = some (cLe (legAt sf gs ls (ls.length - 1))) := le_cell (by omega)
 have e9 := secAt_succ ls (ls.length - 1)
 rw [show ls.length - 1 + 1 = ls.length by omega] at e9
 refine C_skip_then ?_
 refine C_seq ?_
 refine C_region ?_
 refine Jq (q_move rfl) ?_
 refine Jq (q_move rfl) ?_
 refine Jq (q_len tb rfl rfl gvo) ?_
 refine Jq (q_sub rfl rfl (by first | exact IntWalk.i64_in _ (by omega) | rfl)) ?_
 refine Jq (by first | exact q_index tb rfl rfl rfl rfl gvo (by omega) (by first | omega | (simp; done) | (simp; omega)) | exact q_indexP tb rfl rfl rfl rfl (by omega) (by omega)) ?_
 refine Jq (q_loadEA tb rfl rfl gvo (i := ls.length - 1) (o := 0) (by omega) hel rfl rfl) ?_
 refine L_call tb rfl rfl (ct_exposure_leg_end (legAt sf gs ls (ls.length - 1)) (H.le (by omega))) no_ps rfl ?_
 refine Jq (q_assign rfl) ?_
 refine L_then ?_
 refine C_ret ?_
 exact ret_of (res1 rfl rfl) sub_nil (by intro r hr; cases hr) ⟨(congrArg (Value.int .i64) (by exact e9.symm)), rfl⟩
def folE (sf : Int) (gs : List Gs) (ls : List Dl) : List Le × Int := if secAt ls ls.length > 20000 then ([], 8) else (legsM sf gs ls, 0)
theorem folE_1 {sf : Int} {gs : List Gs} {ls : List Dl} (h : secAt ls ls.length > 20000) : folE sf gs ls = ([], 8) := if_pos h
theorem folE_2 {sf : Int} {gs : List Gs} {ls : List Dl} (h : ¬ secAt ls ls.length > 20000) : folE sf gs ls = (legsM sf gs ls, 0) := if_neg h

set_option maxRecDepth 100000 in
theorem ct_exposure_followed (nm : ByteArray) (sf : Int) (v u : Value) (gs : List Gs) (ls : List Dl) (H : okPl sf gs ls) : Ct Try.prog 70 [.agg (cPl nm sf v u).toArray] [(v, 2, gs.map cGs), (u, 3, ls.map cDl)] (isSlN 108 9 ((folE sf gs ls).1.map cLe) (.int .i64 (folE sf gs ls).2)) := by
 refine Ct.of (N := 11) Try.func70 rfl rfl rfl fun w => ?_
 refine C_weak (E' := [(0, .agg (cPl nm sf v u).toArray)]) (rs' := [rd v 2 (gs.map cGs), rd u 3 (ls.map cDl)]) ⟨rfl, trivial⟩ (fun _ h => h) ?_
 have hl1 := len_map cGs gs
 have hl2 := len_map cDl ls
 refine C_seq ?_
 refine C_region ?_
 refine L_box rfl rfl rfl fun g1 => ?_
 refine Jq (q_assign rfl) ?_
 refine Jq (q_assign rfl) ?_
 refine L_then ?_
 refine C_seq ?_
 refine C_region ?_
 refine Jq (q_loadA tb rfl rfl bxo rfl rfl) ?_
 refine L_callS tb rfl rfl (ct_exposure_legs nm sf v u gs ls H) (ps_cons gvo (ps_cons gvo no_ps)) rfl fun v6 => ?_
 refine Jq (q_assign rfl) ?_
 refine L_then ?_
 refine C_seq ?_
 refine C_seq ?_
 refine C_region ?_
 refine Jq (q_move rfl) ?_
 refine L_call tb rfl rfl (ct_exposure_endOf v6 sf gs ls H) (ps_cons gvo no_ps) rfl ?_
 refine Jq (q_gtr rfl rfl) ?_
 refine L_then ?_
 refine C_dec rfl (fun h1 => ?_) (fun h1 => ?_)
 refine C_seq ?_
 refine C_region ?_
 refine Jq (q_assign rfl) ?_
 refine Jq (q_assign rfl) ?_
 refine L_then ?_
 refine C_ret ?_
 rw [folE_1 h1]
 exact ret_of (rs' := [sl (.slice none 0 0) 108 9 []]) (res2 rfl rfl rfl) (fun w_ h_ => ws_nil (sub_nil w_ h_)) own1 ⟨_, rfl, rfl⟩
 refine C_skip_then ?_
 refine C_seq ?_
 refine C_region ?_
 refine Jq (q_move rfl) ?_
 refine Jq (q_assign rfl) ?_
 refine Jq (q_assign rfl) ?_
 refine L_then ?_
 refine C_ret ?_
 rw [folE_2 h1]
 exact ret_of (rs' := [sl v6 108 9 ((legsM sf gs ls).map cLe)]) (res2 rfl rfl rfl) (fun w_ h_ => h_.pk (by repeat (first | with_reducible exact pk_nil | refine pk_box rfl ?_ | refine pk_rd rfl ?_ | refine pk_sl rfl ?_ | with_reducible refine pk_app ?_ | with_reducible refine pk_app0 ?_ | with_reducible refine pk_app0L ?_ | with_reducible exact pk_tl | refine pk_var ?_))) own1 ⟨_, rfl, rfl⟩
set_option maxRecDepth 100000 in
set_option maxHeartbeats 1000000 in
theorem ct_exposure_ConsumedAt (nm : ByteArray) (sf : Int) (v u : Value) (gs : List Gs) (ls : List Dl) (hle : gs.length ≤ 100000) (hle2 : ls.length ≤ 100000) (hnm : nm.size ≤ 1000000000000) (b c : Int) : Ct Try.prog 31 [.agg (cPl nm sf v u).toArray, .int .i64 b, .int .i64 c] [(v, 2, gs.map cGs), (u, 3, ls.map cDl)] (isSlN 3 1 ((traceE nm sf gs ls b c).1.map cI) (.int .i64 (traceE nm sf gs ls b c).2)) := by
 refine Ct.of (N := 72) Try.func31 rfl rfl rfl fun w => ?_
 refine C_weak (E' := [(0, .agg (cPl nm sf v u).toArray), (1, .int .i64 b), (2, .int .i64 c)]) (rs' := [rd v 2 (gs.map cGs), rd u 3 (ls.map cDl)]) ⟨rfl, rfl, rfl, trivial⟩ (fun _ h => h) ?_
 have hl1 := len_map cGs gs
 have hl2 := len_map cDl ls
 refine C_seq ?_
 refine C_region ?_
 refine L_box rfl rfl rfl fun g3 => ?_
 refine Jq (q_assign rfl) ?_
 refine Jq (q_assign rfl) ?_
 refine L_then ?_
 refine C_seq ?_
 refine C_seq ?_
 refine C_region ?_
 refine Jq (q_loadA tb rfl rfl bxo rfl rfl) ?_
 refine L_call tb rfl rfl (ct_exposure_checkPlan nm sf v u gs ls hle hle2 hnm) (ps_cons gvo (ps_cons gvo no_ps)) rfl ?_
 refine Jq (q_assign rfl) ?_
 refine L_then ?_
 refine C_seq ?_
 refine C_region ?_
 refine Jq (q_move rfl) ?_
 refine Jq (q_neq rfl rfl) ?_
 refine L_then ?_
 refine C_dec rfl (fun h1 => ?_) (fun h1 => ?_)
 refine C_seq ?_
 refine C_region ?_
 refine Jq (q_move rfl) ?_
 refine Jq (q_assign rfl) ?_
 refine Jq (q_assign rfl) ?_
 refine L_then ?_
 refine C_ret ?_
 rw [traceE_1 h1]
 exact ret_of (rs' := [sl (.slice none 0 0) 3 1 []]) (res2 rfl rfl rfl) (fun w_ h_ => ws_nil (sub_nil w_ h_)) own1 ⟨_, rfl, rfl⟩
 refine C_skip_then ?_
 refine C_seq ?_
 refine C_seq ?_
 refine C_region ?_
 refine Jq (q_move rfl) ?_
 refine L_call tb rfl rfl (ct_exposure_isBreath _) no_ps rfl ?_
 refine Jq (q_not rfl decide_not.symm) ?_
 refine L_then ?_
 refine C_dec rfl (fun h2 => ?_) (fun h2 => ?_)
 refine C_seq ?_
 refine C_region ?_
 refine Jq (q_assign rfl) ?_
 refine Jq (q_assign rfl) ?_
 refine L_then ?_
 refine C_ret ?_
 rw [traceE_2 (Decidable.not_not.1 h1) (by omega)]
 exact ret_of (rs' := [sl (.slice none 0 0) 3 1 []]) (res2 rfl rfl rfl) (fun w_ h_ => ws_nil (sub_nil w_ h_)) own1 ⟨_, rfl, rfl⟩
 have hz := Decidable.not_not.1 h1; have H := (ckPl_ok hz).2; have hll := H.ll; have hgl := H.gl; have hb := Decidable.not_not.1 h2
 have hlen : ((legsM sf gs ls).map cLe).length = ls.length := le_len _ _ _ _
 have hTe := H.e ls.length (Nat.le_refl _)
 refine C_skip_then ?_
 refine C_seq ?_
 refine C_region ?_
 refine Jq (q_loadA tb rfl rfl bxo rfl rfl) ?_
 refine L_callSN tb rfl rfl (ct_exposure_followed nm sf v u gs ls H) (ps_cons gvo (ps_cons gvo no_ps)) rfl fun v24 => ?_
 refine Jq (q_move rfl) ?_
 refine Jq (q_ext0 rfl) ?_
 refine Jq (q_ext1 rfl) ?_
 refine Jq (q_assign rfl) ?_
 refine Jq (q_assign rfl) ?_
 refine L_then ?_
 refine C_seq ?_
 refine C_block ?_
 refine C_seq ?_
 refine C_region ?_
 refine Jq (q_move rfl) ?_
 refine Jq (q_neq rfl rfl) ?_
 refine Jq (q_assign rfl) ?_
 refine L_then ?_
 refine C_dec rfl (fun h3 => ?_) (fun h3 => ?_)
 have hT : secAt ls ls.length > 20000 := Decidable.byContradiction fun hh => h3 (by rw [folE_2 hh])
 refine C_seq ?_
 refine C_region ?_
 refine Jq (q_move rfl) ?_
 refine Jq (q_assign rfl) ?_
 refine Jq (q_assign rfl) ?_
 refine L_then ?_
 refine C_ret ?_
 rw [traceE_3 hz hb (by omega), folE_1 hT]
 exact ret_of (rs' := [sl (.slice none 0 0) 3 1 []]) (res2 rfl rfl rfl) (fun w_ h_ => ws_nil (sub_nil w_ h_)) own1 ⟨_, rfl, rfl⟩
 have hT : ¬ secAt ls ls.length > 20000 := fun hh => h3 (by rw [folE_1 hh]; decide)
 rw [folE_2 hT]
 refine C_seq ?_
 refine C_region ?_
 refine Jq (q_move rfl) ?_
 refine Jq (q_move rfl) ?_
 refine L_call tb rfl rfl (ct_exposure_endOf v24 sf gs ls H) (ps_cons gvo no_ps) rfl ?_
 refine L_call tb rfl rfl (ct_exposure_within _ _ _) no_ps rfl ?_
 refine Jq (q_not rfl decide_not.symm) ?_
 refine Jq (q_assign rfl) ?_
 refine L_then ?_
 refine C_dec rfl (fun h4 => ?_) (fun h4 => ?_)
 refine C_seq ?_
 refine C_region ?_
 refine Jq (q_assign rfl) ?_
 refine Jq (q_assign rfl) ?_
 refine L_then ?_
 refine C_ret ?_
 rw [traceE_4 hz hb (by omega) (by omega)]
 exact ret_of (rs' := [sl (.slice none 0 0) 3 1 []]) (res2 rfl rfl rfl) (fun w_ h_ => ws_nil (sub_nil w_ h_)) own1 ⟨_, rfl, rfl⟩
 refine C_skip_blk ?_
 refine C_seq ?_
 refine C_region ?_
 refine Jq (q_field tb rfl rfl rfl) ?_
 refine Jq (q_load tb rfl rfl bxo rfl) ?_
 refine Jq (q_len tb rfl rfl gvo) ?_
 rw [hl1]
 refine L_mk (lo_make tb rfl rfl rfl (n := gs.length) rfl rfl (by omega) (by simp [maxLen]; omega)) rfl rfl rfl fun v40 => ?_
 refine Jq (q_assign rfl) ?_
 refine L_then ?_
 refine C_seq ?_
 refine C_seq ?_
 refine C_res (rs' := [sl v40 3 1 ((consK gs.length ls (amtT sf gs ls b c) 0).map cI), sl v24 108 9 ((legsM sf gs ls).map cLe), box g3 25 (cPl nm sf v u), rd v 2 (gs.map cGs), rd u 3 (ls.map cDl)]) (fun _ h => h.pk (by repeat (first | with_reducible exact pk_nil | refine pk_box (by first | rfl | exact (cons_zero _ _ _)) ?_ | refine pk_rd rfl ?_ | refine pk_sl (by first | rfl | exact (cons_zero _ _ _)) ?_ | with_reducible refine pk_app ?_ | with_reducible refine pk_app0 ?_ | with_reducible refine pk_app0L ?_ | with_reducible exact pk_tl | refine pk_var ?_))) ?_
 refine C_region ?_
 refine Jq (q_move rfl) ?_
 refine Jq (q_len tb rfl rfl gvo) ?_
 refine Jq (q_move rfl) ?_
 refine L_then ?_
 refine C_block ?_
 refine C_loop (ι := Nat) (fun k => ([(1, .int .i64 b), (2, .int .i64 c), (3, .pointer (some ⟨g3, 0, none⟩)), (11, v40), (41, v24), (42, .int .i64 ((legsM sf gs ls).map cLe).length), (43, .int .i64 (k : Int))], [sl v40 3 1 ((consK gs.length ls (amtT sf gs ls b c) k).map cI), sl v24 108 9 ((legsM sf gs ls).map cLe), box g3 25 (cPl nm sf v u), rd v 2 (gs.map cGs), rd u 3 (ls.map cDl)])) (fun k => k ≤ ls.length) (fun k => ls.length - k) 0 (Nat.zero_le _) (fun a w hs => hs.weak ⟨rfl, rfl, rfl, rfl, rfl, rfl, rfl, trivial⟩ (fun h => h.pk (by repeat (first | with_reducible exact pk_nil | refine pk_box rfl ?_ | refine pk_rd rfl ?_ | refine pk_sl rfl ?_ | with_reducible refine pk_app ?_ | with_reducible refine pk_app0 ?_ | with_reducible refine pk_app0L ?_ | with_reducible exact pk_tl | refine pk_var ?_)))) ?_
 intro k hk9
 dsimp only at hk9 ⊢
 refine C_seq ?_
 refine C_region ?_
 refine Jq (q_lss rfl rfl) ?_
 refine L_then ?_
 refine C_seq ?_
 refine C_dec rfl (fun h5 => ?_) (fun h5 => ?_)
 have hel : ((legsM sf gs ls).map cLe)[k]? = some (cLe (legAt sf gs ls k)) := le_cell (by omega)
 have hds := (H.at (k := k) (by omega)).s; have hsl := sec_leg H (k := k) (by omega); have hse := H.e k (by omega)
 obtain ⟨v0, hv0⟩ := get_some (consK gs.length ls (amtT sf gs ls b c) k) (k := (dlAt ls k).g.toNat) (by rw [consK_len]; have := (H.at (k := k) (by omega)).g; omega)
 have helo := map_get cI hv0; have hg9 := (H.at (k := k) (by omega)).g; have hbd := consK_in (n := gs.length) (ls := ls) (amt := (amtT sf gs ls b c)) (A := 51833333334) (by omega) k (fun i hi => amtT_in H hb (by omega) (by omega)) _ _ hv0
 have hcl := consK_len gs.length ls (amtT sf gs ls b c) k
 have hcm := len_map cI (consK gs.length ls (amtT sf gs ls b c) k)
 refine C_skip_then ?_
 refine C_seq ?_
 refine C_block ?_
 refine C_seq ?_
 refine C_region ?_
 refine Jq (by first | exact q_index tb rfl rfl rfl rfl gvo (by omega) (by first | omega | (simp; done) | (simp; omega)) | exact q_indexP tb rfl rfl rfl rfl (by omega) (by omega)) ?_
 refine Jq (q_loadEA tb rfl rfl gvo (i := k) (o := 0) (by omega) hel rfl rfl) ?_
 refine L_alloc tb rfl rfl fun g13 => ?_
 refine L_st tb rfl rfl ?_
 refine L_then ?_
 refine C_seq ?_
 refine C_res (rs' := [box g13 108 ([.int .i64 (dlAt ls k).s, .int .i64 (dlAt ls k).d, .int .i64 (dlAt ls k).g, .int .i64 (secAt ls k), .int .i64 (sf + depAt ls k), .int .i64 (sf + (dlAt ls k).d), .int .i64 sf, .int .i64 (gasAt gs (dlAt ls k).g).o, .int .i64 (gasAt gs (dlAt ls k).g).h]), sl v40 3 1 ((consK gs.length ls (amtT sf gs ls b c) k).map cI), sl v24 108 9 ((legsM sf gs ls).map cLe), box g3 25 (cPl nm sf v u), rd v 2 (gs.map cGs), rd u 3 (ls.map cDl)]) (fun _ h => h.pk (by repeat (first | with_reducible exact pk_nil | refine pk_box rfl ?_ | refine pk_rd rfl ?_ | refine pk_sl rfl ?_ | with_reducible refine pk_app ?_ | with_reducible refine pk_app0 ?_ | with_reducible refine pk_app0L ?_ | with_reducible exact pk_tl | refine pk_var ?_))) ?_
 refine C_region ?_
 refine Jq (q_field tb rfl rfl rfl) ?_
 refine Jq (q_load tb rfl rfl bxo rfl) ?_
 refine Jq (q_move rfl) ?_
 refine Jq (q_lss rfl rfl) ?_
 refine L_then ?_
 refine C_dec rfl (fun h6 => ?_) (fun h6 => ?_)
 have hbr : 0 ≤ brM b (min (c - secAt ls k) (dlAt ls k).s) (legAt sf gs ls k) ∧ brM b (min (c - secAt ls k) (dlAt ls k).s) (legAt sf gs ls k) ≤ 51833333334 := brM_in (H.le (by omega)) hb (by show 0 ≤ min _ _ ∧ min _ _ ≤ (dlAt ls k).s; omega) (.inr (by show (dlAt ls k).s ≤ 20000; omega))
 have eam : amtT sf gs ls b c k = brM b (min (c - secAt ls k) (dlAt ls k).s) (legAt sf gs ls k) := if_pos (by omega)
 refine C_draw (n := 19) [(0, false), (1, false), (2, false), (3, false), (4, false), (5, false), (6, false), (7, false), (8, false), (9, false), (10, false), (11, false), (12, false), (13, false), (14, false), (15, false), (16, true), (17, false), (18, false)] mixed (by kernel_rfl) ?_
 refine Yq rfl (q_move rfl) ?_
 refine Yq rfl (q_field tb rfl rfl rfl) ?_
 refine Yq rfl (q_field tb rfl rfl rfl) ?_
 refine Yq rfl (q_load tb rfl rfl bxo rfl) ?_
 refine Yq rfl (by first | exact q_index tb rfl rfl rfl rfl gvo (by omega) (by first | omega | (simp; done) | (simp; omega)) | exact q_indexP tb rfl rfl rfl rfl (by omega) (by omega)) ?_
 refine Yq rfl (q_loadE tb rfl rfl gvo (i := (dlAt ls k).g.toNat) (o := 0) (by omega) helo rfl) ?_
 refine Yq rfl (q_loadA tb rfl rfl bxo rfl rfl) ?_
 refine Yq rfl (q_move rfl) ?_
 refine Yq rfl (q_move rfl) ?_
 refine Yq rfl (q_field tb rfl rfl rfl) ?_
 refine Yq rfl (q_load tb rfl rfl bxo rfl) ?_
 refine Yq rfl (q_sub rfl rfl (by first | exact IntWalk.i64_in _ (by omega) | rfl)) ?_
 refine Yq rfl (q_field tb rfl rfl rfl) ?_
 refine Yq rfl (q_field tb rfl rfl rfl) ?_
 refine Yq rfl (q_load tb rfl rfl bxo rfl) ?_
 refine Yq rfl (q_min rfl rfl) ?_
 refine W_call tb rfl rfl rfl rfl (ct_exposure_leg_breathes (legAt sf gs ls k) b (min (c - secAt ls k) (dlAt ls k).s) (H.le (by omega)) hb (by show 0 ≤ min _ _ ∧ min _ _ ≤ (dlAt ls k).s; omega) (.inr (by show (dlAt ls k).s ≤ 20000; omega))) no_ps rfl ?_
 refine Yq rfl (q_add rfl rfl (by first | exact IntWalk.i64_in _ (by omega) | rfl)) ?_
 refine Yq rfl (by first | exact q_index tb rfl rfl rfl rfl gvo (by omega) (by first | omega | (simp; done) | (simp; omega)) | exact q_indexP tb rfl rfl rfl rfl (by omega) (by omega)) ?_
 refine W_nil ?_
 first | refine L_storeEl tb rfl rfl rfl rfl rfl rfl (i := (dlAt ls k).g.toNat) (by omega) (by omega) ?_ | (refine L_front1 ?_; refine L_storeEl tb rfl rfl rfl rfl rfl rfl (i := (dlAt ls k).g.toNat) (by omega) (by omega) ?_) | (refine L_front2 ?_; refine L_storeEl tb rfl rfl rfl rfl rfl rfl (i := (dlAt ls k).g.toNat) (by omega) (by omega) ?_) | (refine L_front3 ?_; refine L_storeEl tb rfl rfl rfl rfl rfl rfl (i := (dlAt ls k).g.toNat) (by omega) (by omega) ?_) | (refine L_front4 ?_; refine L_storeEl tb rfl rfl rfl rfl rfl rfl (i := (dlAt ls k).g.toNat) (by omega) (by omega) ?_) | (refine L_front5 ?_; refine L_storeEl tb rfl rfl rfl rfl rfl rfl (i := (dlAt ls k).g.toNat) (by omega) (by omega) ?_) | (refine L_front6 ?_; refine L_storeEl tb rfl rfl rfl rfl rfl rfl (i := (dlAt ls k).g.toNat) (by omega) (by omega) ?_)
 refine L_blk ?_
 refine C_region ?_
 refine Jq (q_add rfl rfl (by first | exact IntWalk.i64_in _ (by omega) | rfl)) ?_
 refine Jq (q_move rfl) ?_
 refine L_end ?_
 have e9 := cons_step (amt := (amtT sf gs ls b c)) hv0
 rw [eam] at e9
 exact fun ac_ wo_ hs_ => ⟨k + 1, (by dsimp only; omega), (by dsimp only; omega), hs_.weak ⟨rfl, rfl, rfl, rfl, rfl, rfl, rfl, trivial⟩ (fun h => h.pk (by repeat (first | with_reducible exact pk_nil | refine pk_box (by first | rfl | exact e9) ?_ | refine pk_rd rfl ?_ | refine pk_sl (by first | rfl | exact e9) ?_ | with_reducible refine pk_app ?_ | with_reducible refine pk_app0 ?_ | with_reducible refine pk_app0L ?_ | with_reducible exact pk_tl | refine pk_var ?_)))⟩
 have eam : amtT sf gs ls b c k = 0 := if_neg (by omega)
 refine C_skip_blk ?_
 refine C_region ?_
 refine Jq (q_add rfl rfl (by first | exact IntWalk.i64_in _ (by omega) | rfl)) ?_
 refine Jq (q_move rfl) ?_
 refine L_end ?_
 have e9 : (consK gs.length ls (amtT sf gs ls b c) k).map cI = (consK gs.length ls (amtT sf gs ls b c) (k + 1)).map cI := by show _ = (addAt _ _ ((amtT sf gs ls b c) k)).map cI; rw [eam, addAt_zero]
 exact fun ac_ wo_ hs_ => ⟨k + 1, (by dsimp only; omega), (by dsimp only; omega), hs_.weak ⟨rfl, rfl, rfl, rfl, rfl, rfl, rfl, trivial⟩ (fun h => h.pk (by repeat (first | with_reducible exact pk_nil | refine pk_box (by first | rfl | exact e9) ?_ | refine pk_rd rfl ?_ | refine pk_sl (by first | rfl | exact e9) ?_ | with_reducible refine pk_app ?_ | with_reducible refine pk_app0 ?_ | with_reducible refine pk_app0L ?_ | with_reducible exact pk_tl | refine pk_var ?_)))⟩
 refine C_exit ?_
 change C Try.prog _ _ _ _ _ _ _
 refine C_seq ?_
 refine C_region ?_
 refine Jq (q_move rfl) ?_
 refine Jq (q_assign rfl) ?_
 refine Jq (q_assign rfl) ?_
 refine L_then ?_
 refine C_ret ?_
 obtain rfl : k = ls.length := by omega
 rw [traceE_5 hz hb (by omega) (by omega)]
 exact ret_of (rs' := [sl v40 3 1 ((consK gs.length ls (amtT sf gs ls b c) ls.length).map cI)]) (res2 rfl rfl rfl) (fun w_ h_ => h_.pk (by repeat (first | with_reducible exact pk_nil | refine pk_box rfl ?_ | refine pk_rd rfl ?_ | refine pk_sl rfl ?_ | with_reducible refine pk_app ?_ | with_reducible refine pk_app0 ?_ | with_reducible refine pk_app0L ?_ | with_reducible exact pk_tl | refine pk_var ?_))) own1 ⟨_, rfl, rfl⟩
end Go.Proofs.Ytdmnejfpbbmcaaa
