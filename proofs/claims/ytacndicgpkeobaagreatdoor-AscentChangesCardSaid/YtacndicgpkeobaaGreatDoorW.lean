/-
  Walks: each function named returns what its model says. Conditions: those in front of each theorem.
-/
import Derived.Test.YtacndicgpkeobaaGreatDoorV
namespace Go.Proofs.YtacndicgpkeobaaGreatDoor
open Go.RowKit

set_option maxRecDepth 100000 in
theorem ct_tissue_Decided (v u : Value) (x : Lg) (fa fi : Int) (ts : List Cp) (ls : List Ld) (hle : ts.length ≤ 1000000) (hle2 : ls.length ≤ 1000000) : Ct Tryz.prog 164 [.agg (cDv v u x fa).toArray, .int .i64 fi] [(v, 4, ts.map cCp), (u, 4, ls.map cLd)] (isV (.tuple #[.int .i64 (decE_ ts ls x fa fi).1.1, .int .i64 (decE_ ts ls x fa fi).1.2, .int .i64 (decE_ ts ls x fa fi).2])) := by
 refine Ct.of (N := 31) Tryz.func164 rfl rfl rfl fun w => ?_
 refine C_weak (E' := [(0, .agg (cDv v u x fa).toArray), (1, .int .i64 fi)]) (rs' := [rd v 4 (ts.map cCp), rd u 4 (ls.map cLd)]) ⟨rfl, rfl, trivial⟩ (fun _ h => h) ?_
 refine C_seq ?_
 refine C_region ?_
 refine L_box rfl rfl rfl fun g2 => ?_
 refine Jq (q_assign rfl) ?_
 refine Jq (q_assign rfl) ?_
 refine Jq (q_assign rfl) ?_
 refine L_then ?_
 refine C_seq ?_
 refine C_seq ?_
 refine C_region ?_
 refine Jq (q_loadA tb rfl rfl bxo rfl rfl) ?_
 refine Jq (q_move rfl) ?_
 refine L_call tb rfl rfl (ct_tissue_checkFine v u x fa fi ts ls hle hle2) (ps_cons gvo (ps_cons gvo no_ps)) rfl ?_
 refine Jq (q_assign rfl) ?_
 refine L_then ?_
 refine C_seq ?_
 refine C_region ?_
 refine Jq (q_move rfl) ?_
 refine Jq (q_neq rfl rfl) ?_
 refine L_then ?_
 refine C_dec rfl (fun h1 => ?_) (fun h1 => ?_)
 refine C_seq ?_
 refine C_region ?_
 refine Jq (q_move rfl) ?_
 refine Jq (q_assign rfl) ?_
 refine Jq (q_assign rfl) ?_
 refine Jq (q_assign rfl) ?_
 refine L_then ?_
 refine C_ret ?_
 rw [decE_1 h1]
 exact ret_of (res3 rfl rfl rfl rfl) sub_nil (by intro r hr; cases hr) ⟨rfl, rfl⟩
 obtain ⟨H, hf0, hf6⟩ := ckFine_ok (Decidable.not_not.1 h1)
 obtain ⟨f, rfl⟩ := Int.eq_ofNat_of_zero_le hf0
 have hf : f ≤ 6 := by omega
 refine C_skip_then ?_
 refine C_seq ?_
 refine C_seq ?_
 refine C_region ?_
 refine Jq (q_move rfl) ?_
 refine Jq (q_add rfl rfl (by first | exact IntWalk.i64_in _ (by omega) | rfl)) ?_
 refine Jq (q_move rfl) ?_
 refine L_then ?_
 refine C_block ?_
 refine C_loop (ι := Nat) (fun k => ([(2, .pointer (some ⟨g2, 0, none⟩)), (1, .int .i64 (f : Int)), (17, .int .i64 ((f : Int) + 1)), (18, .int .i64 (k : Int))], [box g2 208 (cDv v u x fa), rd v 4 (ts.map cCp), rd u 4 (ls.map cLd)])) (fun k => k ≤ f + 1 ∧ decT ts ls x fa f = decF ts ls x fa f (f + 1 - k)) (fun k => f + 1 - k) 0 ⟨Nat.zero_le _, rfl⟩ (fun a w hs => hs.weak ⟨rfl, rfl, rfl, rfl, trivial⟩ (fun h => h.pk (by repeat (first | with_reducible exact pk_nil | refine pk_box rfl ?_ | refine pk_rd rfl ?_ | refine pk_sl rfl ?_ | with_reducible refine pk_app ?_ | with_reducible refine pk_app0 ?_ | with_reducible refine pk_app0L ?_ | with_reducible exact pk_tl | refine pk_var ?_)))) ?_
 rintro k ⟨hk, hd9⟩
 dsimp only at hk hd9 ⊢
 refine C_seq ?_
 refine C_region ?_
 refine Jq (q_lss rfl rfl) ?_
 refine L_then ?_
 refine C_seq ?_
 refine C_dec rfl (fun h2 => ?_) (fun h2 => ?_)
 refine C_skip_then ?_
 refine C_seq ?_
 refine C_block ?_
 refine C_seq ?_
 refine C_region ?_
 refine Jq (q_move rfl) ?_
 refine Jq (q_assign rfl) ?_
 refine L_then ?_
 refine C_seq ?_
 refine C_region ?_
 refine Jq (q_loadA tb rfl rfl bxo rfl rfl) ?_
 refine Jq (by first | exact q_build tb rfl rfl rfl rfl | exact q_buildArr tb rfl rfl rfl rfl rfl) ?_
 refine Jq (q_move rfl) ?_
 refine L_call tb rfl rfl (ct_tissue_task_kept v u x fa k ts ls H (by omega)) (ps_cons gvo (ps_cons gvo no_ps)) rfl ?_
 refine Jq (q_assign rfl) ?_
 refine L_then ?_
 refine C_seq ?_
 refine C_region ?_
 refine Jq (q_move rfl) ?_
 refine Jq (q_neq rfl rfl) ?_
 refine L_then ?_
 refine C_dec rfl (fun hq => ?_) (fun hq => ?_)
 refine C_seq ?_
 refine C_region ?_
 refine Jq (q_move rfl) ?_
 refine Jq (q_move rfl) ?_
 refine Jq (q_assign rfl) ?_
 refine Jq (q_assign rfl) ?_
 refine Jq (q_assign rfl) ?_
 refine L_then ?_
 refine C_ret ?_
 rw [decE_2 (Decidable.not_not.1 h1), hd9, decF_step (by omega), if_pos hq]
 exact ret_of (res3 rfl rfl rfl rfl) sub_nil (by intro r hr; cases hr) ⟨rfl, rfl⟩
 refine C_skip_blk ?_
 refine C_region ?_
 refine Jq (q_add rfl rfl (by first | exact IntWalk.i64_in _ (by omega) | rfl)) ?_
 refine Jq (q_move rfl) ?_
 refine L_end ?_
 exact fun ac_ wo_ hs_ => ⟨k + 1, ⟨by omega, by rw [hd9, decF_step (by omega), if_neg (fun hh => hh (Decidable.not_not.1 hq))]⟩, (by show f + 1 - (k + 1) < f + 1 - k; omega), hs_.weak ⟨rfl, rfl, rfl, rfl, trivial⟩ (fun h => h.pk (by repeat (first | with_reducible exact pk_nil | refine pk_box rfl ?_ | refine pk_rd rfl ?_ | refine pk_sl rfl ?_ | with_reducible refine pk_app ?_ | with_reducible refine pk_app0 ?_ | with_reducible refine pk_app0L ?_ | with_reducible exact pk_tl | refine pk_var ?_)))⟩
 refine C_exit ?_
 change C Tryz.prog _ _ _ _ _ _ _
 refine C_seq ?_
 refine C_region ?_
 refine Jq (q_move rfl) ?_
 refine Jq (q_assign rfl) ?_
 refine Jq (q_assign rfl) ?_
 refine Jq (q_assign rfl) ?_
 refine L_then ?_
 refine C_ret ?_
 have hkf : f + 1 - k = 0 := by omega
 rw [decE_2 (Decidable.not_not.1 h1), hd9, hkf]
 exact ret_of (res3 rfl rfl rfl rfl) sub_nil (by intro r hr; cases hr) ⟨rfl, rfl⟩
set_option maxRecDepth 100000 in
set_option maxHeartbeats 4000000 in
theorem ct_shotlineref03_Kept (v u : Value) (x : Lg) (fa : Int) (f : Nat) (ts : List Cp) (ls : List Ld) (H : okTask ts ls x fa) (hf : f ≤ 6) : Ct Tryz.prog 213 [.agg (cDv v u x fa).toArray, .int .i64 (f : Int)] [(v, 4, ts.map cCp), (u, 4, ls.map cLd)] (isV (.int .i64 (keptT ts ls x fa f))) := by
 refine Ct.of (N := 139) Tryz.func213 rfl rfl rfl fun w => ?_
 refine C_weak (E' := [(0, .agg (cDv v u x fa).toArray), (1, .int .i64 (f : Int))]) (rs' := [rd v 4 (ts.map cCp), rd u 4 (ls.map cLd)]) ⟨rfl, rfl, trivial⟩ (fun _ h => h) ?_
 obtain ⟨n, hn⟩ : ∃ n : Nat, n = 2 ^ f := ⟨_, rfl⟩
 have hT : onTask ts ls x fa f n := ⟨H, hf, hn⟩
 have h64 := two_f hf hn
 have hk := H.k; have hlen := hk.len; have htb := hk.b; have hfa := H.fa; have hx := H.xx; have hsx := hx.s; have hml := mks_len x n (rmk x n)
 have hl1 := len_map cCp ts; have hl2 := len_map cLd ls
 have hr00 := rmk_gt x n
 have hel00 : ((mksL x n (rmk x n)).map cMk)[0]? = some (cMk (mkM x n ((0 : Nat) : Int))) := mks_cell (by unfold rmk; split <;> omega)
 have hm00 := mk_in (j := ((0 : Nat) : Int)) hx (n := (n : Int)) (by omega) (by omega)
 refine C_seq ?_
 refine C_region ?_
 refine L_box rfl rfl rfl fun g2 => ?_
 refine Jq (q_assign rfl) ?_
 refine L_then ?_
 refine C_seq ?_
 refine C_draw (n := 8) [(0, false), (1, false), (2, false), (4, false), (5, false), (6, false), (3, true), (7, true)] mixed (by kernel_rfl) ?_
 refine Yq rfl (q_move rfl) ?_
 refine Yq rfl (q_mul rfl rfl (wr (b := ((2 * f : Nat) : Int)) (by omega) (by omega))) ?_
 refine Yq rfl (q_add rfl rfl (wr (b := ((8 + 2 * f : Nat) : Int)) (by omega) (by omega))) ?_
 refine Yq rfl (q_field tb rfl rfl rfl) ?_
 refine Yq rfl (q_loadA tb rfl rfl bxo rfl rfl) ?_
 refine Yq rfl (q_move rfl) ?_
 refine W_callS tb rfl rfl rfl rfl (ct_shotlineref03_Roots (8 + 2 * f) (by omega)) no_ps rfl fun v17 => ?_
 refine W_callS tb rfl rfl rfl rfl (ct_shotlineref03_Marks x f n hf hn hx) no_ps rfl fun v21 => ?_
 refine W_nil ?_
 refine Jq (q_assign rfl) ?_
 refine Jq (q_assign rfl) ?_
 refine L_then ?_
 refine C_seq ?_
 refine C_region ?_
 refine Jq (q_field tb rfl rfl rfl) ?_
 refine Jq (q_load tb rfl rfl bxo rfl) ?_
 refine Jq (q_assign rfl) ?_
 refine L_then ?_
 refine C_seq ?_
 refine C_draw (n := 14) [(0, false), (1, false), (2, false), (3, false), (4, false), (5, false), (6, false), (7, false), (8, false), (9, false), (10, true), (11, false), (12, false), (13, false)] mixed (by kernel_rfl) ?_
 refine Yq rfl (q_field tb rfl rfl rfl) ?_
 refine Yq rfl (q_load tb rfl rfl bxo rfl) ?_
 refine Yq rfl (q_move rfl) ?_
 refine Yq rfl (q_move rfl) ?_
 refine Yq rfl (by first | exact q_index tb rfl rfl rfl rfl gvo (by omega) (by first | omega | (simp; done) | (simp; omega)) | exact q_indexP tb rfl rfl rfl rfl (by omega) (by omega)) ?_
 refine Yq rfl (q_fieldE tb rfl rfl rfl gvo (by first | omega | (simp; done) | (simp; omega))) ?_
 refine Yq rfl (q_fieldE tb rfl rfl rfl gvo (by first | omega | (simp; done) | (simp; omega))) ?_
 refine Yq rfl (q_loadE tb rfl rfl gvo (i := 0) (o := 2) (by omega) hel00 rfl) ?_
 refine Yq rfl (q_field tb rfl rfl rfl) ?_
 refine Yq rfl (q_load tb rfl rfl bxo rfl) ?_
 refine W_call tb rfl rfl rfl rfl (ct_shotlineref03_KeptAt v u (mkM x n ((0 : Nat) : Int)).p.hi fa ts ls hk (by omega) hfa) (ps_cons gvo (ps_cons gvo no_ps)) rfl ?_
 refine Yq rfl (q_eql rfl rfl) ?_
 refine Yq rfl (q_assign rfl) ?_
 refine Yq rfl (q_assign rfl) ?_
 refine W_nil ?_
 refine L_then ?_
 refine C_seq ?_
 refine C_seq ?_
 refine C_region ?_
 refine Jq (q_move rfl) ?_
 refine Jq (q_len tb rfl rfl gvo) ?_
 refine Jq (q_eql rfl rfl) ?_
 refine L_then ?_
 refine C_dec rfl (fun hone => ?_) (fun hone => ?_)
 have h0 : x.s = 0 := Decidable.byContradiction fun h => by have h9 := rmk_pos (n := n) h; omega
 refine C_draw (n := 12) [(0, false), (1, false), (2, false), (3, false), (4, false), (5, false), (6, false), (7, false), (8, false), (9, false), (10, true), (11, false)] mixed (by kernel_rfl) ?_
 refine Yq rfl (q_field tb rfl rfl rfl) ?_
 refine Yq rfl (q_load tb rfl rfl bxo rfl) ?_
 refine Yq rfl (q_move rfl) ?_
 refine Yq rfl (q_move rfl) ?_
 refine Yq rfl (by first | exact q_index tb rfl rfl rfl rfl gvo (by omega) (by first | omega | (simp; done) | (simp; omega)) | exact q_indexP tb rfl rfl rfl rfl (by omega) (by omega)) ?_
 refine Yq rfl (q_fieldE tb rfl rfl rfl gvo (by first | omega | (simp; done) | (simp; omega))) ?_
 refine Yq rfl (q_fieldE tb rfl rfl rfl gvo (by first | omega | (simp; done) | (simp; omega))) ?_
 refine Yq rfl (q_loadE tb rfl rfl gvo (i := 0) (o := 1) (by omega) hel00 rfl) ?_
 refine Yq rfl (q_field tb rfl rfl rfl) ?_
 refine Yq rfl (q_load tb rfl rfl bxo rfl) ?_
 refine W_call tb rfl rfl rfl rfl (ct_shotlineref03_KeptAt v u (mkM x n ((0 : Nat) : Int)).p.lo fa ts ls hk (by omega) hfa) (ps_cons gvo (ps_cons gvo no_ps)) rfl ?_
 refine Yq rfl (q_eql rfl rfl) ?_
 refine W_nil ?_
 refine Jq (q_assign rfl) ?_
 refine L_then ?_
 refine C_seq ?_
 refine C_seq ?_
 refine C_region ?_
 refine Jq (q_assign rfl) ?_
 refine L_then ?_
 refine C_block ?_
 refine C_loop (ι := Nat × Value × Bool × Bool) (fun p => ([(2, .pointer (some ⟨g2, 0, none⟩)), (5, v17), (6, v21), (7, p.2.1), (8, .bool p.2.2.1), (9, .bool p.2.2.2), (10, .int .i64 ((p.1 : Int) + 1))], [rd p.2.1 4 ((stM f ts ls x n p.1).map cLd), sl v21 259 3 ((mksL x n (rmk x n)).map cMk), sl v17 122 2 ((rts (8 + 2 * f)).map cRg), box g2 208 (cDv v u x fa), rd v 4 (ts.map cCp)])) (fun p => p.1 < rmk x n ∧ p.2.2.1 = kB fa f ts ls x n p.1 ∧ p.2.2.2 = noB fa f ts ls x n (p.1 + 1)) (fun p => rmk x n - p.1) (0, u, kB fa f ts ls x n 0, noB fa f ts ls x n 1) ⟨(rmk_gt x n), rfl, rfl⟩ (fun a w hs => hs.weak ⟨rfl, rfl, rfl, rfl, (by first | exact congrArg (fun b_ => some (Value.bool b_)) (kB_p (fa := fa) (f := f) (ts := ts) (ls := ls) (n := n) h0).symm | exact congrArg (fun b_ => some (Value.bool b_)) ((decide_eq_decide.2 (kept_yes hk.o)).trans (kB_z (fa := fa) (f := f) (ts := ts) (ls := ls) (n := n) h0).symm)), (congrArg (fun b_ => some (Value.bool b_)) ((decide_eq_decide.2 kept_no).trans (noB_first (fa := fa) (f := f) (ts := ts) (ls := ls) (x := x) (n := n)).symm)), rfl, trivial⟩ (fun h => h.pk (by repeat (first | with_reducible exact pk_nil | refine pk_box rfl ?_ | refine pk_rd rfl ?_ | refine pk_sl rfl ?_ | with_reducible refine pk_app ?_ | with_reducible refine pk_app0 ?_ | with_reducible refine pk_app0L ?_ | with_reducible exact pk_tl | refine pk_var ?_)))) ?_
 rintro ⟨k, y, a, b⟩ ⟨hk9, ha9, hb9⟩
 dsimp only at hk9 ha9 hb9 ⊢
 refine C_seq ?_
 refine C_seq ?_
 refine C_region ?_
 refine Jq (q_move rfl) ?_
 refine Jq (q_move rfl) ?_
 refine Jq (q_len tb rfl rfl gvo) ?_
 refine Jq (q_lss rfl rfl) ?_
 refine L_then ?_
 refine C_dec rfl (fun h2 => ?_) (fun h2 => ?_)
 have hs0 : x.s ≠ 0 := fun h => by have h9 := rmk_one (n := n) h; omega
 have hr1 := rmk_pos (n := n) hs0
 have hel0 : ((mksL x n (rmk x n)).map cMk)[k]? = some (cMk (mkM x n (k : Int))) := mks_cell (by omega)
 have hel1 : ((mksL x n (rmk x n)).map cMk)[k + 1]? = some (cMk (mkM x n ((k : Int) + 1))) := mks_cell (by omega)
 have hm0 := mk_in (j := (k : Int)) hx (n := (n : Int)) (by omega) (by omega); have hm1 := mk_in (j := (k : Int) + 1) hx (n := (n : Int)) (by omega) (by omega); have hmo := mk_mono hx h64.1 k
 have hsl := stM_len (f := f) (ts := ts) (x := x) (n := n) hlen k; have hsl1 := stM_len (f := f) (ts := ts) (x := x) (n := n) hlen (k + 1); have hl3 := len_map cLd (stM f ts ls x n k); have hl4 := len_map cLd (stM f ts ls x n (k + 1))
 refine C_skip_then ?_
 refine C_seq ?_
 refine C_block ?_
 refine C_seq ?_
 refine C_drawA1 tb (n := 11) (k := 10) [(0, false), (1, false), (2, false), (3, false), (4, false), (5, false), (6, false), (7, false), (8, false), (9, true)] mixed rfl rfl rfl (by kernel_rfl) rfl ?_
 refine Yq rfl (q_move rfl) ?_
 refine Yq rfl (q_move rfl) ?_
 refine Yq rfl (q_sub rfl rfl (by first | exact IntWalk.i64_in _ (by omega) | rfl)) ?_
 refine Yq rfl (by first | exact q_index tb rfl rfl rfl rfl gvo (by omega) (by first | omega | (simp; done) | (simp; omega)) | exact q_indexP tb rfl rfl rfl rfl (by omega) (by omega)) ?_
 refine Yq rfl (q_loadEA tb rfl rfl gvo (i := k) (o := 0) (by omega) hel0 rfl rfl) ?_
 refine Yq rfl (q_move rfl) ?_
 refine Yq rfl (q_move rfl) ?_
 refine Yq rfl (by first | exact q_index tb rfl rfl rfl rfl gvo (by omega) (by first | omega | (simp; done) | (simp; omega)) | exact q_indexP tb rfl rfl rfl rfl (by omega) (by omega)) ?_
 refine Yq rfl (q_loadEA tb rfl rfl gvo (i := k + 1) (o := 0) (by omega) hel1 rfl rfl) ?_
 refine W_call tb rfl rfl rfl rfl (ct_shotlineref03_around (mkM x n k) (mkM x n ((k : Int) + 1))) no_ps rfl ?_
 refine W_nil ?_
 intro g11
 refine L_st tb rfl rfl ?_
 refine L_then ?_
 refine C_seq ?_
 refine C_draw (n := 21) [(0, false), (1, false), (2, false), (3, false), (4, false), (5, false), (6, false), (7, false), (8, false), (9, false), (10, false), (11, false), (12, false), (13, false), (14, false), (15, false), (16, false), (17, false), (18, false), (19, false), (20, true)] mixed (by kernel_rfl) ?_
 refine Yq rfl (q_field tb rfl rfl rfl) ?_
 refine Yq rfl (q_load tb rfl rfl bxo rfl) ?_
 refine Yq rfl (q_move rfl) ?_
 refine Yq rfl (q_move rfl) ?_
 refine Yq rfl (q_move rfl) ?_
 refine Yq rfl (by first | exact q_index tb rfl rfl rfl rfl gvo (by omega) (by first | omega | (simp; done) | (simp; omega)) | exact q_indexP tb rfl rfl rfl rfl (by omega) (by omega)) ?_
 refine Yq rfl (q_fieldE tb rfl rfl rfl gvo (by first | omega | (simp; done) | (simp; omega))) ?_
 refine Yq rfl (q_loadE tb rfl rfl gvo (i := k + 1) (o := 0) (by omega) hel1 rfl) ?_
 refine Yq rfl (q_move rfl) ?_
 refine Yq rfl (q_move rfl) ?_
 refine Yq rfl (q_sub rfl rfl (by first | exact IntWalk.i64_in _ (by omega) | rfl)) ?_
 refine Yq rfl (by first | exact q_index tb rfl rfl rfl rfl gvo (by omega) (by first | omega | (simp; done) | (simp; omega)) | exact q_indexP tb rfl rfl rfl rfl (by omega) (by omega)) ?_
 refine Yq rfl (q_fieldE tb rfl rfl rfl gvo (by first | omega | (simp; done) | (simp; omega))) ?_
 refine Yq rfl (q_loadE tb rfl rfl gvo (i := k) (o := 0) (by omega) hel0 rfl) ?_
 refine Yq rfl (q_sub rfl rfl (by first | exact IntWalk.i64_in _ (by omega) | rfl)) ?_
 refine Yq rfl (q_loadA tb rfl rfl bxo rfl rfl) ?_
 refine Yq rfl (q_field tb rfl rfl rfl) ?_
 refine Yq rfl (q_field tb rfl rfl rfl) ?_
 refine Yq rfl (q_loadA tb rfl rfl bxo rfl rfl) ?_
 refine Yq rfl (q_move rfl) ?_
 refine W_callS tb rfl rfl rfl rfl (ct_shotlineref03_Step _ _ _ ((mkM x n ((k : Int) + 1)).s - (mkM x n k).s) (min (mkM x n k).p.lo (mkM x n ((k : Int) + 1)).p.lo) (max (mkM x n k).p.hi (mkM x n ((k : Int) + 1)).p.hi) x.g (8 + 2 * f) ts (stM f ts ls x n k) (by omega) ⟨by omega, by omega, by omega, by omega⟩ hx.g (by omega) (stM_len hlen k) (by omega) hk.c (stM_in hx h64 hk.x k (by omega))) (ps_cons gvo (ps_cons gvo (ps_cons gvo no_ps))) rfl fun v87 => ?_
 refine W_nil ?_
 refine Jq (q_assign rfl) ?_
 refine L_then ?_
 refine C_seq ?_
 refine C_seq ?_
 refine C_region ?_
 refine Jq (q_assign rfl) ?_
 refine L_then ?_
 refine C_block ?_
 refine C_loop (ι := Nat × Bool) (fun q => ([(2, .pointer (some ⟨g2, 0, none⟩)), (5, v17), (6, v21), (7, y), (8, .bool q.2), (9, .bool b), (10, .int .i64 ((k : Int) + 1)), (11, .pointer (some ⟨g11, 0, none⟩)), (12, v87), (13, .int .i64 (q.1 : Int))], [box g11 122 [_, _], sl v87 134 4 ((stM f ts ls x n (k + 1)).map cLd)] ++ [rd y 4 ((stM f ts ls x n k).map cLd), sl v21 259 3 ((mksL x n (rmk x n)).map cMk), sl v17 122 2 ((rts (8 + 2 * f)).map cRg), box g2 208 (cDv v u x fa), rd v 4 (ts.map cCp)])) (fun q => q.1 ≤ ts.length ∧ (q.2 = true ∧ all2 (pk1 (stLo x n k) fa) (ts.drop q.1) (((stM f ts ls x n k).zip (stM f ts ls x n (k + 1))).drop q.1) ↔ a = true ∧ pkP (stLo x n k) fa ts (stM f ts ls x n k) (stM f ts ls x n (k + 1)))) (fun q => ts.length - q.1) (0, a) ⟨Nat.zero_le _, Iff.rfl⟩ (fun a w hs => hs.weak ⟨rfl, rfl, rfl, rfl, rfl, rfl, rfl, rfl, rfl, rfl, trivial⟩ (fun h => h.pk (by repeat (first | with_reducible exact pk_nil | refine pk_box rfl ?_ | refine pk_rd rfl ?_ | refine pk_sl rfl ?_ | with_reducible refine pk_app ?_ | with_reducible refine pk_app0 ?_ | with_reducible refine pk_app0L ?_ | with_reducible exact pk_tl | refine pk_var ?_)))) ?_
 rintro ⟨i, c9⟩ ⟨hi9, hc9⟩
 dsimp only at hi9 hc9 ⊢
 refine C_seq ?_
 refine C_seq ?_
 refine C_region ?_
 refine Jq (q_move rfl) ?_
 refine Jq (q_move rfl) ?_
 refine Jq (q_len tb rfl rfl gvo) ?_
 refine Jq (q_lss rfl rfl) ?_
 refine L_then ?_
 refine C_dec rfl (fun h3 => ?_) (fun h3 => ?_)
 obtain ⟨c, hec⟩ := get_some ts (k := i) (by omega); obtain ⟨a9, hea⟩ := get_some (stM f ts ls x n k) (k := i) (by omega); obtain ⟨b9, heb⟩ := get_some (stM f ts ls x n (k + 1)) (k := i) (by omega); have helc := map_get cCp hec; have hela := map_get cLd hea; have helb := map_get cLd heb; have hst := all2_step (R := pk1 (stLo x n k) fa) hec (zip_get hea heb); have hai := stM_in (f := f) (ts := ts) H.xx h64 hk.x k (by omega) a9 (List.mem_of_getElem? hea); have hbi := stM_in (f := f) (ts := ts) H.xx h64 hk.x (k + 1) (by omega) b9 (List.mem_of_getElem? heb); have hck := hk.c c (List.mem_of_getElem? hec); have hpk := peak_in hai hbi; have hlim := lim_in hck (p := stLo x n k) (by unfold stLo; omega) H.fa
 refine C_skip_then ?_
 refine C_seq ?_
 refine C_block ?_
 refine C_seq ?_
 refine C_draw (n := 21) [(0, false), (1, false), (2, false), (3, false), (4, false), (5, false), (6, false), (7, false), (10, false), (11, false), (12, false), (13, false), (14, false), (15, false), (16, false), (17, false), (18, false), (8, true), (9, false), (19, true), (20, false)] mixed (by kernel_rfl) ?_
 refine Yq rfl (q_move rfl) ?_
 refine Yq rfl (q_move rfl) ?_
 refine Yq rfl (by first | exact q_index tb rfl rfl rfl rfl gvo (by omega) (by first | omega | (simp; done) | (simp; omega)) | exact q_indexP tb rfl rfl rfl rfl (by omega) (by omega)) ?_
 refine Yq rfl (q_loadEA tb rfl rfl gvo (i := i) (o := 0) (by omega) hela rfl rfl) ?_
 refine Yq rfl (q_move rfl) ?_
 refine Yq rfl (q_move rfl) ?_
 refine Yq rfl (by first | exact q_index tb rfl rfl rfl rfl gvo (by omega) (by first | omega | (simp; done) | (simp; omega)) | exact q_indexP tb rfl rfl rfl rfl (by omega) (by omega)) ?_
 refine Yq rfl (q_loadEA tb rfl rfl gvo (i := i) (o := 0) (by omega) helb rfl rfl) ?_
 refine Yq rfl (q_field tb rfl rfl rfl) ?_
 refine Yq rfl (q_load tb rfl rfl bxo rfl) ?_
 refine Yq rfl (q_move rfl) ?_
 refine Yq rfl (by first | exact q_index tb rfl rfl rfl rfl gvo (by omega) (by first | omega | (simp; done) | (simp; omega)) | exact q_indexP tb rfl rfl rfl rfl (by omega) (by omega)) ?_
 refine Yq rfl (q_loadEA tb rfl rfl gvo (i := i) (o := 0) (by omega) helc rfl rfl) ?_
 refine Yq rfl (q_field tb rfl rfl rfl) ?_
 refine Yq rfl (q_load tb rfl rfl bxo rfl) ?_
 refine Yq rfl (q_field tb rfl rfl rfl) ?_
 refine Yq rfl (q_load tb rfl rfl bxo rfl) ?_
 refine W_call tb rfl rfl rfl rfl (ct_shotlineref03_peak a9 b9 hai hbi) no_ps rfl ?_
 refine Yq rfl (q_mul rfl rfl (by first | exact IntWalk.i64_in _ (by omega) | rfl)) ?_
 refine W_call tb rfl rfl rfl rfl (ct_shotlineref03_limit c (stLo x n k) fa hck (by unfold stLo; omega) hfa) no_ps rfl ?_
 refine Yq rfl (q_gtr rfl rfl) ?_
 refine W_nil ?_
 refine L_then ?_
 refine C_dec rfl (fun hbt => ?_) (fun hbt => ?_)
 refine C_region ?_
 refine Jq (q_assign rfl) ?_
 refine L_blk ?_
 refine C_region ?_
 refine Jq (q_move rfl) ?_
 refine Jq (q_add rfl rfl (by first | exact IntWalk.i64_in _ (by omega) | rfl)) ?_
 refine Jq (q_assign rfl) ?_
 refine L_end ?_
 exact fun ac_ wo_ hs_ => ⟨(i + 1, false), ⟨by dsimp only; omega, by dsimp only; rw [← hc9, hst]; simp [pk1]; intro _ hh; omega⟩, (by dsimp only; omega), hs_.weak ⟨rfl, rfl, rfl, rfl, rfl, rfl, rfl, rfl, rfl, rfl, trivial⟩ (fun h => h.pk (by repeat (first | with_reducible exact pk_nil | refine pk_box rfl ?_ | refine pk_rd rfl ?_ | refine pk_sl rfl ?_ | with_reducible refine pk_app ?_ | with_reducible refine pk_app0 ?_ | with_reducible refine pk_app0L ?_ | with_reducible exact pk_tl | refine pk_var ?_)))⟩
 refine C_skip_blk ?_
 refine C_region ?_
 refine Jq (q_move rfl) ?_
 refine Jq (q_add rfl rfl (by first | exact IntWalk.i64_in _ (by omega) | rfl)) ?_
 refine Jq (q_assign rfl) ?_
 refine L_end ?_
 exact fun ac_ wo_ hs_ => ⟨(i + 1, c9), ⟨by dsimp only; omega, by dsimp only; rw [← hc9, hst]; exact ⟨fun h => ⟨h.1, by unfold pk1; dsimp only; omega, h.2⟩, fun h => ⟨h.1, h.2.2⟩⟩⟩, (by dsimp only; omega), hs_.weak ⟨rfl, rfl, rfl, rfl, rfl, rfl, rfl, rfl, rfl, rfl, trivial⟩ (fun h => h.pk (by repeat (first | with_reducible exact pk_nil | refine pk_box rfl ?_ | refine pk_rd rfl ?_ | refine pk_sl rfl ?_ | with_reducible refine pk_app ?_ | with_reducible refine pk_app0 ?_ | with_reducible refine pk_app0L ?_ | with_reducible exact pk_tl | refine pk_var ?_)))⟩
 have e6 : c9 = kB fa f ts ls x n (k + 1) := kB_next (by rw [← ha9, ← hc9]; exact ⟨fun h => ⟨h, all2_end (by omega)⟩, fun h => h.1⟩)
 refine C_exit ?_
 change C Tryz.prog _ _ _ _ _ _ _
 refine C_seq ?_
 refine C_region ?_
 refine Jq (q_move rfl) ?_
 refine Jq (q_assign rfl) ?_
 refine L_then ?_
 refine C_seq ?_
 refine C_draw (n := 13) [(0, false), (1, false), (2, false), (3, false), (4, false), (5, false), (6, false), (7, false), (8, false), (9, false), (10, false), (11, true), (12, false)] mixed (by kernel_rfl) ?_
 refine Yq rfl (q_field tb rfl rfl rfl) ?_
 refine Yq rfl (q_load tb rfl rfl bxo rfl) ?_
 refine Yq rfl (q_move rfl) ?_
 refine Yq rfl (q_move rfl) ?_
 refine Yq rfl (q_move rfl) ?_
 refine Yq rfl (by first | exact q_index tb rfl rfl rfl rfl gvo (by omega) (by first | omega | (simp; done) | (simp; omega)) | exact q_indexP tb rfl rfl rfl rfl (by omega) (by omega)) ?_
 refine Yq rfl (q_fieldE tb rfl rfl rfl gvo (by first | omega | (simp; done) | (simp; omega))) ?_
 refine Yq rfl (q_fieldE tb rfl rfl rfl gvo (by first | omega | (simp; done) | (simp; omega))) ?_
 refine Yq rfl (q_loadE tb rfl rfl gvo (i := k + 1) (o := 2) (by omega) hel1 rfl) ?_
 refine Yq rfl (q_field tb rfl rfl rfl) ?_
 refine Yq rfl (q_load tb rfl rfl bxo rfl) ?_
 refine W_call tb rfl rfl rfl rfl (ct_shotlineref03_KeptAt _ _ (mkM x n ((k : Int) + 1)).p.hi fa ts (stM f ts ls x n (k + 1)) (stM_ok hT (by omega)) (by omega) hfa) (ps_cons gvo (ps_cons gvo no_ps)) rfl ?_
 refine Yq rfl (q_eql rfl rfl) ?_
 refine W_nil ?_
 refine L_then ?_
 refine C_dec rfl (fun hno => ?_) (fun hno => ?_)
 refine C_region ?_
 refine Jq (q_assign rfl) ?_
 refine L_blk ?_
 refine C_region ?_
 refine Jq (q_move rfl) ?_
 refine Jq (q_add rfl rfl (by first | exact IntWalk.i64_in _ (by omega) | rfl)) ?_
 refine Jq (q_assign rfl) ?_
 refine L_end ?_
 exact fun ac_ wo_ hs_ => ⟨(k + 1, v87, c9, true), ⟨(by dsimp only; omega), e6, (noB_s_t (kept_no.1 hno)).symm⟩, (by dsimp only; omega), hs_.weak ⟨rfl, rfl, rfl, rfl, rfl, rfl, rfl, trivial⟩ (fun h => sl_to_rd (e := 134) (h.pk (by repeat (first | with_reducible exact pk_nil | refine pk_box rfl ?_ | refine pk_rd rfl ?_ | refine pk_sl rfl ?_ | with_reducible refine pk_app ?_ | with_reducible refine pk_app0 ?_ | with_reducible refine pk_app0L ?_ | with_reducible exact pk_tl | refine pk_var ?_))))⟩
 refine C_skip_blk ?_
 refine C_region ?_
 refine Jq (q_move rfl) ?_
 refine Jq (q_add rfl rfl (by first | exact IntWalk.i64_in _ (by omega) | rfl)) ?_
 refine Jq (q_assign rfl) ?_
 refine L_end ?_
 exact fun ac_ wo_ hs_ => ⟨(k + 1, v87, c9, b), ⟨(by dsimp only; omega), e6, (hb9.trans (noB_s_f (Decidable.not_not.1 (fun hh => hno (kept_no.2 hh)))).symm)⟩, (by dsimp only; omega), hs_.weak ⟨rfl, rfl, rfl, rfl, rfl, rfl, rfl, trivial⟩ (fun h => sl_to_rd (e := 134) (h.pk (by repeat (first | with_reducible exact pk_nil | refine pk_box rfl ?_ | refine pk_rd rfl ?_ | refine pk_sl rfl ?_ | with_reducible refine pk_app ?_ | with_reducible refine pk_app0 ?_ | with_reducible refine pk_app0L ?_ | with_reducible exact pk_tl | refine pk_var ?_))))⟩
 have hkr : k + 1 = rmk x n := by omega
 have hkp := kept_fold hT hkr ha9 hb9
 refine C_exit ?_
 change C Tryz.prog _ _ _ _ _ _ _
 refine C_seq ?_
 refine C_seq ?_
 refine C_region ?_
 refine Jq (q_move rfl) ?_
 refine Jq (q_move rfl) ?_
 refine L_bool (d := 130) rfl (fun hy => ?_) (fun hy => ?_)
 refine Jg (q_move rfl) ?_
 refine Jg (q_not rfl (by first | exact (rfl : (!true) = false) | exact (rfl : (!false) = true) | exact decide_not.symm | rfl)) ?_
 refine Jq (q_pickT rfl rfl) ?_
 refine L_then ?_
 refine C_bool rfl (fun hz => ?_) (fun hz => ?_)
 refine C_seq ?_
 refine C_region ?_
 refine Jq (q_assign rfl) ?_
 refine L_then ?_
 refine C_ret ?_
 exact ret_of (res1 rfl rfl) sub_nil (by intro r hr; cases hr) ⟨(congrArg (Value.int .i64) (by rw [hkp]; clear ha9 hb9 hkp; cases a <;> cases b <;> first | decide | (exfalso; revert hy; decide) | (exfalso; revert hz; decide) | (exfalso; revert hn9; decide) | (exfalso; revert hw; decide))), rfl⟩
 refine C_skip_then ?_
 refine C_seq ?_
 refine C_seq ?_
 refine C_region ?_
 refine Jq (q_move rfl) ?_
 refine Jq (q_move rfl) ?_
 refine L_bool (d := 135) rfl (fun hn9 => ?_) (fun hn9 => ?_)
 refine Jg (q_move rfl) ?_
 refine Jg (q_not rfl (by first | exact (rfl : (!true) = false) | exact (rfl : (!false) = true) | exact decide_not.symm | rfl)) ?_
 refine Jq (q_pickT rfl rfl) ?_
 refine L_then ?_
 refine C_bool rfl (fun hw => ?_) (fun hw => ?_)
 refine C_seq ?_
 refine C_region ?_
 refine Jq (q_assign rfl) ?_
 refine L_then ?_
 refine C_ret ?_
 exact ret_of (res1 rfl rfl) sub_nil (by intro r hr; cases hr) ⟨(congrArg (Value.int .i64) (by rw [hkp]; clear ha9 hb9 hkp; cases a <;> cases b <;> first | decide | (exfalso; revert hy; decide) | (exfalso; revert hz; decide) | (exfalso; revert hn9; decide) | (exfalso; revert hw; decide))), rfl⟩
 refine C_skip_then ?_
 refine C_seq ?_
 refine C_region ?_
 refine Jq (q_assign rfl) ?_
 refine L_then ?_
 refine C_ret ?_
 exact ret_of (res1 rfl rfl) sub_nil (by intro r hr; cases hr) ⟨(congrArg (Value.int .i64) (by rw [hkp]; clear ha9 hb9 hkp; cases a <;> cases b <;> first | decide | (exfalso; revert hy; decide) | (exfalso; revert hz; decide) | (exfalso; revert hn9; decide) | (exfalso; revert hw; decide))), rfl⟩
 iterate 2 refine Jk ?_
 refine Jq (q_pickF rfl rfl) ?_
 refine L_then ?_
 refine C_bool rfl (fun hw => ?_) (fun hw => ?_)
 refine C_seq ?_
 refine C_region ?_
 refine Jq (q_assign rfl) ?_
 refine L_then ?_
 refine C_ret ?_
 exact ret_of (res1 rfl rfl) sub_nil (by intro r hr; cases hr) ⟨(congrArg (Value.int .i64) (by rw [hkp]; clear ha9 hb9 hkp; cases a <;> cases b <;> first | decide | (exfalso; revert hy; decide) | (exfalso; revert hz; decide) | (exfalso; revert hn9; decide) | (exfalso; revert hw; decide))), rfl⟩
 refine C_skip_then ?_
 refine C_seq ?_
 refine C_region ?_
 refine Jq (q_assign rfl) ?_
 refine L_then ?_
 refine C_ret ?_
 exact ret_of (res1 rfl rfl) sub_nil (by intro r hr; cases hr) ⟨(congrArg (Value.int .i64) (by rw [hkp]; clear ha9 hb9 hkp; cases a <;> cases b <;> first | decide | (exfalso; revert hy; decide) | (exfalso; revert hz; decide) | (exfalso; revert hn9; decide) | (exfalso; revert hw; decide))), rfl⟩
 iterate 2 refine Jk ?_
 refine Jq (q_pickF rfl rfl) ?_
 refine L_then ?_
 refine C_bool rfl (fun hz => ?_) (fun hz => ?_)
 refine C_seq ?_
 refine C_region ?_
 refine Jq (q_assign rfl) ?_
 refine L_then ?_
 refine C_ret ?_
 exact ret_of (res1 rfl rfl) sub_nil (by intro r hr; cases hr) ⟨(congrArg (Value.int .i64) (by rw [hkp]; clear ha9 hb9 hkp; cases a <;> cases b <;> first | decide | (exfalso; revert hy; decide) | (exfalso; revert hz; decide) | (exfalso; revert hn9; decide) | (exfalso; revert hw; decide))), rfl⟩
 refine C_skip_then ?_
 refine C_seq ?_
 refine C_seq ?_
 refine C_region ?_
 refine Jq (q_move rfl) ?_
 refine Jq (q_move rfl) ?_
 refine L_bool (d := 135) rfl (fun hn9 => ?_) (fun hn9 => ?_)
 refine Jg (q_move rfl) ?_
 refine Jg (q_not rfl (by first | exact (rfl : (!true) = false) | exact (rfl : (!false) = true) | exact decide_not.symm | rfl)) ?_
 refine Jq (q_pickT rfl rfl) ?_
 refine L_then ?_
 refine C_bool rfl (fun hw => ?_) (fun hw => ?_)
 refine C_seq ?_
 refine C_region ?_
 refine Jq (q_assign rfl) ?_
 refine L_then ?_
 refine C_ret ?_
 exact ret_of (res1 rfl rfl) sub_nil (by intro r hr; cases hr) ⟨(congrArg (Value.int .i64) (by rw [hkp]; clear ha9 hb9 hkp; cases a <;> cases b <;> first | decide | (exfalso; revert hy; decide) | (exfalso; revert hz; decide) | (exfalso; revert hn9; decide) | (exfalso; revert hw; decide))), rfl⟩
 refine C_skip_then ?_
 refine C_seq ?_
 refine C_region ?_
 refine Jq (q_assign rfl) ?_
 refine L_then ?_
 refine C_ret ?_
 exact ret_of (res1 rfl rfl) sub_nil (by intro r hr; cases hr) ⟨(congrArg (Value.int .i64) (by rw [hkp]; clear ha9 hb9 hkp; cases a <;> cases b <;> first | decide | (exfalso; revert hy; decide) | (exfalso; revert hz; decide) | (exfalso; revert hn9; decide) | (exfalso; revert hw; decide))), rfl⟩
 iterate 2 refine Jk ?_
 refine Jq (q_pickF rfl rfl) ?_
 refine L_then ?_
 refine C_bool rfl (fun hw => ?_) (fun hw => ?_)
 refine C_seq ?_
 refine C_region ?_
 refine Jq (q_assign rfl) ?_
 refine L_then ?_
 refine C_ret ?_
 exact ret_of (res1 rfl rfl) sub_nil (by intro r hr; cases hr) ⟨(congrArg (Value.int .i64) (by rw [hkp]; clear ha9 hb9 hkp; cases a <;> cases b <;> first | decide | (exfalso; revert hy; decide) | (exfalso; revert hz; decide) | (exfalso; revert hn9; decide) | (exfalso; revert hw; decide))), rfl⟩
 refine C_skip_then ?_
 refine C_seq ?_
 refine C_region ?_
 refine Jq (q_assign rfl) ?_
 refine L_then ?_
 refine C_ret ?_
 exact ret_of (res1 rfl rfl) sub_nil (by intro r hr; cases hr) ⟨(congrArg (Value.int .i64) (by rw [hkp]; clear ha9 hb9 hkp; cases a <;> cases b <;> first | decide | (exfalso; revert hy; decide) | (exfalso; revert hz; decide) | (exfalso; revert hn9; decide) | (exfalso; revert hw; decide))), rfl⟩
 have h0 : x.s ≠ 0 := fun h => by have h9 := rmk_one (n := n) h; omega
 refine C_skip_then ?_
 refine C_seq ?_
 refine C_seq ?_
 refine C_region ?_
 refine Jq (q_assign rfl) ?_
 refine L_then ?_
 refine C_block ?_
 refine C_loop (ι := Nat × Value × Bool × Bool) (fun p => ([(2, .pointer (some ⟨g2, 0, none⟩)), (5, v17), (6, v21), (7, p.2.1), (8, .bool p.2.2.1), (9, .bool p.2.2.2), (10, .int .i64 ((p.1 : Int) + 1))], [rd p.2.1 4 ((stM f ts ls x n p.1).map cLd), sl v21 259 3 ((mksL x n (rmk x n)).map cMk), sl v17 122 2 ((rts (8 + 2 * f)).map cRg), box g2 208 (cDv v u x fa), rd v 4 (ts.map cCp)])) (fun p => p.1 < rmk x n ∧ p.2.2.1 = kB fa f ts ls x n p.1 ∧ p.2.2.2 = noB fa f ts ls x n (p.1 + 1)) (fun p => rmk x n - p.1) (0, u, kB fa f ts ls x n 0, noB fa f ts ls x n 1) ⟨(rmk_gt x n), rfl, rfl⟩ (fun a w hs => hs.weak ⟨rfl, rfl, rfl, rfl, (by first | exact congrArg (fun b_ => some (Value.bool b_)) (kB_p (fa := fa) (f := f) (ts := ts) (ls := ls) (n := n) h0).symm | exact congrArg (fun b_ => some (Value.bool b_)) ((decide_eq_decide.2 (kept_yes hk.o)).trans (kB_z (fa := fa) (f := f) (ts := ts) (ls := ls) (n := n) h0).symm)), (congrArg (fun b_ => some (Value.bool b_)) ((decide_eq_decide.2 kept_no).trans (noB_first (fa := fa) (f := f) (ts := ts) (ls := ls) (x := x) (n := n)).symm)), rfl, trivial⟩ (fun h => h.pk (by repeat (first | with_reducible exact pk_nil | refine pk_box rfl ?_ | refine pk_rd rfl ?_ | refine pk_sl rfl ?_ | with_reducible refine pk_app ?_ | with_reducible refine pk_app0 ?_ | with_reducible refine pk_app0L ?_ | with_reducible exact pk_tl | refine pk_var ?_)))) ?_
 rintro ⟨k, y, a, b⟩ ⟨hk9, ha9, hb9⟩
 dsimp only at hk9 ha9 hb9 ⊢
 refine C_seq ?_
 refine C_seq ?_
 refine C_region ?_
 refine Jq (q_move rfl) ?_
 refine Jq (q_move rfl) ?_
 refine Jq (q_len tb rfl rfl gvo) ?_
 refine Jq (q_lss rfl rfl) ?_
 refine L_then ?_
 refine C_dec rfl (fun h15 => ?_) (fun h15 => ?_)
 have hs0 : x.s ≠ 0 := fun h => by have h9 := rmk_one (n := n) h; omega
 have hr1 := rmk_pos (n := n) hs0
 have hel0 : ((mksL x n (rmk x n)).map cMk)[k]? = some (cMk (mkM x n (k : Int))) := mks_cell (by omega)
 have hel1 : ((mksL x n (rmk x n)).map cMk)[k + 1]? = some (cMk (mkM x n ((k : Int) + 1))) := mks_cell (by omega)
 have hm0 := mk_in (j := (k : Int)) hx (n := (n : Int)) (by omega) (by omega); have hm1 := mk_in (j := (k : Int) + 1) hx (n := (n : Int)) (by omega) (by omega); have hmo := mk_mono hx h64.1 k
 have hsl := stM_len (f := f) (ts := ts) (x := x) (n := n) hlen k; have hsl1 := stM_len (f := f) (ts := ts) (x := x) (n := n) hlen (k + 1); have hl3 := len_map cLd (stM f ts ls x n k); have hl4 := len_map cLd (stM f ts ls x n (k + 1))
 refine C_skip_then ?_
 refine C_seq ?_
 refine C_block ?_
 refine C_seq ?_
 refine C_drawA1 tb (n := 11) (k := 10) [(0, false), (1, false), (2, false), (3, false), (4, false), (5, false), (6, false), (7, false), (8, false), (9, true)] mixed rfl rfl rfl (by kernel_rfl) rfl ?_
 refine Yq rfl (q_move rfl) ?_
 refine Yq rfl (q_move rfl) ?_
 refine Yq rfl (q_sub rfl rfl (by first | exact IntWalk.i64_in _ (by omega) | rfl)) ?_
 refine Yq rfl (by first | exact q_index tb rfl rfl rfl rfl gvo (by omega) (by first | omega | (simp; done) | (simp; omega)) | exact q_indexP tb rfl rfl rfl rfl (by omega) (by omega)) ?_
 refine Yq rfl (q_loadEA tb rfl rfl gvo (i := k) (o := 0) (by omega) hel0 rfl rfl) ?_
 refine Yq rfl (q_move rfl) ?_
 refine Yq rfl (q_move rfl) ?_
 refine Yq rfl (by first | exact q_index tb rfl rfl rfl rfl gvo (by omega) (by first | omega | (simp; done) | (simp; omega)) | exact q_indexP tb rfl rfl rfl rfl (by omega) (by omega)) ?_
 refine Yq rfl (q_loadEA tb rfl rfl gvo (i := k + 1) (o := 0) (by omega) hel1 rfl rfl) ?_
 refine W_call tb rfl rfl rfl rfl (ct_shotlineref03_around (mkM x n k) (mkM x n ((k : Int) + 1))) no_ps rfl ?_
 refine W_nil ?_
 intro g11
 refine L_st tb rfl rfl ?_
 refine L_then ?_
 refine C_seq ?_
 refine C_draw (n := 21) [(0, false), (1, false), (2, false), (3, false), (4, false), (5, false), (6, false), (7, false), (8, false), (9, false), (10, false), (11, false), (12, false), (13, false), (14, false), (15, false), (16, false), (17, false), (18, false), (19, false), (20, true)] mixed (by kernel_rfl) ?_
 refine Yq rfl (q_field tb rfl rfl rfl) ?_
 refine Yq rfl (q_load tb rfl rfl bxo rfl) ?_
 refine Yq rfl (q_move rfl) ?_
 refine Yq rfl (q_move rfl) ?_
 refine Yq rfl (q_move rfl) ?_
 refine Yq rfl (by first | exact q_index tb rfl rfl rfl rfl gvo (by omega) (by first | omega | (simp; done) | (simp; omega)) | exact q_indexP tb rfl rfl rfl rfl (by omega) (by omega)) ?_
 refine Yq rfl (q_fieldE tb rfl rfl rfl gvo (by first | omega | (simp; done) | (simp; omega))) ?_
 refine Yq rfl (q_loadE tb rfl rfl gvo (i := k + 1) (o := 0) (by omega) hel1 rfl) ?_
 refine Yq rfl (q_move rfl) ?_
 refine Yq rfl (q_move rfl) ?_
 refine Yq rfl (q_sub rfl rfl (by first | exact IntWalk.i64_in _ (by omega) | rfl)) ?_
 refine Yq rfl (by first | exact q_index tb rfl rfl rfl rfl gvo (by omega) (by first | omega | (simp; done) | (simp; omega)) | exact q_indexP tb rfl rfl rfl rfl (by omega) (by omega)) ?_
 refine Yq rfl (q_fieldE tb rfl rfl rfl gvo (by first | omega | (simp; done) | (simp; omega))) ?_
 refine Yq rfl (q_loadE tb rfl rfl gvo (i := k) (o := 0) (by omega) hel0 rfl) ?_
 refine Yq rfl (q_sub rfl rfl (by first | exact IntWalk.i64_in _ (by omega) | rfl)) ?_
 refine Yq rfl (q_loadA tb rfl rfl bxo rfl rfl) ?_
 refine Yq rfl (q_field tb rfl rfl rfl) ?_
 refine Yq rfl (q_field tb rfl rfl rfl) ?_
 refine Yq rfl (q_loadA tb rfl rfl bxo rfl rfl) ?_
 refine Yq rfl (q_move rfl) ?_
 refine W_callS tb rfl rfl rfl rfl (ct_shotlineref03_Step _ _ _ ((mkM x n ((k : Int) + 1)).s - (mkM x n k).s) (min (mkM x n k).p.lo (mkM x n ((k : Int) + 1)).p.lo) (max (mkM x n k).p.hi (mkM x n ((k : Int) + 1)).p.hi) x.g (8 + 2 * f) ts (stM f ts ls x n k) (by omega) ⟨by omega, by omega, by omega, by omega⟩ hx.g (by omega) (stM_len hlen k) (by omega) hk.c (stM_in hx h64 hk.x k (by omega))) (ps_cons gvo (ps_cons gvo (ps_cons gvo no_ps))) rfl fun v87 => ?_
 refine W_nil ?_
 refine Jq (q_assign rfl) ?_
 refine L_then ?_
 refine C_seq ?_
 refine C_seq ?_
 refine C_region ?_
 refine Jq (q_assign rfl) ?_
 refine L_then ?_
 refine C_block ?_
 refine C_loop (ι := Nat × Bool) (fun q => ([(2, .pointer (some ⟨g2, 0, none⟩)), (5, v17), (6, v21), (7, y), (8, .bool q.2), (9, .bool b), (10, .int .i64 ((k : Int) + 1)), (11, .pointer (some ⟨g11, 0, none⟩)), (12, v87), (13, .int .i64 (q.1 : Int))], [box g11 122 [_, _], sl v87 134 4 ((stM f ts ls x n (k + 1)).map cLd)] ++ [rd y 4 ((stM f ts ls x n k).map cLd), sl v21 259 3 ((mksL x n (rmk x n)).map cMk), sl v17 122 2 ((rts (8 + 2 * f)).map cRg), box g2 208 (cDv v u x fa), rd v 4 (ts.map cCp)])) (fun q => q.1 ≤ ts.length ∧ (q.2 = true ∧ all2 (pk1 (stLo x n k) fa) (ts.drop q.1) (((stM f ts ls x n k).zip (stM f ts ls x n (k + 1))).drop q.1) ↔ a = true ∧ pkP (stLo x n k) fa ts (stM f ts ls x n k) (stM f ts ls x n (k + 1)))) (fun q => ts.length - q.1) (0, a) ⟨Nat.zero_le _, Iff.rfl⟩ (fun a w hs => hs.weak ⟨rfl, rfl, rfl, rfl, rfl, rfl, rfl, rfl, rfl, rfl, trivial⟩ (fun h => h.pk (by repeat (first | with_reducible exact pk_nil | refine pk_box rfl ?_ | refine pk_rd rfl ?_ | refine pk_sl rfl ?_ | with_reducible refine pk_app ?_ | with_reducible refine pk_app0 ?_ | with_reducible refine pk_app0L ?_ | with_reducible exact pk_tl | refine pk_var ?_)))) ?_
 rintro ⟨i, c9⟩ ⟨hi9, hc9⟩
 dsimp only at hi9 hc9 ⊢
 refine C_seq ?_
 refine C_seq ?_
 refine C_region ?_
 refine Jq (q_move rfl) ?_
 refine Jq (q_move rfl) ?_
 refine Jq (q_len tb rfl rfl gvo) ?_
 refine Jq (q_lss rfl rfl) ?_
 refine L_then ?_
 refine C_dec rfl (fun h16 => ?_) (fun h16 => ?_)
 obtain ⟨c, hec⟩ := get_some ts (k := i) (by omega); obtain ⟨a9, hea⟩ := get_some (stM f ts ls x n k) (k := i) (by omega); obtain ⟨b9, heb⟩ := get_some (stM f ts ls x n (k + 1)) (k := i) (by omega); have helc := map_get cCp hec; have hela := map_get cLd hea; have helb := map_get cLd heb; have hst := all2_step (R := pk1 (stLo x n k) fa) hec (zip_get hea heb); have hai := stM_in (f := f) (ts := ts) H.xx h64 hk.x k (by omega) a9 (List.mem_of_getElem? hea); have hbi := stM_in (f := f) (ts := ts) H.xx h64 hk.x (k + 1) (by omega) b9 (List.mem_of_getElem? heb); have hck := hk.c c (List.mem_of_getElem? hec); have hpk := peak_in hai hbi; have hlim := lim_in hck (p := stLo x n k) (by unfold stLo; omega) H.fa
 refine C_skip_then ?_
 refine C_seq ?_
 refine C_block ?_
 refine C_seq ?_
 refine C_draw (n := 21) [(0, false), (1, false), (2, false), (3, false), (4, false), (5, false), (6, false), (7, false), (10, false), (11, false), (12, false), (13, false), (14, false), (15, false), (16, false), (17, false), (18, false), (8, true), (9, false), (19, true), (20, false)] mixed (by kernel_rfl) ?_
 refine Yq rfl (q_move rfl) ?_
 refine Yq rfl (q_move rfl) ?_
 refine Yq rfl (by first | exact q_index tb rfl rfl rfl rfl gvo (by omega) (by first | omega | (simp; done) | (simp; omega)) | exact q_indexP tb rfl rfl rfl rfl (by omega) (by omega)) ?_
 refine Yq rfl (q_loadEA tb rfl rfl gvo (i := i) (o := 0) (by omega) hela rfl rfl) ?_
 refine Yq rfl (q_move rfl) ?_
 refine Yq rfl (q_move rfl) ?_
 refine Yq rfl (by first | exact q_index tb rfl rfl rfl rfl gvo (by omega) (by first | omega | (simp; done) | (simp; omega)) | exact q_indexP tb rfl rfl rfl rfl (by omega) (by omega)) ?_
 refine Yq rfl (q_loadEA tb rfl rfl gvo (i := i) (o := 0) (by omega) helb rfl rfl) ?_
 refine Yq rfl (q_field tb rfl rfl rfl) ?_
 refine Yq rfl (q_load tb rfl rfl bxo rfl) ?_
 refine Yq rfl (q_move rfl) ?_
 refine Yq rfl (by first | exact q_index tb rfl rfl rfl rfl gvo (by omega) (by first | omega | (simp; done) | (simp; omega)) | exact q_indexP tb rfl rfl rfl rfl (by omega) (by omega)) ?_
 refine Yq rfl (q_loadEA tb rfl rfl gvo (i := i) (o := 0) (by omega) helc rfl rfl) ?_
 refine Yq rfl (q_field tb rfl rfl rfl) ?_
 refine Yq rfl (q_load tb rfl rfl bxo rfl) ?_
 refine Yq rfl (q_field tb rfl rfl rfl) ?_
 refine Yq rfl (q_load tb rfl rfl bxo rfl) ?_
 refine W_call tb rfl rfl rfl rfl (ct_shotlineref03_peak a9 b9 hai hbi) no_ps rfl ?_
 refine Yq rfl (q_mul rfl rfl (by first | exact IntWalk.i64_in _ (by omega) | rfl)) ?_
 refine W_call tb rfl rfl rfl rfl (ct_shotlineref03_limit c (stLo x n k) fa hck (by unfold stLo; omega) hfa) no_ps rfl ?_
 refine Yq rfl (q_gtr rfl rfl) ?_
 refine W_nil ?_
 refine L_then ?_
 refine C_dec rfl (fun hbt => ?_) (fun hbt => ?_)
 refine C_region ?_
 refine Jq (q_assign rfl) ?_
 refine L_blk ?_
 refine C_region ?_
 refine Jq (q_move rfl) ?_
 refine Jq (q_add rfl rfl (by first | exact IntWalk.i64_in _ (by omega) | rfl)) ?_
 refine Jq (q_assign rfl) ?_
 refine L_end ?_
 exact fun ac_ wo_ hs_ => ⟨(i + 1, false), ⟨by dsimp only; omega, by dsimp only; rw [← hc9, hst]; simp [pk1]; intro _ hh; omega⟩, (by dsimp only; omega), hs_.weak ⟨rfl, rfl, rfl, rfl, rfl, rfl, rfl, rfl, rfl, rfl, trivial⟩ (fun h => h.pk (by repeat (first | with_reducible exact pk_nil | refine pk_box rfl ?_ | refine pk_rd rfl ?_ | refine pk_sl rfl ?_ | with_reducible refine pk_app ?_ | with_reducible refine pk_app0 ?_ | with_reducible refine pk_app0L ?_ | with_reducible exact pk_tl | refine pk_var ?_)))⟩
 refine C_skip_blk ?_
 refine C_region ?_
 refine Jq (q_move rfl) ?_
 refine Jq (q_add rfl rfl (by first | exact IntWalk.i64_in _ (by omega) | rfl)) ?_
 refine Jq (q_assign rfl) ?_
 refine L_end ?_
 exact fun ac_ wo_ hs_ => ⟨(i + 1, c9), ⟨by dsimp only; omega, by dsimp only; rw [← hc9, hst]; exact ⟨fun h => ⟨h.1, by unfold pk1; dsimp only; omega, h.2⟩, fun h => ⟨h.1, h.2.2⟩⟩⟩, (by dsimp only; omega), hs_.weak ⟨rfl, rfl, rfl, rfl, rfl, rfl, rfl, rfl, rfl, rfl, trivial⟩ (fun h => h.pk (by repeat (first | with_reducible exact pk_nil | refine pk_box rfl ?_ | refine pk_rd rfl ?_ | refine pk_sl rfl ?_ | with_reducible refine pk_app ?_ | with_reducible refine pk_app0 ?_ | with_reducible refine pk_app0L ?_ | with_reducible exact pk_tl | refine pk_var ?_)))⟩
 have e6 : c9 = kB fa f ts ls x n (k + 1) := kB_next (by rw [← ha9, ← hc9]; exact ⟨fun h => ⟨h, all2_end (by omega)⟩, fun h => h.1⟩)
 refine C_exit ?_
 change C Tryz.prog _ _ _ _ _ _ _
 refine C_seq ?_
 refine C_region ?_
 refine Jq (q_move rfl) ?_
 refine Jq (q_assign rfl) ?_
 refine L_then ?_
 refine C_seq ?_
 refine C_draw (n := 13) [(0, false), (1, false), (2, false), (3, false), (4, false), (5, false), (6, false), (7, false), (8, false), (9, false), (10, false), (11, true), (12, false)] mixed (by kernel_rfl) ?_
 refine Yq rfl (q_field tb rfl rfl rfl) ?_
 refine Yq rfl (q_load tb rfl rfl bxo rfl) ?_
 refine Yq rfl (q_move rfl) ?_
 refine Yq rfl (q_move rfl) ?_
 refine Yq rfl (q_move rfl) ?_
 refine Yq rfl (by first | exact q_index tb rfl rfl rfl rfl gvo (by omega) (by first | omega | (simp; done) | (simp; omega)) | exact q_indexP tb rfl rfl rfl rfl (by omega) (by omega)) ?_
 refine Yq rfl (q_fieldE tb rfl rfl rfl gvo (by first | omega | (simp; done) | (simp; omega))) ?_
 refine Yq rfl (q_fieldE tb rfl rfl rfl gvo (by first | omega | (simp; done) | (simp; omega))) ?_
 refine Yq rfl (q_loadE tb rfl rfl gvo (i := k + 1) (o := 2) (by omega) hel1 rfl) ?_
 refine Yq rfl (q_field tb rfl rfl rfl) ?_
 refine Yq rfl (q_load tb rfl rfl bxo rfl) ?_
 refine W_call tb rfl rfl rfl rfl (ct_shotlineref03_KeptAt _ _ (mkM x n ((k : Int) + 1)).p.hi fa ts (stM f ts ls x n (k + 1)) (stM_ok hT (by omega)) (by omega) hfa) (ps_cons gvo (ps_cons gvo no_ps)) rfl ?_
 refine Yq rfl (q_eql rfl rfl) ?_
 refine W_nil ?_
 refine L_then ?_
 refine C_dec rfl (fun hno => ?_) (fun hno => ?_)
 refine C_region ?_
 refine Jq (q_assign rfl) ?_
 refine L_blk ?_
 refine C_region ?_
 refine Jq (q_move rfl) ?_
 refine Jq (q_add rfl rfl (by first | exact IntWalk.i64_in _ (by omega) | rfl)) ?_
 refine Jq (q_assign rfl) ?_
 refine L_end ?_
 exact fun ac_ wo_ hs_ => ⟨(k + 1, v87, c9, true), ⟨(by dsimp only; omega), e6, (noB_s_t (kept_no.1 hno)).symm⟩, (by dsimp only; omega), hs_.weak ⟨rfl, rfl, rfl, rfl, rfl, rfl, rfl, trivial⟩ (fun h => sl_to_rd (e := 134) (h.pk (by repeat (first | with_reducible exact pk_nil | refine pk_box rfl ?_ | refine pk_rd rfl ?_ | refine pk_sl rfl ?_ | with_reducible refine pk_app ?_ | with_reducible refine pk_app0 ?_ | with_reducible refine pk_app0L ?_ | with_reducible exact pk_tl | refine pk_var ?_))))⟩
 refine C_skip_blk ?_
 refine C_region ?_
 refine Jq (q_move rfl) ?_
 refine Jq (q_add rfl rfl (by first | exact IntWalk.i64_in _ (by omega) | rfl)) ?_
 refine Jq (q_assign rfl) ?_
 refine L_end ?_
 exact fun ac_ wo_ hs_ => ⟨(k + 1, v87, c9, b), ⟨(by dsimp only; omega), e6, (hb9.trans (noB_s_f (Decidable.not_not.1 (fun hh => hno (kept_no.2 hh)))).symm)⟩, (by dsimp only; omega), hs_.weak ⟨rfl, rfl, rfl, rfl, rfl, rfl, rfl, trivial⟩ (fun h => sl_to_rd (e := 134) (h.pk (by repeat (first | with_reducible exact pk_nil | refine pk_box rfl ?_ | refine pk_rd rfl ?_ | refine pk_sl rfl ?_ | with_reducible refine pk_app ?_ | with_reducible refine pk_app0 ?_ | with_reducible refine pk_app0L ?_ | with_reducible exact pk_tl | refine pk_var ?_))))⟩
 have hkr : k + 1 = rmk x n := by omega
 have hkp := kept_fold hT hkr ha9 hb9
 refine C_exit ?_
 change C Tryz.prog _ _ _ _ _ _ _
 refine C_seq ?_
 refine C_seq ?_
 refine C_region ?_
 refine Jq (q_move rfl) ?_
 refine Jq (q_move rfl) ?_
 refine L_bool (d := 130) rfl (fun hy => ?_) (fun hy => ?_)
 refine Jg (q_move rfl) ?_
 refine Jg (q_not rfl (by first | exact (rfl : (!true) = false) | exact (rfl : (!false) = true) | exact decide_not.symm | rfl)) ?_
 refine Jq (q_pickT rfl rfl) ?_
 refine L_then ?_
 refine C_bool rfl (fun hz => ?_) (fun hz => ?_)
 refine C_seq ?_
 refine C_region ?_
 refine Jq (q_assign rfl) ?_
 refine L_then ?_
 refine C_ret ?_
 exact ret_of (res1 rfl rfl) sub_nil (by intro r hr; cases hr) ⟨(congrArg (Value.int .i64) (by rw [hkp]; clear ha9 hb9 hkp; cases a <;> cases b <;> first | decide | (exfalso; revert hy; decide) | (exfalso; revert hz; decide) | (exfalso; revert hn9; decide) | (exfalso; revert hw; decide))), rfl⟩
 refine C_skip_then ?_
 refine C_seq ?_
 refine C_seq ?_
 refine C_region ?_
 refine Jq (q_move rfl) ?_
 refine Jq (q_move rfl) ?_
 refine L_bool (d := 135) rfl (fun hn9 => ?_) (fun hn9 => ?_)
 refine Jg (q_move rfl) ?_
 refine Jg (q_not rfl (by first | exact (rfl : (!true) = false) | exact (rfl : (!false) = true) | exact decide_not.symm | rfl)) ?_
 refine Jq (q_pickT rfl rfl) ?_
 refine L_then ?_
 refine C_bool rfl (fun hw => ?_) (fun hw => ?_)
 refine C_seq ?_
 refine C_region ?_
 refine Jq (q_assign rfl) ?_
 refine L_then ?_
 refine C_ret ?_
 exact ret_of (res1 rfl rfl) sub_nil (by intro r hr; cases hr) ⟨(congrArg (Value.int .i64) (by rw [hkp]; clear ha9 hb9 hkp; cases a <;> cases b <;> first | decide | (exfalso; revert hy; decide) | (exfalso; revert hz; decide) | (exfalso; revert hn9; decide) | (exfalso; revert hw; decide))), rfl⟩
 refine C_skip_then ?_
 refine C_seq ?_
 refine C_region ?_
 refine Jq (q_assign rfl) ?_
 refine L_then ?_
 refine C_ret ?_
 exact ret_of (res1 rfl rfl) sub_nil (by intro r hr; cases hr) ⟨(congrArg (Value.int .i64) (by rw [hkp]; clear ha9 hb9 hkp; cases a <;> cases b <;> first | decide | (exfalso; revert hy; decide) | (exfalso; revert hz; decide) | (exfalso; revert hn9; decide) | (exfalso; revert hw; decide))), rfl⟩
 iterate 2 refine Jk ?_
 refine Jq (q_pickF rfl rfl) ?_
 refine L_then ?_
 refine C_bool rfl (fun hw => ?_) (fun hw => ?_)
 refine C_seq ?_
 refine C_region ?_
 refine Jq (q_assign rfl) ?_
 refine L_then ?_
 refine C_ret ?_
 exact ret_of (res1 rfl rfl) sub_nil (by intro r hr; cases hr) ⟨(congrArg (Value.int .i64) (by rw [hkp]; clear ha9 hb9 hkp; cases a <;> cases b <;> first | decide | (exfalso; revert hy; decide) | (exfalso; revert hz; decide) | (exfalso; revert hn9; decide) | (exfalso; revert hw; decide))), rfl⟩
 refine C_skip_then ?_
 refine C_seq ?_
 refine C_region ?_
 refine Jq (q_assign rfl) ?_
 refine L_then ?_
 refine C_ret ?_
 exact ret_of (res1 rfl rfl) sub_nil (by intro r hr; cases hr) ⟨(congrArg (Value.int .i64) (by rw [hkp]; clear ha9 hb9 hkp; cases a <;> cases b <;> first | decide | (exfalso; revert hy; decide) | (exfalso; revert hz; decide) | (exfalso; revert hn9; decide) | (exfalso; revert hw; decide))), rfl⟩
 iterate 2 refine Jk ?_
 refine Jq (q_pickF rfl rfl) ?_
 refine L_then ?_
 refine C_bool rfl (fun hz => ?_) (fun hz => ?_)
 refine C_seq ?_
 refine C_region ?_
 refine Jq (q_assign rfl) ?_
 refine L_then ?_
 refine C_ret ?_
 exact ret_of (res1 rfl rfl) sub_nil (by intro r hr; cases hr) ⟨(congrArg (Value.int .i64) (by rw [hkp]; clear ha9 hb9 hkp; cases a <;> cases b <;> first | decide | (exfalso; revert hy; decide) | (exfalso; revert hz; decide) | (exfalso; revert hn9; decide) | (exfalso; revert hw; decide))), rfl⟩
 refine C_skip_then ?_
 refine C_seq ?_
 refine C_seq ?_
 refine C_region ?_
 refine Jq (q_move rfl) ?_
 refine Jq (q_move rfl) ?_
 refine L_bool (d := 135) rfl (fun hn9 => ?_) (fun hn9 => ?_)
 refine Jg (q_move rfl) ?_
 refine Jg (q_not rfl (by first | exact (rfl : (!true) = false) | exact (rfl : (!false) = true) | exact decide_not.symm | rfl)) ?_
 refine Jq (q_pickT rfl rfl) ?_
 refine L_then ?_
 refine C_bool rfl (fun hw => ?_) (fun hw => ?_)
 refine C_seq ?_
 refine C_region ?_
 refine Jq (q_assign rfl) ?_
 refine L_then ?_
 refine C_ret ?_
 exact ret_of (res1 rfl rfl) sub_nil (by intro r hr; cases hr) ⟨(congrArg (Value.int .i64) (by rw [hkp]; clear ha9 hb9 hkp; cases a <;> cases b <;> first | decide | (exfalso; revert hy; decide) | (exfalso; revert hz; decide) | (exfalso; revert hn9; decide) | (exfalso; revert hw; decide))), rfl⟩
 refine C_skip_then ?_
 refine C_seq ?_
 refine C_region ?_
 refine Jq (q_assign rfl) ?_
 refine L_then ?_
 refine C_ret ?_
 exact ret_of (res1 rfl rfl) sub_nil (by intro r hr; cases hr) ⟨(congrArg (Value.int .i64) (by rw [hkp]; clear ha9 hb9 hkp; cases a <;> cases b <;> first | decide | (exfalso; revert hy; decide) | (exfalso; revert hz; decide) | (exfalso; revert hn9; decide) | (exfalso; revert hw; decide))), rfl⟩
 iterate 2 refine Jk ?_
 refine Jq (q_pickF rfl rfl) ?_
 refine L_then ?_
 refine C_bool rfl (fun hw => ?_) (fun hw => ?_)
 refine C_seq ?_
 refine C_region ?_
 refine Jq (q_assign rfl) ?_
 refine L_then ?_
 refine C_ret ?_
 exact ret_of (res1 rfl rfl) sub_nil (by intro r hr; cases hr) ⟨(congrArg (Value.int .i64) (by rw [hkp]; clear ha9 hb9 hkp; cases a <;> cases b <;> first | decide | (exfalso; revert hy; decide) | (exfalso; revert hz; decide) | (exfalso; revert hn9; decide) | (exfalso; revert hw; decide))), rfl⟩
 refine C_skip_then ?_
 refine C_seq ?_
 refine C_region ?_
 refine Jq (q_assign rfl) ?_
 refine L_then ?_
 refine C_ret ?_
 exact ret_of (res1 rfl rfl) sub_nil (by intro r hr; cases hr) ⟨(congrArg (Value.int .i64) (by rw [hkp]; clear ha9 hb9 hkp; cases a <;> cases b <;> first | decide | (exfalso; revert hy; decide) | (exfalso; revert hz; decide) | (exfalso; revert hn9; decide) | (exfalso; revert hw; decide))), rfl⟩
set_option maxRecDepth 100000 in
theorem ct_shotlineref03_Decided (v u : Value) (x : Lg) (fa : Int) (f : Nat) (ts : List Cp) (ls : List Ld) (H : okTask ts ls x fa) (hf : f ≤ 6) : Ct Tryz.prog 178 [.agg (cDv v u x fa).toArray, .int .i64 (f : Int)] [(v, 4, ts.map cCp), (u, 4, ls.map cLd)] (isV (.tuple #[.int .i64 (decT ts ls x fa f).1, .int .i64 (decT ts ls x fa f).2])) := by
 refine Ct.of (N := 21) Tryz.func178 rfl rfl rfl fun w => ?_
 refine C_weak (E' := [(0, .agg (cDv v u x fa).toArray), (1, .int .i64 (f : Int))]) (rs' := [rd v 4 (ts.map cCp), rd u 4 (ls.map cLd)]) ⟨rfl, rfl, trivial⟩ (fun _ h => h) ?_
 refine C_seq ?_
 refine C_region ?_
 refine L_box rfl rfl rfl fun g2 => ?_
 refine Jq (q_assign rfl) ?_
 refine Jq (q_assign rfl) ?_
 refine L_then ?_
 refine C_seq ?_
 refine C_seq ?_
 refine C_region ?_
 refine Jq (q_assign rfl) ?_
 refine L_then ?_
 refine C_block ?_
 refine C_loop (ι := Nat) (fun k => ([(2, .pointer (some ⟨g2, 0, none⟩)), (1, .int .i64 (f : Int)), (6, .int .i64 (k : Int))], [box g2 208 (cDv v u x fa), rd v 4 (ts.map cCp), rd u 4 (ls.map cLd)])) (fun k => k ≤ f + 1 ∧ decT ts ls x fa f = decF ts ls x fa f (f + 1 - k)) (fun k => f + 1 - k) 0 ⟨Nat.zero_le _, rfl⟩ (fun a w hs => hs.weak ⟨rfl, rfl, rfl, trivial⟩ (fun h => h.pk (by repeat (first | with_reducible exact pk_nil | refine pk_box rfl ?_ | refine pk_rd rfl ?_ | refine pk_sl rfl ?_ | with_reducible refine pk_app ?_ | with_reducible refine pk_app0 ?_ | with_reducible refine pk_app0L ?_ | with_reducible exact pk_tl | refine pk_var ?_)))) ?_
 rintro k ⟨hk, hd9⟩
 dsimp only at hk hd9 ⊢
 refine C_seq ?_
 refine C_seq ?_
 refine C_region ?_
 refine Jq (q_move rfl) ?_
 refine Jq (q_move rfl) ?_
 refine Jq (q_leq rfl rfl) ?_
 refine L_then ?_
 refine C_dec rfl (fun h1 => ?_) (fun h1 => ?_)
 refine C_skip_then ?_
 refine C_seq ?_
 refine C_block ?_
 refine C_seq ?_
 refine C_region ?_
 refine Jq (q_loadA tb rfl rfl bxo rfl rfl) ?_
 refine Jq (q_move rfl) ?_
 refine L_call tb rfl rfl (ct_shotlineref03_Kept v u x fa k ts ls H (by omega)) (ps_cons gvo (ps_cons gvo no_ps)) rfl ?_
 refine Jq (q_assign rfl) ?_
 refine L_then ?_
 refine C_seq ?_
 refine C_region ?_
 refine Jq (q_move rfl) ?_
 refine Jq (q_neq rfl rfl) ?_
 refine L_then ?_
 refine C_dec rfl (fun hq => ?_) (fun hq => ?_)
 refine C_seq ?_
 refine C_region ?_
 refine Jq (q_move rfl) ?_
 refine Jq (q_move rfl) ?_
 refine Jq (q_assign rfl) ?_
 refine Jq (q_assign rfl) ?_
 refine L_then ?_
 refine C_ret ?_
 rw [hd9, decF_step (by omega), if_pos hq]
 exact ret_of (res2 rfl rfl rfl) sub_nil (by intro r hr; cases hr) ⟨rfl, rfl⟩
 refine C_skip_blk ?_
 refine C_region ?_
 refine Jq (q_move rfl) ?_
 refine Jq (q_add rfl rfl (by first | exact IntWalk.i64_in _ (by omega) | rfl)) ?_
 refine Jq (q_assign rfl) ?_
 refine L_end ?_
 exact fun ac_ wo_ hs_ => ⟨k + 1, ⟨by omega, by rw [hd9, decF_step (by omega), if_neg (fun hh => hh (Decidable.not_not.1 hq))]⟩, (by show f + 1 - (k + 1) < f + 1 - k; omega), hs_.weak ⟨rfl, rfl, rfl, trivial⟩ (fun h => h.pk (by repeat (first | with_reducible exact pk_nil | refine pk_box rfl ?_ | refine pk_rd rfl ?_ | refine pk_sl rfl ?_ | with_reducible refine pk_app ?_ | with_reducible refine pk_app0 ?_ | with_reducible refine pk_app0L ?_ | with_reducible exact pk_tl | refine pk_var ?_)))⟩
 refine C_exit ?_
 change C Tryz.prog _ _ _ _ _ _ _
 refine C_seq ?_
 refine C_region ?_
 refine Jq (q_move rfl) ?_
 refine Jq (q_assign rfl) ?_
 refine Jq (q_assign rfl) ?_
 refine L_then ?_
 refine C_ret ?_
 have hkf : f + 1 - k = 0 := by omega
 rw [hd9, hkf]
 exact ret_of (res2 rfl rfl rfl) sub_nil (by intro r hr; cases hr) ⟨rfl, rfl⟩
end Go.Proofs.YtacndicgpkeobaaGreatDoor
