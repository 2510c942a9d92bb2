/-
  Plain models of chapter 3: the loads behind each of several legs. Conditions: none; no program in sight.
-/
import Derived.Test.YtacndicgpkeobaaGreatDoorJ
import Derived.Test.YtacndicgpkeobaaGreatDoorEx
import Derived.Test.YtacndicgpkeobaaGreatDoorMod7
import Derived.Test.YtacndicgpkeobaaGreatDoorMod8
import Derived.Test.YtacndicgpkeobaaGreatDoorTab
import Derived.Test.YtacndicgpkeobaaGreatDoorShCopy
namespace Go.Proofs.YtacndicgpkeobaaGreatDoor
set_option maxRecDepth 100000
set_option maxHeartbeats 4000000
open Go.RowKit

set_option maxRecDepth 100000 in
theorem ct_tissue_limit (c : Cp) (p f : Int) (hc : okCp c) (hp : 0 ≤ p ∧ p ≤ 50000) (hf : 0 ≤ f ∧ f ≤ 1000) : Ct Tryz.prog 133 [.agg (cCp c).toArray, .int .i64 p, .int .i64 f] [] (isV (.int .i64 (limM c p f))) := by
 refine Ct.of (N := 21) Tryz.func133 rfl rfl rfl fun w => ?_
 refine C_weak (E' := [(0, .agg (cCp c).toArray), (1, .int .i64 p), (2, .int .i64 f)]) (rs' := []) ⟨rfl, rfl, rfl, trivial⟩ (fun _ h => h) ?_
 have hi := lim_in hc hp hf
 have hc5 := hc.2.2.2.2.1; have hc6 := hc.2.2.2.2.2.1; have hc7 := hc.2.2.2.2.2.2
 refine C_seq ?_
 refine C_region ?_
 refine L_box rfl rfl rfl fun g3 => ?_
 refine Jq (q_assign rfl) ?_
 refine L_then ?_
 refine C_seq ?_
 refine C_region ?_
 refine Jq (q_move rfl) ?_
 refine Jq (q_mul rfl rfl (by first | exact IntWalk.i64_in _ (by omega) | rfl)) ?_
 refine Jq (q_move rfl) ?_
 refine Jq (q_field tb rfl rfl rfl) ?_
 refine Jq (q_load tb rfl rfl bxo rfl) ?_
 refine Jq (q_mul rfl rfl (by first | exact IntWalk.i64_in _ (by omega) | rfl)) ?_
 refine Jq (q_field tb rfl rfl rfl) ?_
 refine Jq (q_load tb rfl rfl bxo rfl) ?_
 refine Jq (q_sub rfl rfl (by first | exact IntWalk.i64_in _ (by omega) | rfl)) ?_
 refine Jq (q_move rfl) ?_
 refine Jq (q_mul rfl rfl (by first | exact IntWalk.i64_in _ (by omega) | rfl)) ?_
 refine Jq (q_add rfl rfl (by first | exact IntWalk.i64_in _ (by omega) | rfl)) ?_
 refine Jq (q_mul rfl rfl (by first | exact IntWalk.i64_in _ (by omega) | rfl)) ?_
 refine Jq (q_add rfl rfl (by first | exact IntWalk.i64_in _ (by omega) | rfl)) ?_
 refine Jq (q_assign rfl) ?_
 refine L_then ?_
 refine C_ret ?_
 exact ret_of (res1 rfl rfl) sub_nil (by intro r hr; cases hr) ⟨rfl, rfl⟩
set_option maxRecDepth 100000 in
theorem ct_shotlineref03_limit (c : Cp) (p f : Int) (hc : okCp c) (hp : 0 ≤ p ∧ p ≤ 50000) (hf : 0 ≤ f ∧ f ≤ 1000) : Ct Tryz.prog 249 [.agg (cCp c).toArray, .int .i64 p, .int .i64 f] [] (isV (.int .i64 (limM c p f))) := by
 refine Ct.of (N := 21) Tryz.func249 rfl rfl rfl fun w => ?_
 refine C_weak (E' := [(0, .agg (cCp c).toArray), (1, .int .i64 p), (2, .int .i64 f)]) (rs' := []) ⟨rfl, rfl, rfl, trivial⟩ (fun _ h => h) ?_
 have hi := lim_in hc hp hf
 have hc5 := hc.2.2.2.2.1; have hc6 := hc.2.2.2.2.2.1; have hc7 := hc.2.2.2.2.2.2
 refine C_seq ?_
 refine C_region ?_
 refine L_box rfl rfl rfl fun g3 => ?_
 refine Jq (q_assign rfl) ?_
 refine L_then ?_
 refine C_seq ?_
 refine C_region ?_
 refine Jq (q_move rfl) ?_
 refine Jq (q_mul rfl rfl (by first | exact IntWalk.i64_in _ (by omega) | rfl)) ?_
 refine Jq (q_move rfl) ?_
 refine Jq (q_field tb rfl rfl rfl) ?_
 refine Jq (q_load tb rfl rfl bxo rfl) ?_
 refine Jq (q_mul rfl rfl (by first | exact IntWalk.i64_in _ (by omega) | rfl)) ?_
 refine Jq (q_field tb rfl rfl rfl) ?_
 refine Jq (q_load tb rfl rfl bxo rfl) ?_
 refine Jq (q_sub rfl rfl (by first | exact IntWalk.i64_in _ (by omega) | rfl)) ?_
 refine Jq (q_move rfl) ?_
 refine Jq (q_mul rfl rfl (by first | exact IntWalk.i64_in _ (by omega) | rfl)) ?_
 refine Jq (q_add rfl rfl (by first | exact IntWalk.i64_in _ (by omega) | rfl)) ?_
 refine Jq (q_mul rfl rfl (by first | exact IntWalk.i64_in _ (by omega) | rfl)) ?_
 refine Jq (q_add rfl rfl (by first | exact IntWalk.i64_in _ (by omega) | rfl)) ?_
 refine Jq (q_assign rfl) ?_
 refine L_then ?_
 refine C_ret ?_
 exact ret_of (res1 rfl rfl) sub_nil (by intro r hr; cases hr) ⟨rfl, rfl⟩
set_option maxRecDepth 100000 in
theorem ct_tissue_total (x : Ld) (hx : inLd x) : Ct Tryz.prog 134 [.agg (cLd x).toArray] [] (isV (.agg #[.int .i64 (x.n.lo + x.h.lo), .int .i64 (x.n.hi + x.h.hi)])) := by
 refine Ct.of (N := 18) Tryz.func134 rfl rfl rfl fun w => ?_
 refine C_weak (E' := [(0, .agg (cLd x).toArray)]) (rs' := []) ⟨rfl, trivial⟩ (fun _ h => h) ?_
 have h1 := hx.1.a; have h2 := hx.1.b; have h3 := hx.1.c; have h4 := hx.1.e; have h5 := hx.2.a; have h6 := hx.2.b; have h7 := hx.2.c; have h8 := hx.2.e
 refine C_seq ?_
 refine C_region ?_
 refine L_box rfl rfl rfl fun g1 => ?_
 refine L_alloc tb rfl rfl fun g2 => ?_
 refine L_then ?_
 refine C_seq ?_
 refine C_region ?_
 refine Jq (q_field tb rfl rfl rfl) ?_
 refine Jq (q_field tb rfl rfl rfl) ?_
 refine Jq (q_load tb rfl rfl bxo rfl) ?_
 refine Jq (q_field tb rfl rfl rfl) ?_
 refine Jq (q_field tb rfl rfl rfl) ?_
 refine Jq (q_load tb rfl rfl bxo rfl) ?_
 refine Jq (q_add rfl rfl (by first | exact IntWalk.i64_in _ (by omega) | rfl)) ?_
 refine Jq (q_field tb rfl rfl rfl) ?_
 refine Jq (q_field tb rfl rfl rfl) ?_
 refine Jq (q_load tb rfl rfl bxo rfl) ?_
 refine Jq (q_field tb rfl rfl rfl) ?_
 refine Jq (q_field tb rfl rfl rfl) ?_
 refine Jq (q_load tb rfl rfl bxo rfl) ?_
 refine Jq (q_add rfl rfl (by first | exact IntWalk.i64_in _ (by omega) | rfl)) ?_
 refine Jq (by first | exact q_build tb rfl rfl rfl rfl | exact q_buildArr tb rfl rfl rfl rfl rfl) ?_
 refine L_st tb rfl rfl ?_
 refine L_then ?_
 refine C_ret ?_
 exact ret_of (resC tb rfl rfl rfl m0 rfl) sub_nil (by intro r hr; cases hr) ⟨rfl, rfl⟩
set_option maxRecDepth 100000 in
theorem ct_tissue_Loaded (v u : Value) (x : Lg) (f : Int) (ts : List Cp) (ls : List Ld) (hle : ts.length ≤ 1000000) (hle2 : ls.length ≤ 1000000) : Ct Tryz.prog 66 [v, u, .agg (cLg x).toArray, .int .i64 f] [(v, 4, ts.map cCp), (u, 4, ls.map cLd)] (isSlN 134 4 ((loadedE ts ls x f).1.map cLd) (.int .i64 (loadedE ts ls x f).2)) := by
 refine Ct.of (N := 31) Tryz.func66 rfl rfl rfl fun w => ?_
 refine C_weak (E' := [(0, v), (1, u), (2, .agg (cLg x).toArray), (3, .int .i64 f)]) (rs' := [rd v 4 (ts.map cCp), rd u 4 (ls.map cLd)]) ⟨rfl, rfl, rfl, rfl, trivial⟩ (fun _ h => h) ?_
 refine C_seq ?_
 refine C_region ?_
 refine L_box rfl rfl rfl fun g6 => ?_
 refine Jq (q_assign rfl) ?_
 refine Jq (q_assign rfl) ?_
 refine L_then ?_
 refine C_seq ?_
 refine C_seq ?_
 refine C_region ?_
 refine Jq (q_move rfl) ?_
 refine Jq (q_move rfl) ?_
 refine L_call tb rfl rfl (ct_tissue_CheckLoads _ _ ts ls hle hle2) (ps_cons gvo (ps_cons gvo no_ps)) rfl ?_
 refine Jq (q_assign rfl) ?_
 refine L_then ?_
 refine C_seq ?_
 refine C_region ?_
 refine Jq (q_move rfl) ?_
 refine Jq (q_neq rfl rfl) ?_
 refine L_then ?_
 refine C_dec rfl (fun h1 => ?_) (fun h1 => ?_)
 refine C_seq ?_
 refine C_region ?_
 refine Jq (q_move rfl) ?_
 refine Jq (q_assign rfl) ?_
 refine Jq (q_assign rfl) ?_
 refine L_then ?_
 refine C_ret ?_
 rw [loadedE_1 h1]
 exact ret_of (rs' := [sl (.slice none 0 0) 134 4 []]) (res2 rfl rfl rfl) (fun w_ h_ => ws_nil (sub_nil w_ h_)) own1 ⟨_, rfl, rfl⟩
 refine C_skip_then ?_
 refine C_seq ?_
 refine C_seq ?_
 refine C_region ?_
 refine Jq (q_loadA tb rfl rfl bxo rfl rfl) ?_
 refine L_call tb rfl rfl (ct_tissue_CheckLeg x) no_ps rfl ?_
 refine Jq (q_assign rfl) ?_
 refine L_then ?_
 refine C_seq ?_
 refine C_region ?_
 refine Jq (q_move rfl) ?_
 refine Jq (q_neq rfl rfl) ?_
 refine L_then ?_
 refine C_dec rfl (fun h2 => ?_) (fun h2 => ?_)
 refine C_seq ?_
 refine C_region ?_
 refine Jq (q_move rfl) ?_
 refine Jq (q_assign rfl) ?_
 refine Jq (q_assign rfl) ?_
 refine L_then ?_
 refine C_ret ?_
 rw [loadedE_2 h1 h2]
 exact ret_of (rs' := [sl (.slice none 0 0) 134 4 []]) (res2 rfl rfl rfl) (fun w_ h_ => ws_nil (sub_nil w_ h_)) own1 ⟨_, rfl, rfl⟩
 refine C_skip_then ?_
 refine C_seq ?_
 refine C_seq ?_
 refine C_region ?_
 refine Jq (q_move rfl) ?_
 refine L_call tb rfl rfl (ct_tissue_isFine _) no_ps rfl ?_
 refine Jq (q_not rfl decide_not.symm) ?_
 refine L_then ?_
 refine C_dec rfl (fun h3 => ?_) (fun h3 => ?_)
 refine C_seq ?_
 refine C_region ?_
 refine Jq (q_assign rfl) ?_
 refine Jq (q_assign rfl) ?_
 refine L_then ?_
 refine C_ret ?_
 rw [loadedE_3 h1 h2 h3]
 exact ret_of (rs' := [sl (.slice none 0 0) 134 4 []]) (res2 rfl rfl rfl) (fun w_ h_ => ws_nil (sub_nil w_ h_)) own1 ⟨_, rfl, rfl⟩
 have hk := ckLoads_ok (Decidable.not_not.1 h1)
 have hkb := hk.b
 obtain ⟨n, rfl⟩ := Int.eq_ofNat_of_zero_le (show 0 ≤ f by omega)
 refine C_skip_then ?_
 refine C_seq ?_
 refine C_region ?_
 refine Jq (q_move rfl) ?_
 refine Jq (q_move rfl) ?_
 refine Jq (q_loadA tb rfl rfl bxo rfl rfl) ?_
 refine Jq (q_move rfl) ?_
 refine L_callS tb rfl rfl (ct_tissue_loaded _ _ x n ts ls (by omega) (ckLeg_ok (Decidable.not_not.1 h2)).1 hk.len (by omega) hk.c hk.x) (ps_cons gvo (ps_cons gvo no_ps)) rfl fun v30 => ?_
 refine Jq (q_assign rfl) ?_
 refine Jq (q_assign rfl) ?_
 refine L_then ?_
 refine C_ret ?_
 rw [loadedE_4 h1 h2 (show n ≤ 6 by omega)]
 exact ret_of (rs' := [sl v30 134 4 ((loadedM ts ls x n).map cLd)]) (res2 rfl rfl rfl) (fun _ h => h.sub (by repeat (first | exact List.Sublist.refl _ | apply List.Sublist.cons_cons | apply List.Sublist.cons))) own1 ⟨_, rfl, rfl⟩
end Go.Proofs.YtacndicgpkeobaaGreatDoor
namespace Go.Proofs.YtacndicgpkeobaaGreatDoor
set_option maxRecDepth 100000
set_option maxHeartbeats 4000000
open Go.RowKit

set_option maxRecDepth 100000 in
set_option maxHeartbeats 1000000 in
theorem ct_shotlineref03_Loaded (v u : Value) (x : Lg) (f : Nat) (ts : List Cp) (ls : List Ld) (hf : f ≤ 6) (hx : okLg x) (hlen : ls.length = ts.length) (htl : ts.length ≤ 1000) (hc : ∀ c ∈ ts, okCp c) (hl : ∀ y ∈ ls, inLd y) : Ct Tryz.prog 123 [v, u, .agg (cLg x).toArray, .int .i64 (f : Int)] [(v, 4, ts.map cCp), (u, 4, ls.map cLd)] (isSl 134 4 ((loadedM ts ls x f).map cLd)) := by
 refine Ct.of (N := 58) Tryz.func123 rfl rfl rfl fun w => ?_
 refine C_weak (E' := [(0, v), (1, u), (2, .agg (cLg x).toArray), (3, .int .i64 (f : Int))]) (rs' := [rd v 4 (ts.map cCp), rd u 4 (ls.map cLd)]) ⟨rfl, rfl, rfl, rfl, trivial⟩ (fun _ h => h) ?_
 obtain ⟨n, hn⟩ : ∃ n : Nat, n = 2 ^ f := ⟨_, rfl⟩
 have h64 := two_f hf hn
 have hsx := hx.s
 have hl1 := len_map cCp ts; have hl2 := len_map cLd ls; have hml := mks_len x n (rmk x n)
 refine C_seq ?_
 refine C_region ?_
 refine L_box rfl rfl rfl fun g6 => ?_
 refine Jq (q_assign rfl) ?_
 refine L_then ?_
 refine C_seq ?_
 refine C_draw (n := 7) [(0, false), (1, false), (2, false), (4, false), (5, false), (3, true), (6, true)] mixed (by kernel_rfl) ?_
 refine Yq rfl (q_move rfl) ?_
 refine Yq rfl (q_mul rfl rfl (wr (b := ((2 * f : Nat) : Int)) (by omega) (by omega))) ?_
 refine Yq rfl (q_add rfl rfl (wr (b := ((8 + 2 * f : Nat) : Int)) (by omega) (by omega))) ?_
 refine Yq rfl (q_loadA tb rfl rfl bxo rfl rfl) ?_
 refine Yq rfl (q_move rfl) ?_
 refine W_callS tb rfl rfl rfl rfl (ct_shotlineref03_Roots (8 + 2 * f) (by omega)) no_ps rfl fun v16 => ?_
 refine W_callS tb rfl rfl rfl rfl (ct_shotlineref03_Marks x f n hf hn hx) no_ps rfl fun v19 => ?_
 refine W_nil ?_
 refine Jq (q_assign rfl) ?_
 refine Jq (q_assign rfl) ?_
 refine L_then ?_
 refine C_seq ?_
 refine C_region ?_
 refine L_mk (lo_bslice tb rfl rfl rfl (xs := []) rfl rfl (by simp) rfl (by omega) rfl) rfl rfl rfl fun v20 => ?_
 refine Jq (q_move rfl) ?_
 refine L_ap tb rfl rfl rfl rfl gvo (oneLd ls) (by simp [maxLen]; omega) (by simp; omega) fun v22 => ?_
 refine Jq (q_assign rfl) ?_
 refine L_then ?_
 refine C_seq ?_
 refine C_seq ?_
 refine C_region ?_
 refine Jq (q_assign rfl) ?_
 refine L_then ?_
 refine C_block ?_
 refine C_loop (ι := Nat × Value) (fun p => ([(0, v), (6, .pointer (some ⟨g6, 0, none⟩)), (9, v16), (10, v19), (11, p.2), (12, .int .i64 ((p.1 : Int) + 1))], [sl p.2 134 4 ((stM f ts ls x n p.1).map cLd), sl v19 259 3 ((mksL x n (rmk x n)).map cMk), sl v16 122 2 ((rts (8 + 2 * f)).map cRg), box g6 130 (cLg x), rd v 4 (ts.map cCp)])) (fun p => p.1 < rmk x n) (fun p => rmk x n - p.1) (0, v22) (rmk_gt x n) (fun a w hs => hs.weak ⟨rfl, rfl, rfl, rfl, rfl, rfl, trivial⟩ (fun h => h.sub (by repeat (first | exact List.Sublist.refl _ | apply List.Sublist.cons_cons | apply List.Sublist.cons)))) ?_
 rintro ⟨k, y⟩ hk
 dsimp only at hk ⊢
 refine C_seq ?_
 refine C_seq ?_
 refine C_region ?_
 refine Jq (q_move rfl) ?_
 refine Jq (q_move rfl) ?_
 refine Jq (q_len tb rfl rfl gvo) ?_
 refine Jq (q_lss rfl rfl) ?_
 refine L_then ?_
 refine C_dec rfl (fun h1 => ?_) (fun h1 => ?_)
 have hs0 : x.s ≠ 0 := fun h => by have h9 := rmk_one (n := n) h; omega
 have hr1 := rmk_pos (n := n) hs0
 have hel0 : ((mksL x n (rmk x n)).map cMk)[k]? = some (cMk (mkM x n (k : Int))) := mks_cell (by omega)
 have hel1 : ((mksL x n (rmk x n)).map cMk)[k + 1]? = some (cMk (mkM x n ((k : Int) + 1))) := mks_cell (by omega)
 have hm0 := mk_in (j := (k : Int)) hx (n := (n : Int)) (by omega) (by omega); have hm1 := mk_in (j := (k : Int) + 1) hx (n := (n : Int)) (by omega) (by omega); have hmo := mk_mono hx h64.1 k
 refine C_skip_then ?_
 refine C_seq ?_
 refine C_block ?_
 refine C_draw (n := 28) [(0, false), (1, false), (2, false), (3, false), (4, false), (5, false), (6, false), (7, false), (8, false), (9, false), (10, false), (11, false), (12, false), (13, false), (14, false), (15, false), (16, false), (17, false), (18, false), (19, false), (20, false), (21, false), (22, false), (24, false), (25, false), (26, false), (23, true), (27, true)] mixed (by kernel_rfl) ?_
 refine Yq rfl (q_move rfl) ?_
 refine Yq rfl (q_move rfl) ?_
 refine Yq rfl (q_move rfl) ?_
 refine Yq rfl (q_move rfl) ?_
 refine Yq rfl (by first | exact q_index tb rfl rfl rfl rfl gvo (by omega) (by first | omega | (simp; done) | (simp; omega)) | exact q_indexP tb rfl rfl rfl rfl (by omega) (by omega)) ?_
 refine Yq rfl (q_fieldE tb rfl rfl rfl gvo (by first | omega | (simp; done) | (simp; omega))) ?_
 refine Yq rfl (q_loadE tb rfl rfl gvo (i := k + 1) (o := 0) (by omega) hel1 rfl) ?_
 refine Yq rfl (q_move rfl) ?_
 refine Yq rfl (q_move rfl) ?_
 refine Yq rfl (q_sub rfl rfl (by first | exact IntWalk.i64_in _ (by omega) | rfl)) ?_
 refine Yq rfl (by first | exact q_index tb rfl rfl rfl rfl gvo (by omega) (by first | omega | (simp; done) | (simp; omega)) | exact q_indexP tb rfl rfl rfl rfl (by omega) (by omega)) ?_
 refine Yq rfl (q_fieldE tb rfl rfl rfl gvo (by first | omega | (simp; done) | (simp; omega))) ?_
 refine Yq rfl (q_loadE tb rfl rfl gvo (i := k) (o := 0) (by omega) hel0 rfl) ?_
 refine Yq rfl (q_sub rfl rfl (by first | exact IntWalk.i64_in _ (by omega) | rfl)) ?_
 refine Yq rfl (q_move rfl) ?_
 refine Yq rfl (q_move rfl) ?_
 refine Yq rfl (q_sub rfl rfl (by first | exact IntWalk.i64_in _ (by omega) | rfl)) ?_
 refine Yq rfl (by first | exact q_index tb rfl rfl rfl rfl gvo (by omega) (by first | omega | (simp; done) | (simp; omega)) | exact q_indexP tb rfl rfl rfl rfl (by omega) (by omega)) ?_
 refine Yq rfl (q_loadEA tb rfl rfl gvo (i := k) (o := 0) (by omega) hel0 rfl rfl) ?_
 refine Yq rfl (q_move rfl) ?_
 refine Yq rfl (q_move rfl) ?_
 refine Yq rfl (by first | exact q_index tb rfl rfl rfl rfl gvo (by omega) (by first | omega | (simp; done) | (simp; omega)) | exact q_indexP tb rfl rfl rfl rfl (by omega) (by omega)) ?_
 refine Yq rfl (q_loadEA tb rfl rfl gvo (i := k + 1) (o := 0) (by omega) hel1 rfl rfl) ?_
 refine Yq rfl (q_field tb rfl rfl rfl) ?_
 refine Yq rfl (q_loadA tb rfl rfl bxo rfl rfl) ?_
 refine Yq rfl (q_move rfl) ?_
 refine W_call tb rfl rfl rfl rfl (ct_shotlineref03_around (mkM x n k) (mkM x n ((k : Int) + 1))) no_ps rfl ?_
 refine W_callS tb rfl rfl rfl rfl (ct_shotlineref03_Step _ _ _ ((mkM x n ((k : Int) + 1)).s - (mkM x n k).s) (min (mkM x n k).p.lo (mkM x n ((k : Int) + 1)).p.lo) (max (mkM x n k).p.hi (mkM x n ((k : Int) + 1)).p.hi) x.g (8 + 2 * f) ts (stM f ts ls x n k) (by omega) ⟨by omega, by omega, by omega, by omega⟩ hx.g (by omega) (stM_len hlen k) htl hc (stM_in hx h64 hl k (by omega))) (ps_cons gvo (ps_cons gvo (ps_cons gvo no_ps))) rfl fun v56 => ?_
 refine W_nil ?_
 refine Jq (q_assign rfl) ?_
 refine L_blk ?_
 refine C_region ?_
 refine Jq (q_move rfl) ?_
 refine Jq (q_add rfl rfl (by first | exact IntWalk.i64_in _ (by omega) | rfl)) ?_
 refine Jq (q_assign rfl) ?_
 refine L_end ?_
 exact fun ac_ wo_ hs_ => ⟨(k + 1, v56), (by dsimp only; omega), (by dsimp only; omega), hs_.weak ⟨rfl, rfl, rfl, rfl, rfl, rfl, trivial⟩ (fun h => h.sub (by repeat (first | exact List.Sublist.refl _ | apply List.Sublist.cons_cons | apply List.Sublist.cons)))⟩
 have hkr : k + 1 = rmk x n := by omega
 have hend := stM_end (ts := ts) (ls := ls) hn hkr
 refine C_exit ?_
 change C Tryz.prog _ _ _ _ _ _ _
 refine C_seq ?_
 refine C_region ?_
 refine Jq (q_move rfl) ?_
 refine Jq (q_assign rfl) ?_
 refine L_then ?_
 refine C_ret ?_
 rw [hend]
 exact ret_of (rs' := [sl y 134 4 ((loadedM ts ls x f).map cLd)]) (res1 rfl rfl) (fun _ h => h.sub (by repeat (first | exact List.Sublist.refl _ | apply List.Sublist.cons_cons | apply List.Sublist.cons))) own1 rfl
set_option maxRecDepth 100000 in
theorem ct_shotlineref03_Same (v u : Value) (ls : List Ld) (hle : ls.length ≤ 100000) : Ct Tryz.prog 63 [v, u] [(v, 4, ls.map cLd), (u, 4, ls.map cLd)] (isV (.bool true)) := by
 refine Ct.of (N := 26) Tryz.func63 rfl rfl rfl fun w => ?_
 refine C_weak (E' := [(0, v), (1, u)]) (rs' := [rd v 4 (ls.map cLd), rd u 4 (ls.map cLd)]) ⟨rfl, rfl, trivial⟩ (fun _ h => h) ?_
 have hl := len_map cLd ls
 refine C_seq ?_
 refine C_region ?_
 refine Jq (q_assign rfl) ?_
 refine L_then ?_
 refine C_seq ?_
 refine C_seq ?_
 refine C_region ?_
 refine Jq (q_move rfl) ?_
 refine Jq (q_len tb rfl rfl gvo) ?_
 refine Jq (q_move rfl) ?_
 refine Jq (q_len tb rfl rfl gvo) ?_
 refine Jq (q_neq rfl rfl) ?_
 refine L_then ?_
 refine C_dec rfl (fun h1 => ?_) (fun h1 => ?_)
 omega
 refine C_skip_then ?_
 refine C_seq ?_
 refine C_seq ?_
 refine C_region ?_
 refine Jq (q_assign rfl) ?_
 refine L_then ?_
 refine C_block ?_
 refine C_loop (ι := Nat) (fun k => ([(0, v), (1, u), (5, .int .i64 k)], [rd v 4 (ls.map cLd), rd u 4 (ls.map cLd)])) (fun k => k ≤ ls.length) (fun k => ls.length - k) 0 (Nat.zero_le _) (fun a w hs => hs.weak ⟨rfl, rfl, rfl, trivial⟩ (fun h => h.sub (by repeat (first | exact List.Sublist.refl _ | apply List.Sublist.cons_cons | apply List.Sublist.cons)))) ?_
 intro k hk
 dsimp only at hk ⊢
 refine C_seq ?_
 refine C_seq ?_
 refine C_region ?_
 refine Jq (q_move rfl) ?_
 refine Jq (q_move rfl) ?_
 refine Jq (q_len tb rfl rfl gvo) ?_
 refine Jq (q_lss rfl rfl) ?_
 refine L_then ?_
 refine C_dec rfl (fun h2 => ?_) (fun h2 => ?_)
 obtain ⟨x, he⟩ := get_some ls (k := k) (by omega); have hel := map_get cLd he
 refine C_skip_then ?_
 refine C_seq ?_
 refine C_block ?_
 refine C_seq ?_
 refine C_draw (n := 9) [(0, false), (1, false), (2, false), (3, false), (4, false), (5, false), (6, false), (7, false), (8, false)] mixed (by kernel_rfl) ?_
 refine Yq rfl (q_move rfl) ?_
 refine Yq rfl (q_move rfl) ?_
 refine Yq rfl (by first | exact q_index tb rfl rfl rfl rfl gvo (by omega) (by first | omega | (simp; done) | (simp; omega)) | exact q_indexP tb rfl rfl rfl rfl (by omega) (by omega)) ?_
 refine Yq rfl (q_loadEA tb rfl rfl gvo (i := k) (o := 0) (by omega) hel rfl rfl) ?_
 refine Yq rfl (q_move rfl) ?_
 refine Yq rfl (q_move rfl) ?_
 refine Yq rfl (by first | exact q_index tb rfl rfl rfl rfl gvo (by omega) (by first | omega | (simp; done) | (simp; omega)) | exact q_indexP tb rfl rfl rfl rfl (by omega) (by omega)) ?_
 refine Yq rfl (q_loadEA tb rfl rfl gvo (i := k) (o := 0) (by omega) hel rfl rfl) ?_
 refine Yq rfl (q_false (q_neI (xs := [x.n.lo, x.n.hi, x.h.lo, x.h.hi]) (ys := [x.n.lo, x.n.hi, x.h.lo, x.h.hi]) eq134 (by omega) eg134 rfl rfl rfl rfl Iff.rfl) (by simp)) ?_
 refine W_nil ?_
 refine L_then ?_
 refine C_false rfl ?_
 refine C_skip_blk ?_
 refine C_region ?_
 refine Jq (q_move rfl) ?_
 refine Jq (q_add rfl rfl (by first | exact IntWalk.i64_in _ (by omega) | rfl)) ?_
 refine Jq (q_assign rfl) ?_
 refine L_end ?_
 exact fun ac_ wo_ hs_ => ⟨k + 1, (by dsimp only; omega), (by dsimp only; omega), hs_.weak ⟨rfl, rfl, rfl, trivial⟩ (fun h => h.sub (by repeat (first | exact List.Sublist.refl _ | apply List.Sublist.cons_cons | apply List.Sublist.cons)))⟩
 refine C_exit ?_
 change C Tryz.prog _ _ _ _ _ _ _
 refine C_seq ?_
 refine C_region ?_
 refine Jq (q_assign rfl) ?_
 refine L_then ?_
 refine C_ret ?_
 exact ret_of (res1 rfl rfl) sub_nil (by intro r hr; cases hr) ⟨rfl, rfl⟩
end Go.Proofs.YtacndicgpkeobaaGreatDoor
namespace Go.Proofs.YtacndicgpkeobaaGreatDoor

def satL (g : Gs) (p : Int) : Ld := ⟨⟨(1000 - g.o - g.h) * (p - 63), (1000 - g.o - g.h) * (p - 63)⟩, ⟨g.h * (p - 63), g.h * (p - 63)⟩⟩
def satM (ts : List Cp) (g : Gs) (p : Int) : List Ld := List.replicate ts.length (satL g p)
section
variable {ts : List Cp} {g : Gs} {p : Int}
theorem satM_len : (satM ts g p).length = ts.length := List.length_replicate
structure okSat (ts : List Cp) (g : Gs) (p : Int) : Prop where
  t : 1 ≤ ts.length ∧ ts.length ≤ 16
  c : ∀ c ∈ ts, okCp c
  g : 0 ≤ g.o ∧ 0 ≤ g.h ∧ g.o + g.h ≤ 1000
  p : 400 ≤ p ∧ p ≤ 31100
theorem okSat.loads (h : okSat ts g p) : okTL ts (satM ts g p) := by
  have hA := breath_in (n := 1000 - g.o - g.h) (p := p) (by have := h.g; omega) (by have := h.p; omega)
  have hB := breath_in (n := g.h) (p := p) (by have := h.g; omega) (by have := h.p; omega)
  have key : ∀ y ∈ satM ts g p, y = satL g p := fun y hy => List.eq_of_mem_replicate hy
  refine ⟨h.t.1, h.t.2, satM_len, h.c, fun y hy => ?_, fun y hy => ?_⟩
  · rw [key y hy]
    exact ⟨⟨hA.1, hA.2, hA.1, hA.2⟩, ⟨hB.1, hB.2, hB.1, hB.2⟩⟩
  · rw [key y hy]
    exact ⟨Int.le_refl _, Int.le_refl _⟩
end
end Go.Proofs.YtacndicgpkeobaaGreatDoor
namespace Go.Proofs.YtacndicgpkeobaaGreatDoor
def cDv (v u : Value) (x : Lg) (fi : Int) : List Value := [v, u, .int .i64 x.f, .int .i64 x.t, .int .i64 x.s, .int .i64 x.g.o, .int .i64 x.g.h, .int .i64 fi]
def cDl (x : Dl) : List Value := [.int .i64 x.s, .int .i64 x.d, .int .i64 x.g]
end Go.Proofs.YtacndicgpkeobaaGreatDoor
namespace Go.Proofs.YtacndicgpkeobaaGreatDoor
open Go.RowKit

end Go.Proofs.YtacndicgpkeobaaGreatDoor
namespace Go.Proofs.YtacndicgpkeobaaGreatDoor
open Go.RowKit

end Go.Proofs.YtacndicgpkeobaaGreatDoor
namespace Go.Proofs.YtacndicgpkeobaaGreatDoor
open Go.RowKit

end Go.Proofs.YtacndicgpkeobaaGreatDoor
namespace Go.Proofs.YtacndicgpkeobaaGreatDoor
open Go.RowKit

end Go.Proofs.YtacndicgpkeobaaGreatDoor
namespace Go.Proofs.YtacndicgpkeobaaGreatDoor
open Go.RowKit

section
variable {ts : List Cp} {ls : List Ld} {xs : List Lg} {x : Lg} {f k : Nat} {fi : Int}
def ckLgs : List Lg → Int
  | [] => 0
  | x :: t => if ckLeg x ≠ 0 then ckLeg x else ckLgs t
structure okFol (ts : List Cp) (ls : List Ld) (xs : List Lg) (fi : Int) : Prop where
  k : okTL ts ls
  l : xs.length ≤ 200
  c : ckLgs xs = 0
  f : 0 ≤ fi ∧ fi ≤ 6
end
section
variable {rs rs1 t s : List Res} {r : Res}
instance (priority := low) rmBC {g : Nat} {u : TypeId} {xs : List Value} [h : RmB t g u xs rs1] : RmB (s ++ t) g u xs (s ++ rs1) := ⟨List.perm_middle.symm.trans (h.out.append_left s)⟩
instance (priority := low) rmRC {v : Value} {size : Nat} {l : List (List Value)} [h : RmR t v size l rs1] : RmR (s ++ t) v size l (s ++ rs1) := ⟨List.perm_middle.symm.trans (h.out.append_left s)⟩
instance (priority := low) rmSC {v : Value} {e size : Nat} {l : List (List Value)} [h : RmS t v e size l rs1] : RmS (s ++ t) v e size l (s ++ rs1) := ⟨List.perm_middle.symm.trans (h.out.append_left s)⟩
instance (priority := low) tlC [h : Tl rs t] : Tl (rs ++ s) t := ⟨by
  obtain ⟨d, hd⟩ := h.out
  exact ⟨d ++ s, by rw [← List.append_assoc]; exact hd.append_right s⟩⟩
end
end Go.Proofs.YtacndicgpkeobaaGreatDoor
