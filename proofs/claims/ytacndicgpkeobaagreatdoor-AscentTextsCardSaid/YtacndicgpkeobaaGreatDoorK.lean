/-
  Walks: each function named returns what its model says. Conditions: those in front of each theorem.
-/
import Derived.Test.YtacndicgpkeobaaGreatDoorJ
namespace Go.Proofs.YtacndicgpkeobaaGreatDoor
open Go.RowKit

set_option maxRecDepth 100000 in
theorem ct_tissue_limit (c : Cp) (p f : Int) (hc : okCp c) (hp : 0 ≤ p ∧ p ≤ 50000) (hf : 0 ≤ f ∧ f ≤ 1000) : Ct Tryz.prog 133 [.agg (cCp c).toArray, .int .i64 p, .int .i64 f] [] (isV (.int .i64 (limM c p f))) := by
 refine Ct.of (N := 21) Tryz.func133 rfl rfl rfl fun w => ?_
 refine C_weak (E' := [(0, .agg (cCp c).toArray), (1, .int .i64 p), (2, .int .i64 f)]) (rs' := []) ⟨rfl, rfl, rfl, trivial⟩ (fun _ h => h) ?_
 have hi := lim_in hc hp hf
 have hc5 := hc.2.2.2.2.1; have hc6 := hc.2.2.2.2.2.1; have hc7 := hc.2.2.2.2.2.2
 refine C_seq ?_
 refine C_region ?_
 refine L_box rfl rfl rfl fun g3 => ?_
 refine Jq (q_assign rfl) ?_
 refine L_then ?_
 refine C_seq ?_
 refine C_region ?_
 refine Jq (q_move rfl) ?_
 refine Jq (q_mul rfl rfl (by first | exact IntWalk.i64_in _ (by omega) | rfl)) ?_
 refine Jq (q_move rfl) ?_
 refine Jq (q_field tb rfl rfl rfl) ?_
 refine Jq (q_load tb rfl rfl bxo rfl) ?_
 refine Jq (q_mul rfl rfl (by first | exact IntWalk.i64_in _ (by omega) | rfl)) ?_
 refine Jq (q_field tb rfl rfl rfl) ?_
 refine Jq (q_load tb rfl rfl bxo rfl) ?_
 refine Jq (q_sub rfl rfl (by first | exact IntWalk.i64_in _ (by omega) | rfl)) ?_
 refine Jq (q_move rfl) ?_
 refine Jq (q_mul rfl rfl (by first | exact IntWalk.i64_in _ (by omega) | rfl)) ?_
 refine Jq (q_add rfl rfl (by first | exact IntWalk.i64_in _ (by omega) | rfl)) ?_
 refine Jq (q_mul rfl rfl (by first | exact IntWalk.i64_in _ (by omega) | rfl)) ?_
 refine Jq (q_add rfl rfl (by first | exact IntWalk.i64_in _ (by omega) | rfl)) ?_
 refine Jq (q_assign rfl) ?_
 refine L_then ?_
 refine C_ret ?_
 exact ret_of (res1 rfl rfl) sub_nil (by intro r hr; cases hr) ⟨rfl, rfl⟩
set_option maxRecDepth 100000 in
theorem ct_tissue_total (x : Ld) (hx : inLd x) : Ct Tryz.prog 134 [.agg (cLd x).toArray] [] (isV (.agg #[.int .i64 (x.n.lo + x.h.lo), .int .i64 (x.n.hi + x.h.hi)])) := by
 refine Ct.of (N := 18) Tryz.func134 rfl rfl rfl fun w => ?_
 refine C_weak (E' := [(0, .agg (cLd x).toArray)]) (rs' := []) ⟨rfl, trivial⟩ (fun _ h => h) ?_
 have h1 := hx.1.a; have h2 := hx.1.b; have h3 := hx.1.c; have h4 := hx.1.e; have h5 := hx.2.a; have h6 := hx.2.b; have h7 := hx.2.c; have h8 := hx.2.e
 refine C_seq ?_
 refine C_region ?_
 refine L_box rfl rfl rfl fun g1 => ?_
 refine L_alloc tb rfl rfl fun g2 => ?_
 refine L_then ?_
 refine C_seq ?_
 refine C_region ?_
 refine Jq (q_field tb rfl rfl rfl) ?_
 refine Jq (q_field tb rfl rfl rfl) ?_
 refine Jq (q_load tb rfl rfl bxo rfl) ?_
 refine Jq (q_field tb rfl rfl rfl) ?_
 refine Jq (q_field tb rfl rfl rfl) ?_
 refine Jq (q_load tb rfl rfl bxo rfl) ?_
 refine Jq (q_add rfl rfl (by first | exact IntWalk.i64_in _ (by omega) | rfl)) ?_
 refine Jq (q_field tb rfl rfl rfl) ?_
 refine Jq (q_field tb rfl rfl rfl) ?_
 refine Jq (q_load tb rfl rfl bxo rfl) ?_
 refine Jq (q_field tb rfl rfl rfl) ?_
 refine Jq (q_field tb rfl rfl rfl) ?_
 refine Jq (q_load tb rfl rfl bxo rfl) ?_
 refine Jq (q_add rfl rfl (by first | exact IntWalk.i64_in _ (by omega) | rfl)) ?_
 refine Jq (by first | exact q_build tb rfl rfl rfl rfl | exact q_buildArr tb rfl rfl rfl rfl rfl) ?_
 refine L_st tb rfl rfl ?_
 refine L_then ?_
 refine C_ret ?_
 exact ret_of (resC tb rfl rfl rfl m0 rfl) sub_nil (by intro r hr; cases hr) ⟨rfl, rfl⟩
set_option maxRecDepth 100000 in
set_option maxHeartbeats 4000000 in
theorem ct_tissue_Ceiling (v u : Value) (f : Int) (ts : List Cp) (ls : List Ld) (hle : ts.length ≤ 1000000) (hle2 : ls.length ≤ 1000000) : Ct Tryz.prog 70 [v, u, .int .i64 f] [(v, 4, ts.map cCp), (u, 4, ls.map cLd)] (isV (.tuple #[.agg (cRg (ceilE ts ls f).1).toArray, .int .i64 (ceilE ts ls f).2])) := by
 refine Ct.of (N := 73) Tryz.func70 rfl rfl rfl fun w => ?_
 refine C_weak (E' := [(0, v), (1, u), (2, .int .i64 f)]) (rs' := [rd v 4 (ts.map cCp), rd u 4 (ls.map cLd)]) ⟨rfl, rfl, rfl, trivial⟩ (fun _ h => h) ?_
 have hl := len_map cCp ts
 have hl2 := len_map cLd ls
 refine C_seq ?_
 refine C_region ?_
 refine L_alloc tb rfl rfl fun g6 => ?_
 refine Jq (q_assign rfl) ?_
 refine L_then ?_
 refine C_seq ?_
 refine C_seq ?_
 refine C_region ?_
 refine Jq (q_move rfl) ?_
 refine Jq (q_move rfl) ?_
 refine L_call tb rfl rfl (ct_tissue_CheckLoads _ _ _ _ (by omega) (by omega)) (ps_cons gvo (ps_cons gvo no_ps)) rfl ?_
 refine Jq (q_assign rfl) ?_
 refine L_then ?_
 refine C_seq ?_
 refine C_region ?_
 refine Jq (q_move rfl) ?_
 refine Jq (q_neq rfl rfl) ?_
 refine L_then ?_
 refine C_dec rfl (fun h1 => ?_) (fun h1 => ?_)
 refine C_seq ?_
 refine C_region ?_
 refine Jq (by first | exact q_build tb rfl rfl rfl rfl | exact q_buildArr tb rfl rfl rfl rfl rfl) ?_
 refine Jq (q_move rfl) ?_
 refine L_st tb rfl rfl ?_
 refine Jq (q_assign rfl) ?_
 refine L_then ?_
 refine C_ret ?_
 rw [ceilE_1 h1]
 exact ret_of (resCT tb rfl rfl rfl rfl m0 rfl) sub_nil (by intro r hr; cases hr) ⟨rfl, rfl⟩
 refine C_skip_then ?_
 refine C_seq ?_
 refine C_seq ?_
 refine C_region ?_
 refine Jq (q_move rfl) ?_
 refine L_call tb rfl rfl (ct_tissue_isFactor _) no_ps rfl ?_
 refine Jq (q_not rfl decide_not.symm) ?_
 refine L_then ?_
 refine C_dec rfl (fun h2 => ?_) (fun h2 => ?_)
 refine C_seq ?_
 refine C_region ?_
 refine Jq (by first | exact q_build tb rfl rfl rfl rfl | exact q_buildArr tb rfl rfl rfl rfl rfl) ?_
 refine L_st tb rfl rfl ?_
 refine Jq (q_assign rfl) ?_
 refine L_then ?_
 refine C_ret ?_
 rw [ceilE_2 h1 h2]
 exact ret_of (resCT tb rfl rfl rfl rfl m0 rfl) sub_nil (by intro r hr; cases hr) ⟨rfl, rfl⟩
 have hk := ckLoads_ok (Decidable.not_not.1 h1)
 have h2 := Decidable.not_not.1 h2
 have hkl2 := hk.len
 refine C_skip_then ?_
 refine C_seq ?_
 refine C_region ?_
 refine L_alloc tb rfl rfl fun g9 => ?_
 refine L_then ?_
 refine C_seq ?_
 refine C_seq ?_
 refine C_region ?_
 refine Jq (q_move rfl) ?_
 refine Jq (q_len tb rfl rfl gvo) ?_
 refine Jq (q_move rfl) ?_
 refine L_then ?_
 refine C_block ?_
 refine C_loop (ι := Nat × Rg) (fun p => ([(1, u), (2, .int .i64 f), (6, .pointer (some ⟨g6, 0, none⟩)), (9, .pointer (some ⟨g9, 0, none⟩)), (26, v), (27, .int .i64 (ts.map cCp).length), (28, .int .i64 (p.1 : Int))], [box g9 122 (cRg p.2), box g6 122 [.int .i64 0, .int .i64 0], rd v 4 (ts.map cCp), rd u 4 (ls.map cLd)])) (fun p => p.1 ≤ ts.length ∧ ceilF f (ts.drop p.1) (ls.drop p.1) p.2 = ceilF f ts ls ⟨0, 0⟩) (fun p => ts.length - p.1) (0, ⟨0, 0⟩) ⟨Nat.zero_le _, rfl⟩ (fun a w hs => hs.weak ⟨rfl, rfl, rfl, rfl, rfl, rfl, rfl, trivial⟩ (fun h => h.sub (by repeat (first | exact List.Sublist.refl _ | apply List.Sublist.cons_cons | apply List.Sublist.cons)))) ?_
 rintro ⟨k, r⟩ ⟨hkl, hf⟩
 dsimp only at hkl hf ⊢
 refine C_seq ?_
 refine C_region ?_
 refine Jq (q_lss rfl rfl) ?_
 refine L_then ?_
 refine C_seq ?_
 refine C_dec rfl (fun h3 => ?_) (fun h3 => ?_)
 obtain ⟨c, hec⟩ := get_some ts (k := k) (by omega); obtain ⟨x, hex⟩ := get_some ls (k := k) (by omega); have helc := map_get cCp hec; have helx := map_get cLd hex; have hck := hk.c c (List.mem_of_getElem? hec); have hxi := hk.x x (List.mem_of_getElem? hex); have x1 := hxi.1.a; have x2 := hxi.1.b; have x3 := hxi.1.c; have x4 := hxi.1.e; have x5 := hxi.2.a; have x6 := hxi.2.b; have x7 := hxi.2.c; have x8 := hxi.2.e; have hi0 := lim_in hck (p := 0) (by omega) h2; have hi1 := lim_in hck (p := 1) (by omega) h2; have hri := lim_rise c f; have hrb := rise_in hck h2
 refine C_skip_then ?_
 refine C_seq ?_
 refine C_block ?_
 refine C_seq ?_
 refine C_region ?_
 refine Jq (q_move rfl) ?_
 refine Jq (by first | exact q_index tb rfl rfl rfl rfl gvo (by omega) (by first | omega | (simp; done) | (simp; omega)) | exact q_indexP tb rfl rfl rfl rfl (by omega) (by omega)) ?_
 refine Jq (q_loadEA tb rfl rfl gvo (i := k) (o := 0) (by omega) helc rfl rfl) ?_
 refine L_alloc tb rfl rfl fun g11 => ?_
 refine Jq (q_assign rfl) ?_
 refine L_st tb rfl rfl ?_
 refine L_then ?_
 refine C_seq ?_
 refine C_draw (n := 12) [(0, false), (1, false), (3, false), (4, false), (6, false), (7, false), (2, true), (5, true), (8, true), (9, false), (10, false), (11, false)] mixed (by kernel_rfl) ?_
 refine Yq rfl (q_loadA tb rfl rfl bxo rfl rfl) ?_
 refine Yq rfl (q_move rfl) ?_
 refine Yq rfl (q_loadA tb rfl rfl bxo rfl rfl) ?_
 refine Yq rfl (q_move rfl) ?_
 refine Yq rfl (q_loadA tb rfl rfl bxo rfl rfl) ?_
 refine Yq rfl (q_move rfl) ?_
 refine W_call tb rfl rfl rfl rfl (ct_tissue_limit c 0 f hck (by omega) h2) no_ps rfl ?_
 refine W_call tb rfl rfl rfl rfl (ct_tissue_limit c 1 f hck (by omega) h2) no_ps rfl ?_
 refine W_call tb rfl rfl rfl rfl (ct_tissue_limit c 0 f hck (by omega) h2) no_ps rfl ?_
 refine Yq rfl (q_sub rfl rfl (by first | exact IntWalk.i64_in _ (by omega) | rfl)) ?_
 refine Yq rfl (q_assign rfl) ?_
 refine Yq rfl (q_assign rfl) ?_
 refine W_nil ?_
 refine L_then ?_
 refine C_seq ?_
 refine C_region ?_
 refine Jq (q_move rfl) ?_
 refine Jq (q_move rfl) ?_
 refine Jq (by first | exact q_index tb rfl rfl rfl rfl gvo (by omega) (by first | omega | (simp; done) | (simp; omega)) | exact q_indexP tb rfl rfl rfl rfl (by omega) (by omega)) ?_
 refine Jq (q_loadEA tb rfl rfl gvo (i := k) (o := 0) (by omega) helx rfl rfl) ?_
 refine L_call tb rfl rfl (ct_tissue_total x hxi) no_ps rfl ?_
 refine L_alloc tb rfl rfl fun g14 => ?_
 refine L_st tb rfl rfl ?_
 refine L_then ?_
 refine C_draw (n := 23) [(0, false), (1, false), (2, false), (3, false), (4, false), (5, false), (6, false), (7, false), (8, false), (11, false), (12, false), (13, false), (14, false), (15, false), (16, false), (17, false), (18, false), (19, false), (9, true), (10, false), (20, true), (21, false), (22, false)] mixed (by kernel_rfl) ?_
 refine Yq rfl (q_field tb rfl rfl rfl) ?_
 refine Yq rfl (q_load tb rfl rfl bxo rfl) ?_
 refine Yq rfl (q_field tb rfl rfl rfl) ?_
 refine Yq rfl (q_load tb rfl rfl bxo rfl) ?_
 refine Yq rfl (q_mul rfl rfl (by first | exact IntWalk.i64_in _ (by omega) | rfl)) ?_
 refine Yq rfl (q_move rfl) ?_
 refine Yq rfl (q_sub rfl rfl (by first | exact IntWalk.i64_in _ (by omega) | rfl)) ?_
 refine Yq rfl (q_max rfl rfl) ?_
 refine Yq rfl (q_move rfl) ?_
 refine Yq rfl (q_field tb rfl rfl rfl) ?_
 refine Yq rfl (q_load tb rfl rfl bxo rfl) ?_
 refine Yq rfl (q_field tb rfl rfl rfl) ?_
 refine Yq rfl (q_load tb rfl rfl bxo rfl) ?_
 refine Yq rfl (q_mul rfl rfl (by first | exact IntWalk.i64_in _ (by omega) | rfl)) ?_
 refine Yq rfl (q_move rfl) ?_
 refine Yq rfl (q_sub rfl rfl (by first | exact IntWalk.i64_in _ (by omega) | rfl)) ?_
 refine Yq rfl (q_max rfl rfl) ?_
 refine Yq rfl (q_move rfl) ?_
 refine W_call tb rfl rfl rfl rfl (ct_tissue_up (max 0 (1000 * (x.n.lo + x.h.lo) - limM c 0 f)) (limM c 1 f - limM c 0 f) (by omega)) no_ps rfl ?_
 refine Yq rfl (q_max rfl rfl) ?_
 refine W_call tb rfl rfl rfl rfl (ct_tissue_up (max 0 (1000 * (x.n.hi + x.h.hi) - limM c 0 f)) (limM c 1 f - limM c 0 f) (by omega)) no_ps rfl ?_
 refine Yq rfl (q_max rfl rfl) ?_
 refine Yq rfl (by first | exact q_build tb rfl rfl rfl rfl | exact q_buildArr tb rfl rfl rfl rfl rfl) ?_
 refine W_nil ?_
 refine L_st tb rfl rfl ?_
 refine L_blk ?_
 refine C_region ?_
 refine Jq (q_add rfl rfl (by first | exact IntWalk.i64_in _ (by omega) | rfl)) ?_
 refine Jq (q_move rfl) ?_
 refine L_end ?_
 exact fun ac_ wo_ hs_ => ⟨(k + 1, ⟨_, _⟩), ⟨by dsimp only; omega, by rw [← hf, ceilF_step hec hex]⟩, (by dsimp only; omega), hs_.weak ⟨rfl, rfl, rfl, rfl, rfl, rfl, rfl, trivial⟩ (fun h => h.sub (by repeat (first | exact List.Sublist.refl _ | apply List.Sublist.cons_cons | apply List.Sublist.cons)))⟩
 have hkn : ts.length ≤ k := by omega
 rw [ceilF_end hkn] at hf
 subst hf
 refine C_exit ?_
 change C Tryz.prog _ _ _ _ _ _ _
 refine C_seq ?_
 refine C_region ?_
 refine Jq (q_loadA tb rfl rfl bxo rfl rfl) ?_
 refine L_st tb rfl rfl ?_
 refine Jq (q_assign rfl) ?_
 refine L_then ?_
 refine C_ret ?_
 rw [ceilE_3 h1 h2]
 exact ret_of (resCT tb rfl rfl rfl rfl m0 rfl) sub_nil (by intro r hr; cases hr) ⟨rfl, rfl⟩
set_option maxRecDepth 100000 in
theorem ct_tissue_Loaded (v u : Value) (x : Lg) (f : Int) (ts : List Cp) (ls : List Ld) (hle : ts.length ≤ 1000000) (hle2 : ls.length ≤ 1000000) : Ct Tryz.prog 66 [v, u, .agg (cLg x).toArray, .int .i64 f] [(v, 4, ts.map cCp), (u, 4, ls.map cLd)] (isSlN 134 4 ((loadedE ts ls x f).1.map cLd) (.int .i64 (loadedE ts ls x f).2)) := by
 refine Ct.of (N := 31) Tryz.func66 rfl rfl rfl fun w => ?_
 refine C_weak (E' := [(0, v), (1, u), (2, .agg (cLg x).toArray), (3, .int .i64 f)]) (rs' := [rd v 4 (ts.map cCp), rd u 4 (ls.map cLd)]) ⟨rfl, rfl, rfl, rfl, trivial⟩ (fun _ h => h) ?_
 refine C_seq ?_
 refine C_region ?_
 refine L_box rfl rfl rfl fun g6 => ?_
 refine Jq (q_assign rfl) ?_
 refine Jq (q_assign rfl) ?_
 refine L_then ?_
 refine C_seq ?_
 refine C_seq ?_
 refine C_region ?_
 refine Jq (q_move rfl) ?_
 refine Jq (q_move rfl) ?_
 refine L_call tb rfl rfl (ct_tissue_CheckLoads _ _ ts ls hle hle2) (ps_cons gvo (ps_cons gvo no_ps)) rfl ?_
 refine Jq (q_assign rfl) ?_
 refine L_then ?_
 refine C_seq ?_
 refine C_region ?_
 refine Jq (q_move rfl) ?_
 refine Jq (q_neq rfl rfl) ?_
 refine L_then ?_
 refine C_dec rfl (fun h1 => ?_) (fun h1 => ?_)
 refine C_seq ?_
 refine C_region ?_
 refine Jq (q_move rfl) ?_
 refine Jq (q_assign rfl) ?_
 refine Jq (q_assign rfl) ?_
 refine L_then ?_
 refine C_ret ?_
 rw [loadedE_1 h1]
 exact ret_of (rs' := [sl (.slice none 0 0) 134 4 []]) (res2 rfl rfl rfl) (fun w_ h_ => ws_nil (sub_nil w_ h_)) own1 ⟨_, rfl, rfl⟩
 refine C_skip_then ?_
 refine C_seq ?_
 refine C_seq ?_
 refine C_region ?_
 refine Jq (q_loadA tb rfl rfl bxo rfl rfl) ?_
 refine L_call tb rfl rfl (ct_tissue_CheckLeg x) no_ps rfl ?_
 refine Jq (q_assign rfl) ?_
 refine L_then ?_
 refine C_seq ?_
 refine C_region ?_
 refine Jq (q_move rfl) ?_
 refine Jq (q_neq rfl rfl) ?_
 refine L_then ?_
 refine C_dec rfl (fun h2 => ?_) (fun h2 => ?_)
 refine C_seq ?_
 refine C_region ?_
 refine Jq (q_move rfl) ?_
 refine Jq (q_assign rfl) ?_
 refine Jq (q_assign rfl) ?_
 refine L_then ?_
 refine C_ret ?_
 rw [loadedE_2 h1 h2]
 exact ret_of (rs' := [sl (.slice none 0 0) 134 4 []]) (res2 rfl rfl rfl) (fun w_ h_ => ws_nil (sub_nil w_ h_)) own1 ⟨_, rfl, rfl⟩
 refine C_skip_then ?_
 refine C_seq ?_
 refine C_seq ?_
 refine C_region ?_
 refine Jq (q_move rfl) ?_
 refine L_call tb rfl rfl (ct_tissue_isFine _) no_ps rfl ?_
 refine Jq (q_not rfl decide_not.symm) ?_
 refine L_then ?_
 refine C_dec rfl (fun h3 => ?_) (fun h3 => ?_)
 refine C_seq ?_
 refine C_region ?_
 refine Jq (q_assign rfl) ?_
 refine Jq (q_assign rfl) ?_
 refine L_then ?_
 refine C_ret ?_
 rw [loadedE_3 h1 h2 h3]
 exact ret_of (rs' := [sl (.slice none 0 0) 134 4 []]) (res2 rfl rfl rfl) (fun w_ h_ => ws_nil (sub_nil w_ h_)) own1 ⟨_, rfl, rfl⟩
 have hk := ckLoads_ok (Decidable.not_not.1 h1)
 have hkb := hk.b
 obtain ⟨n, rfl⟩ := Int.eq_ofNat_of_zero_le (show 0 ≤ f by omega)
 refine C_skip_then ?_
 refine C_seq ?_
 refine C_region ?_
 refine Jq (q_move rfl) ?_
 refine Jq (q_move rfl) ?_
 refine Jq (q_loadA tb rfl rfl bxo rfl rfl) ?_
 refine Jq (q_move rfl) ?_
 refine L_callS tb rfl rfl (ct_tissue_loaded _ _ x n ts ls (by omega) (ckLeg_ok (Decidable.not_not.1 h2)).1 hk.len (by omega) hk.c hk.x) (ps_cons gvo (ps_cons gvo no_ps)) rfl fun v30 => ?_
 refine Jq (q_assign rfl) ?_
 refine Jq (q_assign rfl) ?_
 refine L_then ?_
 refine C_ret ?_
 rw [loadedE_4 h1 h2 (show n ≤ 6 by omega)]
 exact ret_of (rs' := [sl v30 134 4 ((loadedM ts ls x n).map cLd)]) (res2 rfl rfl rfl) (fun _ h => h.sub (by repeat (first | exact List.Sublist.refl _ | apply List.Sublist.cons_cons | apply List.Sublist.cons))) own1 ⟨_, rfl, rfl⟩
end Go.Proofs.YtacndicgpkeobaaGreatDoor
