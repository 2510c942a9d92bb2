/-
  Walks: each function named returns what its model says. Conditions: those in front of each theorem.
-/
import Derived.Test.YthilaakeimfedaaGreatDoorAs14
import Derived.Test.YthilaakeimfedaaGreatDoorLH
namespace Go.Proofs.YthilaakeimfedaaGreatDoor
open Go.RowKit

set_option maxRecDepth 100000 in
set_option maxHeartbeats 4000000 in
theorem ct_shotlinetop_TopStaysAccepted (v u z : Value) (x : Asc) (i0 s : Int) : CtQ KQ Tryz.prog 16 [.agg (cAt v u z x).toArray, .int .i64 i0, .int .i64 s] [(v, 4, x.ts.map cCp), (u, 4, x.ls.map cLd), (z, 3, x.gs.map cAg)] (isV (.bool true)) := by
 refine CtQ.of (N := 233) Tryz.func16 rfl rfl rfl fun w hQ => ?_
 refine C_weak (E' := [(0, .agg (cAt v u z x).toArray), (1, .int .i64 i0), (2, .int .i64 s)]) (rs' := [rd v 4 (x.ts.map cCp), rd u 4 (x.ls.map cLd), rd z 3 (x.gs.map cAg)]) ⟨rfl, rfl, rfl, trivial⟩ (fun _ h => h) ?_
 have hl1 := len_map cCp x.ts
 have hl2 := len_map cLd x.ls
 have hl3 := len_map cAg x.gs
 refine C_form (v := v) gvo (fun Av cv hv _ => ?_)
 subst hv
 refine C_form (v := u) gvo (fun Au cu hu _ => ?_)
 subst hu
 refine C_form (v := z) gvo (fun Az cz hz _ => ?_)
 subst hz
 refine C_seq ?_
 refine C_region ?_
 refine L_box rfl rfl rfl fun g3 => ?_
 refine Jq (q_assign rfl) ?_
 refine L_then ?_
 refine C_seq ?_
 refine C_seq ?_
 refine C_region ?_
 refine L_lo rfl rfl rfl (lo_callQ tb stQ hQ rfl rfl (ct_shotlinetop_risen) no_ps isV_sinks) ?_
 rintro _ _ ⟨rfl, rfl⟩
 refine Jq (q_not rfl rfl) ?_
 refine L_then ?_
 refine C_false rfl ?_
 refine C_skip_then ?_
 refine C_seq ?_
 refine C_seq ?_
 refine C_region ?_
 refine Jq (q_loadA tb rfl rfl bxo rfl rfl) ?_
 refine L_call tb rfl rfl (ct_shotlinelaw04_Light _ _ _ x) (ps_cons gvo (ps_cons gvo (ps_cons gvo no_ps))) rfl ?_
 refine Jq (q_not rfl decide_not.symm) ?_
 refine Jq (q_move rfl) ?_
 refine L_dec (d := 30) rfl (fun hl => ?_) (fun hl => ?_)
 iterate 3 refine Jk ?_
 refine Jq (q_pickT rfl rfl) ?_
 refine Jq (q_move rfl) ?_
 iterate 3 refine Jk ?_
 refine Jq (q_pickT rfl rfl) ?_
 refine L_then ?_
 refine C_true rfl ?_
 refine C_seq ?_
 refine C_region ?_
 refine Jq (q_assign rfl) ?_
 refine L_then ?_
 refine C_ret ?_
 exact ret_of (res1 rfl rfl) sub_nil (by intro r hr; cases hr) ⟨rfl, rfl⟩
 have hL := light_len (Decidable.not_not.1 hl)
 refine Jg (q_loadA tb rfl rfl bxo rfl rfl) ?_
 refine L_callg tb rfl rfl rfl rfl rfl rfl (ct_shotlineref04_CheckTask _ _ _ x (by omega) (by omega) (by omega)) (ps_cons gvo (ps_cons gvo (ps_cons gvo no_ps))) rfl ?_
 refine Jg (q_neq rfl rfl) ?_
 refine Jq (q_pickF rfl rfl) ?_
 refine Jq (q_move rfl) ?_
 refine L_dec (d := 35) rfl (fun hck => ?_) (fun hck => ?_)
 iterate 3 refine Jk ?_
 refine Jq (q_pickT rfl rfl) ?_
 refine L_then ?_
 refine C_true rfl ?_
 refine C_seq ?_
 refine C_region ?_
 refine Jq (q_assign rfl) ?_
 refine L_then ?_
 refine C_ret ?_
 exact ret_of (res1 rfl rfl) sub_nil (by intro r hr; cases hr) ⟨rfl, rfl⟩
 refine Jg (q_move rfl) ?_
 refine L_callg tb rfl rfl rfl rfl rfl rfl (ct_shotlinebase_Within s 1 100000) no_ps rfl ?_
 refine Jg (q_not rfl decide_not.symm) ?_
 refine Jq (q_pickF rfl rfl) ?_
 refine L_then ?_
 refine C_dec rfl (fun hw => ?_) (fun hw => ?_)
 refine C_seq ?_
 refine C_region ?_
 refine Jq (q_assign rfl) ?_
 refine L_then ?_
 refine C_ret ?_
 exact ret_of (res1 rfl rfl) sub_nil (by intro r hr; cases hr) ⟨rfl, rfl⟩
 have hwi := Decidable.not_not.1 hw
 refine C_skip_then ?_
 refine C_seq ?_
 refine C_region ?_
 refine Jq (q_loadA tb rfl rfl bxo rfl rfl) ?_
 refine L_lo rfl rfl rfl (lo_call tb rfl rfl (ct_ascent_Generate _ _ _ x (by omega) (by omega) (by omega)) (ps_cons gvo (ps_cons gvo (ps_cons gvo no_ps))) isSc_sinks) ?_
 rintro _ _ ⟨A42, n42, c42, B42, m42, d42, rfl, rfl⟩
 refine Jq (q_move rfl) ?_
 refine Jq (q_ext0 rfl) ?_
 refine Jq (q_ext1 rfl) ?_
 refine L_alloc tb rfl rfl fun g7 => ?_
 refine L_st tb rfl rfl ?_
 refine Jq (q_assign rfl) ?_
 refine L_then ?_
 refine C_seq ?_
 refine C_seq ?_
 refine C_region ?_
 refine Jq (q_move rfl) ?_
 refine Jq (q_neq rfl rfl) ?_
 refine Jq (q_move rfl) ?_
 refine L_dec (d := 47) rfl (fun he => ?_) (fun he => ?_)
 rw [gn_bad he]
 iterate 4 refine Jk ?_
 refine Jq (q_pickT rfl rfl) ?_
 refine Jq (q_move rfl) ?_
 iterate 4 refine Jk ?_
 refine Jq (q_pickT rfl rfl) ?_
 refine Jq (q_move rfl) ?_
 iterate 7 refine Jk ?_
 refine Jq (q_pickT rfl rfl) ?_
 refine L_then ?_
 refine C_true rfl ?_
 refine C_seq ?_
 refine C_region ?_
 refine Jq (q_move rfl) ?_
 refine Jq (q_true (q_neq rfl rfl) (decide_eq_true he)) ?_
 refine Jq (q_move rfl) ?_
 iterate 7 refine Jk ?_
 refine Jq (q_pickT rfl rfl) ?_
 refine Jq (q_move rfl) ?_
 iterate 4 refine Jk ?_
 refine Jq (q_pickT rfl rfl) ?_
 refine Jq (q_move rfl) ?_
 iterate 4 refine Jk ?_
 refine Jq (q_pickT rfl rfl) ?_
 refine Jq (q_assign rfl) ?_
 refine L_then ?_
 refine C_ret ?_
 exact ret_of (res1 rfl rfl) sub_nil (by intro r hr; cases hr) ⟨rfl, rfl⟩
 obtain ⟨hz, he0⟩ := gn_ok (Decidable.not_not.1 he)
 rw [gnE_2 hz]
 have H := ckAsc_ok hz
 have hgS := (gen_chk H he0).1
 rw [he0]
 obtain ⟨L, hLe⟩ : ∃ L, L = (genA x).1.1 := ⟨_, rfl⟩
 obtain ⟨F, hFe⟩ : ∃ F, F = (genA x).1.2 := ⟨_, rfl⟩
 rw [← hLe, ← hFe] at hgS ⊢
 have hSn := hgS.n; have hSl := hgS.l
 have hl4 := len_map cDl L; have hl5 := len_map cI F
 have hbl := beh_len H; have hrf := H.r.fi
 refine Jg (q_field tb rfl rfl rfl) ?_
 refine Jg (q_load tb rfl rfl bxo rfl) ?_
 refine Jg (q_len tb rfl rfl gvo) ?_
 refine Jg (q_eql rfl rfl) ?_
 refine Jq (q_pickF rfl rfl) ?_
 refine Jq (q_move rfl) ?_
 refine L_dec (d := 53) rfl (fun h53 => ?_) (fun h53 => ?_)
 iterate 4 refine Jk ?_
 refine Jq (q_pickT rfl rfl) ?_
 refine Jq (q_move rfl) ?_
 iterate 7 refine Jk ?_
 refine Jq (q_pickT rfl rfl) ?_
 refine L_then ?_
 refine C_true rfl ?_
 refine C_seq ?_
 refine C_region ?_
 refine Jq (q_move rfl) ?_
 refine Jq (q_false (q_neq rfl rfl) (decide_eq_false fun h => h rfl)) ?_
 refine Jq (q_move rfl) ?_
 refine Jg (q_field tb rfl rfl rfl) ?_
 refine Jg (q_load tb rfl rfl bxo rfl) ?_
 refine Jg (q_len tb rfl rfl gvo) ?_
 refine Jg (q_field tb rfl rfl rfl) ?_
 refine Jg (q_load tb rfl rfl bxo rfl) ?_
 refine Jg (q_len tb rfl rfl gvo) ?_
 refine Jg (q_false (q_neq rfl rfl) (decide_eq_false fun h => h (by rw [hl4, hl5, hSl]))) ?_
 refine Jq (q_pickF rfl rfl) ?_
 refine Jq (q_move rfl) ?_
 refine Jg (q_field tb rfl rfl rfl) ?_
 refine Jg (q_load tb rfl rfl bxo rfl) ?_
 refine Jg (q_len tb rfl rfl gvo) ?_
 refine Jg (q_true (q_eql rfl rfl) (decide_eq_true h53)) ?_
 refine Jq (q_pickF rfl rfl) ?_
 refine Jq (q_move rfl) ?_
 iterate 4 refine Jk ?_
 refine Jq (q_pickT rfl rfl) ?_
 refine Jq (q_assign rfl) ?_
 refine L_then ?_
 refine C_ret ?_
 exact ret_of (res1 rfl rfl) sub_nil (by intro r hr; cases hr) ⟨rfl, rfl⟩
 refine Jg (q_field tb rfl rfl rfl) ?_
 refine Jg (q_load tb rfl rfl bxo rfl) ?_
 refine Jg (q_len tb rfl rfl gvo) ?_
 refine Jg (q_gtr rfl rfl) ?_
 refine Jq (q_pickF rfl rfl) ?_
 refine Jq (q_move rfl) ?_
 refine L_dec (d := 59) rfl (fun h59 => ?_) (fun h59 => ?_)
 iterate 7 refine Jk ?_
 refine Jq (q_pickT rfl rfl) ?_
 refine L_then ?_
 refine C_true rfl ?_
 refine C_seq ?_
 refine C_region ?_
 refine Jq (q_move rfl) ?_
 refine Jq (q_false (q_neq rfl rfl) (decide_eq_false fun h => h rfl)) ?_
 refine Jq (q_move rfl) ?_
 refine Jg (q_field tb rfl rfl rfl) ?_
 refine Jg (q_load tb rfl rfl bxo rfl) ?_
 refine Jg (q_len tb rfl rfl gvo) ?_
 refine Jg (q_field tb rfl rfl rfl) ?_
 refine Jg (q_load tb rfl rfl bxo rfl) ?_
 refine Jg (q_len tb rfl rfl gvo) ?_
 refine Jg (q_false (q_neq rfl rfl) (decide_eq_false fun h => h (by rw [hl4, hl5, hSl]))) ?_
 refine Jq (q_pickF rfl rfl) ?_
 refine Jq (q_move rfl) ?_
 refine Jg (q_field tb rfl rfl rfl) ?_
 refine Jg (q_load tb rfl rfl bxo rfl) ?_
 refine Jg (q_len tb rfl rfl gvo) ?_
 refine Jg (q_false (q_eql rfl rfl) (decide_eq_false h53)) ?_
 refine Jq (q_pickF rfl rfl) ?_
 refine Jq (q_move rfl) ?_
 refine Jg (q_field tb rfl rfl rfl) ?_
 refine Jg (q_load tb rfl rfl bxo rfl) ?_
 refine Jg (q_len tb rfl rfl gvo) ?_
 refine Jg (q_true (q_gtr rfl rfl) (decide_eq_true h59)) ?_
 refine Jq (q_pickF rfl rfl) ?_
 refine Jq (q_assign rfl) ?_
 refine L_then ?_
 refine C_ret ?_
 exact ret_of (res1 rfl rfl) sub_nil (by intro r hr; cases hr) ⟨rfl, rfl⟩
 refine Jg (q_field tb rfl rfl rfl) ?_
 refine Jg (q_load tb rfl rfl bxo rfl) ?_
 refine Jg (q_len tb rfl rfl gvo) ?_
 refine Jg (q_field tb rfl rfl rfl) ?_
 refine Jg (q_load tb rfl rfl bxo rfl) ?_
 refine Jg (q_len tb rfl rfl gvo) ?_
 refine Jg (q_neq rfl rfl) ?_
 refine Jq (q_pickF rfl rfl) ?_
 refine L_then ?_
 refine C_dec rfl (fun h67 => ?_) (fun h67 => ?_)
 exact absurd (by rw [hl4, hl5, hSl]) h67
 have hL0 : L.length ≠ 0 := by omega
 have hm1 := Int.emod_nonneg i0 (show (L.length : Int) ≠ 0 by omega)
 have hm2 := Int.emod_lt_of_pos i0 (show 0 < (L.length : Int) by omega)
 obtain ⟨i, hi⟩ := Int.eq_ofNat_of_zero_le hm1
 rw [hi] at hm2
 obtain ⟨z9, f9z, hlz, _, _⟩ := sch_at hgS (k := i) (by omega); have helz := map_get cDl hlz
 have hI := ins_ok H he0 hLe hFe (i := i) (z := z9) (s := s) (by omega) hlz hwi
 refine C_skip_then ?_
 refine C_seq ?_
 refine C_region ?_
 refine Jq (q_move rfl) ?_
 refine Jq (q_field tb rfl rfl rfl) ?_
 refine Jq (q_load tb rfl rfl bxo rfl) ?_
 refine Jq (q_len tb rfl rfl gvo) ?_
 refine L_call tb rfl rfl (ct_shotlinebase_Mod i0 ((L.map cDl).length : Int) (by omega)) no_ps rfl ?_
 rw [hl4, hi]
 refine Jq (q_assign rfl) ?_
 refine L_then ?_
 refine C_seq ?_
 refine C_region ?_
 refine Jq (q_field tb rfl rfl rfl) ?_
 refine Jq (q_load tb rfl rfl bxo rfl) ?_
 refine Jq (q_move rfl) ?_
 refine Jq (by first | exact q_index tb rfl rfl rfl rfl gvo (by omega) (by first | omega | (simp; done) | (simp; omega)) | exact q_indexP tb rfl rfl rfl rfl (by omega) (by omega)) ?_
 refine Jq (q_loadEA tb rfl rfl gvo (i := i) (o := 0) (by omega) helz rfl rfl) ?_
 refine L_alloc tb rfl rfl fun g10 => ?_
 refine L_st tb rfl rfl ?_
 refine L_then ?_
 refine C_seq ?_
 refine C_region ?_
 refine Jq (q_move rfl) ?_
 refine Jq (q_field tb rfl rfl rfl) ?_
 refine L_st tb rfl rfl ?_
 refine L_then ?_
 refine C_seq ?_
 refine C_region ?_
 refine L_alloc tb rfl rfl fun g11 => ?_
 refine L_then ?_
 refine C_seq ?_
 refine C_seq ?_
 refine C_region ?_
 refine Jq (q_assign rfl) ?_
 refine L_then ?_
 refine C_block ?_
 refine C_nil 3 1 ?_
 refine C_nil 51 3 ?_
 refine C_loop (ι := Nat × List Dl × List Int × Value × Value) (fun q => ([(2, .int .i64 s), (3, .pointer (some ⟨g3, 0, none⟩)), (7, .pointer (some ⟨g7, 0, none⟩)), (9, .int .i64 (i : Int)), (10, .pointer (some ⟨g10, 0, none⟩)), (11, .pointer (some ⟨g11, 0, none⟩)), (12, .int .i64 (q.1 : Int))], [sl q.2.2.2.1 51 3 (q.2.1.map cDl), sl q.2.2.2.2 3 1 (q.2.2.1.map cI), box g11 74 [q.2.2.2.1, q.2.2.2.2], sl (.slice A42 n42 c42) 51 3 (L.map cDl), sl (.slice B42 m42 d42) 3 1 (F.map cI), box g7 74 [(.slice A42 n42 c42), (.slice B42 m42 d42)], box g10 51 (cDl (⟨s, z9.d, z9.g⟩ : Dl)), box g3 28 (cAt (.slice Av (x.ts.map cCp).length cv) (.slice Au (x.ls.map cLd).length cu) (.slice Az (x.gs.map cAg).length cz) x), rd (.slice Av (x.ts.map cCp).length cv) 4 (x.ts.map cCp), rd (.slice Au (x.ls.map cLd).length cu) 4 (x.ls.map cLd), rd (.slice Az (x.gs.map cAg).length cz) 3 (x.gs.map cAg)])) (fun q => q.1 ≤ L.length ∧ q.2.1 = insA (dlA L) (⟨s, z9.d, z9.g⟩ : Dl) i q.1 ∧ q.2.2.1 = insA (fnL F) x.r.fi i q.1) (fun q => L.length - q.1) (0, [], [], .slice none 0 0, .slice none 0 0) ⟨Nat.zero_le _, rfl, rfl⟩ (fun a w hs => hs.weak ⟨rfl, rfl, rfl, rfl, rfl, rfl, rfl, trivial⟩ (fun h => h.pk (by repeat (first | with_reducible exact pk_nil | refine pk_box rfl ?_ | refine pk_rd rfl ?_ | refine pk_sl rfl ?_ | with_reducible refine pk_app ?_ | with_reducible refine pk_app0 ?_ | with_reducible refine pk_app0L ?_ | with_reducible exact pk_tl | refine pk_var ?_)))) ?_
 rintro ⟨k, M, G, a9, b9⟩ ⟨hk, hM, hG⟩
 dsimp only at hk hM hG ⊢
 have hMn : M.length ≤ 26 := by rw [hM, ins_len]; split <;> omega
 have hGn : G.length ≤ 26 := by rw [hG, ins_len]; split <;> omega
 refine C_form (v := a9) gvo (fun A8 c8 hv8 _ => ?_)
 subst hv8
 refine C_form (v := b9) gvo (fun A7 c7 hv7 _ => ?_)
 subst hv7
 have hlM := len_map cDl M; have hlG := len_map cI G
 refine C_seq ?_
 refine C_seq ?_
 refine C_region ?_
 refine Jq (q_move rfl) ?_
 refine Jq (q_field tb rfl rfl rfl) ?_
 refine Jq (q_load tb rfl rfl bxo rfl) ?_
 refine Jq (q_len tb rfl rfl gvo) ?_
 refine Jq (q_lss rfl rfl) ?_
 refine L_then ?_
 refine C_dec rfl (fun h14 => ?_) (fun h14 => ?_)
 obtain ⟨y, f, he, hf9, han⟩ := sch_at hgS (k := k) (by omega); have hel := map_get cDl he; have hef := map_get cI hf9
 refine C_skip_then ?_
 refine C_seq ?_
 refine C_block ?_
 refine C_seq ?_
 refine Kp.C_treeH2 (n := 19) (ι := Value × Value) (.q 0 (.q 1 (.q 2 (.q 3 (.q 4 (.q 5 (.q 6 (.q 9 (.q 10 (.q 11 (.q 12 (.q 13 (.q 14 (.q 15 (.s2 7 16 (.s2 8 16 (.q 18 (.s 16 (.s 17 .nil))) (.s 8 (.q 18 (.s 17 .nil)))) (.s 7 (.s 8 (.q 18 (.s 17 .nil))))))))))))))))))) (fun q => ([(2, .int .i64 s), (3, .pointer (some ⟨g3, 0, none⟩)), (7, .pointer (some ⟨g7, 0, none⟩)), (9, .int .i64 (i : Int)), (10, .pointer (some ⟨g10, 0, none⟩)), (11, .pointer (some ⟨g11, 0, none⟩)), (12, .int .i64 (k : Int)), (118, q.1), (127, q.2), (128, .pointer (some ⟨g11, 0, none⟩))], [sl q.1 51 3 ((M ++ [y]).map cDl), sl q.2 3 1 ((G ++ [f]).map cI), box g11 74 [(.slice A8 (M.map cDl).length c8), (.slice A7 (G.map cI).length c7)], sl (.slice A42 n42 c42) 51 3 (L.map cDl), sl (.slice B42 m42 d42) 3 1 (F.map cI), box g7 74 [(.slice A42 n42 c42), (.slice B42 m42 d42)], box g10 51 (cDl (⟨s, z9.d, z9.g⟩ : Dl)), box g3 28 (cAt (.slice Av (x.ts.map cCp).length cv) (.slice Au (x.ls.map cLd).length cu) (.slice Az (x.gs.map cAg).length cz) x), rd (.slice Av (x.ts.map cCp).length cv) 4 (x.ts.map cCp), rd (.slice Au (x.ls.map cLd).length cu) 4 (x.ls.map cLd), rd (.slice Az (x.gs.map cAg).length cz) 3 (x.gs.map cAg)])) mixed (by kernel_rfl) ?_ ?_
 refine Kp.Zq rfl (q_field tb rfl rfl rfl) ?_
 refine Kp.Zq rfl (q_load tb rfl rfl bxo rfl) ?_
 refine Kp.Zq rfl (q_field tb rfl rfl rfl) ?_
 refine Kp.Zq rfl (q_load tb rfl rfl bxo rfl) ?_
 refine Kp.Zq rfl (q_move rfl) ?_
 refine Kp.Zq rfl (by first | exact q_index tb rfl rfl rfl rfl gvo (by omega) (by first | omega | (simp; done) | (simp; omega)) | exact q_indexP tb rfl rfl rfl rfl (by omega) (by omega)) ?_
 refine Kp.Zq rfl (q_loadEA tb rfl rfl gvo (i := k) (o := 0) (by omega) hel rfl rfl) ?_
 refine Kp.Zq rfl (q_field tb rfl rfl rfl) ?_
 refine Kp.Zq rfl (q_load tb rfl rfl bxo rfl) ?_
 refine Kp.Zq rfl (q_field tb rfl rfl rfl) ?_
 refine Kp.Zq rfl (q_load tb rfl rfl bxo rfl) ?_
 refine Kp.Zq rfl (q_move rfl) ?_
 refine Kp.Zq rfl (by first | exact q_index tb rfl rfl rfl rfl gvo (by omega) (by first | omega | (simp; done) | (simp; omega)) | exact q_indexP tb rfl rfl rfl rfl (by omega) (by omega)) ?_
 refine Kp.Zq rfl (q_loadE tb rfl rfl gvo (i := k) (o := 0) (by omega) hef rfl) ?_
 refine Kp.Z_s2 ?_ ?_
 refine Kp.St_mk rfl rfl rfl rfl (lo_bslice tb rfl rfl rfl (xs := [cDl y]) rfl rfl (by simp [cDl]) rfl (by omega) rfl) fun v117 => ?_
 refine Kp.Z_s2 ?_ ?_
 first | refine Kp.St_append tb rfl rfl rfl (List.Perm.refl _) rfl rfl rfl (by omega) rfl rfl gvo (by simp [Value.oneCell', cDl]) (by simp [maxLen]; omega) (by simp; omega) fun v118 => ?_ | refine Kp.St_append tb rfl rfl rfl perm1 rfl rfl rfl (by omega) rfl rfl gvo (by simp [Value.oneCell', cDl]) (by simp [maxLen]; omega) (by simp; omega) fun v118 => ?_ | refine Kp.St_append tb rfl rfl rfl Kp.perm2 rfl rfl rfl (by omega) rfl rfl gvo (by simp [Value.oneCell', cDl]) (by simp [maxLen]; omega) (by simp; omega) fun v118 => ?_ | refine Kp.St_append tb rfl rfl rfl Kp.perm3 rfl rfl rfl (by omega) rfl rfl gvo (by simp [Value.oneCell', cDl]) (by simp [maxLen]; omega) (by simp; omega) fun v118 => ?_ | refine Kp.St_append tb rfl rfl rfl (perm_front (pre := [_, _])) rfl rfl rfl (by omega) rfl rfl gvo (by simp [Value.oneCell', cDl]) (by simp [maxLen]; omega) (by simp; omega) fun v118 => ?_ | refine Kp.St_append tb rfl rfl rfl (perm_front (pre := [_, _, _])) rfl rfl rfl (by omega) rfl rfl gvo (by simp [Value.oneCell', cDl]) (by simp [maxLen]; omega) (by simp; omega) fun v118 => ?_ | refine Kp.St_append tb rfl rfl rfl (perm_front (pre := [_, _, _, _])) rfl rfl rfl (by omega) rfl rfl gvo (by simp [Value.oneCell', cDl]) (by simp [maxLen]; omega) (by simp; omega) fun v118 => ?_
 refine Kp.Zq rfl (q_field tb rfl rfl rfl) ?_
 refine Kp.Z_s ?_
 refine Kp.St_mk rfl rfl rfl rfl (lo_bslice tb rfl rfl rfl (xs := [[_]]) rfl rfl (by simp) rfl (by omega) rfl) fun v126 => ?_
 refine Kp.Z_s ?_
 first | refine Kp.St_append tb rfl rfl rfl (List.Perm.refl _) rfl rfl rfl (by omega) rfl rfl gvo (by simp [Value.oneCell']) (by simp [maxLen]; omega) (by simp; omega) fun v127 => ?_ | refine Kp.St_append tb rfl rfl rfl perm1 rfl rfl rfl (by omega) rfl rfl gvo (by simp [Value.oneCell']) (by simp [maxLen]; omega) (by simp; omega) fun v127 => ?_ | refine Kp.St_append tb rfl rfl rfl Kp.perm2 rfl rfl rfl (by omega) rfl rfl gvo (by simp [Value.oneCell']) (by simp [maxLen]; omega) (by simp; omega) fun v127 => ?_ | refine Kp.St_append tb rfl rfl rfl Kp.perm3 rfl rfl rfl (by omega) rfl rfl gvo (by simp [Value.oneCell']) (by simp [maxLen]; omega) (by simp; omega) fun v127 => ?_ | refine Kp.St_append tb rfl rfl rfl (perm_front (pre := [_, _])) rfl rfl rfl (by omega) rfl rfl gvo (by simp [Value.oneCell']) (by simp [maxLen]; omega) (by simp; omega) fun v127 => ?_ | refine Kp.St_append tb rfl rfl rfl (perm_front (pre := [_, _, _])) rfl rfl rfl (by omega) rfl rfl gvo (by simp [Value.oneCell']) (by simp [maxLen]; omega) (by simp; omega) fun v127 => ?_ | refine Kp.St_append tb rfl rfl rfl (perm_front (pre := [_, _, _, _])) rfl rfl rfl (by omega) rfl rfl gvo (by simp [Value.oneCell']) (by simp [maxLen]; omega) (by simp; omega) fun v127 => ?_
 refine Kp.Z_nil ?_
 try dsimp only [List.append, List.cons_append, List.nil_append]
 exact ⟨(v118, v127), fun a_ w_ hs_ => hs_.weak ⟨rfl, rfl, rfl, rfl, rfl, rfl, rfl, rfl, rfl, rfl, trivial⟩ (fun h_ => h_.pk (by repeat (first | with_reducible exact pk_nil | refine pk_box (by first | rfl | exact (dl_snoc _ _) | exact (ci_snoc _ _)) ?_ | refine pk_rd rfl ?_ | refine pk_sl (by first | rfl | exact (dl_snoc _ _) | exact (ci_snoc _ _)) ?_ | with_reducible refine pk_app ?_ | with_reducible refine pk_app0 ?_ | with_reducible refine pk_app0L ?_ | with_reducible exact pk_tl | refine pk_var ?_)))⟩
 refine Kp.St_mk rfl rfl rfl rfl (lo_bslice tb rfl rfl rfl (xs := [[_]]) rfl rfl (by simp) rfl (by omega) rfl) fun v126 => ?_
 refine Kp.Z_s ?_
 first | refine Kp.St_append tb rfl rfl rfl (List.Perm.refl _) rfl rfl rfl (by omega) rfl rfl gvo (by simp [Value.oneCell', cDl]) (by simp [maxLen]; omega) (by simp; omega) fun v118 => ?_ | refine Kp.St_append tb rfl rfl rfl perm1 rfl rfl rfl (by omega) rfl rfl gvo (by simp [Value.oneCell', cDl]) (by simp [maxLen]; omega) (by simp; omega) fun v118 => ?_ | refine Kp.St_append tb rfl rfl rfl Kp.perm2 rfl rfl rfl (by omega) rfl rfl gvo (by simp [Value.oneCell', cDl]) (by simp [maxLen]; omega) (by simp; omega) fun v118 => ?_ | refine Kp.St_append tb rfl rfl rfl Kp.perm3 rfl rfl rfl (by omega) rfl rfl gvo (by simp [Value.oneCell', cDl]) (by simp [maxLen]; omega) (by simp; omega) fun v118 => ?_ | refine Kp.St_append tb rfl rfl rfl (perm_front (pre := [_, _])) rfl rfl rfl (by omega) rfl rfl gvo (by simp [Value.oneCell', cDl]) (by simp [maxLen]; omega) (by simp; omega) fun v118 => ?_ | refine Kp.St_append tb rfl rfl rfl (perm_front (pre := [_, _, _])) rfl rfl rfl (by omega) rfl rfl gvo (by simp [Value.oneCell', cDl]) (by simp [maxLen]; omega) (by simp; omega) fun v118 => ?_ | refine Kp.St_append tb rfl rfl rfl (perm_front (pre := [_, _, _, _])) rfl rfl rfl (by omega) rfl rfl gvo (by simp [Value.oneCell', cDl]) (by simp [maxLen]; omega) (by simp; omega) fun v118 => ?_
 refine Kp.Zq rfl (q_field tb rfl rfl rfl) ?_
 refine Kp.Z_s ?_
 first | refine Kp.St_append tb rfl rfl rfl (List.Perm.refl _) rfl rfl rfl (by omega) rfl rfl gvo (by simp [Value.oneCell']) (by simp [maxLen]; omega) (by simp; omega) fun v127 => ?_ | refine Kp.St_append tb rfl rfl rfl perm1 rfl rfl rfl (by omega) rfl rfl gvo (by simp [Value.oneCell']) (by simp [maxLen]; omega) (by simp; omega) fun v127 => ?_ | refine Kp.St_append tb rfl rfl rfl Kp.perm2 rfl rfl rfl (by omega) rfl rfl gvo (by simp [Value.oneCell']) (by simp [maxLen]; omega) (by simp; omega) fun v127 => ?_ | refine Kp.St_append tb rfl rfl rfl Kp.perm3 rfl rfl rfl (by omega) rfl rfl gvo (by simp [Value.oneCell']) (by simp [maxLen]; omega) (by simp; omega) fun v127 => ?_ | refine Kp.St_append tb rfl rfl rfl (perm_front (pre := [_, _])) rfl rfl rfl (by omega) rfl rfl gvo (by simp [Value.oneCell']) (by simp [maxLen]; omega) (by simp; omega) fun v127 => ?_ | refine Kp.St_append tb rfl rfl rfl (perm_front (pre := [_, _, _])) rfl rfl rfl (by omega) rfl rfl gvo (by simp [Value.oneCell']) (by simp [maxLen]; omega) (by simp; omega) fun v127 => ?_ | refine Kp.St_append tb rfl rfl rfl (perm_front (pre := [_, _, _, _])) rfl rfl rfl (by omega) rfl rfl gvo (by simp [Value.oneCell']) (by simp [maxLen]; omega) (by simp; omega) fun v127 => ?_
 refine Kp.Z_nil ?_
 try dsimp only [List.append, List.cons_append, List.nil_append]
 exact ⟨(v118, v127), fun a_ w_ hs_ => hs_.weak ⟨rfl, rfl, rfl, rfl, rfl, rfl, rfl, rfl, rfl, rfl, trivial⟩ (fun h_ => h_.pk (by repeat (first | with_reducible exact pk_nil | refine pk_box (by first | rfl | exact (dl_snoc _ _) | exact (ci_snoc _ _)) ?_ | refine pk_rd rfl ?_ | refine pk_sl (by first | rfl | exact (dl_snoc _ _) | exact (ci_snoc _ _)) ?_ | with_reducible refine pk_app ?_ | with_reducible refine pk_app0 ?_ | with_reducible refine pk_app0L ?_ | with_reducible exact pk_tl | refine pk_var ?_)))⟩
 refine Kp.St_mk rfl rfl rfl rfl (lo_bslice tb rfl rfl rfl (xs := [[_]]) rfl rfl (by simp) rfl (by omega) rfl) fun v126 => ?_
 refine Kp.Z_s ?_
 refine Kp.St_mk rfl rfl rfl rfl (lo_bslice tb rfl rfl rfl (xs := [cDl y]) rfl rfl (by simp [cDl]) rfl (by omega) rfl) fun v117 => ?_
 refine Kp.Z_s ?_
 first | refine Kp.St_append tb rfl rfl rfl (List.Perm.refl _) rfl rfl rfl (by omega) rfl rfl gvo (by simp [Value.oneCell', cDl]) (by simp [maxLen]; omega) (by simp; omega) fun v118 => ?_ | refine Kp.St_append tb rfl rfl rfl perm1 rfl rfl rfl (by omega) rfl rfl gvo (by simp [Value.oneCell', cDl]) (by simp [maxLen]; omega) (by simp; omega) fun v118 => ?_ | refine Kp.St_append tb rfl rfl rfl Kp.perm2 rfl rfl rfl (by omega) rfl rfl gvo (by simp [Value.oneCell', cDl]) (by simp [maxLen]; omega) (by simp; omega) fun v118 => ?_ | refine Kp.St_append tb rfl rfl rfl Kp.perm3 rfl rfl rfl (by omega) rfl rfl gvo (by simp [Value.oneCell', cDl]) (by simp [maxLen]; omega) (by simp; omega) fun v118 => ?_ | refine Kp.St_append tb rfl rfl rfl (perm_front (pre := [_, _])) rfl rfl rfl (by omega) rfl rfl gvo (by simp [Value.oneCell', cDl]) (by simp [maxLen]; omega) (by simp; omega) fun v118 => ?_ | refine Kp.St_append tb rfl rfl rfl (perm_front (pre := [_, _, _])) rfl rfl rfl (by omega) rfl rfl gvo (by simp [Value.oneCell', cDl]) (by simp [maxLen]; omega) (by simp; omega) fun v118 => ?_ | refine Kp.St_append tb rfl rfl rfl (perm_front (pre := [_, _, _, _])) rfl rfl rfl (by omega) rfl rfl gvo (by simp [Value.oneCell', cDl]) (by simp [maxLen]; omega) (by simp; omega) fun v118 => ?_
 refine Kp.Zq rfl (q_field tb rfl rfl rfl) ?_
 refine Kp.Z_s ?_
 first | refine Kp.St_append tb rfl rfl rfl (List.Perm.refl _) rfl rfl rfl (by omega) rfl rfl gvo (by simp [Value.oneCell']) (by simp [maxLen]; omega) (by simp; omega) fun v127 => ?_ | refine Kp.St_append tb rfl rfl rfl perm1 rfl rfl rfl (by omega) rfl rfl gvo (by simp [Value.oneCell']) (by simp [maxLen]; omega) (by simp; omega) fun v127 => ?_ | refine Kp.St_append tb rfl rfl rfl Kp.perm2 rfl rfl rfl (by omega) rfl rfl gvo (by simp [Value.oneCell']) (by simp [maxLen]; omega) (by simp; omega) fun v127 => ?_ | refine Kp.St_append tb rfl rfl rfl Kp.perm3 rfl rfl rfl (by omega) rfl rfl gvo (by simp [Value.oneCell']) (by simp [maxLen]; omega) (by simp; omega) fun v127 => ?_ | refine Kp.St_append tb rfl rfl rfl (perm_front (pre := [_, _])) rfl rfl rfl (by omega) rfl rfl gvo (by simp [Value.oneCell']) (by simp [maxLen]; omega) (by simp; omega) fun v127 => ?_ | refine Kp.St_append tb rfl rfl rfl (perm_front (pre := [_, _, _])) rfl rfl rfl (by omega) rfl rfl gvo (by simp [Value.oneCell']) (by simp [maxLen]; omega) (by simp; omega) fun v127 => ?_ | refine Kp.St_append tb rfl rfl rfl (perm_front (pre := [_, _, _, _])) rfl rfl rfl (by omega) rfl rfl gvo (by simp [Value.oneCell']) (by simp [maxLen]; omega) (by simp; omega) fun v127 => ?_
 refine Kp.Z_nil ?_
 try dsimp only [List.append, List.cons_append, List.nil_append]
 exact ⟨(v118, v127), fun a_ w_ hs_ => hs_.weak ⟨rfl, rfl, rfl, rfl, rfl, rfl, rfl, rfl, rfl, rfl, trivial⟩ (fun h_ => h_.pk (by repeat (first | with_reducible exact pk_nil | refine pk_box (by first | rfl | exact (dl_snoc _ _) | exact (ci_snoc _ _)) ?_ | refine pk_rd rfl ?_ | refine pk_sl (by first | rfl | exact (dl_snoc _ _) | exact (ci_snoc _ _)) ?_ | with_reducible refine pk_app ?_ | with_reducible refine pk_app0 ?_ | with_reducible refine pk_app0L ?_ | with_reducible exact pk_tl | refine pk_var ?_)))⟩
 (rintro ⟨v118, v127⟩; dsimp only; refine L_form (v := v118) gvo (fun A118 c118 hv118 _ => ?_); subst hv118; refine L_form (v := v127) gvo (fun A127 c127 hv127 _ => ?_); subst hv127)
 refine L_st tb rfl rfl ?_
 refine Jq (q_field tb rfl rfl rfl) ?_
 refine L_st tb rfl rfl ?_
 refine L_then ?_
 refine C_seq ?_
 refine C_region ?_
 refine Jq (q_move rfl) ?_
 refine Jq (q_move rfl) ?_
 refine Jq (q_eql rfl rfl) ?_
 refine L_then ?_
 refine C_dec rfl (fun hki0 => ?_) (fun hki0 => ?_)
 have hki : k = i := by omega
 refine C_res (rs' := [sl (.slice A118 ((M ++ [y]).map cDl).length c118) 51 3 ((M ++ [y]).map cDl), sl (.slice A127 ((G ++ [f]).map cI).length c127) 3 1 ((G ++ [f]).map cI), box g11 74 [(.slice A118 ((M ++ [y]).map cDl).length c118), (.slice A127 ((G ++ [f]).map cI).length c127)], sl (.slice A42 n42 c42) 51 3 (L.map cDl), sl (.slice B42 m42 d42) 3 1 (F.map cI), box g7 74 [(.slice A42 n42 c42), (.slice B42 m42 d42)], box g10 51 (cDl (⟨s, z9.d, z9.g⟩ : Dl)), box g3 28 (cAt (.slice Av (x.ts.map cCp).length cv) (.slice Au (x.ls.map cLd).length cu) (.slice Az (x.gs.map cAg).length cz) x), rd (.slice Av (x.ts.map cCp).length cv) 4 (x.ts.map cCp), rd (.slice Au (x.ls.map cLd).length cu) 4 (x.ls.map cLd), rd (.slice Az (x.gs.map cAg).length cz) 3 (x.gs.map cAg)]) (fun _ h_ => h_.pk (by repeat (first | with_reducible exact pk_nil | refine pk_box rfl ?_ | refine pk_rd rfl ?_ | refine pk_sl rfl ?_ | with_reducible refine pk_app ?_ | with_reducible refine pk_app0 ?_ | with_reducible refine pk_app0L ?_ | with_reducible exact pk_tl | refine pk_var ?_))) ?_
 refine Kp.C_treeH2 (n := 13) (ι := Value × Value) (.q 0 (.q 1 (.q 2 (.q 5 (.q 6 (.q 7 (.q 8 (.q 9 (.s2 3 10 (.s2 4 10 (.q 12 (.s 10 (.s 11 .nil))) (.s 4 (.q 12 (.s 11 .nil)))) (.s 3 (.s 4 (.q 12 (.s 11 .nil))))))))))))) (fun q => ([(2, .int .i64 s), (3, .pointer (some ⟨g3, 0, none⟩)), (7, .pointer (some ⟨g7, 0, none⟩)), (9, .int .i64 (i : Int)), (10, .pointer (some ⟨g10, 0, none⟩)), (11, .pointer (some ⟨g11, 0, none⟩)), (12, .int .i64 (k : Int)), (137, q.1), (144, q.2), (145, .pointer (some ⟨g11, 0, none⟩))], [sl q.1 51 3 ((M ++ [y] ++ [(⟨s, z9.d, z9.g⟩ : Dl)]).map cDl), sl q.2 3 1 ((G ++ [f] ++ [x.r.fi]).map cI), box g11 74 [(.slice A118 ((M ++ [y]).map cDl).length c118), (.slice A127 ((G ++ [f]).map cI).length c127)], sl (.slice A42 n42 c42) 51 3 (L.map cDl), sl (.slice B42 m42 d42) 3 1 (F.map cI), box g7 74 [(.slice A42 n42 c42), (.slice B42 m42 d42)], box g10 51 (cDl (⟨s, z9.d, z9.g⟩ : Dl)), box g3 28 (cAt (.slice Av (x.ts.map cCp).length cv) (.slice Au (x.ls.map cLd).length cu) (.slice Az (x.gs.map cAg).length cz) x), rd (.slice Av (x.ts.map cCp).length cv) 4 (x.ts.map cCp), rd (.slice Au (x.ls.map cLd).length cu) 4 (x.ls.map cLd), rd (.slice Az (x.gs.map cAg).length cz) 3 (x.gs.map cAg)])) mixed (by kernel_rfl) ?_ ?_
 refine Kp.Zq rfl (q_field tb rfl rfl rfl) ?_
 refine Kp.Zq rfl (q_load tb rfl rfl bxo rfl) ?_
 refine Kp.Zq rfl (q_loadA tb rfl rfl bxo rfl rfl) ?_
 refine Kp.Zq rfl (q_field tb rfl rfl rfl) ?_
 refine Kp.Zq rfl (q_load tb rfl rfl bxo rfl) ?_
 refine Kp.Zq rfl (q_field tb rfl rfl rfl) ?_
 refine Kp.Zq rfl (q_field tb rfl rfl rfl) ?_
 refine Kp.Zq rfl (q_load tb rfl rfl bxo rfl) ?_
 refine Kp.Z_s2 ?_ ?_
 refine Kp.St_mk rfl rfl rfl rfl (lo_bslice tb rfl rfl rfl (xs := [cDl (⟨s, z9.d, z9.g⟩ : Dl)]) rfl rfl (by simp [cDl]) rfl (by omega) rfl) fun v136 => ?_
 refine Kp.Z_s2 ?_ ?_
 first | refine Kp.St_append tb rfl rfl rfl (List.Perm.refl _) rfl rfl rfl (by omega) rfl rfl gvo (by simp [Value.oneCell', cDl]) (by simp [maxLen]; omega) (by simp; omega) fun v137 => ?_ | refine Kp.St_append tb rfl rfl rfl perm1 rfl rfl rfl (by omega) rfl rfl gvo (by simp [Value.oneCell', cDl]) (by simp [maxLen]; omega) (by simp; omega) fun v137 => ?_ | refine Kp.St_append tb rfl rfl rfl Kp.perm2 rfl rfl rfl (by omega) rfl rfl gvo (by simp [Value.oneCell', cDl]) (by simp [maxLen]; omega) (by simp; omega) fun v137 => ?_ | refine Kp.St_append tb rfl rfl rfl Kp.perm3 rfl rfl rfl (by omega) rfl rfl gvo (by simp [Value.oneCell', cDl]) (by simp [maxLen]; omega) (by simp; omega) fun v137 => ?_ | refine Kp.St_append tb rfl rfl rfl (perm_front (pre := [_, _])) rfl rfl rfl (by omega) rfl rfl gvo (by simp [Value.oneCell', cDl]) (by simp [maxLen]; omega) (by simp; omega) fun v137 => ?_ | refine Kp.St_append tb rfl rfl rfl (perm_front (pre := [_, _, _])) rfl rfl rfl (by omega) rfl rfl gvo (by simp [Value.oneCell', cDl]) (by simp [maxLen]; omega) (by simp; omega) fun v137 => ?_ | refine Kp.St_append tb rfl rfl rfl (perm_front (pre := [_, _, _, _])) rfl rfl rfl (by omega) rfl rfl gvo (by simp [Value.oneCell', cDl]) (by simp [maxLen]; omega) (by simp; omega) fun v137 => ?_
 refine Kp.Zq rfl (q_field tb rfl rfl rfl) ?_
 refine Kp.Z_s ?_
 refine Kp.St_mk rfl rfl rfl rfl (lo_bslice tb rfl rfl rfl (xs := [[_]]) rfl rfl (by simp) rfl (by omega) rfl) fun v143 => ?_
 refine Kp.Z_s ?_
 first | refine Kp.St_append tb rfl rfl rfl (List.Perm.refl _) rfl rfl rfl (by omega) rfl rfl gvo (by simp [Value.oneCell']) (by simp [maxLen]; omega) (by simp; omega) fun v144 => ?_ | refine Kp.St_append tb rfl rfl rfl perm1 rfl rfl rfl (by omega) rfl rfl gvo (by simp [Value.oneCell']) (by simp [maxLen]; omega) (by simp; omega) fun v144 => ?_ | refine Kp.St_append tb rfl rfl rfl Kp.perm2 rfl rfl rfl (by omega) rfl rfl gvo (by simp [Value.oneCell']) (by simp [maxLen]; omega) (by simp; omega) fun v144 => ?_ | refine Kp.St_append tb rfl rfl rfl Kp.perm3 rfl rfl rfl (by omega) rfl rfl gvo (by simp [Value.oneCell']) (by simp [maxLen]; omega) (by simp; omega) fun v144 => ?_ | refine Kp.St_append tb rfl rfl rfl (perm_front (pre := [_, _])) rfl rfl rfl (by omega) rfl rfl gvo (by simp [Value.oneCell']) (by simp [maxLen]; omega) (by simp; omega) fun v144 => ?_ | refine Kp.St_append tb rfl rfl rfl (perm_front (pre := [_, _, _])) rfl rfl rfl (by omega) rfl rfl gvo (by simp [Value.oneCell']) (by simp [maxLen]; omega) (by simp; omega) fun v144 => ?_ | refine Kp.St_append tb rfl rfl rfl (perm_front (pre := [_, _, _, _])) rfl rfl rfl (by omega) rfl rfl gvo (by simp [Value.oneCell']) (by simp [maxLen]; omega) (by simp; omega) fun v144 => ?_
 refine Kp.Z_nil ?_
 try dsimp only [List.append, List.cons_append, List.nil_append]
 exact ⟨(v137, v144), fun a_ w_ hs_ => hs_.weak ⟨rfl, rfl, rfl, rfl, rfl, rfl, rfl, rfl, rfl, rfl, trivial⟩ (fun h_ => h_.pk (by repeat (first | with_reducible exact pk_nil | refine pk_box (by first | rfl | exact (dl_snoc _ _) | exact (ci_snoc _ _)) ?_ | refine pk_rd rfl ?_ | refine pk_sl (by first | rfl | exact (dl_snoc _ _) | exact (ci_snoc _ _)) ?_ | with_reducible refine pk_app ?_ | with_reducible refine pk_app0 ?_ | with_reducible refine pk_app0L ?_ | with_reducible exact pk_tl | refine pk_var ?_)))⟩
 refine Kp.St_mk rfl rfl rfl rfl (lo_bslice tb rfl rfl rfl (xs := [[_]]) rfl rfl (by simp) rfl (by omega) rfl) fun v143 => ?_
 refine Kp.Z_s ?_
 first | refine Kp.St_append tb rfl rfl rfl (List.Perm.refl _) rfl rfl rfl (by omega) rfl rfl gvo (by simp [Value.oneCell', cDl]) (by simp [maxLen]; omega) (by simp; omega) fun v137 => ?_ | refine Kp.St_append tb rfl rfl rfl perm1 rfl rfl rfl (by omega) rfl rfl gvo (by simp [Value.oneCell', cDl]) (by simp [maxLen]; omega) (by simp; omega) fun v137 => ?_ | refine Kp.St_append tb rfl rfl rfl Kp.perm2 rfl rfl rfl (by omega) rfl rfl gvo (by simp [Value.oneCell', cDl]) (by simp [maxLen]; omega) (by simp; omega) fun v137 => ?_ | refine Kp.St_append tb rfl rfl rfl Kp.perm3 rfl rfl rfl (by omega) rfl rfl gvo (by simp [Value.oneCell', cDl]) (by simp [maxLen]; omega) (by simp; omega) fun v137 => ?_ | refine Kp.St_append tb rfl rfl rfl (perm_front (pre := [_, _])) rfl rfl rfl (by omega) rfl rfl gvo (by simp [Value.oneCell', cDl]) (by simp [maxLen]; omega) (by simp; omega) fun v137 => ?_ | refine Kp.St_append tb rfl rfl rfl (perm_front (pre := [_, _, _])) rfl rfl rfl (by omega) rfl rfl gvo (by simp [Value.oneCell', cDl]) (by simp [maxLen]; omega) (by simp; omega) fun v137 => ?_ | refine Kp.St_append tb rfl rfl rfl (perm_front (pre := [_, _, _, _])) rfl rfl rfl (by omega) rfl rfl gvo (by simp [Value.oneCell', cDl]) (by simp [maxLen]; omega) (by simp; omega) fun v137 => ?_
 refine Kp.Zq rfl (q_field tb rfl rfl rfl) ?_
 refine Kp.Z_s ?_
 first | refine Kp.St_append tb rfl rfl rfl (List.Perm.refl _) rfl rfl rfl (by omega) rfl rfl gvo (by simp [Value.oneCell']) (by simp [maxLen]; omega) (by simp; omega) fun v144 => ?_ | refine Kp.St_append tb rfl rfl rfl perm1 rfl rfl rfl (by omega) rfl rfl gvo (by simp [Value.oneCell']) (by simp [maxLen]; omega) (by simp; omega) fun v144 => ?_ | refine Kp.St_append tb rfl rfl rfl Kp.perm2 rfl rfl rfl (by omega) rfl rfl gvo (by simp [Value.oneCell']) (by simp [maxLen]; omega) (by simp; omega) fun v144 => ?_ | refine Kp.St_append tb rfl rfl rfl Kp.perm3 rfl rfl rfl (by omega) rfl rfl gvo (by simp [Value.oneCell']) (by simp [maxLen]; omega) (by simp; omega) fun v144 => ?_ | refine Kp.St_append tb rfl rfl rfl (perm_front (pre := [_, _])) rfl rfl rfl (by omega) rfl rfl gvo (by simp [Value.oneCell']) (by simp [maxLen]; omega) (by simp; omega) fun v144 => ?_ | refine Kp.St_append tb rfl rfl rfl (perm_front (pre := [_, _, _])) rfl rfl rfl (by omega) rfl rfl gvo (by simp [Value.oneCell']) (by simp [maxLen]; omega) (by simp; omega) fun v144 => ?_ | refine Kp.St_append tb rfl rfl rfl (perm_front (pre := [_, _, _, _])) rfl rfl rfl (by omega) rfl rfl gvo (by simp [Value.oneCell']) (by simp [maxLen]; omega) (by simp; omega) fun v144 => ?_
 refine Kp.Z_nil ?_
 try dsimp only [List.append, List.cons_append, List.nil_append]
 exact ⟨(v137, v144), fun a_ w_ hs_ => hs_.weak ⟨rfl, rfl, rfl, rfl, rfl, rfl, rfl, rfl, rfl, rfl, trivial⟩ (fun h_ => h_.pk (by repeat (first | with_reducible exact pk_nil | refine pk_box (by first | rfl | exact (dl_snoc _ _) | exact (ci_snoc _ _)) ?_ | refine pk_rd rfl ?_ | refine pk_sl (by first | rfl | exact (dl_snoc _ _) | exact (ci_snoc _ _)) ?_ | with_reducible refine pk_app ?_ | with_reducible refine pk_app0 ?_ | with_reducible refine pk_app0L ?_ | with_reducible exact pk_tl | refine pk_var ?_)))⟩
 refine Kp.St_mk rfl rfl rfl rfl (lo_bslice tb rfl rfl rfl (xs := [[_]]) rfl rfl (by simp) rfl (by omega) rfl) fun v143 => ?_
 refine Kp.Z_s ?_
 refine Kp.St_mk rfl rfl rfl rfl (lo_bslice tb rfl rfl rfl (xs := [cDl (⟨s, z9.d, z9.g⟩ : Dl)]) rfl rfl (by simp [cDl]) rfl (by omega) rfl) fun v136 => ?_
 refine Kp.Z_s ?_
 first | refine Kp.St_append tb rfl rfl rfl (List.Perm.refl _) rfl rfl rfl (by omega) rfl rfl gvo (by simp [Value.oneCell', cDl]) (by simp [maxLen]; omega) (by simp; omega) fun v137 => ?_ | refine Kp.St_append tb rfl rfl rfl perm1 rfl rfl rfl (by omega) rfl rfl gvo (by simp [Value.oneCell', cDl]) (by simp [maxLen]; omega) (by simp; omega) fun v137 => ?_ | refine Kp.St_append tb rfl rfl rfl Kp.perm2 rfl rfl rfl (by omega) rfl rfl gvo (by simp [Value.oneCell', cDl]) (by simp [maxLen]; omega) (by simp; omega) fun v137 => ?_ | refine Kp.St_append tb rfl rfl rfl Kp.perm3 rfl rfl rfl (by omega) rfl rfl gvo (by simp [Value.oneCell', cDl]) (by simp [maxLen]; omega) (by simp; omega) fun v137 => ?_ | refine Kp.St_append tb rfl rfl rfl (perm_front (pre := [_, _])) rfl rfl rfl (by omega) rfl rfl gvo (by simp [Value.oneCell', cDl]) (by simp [maxLen]; omega) (by simp; omega) fun v137 => ?_ | refine Kp.St_append tb rfl rfl rfl (perm_front (pre := [_, _, _])) rfl rfl rfl (by omega) rfl rfl gvo (by simp [Value.oneCell', cDl]) (by simp [maxLen]; omega) (by simp; omega) fun v137 => ?_ | refine Kp.St_append tb rfl rfl rfl (perm_front (pre := [_, _, _, _])) rfl rfl rfl (by omega) rfl rfl gvo (by simp [Value.oneCell', cDl]) (by simp [maxLen]; omega) (by simp; omega) fun v137 => ?_
 refine Kp.Zq rfl (q_field tb rfl rfl rfl) ?_
 refine Kp.Z_s ?_
 first | refine Kp.St_append tb rfl rfl rfl (List.Perm.refl _) rfl rfl rfl (by omega) rfl rfl gvo (by simp [Value.oneCell']) (by simp [maxLen]; omega) (by simp; omega) fun v144 => ?_ | refine Kp.St_append tb rfl rfl rfl perm1 rfl rfl rfl (by omega) rfl rfl gvo (by simp [Value.oneCell']) (by simp [maxLen]; omega) (by simp; omega) fun v144 => ?_ | refine Kp.St_append tb rfl rfl rfl Kp.perm2 rfl rfl rfl (by omega) rfl rfl gvo (by simp [Value.oneCell']) (by simp [maxLen]; omega) (by simp; omega) fun v144 => ?_ | refine Kp.St_append tb rfl rfl rfl Kp.perm3 rfl rfl rfl (by omega) rfl rfl gvo (by simp [Value.oneCell']) (by simp [maxLen]; omega) (by simp; omega) fun v144 => ?_ | refine Kp.St_append tb rfl rfl rfl (perm_front (pre := [_, _])) rfl rfl rfl (by omega) rfl rfl gvo (by simp [Value.oneCell']) (by simp [maxLen]; omega) (by simp; omega) fun v144 => ?_ | refine Kp.St_append tb rfl rfl rfl (perm_front (pre := [_, _, _])) rfl rfl rfl (by omega) rfl rfl gvo (by simp [Value.oneCell']) (by simp [maxLen]; omega) (by simp; omega) fun v144 => ?_ | refine Kp.St_append tb rfl rfl rfl (perm_front (pre := [_, _, _, _])) rfl rfl rfl (by omega) rfl rfl gvo (by simp [Value.oneCell']) (by simp [maxLen]; omega) (by simp; omega) fun v144 => ?_
 refine Kp.Z_nil ?_
 try dsimp only [List.append, List.cons_append, List.nil_append]
 exact ⟨(v137, v144), fun a_ w_ hs_ => hs_.weak ⟨rfl, rfl, rfl, rfl, rfl, rfl, rfl, rfl, rfl, rfl, trivial⟩ (fun h_ => h_.pk (by repeat (first | with_reducible exact pk_nil | refine pk_box (by first | rfl | exact (dl_snoc _ _) | exact (ci_snoc _ _)) ?_ | refine pk_rd rfl ?_ | refine pk_sl (by first | rfl | exact (dl_snoc _ _) | exact (ci_snoc _ _)) ?_ | with_reducible refine pk_app ?_ | with_reducible refine pk_app0 ?_ | with_reducible refine pk_app0L ?_ | with_reducible exact pk_tl | refine pk_var ?_)))⟩
 (rintro ⟨v137, v144⟩; dsimp only; refine L_form (v := v137) gvo (fun A137 c137 hv137 _ => ?_); subst hv137; refine L_form (v := v144) gvo (fun A144 c144 hv144 _ => ?_); subst hv144)
 refine L_st tb rfl rfl ?_
 refine Jq (q_field tb rfl rfl rfl) ?_
 refine L_st tb rfl rfl ?_
 refine L_blk ?_
 refine C_region ?_
 refine Jq (q_move rfl) ?_
 refine Jq (q_add rfl rfl (by first | exact IntWalk.i64_in _ (by omega) | rfl)) ?_
 refine Jq (q_assign rfl) ?_
 refine L_end ?_
 exact fun ac_ wo_ hs_ => ⟨(k + 1, M ++ [y] ++ [(⟨s, z9.d, z9.g⟩ : Dl)], G ++ [f] ++ [x.r.fi], .slice A137 ((M ++ [y] ++ [(⟨s, z9.d, z9.g⟩ : Dl)]).map cDl).length c137, .slice A144 ((G ++ [f] ++ [x.r.fi]).map cI).length c144), ⟨by dsimp only; omega, by dsimp only; rw [ins_yes hki, dlA_get he, ← hM], by dsimp only; rw [ins_yes hki, fnL_get hf9, ← hG]⟩, (by dsimp only; omega), hs_.weak ⟨rfl, rfl, rfl, rfl, rfl, rfl, rfl, trivial⟩ (fun h => h.pk (by repeat (first | with_reducible exact pk_nil | refine pk_box rfl ?_ | refine pk_rd rfl ?_ | refine pk_sl rfl ?_ | with_reducible refine pk_app ?_ | with_reducible refine pk_app0 ?_ | with_reducible refine pk_app0L ?_ | with_reducible exact pk_tl | refine pk_var ?_)))⟩
 have hki : ¬ k = i := by omega
 refine C_skip_blk ?_
 refine C_region ?_
 refine Jq (q_move rfl) ?_
 refine Jq (q_add rfl rfl (by first | exact IntWalk.i64_in _ (by omega) | rfl)) ?_
 refine Jq (q_assign rfl) ?_
 refine L_end ?_
 exact fun ac_ wo_ hs_ => ⟨(k + 1, M ++ [y], G ++ [f], .slice A118 ((M ++ [y]).map cDl).length c118, .slice A127 ((G ++ [f]).map cI).length c127), ⟨by dsimp only; omega, by dsimp only; rw [ins_no hki, dlA_get he, ← hM], by dsimp only; rw [ins_no hki, fnL_get hf9, ← hG]⟩, (by dsimp only; omega), hs_.weak ⟨rfl, rfl, rfl, rfl, rfl, rfl, rfl, trivial⟩ (fun h => h.pk (by repeat (first | with_reducible exact pk_nil | refine pk_box rfl ?_ | refine pk_rd rfl ?_ | refine pk_sl rfl ?_ | with_reducible refine pk_app ?_ | with_reducible refine pk_app0 ?_ | with_reducible refine pk_app0L ?_ | with_reducible exact pk_tl | refine pk_var ?_)))⟩
 have hkL : k = L.length := by omega
 subst hkL
 rw [← hM, ← hG] at hI
 have hIn := hI.n; have hIl := hI.S.l
 refine C_exit ?_
 change C Tryz.prog _ _ _ _ _ _ _
 refine C_seq ?_
 refine C_region ?_
 refine Jq (q_loadA tb rfl rfl bxo rfl rfl) ?_
 refine Jq (q_loadA tb rfl rfl bxo rfl rfl) ?_
 refine L_call tb rfl rfl (ct_ascent_CheckSchedule _ _ _ x _ _ M G (by omega) (by omega) (by omega) (by omega) (by omega)) (ps_cons gvo (ps_cons gvo (ps_cons gvo (ps_cons gvo (ps_cons gvo no_ps))))) rfl ?_
 refine Jq (q_move rfl) ?_
 refine Jq (q_ext0 rfl) ?_
 refine Jq (q_ext1 rfl) ?_
 refine Jq (q_assign rfl) ?_
 refine Jq (q_assign rfl) ?_
 refine L_then ?_
 refine C_seq ?_
 refine C_region ?_
 refine Jq (q_loadA tb rfl rfl bxo rfl rfl) ?_
 refine L_alloc tb rfl rfl fun g15 => ?_
 refine L_st tb rfl rfl ?_
 refine L_then ?_
 refine C_seq ?_
 refine C_seq ?_
 refine C_region ?_
 refine Jq (q_assign rfl) ?_
 refine L_then ?_
 refine C_block ?_
 refine C_res (rs' := [rd (.slice Av (x.ts.map cCp).length cv) 4 (x.ts.map cCp), rd (.slice Au (x.ls.map cLd).length cu) 4 (x.ls.map cLd), rd (.slice Az (x.gs.map cAg).length cz) 3 (x.gs.map cAg), box g15 28 (cAt (.slice Av (x.ts.map cCp).length cv) (.slice Au (x.ls.map cLd).length cu) (.slice Az (x.gs.map cAg).length cz) x), box g11 74 [(.slice A8 (M.map cDl).length c8), (.slice A7 (G.map cI).length c7)], sl (.slice A8 (M.map cDl).length c8) 51 3 (M.map cDl), sl (.slice A7 (G.map cI).length c7) 3 1 (G.map cI), box g7 74 [(.slice A42 n42 c42), (.slice B42 m42 d42)], sl (.slice A42 n42 c42) 51 3 (L.map cDl), sl (.slice B42 m42 d42) 3 1 (F.map cI)]) (fun _ h_ => h_.pk (by repeat (first | with_reducible exact pk_nil | refine pk_box rfl ?_ | refine pk_rd rfl ?_ | refine pk_sl rfl ?_ | with_reducible refine pk_app ?_ | with_reducible refine pk_app0 ?_ | with_reducible refine pk_app0L ?_ | with_reducible exact pk_tl | refine pk_var ?_))) ?_
 refine C_loop (ι := Nat × Asc × Value × Value × Value) (fun q => ([(2, .int .i64 s), (7, .pointer (some ⟨g7, 0, none⟩)), (11, .pointer (some ⟨g11, 0, none⟩)), (13, .int .i64 ((csE x M G).1)), (14, .int .i64 ((csE x M G).2)), (15, .pointer (some ⟨g15, 0, none⟩)), (16, .int .i64 (q.1 : Int))], [rd q.2.2.1 4 (q.2.1.ts.map cCp), rd q.2.2.2.1 4 (q.2.1.ls.map cLd), rd q.2.2.2.2 3 (q.2.1.gs.map cAg), box g15 28 (cAt q.2.2.1 q.2.2.2.1 q.2.2.2.2 q.2.1), box g11 74 [(.slice A8 (M.map cDl).length c8), (.slice A7 (G.map cI).length c7)], sl (.slice A8 (M.map cDl).length c8) 51 3 (M.map cDl), sl (.slice A7 (G.map cI).length c7) 3 1 (G.map cI), box g7 74 [(.slice A42 n42 c42), (.slice B42 m42 d42)], sl (.slice A42 n42 c42) 51 3 (L.map cDl), sl (.slice B42 m42 d42) 3 1 (F.map cI)])) (fun q => q.1 ≤ M.length ∧ okAsc q.2.1 ∧ q.2.1.r = x.r ∧ q.2.1.de = dpK x.de M q.1 ∧ chkF (smS M M.length) q.2.1 (M.drop q.1) (G.drop q.1) q.1 = (csE x M G)) (fun q => M.length - q.1) (0, x, (.slice Av (x.ts.map cCp).length cv), (.slice Au (x.ls.map cLd).length cu), (.slice Az (x.gs.map cAg).length cz)) ⟨Nat.zero_le _, H, rfl, rfl, hI.cs.symm⟩ (fun a w hs => hs.weak ⟨rfl, rfl, rfl, rfl, rfl, rfl, rfl, trivial⟩ (fun h => h.pk (by repeat (first | with_reducible exact pk_nil | refine pk_box rfl ?_ | refine pk_rd rfl ?_ | refine pk_sl rfl ?_ | with_reducible refine pk_app ?_ | with_reducible refine pk_app0 ?_ | with_reducible refine pk_app0L ?_ | with_reducible exact pk_tl | refine pk_var ?_)))) ?_
 rintro ⟨k, X, v9, u9, z9v⟩ ⟨hk, hX, hXr, hXd, hf⟩
 dsimp only at hk hX hXr hXd hf ⊢
 refine C_form (v := v9) gvo (fun Av9 cv9 hvv _ => ?_)
 subst hvv
 refine C_form (v := u9) gvo (fun Au9 cu9 hvu _ => ?_)
 subst hvu
 refine C_form (v := z9v) gvo (fun Az9 cz9 hvz _ => ?_)
 subst hvz
 have hXde := hX.de; have hXbl := beh_len hX; have hXst := hX.r.st; have hXgi := gasA_in X X.de
 refine C_seq ?_
 refine C_seq ?_
 refine C_region ?_
 refine Jq (q_move rfl) ?_
 refine Jq (q_field tb rfl rfl rfl) ?_
 refine Jq (q_load tb rfl rfl bxo rfl) ?_
 refine Jq (q_len tb rfl rfl gvo) ?_
 refine Jq (q_lss rfl rfl) ?_
 refine L_then ?_
 refine C_dec rfl (fun h16 => ?_) (fun h16 => ?_)
 obtain ⟨y, f, he, hf9, han⟩ := sch_at hI.S (k := k) (by omega); have hel := map_get cDl he; have hef := map_get cI hf9; obtain ⟨_, _, _, hf6⟩ := han; have hfi9 := hI.f f (List.mem_of_getElem? hf9); have hfr : f ≤ X.r.fi := by rw [hXr]; exact hfi9
 refine C_skip_then ?_
 refine C_seq ?_
 refine C_block ?_
 refine C_seq ?_
 refine C_wideF1 tb (k := 10) [(0, false), (1, false), (2, false), (3, false), (4, false), (5, false), (6, true), (7, false), (8, false), (9, false)] [.s 11, .q 12] mixed (by kernel_rfl) rfl rfl rfl rfl (by kernel_rfl) rfl ?_
 refine X1_q rfl rfl rfl rfl (q_loadA tb rfl rfl bxo rfl rfl) ?_
 refine X1_q rfl rfl rfl rfl (q_field tb rfl rfl rfl) ?_
 refine X1_q rfl rfl rfl rfl (q_load tb rfl rfl bxo rfl) ?_
 refine X1_q rfl rfl rfl rfl (q_move rfl) ?_
 refine X1_q rfl rfl rfl rfl (by first | exact q_index tb rfl rfl rfl rfl gvo (by omega) (by first | omega | (simp; done) | (simp; omega)) | exact q_indexP tb rfl rfl rfl rfl (by omega) (by omega)) ?_
 refine X1_q rfl rfl rfl rfl (q_loadEA tb rfl rfl gvo (i := k) (o := 0) (by omega) hel rfl rfl) ?_
 refine X1_lo rfl rfl rfl rfl (lo_call tb rfl rfl (ct_ascent_TaskOf _ _ _ X y (by omega) (by omega) (by omega)) (ps_cons gvo (ps_cons gvo (ps_cons gvo no_ps))) isTe_sinks) ?_
 rintro _ _ ⟨A168, n168, c168, B168, m168, d168, rfl, rfl⟩
 dsimp only [List.cons_append, List.nil_append]
 refine X1_q rfl rfl rfl rfl (q_move rfl) ?_
 refine X1_q rfl rfl rfl rfl (q_ext0 rfl) ?_
 refine X1_q rfl rfl rfl rfl (q_ext1 rfl) ?_
 refine X1_nil ?_
 intro g17
 try dsimp only [List.cons_append, List.nil_append]
 first | refine X_store tb rfl rfl (List.Perm.refl _) rfl rfl rfl rfl rfl rfl rfl rfl ?_ | refine X_store tb rfl rfl perm1 rfl rfl rfl rfl rfl rfl rfl rfl ?_ | refine X_store tb rfl rfl (perm_front (pre := [_, _])) rfl rfl rfl rfl rfl rfl rfl rfl ?_ | refine X_store tb rfl rfl (perm_front (pre := [_, _, _])) rfl rfl rfl rfl rfl rfl rfl rfl ?_
 refine X_q rfl rfl rfl rfl (q_assign rfl) ?_
 refine X_nil ?_
 dsimp only [List.cons_append, List.nil_append]
 refine L_then ?_
 refine C_seq ?_
 refine C_seq ?_
 refine C_region ?_
 refine Jq (q_move rfl) ?_
 refine Jq (q_neq rfl rfl) ?_
 refine L_then ?_
 refine C_dec rfl (fun h172 => ?_) (fun h172 => ?_)
 have e8 : alE X y = ckAl X y := alE_2 hX.ck
 rw [e8] at h172 ⊢
 have e9 := hf.symm.trans (chk_1 he hf9 h172)
 rw [e9]
 dsimp only
 refine C_seq ?_
 refine C_region ?_
 refine Jq (q_move rfl) ?_
 refine Jq (q_move rfl) ?_
 refine Jq (q_true (q_eql rfl rfl) (decide_eq_true rfl)) ?_
 refine Jq (q_move rfl) ?_
 refine Jg (q_move rfl) ?_
 refine Jg (q_move rfl) ?_
 refine Jg (q_true (q_eql rfl rfl) (decide_eq_true rfl)) ?_
 refine Jq (q_pickT rfl rfl) ?_
 refine Jq (q_assign rfl) ?_
 refine L_then ?_
 refine C_ret ?_
 exact ret_of (res1 rfl rfl) sub_nil (by intro r hr; cases hr) ⟨rfl, rfl⟩
 have haz := Decidable.not_not.1 h172
 have hk0 : ckAl X y = 0 := by rw [← alE_2 hX.ck]; exact haz
 have hy := (ckAl_ok hk0).1
 obtain ⟨e1, e2, e3, e4⟩ := to_2 haz
 rw [e1, e2, e3, e4]
 refine C_skip_then ?_
 refine C_seq ?_
 refine C_draw (n := 12) [(0, false), (1, false), (2, false), (3, false), (4, false), (5, false), (6, true), (7, false), (8, false), (9, false), (10, false), (11, false)] mixed (by kernel_rfl) ?_
 refine Yq rfl (q_loadA tb rfl rfl bxo rfl rfl) ?_
 refine Yq rfl (q_field tb rfl rfl rfl) ?_
 refine Yq rfl (q_load tb rfl rfl bxo rfl) ?_
 refine Yq rfl (q_move rfl) ?_
 refine Yq rfl (by first | exact q_index tb rfl rfl rfl rfl gvo (by omega) (by first | omega | (simp; done) | (simp; omega)) | exact q_indexP tb rfl rfl rfl rfl (by omega) (by omega)) ?_
 refine Yq rfl (q_loadE tb rfl rfl gvo (i := k) (o := 0) (by omega) hef rfl) ?_
 refine W_call tb rfl rfl rfl rfl (ct_tissue_Kept _ _ (lgA X y) (faA X) f X.ts X.ls (by omega) (by omega)) (ps_cons gvo (ps_cons gvo no_ps)) rfl ?_
 refine Yq rfl (q_move rfl) ?_
 rw [kp_E hX hy (by omega)]
 refine Yq rfl (q_ext0 rfl) ?_
 refine Yq rfl (q_ext1 rfl) ?_
 refine Yq rfl (q_assign rfl) ?_
 refine Yq rfl (q_assign rfl) ?_
 refine W_nil ?_
 refine L_then ?_
 refine C_seq ?_
 refine C_seq ?_
 refine C_region ?_
 refine Jq (q_move rfl) ?_
 refine Jq (q_neq rfl rfl) ?_
 refine L_then ?_
 refine C_dec rfl (fun h192 => ?_) (fun h192 => ?_)
 exact absurd rfl h192
 refine C_skip_then ?_
 refine C_seq ?_
 refine C_seq ?_
 refine C_region ?_
 refine Jq (q_move rfl) ?_
 refine Jq (q_neq rfl rfl) ?_
 refine L_then ?_
 refine C_dec rfl (fun h7 => ?_) (fun h7 => ?_)
 have e9 := hf.symm.trans (chk_3 he hf9 (fun hh => hh hk0) (by omega) h7)
 rw [e9]
 dsimp only
 refine C_seq ?_
 refine C_region ?_
 refine Jq (q_move rfl) ?_
 refine Jq (q_true (q_eql rfl rfl) (decide_eq_true rfl)) ?_
 refine Jq (q_move rfl) ?_
 refine Jg (q_move rfl) ?_
 refine Jg (q_move rfl) ?_
 refine Jg (q_true (q_eql rfl rfl) (decide_eq_true rfl)) ?_
 refine Jq (q_pickT rfl rfl) ?_
 refine Jq (q_assign rfl) ?_
 refine L_then ?_
 refine C_ret ?_
 exact ret_of (res1 rfl rfl) sub_nil (by intro r hr; cases hr) ⟨rfl, rfl⟩
 refine C_skip_then ?_
 refine C_seq ?_
 refine C_wideF1 tb (k := 10) [(0, false), (1, false), (2, false), (3, false), (4, false), (5, false), (6, true), (7, false), (8, false), (9, false)] [.s 11, .q 12] mixed (by kernel_rfl) rfl rfl rfl rfl (by kernel_rfl) rfl ?_
 refine X1_q rfl rfl rfl rfl (q_loadA tb rfl rfl bxo rfl rfl) ?_
 refine X1_q rfl rfl rfl rfl (q_field tb rfl rfl rfl) ?_
 refine X1_q rfl rfl rfl rfl (q_load tb rfl rfl bxo rfl) ?_
 refine X1_q rfl rfl rfl rfl (q_move rfl) ?_
 refine X1_q rfl rfl rfl rfl (by first | exact q_index tb rfl rfl rfl rfl gvo (by omega) (by first | omega | (simp; done) | (simp; omega)) | exact q_indexP tb rfl rfl rfl rfl (by omega) (by omega)) ?_
 refine X1_q rfl rfl rfl rfl (q_loadEA tb rfl rfl gvo (i := k) (o := 0) (by omega) hel rfl rfl) ?_
 refine X1_lo rfl rfl rfl rfl (lo_call tb rfl rfl (ct_ascent_Moved _ _ _ X y (by omega) (by omega) (by omega)) (ps_cons gvo (ps_cons gvo (ps_cons gvo no_ps))) isTk_sinks) ?_
 rintro _ _ ⟨A209, n209, c209, B209, m209, d209, C209, k209, e209, rfl, rfl⟩
 dsimp only [List.cons_append, List.nil_append]
 refine X1_q rfl rfl rfl rfl (q_move rfl) ?_
 rw [mvE_2 haz, haz]
 refine X1_q rfl rfl rfl rfl (q_ext0 rfl) ?_
 refine X1_q rfl rfl rfl rfl (q_ext1 rfl) ?_
 refine X1_nil ?_
 intro g21
 try dsimp only [List.cons_append, List.nil_append]
 first | refine X_store tb rfl rfl (List.Perm.refl _) rfl rfl rfl rfl rfl rfl rfl rfl ?_ | refine X_store tb rfl rfl perm1 rfl rfl rfl rfl rfl rfl rfl rfl ?_ | refine X_store tb rfl rfl (perm_front (pre := [_, _])) rfl rfl rfl rfl rfl rfl rfl rfl ?_ | refine X_store tb rfl rfl (perm_front (pre := [_, _, _])) rfl rfl rfl rfl rfl rfl rfl rfl ?_
 refine X_q rfl rfl rfl rfl (q_assign rfl) ?_
 refine X_nil ?_
 dsimp only [List.cons_append, List.nil_append]
 refine L_then ?_
 refine C_seq ?_
 refine C_seq ?_
 refine C_region ?_
 refine Jq (q_move rfl) ?_
 refine Jq (q_neq rfl rfl) ?_
 refine L_then ?_
 refine C_dec rfl (fun h213 => ?_) (fun h213 => ?_)
 exact absurd rfl h213
 refine C_skip_then ?_
 refine C_region ?_
 refine Jq (q_loadA tb rfl rfl bxo rfl rfl) ?_
 refine L_st tb rfl rfl ?_
 refine L_blk ?_
 refine C_region ?_
 refine Jq (q_move rfl) ?_
 refine Jq (q_add rfl rfl (by first | exact IntWalk.i64_in _ (by omega) | rfl)) ?_
 refine Jq (q_assign rfl) ?_
 refine L_end ?_
 exact fun ac_ wo_ hs_ => ⟨(k + 1, bhA X y, .slice A209 n209 c209, .slice B209 m209 d209, .slice C209 k209 e209), ⟨by dsimp only; omega, bh_ok hX hy, hXr, dpK_s he, by rw [← hf, chk_4 he hf9 (fun hh => hh hk0) (by omega) h7]; rfl⟩, (by dsimp only; omega), hs_.weak ⟨rfl, rfl, rfl, rfl, rfl, rfl, rfl, trivial⟩ (fun h_ => sl3_rd (show WS _ _ (sl (.slice A209 n209 c209) 66 4 ((bhA X y).ts.map cCp) :: sl (.slice B209 m209 d209) 139 4 ((bhA X y).ls.map cLd) :: sl (.slice C209 k209 e209) 144 3 ((bhA X y).gs.map cAg) :: _) _ from h_.pk (by repeat (first | with_reducible exact pk_nil | refine pk_box rfl ?_ | refine pk_rd rfl ?_ | refine pk_sl rfl ?_ | with_reducible refine pk_app ?_ | with_reducible refine pk_app0 ?_ | with_reducible refine pk_app0L ?_ | with_reducible exact pk_tl | refine pk_var ?_))))⟩
 obtain rfl : k = M.length := by omega
 have hd0 : ¬ X.de ≠ 0 := fun hh => hh (hXd.trans hI.d)
 have e9 := hf.symm.trans ((chk_5 (Nat.le_refl _)).trans (if_neg hd0))
 rw [e9]
 dsimp only
 have hsm := smS_in (sch_sec hgS) L.length (Nat.le_refl _)
 refine C_exit ?_
 change C Tryz.prog _ _ _ _ _ _ _
 refine C_seq ?_
 refine C_region ?_
 refine Jq (q_loadA tb rfl rfl bxo rfl rfl) ?_
 refine L_call tb rfl rfl (ct_ascent_SecondsOf _ _ L F (by omega) (by omega)) (ps_cons gvo (ps_cons gvo no_ps)) rfl ?_
 refine Jq (q_move rfl) ?_
 rw [soE_2 hgS.ck]
 dsimp only
 refine Jq (q_ext0 rfl) ?_
 refine Jq (q_ext1 rfl) ?_
 refine Jq (q_assign rfl) ?_
 refine Jq (q_assign rfl) ?_
 refine L_then ?_
 refine C_seq ?_
 refine C_region ?_
 refine Jq (q_move rfl) ?_
 refine Jq (q_true (q_eql rfl rfl) (decide_eq_true rfl)) ?_
 refine Jq (q_move rfl) ?_
 refine Jg (q_move rfl) ?_
 refine Jg (q_true (q_eql rfl rfl) (decide_eq_true rfl)) ?_
 refine Jq (q_pickT rfl rfl) ?_
 refine Jq (q_move rfl) ?_
 refine Jg (q_move rfl) ?_
 refine Jg (q_move rfl) ?_
 refine Jg (q_move rfl) ?_
 refine Jg (q_add rfl rfl (by first | exact IntWalk.i64_in _ (by omega) | rfl)) ?_
 refine Jg (q_true (q_eql rfl rfl) (decide_eq_true (hI.s))) ?_
 refine Jq (q_pickT rfl rfl) ?_
 refine Jq (q_assign rfl) ?_
 refine L_then ?_
 refine C_ret ?_
 exact ret_of (res1 rfl rfl) sub_nil (by intro r hr; cases hr) ⟨rfl, rfl⟩
end Go.Proofs.YthilaakeimfedaaGreatDoor
