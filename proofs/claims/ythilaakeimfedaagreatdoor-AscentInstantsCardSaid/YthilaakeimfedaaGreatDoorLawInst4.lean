/-
  Walks: each function named returns what its model says. Conditions: those in front of each theorem.
-/
import Derived.Test.YthilaakeimfedaaGreatDoorAR
import Derived.Test.YthilaakeimfedaaGreatDoorLH
import Derived.Test.YthilaakeimfedaaGreatDoorLHs
import Derived.Test.YthilaakeimfedaaGreatDoorLHe
import Derived.Test.YthilaakeimfedaaGreatDoorAU
namespace Go.Proofs.YthilaakeimfedaaGreatDoor
open Go.RowKit

set_option maxRecDepth 100000 in
set_option maxHeartbeats 4000000 in
theorem ct_shotlinelaw04_AscentInstants (v u z : Value) (x : Asc) (a b : Value) (L : List Dl) (F : List Int) (p q r : Int) : CtQ KQ Tryz.prog 13 [.agg (cAt v u z x).toArray, .agg #[a, b], .agg #[.int .i64 p, .int .i64 q, .int .i64 r]] [(v, 4, x.ts.map cCp), (u, 4, x.ls.map cLd), (z, 3, x.gs.map cAg), (a, 3, L.map cDl), (b, 1, F.map cI)] (isV (.bool true)) := by
 refine CtQ.of (N := 206) Tryz.func13 rfl rfl rfl fun w hQ => ?_
 refine C_weak (E' := [(0, .agg (cAt v u z x).toArray), (1, .agg #[a, b]), (2, .agg #[.int .i64 p, .int .i64 q, .int .i64 r])]) (rs' := [rd v 4 (x.ts.map cCp), rd u 4 (x.ls.map cLd), rd z 3 (x.gs.map cAg), rd a 3 (L.map cDl), rd b 1 (F.map cI)]) ⟨rfl, rfl, rfl, trivial⟩ (fun _ h => h) ?_
 have hl1 := len_map cCp x.ts
 have hl2 := len_map cLd x.ls
 have hl3 := len_map cAg x.gs
 have hl4 := len_map cDl L
 have hl5 := len_map cI F
 refine C_seq ?_
 refine C_region ?_
 refine L_box rfl rfl rfl fun g3 => ?_
 refine L_box rfl rfl rfl fun g4 => ?_
 refine L_box rfl rfl rfl fun g5 => ?_
 refine Jq (q_assign rfl) ?_
 refine L_then ?_
 refine C_seq ?_
 refine C_seq ?_
 refine C_region ?_
 refine L_lo rfl rfl rfl (lo_callQ tb stQ hQ rfl rfl (ct_shotlinelaw04_awake) no_ps isV_sinks) ?_
 rintro _ _ ⟨rfl, rfl⟩
 refine Jq (q_not rfl rfl) ?_
 refine L_then ?_
 refine C_false rfl ?_
 refine C_skip_then ?_
 refine C_seq ?_
 refine C_seq ?_
 refine C_region ?_
 refine Jq (q_loadA tb rfl rfl bxo rfl rfl) ?_
 refine L_call tb rfl rfl (ct_shotlinelaw04_Light v u z x) (ps_cons gvo (ps_cons gvo (ps_cons gvo no_ps))) rfl ?_
 refine Jq (q_not rfl decide_not.symm) ?_
 refine Jq (q_move rfl) ?_
 refine L_dec (d := 27) rfl (fun hl => ?_) (fun hl => ?_)
 iterate 3 refine Jk ?_
 refine Jq (q_pickT rfl rfl) ?_
 refine Jq (q_move rfl) ?_
 iterate 4 refine Jk ?_
 refine Jq (q_pickT rfl rfl) ?_
 refine Jq (q_move rfl) ?_
 iterate 4 refine Jk ?_
 refine Jq (q_pickT rfl rfl) ?_
 refine L_then ?_
 refine C_true rfl ?_
 refine C_seq ?_
 refine C_region ?_
 refine Jq (q_assign rfl) ?_
 refine L_then ?_
 refine C_ret ?_
 exact ret_of (res1 rfl rfl) sub_nil (by intro r hr; cases hr) ⟨rfl, rfl⟩
 refine Jg (q_loadA tb rfl rfl bxo rfl rfl) ?_
 refine L_callg tb rfl rfl rfl rfl rfl rfl (ct_shotlinelaw04_short a b L F) (ps_cons gvo (ps_cons gvo no_ps)) rfl ?_
 refine Jg (q_not rfl decide_not.symm) ?_
 refine Jq (q_pickF rfl rfl) ?_
 refine Jq (q_move rfl) ?_
 refine L_dec (d := 32) rfl (fun hs => ?_) (fun hs => ?_)
 iterate 4 refine Jk ?_
 refine Jq (q_pickT rfl rfl) ?_
 refine Jq (q_move rfl) ?_
 iterate 4 refine Jk ?_
 refine Jq (q_pickT rfl rfl) ?_
 refine L_then ?_
 refine C_true rfl ?_
 refine C_seq ?_
 refine C_region ?_
 refine Jq (q_assign rfl) ?_
 refine L_then ?_
 refine C_ret ?_
 exact ret_of (res1 rfl rfl) sub_nil (by intro r hr; cases hr) ⟨rfl, rfl⟩
 refine Jg (q_field tb rfl rfl rfl) ?_
 refine Jg (q_load tb rfl rfl bxo rfl) ?_
 refine Jg (q_len tb rfl rfl gvo) ?_
 refine Jg (q_eql rfl rfl) ?_
 refine Jq (q_pickF rfl rfl) ?_
 refine Jq (q_move rfl) ?_
 refine L_dec (d := 38) rfl (fun hn0 => ?_) (fun hn0 => ?_)
 iterate 4 refine Jk ?_
 refine Jq (q_pickT rfl rfl) ?_
 refine L_then ?_
 refine C_true rfl ?_
 refine C_seq ?_
 refine C_region ?_
 refine Jq (q_assign rfl) ?_
 refine L_then ?_
 refine C_ret ?_
 exact ret_of (res1 rfl rfl) sub_nil (by intro r hr; cases hr) ⟨rfl, rfl⟩
 refine Jg (q_field tb rfl rfl rfl) ?_
 refine Jg (q_load tb rfl rfl bxo rfl) ?_
 refine Jg (q_len tb rfl rfl gvo) ?_
 refine Jg (q_gtr rfl rfl) ?_
 refine Jq (q_pickF rfl rfl) ?_
 refine L_then ?_
 refine C_dec rfl (fun hn30 => ?_) (fun hn30 => ?_)
 refine C_seq ?_
 refine C_region ?_
 refine Jq (q_assign rfl) ?_
 refine L_then ?_
 refine C_ret ?_
 exact ret_of (res1 rfl rfl) sub_nil (by intro r hr; cases hr) ⟨rfl, rfl⟩
 have hL := light_len (Decidable.not_not.1 hl)
 have hsh := Decidable.not_not.1 hs
 obtain ⟨hs1, hs2⟩ := hsh
 have hlb4 : L.length ≤ 402 := by omega
 refine C_skip_then ?_
 refine C_seq ?_
 refine C_seq ?_
 refine C_draw (n := 10) [(0, false), (2, false), (1, true), (3, true), (4, true), (5, false), (6, false), (7, false), (8, false), (9, false)] mixed (by kernel_rfl) ?_
 refine Yq rfl (q_loadA tb rfl rfl bxo rfl rfl) ?_
 refine Yq rfl (q_loadA tb rfl rfl bxo rfl rfl) ?_
 refine W_lo rfl rfl rfl rfl (lo_call tb rfl rfl (ct_shotlinelaw04_own v u z x (by omega) (by omega) (by omega)) (ps_cons gvo (ps_cons gvo (ps_cons gvo no_ps))) isTo_sinks) ?_
 rintro _ _ ⟨A46, n46, c46, B46, m46, d46, C46, k46, e46, rfl, rfl⟩
 refine W_lo rfl rfl rfl rfl (lo_call tb rfl rfl (ct_shotlinelaw04_schedule a b L F (by omega) (by omega)) (ps_cons gvo (ps_cons gvo no_ps)) isSo_sinks) ?_
 rintro _ _ ⟨A48, n48, c48, B48, m48, d48, rfl, rfl⟩
 refine W_call tb rfl rfl rfl rfl (ct_ascent_CheckSchedule _ _ _ x _ _ L F (by omega) (by omega) (by omega) (by omega) (by omega)) (ps_cons gvo (ps_cons gvo (ps_cons gvo (ps_cons gvo (ps_cons gvo no_ps))))) rfl ?_
 refine Yq rfl (q_move rfl) ?_
 refine Yq rfl (q_ext0 rfl) ?_
 refine Yq rfl (q_ext1 rfl) ?_
 refine Yq rfl (q_assign rfl) ?_
 refine Yq rfl (q_assign rfl) ?_
 refine W_nil ?_
 refine L_then ?_
 refine C_seq ?_
 refine C_region ?_
 refine Jq (q_move rfl) ?_
 refine Jq (q_neq rfl rfl) ?_
 refine L_then ?_
 refine C_dec rfl (fun he => ?_) (fun he => ?_)
 refine C_seq ?_
 refine C_region ?_
 refine Jq (q_assign rfl) ?_
 refine L_then ?_
 refine C_ret ?_
 exact ret_of (res1 rfl rfl) sub_nil (by intro r hr; cases hr) ⟨rfl, rfl⟩
 obtain ⟨H, hS, hfl, hkp⟩ := cs_ok (Decidable.not_not.1 he)
 have hSn := hS.n; have hSl := hS.l; have hrf := H.r.fi
 have hm1 := Int.emod_nonneg p (show (L.length : Int) ≠ 0 by omega)
 have hm2 := Int.emod_lt_of_pos p (show 0 < (L.length : Int) by omega)
 obtain ⟨i, hi⟩ := Int.eq_ofNat_of_zero_le hm1
 rw [hi] at hm2
 have hfe : flwE x L F = 0 := by rw [flwE_3 H.ck hS.ck]; exact hfl
 obtain ⟨z9, f9, hlz, hf9, han9⟩ := sch_at hS (k := i) (by omega); have helz := map_get cDl hlz
 obtain ⟨_, _, _, hf6⟩ := han9
 obtain ⟨g, hg⟩ := Int.eq_ofNat_of_zero_le (Int.emod_nonneg r (show (3 : Int) ≠ 0 by decide))
 have hg3 := Int.emod_lt_of_pos r (show (0 : Int) < 3 by decide)
 rw [hg] at hg3
 refine C_skip_then ?_
 refine C_seq ?_
 refine C_region ?_
 refine Jq (by first | exact q_index tb rfl rfl rfl rfl gvo (by omega) (by first | omega | (simp; done) | (simp; omega)) | exact q_indexP tb rfl rfl rfl rfl (by omega) (by omega)) ?_
 refine Jq (by first | exact q_load tb rfl rfl bxo rfl | exact q_loadE tb rfl rfl gvo (by omega) (by simp) rfl) ?_
 refine Jq (q_field tb rfl rfl rfl) ?_
 refine Jq (q_load tb rfl rfl bxo rfl) ?_
 refine Jq (q_len tb rfl rfl gvo) ?_
 refine L_call tb rfl rfl (ct_shotlinebase_Mod p ((L.map cDl).length : Int) (by omega)) no_ps rfl ?_
 rw [hl4, hi]
 refine Jq (q_assign rfl) ?_
 refine L_then ?_
 refine C_seq ?_
 refine C_region ?_
 refine Jq (q_loadA tb rfl rfl bxo rfl rfl) ?_
 refine L_lo rfl rfl rfl (lo_call tb rfl rfl (ct_shotlinelaw04_own v u z x (by omega) (by omega) (by omega)) (ps_cons gvo (ps_cons gvo (ps_cons gvo no_ps))) isTo_sinks) ?_
 rintro _ _ ⟨A61, n61, c61, B61, m61, d61, C61, k61, e61, rfl, rfl⟩
 refine L_alloc tb rfl rfl fun g10 => ?_
 refine L_st tb rfl rfl ?_
 refine L_then ?_
 refine C_cut (ι := Value × Value × Value × List Tri) (fun o => ([(3, .pointer (some ⟨g3, 0, none⟩)), (4, .pointer (some ⟨g4, 0, none⟩)), (5, .pointer (some ⟨g5, 0, none⟩)), (9, .int .i64 (i : Int)), (10, .pointer (some ⟨g10, 0, none⟩))], (box g10 28 (cAt o.1 o.2.1 o.2.2.1 (behA x L i)) :: sl (.slice A61 n61 c61) 66 4 (x.ts.map cCp) :: sl (.slice B61 m61 d61) 139 4 (x.ls.map cLd) :: sl (.slice C61 k61 e61) 144 3 (x.gs.map cAg) :: box g4 74 [a, b] :: box g5 109 [.int .i64 p, .int .i64 q, .int .i64 r] :: box g3 28 (cAt v u z x) :: rd v 4 (x.ts.map cCp) :: rd u 4 (x.ls.map cLd) :: rd z 3 (x.gs.map cAg) :: rd a 3 (L.map cDl) :: rd b 1 (F.map cI) :: tkR 66 139 144 x L o.2.2.2))) (fun o => GvR (sl (.slice A61 n61 c61) 66 4 (x.ts.map cCp) :: sl (.slice B61 m61 d61) 139 4 (x.ls.map cLd) :: sl (.slice C61 k61 e61) 144 3 (x.gs.map cAg) :: box g4 74 [a, b] :: box g5 109 [.int .i64 p, .int .i64 q, .int .i64 r] :: box g3 28 (cAt v u z x) :: rd v 4 (x.ts.map cCp) :: rd u 4 (x.ls.map cLd) :: rd z 3 (x.gs.map cAg) :: rd a 3 (L.map cDl) :: rd b 1 (F.map cI) :: tkR 66 139 144 x L o.2.2.2) o.1 4 ((behA x L i).ts.map cCp) ∧ GvR (sl (.slice A61 n61 c61) 66 4 (x.ts.map cCp) :: sl (.slice B61 m61 d61) 139 4 (x.ls.map cLd) :: sl (.slice C61 k61 e61) 144 3 (x.gs.map cAg) :: box g4 74 [a, b] :: box g5 109 [.int .i64 p, .int .i64 q, .int .i64 r] :: box g3 28 (cAt v u z x) :: rd v 4 (x.ts.map cCp) :: rd u 4 (x.ls.map cLd) :: rd z 3 (x.gs.map cAg) :: rd a 3 (L.map cDl) :: rd b 1 (F.map cI) :: tkR 66 139 144 x L o.2.2.2) o.2.1 4 ((behA x L i).ls.map cLd) ∧ GvR (sl (.slice A61 n61 c61) 66 4 (x.ts.map cCp) :: sl (.slice B61 m61 d61) 139 4 (x.ls.map cLd) :: sl (.slice C61 k61 e61) 144 3 (x.gs.map cAg) :: box g4 74 [a, b] :: box g5 109 [.int .i64 p, .int .i64 q, .int .i64 r] :: box g3 28 (cAt v u z x) :: rd v 4 (x.ts.map cCp) :: rd u 4 (x.ls.map cLd) :: rd z 3 (x.gs.map cAg) :: rd a 3 (L.map cDl) :: rd b 1 (F.map cI) :: tkR 66 139 144 x L o.2.2.2) o.2.2.1 3 ((behA x L i).gs.map cAg)) ?_ ?_
 refine C_seq ?_
 refine C_region ?_
 refine Jq (q_move rfl) ?_
 refine Jq (q_gtr rfl rfl) ?_
 refine L_then ?_
 refine C_dec rfl (fun hi0 => ?_) (fun hi0 => ?_)
 refine C_seq ?_
 refine C_draw (n := 10) [(0, false), (2, false), (1, true), (3, true), (4, true), (5, false), (6, false), (7, false), (8, false), (9, false)] mixed (by kernel_rfl) ?_
 refine Yq rfl (q_loadA tb rfl rfl bxo rfl rfl) ?_
 refine Yq rfl (q_loadA tb rfl rfl bxo rfl rfl) ?_
 refine W_lo rfl rfl rfl rfl (lo_call tb rfl rfl (ct_shotlinelaw04_own v u z x (by omega) (by omega) (by omega)) (ps_cons gvo (ps_cons gvo (ps_cons gvo no_ps))) isTo_sinks) ?_
 rintro _ _ ⟨A66, n66, c66, B66, m66, d66, C66, k66, e66, rfl, rfl⟩
 refine W_lo rfl rfl rfl rfl (lo_call tb rfl rfl (ct_shotlinelaw04_schedule a b L F (by omega) (by omega)) (ps_cons gvo (ps_cons gvo no_ps)) isSo_sinks) ?_
 rintro _ _ ⟨A68, n68, c68, B68, m68, d68, rfl, rfl⟩
 refine W_lo rfl rfl rfl rfl (lo_call tb rfl rfl (ct_ascent_Following _ _ _ x _ _ L F (by omega) (by omega) (by omega) (by omega) (by omega)) (ps_cons gvo (ps_cons gvo (ps_cons gvo (ps_cons gvo (ps_cons gvo no_ps))))) FlwP_sinks) ?_
 rintro _ _ ⟨s69, T69, rfl, rfl, hl69⟩
 refine Yq rfl (q_move rfl) ?_
 rw [hfe] at hl69 ⊢
 rw [if_pos rfl] at hl69
 refine Yq rfl (q_ext0 rfl) ?_
 refine Yq rfl (q_ext1 rfl) ?_
 refine Yq rfl (q_assign rfl) ?_
 refine Yq rfl (q_assign rfl) ?_
 refine W_nil ?_
 refine L_then ?_
 refine C_seq ?_
 refine C_seq ?_
 refine C_region ?_
 refine Jq (q_move rfl) ?_
 refine Jq (q_false (q_neq rfl rfl) (decide_eq_false fun h => h rfl)) ?_
 refine Jq (q_move rfl) ?_
 refine Jg (q_move rfl) ?_
 refine Jg (q_len tb rfl rfl gvo) ?_
 refine Jg (q_field tb rfl rfl rfl) ?_
 refine Jg (q_load tb rfl rfl bxo rfl) ?_
 refine Jg (q_len tb rfl rfl gvo) ?_
 refine Jg (q_false (q_neq rfl rfl) (decide_eq_false fun h => h (by rw [tkC_len, List.length_map, hl69]))) ?_
 refine Jq (q_pickF rfl rfl) ?_
 refine L_then ?_
 refine C_false rfl ?_
 refine C_res (rs' := (box g10 28 (cAt (.slice A61 n61 c61) (.slice B61 m61 d61) (.slice C61 k61 e61) x) :: sl s69 28 12 (tkC x L T69) :: sl (.slice A61 n61 c61) 66 4 (x.ts.map cCp) :: sl (.slice B61 m61 d61) 139 4 (x.ls.map cLd) :: sl (.slice C61 k61 e61) 144 3 (x.gs.map cAg) :: box g4 74 [a, b] :: box g5 109 [.int .i64 p, .int .i64 q, .int .i64 r] :: box g3 28 (cAt v u z x) :: rd v 4 (x.ts.map cCp) :: rd u 4 (x.ls.map cLd) :: rd z 3 (x.gs.map cAg) :: rd a 3 (L.map cDl) :: rd b 1 (F.map cI) :: tkR 66 139 144 x L T69)) (fun _ h_ => h_.pk (by repeat (first | with_reducible exact pk_nil | refine pk_box rfl ?_ | refine pk_rd rfl ?_ | refine pk_sl rfl ?_ | with_reducible refine pk_app ?_ | with_reducible refine pk_app0 ?_ | with_reducible refine pk_app0L ?_ | with_reducible exact pk_tl | refine pk_var ?_))) ?_
 have hk3 : i - 1 + 1 = i := by omega
 obtain ⟨⟨q1, q2, q3⟩, hqa⟩ := rev_at (k := i - 1) hl69 (by omega)
 have helA := tkC_get (x := x) (L := L) hqa
 have hg1 := gv_tk1 (x := x) (L := L) (tc := 66) (tl := 139) (tg := 144) hqa
 have hg2 := gv_tk2 (x := x) (L := L) (tc := 66) (tl := 139) (tg := 144) hqa
 have hg3 := gv_tk3 (x := x) (L := L) (tc := 66) (tl := 139) (tg := 144) hqa
 rw [hk3] at helA hg1 hg2 hg3
 dsimp only at helA hg1 hg2 hg3
 refine C_form (v := q1) (gv1 (gv1 (gv1 (gv1 (gv1 (gv1 (gv1 (gv1 (gv1 (gv1 (gv1 (gv1 (gv1 (hg1)))))))))))))) (fun Aq1 cq1 hvq1 _ => ?_)
 subst hvq1
 refine C_form (v := q2) (gv1 (gv1 (gv1 (gv1 (gv1 (gv1 (gv1 (gv1 (gv1 (gv1 (gv1 (gv1 (gv1 (hg2)))))))))))))) (fun Aq2 cq2 hvq2 _ => ?_)
 subst hvq2
 refine C_form (v := q3) (gv1 (gv1 (gv1 (gv1 (gv1 (gv1 (gv1 (gv1 (gv1 (gv1 (gv1 (gv1 (gv1 (hg3)))))))))))))) (fun Aq3 cq3 hvq3 _ => ?_)
 subst hvq3
 have htl9 := tkC_len (x := x) (L := L) T69
 refine C_skip_then ?_
 refine C_region ?_
 refine Jq (q_move rfl) ?_
 refine Jq (q_move rfl) ?_
 refine Jq (q_sub rfl rfl (by first | exact IntWalk.i64_in _ (by omega) | rfl)) ?_
 refine Jq (by first | exact q_index tb rfl rfl rfl rfl gvo (by omega) (by first | omega | (simp; done) | (simp; omega)) | exact q_indexP tb rfl rfl rfl rfl (by omega) (by omega)) ?_
 refine Jq (q_loadEA tb rfl rfl gvo (i := i - 1) (o := 0) (by omega) helA rfl rfl) ?_
 refine L_st tb rfl rfl ?_
 refine L_end ?_
 exact fun ac_ wo_ hs_ => ⟨(.slice Aq1 ((behA x L i).ts.map cCp).length cq1, .slice Aq2 ((behA x L i).ls.map cLd).length cq2, .slice Aq3 ((behA x L i).gs.map cAg).length cq3, T69), ⟨gv1 (gv1 (gv1 (gv1 (gv1 (gv1 (gv1 (gv1 (gv1 (gv1 (gv1 (hg1))))))))))), gv1 (gv1 (gv1 (gv1 (gv1 (gv1 (gv1 (gv1 (gv1 (gv1 (gv1 (hg2))))))))))), gv1 (gv1 (gv1 (gv1 (gv1 (gv1 (gv1 (gv1 (gv1 (gv1 (gv1 (hg3)))))))))))⟩, hs_.weak ⟨rfl, rfl, rfl, rfl, rfl, trivial⟩ (fun h_ => h_.pk (by repeat (first | with_reducible exact pk_nil | refine pk_box rfl ?_ | refine pk_rd rfl ?_ | refine pk_sl rfl ?_ | with_reducible refine pk_app ?_ | with_reducible refine pk_app0 ?_ | with_reducible refine pk_app0L ?_ | with_reducible exact pk_tl | refine pk_var ?_)))⟩
 obtain rfl : i = 0 := by omega
 refine C_skip ?_
 exact fun ac_ wo_ hs_ => ⟨(.slice A61 n61 c61, .slice B61 m61 d61, .slice C61 k61 e61, []), ⟨gvo, gvo, gvo⟩, hs_.weak ⟨rfl, rfl, rfl, rfl, rfl, trivial⟩ (fun h_ => (show WS _ _ (box g10 28 (cAt (.slice A61 n61 c61) (.slice B61 m61 d61) (.slice C61 k61 e61) x) :: sl (.slice A61 n61 c61) 66 4 (x.ts.map cCp) :: sl (.slice B61 m61 d61) 139 4 (x.ls.map cLd) :: sl (.slice C61 k61 e61) 144 3 (x.gs.map cAg) :: box g4 74 [a, b] :: box g5 109 [.int .i64 p, .int .i64 q, .int .i64 r] :: box g3 28 (cAt v u z x) :: rd v 4 (x.ts.map cCp) :: rd u 4 (x.ls.map cLd) :: rd z 3 (x.gs.map cAg) :: rd a 3 (L.map cDl) :: rd b 1 (F.map cI) :: []) _ from h_.pk (by repeat (first | with_reducible exact pk_nil | refine pk_box rfl ?_ | refine pk_rd rfl ?_ | refine pk_sl rfl ?_ | with_reducible refine pk_app ?_ | with_reducible refine pk_app0 ?_ | with_reducible refine pk_app0L ?_ | with_reducible exact pk_tl | refine pk_var ?_))))⟩
 rintro ⟨p1, p2, p3, T⟩ ⟨hp1, hp2, hp3⟩
 dsimp only at hp1 hp2 hp3 ⊢
 have HX : okAsc (behA x L i) := beh_ok H (by omega) fun j _ => flw_all hfl j
 have hck := flw_all hfl i z9 hlz
 obtain ⟨hfi, hk2⟩ := hkp i z9 f9 hlz hf9
 obtain ⟨X, hXe⟩ : ∃ X, X = (behA x L i) := ⟨_, rfl⟩
 rw [← hXe] at hp1 hp2 hp3 HX hck hk2 ⊢
 have hal := (ckAl_ok hck).1
 have haz : alE X z9 = 0 := by rw [alE_2 HX.ck]; exact hck
 obtain ⟨e1, e2, e3, e4⟩ := to_2 haz
 have hbX := beh_len HX; have hXsu := HX.su; have hXde := HX.de; have hzs := hal.s; have hzd := hal.d
 obtain ⟨Y, hYe⟩ : ∃ Y, Y = lgA X z9 := ⟨_, rfl⟩
 have es : Y.s = z9.s := by rw [hYe]; rfl
 have ef : Y.f = X.su + X.de := by rw [hYe]; rfl
 have et : Y.t = X.su + z9.d := by rw [hYe]; rfl
 have eg : Y.g = (agAt X.gs z9.g.toNat).g := by rw [hYe]; rfl
 have hfa : 0 ≤ faA X ∧ faA X ≤ 1000 := fac_in HX.r HX.de
 refine C_seq ?_
 refine C_wideF1 tb (k := 11) [(0, false), (2, false), (3, false), (4, false), (5, false), (6, false), (1, true), (7, true), (8, false), (9, false), (10, false)] [.s 12, .q 13] mixed (by kernel_rfl) rfl rfl rfl rfl (by kernel_rfl) rfl ?_
 refine X1_q rfl rfl rfl rfl (q_loadA tb rfl rfl bxo rfl rfl) ?_
 refine X1_q rfl rfl rfl rfl (q_field tb rfl rfl rfl) ?_
 refine X1_q rfl rfl rfl rfl (q_load tb rfl rfl bxo rfl) ?_
 refine X1_q rfl rfl rfl rfl (q_move rfl) ?_
 refine X1_q rfl rfl rfl rfl (by first | exact q_index tb rfl rfl rfl rfl gvo (by omega) (by first | omega | (simp; done) | (simp; omega)) | exact q_indexP tb rfl rfl rfl rfl (by omega) (by omega)) ?_
 refine X1_q rfl rfl rfl rfl (q_loadEA tb rfl rfl gvo (i := i) (o := 0) (by omega) helz rfl rfl) ?_
 refine X1_lo rfl rfl rfl rfl (lo_call tb rfl rfl (ct_shotlinelaw04_own p1 p2 p3 X (by omega) (by omega) (by omega)) (ps_cons (by first | exact gv1 hp1 | exact gv1 (gv1 hp1)) (ps_cons (by first | exact gv1 hp2 | exact gv1 (gv1 hp2)) (ps_cons (by first | exact gv1 hp3 | exact gv1 (gv1 hp3)) no_ps))) isTo_sinks) ?_
 rintro _ _ ⟨A89, n89, c89, B89, m89, d89, C89, k89, e89, rfl, rfl⟩
 dsimp only [List.cons_append, List.nil_append]
 refine X1_lo rfl rfl rfl rfl (lo_call tb rfl rfl (ct_ascent_TaskOf _ _ _ X z9 (by omega) (by omega) (by omega)) (ps_cons gvo (ps_cons gvo (ps_cons gvo no_ps))) isTe_sinks) ?_
 rintro _ _ ⟨A95, n95, c95, B95, m95, d95, rfl, rfl⟩
 dsimp only [List.cons_append, List.nil_append]
 refine X1_q rfl rfl rfl rfl (q_move rfl) ?_
 rw [e1, e2, e3, e4, haz, ← hYe]
 refine X1_q rfl rfl rfl rfl (q_ext0 rfl) ?_
 refine X1_q rfl rfl rfl rfl (q_ext1 rfl) ?_
 refine X1_nil ?_
 intro g13
 try dsimp only [List.cons_append, List.nil_append]
 first | refine X_store tb rfl rfl (List.Perm.refl _) rfl rfl rfl rfl rfl rfl rfl rfl ?_ | refine X_store tb rfl rfl perm1 rfl rfl rfl rfl rfl rfl rfl rfl ?_ | refine X_store tb rfl rfl (perm_front (pre := [_, _])) rfl rfl rfl rfl rfl rfl rfl rfl ?_ | refine X_store tb rfl rfl (perm_front (pre := [_, _, _])) rfl rfl rfl rfl rfl rfl rfl rfl ?_
 refine X_q rfl rfl rfl rfl (q_assign rfl) ?_
 refine X_nil ?_
 dsimp only [List.cons_append, List.nil_append]
 refine L_then ?_
 refine C_seq ?_
 refine C_seq ?_
 refine C_draw (n := 40) [(0, false), (1, false), (2, false), (3, false), (4, false), (5, false), (6, false), (7, false), (8, false), (9, false), (10, false), (11, false), (12, false), (13, false), (14, false), (15, false), (16, false), (17, false), (18, false), (19, false), (20, false), (21, false), (22, false), (23, false), (24, false), (25, false), (26, false), (27, false), (28, false), (29, false), (30, true), (31, false), (32, false), (33, false), (34, false), (35, false), (36, false), (37, true), (38, false), (39, false)] mixed (by kernel_rfl) ?_
 refine Yq rfl (q_move rfl) ?_
 refine Yq rfl (q_false (q_neq rfl rfl) (decide_eq_false fun h => h rfl)) ?_
 refine Yq rfl (q_move rfl) ?_
 refine Yg rfl (q_field tb rfl rfl rfl) ?_
 refine Yg rfl (q_field tb rfl rfl rfl) ?_
 refine Yg rfl (q_load tb rfl rfl bxo rfl) ?_
 refine Yg rfl (q_field tb rfl rfl rfl) ?_
 refine Yg rfl (q_load tb rfl rfl bxo rfl) ?_
 refine Yg rfl (q_move rfl) ?_
 refine Yg rfl (by first | exact q_index tb rfl rfl rfl rfl gvo (by omega) (by first | omega | (simp; done) | (simp; omega)) | exact q_indexP tb rfl rfl rfl rfl (by omega) (by omega)) ?_
 refine Yg rfl (q_fieldE tb rfl rfl rfl gvo (by first | omega | (simp; done) | (simp; omega))) ?_
 refine Yg rfl (q_loadE tb rfl rfl gvo (i := i) (o := 0) (by omega) helz rfl) ?_
 refine Yg rfl (q_false (q_neq rfl rfl) (decide_eq_false fun h => h es)) ?_
 refine Yq rfl (q_pickF rfl rfl) ?_
 refine Yq rfl (q_move rfl) ?_
 refine Yg rfl (q_field tb rfl rfl rfl) ?_
 refine Yg rfl (q_field tb rfl rfl rfl) ?_
 refine Yg rfl (q_load tb rfl rfl bxo rfl) ?_
 refine Yg rfl (q_false (q_lss rfl rfl) (decide_eq_false (by omega))) ?_
 refine Yq rfl (q_pickF rfl rfl) ?_
 refine Yq rfl (q_move rfl) ?_
 refine Yg rfl (q_field tb rfl rfl rfl) ?_
 refine Yg rfl (q_field tb rfl rfl rfl) ?_
 refine Yg rfl (q_load tb rfl rfl bxo rfl) ?_
 refine Yg rfl (q_false (q_gtr rfl rfl) (decide_eq_false (by omega))) ?_
 refine Yq rfl (q_pickF rfl rfl) ?_
 refine Yq rfl (q_move rfl) ?_
 refine Yg rfl (q_field tb rfl rfl rfl) ?_
 refine Yg rfl (q_field tb rfl rfl rfl) ?_
 refine Yg rfl (q_load tb rfl rfl bxo rfl) ?_
 refine W_callg tb rfl rfl rfl rfl rfl rfl rfl rfl (ct_shotlineref03_IsPressure Y.f) no_ps rfl ?_
 refine Yg rfl (q_not rfl decide_not.symm) ?_
 refine Yq rfl (q_pickF rfl rfl) ?_
 refine Yq rfl (q_move rfl) ?_
 refine W_dec (d := 131) rfl (fun h131 => ?_) (fun h131 => ?_)
 exact absurd (show 400 ≤ Y.f ∧ Y.f ≤ 31100 by omega) h131
 refine Yg rfl (q_field tb rfl rfl rfl) ?_
 refine Yg rfl (q_field tb rfl rfl rfl) ?_
 refine Yg rfl (q_load tb rfl rfl bxo rfl) ?_
 refine W_callg tb rfl rfl rfl rfl rfl rfl rfl rfl (ct_shotlineref03_IsPressure Y.t) no_ps rfl ?_
 refine Yg rfl (q_not rfl decide_not.symm) ?_
 refine Yq rfl (q_pickF rfl rfl) ?_
 refine W_nil ?_
 refine L_then ?_
 refine C_dec rfl (fun h137 => ?_) (fun h137 => ?_)
 exact absurd (show 400 ≤ Y.t ∧ Y.t ≤ 31100 by omega) h137
 refine C_skip_then ?_
 refine C_seq ?_
 refine C_region ?_
 refine Jq (by first | exact q_index tb rfl rfl rfl rfl gvo (by omega) (by first | omega | (simp; done) | (simp; omega)) | exact q_indexP tb rfl rfl rfl rfl (by omega) (by omega)) ?_
 have hm3 := Int.emod_nonneg q (show Y.s ≠ 0 by omega)
 have hm4 := Int.emod_lt_of_pos q (show 0 < Y.s by omega)
 refine Jq (by first | exact q_load tb rfl rfl bxo rfl | exact q_loadE tb rfl rfl gvo (by omega) (by simp) rfl) ?_
 refine Jq (q_field tb rfl rfl rfl) ?_
 refine Jq (q_field tb rfl rfl rfl) ?_
 refine Jq (q_load tb rfl rfl bxo rfl) ?_
 refine L_call tb rfl rfl (ct_shotlinebase_Mod q Y.s (by omega)) no_ps rfl ?_
 refine Jq (q_add rfl rfl (by first | exact IntWalk.i64_in _ (by omega) | rfl)) ?_
 obtain ⟨σ, hσ⟩ : ∃ σ, σ = 1 + q % Y.s := ⟨_, rfl⟩
 rw [← hσ]
 have hrb := rise_bd (a := Y.t - Y.f) (s := σ) (by omega) (by omega)
 refine Jq (q_assign rfl) ?_
 refine L_then ?_
 refine C_seq ?_
 refine C_region ?_
 refine Jq (q_field tb rfl rfl rfl) ?_
 refine Jq (q_field tb rfl rfl rfl) ?_
 refine Jq (q_load tb rfl rfl bxo rfl) ?_
 refine Jq (q_field tb rfl rfl rfl) ?_
 refine Jq (q_field tb rfl rfl rfl) ?_
 refine Jq (q_load tb rfl rfl bxo rfl) ?_
 refine Jq (q_sub rfl rfl (by first | exact IntWalk.i64_in _ (by omega) | rfl)) ?_
 refine Jq (q_move rfl) ?_
 refine Jq (q_mul rfl rfl (by first | exact IntWalk.i64_in _ (by omega) | rfl)) ?_
 refine Jq (q_assign rfl) ?_
 refine L_then ?_
 refine C_seq ?_
 refine C_seq ?_
 refine C_region ?_
 refine Jq (q_move rfl) ?_
 refine Jq (q_field tb rfl rfl rfl) ?_
 refine Jq (q_field tb rfl rfl rfl) ?_
 refine Jq (q_load tb rfl rfl bxo rfl) ?_
 refine Jq (q_rem rfl rfl (by omega) rfl) ?_
 refine Jq (q_neq rfl rfl) ?_
 refine L_then ?_
 refine C_dec rfl (fun hmod => ?_) (fun hmod => ?_)
 refine C_seq ?_
 refine C_region ?_
 refine Jq (q_assign rfl) ?_
 refine L_then ?_
 refine C_ret ?_
 exact ret_of (res1 rfl rfl) sub_nil (by intro r hr; cases hr) ⟨rfl, rfl⟩
 have hm0 := Decidable.not_not.1 hmod
 obtain ⟨d, hd⟩ := Int.dvd_of_tmod_eq_zero hm0
 have hd2 : (z9.d - X.de) * σ = z9.s * d := by rw [← es, ← hd, et, ef]; congr 1; omega
 obtain ⟨fn, hfn⟩ := Int.eq_ofNat_of_zero_le (show 0 ≤ f9 by omega)
 rw [hfn] at hk2
 have hin := at_inst (g := g) HX hal (show fn ≤ 6 by omega) (show g ≤ 6 by omega) (show 1 ≤ σ ∧ σ ≤ z9.s by omega) hd2 hk2
 rw [← ef, ← eg] at hin
 obtain ⟨hcy, hyt, hlo, hk9⟩ := hin
 have hyt9 : 400 ≤ Y.f + d ∧ Y.f + d ≤ 31100 := hyt
 have hca := ckAt_yes hlo hyt hfa
 have hll := loadedM_len (x := ⟨Y.f, Y.f + d, σ, Y.g⟩) (f := g) HX.k.len
 rw [hd]
 refine C_skip_then ?_
 refine C_seq ?_
 refine C_region ?_
 refine Jq (q_field tb rfl rfl rfl) ?_
 refine Jq (q_loadA tb rfl rfl bxo rfl rfl) ?_
 refine L_alloc tb rfl rfl fun g17 => ?_
 refine L_st tb rfl rfl ?_
 refine L_then ?_
 refine C_seq ?_
 refine Kp.C_own1 [.q 0, .q 1, .q 2, .q 3, .q 4, .q 5, .q 6, .q 7, .q 8, .q 9, .q 10, .s 11, .q 12, .s 13] mixed (by kernel_rfl) rfl (by kernel_rfl) ?_
 refine Kp.X_q rfl rfl rfl rfl (q_move rfl) ?_
 refine Kp.X_q rfl rfl rfl rfl (q_field tb rfl rfl rfl) ?_
 refine Kp.X_q rfl rfl rfl rfl (q_field tb rfl rfl rfl) ?_
 refine Kp.X_q rfl rfl rfl rfl (q_load tb rfl rfl bxo rfl) ?_
 refine Kp.X_q rfl rfl rfl rfl (q_move rfl) ?_
 refine Kp.X_q rfl rfl rfl rfl (q_field tb rfl rfl rfl) ?_
 refine Kp.X_q rfl rfl rfl rfl (q_field tb rfl rfl rfl) ?_
 refine Kp.X_q rfl rfl rfl rfl (q_load tb rfl rfl bxo rfl) ?_
 refine Kp.X_q rfl rfl rfl rfl (q_quo rfl rfl (by omega) (by exact (congrArg _ (quo_ex (by omega))).trans (IntWalk.i64_in _ (by omega)))) ?_
 refine Kp.X_q rfl rfl rfl rfl (q_add rfl rfl (by first | exact IntWalk.i64_in _ (by omega) | rfl)) ?_
 refine Kp.X_q rfl rfl rfl rfl (q_field tb rfl rfl rfl) ?_
 first | refine Kp.X_store tb rfl rfl (List.Perm.refl _) rfl rfl rfl rfl rfl rfl rfl rfl ?_ | refine Kp.X_store tb rfl rfl perm1 rfl rfl rfl rfl rfl rfl rfl rfl ?_ | refine Kp.X_store tb rfl rfl (perm_front (pre := [_, _])) rfl rfl rfl rfl rfl rfl rfl rfl ?_ | refine Kp.X_store tb rfl rfl (perm_front (pre := [_, _, _])) rfl rfl rfl rfl rfl rfl rfl rfl ?_
 refine Kp.X_q rfl rfl rfl rfl (q_field tb rfl rfl rfl) ?_
 first | refine Kp.X_store tb rfl rfl (List.Perm.refl _) rfl rfl rfl rfl rfl rfl rfl rfl ?_ | refine Kp.X_store tb rfl rfl perm1 rfl rfl rfl rfl rfl rfl rfl rfl ?_ | refine Kp.X_store tb rfl rfl (perm_front (pre := [_, _])) rfl rfl rfl rfl rfl rfl rfl rfl ?_ | refine Kp.X_store tb rfl rfl (perm_front (pre := [_, _, _])) rfl rfl rfl rfl rfl rfl rfl rfl ?_
 refine Kp.X_nil ?_
 dsimp only [List.cons_append, List.nil_append]
 refine L_then ?_
 refine C_seq ?_
 refine C_draw (n := 14) [(0, false), (1, false), (2, false), (3, false), (4, false), (5, false), (6, false), (7, true), (8, true), (9, false), (10, false), (11, false), (12, false), (13, false)] mixed (by kernel_rfl) ?_
 refine Yq rfl (q_field tb rfl rfl rfl) ?_
 refine Yq rfl (q_load tb rfl rfl bxo rfl) ?_
 refine Yq rfl (q_field tb rfl rfl rfl) ?_
 refine Yq rfl (q_load tb rfl rfl bxo rfl) ?_
 refine Yq rfl (q_loadA tb rfl rfl bxo rfl rfl) ?_
 refine Yq rfl (by first | exact q_index tb rfl rfl rfl rfl gvo (by omega) (by first | omega | (simp; done) | (simp; omega)) | exact q_indexP tb rfl rfl rfl rfl (by omega) (by omega)) ?_
 refine Yq rfl (by first | exact q_load tb rfl rfl bxo rfl | exact q_loadE tb rfl rfl gvo (by omega) (by simp) rfl) ?_
 refine W_call tb rfl rfl rfl rfl (ct_shotlinebase_Mod r 3 (by omega)) no_ps rfl ?_
 rw [hg]
 refine W_callSN tb rfl rfl rfl rfl (ct_tissue_Loaded _ _ ⟨Y.f, Y.f + d, σ, Y.g⟩ (g : Int) X.ts X.ls (by omega) (by omega)) (ps_cons gvo (ps_cons gvo no_ps)) rfl fun v183 => ?_
 refine Yq rfl (q_move rfl) ?_
 rw [loadedE_4 (fun hh => hh (ckLoads_mk HX.k)) (fun hh => hh hcy) (show g ≤ 6 by omega)]
 refine Yq rfl (q_ext0 rfl) ?_
 refine Yq rfl (q_ext1 rfl) ?_
 refine Yq rfl (q_assign rfl) ?_
 refine Yq rfl (q_assign rfl) ?_
 refine W_nil ?_
 refine L_then ?_
 refine C_seq ?_
 refine C_seq ?_
 refine C_region ?_
 refine Jq (q_move rfl) ?_
 refine Jq (q_false (q_neq rfl rfl) (decide_eq_false fun h => h rfl)) ?_
 refine L_then ?_
 refine C_false rfl ?_
 refine C_skip_then ?_
 refine C_seq ?_
 refine C_region ?_
 refine Jq (q_field tb rfl rfl rfl) ?_
 refine Jq (q_load tb rfl rfl bxo rfl) ?_
 refine Jq (q_move rfl) ?_
 refine Jq (q_field tb rfl rfl rfl) ?_
 refine Jq (q_load tb rfl rfl bxo rfl) ?_
 refine Jq (q_field tb rfl rfl rfl) ?_
 refine Jq (q_load tb rfl rfl bxo rfl) ?_
 refine Jq (by first | exact q_build tb rfl rfl rfl rfl | exact q_buildArr tb rfl rfl rfl rfl rfl) ?_
 refine L_call tb rfl rfl (ct_tissue_KeptAt _ _ (Y.f + d) (faA X) X.ts (loadedM X.ts X.ls ⟨Y.f, Y.f + d, σ, Y.g⟩ g) (by omega) (by omega)) (ps_cons gvo (ps_cons gvo no_ps)) rfl ?_
 refine Jq (q_move rfl) ?_
 rw [keptE_ok hca]
 refine Jq (q_ext0 rfl) ?_
 refine Jq (q_ext1 rfl) ?_
 refine Jq (q_assign rfl) ?_
 refine Jq (q_assign rfl) ?_
 refine L_then ?_
 refine C_seq ?_
 refine C_region ?_
 refine Jq (q_move rfl) ?_
 refine Jq (q_true (q_eql rfl rfl) (decide_eq_true rfl)) ?_
 refine Jq (q_move rfl) ?_
 refine Jg (q_move rfl) ?_
 refine Jg (q_true (q_neq rfl rfl) (decide_eq_true hk9)) ?_
 refine Jq (q_pickT rfl rfl) ?_
 refine Jq (q_assign rfl) ?_
 refine L_then ?_
 refine C_ret ?_
 exact ret_of (res1 rfl rfl) sub_nil (by intro r hr; cases hr) ⟨rfl, rfl⟩
end Go.Proofs.YthilaakeimfedaaGreatDoor
