/-
  Walks: each function named returns what its model says. Conditions: those in front of each theorem.
-/
import Derived.Test.YthilaakeimfedaaGreatDoorAs14
import Derived.Test.YthilaakeimfedaaGreatDoorAY
import Derived.Test.YthilaakeimfedaaGreatDoorLH
import Derived.Test.YthilaakeimfedaaGreatDoorAW
import Derived.Test.YthilaakeimfedaaGreatDoorT
import Derived.Test.YthilaakeimfedaaGreatDoorAs15
namespace Go.Proofs.YthilaakeimfedaaGreatDoor
open Go.RowKit

set_option maxRecDepth 100000 in
set_option maxHeartbeats 4000000 in
theorem ct_shotlinetop_TopRestsAndRepeats (v u z : Value) (x : Asc) (s : Int) : CtQ KQ Tryz.prog 17 [.agg (cAt v u z x).toArray, .int .i64 s] [(v, 4, x.ts.map cCp), (u, 4, x.ls.map cLd), (z, 3, x.gs.map cAg)] (isV (.bool true)) := by
 refine CtQ.of (N := 195) Tryz.func17 rfl rfl rfl fun w hQ => ?_
 refine C_weak (E' := [(0, .agg (cAt v u z x).toArray), (1, .int .i64 s)]) (rs' := [rd v 4 (x.ts.map cCp), rd u 4 (x.ls.map cLd), rd z 3 (x.gs.map cAg)]) ⟨rfl, rfl, trivial⟩ (fun _ h => h) ?_
 have hl1 := len_map cCp x.ts
 have hl2 := len_map cLd x.ls
 have hl3 := len_map cAg x.gs
 refine C_form (v := v) gvo (fun Av cv hv _ => ?_)
 subst hv
 refine C_form (v := u) gvo (fun Au cu hu _ => ?_)
 subst hu
 refine C_form (v := z) gvo (fun Az cz hz _ => ?_)
 subst hz
 refine C_seq ?_
 refine C_region ?_
 refine L_box rfl rfl rfl fun g2 => ?_
 refine Jq (q_assign rfl) ?_
 refine L_then ?_
 refine C_seq ?_
 refine C_seq ?_
 refine C_region ?_
 refine L_lo rfl rfl rfl (lo_callQ tb stQ hQ rfl rfl (ct_shotlinetop_risen) no_ps isV_sinks) ?_
 rintro _ _ ⟨rfl, rfl⟩
 refine Jq (q_not rfl rfl) ?_
 refine L_then ?_
 refine C_false rfl ?_
 refine C_skip_then ?_
 refine C_seq ?_
 refine C_seq ?_
 refine C_region ?_
 refine Jq (q_loadA tb rfl rfl bxo rfl rfl) ?_
 refine L_call tb rfl rfl (ct_shotlinelaw04_Light _ _ _ x) (ps_cons gvo (ps_cons gvo (ps_cons gvo no_ps))) rfl ?_
 refine Jq (q_not rfl decide_not.symm) ?_
 refine Jq (q_move rfl) ?_
 refine L_dec (d := 22) rfl (fun hl => ?_) (fun hl => ?_)
 iterate 3 refine Jk ?_
 refine Jq (q_pickT rfl rfl) ?_
 refine Jq (q_move rfl) ?_
 iterate 3 refine Jk ?_
 refine Jq (q_pickT rfl rfl) ?_
 refine L_then ?_
 refine C_true rfl ?_
 refine C_seq ?_
 refine C_region ?_
 refine Jq (q_assign rfl) ?_
 refine L_then ?_
 refine C_ret ?_
 exact ret_of (res1 rfl rfl) sub_nil (by intro r hr; cases hr) ⟨rfl, rfl⟩
 have hL := light_len (Decidable.not_not.1 hl)
 refine Jg (q_loadA tb rfl rfl bxo rfl rfl) ?_
 refine L_callg tb rfl rfl rfl rfl rfl rfl (ct_shotlineref04_CheckTask _ _ _ x (by omega) (by omega) (by omega)) (ps_cons gvo (ps_cons gvo (ps_cons gvo no_ps))) rfl ?_
 refine Jg (q_neq rfl rfl) ?_
 refine Jq (q_pickF rfl rfl) ?_
 refine Jq (q_move rfl) ?_
 refine L_dec (d := 27) rfl (fun hck => ?_) (fun hck => ?_)
 iterate 3 refine Jk ?_
 refine Jq (q_pickT rfl rfl) ?_
 refine L_then ?_
 refine C_true rfl ?_
 refine C_seq ?_
 refine C_region ?_
 refine Jq (q_assign rfl) ?_
 refine L_then ?_
 refine C_ret ?_
 exact ret_of (res1 rfl rfl) sub_nil (by intro r hr; cases hr) ⟨rfl, rfl⟩
 refine Jg (q_move rfl) ?_
 refine L_callg tb rfl rfl rfl rfl rfl rfl (ct_shotlinebase_Within s 0 1000000) no_ps rfl ?_
 refine Jg (q_not rfl decide_not.symm) ?_
 refine Jq (q_pickF rfl rfl) ?_
 refine L_then ?_
 refine C_dec rfl (fun hw => ?_) (fun hw => ?_)
 refine C_seq ?_
 refine C_region ?_
 refine Jq (q_assign rfl) ?_
 refine L_then ?_
 refine C_ret ?_
 exact ret_of (res1 rfl rfl) sub_nil (by intro r hr; cases hr) ⟨rfl, rfl⟩
 have hwi := Decidable.not_not.1 hw
 refine C_skip_then ?_
 refine C_seq ?_
 refine C_region ?_
 refine Jq (q_loadA tb rfl rfl bxo rfl rfl) ?_
 refine L_lo rfl rfl rfl (lo_call tb rfl rfl (ct_ascent_Generate _ _ _ x (by omega) (by omega) (by omega)) (ps_cons gvo (ps_cons gvo (ps_cons gvo no_ps))) isSc_sinks) ?_
 rintro _ _ ⟨A34, n34, c34, B34, m34, d34, rfl, rfl⟩
 refine Jq (q_move rfl) ?_
 refine Jq (q_ext0 rfl) ?_
 refine Jq (q_ext1 rfl) ?_
 refine L_alloc tb rfl rfl fun g5 => ?_
 refine L_st tb rfl rfl ?_
 refine Jq (q_assign rfl) ?_
 refine L_then ?_
 refine C_seq ?_
 refine C_seq ?_
 refine C_region ?_
 refine Jq (q_move rfl) ?_
 refine Jq (q_neq rfl rfl) ?_
 refine L_then ?_
 refine C_dec rfl (fun he => ?_) (fun he => ?_)
 rw [gn_bad he]
 refine C_seq ?_
 refine C_region ?_
 refine Jq (q_assign rfl) ?_
 refine L_then ?_
 refine C_ret ?_
 exact ret_of (res1 rfl rfl) sub_nil (by intro r hr; cases hr) ⟨rfl, rfl⟩
 obtain ⟨hz, he0⟩ := gn_ok (Decidable.not_not.1 he)
 rw [gnE_2 hz]
 have H := ckAsc_ok hz
 have hgS := (gen_chk H he0).1
 rw [he0]
 obtain ⟨L, hLe⟩ : ∃ L, L = (genA x).1.1 := ⟨_, rfl⟩
 obtain ⟨F, hFe⟩ : ∃ F, F = (genA x).1.2 := ⟨_, rfl⟩
 rw [← hLe, ← hFe] at hgS ⊢
 have hSn := hgS.n; have hSl := hgS.l
 have hl4 := len_map cDl L; have hl5 := len_map cI F
 have hbl := beh_len H; have hrf := H.r.fi
 have hla := gen_last H he0
 rw [← hLe] at hla
 obtain ⟨hfw, _, _⟩ := gen_flw H he0
 rw [← hLe] at hfw
 have hfe : flwE x L F = 0 := by rw [flwE_3 hz hgS.ck]; exact hfw
 refine C_skip_then ?_
 refine C_seq ?_
 refine C_region ?_
 refine Jq (q_loadA tb rfl rfl bxo rfl rfl) ?_
 refine Jq (q_loadA tb rfl rfl bxo rfl rfl) ?_
 refine L_lo rfl rfl rfl (lo_call tb rfl rfl (ct_ascent_Following _ _ _ x _ _ L F (by omega) (by omega) (by omega) (by omega) (by omega)) (ps_cons gvo (ps_cons gvo (ps_cons gvo (ps_cons gvo (ps_cons gvo no_ps))))) FlwP_sinks) ?_
 rintro _ _ ⟨s42, T42, rfl, rfl, hl42⟩
 refine Jq (q_move rfl) ?_
 rw [hfe] at hl42 ⊢
 rw [if_pos rfl] at hl42
 have htl8 := tkC_len (x := x) (L := L) T42
 refine Jq (q_ext0 rfl) ?_
 refine Jq (q_ext1 rfl) ?_
 refine Jq (q_assign rfl) ?_
 refine Jq (q_assign rfl) ?_
 refine L_then ?_
 refine C_seq ?_
 refine C_seq ?_
 refine C_region ?_
 refine Jq (q_move rfl) ?_
 refine Jq (q_false (q_neq rfl rfl) (decide_eq_false fun h => h rfl)) ?_
 refine Jq (q_move rfl) ?_
 refine Jg (q_move rfl) ?_
 refine Jg (q_len tb rfl rfl gvo) ?_
 refine Jg (q_field tb rfl rfl rfl) ?_
 refine Jg (q_load tb rfl rfl bxo rfl) ?_
 refine Jg (q_len tb rfl rfl gvo) ?_
 refine Jg (q_false (q_neq rfl rfl) (decide_eq_false (by omega))) ?_
 refine Jq (q_pickF rfl rfl) ?_
 refine L_then ?_
 refine C_false rfl ?_
 refine C_skip_then ?_
 refine C_seq ?_
 refine C_region ?_
 refine Jq (q_loadA tb rfl rfl bxo rfl rfl) ?_
 refine L_alloc tb rfl rfl fun g9 => ?_
 refine L_st tb rfl rfl ?_
 refine L_then ?_
 refine C_cut (ι := Value × Value × Value) (fun o => ([(1, .int .i64 s), (2, .pointer (some ⟨g2, 0, none⟩)), (5, .pointer (some ⟨g5, 0, none⟩)), (9, .pointer (some ⟨g9, 0, none⟩))], (box g9 28 (cAt o.1 o.2.1 o.2.2 (behA x L L.length)) :: rd o.1 4 ((behA x L L.length).ts.map cCp) :: rd o.2.1 4 ((behA x L L.length).ls.map cLd) :: rd o.2.2 3 ((behA x L L.length).gs.map cAg) :: sl (.slice A34 n34 c34) 51 3 (L.map cDl) :: sl (.slice B34 m34 d34) 3 1 (F.map cI) :: box g5 74 [(.slice A34 n34 c34), (.slice B34 m34 d34)] :: box g2 28 (cAt (.slice Av (x.ts.map cCp).length cv) (.slice Au (x.ls.map cLd).length cu) (.slice Az (x.gs.map cAg).length cz) x) :: rd (.slice Av (x.ts.map cCp).length cv) 4 (x.ts.map cCp) :: rd (.slice Au (x.ls.map cLd).length cu) 4 (x.ls.map cLd) :: rd (.slice Az (x.gs.map cAg).length cz) 3 (x.gs.map cAg) :: []))) (fun o => True) ?_ ?_
 refine C_seq ?_
 refine C_region ?_
 refine Jq (q_move rfl) ?_
 refine Jq (q_len tb rfl rfl gvo) ?_
 refine Jq (q_gtr rfl rfl) ?_
 refine L_then ?_
 refine C_dec rfl (fun hn0 => ?_) (fun hn0 => ?_)
 obtain ⟨⟨q1, q2, q3⟩, T9, rfl⟩ : ∃ q T9, T42 = q :: T9 := by
  cases T42 with
  | nil => exact absurd hl42 (by rw [List.length_nil]; omega)
  | cons a b => exact ⟨a, b, rfl⟩
 rw [List.length_cons] at hl42
 have hk3 : T9.length + 1 = L.length := hl42
 have hqa : (((q1, q2, q3) :: T9 : List Tri)).reverse[L.length - 1]? = some (q1, q2, q3) := rev_hd hk3
 have helA := tkC_get (x := x) (L := L) hqa
 rw [show L.length - 1 + 1 = L.length by omega] at helA
 dsimp only at helA
 have htl9 := tkC_len (x := x) (L := L) ((q1, q2, q3) :: T9)
 rw [List.length_cons, hk3] at htl9
 rw [show tkR 66 139 144 x L ((q1, q2, q3) :: T9) = sl q1 66 4 ((behA x L (T9.length + 1)).ts.map cCp) :: sl q2 139 4 ((behA x L (T9.length + 1)).ls.map cLd) :: sl q3 144 3 ((behA x L (T9.length + 1)).gs.map cAg) :: tkR 66 139 144 x L T9 from rfl, hk3]
 refine C_res (rs' := sl q1 66 4 ((behA x L L.length).ts.map cCp) :: sl q2 139 4 ((behA x L L.length).ls.map cLd) :: sl q3 144 3 ((behA x L L.length).gs.map cAg) :: box g9 28 (cAt (.slice Av (x.ts.map cCp).length cv) (.slice Au (x.ls.map cLd).length cu) (.slice Az (x.gs.map cAg).length cz) x) :: sl s42 28 12 (tkC x L ((q1, q2, q3) :: T9)) :: sl (.slice A34 n34 c34) 51 3 (L.map cDl) :: sl (.slice B34 m34 d34) 3 1 (F.map cI) :: box g5 74 [(.slice A34 n34 c34), (.slice B34 m34 d34)] :: box g2 28 (cAt (.slice Av (x.ts.map cCp).length cv) (.slice Au (x.ls.map cLd).length cu) (.slice Az (x.gs.map cAg).length cz) x) :: rd (.slice Av (x.ts.map cCp).length cv) 4 (x.ts.map cCp) :: rd (.slice Au (x.ls.map cLd).length cu) 4 (x.ls.map cLd) :: rd (.slice Az (x.gs.map cAg).length cz) 3 (x.gs.map cAg) :: []) (fun _ h_ => h_.pk (by repeat (first | with_reducible exact pk_nil | refine pk_box rfl ?_ | refine pk_rd rfl ?_ | refine pk_sl rfl ?_ | with_reducible refine pk_app ?_ | with_reducible refine pk_app0 ?_ | with_reducible refine pk_app0L ?_ | with_reducible exact pk_tl | refine pk_var ?_))) ?_
 refine C_form (v := q1) gvo (fun Aq1 cq1 hvq1 _ => ?_)
 subst hvq1
 refine C_form (v := q2) gvo (fun Aq2 cq2 hvq2 _ => ?_)
 subst hvq2
 refine C_form (v := q3) gvo (fun Aq3 cq3 hvq3 _ => ?_)
 subst hvq3
 refine C_region ?_
 refine Jq (q_move rfl) ?_
 refine Jq (q_move rfl) ?_
 refine Jq (q_len tb rfl rfl gvo) ?_
 refine Jq (q_sub rfl rfl (by first | exact IntWalk.i64_in _ (by omega) | rfl)) ?_
 refine Jq (by first | exact q_index tb rfl rfl rfl rfl gvo (by omega) (by first | omega | (simp; done) | (simp; omega)) | exact q_indexP tb rfl rfl rfl rfl (by omega) (by omega)) ?_
 refine Jq (q_loadEA tb rfl rfl gvo (i := L.length - 1) (o := 0) (by omega) helA rfl rfl) ?_
 refine L_st tb rfl rfl ?_
 refine L_end ?_
 exact fun ac_ wo_ hs_ => ⟨((.slice Aq1 ((behA x L L.length).ts.map cCp).length cq1), (.slice Aq2 ((behA x L L.length).ls.map cLd).length cq2), (.slice Aq3 ((behA x L L.length).gs.map cAg).length cq3)), trivial, hs_.weak ⟨rfl, rfl, rfl, rfl, trivial⟩ (fun h_ => (sl3_rd (show WS _ _ (sl (.slice Aq1 ((behA x L L.length).ts.map cCp).length cq1) 66 4 ((behA x L L.length).ts.map cCp) :: sl (.slice Aq2 ((behA x L L.length).ls.map cLd).length cq2) 139 4 ((behA x L L.length).ls.map cLd) :: sl (.slice Aq3 ((behA x L L.length).gs.map cAg).length cq3) 144 3 ((behA x L L.length).gs.map cAg) :: box g9 28 (cAt (.slice Aq1 ((behA x L L.length).ts.map cCp).length cq1) (.slice Aq2 ((behA x L L.length).ls.map cLd).length cq2) (.slice Aq3 ((behA x L L.length).gs.map cAg).length cq3) (behA x L L.length)) :: sl (.slice A34 n34 c34) 51 3 (L.map cDl) :: sl (.slice B34 m34 d34) 3 1 (F.map cI) :: box g5 74 [(.slice A34 n34 c34), (.slice B34 m34 d34)] :: box g2 28 (cAt (.slice Av (x.ts.map cCp).length cv) (.slice Au (x.ls.map cLd).length cu) (.slice Az (x.gs.map cAg).length cz) x) :: rd (.slice Av (x.ts.map cCp).length cv) 4 (x.ts.map cCp) :: rd (.slice Au (x.ls.map cLd).length cu) 4 (x.ls.map cLd) :: rd (.slice Az (x.gs.map cAg).length cz) 3 (x.gs.map cAg) :: []) _ from h_.pk (by repeat (first | with_reducible exact pk_nil | refine pk_box rfl ?_ | refine pk_rd rfl ?_ | refine pk_sl rfl ?_ | with_reducible refine pk_app ?_ | with_reducible refine pk_app0 ?_ | with_reducible refine pk_app0L ?_ | with_reducible exact pk_tl | refine pk_var ?_)))).pk (by repeat (first | with_reducible exact pk_nil | refine pk_box rfl ?_ | refine pk_rd rfl ?_ | refine pk_sl rfl ?_ | with_reducible refine pk_app ?_ | with_reducible refine pk_app0 ?_ | with_reducible refine pk_app0L ?_ | with_reducible exact pk_tl | refine pk_var ?_)))⟩
 have hn9 : L.length = 0 := by omega
 refine C_skip ?_
 have hX0 : behA x L L.length = x := by rw [hn9]; rfl
 rw [hX0]
 exact fun ac_ wo_ hs_ => ⟨((.slice Av (x.ts.map cCp).length cv), (.slice Au (x.ls.map cLd).length cu), (.slice Az (x.gs.map cAg).length cz)), trivial, hs_.weak ⟨rfl, rfl, rfl, rfl, trivial⟩ (fun h_ => (dup3 (show WS _ _ (box g9 28 (cAt (.slice Av (x.ts.map cCp).length cv) (.slice Au (x.ls.map cLd).length cu) (.slice Az (x.gs.map cAg).length cz) x) :: sl (.slice A34 n34 c34) 51 3 (L.map cDl) :: sl (.slice B34 m34 d34) 3 1 (F.map cI) :: box g5 74 [(.slice A34 n34 c34), (.slice B34 m34 d34)] :: box g2 28 (cAt (.slice Av (x.ts.map cCp).length cv) (.slice Au (x.ls.map cLd).length cu) (.slice Az (x.gs.map cAg).length cz) x) :: rd (.slice Av (x.ts.map cCp).length cv) 4 (x.ts.map cCp) :: rd (.slice Au (x.ls.map cLd).length cu) 4 (x.ls.map cLd) :: rd (.slice Az (x.gs.map cAg).length cz) 3 (x.gs.map cAg) :: []) _ from h_.pk (by repeat (first | with_reducible exact pk_nil | refine pk_box rfl ?_ | refine pk_rd rfl ?_ | refine pk_sl rfl ?_ | with_reducible refine pk_app ?_ | with_reducible refine pk_app0 ?_ | with_reducible refine pk_app0L ?_ | with_reducible exact pk_tl | refine pk_var ?_))) (rd_own _ _ _) (rd_own _ _ _) (rd_own _ _ _)).pk (by repeat (first | with_reducible exact pk_nil | refine pk_box rfl ?_ | refine pk_rd rfl ?_ | refine pk_sl rfl ?_ | with_reducible refine pk_app ?_ | with_reducible refine pk_app0 ?_ | with_reducible refine pk_app0L ?_ | with_reducible exact pk_tl | refine pk_var ?_)))⟩
 rintro ⟨p1, p2, p3⟩ _
 dsimp only
 obtain ⟨HX, hXd⟩ := hla
 obtain ⟨hXt, hXs, hXg, hXr⟩ := beh_same x L L.length
 obtain ⟨X, hXe⟩ : ∃ X, X = (behA x L L.length) := ⟨_, rfl⟩
 rw [← hXe] at HX hXd hXt hXs hXg hXr ⊢
 have hXi : ¬ X.de ≠ 0 := fun hh => hh hXd
 have e0 : rsE X 0 = 0 ∧ rsA X 0 = X := ⟨(rs_2 HX.ck).1.trans (res_3 hXi (by omega)).1, (rs_2 HX.ck).2.trans ((res_3 hXi (by omega)).2.trans (by rw [rest_none HX.k]; rfl))⟩
 have es : rsE X s = 0 ∧ rsA X s = withL X (restM X.ts X.ls X.su s) X.de := ⟨(rs_2 HX.ck).1.trans (res_3 hXi hwi).1, (rs_2 HX.ck).2.trans (res_3 hXi hwi).2⟩
 obtain ⟨Y, hYe⟩ : ∃ Y, Y = withL X (restM X.ts X.ls X.su s) X.de := ⟨_, rfl⟩
 rw [← hYe] at es
 have hYl : Y.ls = restM X.ts X.ls X.su s := by rw [hYe]; rfl
 have hYn : Y.ls.length = X.ts.length := by rw [hYl]; unfold restM; exact stepM_len HX.k.len
 have hXbl := beh_len HX; have hXlen := HX.k.len
 have hlX := len_map cLd X.ls; have hlY := len_map cLd Y.ls; have hlS := len_map cLd (satM x.ts ⟨210, 0⟩ x.su)
 have hSn : (satM x.ts ⟨210, 0⟩ x.su).length = x.ts.length := satM_len
 have hXtl : X.ts.length = x.ts.length := by rw [hXt]
 have hXsu := H.su
 refine C_seq ?_
 refine C_region ?_
 refine Jq (q_loadA tb rfl rfl bxo rfl rfl) ?_
 refine L_lo rfl rfl rfl (lo_call tb rfl rfl (ct_ascent_Rested _ _ _ X (by omega) (by omega) (by omega) 0) (ps_cons gvo (ps_cons gvo (ps_cons gvo no_ps))) isTk_sinks) ?_
 rintro _ _ ⟨A67, n67, c67, B67, m67, d67, C67, k67, e67, rfl, rfl⟩
 refine Jq (q_move rfl) ?_
 rw [e0.1, e0.2]
 refine Jq (q_ext0 rfl) ?_
 refine Jq (q_ext1 rfl) ?_
 refine L_alloc tb rfl rfl fun g10 => ?_
 refine L_st tb rfl rfl ?_
 refine Jq (q_assign rfl) ?_
 refine L_then ?_
 refine C_seq ?_
 refine C_region ?_
 refine Jq (q_loadA tb rfl rfl bxo rfl rfl) ?_
 refine Jq (q_move rfl) ?_
 refine L_lo rfl rfl rfl (lo_call tb rfl rfl (ct_ascent_Rested _ _ _ X (by omega) (by omega) (by omega) s) (ps_cons gvo (ps_cons gvo (ps_cons gvo no_ps))) isTk_sinks) ?_
 rintro _ _ ⟨A73, n73, c73, B73, m73, d73, C73, k73, e73, rfl, rfl⟩
 refine Jq (q_move rfl) ?_
 rw [es.1, es.2]
 refine Jq (q_ext0 rfl) ?_
 refine Jq (q_ext1 rfl) ?_
 refine L_alloc tb rfl rfl fun g12 => ?_
 refine L_st tb rfl rfl ?_
 refine Jq (q_assign rfl) ?_
 refine L_then ?_
 refine C_seq ?_
 refine C_region ?_
 refine Jq (q_field tb rfl rfl rfl) ?_
 refine Jq (q_load tb rfl rfl bxo rfl) ?_
 refine Jq (by first | exact q_build tb rfl rfl rfl rfl | exact q_buildArr tb rfl rfl rfl rfl rfl) ?_
 refine Jq (q_field tb rfl rfl rfl) ?_
 refine Jq (q_load tb rfl rfl bxo rfl) ?_
 refine L_callSN tb rfl rfl (ct_tissue_Saturated _ ⟨210, 0⟩ x.su x.ts (by omega)) (ps_cons gvo no_ps) rfl fun v82 => ?_
 refine Jq (q_move rfl) ?_
 rw [sat_ok H]
 dsimp only
 refine Jq (q_ext0 rfl) ?_
 refine Jq (q_ext1 rfl) ?_
 refine Jq (q_assign rfl) ?_
 refine Jq (q_assign rfl) ?_
 refine L_then ?_
 refine C_seq ?_
 refine C_seq ?_
 refine C_region ?_
 refine Jq (q_field tb rfl rfl rfl) ?_
 refine Jq (q_load tb rfl rfl bxo rfl) ?_
 refine Jq (q_false (q_neq rfl rfl) (decide_eq_false fun h => h hXd)) ?_
 refine Jq (q_move rfl) ?_
 refine Jg (q_move rfl) ?_
 refine Jg (q_false (q_neq rfl rfl) (decide_eq_false fun h => h rfl)) ?_
 refine Jq (q_pickF rfl rfl) ?_
 refine Jq (q_move rfl) ?_
 refine Jg (q_move rfl) ?_
 refine Jg (q_false (q_neq rfl rfl) (decide_eq_false fun h => h rfl)) ?_
 refine Jq (q_pickF rfl rfl) ?_
 refine Jq (q_move rfl) ?_
 refine Jg (q_move rfl) ?_
 refine Jg (q_false (q_neq rfl rfl) (decide_eq_false fun h => h rfl)) ?_
 refine Jq (q_pickF rfl rfl) ?_
 refine Jq (q_move rfl) ?_
 refine Jg (q_field tb rfl rfl rfl) ?_
 refine Jg (q_load tb rfl rfl bxo rfl) ?_
 refine Jg (q_len tb rfl rfl gvo) ?_
 refine Jg (q_field tb rfl rfl rfl) ?_
 refine Jg (q_load tb rfl rfl bxo rfl) ?_
 refine Jg (q_len tb rfl rfl gvo) ?_
 refine Jg (q_false (q_neq rfl rfl) (decide_eq_false (by omega))) ?_
 refine Jq (q_pickF rfl rfl) ?_
 refine Jq (q_move rfl) ?_
 refine Jg (q_field tb rfl rfl rfl) ?_
 refine Jg (q_load tb rfl rfl bxo rfl) ?_
 refine Jg (q_len tb rfl rfl gvo) ?_
 refine Jg (q_field tb rfl rfl rfl) ?_
 refine Jg (q_load tb rfl rfl bxo rfl) ?_
 refine Jg (q_len tb rfl rfl gvo) ?_
 refine Jg (q_false (q_neq rfl rfl) (decide_eq_false (by omega))) ?_
 refine Jq (q_pickF rfl rfl) ?_
 refine Jq (q_move rfl) ?_
 refine Jg (q_move rfl) ?_
 refine Jg (q_len tb rfl rfl gvo) ?_
 refine Jg (q_field tb rfl rfl rfl) ?_
 refine Jg (q_load tb rfl rfl bxo rfl) ?_
 refine Jg (q_len tb rfl rfl gvo) ?_
 refine Jg (q_false (q_neq rfl rfl) (decide_eq_false (by omega))) ?_
 refine Jq (q_pickF rfl rfl) ?_
 refine Jq (q_move rfl) ?_
 refine Jg (q_field tb rfl rfl rfl) ?_
 refine Jg (q_load tb rfl rfl bxo rfl) ?_
 refine Jg (q_len tb rfl rfl gvo) ?_
 refine Jg (q_field tb rfl rfl rfl) ?_
 refine Jg (q_load tb rfl rfl bxo rfl) ?_
 refine Jg (q_len tb rfl rfl gvo) ?_
 refine Jg (q_false (q_neq rfl rfl) (decide_eq_false (by omega))) ?_
 refine Jq (q_pickF rfl rfl) ?_
 refine L_then ?_
 refine C_false rfl ?_
 refine C_skip_then ?_
 refine C_seq ?_
 refine C_seq ?_
 refine C_region ?_
 refine Jq (q_assign rfl) ?_
 refine L_then ?_
 refine C_block ?_
 refine C_res (rs' := [box g10 28 (cAt (.slice A67 n67 c67) (.slice B67 m67 d67) (.slice C67 k67 e67) X), box g12 28 (cAt (.slice A73 n73 c73) (.slice B73 m73 d73) (.slice C73 k73 e73) Y), sl (.slice B67 m67 d67) 139 4 (X.ls.map cLd), sl (.slice B73 m73 d73) 139 4 (Y.ls.map cLd), sl v82 139 4 ((satM x.ts ⟨210, 0⟩ x.su).map cLd), box g9 28 (cAt p1 p2 p3 X), rd p2 4 (X.ls.map cLd), box g2 28 (cAt (.slice Av (x.ts.map cCp).length cv) (.slice Au (x.ls.map cLd).length cu) (.slice Az (x.gs.map cAg).length cz) x), rd (.slice Av (x.ts.map cCp).length cv) 4 (x.ts.map cCp), rd (.slice Au (x.ls.map cLd).length cu) 4 (x.ls.map cLd), rd (.slice Az (x.gs.map cAg).length cz) 3 (x.gs.map cAg)]) (fun _ h_ => h_.pk (by repeat (first | with_reducible exact pk_nil | refine pk_box rfl ?_ | refine pk_rd rfl ?_ | refine pk_sl rfl ?_ | with_reducible refine pk_app ?_ | with_reducible refine pk_app0 ?_ | with_reducible refine pk_app0L ?_ | with_reducible exact pk_tl | refine pk_var ?_))) ?_
 refine C_loop (ι := Nat) (fun k => ([(2, .pointer (some ⟨g2, 0, none⟩)), (9, .pointer (some ⟨g9, 0, none⟩)), (10, .pointer (some ⟨g10, 0, none⟩)), (12, .pointer (some ⟨g12, 0, none⟩)), (14, v82), (16, .int .i64 (k : Int))], [box g10 28 (cAt (.slice A67 n67 c67) (.slice B67 m67 d67) (.slice C67 k67 e67) X), box g12 28 (cAt (.slice A73 n73 c73) (.slice B73 m73 d73) (.slice C73 k73 e73) Y), sl (.slice B67 m67 d67) 139 4 (X.ls.map cLd), sl (.slice B73 m73 d73) 139 4 (Y.ls.map cLd), sl v82 139 4 ((satM x.ts ⟨210, 0⟩ x.su).map cLd), box g9 28 (cAt p1 p2 p3 X), rd p2 4 (X.ls.map cLd), box g2 28 (cAt (.slice Av (x.ts.map cCp).length cv) (.slice Au (x.ls.map cLd).length cu) (.slice Az (x.gs.map cAg).length cz) x), rd (.slice Av (x.ts.map cCp).length cv) 4 (x.ts.map cCp), rd (.slice Au (x.ls.map cLd).length cu) 4 (x.ls.map cLd), rd (.slice Az (x.gs.map cAg).length cz) 3 (x.gs.map cAg)])) (fun k => k ≤ x.ts.length) (fun k => x.ts.length - k) 0 (Nat.zero_le _) (fun a w hs => hs.weak ⟨rfl, rfl, rfl, rfl, rfl, rfl, trivial⟩ (fun h => h.pk (by repeat (first | with_reducible exact pk_nil | refine pk_box rfl ?_ | refine pk_rd rfl ?_ | refine pk_sl rfl ?_ | with_reducible refine pk_app ?_ | with_reducible refine pk_app0 ?_ | with_reducible refine pk_app0L ?_ | with_reducible exact pk_tl | refine pk_var ?_)))) ?_
 intro k hk
 dsimp only at hk ⊢
 refine C_seq ?_
 refine C_seq ?_
 refine C_region ?_
 refine Jq (q_move rfl) ?_
 refine Jq (q_field tb rfl rfl rfl) ?_
 refine Jq (q_load tb rfl rfl bxo rfl) ?_
 refine Jq (q_len tb rfl rfl gvo) ?_
 refine Jq (q_lss rfl rfl) ?_
 refine L_then ?_
 refine C_dec rfl (fun h11 => ?_) (fun h11 => ?_)
 obtain ⟨x9, hx9⟩ := get_some X.ls (k := k) (by omega); have helx := map_get cLd hx9; obtain ⟨y9, hy9, ro⟩ := rest_two (s := s) HX.k HX.su hx9; rw [← hYl] at hy9; rw [hXs] at ro; have hely := map_get cLd hy9; have hs9 := sat_get (ts := x.ts) (g := ⟨210, 0⟩) (p := x.su) (i := k) (by omega); have hels := map_get cLd hs9
 refine C_skip_then ?_
 refine C_seq ?_
 refine C_block ?_
 refine C_seq ?_
 refine C_draw (n := 53) [(0, false), (1, false), (2, false), (3, false), (4, false), (5, false), (6, false), (7, false), (8, false), (9, false), (10, false), (11, false), (12, false), (13, false), (14, false), (15, false), (16, false), (17, false), (18, false), (19, false), (20, false), (21, false), (22, false), (23, false), (24, false), (25, false), (26, false), (27, false), (28, false), (29, true), (30, false), (31, false), (32, false), (33, false), (34, false), (35, false), (36, false), (37, false), (38, false), (39, false), (40, false), (41, false), (42, false), (43, false), (44, false), (45, false), (46, false), (47, false), (48, false), (49, false), (50, true), (51, false), (52, false)] mixed (by kernel_rfl) ?_
 refine Yq rfl (q_field tb rfl rfl rfl) ?_
 refine Yq rfl (q_load tb rfl rfl bxo rfl) ?_
 refine Yq rfl (q_move rfl) ?_
 refine Yq rfl (by first | exact q_index tb rfl rfl rfl rfl gvo (by omega) (by first | omega | (simp; done) | (simp; omega)) | exact q_indexP tb rfl rfl rfl rfl (by omega) (by omega)) ?_
 refine Yq rfl (q_loadEA tb rfl rfl gvo (i := k) (o := 0) (by omega) helx rfl rfl) ?_
 refine Yq rfl (q_field tb rfl rfl rfl) ?_
 refine Yq rfl (q_load tb rfl rfl bxo rfl) ?_
 refine Yq rfl (q_move rfl) ?_
 refine Yq rfl (by first | exact q_index tb rfl rfl rfl rfl gvo (by omega) (by first | omega | (simp; done) | (simp; omega)) | exact q_indexP tb rfl rfl rfl rfl (by omega) (by omega)) ?_
 refine Yq rfl (q_loadEA tb rfl rfl gvo (i := k) (o := 0) (by omega) helx rfl rfl) ?_
 refine Yq rfl (q_false (q_neI (xs := [x9.n.lo, x9.n.hi, x9.h.lo, x9.h.hi]) (ys := [x9.n.lo, x9.n.hi, x9.h.lo, x9.h.hi]) eq139 (by omega) eg139 rfl rfl rfl rfl Iff.rfl) (by simp)) ?_
 refine Yq rfl (q_move rfl) ?_
 refine Yg rfl (q_field tb rfl rfl rfl) ?_
 refine Yg rfl (q_load tb rfl rfl bxo rfl) ?_
 refine Yg rfl (q_move rfl) ?_
 refine Yg rfl (by first | exact q_index tb rfl rfl rfl rfl gvo (by omega) (by first | omega | (simp; done) | (simp; omega)) | exact q_indexP tb rfl rfl rfl rfl (by omega) (by omega)) ?_
 refine Yg rfl (q_fieldE tb rfl rfl rfl gvo (by first | omega | (simp; done) | (simp; omega))) ?_
 refine Yg rfl (q_loadEA tb rfl rfl gvo (i := k) (o := 0) (by omega) hely rfl rfl) ?_
 refine Yg rfl (q_field tb rfl rfl rfl) ?_
 refine Yg rfl (q_load tb rfl rfl bxo rfl) ?_
 refine Yg rfl (q_move rfl) ?_
 refine Yg rfl (by first | exact q_index tb rfl rfl rfl rfl gvo (by omega) (by first | omega | (simp; done) | (simp; omega)) | exact q_indexP tb rfl rfl rfl rfl (by omega) (by omega)) ?_
 refine Yg rfl (q_fieldE tb rfl rfl rfl gvo (by first | omega | (simp; done) | (simp; omega))) ?_
 refine Yg rfl (q_loadEA tb rfl rfl gvo (i := k) (o := 0) (by omega) helx rfl rfl) ?_
 refine Yg rfl (q_move rfl) ?_
 refine Yg rfl (q_move rfl) ?_
 refine Yg rfl (by first | exact q_index tb rfl rfl rfl rfl gvo (by omega) (by first | omega | (simp; done) | (simp; omega)) | exact q_indexP tb rfl rfl rfl rfl (by omega) (by omega)) ?_
 refine Yg rfl (q_fieldE tb rfl rfl rfl gvo (by first | omega | (simp; done) | (simp; omega))) ?_
 refine Yg rfl (q_loadEA tb rfl rfl gvo (i := k) (o := 0) (by omega) hels rfl rfl) ?_
 refine W_callg tb rfl rfl rfl rfl rfl rfl rfl rfl (ct_shotlinetop_between y9.n x9.n (satL ⟨210, 0⟩ x.su).n ro.xn.1 ro.xn.2.1 ro.xn.2.2 ro.nl ro.nh) no_ps rfl ?_
 refine Yg rfl (q_not rfl rfl) ?_
 refine Yq rfl (q_pickF rfl rfl) ?_
 refine Yq rfl (q_move rfl) ?_
 refine Yg rfl (q_field tb rfl rfl rfl) ?_
 refine Yg rfl (q_load tb rfl rfl bxo rfl) ?_
 refine Yg rfl (q_move rfl) ?_
 refine Yg rfl (by first | exact q_index tb rfl rfl rfl rfl gvo (by omega) (by first | omega | (simp; done) | (simp; omega)) | exact q_indexP tb rfl rfl rfl rfl (by omega) (by omega)) ?_
 refine Yg rfl (q_fieldE tb rfl rfl rfl gvo (by first | omega | (simp; done) | (simp; omega))) ?_
 refine Yg rfl (q_loadEA tb rfl rfl gvo (i := k) (o := 2) (by omega) hely rfl rfl) ?_
 refine Yg rfl (q_field tb rfl rfl rfl) ?_
 refine Yg rfl (q_load tb rfl rfl bxo rfl) ?_
 refine Yg rfl (q_move rfl) ?_
 refine Yg rfl (by first | exact q_index tb rfl rfl rfl rfl gvo (by omega) (by first | omega | (simp; done) | (simp; omega)) | exact q_indexP tb rfl rfl rfl rfl (by omega) (by omega)) ?_
 refine Yg rfl (q_fieldE tb rfl rfl rfl gvo (by first | omega | (simp; done) | (simp; omega))) ?_
 refine Yg rfl (q_loadEA tb rfl rfl gvo (i := k) (o := 2) (by omega) helx rfl rfl) ?_
 refine Yg rfl (q_move rfl) ?_
 refine Yg rfl (q_move rfl) ?_
 refine Yg rfl (by first | exact q_index tb rfl rfl rfl rfl gvo (by omega) (by first | omega | (simp; done) | (simp; omega)) | exact q_indexP tb rfl rfl rfl rfl (by omega) (by omega)) ?_
 refine Yg rfl (q_fieldE tb rfl rfl rfl gvo (by first | omega | (simp; done) | (simp; omega))) ?_
 refine Yg rfl (q_loadEA tb rfl rfl gvo (i := k) (o := 2) (by omega) hels rfl rfl) ?_
 refine W_callg tb rfl rfl rfl rfl rfl rfl rfl rfl (ct_shotlinetop_between y9.h x9.h (satL ⟨210, 0⟩ x.su).h ro.xh.1 ro.xh.2.1 ro.xh.2.2 ro.hl ro.hh) no_ps rfl ?_
 refine Yg rfl (q_not rfl rfl) ?_
 refine Yq rfl (q_pickF rfl rfl) ?_
 refine W_nil ?_
 refine L_then ?_
 refine C_false rfl ?_
 refine C_skip_blk ?_
 refine C_region ?_
 refine Jq (q_move rfl) ?_
 refine Jq (q_add rfl rfl (by first | exact IntWalk.i64_in _ (by omega) | rfl)) ?_
 refine Jq (q_assign rfl) ?_
 refine L_end ?_
 exact fun ac_ wo_ hs_ => ⟨k + 1, (by omega), (by dsimp only; omega), hs_.weak ⟨rfl, rfl, rfl, rfl, rfl, rfl, trivial⟩ (fun h => h.pk (by repeat (first | with_reducible exact pk_nil | refine pk_box rfl ?_ | refine pk_rd rfl ?_ | refine pk_sl rfl ?_ | with_reducible refine pk_app ?_ | with_reducible refine pk_app0 ?_ | with_reducible refine pk_app0L ?_ | with_reducible exact pk_tl | refine pk_var ?_)))⟩
 refine C_exit ?_
 change C Tryz.prog _ _ _ _ _ _ _
 refine C_seq ?_
 refine C_region ?_
 refine Jq (q_assign rfl) ?_
 refine L_then ?_
 refine C_ret ?_
 exact ret_of (res1 rfl rfl) sub_nil (by intro r hr; cases hr) ⟨rfl, rfl⟩
end Go.Proofs.YthilaakeimfedaaGreatDoor
