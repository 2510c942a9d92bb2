/-
  Walks: each function named returns what its model says. Conditions: those in front of each theorem.
-/
import Derived.Test.YthilaakeimfedaaGreatDoorAs16
import Derived.Test.YthilaakeimfedaaGreatDoorAW
import Derived.Test.YthilaakeimfedaaGreatDoorLH
import Derived.Test.YthilaakeimfedaaGreatDoorBA
import Derived.Test.YthilaakeimfedaaGreatDoorFo
import Derived.Test.YthilaakeimfedaaGreatDoorAC
import Derived.Test.YthilaakeimfedaaGreatDoorShTreeI
namespace Go.Proofs.YthilaakeimfedaaGreatDoor
open Go.RowKit

set_option maxRecDepth 100000 in
set_option maxHeartbeats 4000000 in
theorem ct_shotlinetop_TopEveryInstant (v u z : Value) (x : Asc) (nm : ByteArray) (sf : Int) (pv pu : Value) (gs : List Gs) (ls : List Dl) : CtQ KQ Tryz.prog 18 [.agg (cAt v u z x).toArray, .agg (cPl nm sf pv pu).toArray] [(v, 4, x.ts.map cCp), (u, 4, x.ls.map cLd), (z, 3, x.gs.map cAg), (pv, 2, gs.map cGs), (pu, 3, ls.map cDl)] (isV (.bool true)) := by
 refine CtQ.of (N := 326) Tryz.func18 rfl rfl rfl fun w hQ => ?_
 refine C_weak (E' := [(0, .agg (cAt v u z x).toArray), (1, .agg (cPl nm sf pv pu).toArray)]) (rs' := [rd v 4 (x.ts.map cCp), rd u 4 (x.ls.map cLd), rd z 3 (x.gs.map cAg), rd pv 2 (gs.map cGs), rd pu 3 (ls.map cDl)]) ⟨rfl, rfl, trivial⟩ (fun _ h => h) ?_
 have hl1 := len_map cCp x.ts
 have hl2 := len_map cLd x.ls
 have hl3 := len_map cAg x.gs
 have hp1 := len_map cGs gs; have hp2 := len_map cDl ls
 refine C_seq ?_
 refine C_region ?_
 refine L_box rfl rfl rfl fun g2 => ?_
 refine L_box rfl rfl rfl fun g3 => ?_
 refine Jq (q_assign rfl) ?_
 refine L_then ?_
 refine C_seq ?_
 refine C_seq ?_
 refine C_region ?_
 refine L_lo rfl rfl rfl (lo_callQ tb stQ hQ rfl rfl (ct_shotlinetop_risen) no_ps isV_sinks) ?_
 rintro _ _ ⟨rfl, rfl⟩
 refine Jq (q_not rfl rfl) ?_
 refine L_then ?_
 refine C_false rfl ?_
 refine C_skip_then ?_
 refine C_seq ?_
 refine C_seq ?_
 refine C_region ?_
 refine Jq (q_loadA tb rfl rfl bxo rfl rfl) ?_
 refine Jq (q_loadA tb rfl rfl bxo rfl rfl) ?_
 refine L_call tb rfl rfl (ct_shotlinetop_diveTask v u z x nm sf pv pu gs ls) (ps_cons gvo (ps_cons gvo (ps_cons gvo (ps_cons gvo (ps_cons gvo no_ps))))) rfl ?_
 refine Jq (q_not rfl decide_not.symm) ?_
 refine L_then ?_
 refine C_dec rfl (fun hd => ?_) (fun hd => ?_)
 refine C_seq ?_
 refine C_region ?_
 refine Jq (q_assign rfl) ?_
 refine L_then ?_
 refine C_ret ?_
 exact ret_of (res1 rfl rfl) sub_nil (by intro r hr; cases hr) ⟨rfl, rfl⟩
 obtain ⟨hz7, hl7, hc7, h07, hsf7, h57, hs7⟩ := Decidable.not_not.1 hd
 have hL := light_len hl7
 have H := ckAsc_ok hc7
 obtain ⟨hnm, HP⟩ := ckPl_ok hz7
 obtain ⟨e1, e2, HB, hBd⟩ := ev_legs H h07 hsf7 hz7 hs7
 obtain ⟨B, hBe⟩ : ∃ B, B = bgX x sf gs ls ls.length := ⟨_, rfl⟩
 rw [← hBe] at e2 HB hBd
 have hBt : B.ts = x.ts := by rw [hBe]; rfl
 have hBs : B.su = x.su := by rw [hBe]; rfl
 have hBg : B.gs = x.gs := by rw [hBe]; rfl
 have hBr : B.r = x.r := by rw [hBe]; rfl
 have hBl := beh_len HB; have hBgr := HB.r.gr; have hBde := HB.de; have hPl := HP.gl; have hxsu := H.su; have hxfi := H.r.fi
 refine C_skip_then ?_
 refine C_seq ?_
 refine C_region ?_
 refine Jq (q_loadA tb rfl rfl bxo rfl rfl) ?_
 refine Jq (q_loadA tb rfl rfl bxo rfl rfl) ?_
 refine L_lo rfl rfl rfl (lo_call tb rfl rfl (ct_ascent_Begun _ _ _ x nm sf _ _ gs ls (by omega) (by omega) (by omega) (by omega) (by omega)) (ps_cons gvo (ps_cons gvo (ps_cons gvo (ps_cons gvo (ps_cons gvo no_ps))))) isTk_sinks) ?_
 rintro _ _ ⟨A41, n41, c41, B41, m41, d41, C41, k41, e41, rfl, rfl⟩
 refine Jq (q_move rfl) ?_
 rw [e1, e2]
 refine Jq (q_ext0 rfl) ?_
 refine Jq (q_ext1 rfl) ?_
 refine L_alloc tb rfl rfl fun g5 => ?_
 refine L_st tb rfl rfl ?_
 refine Jq (q_assign rfl) ?_
 refine L_then ?_
 refine C_seq ?_
 refine C_seq ?_
 refine C_draw (n := 9) [(0, false), (1, false), (2, false), (3, false), (4, false), (5, false), (6, true), (7, false), (8, false)] mixed (by kernel_rfl) ?_
 refine Yq rfl (q_move rfl) ?_
 refine Yq rfl (q_false (q_neq rfl rfl) (decide_eq_false fun h => h rfl)) ?_
 refine Yq rfl (q_move rfl) ?_
 refine Yg rfl (q_field tb rfl rfl rfl) ?_
 refine Yg rfl (q_load tb rfl rfl bxo rfl) ?_
 refine Yg rfl (q_loadA tb rfl rfl bxo rfl rfl) ?_
 refine W_callg tb rfl rfl rfl rfl rfl rfl rfl rfl (ct_shotlinetop_last nm sf pv pu gs ls (by omega) (by omega)) (ps_cons gvo (ps_cons gvo no_ps)) rfl ?_
 refine Yg rfl (q_false (q_neq rfl rfl) (decide_eq_false fun h => h hBd)) ?_
 refine Yq rfl (q_pickF rfl rfl) ?_
 refine W_nil ?_
 refine L_then ?_
 refine C_false rfl ?_
 refine C_skip_then ?_
 refine C_seq ?_
 refine C_seq ?_
 refine C_region ?_
 refine Jq (q_field tb rfl rfl rfl) ?_
 refine Jq (q_load tb rfl rfl bxo rfl) ?_
 refine Jq (q_field tb rfl rfl rfl) ?_
 refine Jq (q_field tb rfl rfl rfl) ?_
 refine Jq (q_load tb rfl rfl bxo rfl) ?_
 refine Jq (q_mul rfl rfl (by first | exact IntWalk.i64_in _ (by omega) | rfl)) ?_
 refine Jq (q_gtr rfl rfl) ?_
 refine L_then ?_
 refine C_dec rfl (fun h59 => ?_) (fun h59 => ?_)
 refine C_seq ?_
 refine C_region ?_
 refine Jq (q_assign rfl) ?_
 refine L_then ?_
 refine C_ret ?_
 exact ret_of (res1 rfl rfl) sub_nil (by intro r hr; cases hr) ⟨rfl, rfl⟩
 refine C_skip_then ?_
 refine C_seq ?_
 refine C_region ?_
 refine Jq (q_loadA tb rfl rfl bxo rfl rfl) ?_
 refine L_lo rfl rfl rfl (lo_call tb rfl rfl (ct_ascent_Generate _ _ _ B (by omega) (by omega) (by omega)) (ps_cons gvo (ps_cons gvo (ps_cons gvo no_ps))) isSc_sinks) ?_
 rintro _ _ ⟨A62, n62, c62, B62, m62, d62, rfl, rfl⟩
 refine Jq (q_move rfl) ?_
 refine Jq (q_ext0 rfl) ?_
 refine Jq (q_ext1 rfl) ?_
 refine L_alloc tb rfl rfl fun g7 => ?_
 refine L_st tb rfl rfl ?_
 refine Jq (q_assign rfl) ?_
 refine L_then ?_
 refine C_seq ?_
 refine C_seq ?_
 refine C_region ?_
 refine Jq (q_move rfl) ?_
 refine Jq (q_neq rfl rfl) ?_
 refine L_then ?_
 refine C_dec rfl (fun he => ?_) (fun he => ?_)
 rw [gn_bad he]
 refine C_seq ?_
 refine C_region ?_
 refine Jq (q_field tb rfl rfl rfl) ?_
 refine Jq (q_load tb rfl rfl bxo rfl) ?_
 refine Jq (q_len tb rfl rfl gvo) ?_
 refine Jq (q_true (q_eql rfl rfl) (decide_eq_true rfl)) ?_
 refine Jq (q_assign rfl) ?_
 refine L_then ?_
 refine C_ret ?_
 exact ret_of (res1 rfl rfl) sub_nil (by intro r hr; cases hr) ⟨rfl, rfl⟩
 obtain ⟨hzB, he0⟩ := gn_ok (Decidable.not_not.1 he)
 rw [gnE_2 hzB]
 have hgS := (gen_chk HB he0).1
 have hfo := found_of HB he0
 obtain ⟨hw1, _, hw3⟩ := gen_flw HB he0
 have hla := gen_last HB he0
 rw [he0]
 obtain ⟨L, hLe⟩ : ∃ L, L = (genA B).1.1 := ⟨_, rfl⟩
 obtain ⟨F, hFe⟩ : ∃ F, F = (genA B).1.2 := ⟨_, rfl⟩
 rw [← hLe, ← hFe] at hgS hw3 ⊢
 rw [← hLe] at hfo hw1 hla
 have hSn := hgS.n; have hSl := hgS.l
 have hl4 := len_map cDl L; have hl5 := len_map cI F
 have hfe : flwE B L F = 0 := by rw [flwE_3 hzB hgS.ck]; exact hw1
 have hckB := flw_all hw1
 have hkp := (cs_ok (x := B) (L := L) (F := F) (by rw [hw3])).2.2.2
 refine C_skip_then ?_
 refine C_seq ?_
 refine C_region ?_
 refine Jq (q_loadA tb rfl rfl bxo rfl rfl) ?_
 refine Jq (q_loadA tb rfl rfl bxo rfl rfl) ?_
 refine L_call tb rfl rfl (ct_ascent_CheckSchedule _ _ _ B _ _ L F (by omega) (by omega) (by omega) (by omega) (by omega)) (ps_cons gvo (ps_cons gvo (ps_cons gvo (ps_cons gvo (ps_cons gvo no_ps))))) rfl ?_
 refine Jq (q_move rfl) ?_
 rw [hw3]
 dsimp only
 refine Jq (q_ext0 rfl) ?_
 refine Jq (q_ext1 rfl) ?_
 refine Jq (q_assign rfl) ?_
 refine Jq (q_assign rfl) ?_
 refine L_then ?_
 refine C_seq ?_
 refine C_region ?_
 refine Jq (q_loadA tb rfl rfl bxo rfl rfl) ?_
 refine Jq (q_loadA tb rfl rfl bxo rfl rfl) ?_
 refine L_lo rfl rfl rfl (lo_call tb rfl rfl (ct_ascent_Following _ _ _ B _ _ L F (by omega) (by omega) (by omega) (by omega) (by omega)) (ps_cons gvo (ps_cons gvo (ps_cons gvo (ps_cons gvo (ps_cons gvo no_ps))))) FlwP_sinks) ?_
 rintro _ _ ⟨s80, T80, rfl, rfl, hl80⟩
 refine Jq (q_move rfl) ?_
 rw [hfe] at hl80 ⊢
 rw [if_pos rfl] at hl80
 have htl8 := tkC_len (x := B) (L := L) T80
 refine Jq (q_ext0 rfl) ?_
 refine Jq (q_ext1 rfl) ?_
 refine Jq (q_assign rfl) ?_
 refine Jq (q_assign rfl) ?_
 refine L_then ?_
 refine C_seq ?_
 refine C_seq ?_
 refine C_region ?_
 refine Jq (q_move rfl) ?_
 refine Jq (q_false (q_neq rfl rfl) (decide_eq_false fun h => h rfl)) ?_
 refine Jq (q_move rfl) ?_
 refine Jg (q_move rfl) ?_
 refine Jg (q_false (q_neq rfl rfl) (decide_eq_false fun h => h rfl)) ?_
 refine Jq (q_pickF rfl rfl) ?_
 refine Jq (q_move rfl) ?_
 refine Jg (q_move rfl) ?_
 refine Jg (q_len tb rfl rfl gvo) ?_
 refine Jg (q_field tb rfl rfl rfl) ?_
 refine Jg (q_load tb rfl rfl bxo rfl) ?_
 refine Jg (q_len tb rfl rfl gvo) ?_
 refine Jg (q_false (q_neq rfl rfl) (decide_eq_false (by omega))) ?_
 refine Jq (q_pickF rfl rfl) ?_
 refine Jq (q_move rfl) ?_
 refine Jg (q_field tb rfl rfl rfl) ?_
 refine Jg (q_load tb rfl rfl bxo rfl) ?_
 refine Jg (q_len tb rfl rfl gvo) ?_
 refine Jg (q_field tb rfl rfl rfl) ?_
 refine Jg (q_load tb rfl rfl bxo rfl) ?_
 refine Jg (q_len tb rfl rfl gvo) ?_
 refine Jg (q_add rfl rfl (by first | exact IntWalk.i64_in _ (by omega) | rfl)) ?_
 refine Jg (q_gtr rfl rfl) ?_
 refine Jq (q_pickF rfl rfl) ?_
 refine Jq (q_move rfl) ?_
 refine L_dec (d := 107) rfl (fun h107 => ?_) (fun h107 => ?_)
 iterate 8 refine Jk ?_
 refine Jq (q_pickT rfl rfl) ?_
 refine L_then ?_
 refine C_true rfl ?_
 refine C_seq ?_
 refine C_region ?_
 refine Jq (q_move rfl) ?_
 refine Jq (q_true (q_eql rfl rfl) (decide_eq_true rfl)) ?_
 refine Jq (q_move rfl) ?_
 refine Jg (q_move rfl) ?_
 refine Jg (q_true (q_eql rfl rfl) (decide_eq_true rfl)) ?_
 refine Jq (q_pickT rfl rfl) ?_
 refine Jq (q_move rfl) ?_
 refine Jg (q_move rfl) ?_
 refine Jg (q_len tb rfl rfl gvo) ?_
 refine Jg (q_field tb rfl rfl rfl) ?_
 refine Jg (q_load tb rfl rfl bxo rfl) ?_
 refine Jg (q_len tb rfl rfl gvo) ?_
 refine Jg (q_true (q_eql rfl rfl) (decide_eq_true (by omega))) ?_
 refine Jq (q_pickT rfl rfl) ?_
 refine Jq (q_assign rfl) ?_
 refine L_then ?_
 refine C_ret ?_
 exact ret_of (res1 rfl rfl) sub_nil (by intro r hr; cases hr) ⟨rfl, rfl⟩
 refine Jg (q_field tb rfl rfl rfl) ?_
 refine Jg (q_load tb rfl rfl bxo rfl) ?_
 refine Jg (q_len tb rfl rfl gvo) ?_
 refine Jg (q_field tb rfl rfl rfl) ?_
 refine Jg (q_load tb rfl rfl bxo rfl) ?_
 refine Jg (q_len tb rfl rfl gvo) ?_
 refine Jg (q_add rfl rfl (by first | exact IntWalk.i64_in _ (by omega) | rfl)) ?_
 refine Jg (q_gtr rfl rfl) ?_
 refine Jq (q_pickF rfl rfl) ?_
 refine L_then ?_
 refine C_dec rfl (fun h116 => ?_) (fun h116 => ?_)
 refine C_seq ?_
 refine C_region ?_
 refine Jq (q_move rfl) ?_
 refine Jq (q_true (q_eql rfl rfl) (decide_eq_true rfl)) ?_
 refine Jq (q_move rfl) ?_
 refine Jg (q_move rfl) ?_
 refine Jg (q_true (q_eql rfl rfl) (decide_eq_true rfl)) ?_
 refine Jq (q_pickT rfl rfl) ?_
 refine Jq (q_move rfl) ?_
 refine Jg (q_move rfl) ?_
 refine Jg (q_len tb rfl rfl gvo) ?_
 refine Jg (q_field tb rfl rfl rfl) ?_
 refine Jg (q_load tb rfl rfl bxo rfl) ?_
 refine Jg (q_len tb rfl rfl gvo) ?_
 refine Jg (q_true (q_eql rfl rfl) (decide_eq_true (by omega))) ?_
 refine Jq (q_pickT rfl rfl) ?_
 refine Jq (q_assign rfl) ?_
 refine L_then ?_
 refine C_ret ?_
 exact ret_of (res1 rfl rfl) sub_nil (by intro r hr; cases hr) ⟨rfl, rfl⟩
 refine C_skip_then ?_
 refine C_seq ?_
 refine C_region ?_
 refine Jq (q_loadA tb rfl rfl bxo rfl rfl) ?_
 refine L_lo rfl rfl rfl (lo_call tb rfl rfl (ct_shotlinebase_CopyPlan nm sf pv pu gs ls (by omega) (by omega)) (ps_cons gvo (ps_cons gvo no_ps)) (by rintro y rs ⟨a, b, _, rfl⟩ r hr; simp only [List.mem_cons, List.not_mem_nil, or_false] at hr; rcases hr with rfl | rfl <;> exact sl_sinks _ _ _ _)) ?_
 rintro _ _ ⟨a132, b132, rfl, rfl⟩
 refine L_form (v := a132) gvo (fun A132 c132 hv132 _ => ?_)
 subst hv132
 refine L_form (v := b132) gvo (fun B132 d132 hw132 _ => ?_)
 subst hw132
 refine L_alloc tb rfl rfl fun g13 => ?_
 refine L_st tb rfl rfl ?_
 refine L_then ?_
 refine C_seq ?_
 refine C_seq ?_
 refine C_region ?_
 refine Jq (q_assign rfl) ?_
 refine L_then ?_
 refine C_block ?_
 refine C_res (rs' := (sl (.slice A132 (gs.map cGs).length c132) 53 2 (gs.map cGs) :: box g13 118 [.string nm, .int .i64 sf, (.slice A132 (gs.map cGs).length c132), (.slice B132 (ls.map cDl).length d132)] :: sl (.slice B132 (ls.map cDl).length d132) 51 3 (ls.map cDl) :: sl s80 28 12 (tkC B L T80) :: box g7 74 [(.slice A62 n62 c62), (.slice B62 m62 d62)] :: sl (.slice A62 n62 c62) 51 3 (L.map cDl) :: sl (.slice B62 m62 d62) 3 1 (F.map cI) :: box g5 28 (cAt (.slice A41 n41 c41) (.slice B41 m41 d41) (.slice C41 k41 e41) B) :: box g3 118 (cPl nm sf pv pu) :: rd pv 2 (gs.map cGs) :: rd pu 3 (ls.map cDl) :: box g2 28 (cAt v u z x) :: rd v 4 (x.ts.map cCp) :: rd u 4 (x.ls.map cLd) :: rd z 3 (x.gs.map cAg) :: tkR 66 139 144 B L T80)) (fun _ h_ => h_.pk (by repeat (first | with_reducible exact pk_nil | refine pk_box rfl ?_ | refine pk_rd rfl ?_ | refine pk_sl rfl ?_ | with_reducible refine pk_app ?_ | with_reducible refine pk_app0 ?_ | with_reducible refine pk_app0L ?_ | with_reducible exact pk_tl | refine pk_var ?_))) ?_
 refine C_loop (ι := Nat × List Gs × Value) (fun q => ([(2, .pointer (some ⟨g2, 0, none⟩)), (3, .pointer (some ⟨g3, 0, none⟩)), (5, .pointer (some ⟨g5, 0, none⟩)), (7, .pointer (some ⟨g7, 0, none⟩)), (9, .int .i64 ((smS L L.length))), (11, s80), (13, .pointer (some ⟨g13, 0, none⟩)), (14, .int .i64 (q.1 : Int))], (sl q.2.2 53 2 (q.2.1.map cGs) :: box g13 118 [.string nm, .int .i64 sf, q.2.2, (.slice B132 (ls.map cDl).length d132)] :: sl (.slice B132 (ls.map cDl).length d132) 51 3 (ls.map cDl) :: sl s80 28 12 (tkC B L T80) :: box g7 74 [(.slice A62 n62 c62), (.slice B62 m62 d62)] :: sl (.slice A62 n62 c62) 51 3 (L.map cDl) :: sl (.slice B62 m62 d62) 3 1 (F.map cI) :: box g5 28 (cAt (.slice A41 n41 c41) (.slice B41 m41 d41) (.slice C41 k41 e41) B) :: box g3 118 (cPl nm sf pv pu) :: rd pv 2 (gs.map cGs) :: rd pu 3 (ls.map cDl) :: box g2 28 (cAt v u z x) :: rd v 4 (x.ts.map cCp) :: rd u 4 (x.ls.map cLd) :: rd z 3 (x.gs.map cAg) :: tkR 66 139 144 B L T80))) (fun q => q.1 ≤ x.gs.length ∧ q.2.1 = gs ++ (x.gs.map (·.g)).take q.1) (fun q => x.gs.length - q.1) (0, gs, (.slice A132 (gs.map cGs).length c132)) ⟨Nat.zero_le _, (List.append_nil _).symm⟩ (fun a w hs => hs.weak ⟨rfl, rfl, rfl, rfl, rfl, rfl, rfl, rfl, trivial⟩ (fun h => h)) ?_
 rintro ⟨k, G, a9⟩ ⟨hk, hG⟩
 dsimp only at hk hG ⊢
 have hGn : G.length ≤ 16 := by rw [hG]; simp; omega
 refine C_form (v := a9) gvo (fun A9 c9 hv9 _ => ?_)
 subst hv9
 have hlG := len_map cGs G
 refine C_seq ?_
 refine C_seq ?_
 refine C_region ?_
 refine Jq (q_move rfl) ?_
 refine Jq (q_field tb rfl rfl rfl) ?_
 refine Jq (q_load tb rfl rfl bxo rfl) ?_
 refine Jq (q_len tb rfl rfl gvo) ?_
 refine Jq (q_lss rfl rfl) ?_
 refine L_then ?_
 refine C_dec rfl (fun h9 => ?_) (fun h9 => ?_)
 obtain ⟨w, hw⟩ := get_some x.gs (k := k) (by omega); have helw := map_get cAg hw
 refine C_skip_then ?_
 refine C_seq ?_
 refine C_block ?_
 refine Kp.C_treeH1 (n := 11) (ι := Value) (.q 0 (.q 1 (.q 2 (.q 3 (.q 4 (.q 5 (.q 6 (.q 7 (.s 8 (.s 9 (.q 10 .nil))))))))))) (fun q => ([(2, .pointer (some ⟨g2, 0, none⟩)), (3, .pointer (some ⟨g3, 0, none⟩)), (5, .pointer (some ⟨g5, 0, none⟩)), (7, .pointer (some ⟨g7, 0, none⟩)), (9, .int .i64 ((smS L L.length))), (11, s80), (13, .pointer (some ⟨g13, 0, none⟩)), (14, .int .i64 (k : Int)), (149, q), (150, .pointer (some ⟨g13, 2, none⟩))], (sl q 53 2 ((G ++ [w.g]).map cGs) :: box g13 118 [.string nm, .int .i64 sf, (.slice A9 (G.map cGs).length c9), (.slice B132 (ls.map cDl).length d132)] :: sl (.slice B132 (ls.map cDl).length d132) 51 3 (ls.map cDl) :: sl s80 28 12 (tkC B L T80) :: box g7 74 [(.slice A62 n62 c62), (.slice B62 m62 d62)] :: sl (.slice A62 n62 c62) 51 3 (L.map cDl) :: sl (.slice B62 m62 d62) 3 1 (F.map cI) :: box g5 28 (cAt (.slice A41 n41 c41) (.slice B41 m41 d41) (.slice C41 k41 e41) B) :: box g3 118 (cPl nm sf pv pu) :: rd pv 2 (gs.map cGs) :: rd pu 3 (ls.map cDl) :: box g2 28 (cAt v u z x) :: rd v 4 (x.ts.map cCp) :: rd u 4 (x.ls.map cLd) :: rd z 3 (x.gs.map cAg) :: tkR 66 139 144 B L T80))) mixed (by kernel_rfl) ?_ ?_
 refine Kp.Zq rfl (q_field tb rfl rfl rfl) ?_
 refine Kp.Zq rfl (q_load tb rfl rfl bxo rfl) ?_
 refine Kp.Zq rfl (q_field tb rfl rfl rfl) ?_
 refine Kp.Zq rfl (q_load tb rfl rfl bxo rfl) ?_
 refine Kp.Zq rfl (q_move rfl) ?_
 refine Kp.Zq rfl (by first | exact q_index tb rfl rfl rfl rfl gvo (by omega) (by first | omega | (simp; done) | (simp; omega)) | exact q_indexP tb rfl rfl rfl rfl (by omega) (by omega)) ?_
 refine Kp.Zq rfl (q_fieldE tb rfl rfl rfl gvo (by first | omega | (simp; done) | (simp; omega))) ?_
 refine Kp.Zq rfl (q_loadEA tb rfl rfl gvo (i := k) (o := 0) (by omega) helw rfl rfl) ?_
 refine Kp.Z_s ?_
 refine Kp.St_mk rfl rfl rfl rfl (lo_bslice tb rfl rfl rfl (xs := [cGs w.g]) rfl rfl (by simp [cGs]) rfl (by omega) rfl) fun v148 => ?_
 refine Kp.Z_s ?_
 first | refine Kp.St_append tb rfl rfl rfl (List.Perm.refl _) rfl rfl rfl (by omega) rfl rfl gvo (by simp [Value.oneCell', cGs]) (by simp [maxLen]; omega) (by simp; omega) fun v149 => ?_ | refine Kp.St_append tb rfl rfl rfl perm1 rfl rfl rfl (by omega) rfl rfl gvo (by simp [Value.oneCell', cGs]) (by simp [maxLen]; omega) (by simp; omega) fun v149 => ?_ | refine Kp.St_append tb rfl rfl rfl Kp.perm2 rfl rfl rfl (by omega) rfl rfl gvo (by simp [Value.oneCell', cGs]) (by simp [maxLen]; omega) (by simp; omega) fun v149 => ?_ | refine Kp.St_append tb rfl rfl rfl Kp.perm3 rfl rfl rfl (by omega) rfl rfl gvo (by simp [Value.oneCell', cGs]) (by simp [maxLen]; omega) (by simp; omega) fun v149 => ?_ | refine Kp.St_append tb rfl rfl rfl (perm_front (pre := [_, _])) rfl rfl rfl (by omega) rfl rfl gvo (by simp [Value.oneCell', cGs]) (by simp [maxLen]; omega) (by simp; omega) fun v149 => ?_ | refine Kp.St_append tb rfl rfl rfl (perm_front (pre := [_, _, _])) rfl rfl rfl (by omega) rfl rfl gvo (by simp [Value.oneCell', cGs]) (by simp [maxLen]; omega) (by simp; omega) fun v149 => ?_ | refine Kp.St_append tb rfl rfl rfl (perm_front (pre := [_, _, _, _])) rfl rfl rfl (by omega) rfl rfl gvo (by simp [Value.oneCell', cGs]) (by simp [maxLen]; omega) (by simp; omega) fun v149 => ?_
 refine Kp.Zq rfl (q_field tb rfl rfl rfl) ?_
 refine Kp.Z_nil ?_
 try dsimp only [List.append, List.cons_append, List.nil_append]
 exact ⟨v149, fun a_ w_ hs_ => hs_.weak ⟨rfl, rfl, rfl, rfl, rfl, rfl, rfl, rfl, rfl, rfl, trivial⟩ (fun h_ => h_.pk (by repeat (first | with_reducible exact pk_nil | refine pk_box (by first | rfl | exact (gs_snoc _ _)) ?_ | refine pk_rd rfl ?_ | refine pk_sl (by first | rfl | exact (gs_snoc _ _)) ?_ | with_reducible refine pk_app ?_ | with_reducible refine pk_app0 ?_ | with_reducible refine pk_app0L ?_ | with_reducible exact pk_tl | refine pk_var ?_)))⟩
 (intro v149; dsimp only; refine L_form (v := v149) gvo (fun A149 c149 hv149 _ => ?_); subst hv149)
 refine L_st tb rfl rfl ?_
 refine L_blk ?_
 refine C_region ?_
 refine Jq (q_move rfl) ?_
 refine Jq (q_add rfl rfl (by first | exact IntWalk.i64_in _ (by omega) | rfl)) ?_
 refine Jq (q_assign rfl) ?_
 refine L_end ?_
 exact fun ac_ wo_ hs_ => ⟨(k + 1, G ++ [w.g], .slice A149 ((G ++ [w.g]).map cGs).length c149), ⟨by dsimp only; omega, by dsimp only; rw [tk_g hw, ← hG]⟩, (by dsimp only; omega), hs_.weak ⟨rfl, rfl, rfl, rfl, rfl, rfl, rfl, rfl, trivial⟩ (fun h_ => h_.pk (by repeat (first | with_reducible exact pk_nil | refine pk_box rfl ?_ | refine pk_rd rfl ?_ | refine pk_sl rfl ?_ | with_reducible refine pk_app ?_ | with_reducible refine pk_app0 ?_ | with_reducible refine pk_app0L ?_ | with_reducible exact pk_tl | refine pk_var ?_)))⟩
 have hG9 : G = gs2 gs x.gs := by rw [hG]; exact tk_ge gs x.gs (by omega)
 subst hG9
 refine C_exit ?_
 change C Tryz.prog _ _ _ _ _ _ _
 refine C_seq ?_
 refine C_seq ?_
 refine C_region ?_
 refine Jq (q_assign rfl) ?_
 refine L_then ?_
 refine C_block ?_
 refine C_res (rs' := (sl (.slice B132 (ls.map cDl).length d132) 51 3 (ls.map cDl) :: box g13 118 [.string nm, .int .i64 sf, (.slice A9 ((gs2 gs x.gs).map cGs).length c9), (.slice B132 (ls.map cDl).length d132)] :: sl (.slice A9 ((gs2 gs x.gs).map cGs).length c9) 53 2 ((gs2 gs x.gs).map cGs) :: sl s80 28 12 (tkC B L T80) :: box g7 74 [(.slice A62 n62 c62), (.slice B62 m62 d62)] :: sl (.slice A62 n62 c62) 51 3 (L.map cDl) :: sl (.slice B62 m62 d62) 3 1 (F.map cI) :: box g5 28 (cAt (.slice A41 n41 c41) (.slice B41 m41 d41) (.slice C41 k41 e41) B) :: box g3 118 (cPl nm sf pv pu) :: rd pv 2 (gs.map cGs) :: rd pu 3 (ls.map cDl) :: box g2 28 (cAt v u z x) :: rd v 4 (x.ts.map cCp) :: rd u 4 (x.ls.map cLd) :: rd z 3 (x.gs.map cAg) :: tkR 66 139 144 B L T80)) (fun _ h_ => h_.pk (by repeat (first | with_reducible exact pk_nil | refine pk_box rfl ?_ | refine pk_rd rfl ?_ | refine pk_sl rfl ?_ | with_reducible refine pk_app ?_ | with_reducible refine pk_app0 ?_ | with_reducible refine pk_app0L ?_ | with_reducible exact pk_tl | refine pk_var ?_))) ?_
 refine C_loop (ι := Nat × List Dl × Value) (fun q => ([(2, .pointer (some ⟨g2, 0, none⟩)), (3, .pointer (some ⟨g3, 0, none⟩)), (5, .pointer (some ⟨g5, 0, none⟩)), (7, .pointer (some ⟨g7, 0, none⟩)), (9, .int .i64 ((smS L L.length))), (11, s80), (13, .pointer (some ⟨g13, 0, none⟩)), (15, .int .i64 (q.1 : Int))], (sl q.2.2 51 3 (q.2.1.map cDl) :: box g13 118 [.string nm, .int .i64 sf, (.slice A9 ((gs2 gs x.gs).map cGs).length c9), q.2.2] :: sl (.slice A9 ((gs2 gs x.gs).map cGs).length c9) 53 2 ((gs2 gs x.gs).map cGs) :: sl s80 28 12 (tkC B L T80) :: box g7 74 [(.slice A62 n62 c62), (.slice B62 m62 d62)] :: sl (.slice A62 n62 c62) 51 3 (L.map cDl) :: sl (.slice B62 m62 d62) 3 1 (F.map cI) :: box g5 28 (cAt (.slice A41 n41 c41) (.slice B41 m41 d41) (.slice C41 k41 e41) B) :: box g3 118 (cPl nm sf pv pu) :: rd pv 2 (gs.map cGs) :: rd pu 3 (ls.map cDl) :: box g2 28 (cAt v u z x) :: rd v 4 (x.ts.map cCp) :: rd u 4 (x.ls.map cLd) :: rd z 3 (x.gs.map cAg) :: tkR 66 139 144 B L T80))) (fun q => q.1 ≤ L.length ∧ q.2.1 = ls ++ (L.map (shD gs.length)).take q.1) (fun q => L.length - q.1) (0, ls, (.slice B132 (ls.map cDl).length d132)) ⟨Nat.zero_le _, (List.append_nil _).symm⟩ (fun a w hs => hs.weak ⟨rfl, rfl, rfl, rfl, rfl, rfl, rfl, rfl, trivial⟩ (fun h => h)) ?_
 rintro ⟨k, M, b9⟩ ⟨hk, hM⟩
 dsimp only at hk hM ⊢
 have hMn : M.length ≤ 70 := by rw [hM]; simp; omega
 refine C_form (v := b9) gvo (fun A8 c8 hv8 _ => ?_)
 subst hv8
 have hlM := len_map cDl M
 refine C_seq ?_
 refine C_seq ?_
 refine C_region ?_
 refine Jq (q_move rfl) ?_
 refine Jq (q_field tb rfl rfl rfl) ?_
 refine Jq (q_load tb rfl rfl bxo rfl) ?_
 refine Jq (q_len tb rfl rfl gvo) ?_
 refine Jq (q_lss rfl rfl) ?_
 refine L_then ?_
 refine C_dec rfl (fun h10 => ?_) (fun h10 => ?_)
 obtain ⟨y, f, hy, hf9, han⟩ := sch_at hgS (k := k) (by omega); have hel := map_get cDl hy; have hyg := han.2.2.1
 refine C_skip_then ?_
 refine C_seq ?_
 refine C_block ?_
 refine C_seq ?_
 refine C_region ?_
 refine Jq (q_field tb rfl rfl rfl) ?_
 refine Jq (q_load tb rfl rfl bxo rfl) ?_
 refine Jq (q_move rfl) ?_
 refine Jq (by first | exact q_index tb rfl rfl rfl rfl gvo (by omega) (by first | omega | (simp; done) | (simp; omega)) | exact q_indexP tb rfl rfl rfl rfl (by omega) (by omega)) ?_
 refine Jq (q_loadEA tb rfl rfl gvo (i := k) (o := 0) (by omega) hel rfl rfl) ?_
 refine L_alloc tb rfl rfl fun g16 => ?_
 refine L_st tb rfl rfl ?_
 refine L_then ?_
 refine C_seq ?_
 refine C_region ?_
 refine Jq (q_field tb rfl rfl rfl) ?_
 refine Jq (q_load tb rfl rfl bxo rfl) ?_
 refine Jq (q_field tb rfl rfl rfl) ?_
 refine Jq (q_load tb rfl rfl bxo rfl) ?_
 refine Jq (q_len tb rfl rfl gvo) ?_
 refine Jq (q_add rfl rfl (by first | exact IntWalk.i64_in _ (by omega) | rfl)) ?_
 rw [hp1]
 refine Jq (q_field tb rfl rfl rfl) ?_
 refine L_st tb rfl rfl ?_
 refine L_then ?_
 refine C_region ?_
 refine Jq (q_field tb rfl rfl rfl) ?_
 refine Jq (q_load tb rfl rfl bxo rfl) ?_
 refine Jq (q_loadA tb rfl rfl bxo rfl rfl) ?_
 refine L_mk (lo_bslice tb rfl rfl rfl (xs := [cDl (shD gs.length y)]) rfl rfl (by simp [cDl]) rfl (by omega) rfl) rfl rfl rfl fun v173 => ?_
 refine L_ap tb rfl rfl rfl rfl gvo (by simp [Value.oneCell', cDl]) (by simp [maxLen]; omega) (by simp; omega) fun v174 => ?_
 refine L_form (v := v174) gvo (fun A174 c174 hv174 _ => ?_)
 subst hv174
 refine Jq (q_field tb rfl rfl rfl) ?_
 refine L_st tb rfl rfl ?_
 refine L_blk ?_
 refine C_region ?_
 refine Jq (q_move rfl) ?_
 refine Jq (q_add rfl rfl (by first | exact IntWalk.i64_in _ (by omega) | rfl)) ?_
 refine Jq (q_assign rfl) ?_
 refine L_end ?_
 have e9 := dl_snoc M (shD gs.length y)
 exact fun ac_ wo_ hs_ => ⟨(k + 1, M ++ [(shD gs.length y)], .slice A174 (M.map cDl ++ [cDl (shD gs.length y)]).length c174), ⟨by dsimp only; omega, by dsimp only; rw [tk_l hy, ← hM]⟩, (by dsimp only; omega), hs_.weak ⟨rfl, rfl, rfl, rfl, rfl, rfl, rfl, rfl, trivial⟩ (fun h_ => h_.pk (by repeat (first | with_reducible exact pk_nil | refine pk_box (by first | rfl | exact e9) ?_ | refine pk_rd rfl ?_ | refine pk_sl (by first | rfl | exact e9) ?_ | with_reducible refine pk_app ?_ | with_reducible refine pk_app0 ?_ | with_reducible refine pk_app0L ?_ | with_reducible exact pk_tl | refine pk_var ?_)))⟩
 have hM9 : M = ls2 gs ls L := by rw [hM]; exact tk_le gs ls L (by omega)
 subst hM9
 have hev := ev_ok (nm := nm) H h07 hsf7 hz7 hs7 hBe HB hfo hckB (by omega) (by omega)
 have hM3 := ls2_len (gs := gs) (ls := ls) (L := L); have hG3 := gs2_len (gs := gs) (ga := x.gs)
 have hse1 := HP.e ls.length (Nat.le_refl _); have hse2 := hev.ok.e _ (Nat.le_refl _)
 rw [hev.sec] at hse2
 refine C_exit ?_
 change C Tryz.prog _ _ _ _ _ _ _
 refine C_seq ?_
 refine C_region ?_
 refine Jq (q_loadA tb rfl rfl bxo rfl rfl) ?_
 refine L_call tb rfl rfl (ct_profile_PlanSeconds nm sf _ _ (gs2 gs x.gs) (ls2 gs ls L) (by omega) (by omega) (by have := hnm.2.1; omega) hev.ok hev.ck) (ps_cons gvo (ps_cons gvo no_ps)) rfl ?_
 refine Jq (q_move rfl) ?_
 refine Jq (q_ext0 rfl) ?_
 refine Jq (q_ext1 rfl) ?_
 refine Jq (q_assign rfl) ?_
 refine Jq (q_assign rfl) ?_
 refine L_then ?_
 refine C_seq ?_
 refine C_region ?_
 refine Jq (q_loadA tb rfl rfl bxo rfl rfl) ?_
 refine L_callSN tb rfl rfl (ct_tissue_LegsOf nm sf _ _ (gs2 gs x.gs) (ls2 gs ls L) (by omega) (by omega)) (ps_cons gvo (ps_cons gvo no_ps)) rfl fun v183 => ?_
 refine Jq (q_move rfl) ?_
 rw [hev.lg]
 obtain ⟨Xs, hXs⟩ : ∃ Xs, Xs = (legsE sf (gs2 gs x.gs) (ls2 gs ls L)).1 := ⟨_, rfl⟩
 have hXl := hev.ln; have hfo2 := hev.fol; have hld := hev.ld
 rw [← hXs] at hXl hfo2 hld ⊢
 have hxl := len_map cLg Xs; have hM2 := len_map cDl (ls2 gs ls L)
 refine Jq (q_ext0 rfl) ?_
 refine Jq (q_ext1 rfl) ?_
 refine Jq (q_assign rfl) ?_
 refine Jq (q_assign rfl) ?_
 refine L_then ?_
 refine C_seq ?_
 refine C_seq ?_
 refine C_region ?_
 refine Jq (q_move rfl) ?_
 refine Jq (q_false (q_neq rfl rfl) (decide_eq_false fun h => h rfl)) ?_
 refine Jq (q_move rfl) ?_
 refine Jg (q_move rfl) ?_
 refine Jg (q_loadA tb rfl rfl bxo rfl rfl) ?_
 refine L_callg tb rfl rfl rfl rfl rfl rfl (ct_shotlineref02_Seconds nm sf pv pu gs ls HP) (ps_cons gvo (ps_cons gvo no_ps)) rfl ?_
 refine Jg (q_move rfl) ?_
 refine Jg (q_add rfl rfl (by first | exact IntWalk.i64_in _ (by omega) | rfl)) ?_
 refine Jg (q_false (q_neq rfl rfl) (decide_eq_false fun h => h hev.sec)) ?_
 refine Jq (q_pickF rfl rfl) ?_
 refine Jq (q_move rfl) ?_
 refine Jg (q_move rfl) ?_
 refine Jg (q_false (q_neq rfl rfl) (decide_eq_false fun h => h rfl)) ?_
 refine Jq (q_pickF rfl rfl) ?_
 refine Jq (q_move rfl) ?_
 refine Jg (q_move rfl) ?_
 refine Jg (q_len tb rfl rfl gvo) ?_
 refine Jg (q_field tb rfl rfl rfl) ?_
 refine Jg (q_load tb rfl rfl bxo rfl) ?_
 refine Jg (q_len tb rfl rfl gvo) ?_
 refine Jg (q_false (q_neq rfl rfl) (decide_eq_false (by omega))) ?_
 refine Jq (q_pickF rfl rfl) ?_
 refine L_then ?_
 refine C_false rfl ?_
 refine C_skip_then ?_
 refine C_seq ?_
 refine C_region ?_
 refine L_res (rs' := (sl v183 55 5 (Xs.map cLg) :: sl s80 28 12 (tkC B L T80) :: box g7 74 [(.slice A62 n62 c62), (.slice B62 m62 d62)] :: sl (.slice A62 n62 c62) 51 3 (L.map cDl) :: sl (.slice B62 m62 d62) 3 1 (F.map cI) :: box g5 28 (cAt (.slice A41 n41 c41) (.slice B41 m41 d41) (.slice C41 k41 e41) B) :: box g3 118 (cPl nm sf pv pu) :: rd pv 2 (gs.map cGs) :: rd pu 3 (ls.map cDl) :: box g2 28 (cAt v u z x) :: rd v 4 (x.ts.map cCp) :: rd u 4 (x.ls.map cLd) :: rd z 3 (x.gs.map cAg) :: tkR 66 139 144 B L T80)) (fun _ h_ => h_.pk (by repeat (first | with_reducible exact pk_nil | refine pk_box rfl ?_ | refine pk_rd rfl ?_ | refine pk_sl rfl ?_ | with_reducible refine pk_app ?_ | with_reducible refine pk_app0 ?_ | with_reducible refine pk_app0L ?_ | with_reducible exact pk_tl | refine pk_var ?_))) ?_
 refine Jq (q_field tb rfl rfl rfl) ?_
 refine Jq (q_load tb rfl rfl bxo rfl) ?_
 refine Jq (q_field tb rfl rfl rfl) ?_
 refine Jq (q_load tb rfl rfl bxo rfl) ?_
 refine Jq (q_move rfl) ?_
 refine Jq (q_field tb rfl rfl rfl) ?_
 refine Jq (q_field tb rfl rfl rfl) ?_
 refine Jq (q_load tb rfl rfl bxo rfl) ?_
 refine L_lo rfl rfl rfl (lo_call tb rfl rfl (ct_tissue_Followed _ _ _ x.r.fi x.ts x.ls Xs (by omega) (by omega) (by omega)) (ps_cons gvo (ps_cons gvo (ps_cons gvo no_ps))) FolP_sinks) ?_
 rintro _ _ ⟨s217, vs217, rfl, rfl, hl217⟩
 refine Jq (q_move rfl) ?_
 rw [hfo2] at hl217 ⊢
 rw [if_pos rfl] at hl217
 have hl9 : vs217.length = ls.length + L.length := by rw [hl217, hXl]
 have hlr : (vs217.reverse.map fun q => [q]).length = ls.length + L.length := by rw [List.length_map, List.length_reverse, hl9]
 refine Jq (q_ext0 rfl) ?_
 refine Jq (q_ext1 rfl) ?_
 refine Jq (q_assign rfl) ?_
 refine Jq (q_assign rfl) ?_
 refine L_then ?_
 refine C_seq ?_
 refine C_seq ?_
 refine C_region ?_
 refine Jq (q_move rfl) ?_
 refine Jq (q_false (q_neq rfl rfl) (decide_eq_false fun h => h rfl)) ?_
 refine Jq (q_move rfl) ?_
 refine Jg (q_move rfl) ?_
 refine Jg (q_len tb rfl rfl gvo) ?_
 refine Jg (q_move rfl) ?_
 refine Jg (q_len tb rfl rfl gvo) ?_
 refine Jg (q_false (q_neq rfl rfl) (decide_eq_false (by omega))) ?_
 refine Jq (q_pickF rfl rfl) ?_
 refine L_then ?_
 refine C_false rfl ?_
 refine C_skip_then ?_
 refine C_seq ?_
 refine C_seq ?_
 refine C_region ?_
 refine Jq (q_assign rfl) ?_
 refine L_then ?_
 refine C_block ?_
 refine C_loop (ι := Nat) (fun k => ([(2, .pointer (some ⟨g2, 0, none⟩)), (3, .pointer (some ⟨g3, 0, none⟩)), (5, .pointer (some ⟨g5, 0, none⟩)), (7, .pointer (some ⟨g7, 0, none⟩)), (11, s80), (21, s217), (23, .int .i64 (k : Int))], ((sl s217 23 1 (vs217.reverse.map fun q => [q]) :: rlR 139 x.ts x.ls Xs x.r.fi.toNat vs217) ++ (sl v183 55 5 (Xs.map cLg) :: sl s80 28 12 (tkC B L T80) :: box g7 74 [(.slice A62 n62 c62), (.slice B62 m62 d62)] :: sl (.slice A62 n62 c62) 51 3 (L.map cDl) :: sl (.slice B62 m62 d62) 3 1 (F.map cI) :: box g5 28 (cAt (.slice A41 n41 c41) (.slice B41 m41 d41) (.slice C41 k41 e41) B) :: box g3 118 (cPl nm sf pv pu) :: rd pv 2 (gs.map cGs) :: rd pu 3 (ls.map cDl) :: box g2 28 (cAt v u z x) :: rd v 4 (x.ts.map cCp) :: rd u 4 (x.ls.map cLd) :: rd z 3 (x.gs.map cAg) :: tkR 66 139 144 B L T80)))) (fun k => k ≤ L.length) (fun k => L.length - k) 0 (Nat.zero_le _) (fun a w hs => hs.weak ⟨rfl, rfl, rfl, rfl, rfl, rfl, rfl, trivial⟩ (fun h => h)) ?_
 intro k hk
 dsimp only at hk ⊢
 refine C_seq ?_
 refine C_seq ?_
 refine C_region ?_
 refine Jq (q_move rfl) ?_
 refine Jq (q_field tb rfl rfl rfl) ?_
 refine Jq (q_load tb rfl rfl bxo rfl) ?_
 refine Jq (q_len tb rfl rfl gvo) ?_
 refine Jq (q_lss rfl rfl) ?_
 refine L_then ?_
 refine C_dec rfl (fun h13 => ?_) (fun h13 => ?_)
 obtain ⟨w, hw9⟩ := rev_at (T := vs217) (k := ls.length + k) hl9 (by omega)
 have hell := map_get (fun q : Value => [q]) hw9
 obtain ⟨y, f, hy, hf9, han⟩ := sch_at hgS (k := k) (by omega)
 obtain ⟨hfi9, hk29⟩ := hkp k y f hy hf9
 obtain ⟨_, _, _, hf6⟩ := han
 obtain ⟨fn, hfn⟩ := Int.eq_ofNat_of_zero_le (show 0 ≤ f by omega)
 rw [hfn] at hk29
 have hgw := gv_rl (ts := x.ts) (ls := x.ls) (xs := Xs) (f := x.r.fi.toNat) (u := 139) hw9
 rw [show ls.length + k + 1 = ls.length + (k + 1) by omega, show x.r.fi.toNat = fnA x from rfl, hld (k + 1) (by omega)] at hgw
 obtain ⟨⟨q1, q2, q3⟩, hqb⟩ := rev_at (T := T80) (k := k) hl80 (by omega)
 have helB := tkC_get (x := B) (L := L) hqb
 have hgq := gv_tk2 (x := B) (L := L) (tc := 66) (tl := 139) (tg := 144) hqb
 dsimp only at helB hgq
 obtain ⟨o1, o2, o3⟩ := ev_kept HB hckB hy (show fn ≤ 6 by omega) hk29
 have hde9 : (behA B L (k + 1)).de = y.d := by rw [behA_s hy]; rfl
 rw [hBt, hBs, hBr, ← hde9] at o2 o3
 rw [hBt] at o1
 have hol := o1.len
 have hXk := beh_ok HB (L := L) (k := k) (by omega) fun i _ => hckB i
 have hXd := hXk.de
 have hXk2 := beh_ok HB (L := L) (k := k + 1) (by omega) fun i _ => hckB i
 have hXd2 := hXk2.de
 refine C_form (v := w) (gv_l (gv1 hgw)) (fun Aw cw hvw _ => ?_)
 subst hvw
 refine C_form (v := q2) (by first | exact gv_r (gv1 (gv1 (gv1 (gv1 (gv1 (gv1 (gv1 (gv1 (gv1 (gv1 (gv1 (gv1 (hgq))))))))))))) | exact gv_r (gv1 (gv1 (gv1 (gv1 (gv1 (gv1 (gv1 (gv1 (gv1 (gv1 (gv1 (gv1 (gv1 (hgq)))))))))))))) | exact gv_r (gv1 (gv1 (gv1 (gv1 (gv1 (gv1 (gv1 (gv1 (gv1 (gv1 (gv1 (gv1 (gv1 (gv1 (hgq))))))))))))))) | exact gv_r (gv1 (gv1 (gv1 (gv1 (gv1 (gv1 (gv1 (gv1 (gv1 (gv1 (gv1 (gv1 (gv1 (gv1 (gv1 (hgq))))))))))))))))) (fun Aq cq hvq _ => ?_)
 subst hvq
 have htl9 := tkC_len (x := B) (L := L) T80
 refine C_skip_then ?_
 refine C_seq ?_
 refine C_block ?_
 refine C_seq ?_
 refine C_region ?_
 refine Jq (q_move rfl) ?_
 refine Jq (q_field tb rfl rfl rfl) ?_
 refine Jq (q_load tb rfl rfl bxo rfl) ?_
 refine Jq (q_len tb rfl rfl gvo) ?_
 refine Jq (q_move rfl) ?_
 refine Jq (q_add rfl rfl (by first | exact IntWalk.i64_in _ (by omega) | rfl)) ?_
 refine Jq (by first | exact q_index tb rfl rfl rfl rfl gvo (by omega) (by first | omega | (simp; done) | (simp; omega)) | exact q_indexP tb rfl rfl rfl rfl (by omega) (by omega)) ?_
 refine Jq (q_loadE tb rfl rfl gvo (i := ls.length + k) (o := 0) (by omega) hell rfl) ?_
 refine Jq (q_assign rfl) ?_
 refine L_then ?_
 refine C_seq ?_
 refine C_region ?_
 refine Jq (q_field tb rfl rfl rfl) ?_
 refine Jq (q_load tb rfl rfl bxo rfl) ?_
 refine Jq (q_assign rfl) ?_
 refine L_then ?_
 refine C_cut (ι := Unit) (fun _p => ([(2, .pointer (some ⟨g2, 0, none⟩)), (3, .pointer (some ⟨g3, 0, none⟩)), (5, .pointer (some ⟨g5, 0, none⟩)), (7, .pointer (some ⟨g7, 0, none⟩)), (11, s80), (21, s217), (23, .int .i64 (k : Int)), (24, (.slice Aw ((behA B L (k + 1)).ls.map cLd).length cw)), (25, .int .i64 ((behA B L k).de))], ((sl s217 23 1 (vs217.reverse.map fun q => [q]) :: rlR 139 x.ts x.ls Xs x.r.fi.toNat vs217) ++ (sl v183 55 5 (Xs.map cLg) :: sl s80 28 12 (tkC B L T80) :: box g7 74 [(.slice A62 n62 c62), (.slice B62 m62 d62)] :: sl (.slice A62 n62 c62) 51 3 (L.map cDl) :: sl (.slice B62 m62 d62) 3 1 (F.map cI) :: box g5 28 (cAt (.slice A41 n41 c41) (.slice B41 m41 d41) (.slice C41 k41 e41) B) :: box g3 118 (cPl nm sf pv pu) :: rd pv 2 (gs.map cGs) :: rd pu 3 (ls.map cDl) :: box g2 28 (cAt v u z x) :: rd v 4 (x.ts.map cCp) :: rd u 4 (x.ls.map cLd) :: rd z 3 (x.gs.map cAg) :: tkR 66 139 144 B L T80)))) (fun _p => True) ?_ ?_
 refine C_seq ?_
 refine C_region ?_
 refine Jq (q_move rfl) ?_
 refine Jq (q_gtr rfl rfl) ?_
 refine L_then ?_
 refine C_dec rfl (fun h247 => ?_) (fun h247 => ?_)
 obtain ⟨⟨a1, a2, a3⟩, hqa⟩ := rev_at (T := T80) (k := k - 1) hl80 (by omega)
 have helA := tkC_get (x := B) (L := L) hqa
 dsimp only at helA
 refine C_region ?_
 refine Jq (q_move rfl) ?_
 refine Jq (q_move rfl) ?_
 refine Jq (q_sub rfl rfl (by first | exact IntWalk.i64_in _ (by omega) | rfl)) ?_
 refine Jq (by first | exact q_index tb rfl rfl rfl rfl gvo (by omega) (by first | omega | (simp; done) | (simp; omega)) | exact q_indexP tb rfl rfl rfl rfl (by omega) (by omega)) ?_
 refine Jq (q_fieldE tb rfl rfl rfl gvo (by first | omega | (simp; done) | (simp; omega))) ?_
 refine Jq (q_loadE tb rfl rfl gvo (i := k - 1) (o := 3) (by omega) helA rfl) ?_
 refine Jq (q_assign rfl) ?_
 refine L_end ?_
 exact fun ac_ wo_ hs_ => ⟨(), trivial, hs_.weak ⟨rfl, rfl, rfl, rfl, rfl, rfl, rfl, rfl, en (by rw [show k - 1 + 1 = k by omega]), trivial⟩ (fun h => h)⟩
 refine C_skip ?_
 exact fun ac_ wo_ hs_ => ⟨(), trivial, hs_.weak ⟨rfl, rfl, rfl, rfl, rfl, rfl, rfl, rfl, en (by obtain rfl : k = 0 := (by omega); rfl), trivial⟩ (fun h => h)⟩
 intro _ _
 refine C_seq ?_
 refine C_region ?_
 refine Jq (q_move rfl) ?_
 refine Jq (q_move rfl) ?_
 refine Jq (q_move rfl) ?_
 refine Jq (by first | exact q_index tb rfl rfl rfl rfl gvo (by omega) (by first | omega | (simp; done) | (simp; omega)) | exact q_indexP tb rfl rfl rfl rfl (by omega) (by omega)) ?_
 refine Jq (q_fieldE tb rfl rfl rfl gvo (by first | omega | (simp; done) | (simp; omega))) ?_
 refine Jq (q_loadE tb rfl rfl gvo (i := k) (o := 1) (by omega) helB rfl) ?_
 refine L_call tb rfl rfl (ct_tissue_Inside _ _ (behA B L (k + 1)).ls (behA B L (k + 1)).ls (by omega) (by omega)) (ps_cons (gv_l (gv1 hgw)) (ps_cons (by first | exact gv_r (gv1 (gv1 (gv1 (gv1 (gv1 (gv1 (gv1 (gv1 (gv1 (gv1 (gv1 (gv1 (hgq))))))))))))) | exact gv_r (gv1 (gv1 (gv1 (gv1 (gv1 (gv1 (gv1 (gv1 (gv1 (gv1 (gv1 (gv1 (gv1 (hgq)))))))))))))) | exact gv_r (gv1 (gv1 (gv1 (gv1 (gv1 (gv1 (gv1 (gv1 (gv1 (gv1 (gv1 (gv1 (gv1 (gv1 (hgq))))))))))))))) | exact gv_r (gv1 (gv1 (gv1 (gv1 (gv1 (gv1 (gv1 (gv1 (gv1 (gv1 (gv1 (gv1 (gv1 (gv1 (gv1 (hgq))))))))))))))))) no_ps)) rfl ?_
 refine Jq (q_move rfl) ?_
 rw [(ins_same o1).1, (ins_same o1).2]
 refine Jq (q_ext0 rfl) ?_
 refine Jq (q_ext1 rfl) ?_
 refine Jq (q_assign rfl) ?_
 refine Jq (q_assign rfl) ?_
 refine L_then ?_
 refine C_seq ?_
 refine C_draw (n := 22) [(0, false), (1, false), (2, false), (3, false), (4, false), (5, false), (6, false), (7, false), (8, false), (9, false), (10, false), (11, false), (12, false), (13, false), (14, true), (15, false), (16, true), (17, false), (18, false), (19, false), (20, false), (21, false)] mixed (by kernel_rfl) ?_
 refine Yq rfl (q_field tb rfl rfl rfl) ?_
 refine Yq rfl (q_load tb rfl rfl bxo rfl) ?_
 refine Yq rfl (q_move rfl) ?_
 refine Yq rfl (q_field tb rfl rfl rfl) ?_
 refine Yq rfl (q_load tb rfl rfl bxo rfl) ?_
 refine Yq rfl (q_move rfl) ?_
 refine Yq rfl (q_move rfl) ?_
 refine Yq rfl (by first | exact q_index tb rfl rfl rfl rfl gvo (by omega) (by first | omega | (simp; done) | (simp; omega)) | exact q_indexP tb rfl rfl rfl rfl (by omega) (by omega)) ?_
 refine Yq rfl (q_fieldE tb rfl rfl rfl gvo (by first | omega | (simp; done) | (simp; omega))) ?_
 refine Yq rfl (q_loadE tb rfl rfl gvo (i := k) (o := 3) (by omega) helB rfl) ?_
 refine Yq rfl (q_add rfl rfl (by first | exact IntWalk.i64_in _ (by omega) | rfl)) ?_
 refine Yq rfl (q_field tb rfl rfl rfl) ?_
 refine Yq rfl (q_loadA tb rfl rfl bxo rfl rfl) ?_
 refine Yq rfl (q_move rfl) ?_
 refine W_call tb rfl rfl rfl rfl (ct_shotlineref04_FactorAt x.r H.r (behA B L k).de (by omega)) no_ps rfl ?_
 refine Yq rfl (by first | exact q_build tb rfl rfl rfl rfl | exact q_buildArr tb rfl rfl rfl rfl rfl) ?_
 refine W_call tb rfl rfl rfl rfl (ct_tissue_KeptAt _ _ (x.su + (behA B L (k + 1)).de) (facR x.r (behA B L k).de) x.ts (behA B L (k + 1)).ls (by omega) (by omega)) (ps_cons gvo (ps_cons (gv_l (gv1 hgw)) no_ps)) rfl ?_
 refine Yq rfl (q_move rfl) ?_
 rw [keptE_ok o2]
 refine Yq rfl (q_ext0 rfl) ?_
 refine Yq rfl (q_ext1 rfl) ?_
 refine Yq rfl (q_assign rfl) ?_
 refine Yq rfl (q_assign rfl) ?_
 refine W_nil ?_
 refine L_then ?_
 refine C_seq ?_
 refine C_region ?_
 refine Jq (q_move rfl) ?_
 refine Jq (q_false (q_neq rfl rfl) (decide_eq_false fun h => h rfl)) ?_
 refine Jq (q_move rfl) ?_
 refine Jg (q_move rfl) ?_
 refine Jg (q_not rfl (by first | exact (rfl : (!true) = false) | exact (rfl : (!false) = true) | exact decide_not.symm | rfl)) ?_
 refine Jq (q_pickF rfl rfl) ?_
 refine Jq (q_move rfl) ?_
 refine Jg (q_move rfl) ?_
 refine Jg (q_false (q_neq rfl rfl) (decide_eq_false fun h => h rfl)) ?_
 refine Jq (q_pickF rfl rfl) ?_
 refine Jq (q_move rfl) ?_
 refine Jg (q_move rfl) ?_
 refine Jg (q_false (q_eql rfl rfl) (decide_eq_false o3)) ?_
 refine Jq (q_pickF rfl rfl) ?_
 refine L_then ?_
 refine C_false rfl ?_
 refine C_skip_blk ?_
 refine C_region ?_
 refine Jq (q_move rfl) ?_
 refine Jq (q_add rfl rfl (by first | exact IntWalk.i64_in _ (by omega) | rfl)) ?_
 refine Jq (q_assign rfl) ?_
 refine L_end ?_
 exact fun ac_ wo_ hs_ => ⟨k + 1, (by omega), (by dsimp only; omega), hs_.weak ⟨rfl, rfl, rfl, rfl, rfl, rfl, rfl, trivial⟩ (fun h => h)⟩
 refine C_exit ?_
 change C Tryz.prog _ _ _ _ _ _ _
 refine C_seq ?_
 refine C_seq ?_
 refine C_region ?_
 refine Jq (q_field tb rfl rfl rfl) ?_
 refine Jq (q_load tb rfl rfl bxo rfl) ?_
 refine Jq (q_len tb rfl rfl gvo) ?_
 refine Jq (q_eql rfl rfl) ?_
 refine L_then ?_
 refine C_dec rfl (fun h301 => ?_) (fun h301 => ?_)
 refine C_seq ?_
 refine C_region ?_
 refine Jq (q_assign rfl) ?_
 refine L_then ?_
 refine C_ret ?_
 exact ret_of (res1 rfl rfl) sub_nil (by intro r hr; cases hr) ⟨rfl, rfl⟩
 have hL0 : 0 < L.length := by omega
 obtain ⟨w, hw9⟩ := rev_at (T := vs217) (k := ls.length + (L.length - 1)) hl9 (by omega)
 have hell := map_get (fun q : Value => [q]) hw9
 obtain ⟨y, f, hy, hf9, han⟩ := sch_at hgS (k := (L.length - 1)) (by omega)
 obtain ⟨hfi9, hk29⟩ := hkp (L.length - 1) y f hy hf9
 obtain ⟨_, _, _, hf6⟩ := han
 obtain ⟨fn, hfn⟩ := Int.eq_ofNat_of_zero_le (show 0 ≤ f by omega)
 rw [hfn] at hk29
 have hgw := gv_rl (ts := x.ts) (ls := x.ls) (xs := Xs) (f := x.r.fi.toNat) (u := 139) hw9
 rw [show ls.length + (L.length - 1) + 1 = ls.length + ((L.length - 1) + 1) by omega, show x.r.fi.toNat = fnA x from rfl, hld ((L.length - 1) + 1) (by omega)] at hgw
 have hyd : y.d = 0 := by
  have h9 := hla.2
  rw [beh_de] at h9
  have h8 := dpK_s (d := B.de) hy
  rw [show L.length - 1 + 1 = L.length by omega] at h8
  omega
 obtain ⟨o2, o3⟩ := ev_top HB hckB hy (show fn ≤ 6 by omega) hk29 hyd
 obtain ⟨o1, _, _⟩ := ev_kept HB hckB hy (show fn ≤ 6 by omega) hk29
 rw [show L.length - 1 + 1 = L.length by omega] at o1 o2 o3 hgw
 rw [hBt, hBs, hBr] at o2 o3
 rw [hBt] at o1
 have hol := o1.len
 refine C_form (v := w) (gv_l (gv1 hgw)) (fun Aw cw hvw _ => ?_)
 subst hvw
 refine C_skip_then ?_
 refine C_seq ?_
 refine C_draw (n := 20) [(0, false), (1, false), (2, false), (3, false), (4, false), (5, false), (6, false), (7, false), (8, false), (9, false), (10, false), (11, false), (12, false), (13, false), (14, true), (15, false), (16, false), (17, false), (18, false), (19, false)] mixed (by kernel_rfl) ?_
 refine Yq rfl (q_field tb rfl rfl rfl) ?_
 refine Yq rfl (q_load tb rfl rfl bxo rfl) ?_
 refine Yq rfl (q_move rfl) ?_
 refine Yq rfl (q_move rfl) ?_
 refine Yq rfl (q_len tb rfl rfl gvo) ?_
 refine Yq rfl (q_sub rfl rfl (by first | exact IntWalk.i64_in _ (by omega) | rfl)) ?_
 refine Yq rfl (by first | exact q_index tb rfl rfl rfl rfl gvo (by omega) (by first | omega | (simp; done) | (simp; omega)) | exact q_indexP tb rfl rfl rfl rfl (by omega) (by omega)) ?_
 refine Yq rfl (q_loadE tb rfl rfl gvo (i := ls.length + (L.length - 1)) (o := 0) (by omega) hell rfl) ?_
 refine Yq rfl (q_field tb rfl rfl rfl) ?_
 refine Yq rfl (q_load tb rfl rfl bxo rfl) ?_
 refine Yq rfl (q_field tb rfl rfl rfl) ?_
 refine Yq rfl (q_field tb rfl rfl rfl) ?_
 refine Yq rfl (q_load tb rfl rfl bxo rfl) ?_
 refine Yq rfl (by first | exact q_build tb rfl rfl rfl rfl | exact q_buildArr tb rfl rfl rfl rfl rfl) ?_
 refine W_call tb rfl rfl rfl rfl (ct_tissue_KeptAt _ _ x.su x.r.hi x.ts (behA B L L.length).ls (by omega) (by omega)) (ps_cons gvo (ps_cons (gv_l (gv1 hgw)) no_ps)) rfl ?_
 refine Yq rfl (q_move rfl) ?_
 rw [keptE_ok o2]
 refine Yq rfl (q_ext0 rfl) ?_
 refine Yq rfl (q_ext1 rfl) ?_
 refine Yq rfl (q_assign rfl) ?_
 refine Yq rfl (q_assign rfl) ?_
 refine W_nil ?_
 refine L_then ?_
 refine C_seq ?_
 refine C_region ?_
 refine Jq (q_move rfl) ?_
 refine Jq (q_true (q_eql rfl rfl) (decide_eq_true rfl)) ?_
 refine Jq (q_move rfl) ?_
 refine Jg (q_move rfl) ?_
 refine Jg (q_true (q_neq rfl rfl) (decide_eq_true o3)) ?_
 refine Jq (q_pickT rfl rfl) ?_
 refine Jq (q_assign rfl) ?_
 refine L_then ?_
 refine C_ret ?_
 exact ret_of (res1 rfl rfl) sub_nil (by intro r hr; cases hr) ⟨rfl, rfl⟩
end Go.Proofs.YthilaakeimfedaaGreatDoor
