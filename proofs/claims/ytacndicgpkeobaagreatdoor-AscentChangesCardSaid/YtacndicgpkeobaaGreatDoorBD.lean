/-
  Walks: each function named returns what its model says. Conditions: those in front of each theorem.
-/
import Derived.Test.YtacndicgpkeobaaGreatDoorBB
import Derived.Test.YtacndicgpkeobaaGreatDoorLHe
import Derived.Test.YtacndicgpkeobaaGreatDoorAD
import Derived.Test.YtacndicgpkeobaaGreatDoorBE
namespace Go.Proofs.YtacndicgpkeobaaGreatDoor
open Go.RowKit

set_option maxRecDepth 100000 in
theorem ct_variants_add (B : Nat) (w0 : World) (rs : List Res) (b : Nat) (vs : Value) (ns : List Int) (hle : ns.length ≤ 20) (v u z : Value) (x : Asc) (e : Int) (H : e = 0 → okAsc x) (hg1 : e = 0 → GvR rs v 4 (x.ts.map cCp)) (hg2 : e = 0 → GvR rs u 4 (x.ls.map cLd)) (hg3 : e = 0 → GvR rs z 3 (x.gs.map cAg)) : ItV Tryz.prog 54 [.agg (cAt v u z x).toArray, .int .i64 e, .pointer (some ⟨b, 0, none⟩)] B w0 (box b 38 [vs] :: sl vs 3 1 ((ns).map cI) :: rs) (fun _ w_ => ∃ rs', (∃ A n c, rs' = box b 38 [(.slice A n c)] :: sl (.slice A n c) 3 1 ((ns ++ [varV x e]).map cI) :: rs) ∧ WS B w0 rs' w_) := by
 have hln := len_map cI ns
 refine ItV.of (N := 23) Tryz.func54 rfl rfl rfl ?_
 refine C_weak (E' := [(0, .agg (cAt v u z x).toArray), (1, .int .i64 e), (2, .pointer (some ⟨b, 0, none⟩))]) (rs' := box b 38 [vs] :: sl vs 3 1 ((ns).map cI) :: rs) ⟨rfl, rfl, rfl, trivial⟩ (fun _ h => h) ?_
 refine C_seq ?_
 refine C_region ?_
 refine L_box rfl rfl rfl fun g3 => ?_
 refine L_then ?_
 refine C_seq ?_
 refine C_region ?_
 refine Jq (q_assign rfl) ?_
 refine L_then ?_
 refine C_seq ?_
 refine C_seq ?_
 refine C_region ?_
 refine Jq (q_move rfl) ?_
 refine Jq (q_eql rfl rfl) ?_
 refine L_then ?_
 refine C_dec rfl (fun h9 => ?_) (fun h9 => ?_)
 have hgl := gen_len (H h9)
 refine C_seq ?_
 refine C_region ?_
 refine Jq (q_loadA tb rfl rfl bxo rfl rfl) ?_
 refine L_lo rfl rfl rfl (lo_call tb rfl rfl (ct_ascent_task_generate _ _ _ x (H h9)) (ps_cons (by first | exact gv1 (gv1 (hg1 h9)) | exact gv1 (gv1 (gv1 (hg1 h9))) | exact gv1 (gv1 (gv1 (gv1 (hg1 h9)))) | exact gv1 (gv1 (gv1 (gv1 (gv1 (hg1 h9))))) | exact gv1 (gv1 (gv1 (gv1 (gv1 (gv1 (hg1 h9))))))) (ps_cons (by first | exact gv1 (gv1 (hg2 h9)) | exact gv1 (gv1 (gv1 (hg2 h9))) | exact gv1 (gv1 (gv1 (gv1 (hg2 h9)))) | exact gv1 (gv1 (gv1 (gv1 (gv1 (hg2 h9))))) | exact gv1 (gv1 (gv1 (gv1 (gv1 (gv1 (hg2 h9))))))) (ps_cons (by first | exact gv1 (gv1 (hg3 h9)) | exact gv1 (gv1 (gv1 (hg3 h9))) | exact gv1 (gv1 (gv1 (gv1 (hg3 h9)))) | exact gv1 (gv1 (gv1 (gv1 (gv1 (hg3 h9))))) | exact gv1 (gv1 (gv1 (gv1 (gv1 (gv1 (hg3 h9))))))) no_ps))) isSc_sinks) ?_
 rintro _ _ ⟨A12, n12, c12, B12, m12, d12, rfl, rfl⟩
 refine Jq (q_move rfl) ?_
 refine Jq (q_ext0 rfl) ?_
 refine Jq (q_ext1 rfl) ?_
 refine L_alloc tb rfl rfl fun g6 => ?_
 refine L_st tb rfl rfl ?_
 refine Jq (q_assign rfl) ?_
 refine L_then ?_
 refine C_seq ?_
 refine C_region ?_
 refine Jq (q_move rfl) ?_
 refine Jq (q_eql rfl rfl) ?_
 refine L_then ?_
 refine C_dec rfl (fun h16 => ?_) (fun h16 => ?_)
 have hgS := (gen_chk (H h9) h16).1
 refine C_region ?_
 refine Jq (q_loadA tb rfl rfl bxo rfl rfl) ?_
 refine L_call tb rfl rfl (ct_ascent_seconds _ _ (genA x).1.1 (sch_sec hgS) (by omega)) (ps_cons gvo no_ps) rfl ?_
 refine Jq (q_assign rfl) ?_
 refine L_then ?_
 refine C_region ?_
 refine Jq (by first | exact q_load tb rfl rfl bxo rfl | exact q_loadE tb rfl rfl gvo (by omega) (by simp) rfl) ?_
 refine Jq (q_move rfl) ?_
 refine L_mk (lo_bslice tb rfl rfl rfl (xs := [[_]]) rfl rfl (by simp) rfl (by omega) rfl) rfl rfl rfl fun v21 => ?_
 refine L_ap tb rfl rfl rfl rfl gvo (by simp [Value.oneCell']) (by simp [maxLen]; omega) (by simp; omega) fun v22 => ?_
 refine L_form (v := v22) gvo (fun A22 c22 hv22 _ => ?_)
 subst hv22
 refine L_st tb rfl rfl ?_
 refine L_end ?_
 have e9 : varV x e = smS (genA x).1.1 (genA x).1.1.length := (if_neg (fun hh => hh h9)).trans (if_neg (fun hh => hh h16))
 rw [e9]
 have e8 := ci_snoc ns (smS (genA x).1.1 (genA x).1.1.length)
 exact it_endV rfl (fun w_ h_ => ⟨_, ⟨_, _, _, rfl⟩, (h_.pk (by repeat (first | with_reducible exact pk_nil | refine pk_box (by first | rfl | exact e8) ?_ | refine pk_rd rfl ?_ | refine pk_sl (by first | rfl | exact e8) ?_ | with_reducible refine pk_app ?_ | with_reducible refine pk_app0 ?_ | with_reducible refine pk_app0L ?_ | with_reducible exact pk_tl | refine pk_var ?_)))⟩)
 refine C_skip_then ?_
 refine C_region ?_
 refine Jq (by first | exact q_load tb rfl rfl bxo rfl | exact q_loadE tb rfl rfl gvo (by omega) (by simp) rfl) ?_
 refine Jq (q_move rfl) ?_
 refine L_mk (lo_bslice tb rfl rfl rfl (xs := [[_]]) rfl rfl (by simp) rfl (by omega) rfl) rfl rfl rfl fun v21 => ?_
 refine L_ap tb rfl rfl rfl rfl gvo (by simp [Value.oneCell']) (by simp [maxLen]; omega) (by simp; omega) fun v22 => ?_
 refine L_form (v := v22) gvo (fun A22 c22 hv22 _ => ?_)
 subst hv22
 refine L_st tb rfl rfl ?_
 refine L_end ?_
 have e9 : varV x e = -1 := (if_neg (fun hh => hh h9)).trans (if_pos h16)
 rw [e9]
 have e8 := ci_snoc ns (-1)
 exact it_endV rfl (fun w_ h_ => ⟨_, ⟨_, _, _, rfl⟩, (h_.pk (by repeat (first | with_reducible exact pk_nil | refine pk_box (by first | rfl | exact e8) ?_ | refine pk_rd rfl ?_ | refine pk_sl (by first | rfl | exact e8) ?_ | with_reducible refine pk_app ?_ | with_reducible refine pk_app0 ?_ | with_reducible refine pk_app0L ?_ | with_reducible exact pk_tl | refine pk_var ?_)))⟩)
 refine C_skip_then ?_
 refine C_region ?_
 refine Jq (by first | exact q_load tb rfl rfl bxo rfl | exact q_loadE tb rfl rfl gvo (by omega) (by simp) rfl) ?_
 refine Jq (q_move rfl) ?_
 refine L_mk (lo_bslice tb rfl rfl rfl (xs := [[_]]) rfl rfl (by simp) rfl (by omega) rfl) rfl rfl rfl fun v21 => ?_
 refine L_ap tb rfl rfl rfl rfl gvo (by simp [Value.oneCell']) (by simp [maxLen]; omega) (by simp; omega) fun v22 => ?_
 refine L_form (v := v22) gvo (fun A22 c22 hv22 _ => ?_)
 subst hv22
 refine L_st tb rfl rfl ?_
 refine L_end ?_
 have e9 : varV x e = -1 := if_pos h9
 rw [e9]
 have e8 := ci_snoc ns (-1)
 exact it_endV rfl (fun w_ h_ => ⟨_, ⟨_, _, _, rfl⟩, (h_.pk (by repeat (first | with_reducible exact pk_nil | refine pk_box (by first | rfl | exact e8) ?_ | refine pk_rd rfl ?_ | refine pk_sl (by first | rfl | exact e8) ?_ | with_reducible refine pk_app ?_ | with_reducible refine pk_app0 ?_ | with_reducible refine pk_app0L ?_ | with_reducible exact pk_tl | refine pk_var ?_)))⟩)
end Go.Proofs.YtacndicgpkeobaaGreatDoor
namespace Go.Proofs.YtacndicgpkeobaaGreatDoor
open Go.RowKit

set_option maxRecDepth 100000 in
set_option maxHeartbeats 2000000 in
theorem ct_ascent_Variants (v u z : Value) (x : Asc) (wv : Value) (cs : List (Int × Int)) (hle1 : x.ts.length ≤ 100000) (hle2 : x.ls.length ≤ 100000) (hle3 : x.gs.length ≤ 100000) (hcs : cs.length ≤ 100000) : Ct Tryz.prog 11 [.agg (cAt v u z x).toArray, wv] [(v, 4, x.ts.map cCp), (u, 4, x.ls.map cLd), (z, 3, x.gs.map cAg), (wv, 2, cs.map cSp)] (isSlN 3 1 ((vrL x cs).map cI) (.int .i64 (vrE x cs))) := by
 refine Ct.of (N := 44) Tryz.func11 rfl rfl rfl fun w => ?_
 refine C_weak (E' := [(0, .agg (cAt v u z x).toArray), (1, wv)]) (rs' := [rd v 4 (x.ts.map cCp), rd u 4 (x.ls.map cLd), rd z 3 (x.gs.map cAg), rd wv 2 (cs.map cSp)]) ⟨rfl, rfl, trivial⟩ (fun _ h => h) ?_
 have hl1 := len_map cCp x.ts
 have hl2 := len_map cLd x.ls
 have hl3 := len_map cAg x.gs
 have hlc := len_map cSp cs
 refine C_seq ?_
 refine C_region ?_
 refine L_box rfl rfl rfl fun g2 => ?_
 refine Jq (q_assign rfl) ?_
 refine Jq (q_assign rfl) ?_
 refine L_then ?_
 refine C_seq ?_
 refine C_region ?_
 refine Jq (q_loadA tb rfl rfl bxo rfl rfl) ?_
 refine L_lo rfl rfl rfl (lo_call tb rfl rfl (ct_ascent_open v u z x (by omega) (by omega) (by omega)) (ps_cons gvo (ps_cons gvo (ps_cons gvo no_ps))) isTk_sinks) ?_
 rintro _ _ ⟨A14, n14, c14, B14, m14, d14, C14, k14, e14, rfl, rfl⟩
 refine Jq (q_move rfl) ?_
 refine Jq (q_ext0 rfl) ?_
 refine Jq (q_ext1 rfl) ?_
 refine L_alloc tb rfl rfl fun g6 => ?_
 refine L_st tb rfl rfl ?_
 refine Jq (q_assign rfl) ?_
 refine L_then ?_
 refine C_seq ?_
 refine C_block ?_
 refine C_seq ?_
 refine C_region ?_
 refine Jq (q_move rfl) ?_
 refine Jq (q_neq rfl rfl) ?_
 refine Jq (q_assign rfl) ?_
 refine L_then ?_
 refine C_dec rfl (fun h1 => ?_) (fun h1 => ?_)
 refine C_seq ?_
 refine C_region ?_
 refine Jq (q_move rfl) ?_
 refine Jq (q_assign rfl) ?_
 refine Jq (q_assign rfl) ?_
 refine L_then ?_
 refine C_ret ?_
 obtain ⟨e1, e2⟩ := vr_1 (cs := cs) h1
 rw [e1, e2]
 exact ret_of (rs' := [sl (.slice none 0 0) 3 1 []]) (res2 rfl rfl rfl) (fun w_ h_ => ws_nil (sub_nil w_ h_)) own1 ⟨_, rfl, rfl⟩
 have hz := Decidable.not_not.1 h1
 rw [opA_2 hz]
 have H := ckAsc_ok hz
 refine C_seq ?_
 refine C_region ?_
 refine Jq (q_move rfl) ?_
 refine Jq (q_len tb rfl rfl gvo) ?_
 refine Jq (q_gtr rfl rfl) ?_
 refine Jq (q_assign rfl) ?_
 refine L_then ?_
 refine C_dec rfl (fun h2 => ?_) (fun h2 => ?_)
 refine C_seq ?_
 refine C_region ?_
 refine Jq (q_assign rfl) ?_
 refine Jq (q_assign rfl) ?_
 refine L_then ?_
 refine C_ret ?_
 obtain ⟨e1, e2⟩ := vr_2 (cs := cs) hz (by omega)
 rw [e1, e2]
 exact ret_of (rs' := [sl (.slice none 0 0) 3 1 []]) (res2 rfl rfl rfl) (fun w_ h_ => ws_nil (sub_nil w_ h_)) own1 ⟨_, rfl, rfl⟩
 refine C_skip_blk ?_
 refine C_seq ?_
 refine C_region ?_
 refine L_alloc tb rfl rfl fun g8 => ?_
 refine L_then ?_
 refine C_seq ?_
 refine C_region ?_
 refine Jq (q_makeFunc rfl rfl) ?_
 refine Jq (q_assign rfl) ?_
 refine L_then ?_
 refine C_seq ?_
 refine C_nil 3 1 ?_
 refine C_region ?_
 refine Jq (q_move rfl) ?_
 refine Jq (q_loadA tb rfl rfl bxo rfl rfl) ?_
 refine L_res (rs' := (box g8 38 [(.slice none 0 0)] :: sl (.slice none 0 0) 3 1 ((([] : List Int)).map cI) :: box g6 100 (cAt (.slice A14 n14 c14) (.slice B14 m14 d14) (.slice C14 k14 e14) x) :: sl (.slice A14 n14 c14) 120 4 (x.ts.map cCp) :: sl (.slice B14 m14 d14) 134 4 (x.ls.map cLd) :: sl (.slice C14 k14 e14) 112 3 (x.gs.map cAg) :: rd wv 2 (cs.map cSp) :: [])) (fun _ h_ => h_.pk (by repeat (first | with_reducible exact pk_nil | refine pk_box rfl ?_ | refine pk_rd rfl ?_ | refine pk_sl rfl ?_ | with_reducible refine pk_app ?_ | with_reducible refine pk_app0 ?_ | with_reducible refine pk_app0L ?_ | with_reducible exact pk_tl | refine pk_var ?_))) ?_
 refine L_callIC (tb.en_ok _ (lkT_mem (rfl : lkT tb.en 54 = some ()))) (caps := [.pointer (some ⟨g8, 0, none⟩)]) rfl rfl rfl (ct_variants_add _ _ (box g6 100 (cAt (.slice A14 n14 c14) (.slice B14 m14 d14) (.slice C14 k14 e14) x) :: sl (.slice A14 n14 c14) 120 4 (x.ts.map cCp) :: sl (.slice B14 m14 d14) 134 4 (x.ls.map cLd) :: sl (.slice C14 k14 e14) 112 3 (x.gs.map cAg) :: rd wv 2 (cs.map cSp) :: []) g8 _ [] (by simp) _ _ _ x 0 (fun _ => H) (fun _ => gvo) (fun _ => gvo) (fun _ => gvo)) ?_
 rintro _ _ ⟨A28, n28, c28, rfl⟩
 refine L_then ?_
 refine C_seq ?_
 refine C_seq ?_
 refine C_region ?_
 refine Jq (q_move rfl) ?_
 refine Jq (q_len tb rfl rfl gvo) ?_
 refine Jq (q_move rfl) ?_
 refine L_then ?_
 refine C_block ?_
 refine C_res (rs' := (box g8 38 [(.slice A28 n28 c28)] :: sl (.slice A28 n28 c28) 3 1 ((varA x :: (cs.take 0).map (varC x)).map cI) :: box g6 100 (cAt (.slice A14 n14 c14) (.slice B14 m14 d14) (.slice C14 k14 e14) x) :: sl (.slice A14 n14 c14) 120 4 (x.ts.map cCp) :: sl (.slice B14 m14 d14) 134 4 (x.ls.map cLd) :: sl (.slice C14 k14 e14) 112 3 (x.gs.map cAg) :: rd wv 2 (cs.map cSp) :: [])) (fun _ h_ => h_.pk (by repeat (first | with_reducible exact pk_nil | refine pk_box rfl ?_ | refine pk_rd rfl ?_ | refine pk_sl rfl ?_ | with_reducible refine pk_app ?_ | with_reducible refine pk_app0 ?_ | with_reducible refine pk_app0L ?_ | with_reducible exact pk_tl | refine pk_var ?_))) ?_
 refine C_loop (ι := Nat × Value) (fun q => ([(6, .pointer (some ⟨g6, 0, none⟩)), (8, .pointer (some ⟨g8, 0, none⟩)), (9, .func (.func 54) #[] #[.pointer (some ⟨g8, 0, none⟩)]), (29, wv), (30, .int .i64 (cs.map cSp).length), (31, .int .i64 (q.1 : Int))], (box g8 38 [q.2] :: sl q.2 3 1 ((varA x :: (cs.take q.1).map (varC x)).map cI) :: box g6 100 (cAt (.slice A14 n14 c14) (.slice B14 m14 d14) (.slice C14 k14 e14) x) :: sl (.slice A14 n14 c14) 120 4 (x.ts.map cCp) :: sl (.slice B14 m14 d14) 134 4 (x.ls.map cLd) :: sl (.slice C14 k14 e14) 112 3 (x.gs.map cAg) :: rd wv 2 (cs.map cSp) :: []))) (fun q => q.1 ≤ cs.length) (fun q => cs.length - q.1) (0, .slice A28 n28 c28) (Nat.zero_le _) (fun a w hs => hs.weak ⟨rfl, rfl, rfl, rfl, rfl, rfl, trivial⟩ (fun h => h)) ?_
 rintro ⟨k, vs⟩ hk
 dsimp only at hk ⊢
 have hnl : (varA x :: (cs.take k).map (varC x)).length ≤ 20 := by simp; omega
 refine C_seq ?_
 refine C_region ?_
 refine Jq (q_lss rfl rfl) ?_
 refine L_then ?_
 refine C_seq ?_
 refine C_dec rfl (fun h3 => ?_) (fun h3 => ?_)
 obtain ⟨q9, hq9⟩ := get_some cs (k := k) (by omega); have helq := map_get cSp hq9
 refine C_skip_then ?_
 refine C_seq ?_
 refine C_block ?_
 refine C_seq ?_
 refine C_region ?_
 refine Jq (by first | exact q_index tb rfl rfl rfl rfl gvo (by omega) (by first | omega | (simp; done) | (simp; omega)) | exact q_indexP tb rfl rfl rfl rfl (by omega) (by omega)) ?_
 refine Jq (q_loadEA tb rfl rfl gvo (i := k) (o := 0) (by omega) helq rfl rfl) ?_
 refine L_alloc tb rfl rfl fun g11 => ?_
 refine L_st tb rfl rfl ?_
 refine L_then ?_
 refine C_region ?_
 refine Jq (q_move rfl) ?_
 refine Jq (q_loadA tb rfl rfl bxo rfl rfl) ?_
 refine Jq (q_loadA tb rfl rfl bxo rfl rfl) ?_
 refine L_lo rfl rfl rfl (lo_call tb rfl rfl (ct_ascent_task_change _ _ _ x q9.1 q9.2 H) (ps_cons gvo (ps_cons gvo (ps_cons gvo no_ps))) isRg_sinks) ?_
 rintro _ rs38 ⟨⟨A38, n38, c38, B38, m38, d38, C38, k38, e38, rfl, hsk38, hG38⟩, ho38⟩
 refine Jq (q_ext0 rfl) ?_
 refine Jq (q_ext1 rfl) ?_
 refine L_res (rs' := (box g8 38 [vs] :: sl vs 3 1 ((varA x :: (cs.take k).map (varC x)).map cI) :: (box g11 30 (cSp q9) :: (rs38 ++ (box g6 100 (cAt (.slice A14 n14 c14) (.slice B14 m14 d14) (.slice C14 k14 e14) x) :: sl (.slice A14 n14 c14) 120 4 (x.ts.map cCp) :: sl (.slice B14 m14 d14) 134 4 (x.ls.map cLd) :: sl (.slice C14 k14 e14) 112 3 (x.gs.map cAg) :: rd wv 2 (cs.map cSp) :: []))))) (fun _ h_ => h_.pk (by repeat (first | with_reducible exact pk_nil | refine pk_box rfl ?_ | refine pk_rd rfl ?_ | refine pk_sl rfl ?_ | with_reducible refine pk_app ?_ | with_reducible refine pk_app0 ?_ | with_reducible refine pk_app0L ?_ | with_reducible exact pk_tl | refine pk_var ?_))) ?_
 refine L_callIC (tb.en_ok _ (lkT_mem (rfl : lkT tb.en 54 = some ()))) (caps := [.pointer (some ⟨g8, 0, none⟩)]) rfl rfl rfl (ct_variants_add _ _ (box g11 30 (cSp q9) :: (rs38 ++ (box g6 100 (cAt (.slice A14 n14 c14) (.slice B14 m14 d14) (.slice C14 k14 e14) x) :: sl (.slice A14 n14 c14) 120 4 (x.ts.map cCp) :: sl (.slice B14 m14 d14) 134 4 (x.ls.map cLd) :: sl (.slice C14 k14 e14) 112 3 (x.gs.map cAg) :: rd wv 2 (cs.map cSp) :: []))) g8 _ _ hnl _ _ _ (chgX x q9.1 q9.2) (chgE x q9.1 q9.2) (fun h => by rw [chgX_ok h]; exact chg_ok H h) (fun _ => gv1 (by exact (hG38 _ gvo gvo gvo).1)) (fun _ => gv1 (by exact (hG38 _ gvo gvo gvo).2.1)) (fun _ => gv1 (by exact (hG38 _ gvo gvo gvo).2.2))) ?_
 rintro _ _ ⟨A41, n41, c41, rfl⟩
 refine L_blk ?_
 refine C_region ?_
 refine Jq (q_add rfl rfl (by first | exact IntWalk.i64_in _ (by omega) | rfl)) ?_
 refine Jq (q_move rfl) ?_
 refine L_end ?_
 have e9 := congrArg (List.map cI) (var_next (x := x) hq9)
 exact fun ac_ wo_ hs_ => ⟨(k + 1, .slice A41 n41 c41), (by dsimp only; omega), (by dsimp only; omega), hs_.weak ⟨rfl, rfl, rfl, rfl, rfl, rfl, trivial⟩ (fun h_ => h_.pk (by repeat (first | with_reducible exact pk_nil | refine pk_box (by first | rfl | exact e9) ?_ | refine pk_rd rfl ?_ | refine pk_sl (by first | rfl | exact e9) ?_ | with_reducible refine pk_app ?_ | with_reducible refine pk_app0 ?_ | with_reducible refine pk_app0L ?_ | with_reducible exact pk_tl | refine pk_var ?_)))⟩
 refine C_exit ?_
 change C Tryz.prog _ _ _ _ _ _ _
 refine C_seq ?_
 refine C_region ?_
 refine Jq (q_load tb rfl rfl bxo rfl) ?_
 refine Jq (q_assign rfl) ?_
 refine Jq (q_assign rfl) ?_
 refine L_then ?_
 refine C_ret ?_
 obtain rfl : k = cs.length := by omega
 obtain ⟨e1, e2⟩ := vr_3 (cs := cs) hz (show ¬ cs.length > 8 by omega)
 rw [e1, e2]
 have e9 : (varA x :: (cs.take cs.length).map (varC x)).map cI = (varA x :: cs.map (varC x)).map cI := by rw [List.take_length]
 exact ret_of (rs' := [sl vs 3 1 ((varA x :: cs.map (varC x)).map cI)]) (res2 rfl rfl rfl) (fun w_ h_ => h_.pk (by repeat (first | with_reducible exact pk_nil | refine pk_box (by first | rfl | exact e9) ?_ | refine pk_rd rfl ?_ | refine pk_sl (by first | rfl | exact e9) ?_ | with_reducible refine pk_app ?_ | with_reducible refine pk_app0 ?_ | with_reducible refine pk_app0L ?_ | with_reducible exact pk_tl | refine pk_var ?_))) own1 ⟨_, rfl, rfl⟩
end Go.Proofs.YtacndicgpkeobaaGreatDoor
