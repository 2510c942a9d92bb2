/-
  Walks: each function named returns what its model says. Conditions: those in front of each theorem.
-/
import Derived.Test.YthilaakeimfedaaGreatDoorAR
namespace Go.Proofs.YthilaakeimfedaaGreatDoor
open Go.RowKit

theorem ct_KeptR (v u : Value) (x : Asc) (y : Dl) (f : Int) (hf : 0 ≤ f ∧ f ≤ 6) (H : okAsc x) (hy : okAl x y) : Ct Tryz.prog 122 [.agg (cDv v u (lgA x y) (faA x)).toArray, .int .i64 f] [(v, 4, x.ts.map cCp), (u, 4, x.ls.map cLd)] (isV (.int .i64 (keptT x.ts x.ls (lgA x y) (faA x) f.toNat))) := by
 obtain ⟨n, rfl⟩ := Int.eq_ofNat_of_zero_le hf.1
 exact ct_shotlineref03_Kept v u (lgA x y) (faA x) n x.ts x.ls (tk_ok H hy) (by omega)

set_option maxRecDepth 100000 in
set_option maxHeartbeats 4000000 in
theorem ct_shotlineref04_NoStopSeconds (v u z : Value) (x : Asc) (H : okAsc x) : Ct Tryz.prog 24 [.agg (cAt v u z x).toArray] [(v, 4, x.ts.map cCp), (u, 4, x.ls.map cLd), (z, 3, x.gs.map cAg)] (isV (.tuple #[.int .i64 (nsA x).1, .int .i64 (nsA x).2])) := by
 refine Ct.of (N := 69) Tryz.func24 rfl rfl rfl fun w => ?_
 refine C_weak (E' := [(0, .agg (cAt v u z x).toArray)]) (rs' := [rd v 4 (x.ts.map cCp), rd u 4 (x.ls.map cLd), rd z 3 (x.gs.map cAg)]) ⟨rfl, trivial⟩ (fun _ h => h) ?_
 have hl1 := len_map cCp x.ts
 have hl2 := len_map cLd x.ls
 have hl3 := len_map cAg x.gs
 have hde := H.de; have hsu := H.su; have hbl := beh_len H; have hrs := H.r.st; have hrf := H.r.fi
 refine C_form (v := v) gvo (fun Av cv hv _ => ?_)
 subst hv
 refine C_form (v := u) gvo (fun Au cu hu _ => ?_)
 subst hu
 refine C_form (v := z) gvo (fun Az cz hz _ => ?_)
 subst hz
 have hxst := H.r.st; have hxgi := gasA_in x x.de
 refine C_seq ?_
 refine C_region ?_
 refine L_box rfl rfl rfl fun g1 => ?_
 refine Jq (q_assign rfl) ?_
 refine Jq (q_assign rfl) ?_
 refine L_then ?_
 refine C_seq ?_
 refine C_region ?_
 refine Jq (q_loadA tb rfl rfl bxo rfl rfl) ?_
 refine L_call tb rfl rfl (ct_shotlineref04_Direct _ _ _ x H) (ps_cons gvo (ps_cons gvo (ps_cons gvo no_ps))) rfl ?_
 refine Jq (q_move rfl) ?_
 refine Jq (q_ext0 rfl) ?_
 refine Jq (q_ext1 rfl) ?_
 refine Jq (q_assign rfl) ?_
 refine Jq (q_assign rfl) ?_
 refine L_then ?_
 refine C_seq ?_
 refine C_region ?_
 refine Jq (q_loadA tb rfl rfl bxo rfl rfl) ?_
 refine Jq (q_field tb rfl rfl rfl) ?_
 refine Jq (q_load tb rfl rfl bxo rfl) ?_
 refine L_call tb rfl rfl (ct_shotlineref04_GasFor _ _ _ x (by omega) x.de) (ps_cons gvo no_ps) rfl ?_
 refine Jq (q_assign rfl) ?_
 refine L_then ?_
 refine C_seq ?_
 refine C_seq ?_
 refine C_region ?_
 refine Jq (q_move rfl) ?_
 refine Jq (q_neq rfl rfl) ?_
 refine L_then ?_
 refine C_dec rfl (fun u3 => ?_) (fun u3 => ?_)
 ·skip
  refine C_seq ?_
  refine C_region ?_
  refine Jq (q_move rfl) ?_
  refine Jq (q_assign rfl) ?_
  refine Jq (q_assign rfl) ?_
  refine L_then ?_
  refine C_ret ?_
  rw [nsA_1 u3]
  exact ret_of (res2 rfl rfl rfl) sub_nil (by intro r hr; cases hr) ⟨rfl, rfl⟩
 ·skip
  have hd0 := Decidable.not_not.1 u3
  have hg0 := dir_gas H hd0
  refine C_skip_then ?_
  refine C_seq ?_
  refine C_seq ?_
  refine C_region ?_
  refine Jq (q_move rfl) ?_
  refine Jq (q_lss rfl rfl) ?_
  refine L_then ?_
  refine C_dec rfl (fun h2 => ?_) (fun h2 => ?_)
  ·skip
   exfalso; exact hg0 (by assumption)
  ·skip
   refine C_skip_then ?_
   refine C_seq ?_
   refine C_seq ?_
   refine C_region ?_
   refine Jq (q_move rfl) ?_
   refine Jq (q_neq rfl rfl) ?_
   refine L_then ?_
   refine C_dec rfl (fun u4 => ?_) (fun u4 => ?_)
   ·skip
    refine C_seq ?_
    refine C_region ?_
    refine Jq (q_assign rfl) ?_
    refine Jq (q_assign rfl) ?_
    refine L_then ?_
    refine C_ret ?_
    rw [nsA_2 hd0 u4]
    exact ret_of (res2 rfl rfl rfl) sub_nil (by intro r hr; cases hr) ⟨rfl, rfl⟩
   ·skip
    refine C_skip_then ?_
    refine C_seq ?_
    refine C_region ?_
    refine Jq (q_assign rfl) ?_
    refine L_then ?_
    refine C_seq ?_
    refine C_block ?_
    refine C_res (rs' := [rd (.slice Au (x.ls.map cLd).length cu) 4 (x.ls.map cLd), box g1 28 (cAt (.slice Av (x.ts.map cCp).length cv) (.slice Au (x.ls.map cLd).length cu) (.slice Az (x.gs.map cAg).length cz) x), rd (.slice Av (x.ts.map cCp).length cv) 4 (x.ts.map cCp), rd (.slice Az (x.gs.map cAg).length cz) 3 (x.gs.map cAg)]) (fun _ h_ => h_.pk (by repeat (first | with_reducible exact pk_nil | refine pk_box rfl ?_ | refine pk_rd rfl ?_ | refine pk_sl rfl ?_ | with_reducible refine pk_app ?_ | with_reducible refine pk_app0 ?_ | with_reducible refine pk_app0L ?_ | with_reducible exact pk_tl | refine pk_var ?_))) ?_
    refine C_loop (ι := Nat × Asc × Value) (fun q => ([(1, .pointer (some ⟨g1, 0, none⟩)), (6, .int .i64 ((gasA x x.de))), (7, .int .i64 (q.1 : Int))], [rd q.2.2 4 (q.2.1.ls.map cLd), box g1 28 (cAt (.slice Av (x.ts.map cCp).length cv) q.2.2 (.slice Az (x.gs.map cAg).length cz) q.2.1), rd (.slice Av (x.ts.map cCp).length cv) 4 (q.2.1.ts.map cCp), rd (.slice Az (x.gs.map cAg).length cz) 3 (q.2.1.gs.map cAg)])) (fun q => q.1 ≤ 60 ∧ okAsc q.2.1 ∧ q.2.1.de = x.de ∧ q.2.1.r = x.r ∧ q.2.1.gs.length = x.gs.length ∧ nsF (gasA x x.de) (60 - q.1) q.2.1 q.1 = nsF (gasA x x.de) 60 x 0) (fun q => 60 - q.1) (0, x, (.slice Au (x.ls.map cLd).length cu)) ⟨Nat.zero_le _, H, rfl, rfl, rfl, rfl⟩ (fun a w hs => hs.weak ⟨rfl, rfl, rfl, trivial⟩ (fun h => h.pk (by repeat (first | with_reducible exact pk_nil | refine pk_box rfl ?_ | refine pk_rd rfl ?_ | refine pk_sl rfl ?_ | with_reducible refine pk_app ?_ | with_reducible refine pk_app0 ?_ | with_reducible refine pk_app0L ?_ | with_reducible exact pk_tl | refine pk_var ?_)))) ?_
    rintro ⟨k, X, u9⟩ ⟨hk, hX, hXd, hXr, hXg, hf⟩
    dsimp only at hk hX hXd hXr hXg hf ⊢
    refine C_form (v := u9) gvo (fun A9 c9 hv9 _ => ?_)
    subst hv9
    have hXde := hX.de; have hXbl := beh_len hX; have hXst := hX.r.st; have hXgi := gasA_in X X.de
    have hks := k_st hk hxst
    have hsy : okAl X (syA X (gasA x x.de)) := sy_ok hX (by omega)
    refine C_seq ?_
    refine C_seq ?_
    refine C_region ?_
    refine Jq (q_move rfl) ?_
    refine Jq (q_lss rfl rfl) ?_
    refine L_then ?_
    refine C_dec rfl (fun h4 => ?_) (fun h4 => ?_)
    ·skip
     refine C_skip_then ?_
     refine C_block ?_
     refine C_seq ?_
     refine C_region ?_
     refine Jq (q_field tb rfl rfl rfl) ?_
     refine Jq (q_field tb rfl rfl rfl) ?_
     refine Jq (q_load tb rfl rfl bxo rfl) ?_
     refine Jq (q_field tb rfl rfl rfl) ?_
     refine Jq (q_load tb rfl rfl bxo rfl) ?_
     refine Jq (q_move rfl) ?_
     refine Jq (by first | exact q_build tb rfl rfl rfl rfl | exact q_buildArr tb rfl rfl rfl rfl rfl) ?_
     refine L_alloc tb rfl rfl fun g8 => ?_
     refine L_st tb rfl rfl ?_
     refine L_then ?_
     refine C_seq ?_
     refine C_draw (n := 12) [(0, false), (1, false), (3, false), (4, false), (5, false), (2, true), (6, true), (7, false), (8, false), (9, false), (10, false), (11, false)] mixed (by kernel_rfl) ?_
     refine Yq rfl (q_loadA tb rfl rfl bxo rfl rfl) ?_
     refine Yq rfl (q_loadA tb rfl rfl bxo rfl rfl) ?_
     refine Yq rfl (q_field tb rfl rfl rfl) ?_
     refine Yq rfl (q_field tb rfl rfl rfl) ?_
     refine Yq rfl (q_load tb rfl rfl bxo rfl) ?_
     refine W_call tb rfl rfl rfl rfl (ct_shotlineref04_TaskOf _ _ _ X (syA X (gasA x x.de)) hX hsy) (ps_cons gvo (ps_cons gvo (ps_cons gvo no_ps))) rfl ?_
     refine W_call tb rfl rfl rfl rfl (ct_DecidedR _ _ X (syA X (gasA x x.de)) hX hsy) (ps_cons gvo (ps_cons gvo no_ps)) rfl ?_
     refine Yq rfl (q_move rfl) ?_
     refine Yq rfl (q_ext0 rfl) ?_
     refine Yq rfl (q_ext1 rfl) ?_
     refine Yq rfl (q_assign rfl) ?_
     refine Yq rfl (q_assign rfl) ?_
     refine W_nil ?_
     refine L_then ?_
     refine C_seq ?_
     refine C_region ?_
     refine Jq (q_loadA tb rfl rfl bxo rfl rfl) ?_
     refine Jq (q_loadA tb rfl rfl bxo rfl rfl) ?_
     refine L_lo rfl rfl rfl (lo_call tb rfl rfl (ct_shotlineref04_Moved _ _ _ X (syA X (gasA x x.de)) hX hsy) (ps_cons gvo (ps_cons gvo (ps_cons gvo no_ps))) isBh_sinks) ?_
     rintro _ _ ⟨A50, n50, c50, rfl, rfl⟩
     refine L_st tb rfl rfl ?_
     refine L_then ?_
     refine C_seq ?_
     refine C_region ?_
     refine Jq (q_loadA tb rfl rfl bxo rfl rfl) ?_
     refine L_call tb rfl rfl (ct_shotlineref04_Direct _ _ _ (bhA X (syA X (gasA x x.de))) (bh_ok hX hsy)) (ps_cons gvo (ps_cons gvo (ps_cons gvo no_ps))) rfl ?_
     refine Jq (q_move rfl) ?_
     refine Jq (q_ext0 rfl) ?_
     refine Jq (q_ext1 rfl) ?_
     refine Jq (q_assign rfl) ?_
     refine Jq (q_assign rfl) ?_
     refine L_then ?_
     refine C_seq ?_
     refine C_seq ?_
     refine C_region ?_
     refine Jq (q_move rfl) ?_
     refine Jq (q_neq rfl rfl) ?_
     refine Jq (q_move rfl) ?_
     refine L_dec (d := 58) rfl (fun u6 => ?_) (fun u6 => ?_)
     ·skip
      refine Jk ?_
      refine Jk ?_
      refine Jq (q_pickT rfl rfl) ?_
      refine L_then ?_
      refine C_true rfl ?_
      refine C_exit ?_
      change C Tryz.prog _ _ _ _ _ _ _
      refine C_seq ?_
      refine C_region ?_
      refine Jq (q_move rfl) ?_
      refine Jq (q_field tb rfl rfl rfl) ?_
      refine Jq (q_field tb rfl rfl rfl) ?_
      refine Jq (q_load tb rfl rfl bxo rfl) ?_
      refine Jq (q_mul rfl rfl (IntWalk.i64_in _ (by have h9 := k_st hk hX.r.st; exact ⟨by show -9223372036854775808 ≤ (k : Int) * X.r.st; omega, by show (k : Int) * X.r.st ≤ 9223372036854775807; omega⟩))) ?_
      refine Jq (q_assign rfl) ?_
      refine Jq (q_assign rfl) ?_
      refine L_then ?_
      refine C_ret ?_
      have e9 : nsF (gasA x x.de) 60 x 0 = (k : Int) := by rw [← hf]; exact ns_1 (by omega) u6
      rw [nsA_3 hd0 u4, e9, ← hXr]
      exact ret_of (res2 rfl rfl rfl) sub_nil (by intro r hr; cases hr) ⟨rfl, rfl⟩
     ·skip
      refine Jg (q_move rfl) ?_
      refine Jg (q_neq rfl rfl) ?_
      refine Jq (q_pickF rfl rfl) ?_
      refine L_then ?_
      refine C_dec rfl (fun u7 => ?_) (fun u7 => ?_)
      ·skip
       refine C_exit ?_
       change C Tryz.prog _ _ _ _ _ _ _
       refine C_seq ?_
       refine C_region ?_
       refine Jq (q_move rfl) ?_
       refine Jq (q_field tb rfl rfl rfl) ?_
       refine Jq (q_field tb rfl rfl rfl) ?_
       refine Jq (q_load tb rfl rfl bxo rfl) ?_
       refine Jq (q_mul rfl rfl (IntWalk.i64_in _ (by have h9 := k_st hk hX.r.st; exact ⟨by show -9223372036854775808 ≤ (k : Int) * X.r.st; omega, by show (k : Int) * X.r.st ≤ 9223372036854775807; omega⟩))) ?_
       refine Jq (q_assign rfl) ?_
       refine Jq (q_assign rfl) ?_
       refine L_then ?_
       refine C_ret ?_
       have e9 : nsF (gasA x x.de) 60 x 0 = (k : Int) := by rw [← hf]; exact ns_2 (by omega) u6 u7
       rw [nsA_3 hd0 u4, e9, ← hXr]
       exact ret_of (res2 rfl rfl rfl) sub_nil (by intro r hr; cases hr) ⟨rfl, rfl⟩
      ·skip
       refine C_skip_then ?_
       refine C_region ?_
       refine Jq (q_move rfl) ?_
       refine Jq (q_add rfl rfl (by first | exact IntWalk.i64_in _ (by omega) | rfl)) ?_
       refine Jq (q_assign rfl) ?_
       refine L_end ?_
       exact fun ac_ wo_ hs_ => ⟨(k + 1, bhA X (syA X (gasA x x.de)), .slice A50 n50 c50), ⟨by dsimp only; omega, bh_ok hX hsy, hXd, hXr, hXg, by rw [← hf, ns_3 (by omega) u6 u7]; rfl⟩, (by dsimp only; omega), hs_.weak ⟨rfl, rfl, rfl, trivial⟩ (fun h_ => sl_to_rd (show WS _ _ (sl (.slice A50 n50 c50) 139 4 ((bhA X (syA X (gasA x x.de))).ls.map cLd) :: _) _ from h_.pk (by repeat (first | with_reducible exact pk_nil | refine pk_box rfl ?_ | refine pk_rd rfl ?_ | refine pk_sl rfl ?_ | with_reducible refine pk_app ?_ | with_reducible refine pk_app0 ?_ | with_reducible refine pk_app0L ?_ | with_reducible exact pk_tl | refine pk_var ?_))))⟩
    ·skip
     refine C_exit ?_
     change C Tryz.prog _ _ _ _ _ _ _
     refine C_seq ?_
     refine C_region ?_
     refine Jq (q_move rfl) ?_
     refine Jq (q_field tb rfl rfl rfl) ?_
     refine Jq (q_field tb rfl rfl rfl) ?_
     refine Jq (q_load tb rfl rfl bxo rfl) ?_
     refine Jq (q_mul rfl rfl (IntWalk.i64_in _ (by have h9 := k_st hk hX.r.st; exact ⟨by show -9223372036854775808 ≤ (k : Int) * X.r.st; omega, by show (k : Int) * X.r.st ≤ 9223372036854775807; omega⟩))) ?_
     refine Jq (q_assign rfl) ?_
     refine Jq (q_assign rfl) ?_
     refine L_then ?_
     refine C_ret ?_
     obtain rfl : k = 60 := by omega
     have e9 : nsF (gasA x x.de) 60 x 0 = (60 : Int) := by rw [← hf]; rfl
     rw [nsA_3 hd0 u4, e9, ← hXr]
     exact ret_of (res2 rfl rfl rfl) sub_nil (by intro r hr; cases hr) ⟨rfl, rfl⟩
set_option maxRecDepth 100000 in
set_option maxHeartbeats 4000000 in
theorem ct_shotlineref04_CheckSchedule (v u z : Value) (x : Asc) (a b : Value) (L : List Dl) (F : List Int) (H : okAsc x) (hla : L.length ≤ 1000000) (hlb : F.length ≤ 1000000) : Ct Tryz.prog 50 [.agg (cAt v u z x).toArray, .agg #[a, b]] [(v, 4, x.ts.map cCp), (u, 4, x.ls.map cLd), (z, 3, x.gs.map cAg), (a, 3, L.map cDl), (b, 1, F.map cI)] (isV (.tuple #[.int .i64 (chkA x L F).1, .int .i64 (chkA x L F).2])) := by
 refine Ct.of (N := 69) Tryz.func50 rfl rfl rfl fun w => ?_
 refine C_weak (E' := [(0, .agg (cAt v u z x).toArray), (1, .agg #[a, b])]) (rs' := [rd v 4 (x.ts.map cCp), rd u 4 (x.ls.map cLd), rd z 3 (x.gs.map cAg), rd a 3 (L.map cDl), rd b 1 (F.map cI)]) ⟨rfl, rfl, trivial⟩ (fun _ h => h) ?_
 have hl1 := len_map cCp x.ts
 have hl2 := len_map cLd x.ls
 have hl3 := len_map cAg x.gs
 have hde := H.de; have hsu := H.su; have hbl := beh_len H; have hrs := H.r.st; have hrf := H.r.fi
 refine C_form (v := v) gvo (fun Av cv hv _ => ?_)
 subst hv
 refine C_form (v := u) gvo (fun Au cu hu _ => ?_)
 subst hu
 refine C_form (v := z) gvo (fun Az cz hz _ => ?_)
 subst hz
 have hl4 := len_map cDl L
 have hl5 := len_map cI F
 refine C_seq ?_
 refine C_region ?_
 refine L_box rfl rfl rfl fun g2 => ?_
 refine L_box rfl rfl rfl fun g3 => ?_
 refine Jq (q_assign rfl) ?_
 refine Jq (q_assign rfl) ?_
 refine L_then ?_
 refine C_seq ?_
 refine C_seq ?_
 refine C_region ?_
 refine Jq (q_loadA tb rfl rfl bxo rfl rfl) ?_
 refine L_call tb rfl rfl (ct_shotlineref04_Alone _ _ L F (by omega) (by omega)) (ps_cons gvo (ps_cons gvo no_ps)) rfl ?_
 refine Jq (q_assign rfl) ?_
 refine L_then ?_
 refine C_seq ?_
 refine C_region ?_
 refine Jq (q_move rfl) ?_
 refine Jq (q_neq rfl rfl) ?_
 refine L_then ?_
 refine C_dec rfl (fun h1 => ?_) (fun h1 => ?_)
 ·skip
  refine C_seq ?_
  refine C_region ?_
  refine Jq (q_move rfl) ?_
  refine Jq (q_assign rfl) ?_
  refine Jq (q_assign rfl) ?_
  refine L_then ?_
  refine C_ret ?_
  rw [chkA_1 h1]
  exact ret_of (res2 rfl rfl rfl) sub_nil (by intro r hr; cases hr) ⟨rfl, rfl⟩
 ·skip
  have hz := Decidable.not_not.1 h1
  have hS := ckSch_ok hz
  have hSn := hS.n; have hSl := hS.l
  refine C_skip_then ?_
  refine C_seq ?_
  refine C_seq ?_
  refine C_region ?_
  refine Jq (q_assign rfl) ?_
  refine L_then ?_
  refine C_block ?_
  refine C_res (rs' := [rd (.slice Au (x.ls.map cLd).length cu) 4 (x.ls.map cLd), box g2 28 (cAt (.slice Av (x.ts.map cCp).length cv) (.slice Au (x.ls.map cLd).length cu) (.slice Az (x.gs.map cAg).length cz) x), rd (.slice Av (x.ts.map cCp).length cv) 4 (x.ts.map cCp), rd (.slice Az (x.gs.map cAg).length cz) 3 (x.gs.map cAg), box g3 74 [a, b], rd a 3 (L.map cDl), rd b 1 (F.map cI)]) (fun _ h_ => h_.pk (by repeat (first | with_reducible exact pk_nil | refine pk_box rfl ?_ | refine pk_rd rfl ?_ | refine pk_sl rfl ?_ | with_reducible refine pk_app ?_ | with_reducible refine pk_app0 ?_ | with_reducible refine pk_app0L ?_ | with_reducible exact pk_tl | refine pk_var ?_))) ?_
  refine C_loop (ι := Nat × Asc × Value) (fun q => ([(2, .pointer (some ⟨g2, 0, none⟩)), (3, .pointer (some ⟨g3, 0, none⟩)), (7, .int .i64 (q.1 : Int))], [rd q.2.2 4 (q.2.1.ls.map cLd), box g2 28 (cAt (.slice Av (x.ts.map cCp).length cv) q.2.2 (.slice Az (x.gs.map cAg).length cz) q.2.1), rd (.slice Av (x.ts.map cCp).length cv) 4 (q.2.1.ts.map cCp), rd (.slice Az (x.gs.map cAg).length cz) 3 (q.2.1.gs.map cAg), box g3 74 [a, b], rd a 3 (L.map cDl), rd b 1 (F.map cI)])) (fun q => q.1 ≤ L.length ∧ okAsc q.2.1 ∧ chkF (smS L L.length) q.2.1 (L.drop q.1) (F.drop q.1) q.1 = chkF (smS L L.length) x L F 0) (fun q => L.length - q.1) (0, x, (.slice Au (x.ls.map cLd).length cu)) ⟨Nat.zero_le _, H, rfl⟩ (fun a w hs => hs.weak ⟨rfl, rfl, rfl, trivial⟩ (fun h => h.pk (by repeat (first | with_reducible exact pk_nil | refine pk_box rfl ?_ | refine pk_rd rfl ?_ | refine pk_sl rfl ?_ | with_reducible refine pk_app ?_ | with_reducible refine pk_app0 ?_ | with_reducible refine pk_app0L ?_ | with_reducible exact pk_tl | refine pk_var ?_)))) ?_
  rintro ⟨k, X, u9⟩ ⟨hk, hX, hf⟩
  dsimp only at hk hX hf ⊢
  refine C_form (v := u9) gvo (fun A9 c9 hv9 _ => ?_)
  subst hv9
  have hXde := hX.de; have hXbl := beh_len hX; have hXst := hX.r.st; have hXgi := gasA_in X X.de
  refine C_seq ?_
  refine C_seq ?_
  refine C_region ?_
  refine Jq (q_move rfl) ?_
  refine Jq (q_field tb rfl rfl rfl) ?_
  refine Jq (q_load tb rfl rfl bxo rfl) ?_
  refine Jq (q_len tb rfl rfl gvo) ?_
  refine Jq (q_lss rfl rfl) ?_
  refine L_then ?_
  refine C_dec rfl (fun h2 => ?_) (fun h2 => ?_)
  ·skip
   obtain ⟨y, f, he, hf9, han⟩ := sch_at hS (k := k) (by omega); have hel := map_get cDl he; have hef := map_get cI hf9; obtain ⟨_, _, _, hf6⟩ := han
   refine C_skip_then ?_
   refine C_seq ?_
   refine C_block ?_
   refine C_seq ?_
   refine C_seq ?_
   refine C_draw (n := 7) [(0, false), (1, false), (2, false), (3, false), (4, false), (5, false), (6, true)] mixed (by kernel_rfl) ?_
   refine Yq rfl (q_loadA tb rfl rfl bxo rfl rfl) ?_
   refine Yq rfl (q_field tb rfl rfl rfl) ?_
   refine Yq rfl (q_load tb rfl rfl bxo rfl) ?_
   refine Yq rfl (q_move rfl) ?_
   refine Yq rfl (by first | exact q_index tb rfl rfl rfl rfl gvo (by omega) (by first | omega | (simp; done) | (simp; omega)) | exact q_indexP tb rfl rfl rfl rfl (by omega) (by omega)) ?_
   refine Yq rfl (q_loadEA tb rfl rfl gvo (i := k) (o := 0) (by omega) hel rfl rfl) ?_
   refine W_call tb rfl rfl rfl rfl (ct_shotlineref04_LegErr _ _ _ X y hX) (ps_cons gvo no_ps) rfl ?_
   refine W_nil ?_
   refine Jq (q_assign rfl) ?_
   refine L_then ?_
   refine C_seq ?_
   refine C_region ?_
   refine Jq (q_move rfl) ?_
   refine Jq (q_neq rfl rfl) ?_
   refine L_then ?_
   refine C_dec rfl (fun h5 => ?_) (fun h5 => ?_)
   ·skip
    refine C_seq ?_
    refine C_region ?_
    refine Jq (q_move rfl) ?_
    refine Jq (q_move rfl) ?_
    refine Jq (q_assign rfl) ?_
    refine Jq (q_assign rfl) ?_
    refine L_then ?_
    refine C_ret ?_
    have e9 := hf.symm.trans (chk_1 he hf9 h5)
    rw [chkA_2 hz, e9]
    exact ret_of (res2 rfl rfl rfl) sub_nil (by intro r hr; cases hr) ⟨rfl, rfl⟩
   ·skip
    have hk0 := Decidable.not_not.1 h5
    have hy := (ckAl_ok hk0).1
    refine C_skip_then ?_
    refine C_seq ?_
    refine C_seq ?_
    refine C_draw (n := 9) [(0, false), (1, false), (2, false), (3, false), (4, false), (5, false), (6, false), (7, false), (8, false)] mixed (by kernel_rfl) ?_
    refine Yq rfl (q_field tb rfl rfl rfl) ?_
    refine Yq rfl (q_load tb rfl rfl bxo rfl) ?_
    refine Yq rfl (q_move rfl) ?_
    refine Yq rfl (by first | exact q_index tb rfl rfl rfl rfl gvo (by omega) (by first | omega | (simp; done) | (simp; omega)) | exact q_indexP tb rfl rfl rfl rfl (by omega) (by omega)) ?_
    refine Yq rfl (q_loadE tb rfl rfl gvo (i := k) (o := 0) (by omega) hef rfl) ?_
    refine Yq rfl (q_field tb rfl rfl rfl) ?_
    refine Yq rfl (q_field tb rfl rfl rfl) ?_
    refine Yq rfl (q_load tb rfl rfl bxo rfl) ?_
    refine Yq rfl (q_gtr rfl rfl) ?_
    refine W_nil ?_
    refine L_then ?_
    refine C_dec rfl (fun h6 => ?_) (fun h6 => ?_)
    ·skip
     refine C_seq ?_
     refine C_region ?_
     refine Jq (q_move rfl) ?_
     refine Jq (q_assign rfl) ?_
     refine Jq (q_assign rfl) ?_
     refine L_then ?_
     refine C_ret ?_
     have e9 := hf.symm.trans (chk_2 he hf9 (fun hh => hh hk0) h6)
     rw [chkA_2 hz, e9]
     exact ret_of (res2 rfl rfl rfl) sub_nil (by intro r hr; cases hr) ⟨rfl, rfl⟩
    ·skip
     refine C_skip_then ?_
     refine C_seq ?_
     refine C_seq ?_
     refine C_draw (n := 14) [(0, false), (1, false), (2, false), (3, false), (4, false), (5, false), (7, false), (8, false), (9, false), (10, false), (11, false), (6, true), (12, true), (13, false)] mixed (by kernel_rfl) ?_
     refine Yq rfl (q_loadA tb rfl rfl bxo rfl rfl) ?_
     refine Yq rfl (q_field tb rfl rfl rfl) ?_
     refine Yq rfl (q_load tb rfl rfl bxo rfl) ?_
     refine Yq rfl (q_move rfl) ?_
     refine Yq rfl (by first | exact q_index tb rfl rfl rfl rfl gvo (by omega) (by first | omega | (simp; done) | (simp; omega)) | exact q_indexP tb rfl rfl rfl rfl (by omega) (by omega)) ?_
     refine Yq rfl (q_loadEA tb rfl rfl gvo (i := k) (o := 0) (by omega) hel rfl rfl) ?_
     refine Yq rfl (q_field tb rfl rfl rfl) ?_
     refine Yq rfl (q_load tb rfl rfl bxo rfl) ?_
     refine Yq rfl (q_move rfl) ?_
     refine Yq rfl (by first | exact q_index tb rfl rfl rfl rfl gvo (by omega) (by first | omega | (simp; done) | (simp; omega)) | exact q_indexP tb rfl rfl rfl rfl (by omega) (by omega)) ?_
     refine Yq rfl (q_loadE tb rfl rfl gvo (i := k) (o := 0) (by omega) hef rfl) ?_
     refine W_call tb rfl rfl rfl rfl (ct_shotlineref04_TaskOf _ _ _ X y hX hy) (ps_cons gvo (ps_cons gvo (ps_cons gvo no_ps))) rfl ?_
     refine W_call tb rfl rfl rfl rfl (ct_KeptR _ _ X y f hf6 hX hy) (ps_cons gvo (ps_cons gvo no_ps)) rfl ?_
     refine Yq rfl (q_neq rfl rfl) ?_
     refine W_nil ?_
     refine L_then ?_
     refine C_dec rfl (fun h7 => ?_) (fun h7 => ?_)
     ·skip
      refine C_seq ?_
      refine C_region ?_
      refine Jq (q_move rfl) ?_
      refine Jq (q_assign rfl) ?_
      refine Jq (q_assign rfl) ?_
      refine L_then ?_
      refine C_ret ?_
      have e9 := hf.symm.trans (chk_3 he hf9 (fun hh => hh hk0) h6 h7)
      rw [chkA_2 hz, e9]
      exact ret_of (res2 rfl rfl rfl) sub_nil (by intro r hr; cases hr) ⟨rfl, rfl⟩
     ·skip
      refine C_skip_then ?_
      refine C_draw (n := 7) [(0, false), (1, false), (2, false), (3, false), (4, false), (5, false), (6, true)] mixed (by kernel_rfl) ?_
      refine Yq rfl (q_loadA tb rfl rfl bxo rfl rfl) ?_
      refine Yq rfl (q_field tb rfl rfl rfl) ?_
      refine Yq rfl (q_load tb rfl rfl bxo rfl) ?_
      refine Yq rfl (q_move rfl) ?_
      refine Yq rfl (by first | exact q_index tb rfl rfl rfl rfl gvo (by omega) (by first | omega | (simp; done) | (simp; omega)) | exact q_indexP tb rfl rfl rfl rfl (by omega) (by omega)) ?_
      refine Yq rfl (q_loadEA tb rfl rfl gvo (i := k) (o := 0) (by omega) hel rfl rfl) ?_
      refine W_lo rfl rfl rfl rfl (lo_call tb rfl rfl (ct_shotlineref04_Moved _ _ _ X y hX hy) (ps_cons gvo (ps_cons gvo (ps_cons gvo no_ps))) isBh_sinks) ?_
      rintro _ _ ⟨A63, n63, c63, rfl, rfl⟩
      refine W_nil ?_
      refine L_st tb rfl rfl ?_
      refine L_blk ?_
      refine C_region ?_
      refine Jq (q_move rfl) ?_
      refine Jq (q_add rfl rfl (by first | exact IntWalk.i64_in _ (by omega) | rfl)) ?_
      refine Jq (q_assign rfl) ?_
      refine L_end ?_
      exact fun ac_ wo_ hs_ => ⟨(k + 1, bhA X y, .slice A63 n63 c63), ⟨by dsimp only; omega, bh_ok hX hy, by rw [← hf, chk_4 he hf9 (fun hh => hh hk0) h6 h7]; rfl⟩, (by dsimp only; omega), hs_.weak ⟨rfl, rfl, rfl, trivial⟩ (fun h_ => sl_to_rd (show WS _ _ (sl (.slice A63 n63 c63) 139 4 ((bhA X y).ls.map cLd) :: _) _ from h_.pk (by repeat (first | with_reducible exact pk_nil | refine pk_box rfl ?_ | refine pk_rd rfl ?_ | refine pk_sl rfl ?_ | with_reducible refine pk_app ?_ | with_reducible refine pk_app0 ?_ | with_reducible refine pk_app0L ?_ | with_reducible exact pk_tl | refine pk_var ?_))))⟩
  ·skip
   refine C_exit ?_
   change C Tryz.prog _ _ _ _ _ _ _
   refine C_seq ?_
   refine C_seq ?_
   refine C_region ?_
   refine Jq (q_field tb rfl rfl rfl) ?_
   refine Jq (q_load tb rfl rfl bxo rfl) ?_
   refine Jq (q_neq rfl rfl) ?_
   refine L_then ?_
   refine C_dec rfl (fun h8 => ?_) (fun h8 => ?_)
   ·skip
    refine C_seq ?_
    refine C_region ?_
    refine Jq (q_assign rfl) ?_
    refine Jq (q_assign rfl) ?_
    refine L_then ?_
    refine C_ret ?_
    have e9 := hf.symm.trans ((chk_5 (by omega)).trans (if_pos h8))
    rw [chkA_2 hz, e9]
    exact ret_of (res2 rfl rfl rfl) sub_nil (by intro r hr; cases hr) ⟨rfl, rfl⟩
   ·skip
    refine C_skip_then ?_
    refine C_seq ?_
    refine C_region ?_
    refine Jq (q_loadA tb rfl rfl bxo rfl rfl) ?_
    refine L_call tb rfl rfl (ct_shotlineref04_SecondsOf _ _ L (sch_sec hS) (by omega)) (ps_cons gvo no_ps) rfl ?_
    refine Jq (q_assign rfl) ?_
    refine Jq (q_assign rfl) ?_
    refine L_then ?_
    refine C_ret ?_
    have e9 := hf.symm.trans ((chk_5 (by omega)).trans (if_neg h8))
    rw [chkA_2 hz, e9]
    exact ret_of (res2 rfl rfl rfl) sub_nil (by intro r hr; cases hr) ⟨rfl, rfl⟩
end Go.Proofs.YthilaakeimfedaaGreatDoor
