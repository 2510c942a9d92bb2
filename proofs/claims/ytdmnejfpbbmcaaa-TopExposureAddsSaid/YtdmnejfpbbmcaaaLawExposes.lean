/-
  Walks: each function named returns what its model says. Conditions: those in front of each theorem.
-/
import Derived.Test.YtdmnejfpbbmcaaaPF
import Derived.Test.YtdmnejfpbbmcaaaXS
import Derived.Test.YtdmnejfpbbmcaaaYS
import Derived.Test.YtdmnejfpbbmcaaaYC
namespace Go.Proofs.Ytdmnejfpbbmcaaa
open Go.RowKit

set_option maxRecDepth 100000 in
set_option maxHeartbeats 4000000 in
theorem ct_shotlinetop_TopExposureAdds (t : Value) (r : Ru) (nm : ByteArray) (sf : Int) (v u : Value) (gs : List Gs) (ls : List Dl) (n : Int) : Ct Try.prog 4 [.agg (cPl nm sf v u).toArray, .agg (cRu t r).toArray, .int .i64 n] [(v, 2, gs.map cGs), (u, 3, ls.map cDl), (t, 2, r.tb.map cOw)] (isV (.bool true)) := by
 refine Ct.of (N := 245) Try.func4 rfl rfl rfl fun w => ?_
 refine C_weak (E' := [(0, .agg (cPl nm sf v u).toArray), (1, .agg (cRu t r).toArray), (2, .int .i64 n)]) (rs' := [rd v 2 (gs.map cGs), rd u 3 (ls.map cDl), rd t 2 (r.tb.map cOw)]) ⟨rfl, rfl, rfl, trivial⟩ (fun _ h => h) ?_
 have hlp := len_map cGs gs
 have hl1 := len_map cGs gs
 have hl2 := len_map cDl ls
 have hlt9 := len_map cOw r.tb
 refine C_seq ?_
 refine C_region ?_
 refine L_box rfl rfl rfl fun g3 => ?_
 refine L_box rfl rfl rfl fun g4 => ?_
 refine Jq (q_assign rfl) ?_
 refine L_then ?_
 refine C_seq ?_
 refine C_seq ?_
 refine C_region ?_
 refine L_call tb rfl rfl (ct_shotlinetop_exposed) no_ps rfl ?_
 refine Jq (q_not rfl rfl) ?_
 refine L_then ?_
 refine C_false rfl ?_
 refine C_skip_then ?_
 refine C_seq ?_
 refine C_seq ?_
 refine C_region ?_
 refine Jq (q_loadA tb rfl rfl bxo rfl rfl) ?_
 refine L_call tb rfl rfl (ct_shotlinelaw05_Brief nm sf v u gs ls) (ps_cons gvo (ps_cons gvo no_ps)) rfl ?_
 refine Jq (q_not rfl decide_not.symm) ?_
 refine Jq (q_move rfl) ?_
 refine L_dec (d := 35) rfl (fun hbr => ?_) (fun hbr => ?_)
 iterate 3 refine Jk ?_
 refine Jq (q_pickT rfl rfl) ?_
 refine Jq (q_move rfl) ?_
 iterate 4 refine Jk ?_
 refine Jq (q_pickT rfl rfl) ?_
 refine Jq (q_move rfl) ?_
 iterate 3 refine Jk ?_
 refine Jq (q_pickT rfl rfl) ?_
 refine Jq (q_move rfl) ?_
 iterate 5 refine Jk ?_
 refine Jq (q_pickT rfl rfl) ?_
 refine L_then ?_
 refine C_true rfl ?_
 refine C_seq ?_
 refine C_region ?_
 refine Jq (q_assign rfl) ?_
 refine L_then ?_
 refine C_ret ?_
 exact ret_of (res1 rfl rfl) sub_nil (by intro r hr; cases hr) ⟨rfl, rfl⟩
 have hsh := (Decidable.not_not.1 hbr).1
 refine Jg (q_loadA tb rfl rfl bxo rfl rfl) ?_
 refine L_callg tb rfl rfl rfl rfl rfl rfl (ct_shotlinelaw05_Few _ _) (ps_cons gvo no_ps) rfl ?_
 refine Jg (q_not rfl decide_not.symm) ?_
 refine Jq (q_pickF rfl rfl) ?_
 refine Jq (q_move rfl) ?_
 refine L_dec (d := 40) rfl (fun hfw0 => ?_) (fun hfw0 => ?_)
 iterate 4 refine Jk ?_
 refine Jq (q_pickT rfl rfl) ?_
 refine Jq (q_move rfl) ?_
 iterate 3 refine Jk ?_
 refine Jq (q_pickT rfl rfl) ?_
 refine Jq (q_move rfl) ?_
 iterate 5 refine Jk ?_
 refine Jq (q_pickT rfl rfl) ?_
 refine L_then ?_
 refine C_true rfl ?_
 refine C_seq ?_
 refine C_region ?_
 refine Jq (q_assign rfl) ?_
 refine L_then ?_
 refine C_ret ?_
 exact ret_of (res1 rfl rfl) sub_nil (by intro r hr; cases hr) ⟨rfl, rfl⟩
 refine Jg (q_loadA tb rfl rfl bxo rfl rfl) ?_
 refine Jg (q_loadA tb rfl rfl bxo rfl rfl) ?_
 refine L_callg tb rfl rfl rfl rfl rfl rfl (ct_shotlineref05_Both t r nm sf v u gs ls (by omega) (by omega) (by omega)) (ps_cons gvo (ps_cons gvo (ps_cons gvo no_ps))) rfl ?_
 refine Jg (q_neq rfl rfl) ?_
 refine Jq (q_pickF rfl rfl) ?_
 refine Jq (q_move rfl) ?_
 refine L_dec (d := 46) rfl (fun hb => ?_) (fun hb => ?_)
 iterate 3 refine Jk ?_
 refine Jq (q_pickT rfl rfl) ?_
 refine Jq (q_move rfl) ?_
 iterate 5 refine Jk ?_
 refine Jq (q_pickT rfl rfl) ?_
 refine L_then ?_
 refine C_true rfl ?_
 refine C_seq ?_
 refine C_region ?_
 refine Jq (q_assign rfl) ?_
 refine L_then ?_
 refine C_ret ?_
 exact ret_of (res1 rfl rfl) sub_nil (by intro r hr; cases hr) ⟨rfl, rfl⟩
 have hb9 := Decidable.not_not.1 hb; obtain ⟨_, H, HR, hz⟩ := bothE_ok hb9; have hgl := H.gl; have hll := H.ll; have hTe := H.e ls.length (Nat.le_refl _)
 refine Jg (q_loadA tb rfl rfl bxo rfl rfl) ?_
 refine L_callg tb rfl rfl rfl rfl rfl rfl (ct_shotlineref02_Seconds nm sf v u gs ls H) (ps_cons gvo (ps_cons gvo no_ps)) rfl ?_
 refine Jg (q_gtr rfl rfl) ?_
 refine Jq (q_pickF rfl rfl) ?_
 refine Jq (q_move rfl) ?_
 refine L_dec (d := 51) rfl (fun hT4 => ?_) (fun hT4 => ?_)
 iterate 5 refine Jk ?_
 refine Jq (q_pickT rfl rfl) ?_
 refine L_then ?_
 refine C_true rfl ?_
 refine C_seq ?_
 refine C_region ?_
 refine Jq (q_assign rfl) ?_
 refine L_then ?_
 refine C_ret ?_
 exact ret_of (res1 rfl rfl) sub_nil (by intro r hr; cases hr) ⟨rfl, rfl⟩
 refine Jg (q_move rfl) ?_
 refine Jg (q_loadA tb rfl rfl bxo rfl rfl) ?_
 refine L_callg tb rfl rfl rfl rfl rfl rfl (ct_shotlineref02_Seconds nm sf v u gs ls H) (ps_cons gvo (ps_cons gvo no_ps)) rfl ?_
 refine L_callg tb rfl rfl rfl rfl rfl rfl (ct_shotlinebase_Within _ _ _) no_ps rfl ?_
 refine Jg (q_not rfl decide_not.symm) ?_
 refine Jq (q_pickF rfl rfl) ?_
 refine L_then ?_
 refine C_dec rfl (fun hs => ?_) (fun hs => ?_)
 refine C_seq ?_
 refine C_region ?_
 refine Jq (q_assign rfl) ?_
 refine L_then ?_
 refine C_ret ?_
 exact ret_of (res1 rfl rfl) sub_nil (by intro r hr; cases hr) ⟨rfl, rfl⟩
 obtain ⟨σ, rfl⟩ : ∃ σ : Nat, n = (σ : Int) := ⟨n.toNat, by omega⟩
 have h1 : (σ : Int) ≤ secAt ls ls.length := by omega
 have hl8 : ls.length ≤ 8 := by omega
 have hnm : nm.size ≤ 30 := hsh.1
 have hcru := both_ru hb9; have hrt := HR.tb.n; have hrb := HR.br
 rcases Decidable.em (0 < ls.length → dpL ls σ = dpH ls σ) with hw | hw
 refine C_skip_then ?_
 refine C_seq ?_
 have hq9 := ad_ok H h1 hw (by omega) hb9
 obtain ⟨_, H2, _, hz2⟩ := bothE_ok hq9
 have hq8 := ad_len H h1 hw
 have hbz : (ckPl nm sf gs (bfL ls σ)).2 = 0 := (bothE_ok (ad_bf H h1 hw hb9)).2.2.2
 have hbl := ad_bfl H h1
 obtain ⟨hG, hL⟩ := ad_nf H h1 hw
 have hse2 := ad_sec H h1 hw
 have hlen3 : (bfL ls σ ++ rsK ls σ ls.length).length ≤ 9 := Nat.le_trans hq8 (by omega)
 have hz3 : (ckPl nm sf gs (bfL ls σ ++ rsK ls σ ls.length)).2 = 0 := hz2
 have hcdl := len_map cDl (adL ls σ)
 have hk1 := ad_clk (tb := r.tb) H HR.tb h1 hw; have hk2 := ad_cons (b := r.br) H H2 h1 hw
 have hfw := ad_fw H h1 hw hb9 hq9
 have hs1 := sumT_in (clk_all H HR.tb) (clksK r.tb sf gs ls ls.length).length; have hs2 := sumT_in (cons_all H HR.br) (consK gs.length ls (amtS sf gs ls r.br) ls.length).length
 have hn1 : (clksK r.tb sf gs ls ls.length).length = ls.length := clksK_len _ _ _ _ _; have hn2 : (consK gs.length ls (amtS sf gs ls r.br) ls.length).length = gs.length := consK_len _ _ _ _
 refine C_region ?_
 refine Jq (q_loadA tb rfl rfl bxo rfl rfl) ?_
 refine L_lo rfl rfl rfl (lo_call tb rfl rfl (ct_shotlinebase_CopyPlan nm sf v u gs ls (by omega) (by omega)) (ps_cons gvo (ps_cons gvo no_ps)) (by rintro y rs ⟨a, b, _, rfl⟩ r hr; simp only [List.mem_cons, List.not_mem_nil, or_false] at hr; rcases hr with rfl | rfl <;> exact sl_sinks _ _ _ _)) ?_
 rintro _ _ ⟨a60, b60, rfl, rfl⟩
 refine Jq (q_move rfl) ?_
 refine L_lo rfl rfl rfl (lo_call tb rfl rfl (ct_Before_all nm sf a60 b60 gs ls (by omega) (by omega) (by omega) H hz σ h1 hw) (ps_cons gvo (ps_cons gvo no_ps)) (by rintro y rs ⟨a, b, _, rfl⟩ r hr; simp only [List.mem_cons, List.not_mem_nil, or_false] at hr; rcases hr with rfl | rfl <;> exact sl_sinks _ _ _ _)) ?_
 rintro _ _ ⟨a62, b62, rfl, rfl⟩
 refine Jq (q_move rfl) ?_
 refine Jq (q_ext0 rfl) ?_
 refine Jq (q_ext1 rfl) ?_
 refine L_form (v := a62) gvo (fun A62 c62 hv62 _ => ?_)
 subst hv62
 refine L_form (v := b62) gvo (fun B62 d62 hw62 _ => ?_)
 subst hw62
 refine L_alloc tb rfl rfl fun g7 => ?_
 refine L_st tb rfl rfl ?_
 refine Jq (q_assign rfl) ?_
 refine L_then ?_
 refine C_seq ?_
 refine C_seq ?_
 refine C_region ?_
 refine Jq (q_move rfl) ?_
 refine Jq (q_false (q_neq rfl rfl) (decide_eq_false (fun h => h rfl))) ?_
 refine L_then ?_
 refine C_false rfl ?_
 refine C_skip_then ?_
 refine C_seq ?_
 refine C_wideF1 tb (k := 8) [(0, false), (1, false), (2, false), (3, true), (4, true), (5, false), (6, false), (7, false)] [.s 9, .q 10] mixed (by kernel_rfl) rfl rfl rfl rfl (by kernel_rfl) rfl ?_
 refine X1_q rfl rfl rfl rfl (q_loadA tb rfl rfl bxo rfl rfl) ?_
 refine X1_q rfl rfl rfl rfl (q_loadA tb rfl rfl bxo rfl rfl) ?_
 refine X1_q rfl rfl rfl rfl (q_move rfl) ?_
 refine X1_lo rfl rfl rfl rfl (lo_call tb rfl rfl (ct_shotlinetop_restOf nm sf v u gs ls H σ) (ps_cons gvo (ps_cons gvo no_ps)) isSl_sinks) ?_
 intro v73 rs_ hr_; unfold isSl at hr_; subst hr_
 try dsimp only [List.cons_append, List.nil_append]
 refine X1_lo rfl rfl rfl rfl (lo_call tb rfl rfl (ct_profile_Extended nm sf (.slice A62 (gs.map cGs).length c62) (.slice B62 ((bfL ls σ).map cDl).length d62) gs (bfL ls σ) v73 (rsK ls σ ls.length) (by omega) (by omega) (by omega) (by omega) hbz hz3) (ps_cons gvo (ps_cons gvo (ps_cons gvo no_ps))) (by rintro y rs ⟨_, _, _, _, _, _, _, rfl⟩ r hr; simp only [List.mem_cons, List.not_mem_nil, or_false] at hr; rcases hr with rfl | rfl <;> exact sl_sinks _ _ _ _)) ?_
 rintro _ _ ⟨A74, B74, n74, c74, m74, d74, rfl, rfl⟩
 try dsimp only [List.cons_append, List.nil_append]
 refine X1_q rfl rfl rfl rfl (q_move rfl) ?_
 refine X1_q rfl rfl rfl rfl (q_ext0 rfl) ?_
 refine X1_q rfl rfl rfl rfl (q_ext1 rfl) ?_
 refine X1_nil ?_
 intro g9
 try try dsimp only [List.cons_append, List.nil_append]
 first | refine X_store tb rfl rfl (List.Perm.refl _) rfl rfl rfl rfl rfl rfl rfl rfl ?_ | refine X_store tb rfl rfl perm1 rfl rfl rfl rfl rfl rfl rfl rfl ?_ | refine X_store tb rfl rfl (perm_front (pre := [_, _])) rfl rfl rfl rfl rfl rfl rfl rfl ?_ | refine X_store tb rfl rfl (perm_front (pre := [_, _, _])) rfl rfl rfl rfl rfl rfl rfl rfl ?_
 refine X_q rfl rfl rfl rfl (q_assign rfl) ?_
 refine X_nil ?_
 try dsimp only [List.cons_append, List.nil_append]
 refine L_then ?_
 refine C_seq ?_
 refine C_res (rs' := [box g3 25 (cPl nm sf v u), box g4 53 (cRu t r), box g9 25 (cPl nm sf (.slice A74 n74 c74) (.slice B74 m74 d74)), rd v 2 (gs.map cGs), rd u 3 (ls.map cDl), rd t 2 (r.tb.map cOw), sl (.slice B74 m74 d74) 82 3 ((adL ls σ).map cDl), sl (.slice A74 n74 c74) 80 2 (gs.map cGs)]) (fun _ h => h.pk (pk_box rfl (pk_box rfl (pk_box rfl (pk_rd rfl (pk_rd rfl (pk_rd rfl (pk_sl rfl (pk_sl rfl pk_nil))))))))) ?_
 refine C_draw (n := 9) [(0, false), (2, false), (1, true), (3, true), (4, false), (5, false), (6, false), (7, false), (8, false)] mixed (by kernel_rfl) ?_
 refine Yq rfl (q_loadA tb rfl rfl bxo rfl rfl) ?_
 refine Yq rfl (q_loadA tb rfl rfl bxo rfl rfl) ?_
 refine W_lo rfl rfl rfl rfl (lo_call tb rfl rfl (ct_shotlinebase_CopyPlan nm sf v u gs ls (by omega) (by omega)) (ps_cons gvo (ps_cons gvo no_ps)) (by rintro y rs ⟨a, b, _, rfl⟩ r hr; simp only [List.mem_cons, List.not_mem_nil, or_false] at hr; rcases hr with rfl | rfl <;> exact sl_sinks _ _ _ _)) ?_
 rintro _ _ ⟨a79, b79, rfl, rfl⟩
 refine W_call tb rfl rfl rfl rfl (ct_profile_SameDive nm sf a79 b79 gs ls (.slice A74 n74 c74) (.slice B74 m74 d74) (adL ls σ) (by omega) (by omega) (by omega) (by omega) H H2 hz hz2 hG hL) (ps_cons gvo (ps_cons gvo (ps_cons gvo (ps_cons gvo no_ps)))) rfl ?_
 refine Yq rfl (q_move rfl) ?_
 refine Yq rfl (q_ext0 rfl) ?_
 refine Yq rfl (q_ext1 rfl) ?_
 refine Yq rfl (q_assign rfl) ?_
 refine Yq rfl (q_assign rfl) ?_
 refine W_nil ?_
 refine L_then ?_
 refine C_seq ?_
 refine C_seq ?_
 refine C_region ?_
 refine Jq (q_move rfl) ?_
 refine Jq (q_false (q_eql rfl rfl) (by decide)) ?_
 refine L_then ?_
 refine C_false rfl ?_
 refine C_skip_then ?_
 refine C_seq ?_
 refine C_seq ?_
 refine C_region ?_
 refine Jq (q_move rfl) ?_
 refine Jq (q_false (q_neq rfl rfl) (decide_eq_false (fun h => h rfl))) ?_
 refine Jq (q_move rfl) ?_
 refine Jg (q_move rfl) ?_
 refine Jg (q_false (q_neq rfl rfl) (decide_eq_false (fun h => h rfl))) ?_
 refine Jq (q_pickF rfl rfl) ?_
 refine Jq (q_move rfl) ?_
 refine Jg (q_move rfl) ?_
 refine Jg (q_not rfl rfl) ?_
 refine Jq (q_pickF rfl rfl) ?_
 refine Jq (q_move rfl) ?_
 refine Jg (q_field tb rfl rfl rfl) ?_
 refine Jg (q_load tb rfl rfl bxo rfl) ?_
 refine Jg (q_len tb rfl rfl gvo) ?_
 refine Jg (q_field tb rfl rfl rfl) ?_
 refine Jg (q_load tb rfl rfl bxo rfl) ?_
 refine Jg (q_len tb rfl rfl gvo) ?_
 refine Jg (q_add rfl rfl (by first | exact IntWalk.i64_in _ (by omega) | rfl)) ?_
 refine Jg (q_gtr rfl rfl) ?_
 refine Jq (q_pickF rfl rfl) ?_
 refine L_then ?_
 refine C_dec rfl (fun h13 => ?_) (fun h13 => ?_)
 exfalso; omega
 refine C_skip_then ?_
 refine C_seq ?_
 refine C_draw (n := 10) [(0, false), (2, false), (1, true), (3, true), (4, true), (5, false), (6, false), (7, false), (8, false), (9, false)] mixed (by kernel_rfl) ?_
 refine Yq rfl (q_loadA tb rfl rfl bxo rfl rfl) ?_
 refine Yq rfl (q_loadA tb rfl rfl bxo rfl rfl) ?_
 refine W_lo rfl rfl rfl rfl (lo_call tb rfl rfl (ct_shotlinebase_CopyPlan nm sf v u gs ls (by omega) (by omega)) (ps_cons gvo (ps_cons gvo no_ps)) (by rintro y rs ⟨a, b, _, rfl⟩ r hr; simp only [List.mem_cons, List.not_mem_nil, or_false] at hr; rcases hr with rfl | rfl <;> exact sl_sinks _ _ _ _)) ?_
 rintro _ _ ⟨a112, b112, rfl, rfl⟩
 refine W_lo rfl rfl rfl rfl (lo_call tb rfl rfl (ct_shotlineref05_Copy t r (by omega)) (ps_cons gvo no_ps) (by rintro y rs ⟨a, _, rfl⟩ r hr; rw [List.mem_singleton.1 hr]; exact sl_sinks _ _ _ _)) ?_
 rintro _ _ ⟨a114, rfl, rfl⟩
 refine W_callSN tb rfl rfl rfl rfl (ct_exposure_ClockOf a114 r nm sf a112 b112 gs ls (by omega) (by omega) (by omega) (by omega)) (ps_cons gvo (ps_cons gvo (ps_cons gvo no_ps))) rfl fun v115 => ?_
 rw [clkE_2 hb9]
 dsimp only
 refine Yq rfl (q_move rfl) ?_
 refine Yq rfl (q_ext0 rfl) ?_
 refine Yq rfl (q_ext1 rfl) ?_
 refine Yq rfl (q_assign rfl) ?_
 refine Yq rfl (q_assign rfl) ?_
 refine W_nil ?_
 refine L_then ?_
 refine C_seq ?_
 refine C_draw (n := 10) [(0, false), (2, false), (1, true), (3, true), (4, true), (5, false), (6, false), (7, false), (8, false), (9, false)] mixed (by kernel_rfl) ?_
 refine Yq rfl (q_loadA tb rfl rfl bxo rfl rfl) ?_
 refine Yq rfl (q_loadA tb rfl rfl bxo rfl rfl) ?_
 refine W_lo rfl rfl rfl rfl (lo_call tb rfl rfl (ct_shotlinebase_CopyPlan nm sf (.slice A74 n74 c74) (.slice B74 m74 d74) gs (adL ls σ) (by omega) (by omega)) (ps_cons gvo (ps_cons gvo no_ps)) (by rintro y rs ⟨a, b, _, rfl⟩ r hr; simp only [List.mem_cons, List.not_mem_nil, or_false] at hr; rcases hr with rfl | rfl <;> exact sl_sinks _ _ _ _)) ?_
 rintro _ _ ⟨a120, b120, rfl, rfl⟩
 refine W_lo rfl rfl rfl rfl (lo_call tb rfl rfl (ct_shotlineref05_Copy t r (by omega)) (ps_cons gvo no_ps) (by rintro y rs ⟨a, _, rfl⟩ r hr; rw [List.mem_singleton.1 hr]; exact sl_sinks _ _ _ _)) ?_
 rintro _ _ ⟨a122, rfl, rfl⟩
 refine W_callSN tb rfl rfl rfl rfl (ct_exposure_ClockOf a122 r nm sf a120 b120 gs (adL ls σ) (by omega) (by omega) (by omega) (by omega)) (ps_cons gvo (ps_cons gvo (ps_cons gvo no_ps))) rfl fun v123 => ?_
 rw [clkE_2 hq9]
 dsimp only
 refine Yq rfl (q_move rfl) ?_
 refine Yq rfl (q_ext0 rfl) ?_
 refine Yq rfl (q_ext1 rfl) ?_
 refine Yq rfl (q_assign rfl) ?_
 refine Yq rfl (q_assign rfl) ?_
 refine W_nil ?_
 refine L_then ?_
 refine C_seq ?_
 refine C_draw (n := 10) [(0, false), (2, false), (3, false), (1, true), (4, true), (5, false), (6, false), (7, false), (8, false), (9, false)] mixed (by kernel_rfl) ?_
 refine Yq rfl (q_loadA tb rfl rfl bxo rfl rfl) ?_
 refine Yq rfl (q_field tb rfl rfl rfl) ?_
 refine Yq rfl (q_load tb rfl rfl bxo rfl) ?_
 refine W_lo rfl rfl rfl rfl (lo_call tb rfl rfl (ct_shotlinebase_CopyPlan nm sf v u gs ls (by omega) (by omega)) (ps_cons gvo (ps_cons gvo no_ps)) (by rintro y rs ⟨a, b, _, rfl⟩ r hr; simp only [List.mem_cons, List.not_mem_nil, or_false] at hr; rcases hr with rfl | rfl <;> exact sl_sinks _ _ _ _)) ?_
 rintro _ _ ⟨a128, b128, rfl, rfl⟩
 refine W_callSN tb rfl rfl rfl rfl (ct_exposure_Consumed nm sf a128 b128 gs ls (by omega) (by omega) (by omega) r.br) (ps_cons gvo (ps_cons gvo no_ps)) rfl fun v131 => ?_
 rw [consE_3 hz HR.br]
 dsimp only
 refine Yq rfl (q_move rfl) ?_
 refine Yq rfl (q_ext0 rfl) ?_
 refine Yq rfl (q_ext1 rfl) ?_
 refine Yq rfl (q_assign rfl) ?_
 refine Yq rfl (q_assign rfl) ?_
 refine W_nil ?_
 refine L_then ?_
 refine C_seq ?_
 refine C_draw (n := 10) [(0, false), (2, false), (3, false), (1, true), (4, true), (5, false), (6, false), (7, false), (8, false), (9, false)] mixed (by kernel_rfl) ?_
 refine Yq rfl (q_loadA tb rfl rfl bxo rfl rfl) ?_
 refine Yq rfl (q_field tb rfl rfl rfl) ?_
 refine Yq rfl (q_load tb rfl rfl bxo rfl) ?_
 refine W_lo rfl rfl rfl rfl (lo_call tb rfl rfl (ct_shotlinebase_CopyPlan nm sf (.slice A74 n74 c74) (.slice B74 m74 d74) gs (adL ls σ) (by omega) (by omega)) (ps_cons gvo (ps_cons gvo no_ps)) (by rintro y rs ⟨a, b, _, rfl⟩ r hr; simp only [List.mem_cons, List.not_mem_nil, or_false] at hr; rcases hr with rfl | rfl <;> exact sl_sinks _ _ _ _)) ?_
 rintro _ _ ⟨a136, b136, rfl, rfl⟩
 refine W_callSN tb rfl rfl rfl rfl (ct_exposure_Consumed nm sf a136 b136 gs (adL ls σ) (by omega) (by omega) (by omega) r.br) (ps_cons gvo (ps_cons gvo no_ps)) rfl fun v139 => ?_
 rw [consE_3 hz2 HR.br]
 dsimp only
 refine Yq rfl (q_move rfl) ?_
 refine Yq rfl (q_ext0 rfl) ?_
 refine Yq rfl (q_ext1 rfl) ?_
 refine Yq rfl (q_assign rfl) ?_
 refine Yq rfl (q_assign rfl) ?_
 refine W_nil ?_
 refine L_then ?_
 refine C_seq ?_
 refine C_seq ?_
 refine C_region ?_
 refine Jq (q_move rfl) ?_
 refine Jq (q_false (q_neq rfl rfl) (decide_eq_false (fun h => h rfl))) ?_
 refine Jq (q_move rfl) ?_
 refine Jg (q_move rfl) ?_
 refine Jg (q_false (q_neq rfl rfl) (decide_eq_false (fun h => h rfl))) ?_
 refine Jq (q_pickF rfl rfl) ?_
 refine Jq (q_move rfl) ?_
 refine Jg (q_move rfl) ?_
 refine Jg (q_false (q_neq rfl rfl) (decide_eq_false (fun h => h rfl))) ?_
 refine Jq (q_pickF rfl rfl) ?_
 refine Jq (q_move rfl) ?_
 refine Jg (q_move rfl) ?_
 refine Jg (q_false (q_neq rfl rfl) (decide_eq_false (fun h => h rfl))) ?_
 refine Jq (q_pickF rfl rfl) ?_
 refine Jq (q_move rfl) ?_
 refine Jg (q_move rfl) ?_
 refine L_callg tb rfl rfl rfl rfl rfl rfl (ct_shotlinetop_sumOf v115 (clksK r.tb sf gs ls ls.length) (by rw [clksK_len]; omega) (clk_all H HR.tb)) (ps_cons gvo no_ps) rfl ?_
 refine Jg (q_false (q_lss rfl rfl) (decide_eq_false (by omega))) ?_
 refine Jq (q_pickF rfl rfl) ?_
 refine Jq (q_move rfl) ?_
 refine Jg (q_move rfl) ?_
 refine L_callg tb rfl rfl rfl rfl rfl rfl (ct_shotlinetop_sumOf v131 (consK gs.length ls (amtS sf gs ls r.br) ls.length) (by rw [consK_len]; omega) (cons_all H HR.br)) (ps_cons gvo no_ps) rfl ?_
 refine Jg (q_false (q_lss rfl rfl) (decide_eq_false (by omega))) ?_
 refine Jq (q_pickF rfl rfl) ?_
 refine Jq (q_move rfl) ?_
 refine Jg (q_move rfl) ?_
 refine L_callg tb rfl rfl rfl rfl rfl rfl (ct_shotlinetop_sumOf v123 (clksK r.tb sf gs (adL ls σ) (adL ls σ).length) (by rw [clksK_len]; omega) (clk_all H2 HR.tb)) (ps_cons gvo no_ps) rfl ?_
 refine Jg (q_move rfl) ?_
 refine L_callg tb rfl rfl rfl rfl rfl rfl (ct_shotlinetop_sumOf v115 (clksK r.tb sf gs ls ls.length) (by rw [clksK_len]; omega) (clk_all H HR.tb)) (ps_cons gvo no_ps) rfl ?_
 refine Jg (q_move rfl) ?_
 refine L_callg tb rfl rfl rfl rfl rfl rfl (ct_shotlinetop_sumOf v115 (clksK r.tb sf gs ls ls.length) (by rw [clksK_len]; omega) (clk_all H HR.tb)) (ps_cons gvo no_ps) rfl ?_
 refine Jg (q_add rfl rfl (by first | exact IntWalk.i64_in _ (by omega) | rfl)) ?_
 refine L_callg tb rfl rfl rfl rfl rfl rfl (ct_shotlinebase_Within _ _ _) no_ps rfl ?_
 refine Jg (q_not rfl decide_not.symm) ?_
 refine Jq (q_pickF rfl rfl) ?_
 refine Jq (q_move rfl) ?_
 refine L_dec (d := 177) rfl (fun h14 => ?_) (fun h14 => ?_)
 exfalso; omega
 refine Jg (q_move rfl) ?_
 refine L_callg tb rfl rfl rfl rfl rfl rfl (ct_shotlinetop_sumOf v139 (consK gs.length (adL ls σ) (amtS sf gs (adL ls σ) r.br) (adL ls σ).length) (by rw [consK_len]; omega) (cons_all H2 HR.br)) (ps_cons gvo no_ps) rfl ?_
 refine Jg (q_move rfl) ?_
 refine L_callg tb rfl rfl rfl rfl rfl rfl (ct_shotlinetop_sumOf v131 (consK gs.length ls (amtS sf gs ls r.br) ls.length) (by rw [consK_len]; omega) (cons_all H HR.br)) (ps_cons gvo no_ps) rfl ?_
 refine Jg (q_move rfl) ?_
 refine L_callg tb rfl rfl rfl rfl rfl rfl (ct_shotlinetop_sumOf v131 (consK gs.length ls (amtS sf gs ls r.br) ls.length) (by rw [consK_len]; omega) (cons_all H HR.br)) (ps_cons gvo no_ps) rfl ?_
 refine Jg (q_add rfl rfl (by first | exact IntWalk.i64_in _ (by omega) | rfl)) ?_
 refine L_callg tb rfl rfl rfl rfl rfl rfl (ct_shotlinebase_Within _ _ _) no_ps rfl ?_
 refine Jg (q_not rfl decide_not.symm) ?_
 refine Jq (q_pickF rfl rfl) ?_
 refine L_then ?_
 refine C_dec rfl (fun h15 => ?_) (fun h15 => ?_)
 exfalso; omega
 refine C_skip_then ?_
 refine C_seq ?_
 refine C_draw (n := 10) [(0, false), (2, false), (1, true), (3, true), (4, true), (5, false), (6, false), (7, false), (8, false), (9, false)] mixed (by kernel_rfl) ?_
 refine Yq rfl (q_loadA tb rfl rfl bxo rfl rfl) ?_
 refine Yq rfl (q_loadA tb rfl rfl bxo rfl rfl) ?_
 refine W_lo rfl rfl rfl rfl (lo_call tb rfl rfl (ct_shotlinebase_CopyPlan nm sf v u gs ls (by omega) (by omega)) (ps_cons gvo (ps_cons gvo no_ps)) (by rintro y rs ⟨a, b, _, rfl⟩ r hr; simp only [List.mem_cons, List.not_mem_nil, or_false] at hr; rcases hr with rfl | rfl <;> exact sl_sinks _ _ _ _)) ?_
 rintro _ _ ⟨a190, b190, rfl, rfl⟩
 refine W_lo rfl rfl rfl rfl (lo_call tb rfl rfl (ct_shotlineref05_Copy t r (by omega)) (ps_cons gvo no_ps) (by rintro y rs ⟨a, _, rfl⟩ r hr; rw [List.mem_singleton.1 hr]; exact sl_sinks _ _ _ _)) ?_
 rintro _ _ ⟨a192, rfl, rfl⟩
 refine W_call tb rfl rfl rfl rfl (ct_exposure_FirstWrong a192 r nm sf a190 b190 gs ls (by omega) (by omega) (by omega) (by omega)) (ps_cons gvo (ps_cons gvo (ps_cons gvo no_ps))) rfl ?_
 refine Yq rfl (q_move rfl) ?_
 refine Yq rfl (q_ext0 rfl) ?_
 refine Yq rfl (q_ext1 rfl) ?_
 refine Yq rfl (q_assign rfl) ?_
 refine Yq rfl (q_assign rfl) ?_
 refine W_nil ?_
 refine L_then ?_
 refine C_seq ?_
 refine C_draw (n := 10) [(0, false), (2, false), (1, true), (3, true), (4, true), (5, false), (6, false), (7, false), (8, false), (9, false)] mixed (by kernel_rfl) ?_
 refine Yq rfl (q_loadA tb rfl rfl bxo rfl rfl) ?_
 refine Yq rfl (q_loadA tb rfl rfl bxo rfl rfl) ?_
 refine W_lo rfl rfl rfl rfl (lo_call tb rfl rfl (ct_shotlinebase_CopyPlan nm sf (.slice A74 n74 c74) (.slice B74 m74 d74) gs (adL ls σ) (by omega) (by omega)) (ps_cons gvo (ps_cons gvo no_ps)) (by rintro y rs ⟨a, b, _, rfl⟩ r hr; simp only [List.mem_cons, List.not_mem_nil, or_false] at hr; rcases hr with rfl | rfl <;> exact sl_sinks _ _ _ _)) ?_
 rintro _ _ ⟨a198, b198, rfl, rfl⟩
 refine W_lo rfl rfl rfl rfl (lo_call tb rfl rfl (ct_shotlineref05_Copy t r (by omega)) (ps_cons gvo no_ps) (by rintro y rs ⟨a, _, rfl⟩ r hr; rw [List.mem_singleton.1 hr]; exact sl_sinks _ _ _ _)) ?_
 rintro _ _ ⟨a200, rfl, rfl⟩
 refine W_call tb rfl rfl rfl rfl (ct_exposure_FirstWrong a200 r nm sf a198 b198 gs (adL ls σ) (by omega) (by omega) (by omega) (by omega)) (ps_cons gvo (ps_cons gvo (ps_cons gvo no_ps))) rfl ?_
 refine Yq rfl (q_move rfl) ?_
 refine Yq rfl (q_ext0 rfl) ?_
 refine Yq rfl (q_ext1 rfl) ?_
 refine Yq rfl (q_assign rfl) ?_
 refine Yq rfl (q_assign rfl) ?_
 refine W_nil ?_
 refine L_then ?_
 refine C_seq ?_
 refine C_seq ?_
 refine C_region ?_
 refine Jq (q_move rfl) ?_
 refine Jq (q_move rfl) ?_
 refine Jq (q_false (q_neq rfl rfl) (decide_eq_false (fun h => h hfw.symm))) ?_
 refine L_then ?_
 refine C_false rfl ?_
 refine C_skip_then ?_
 refine C_seq ?_
 refine C_seq ?_
 refine C_region ?_
 refine Jq (q_assign rfl) ?_
 refine L_then ?_
 refine C_block ?_
 refine C_loop (ι := Nat) (fun k => ([(2, .int .i64 (σ : Int)), (3, .pointer (some ⟨g3, 0, none⟩)), (4, .pointer (some ⟨g4, 0, none⟩)), (9, .pointer (some ⟨g9, 0, none⟩)), (25, .int .i64 (k : Int))], [box g3 25 (cPl nm sf v u), box g4 53 (cRu t r), box g9 25 (cPl nm sf (.slice A74 n74 c74) (.slice B74 m74 d74)), rd v 2 (gs.map cGs), rd u 3 (ls.map cDl), rd t 2 (r.tb.map cOw), sl (.slice B74 m74 d74) 82 3 ((adL ls σ).map cDl), sl (.slice A74 n74 c74) 80 2 (gs.map cGs)])) (fun k => True) (fun k => σ + 1 - k) 0 trivial (fun a w hs => hs.weak ⟨rfl, rfl, rfl, rfl, rfl, trivial⟩ (fun h => h.pk (by repeat (first | with_reducible exact pk_nil | refine pk_box rfl ?_ | refine pk_rd rfl ?_ | refine pk_sl rfl ?_ | with_reducible refine pk_app ?_ | with_reducible refine pk_app0 ?_ | with_reducible refine pk_app0L ?_ | with_reducible exact pk_tl | refine pk_var ?_)))) ?_
 intro k _
 dsimp only
 refine C_seq ?_
 refine C_seq ?_
 refine C_region ?_
 refine Jq (q_move rfl) ?_
 refine Jq (q_move rfl) ?_
 refine Jq (q_leq rfl rfl) ?_
 refine L_then ?_
 refine C_dec rfl (fun h17 => ?_) (fun h17 => ?_)
 refine C_skip_then ?_
 refine C_seq ?_
 refine C_block ?_
 refine C_seq ?_
 refine C_draw (n := 11) [(0, false), (2, false), (3, false), (4, false), (1, true), (5, true), (6, false), (7, false), (8, false), (9, false), (10, false)] mixed (by kernel_rfl) ?_
 refine Yq rfl (q_loadA tb rfl rfl bxo rfl rfl) ?_
 refine Yq rfl (q_field tb rfl rfl rfl) ?_
 refine Yq rfl (q_load tb rfl rfl bxo rfl) ?_
 refine Yq rfl (q_move rfl) ?_
 refine W_lo rfl rfl rfl rfl (lo_call tb rfl rfl (ct_shotlinebase_CopyPlan nm sf v u gs ls (by omega) (by omega)) (ps_cons gvo (ps_cons gvo no_ps)) (by rintro y rs ⟨a, b, _, rfl⟩ r hr; simp only [List.mem_cons, List.not_mem_nil, or_false] at hr; rcases hr with rfl | rfl <;> exact sl_sinks _ _ _ _)) ?_
 rintro _ _ ⟨a217, b217, rfl, rfl⟩
 refine W_callSN tb rfl rfl rfl rfl (ct_exposure_ConsumedAt nm sf a217 b217 gs ls (by omega) (by omega) (by omega) r.br (k : Int)) (ps_cons gvo (ps_cons gvo no_ps)) rfl fun v221 => ?_
 rw [traceE_5 hz HR.br (by omega) (by omega)]
 dsimp only
 refine Yq rfl (q_move rfl) ?_
 refine Yq rfl (q_ext0 rfl) ?_
 refine Yq rfl (q_ext1 rfl) ?_
 refine Yq rfl (q_assign rfl) ?_
 refine Yq rfl (q_assign rfl) ?_
 refine W_nil ?_
 refine L_then ?_
 refine C_seq ?_
 refine C_draw (n := 11) [(0, false), (2, false), (3, false), (4, false), (1, true), (5, true), (6, false), (7, false), (8, false), (9, false), (10, false)] mixed (by kernel_rfl) ?_
 refine Yq rfl (q_loadA tb rfl rfl bxo rfl rfl) ?_
 refine Yq rfl (q_field tb rfl rfl rfl) ?_
 refine Yq rfl (q_load tb rfl rfl bxo rfl) ?_
 refine Yq rfl (q_move rfl) ?_
 refine W_lo rfl rfl rfl rfl (lo_call tb rfl rfl (ct_shotlinebase_CopyPlan nm sf (.slice A74 n74 c74) (.slice B74 m74 d74) gs (adL ls σ) (by omega) (by omega)) (ps_cons gvo (ps_cons gvo no_ps)) (by rintro y rs ⟨a, b, _, rfl⟩ r hr; simp only [List.mem_cons, List.not_mem_nil, or_false] at hr; rcases hr with rfl | rfl <;> exact sl_sinks _ _ _ _)) ?_
 rintro _ _ ⟨a226, b226, rfl, rfl⟩
 refine W_callSN tb rfl rfl rfl rfl (ct_exposure_ConsumedAt nm sf a226 b226 gs (adL ls σ) (by omega) (by omega) (by omega) r.br (k : Int)) (ps_cons gvo (ps_cons gvo no_ps)) rfl fun v230 => ?_
 rw [traceE_5 hz2 HR.br (by omega) (by omega), ad_amt H H2 h1 hw (by omega)]
 dsimp only
 refine Yq rfl (q_move rfl) ?_
 refine Yq rfl (q_ext0 rfl) ?_
 refine Yq rfl (q_ext1 rfl) ?_
 refine Yq rfl (q_assign rfl) ?_
 refine Yq rfl (q_assign rfl) ?_
 refine W_nil ?_
 refine L_then ?_
 refine C_seq ?_
 refine C_region ?_
 refine Jq (q_move rfl) ?_
 refine Jq (q_false (q_neq rfl rfl) (decide_eq_false (fun h => h rfl))) ?_
 refine Jq (q_move rfl) ?_
 refine Jg (q_move rfl) ?_
 refine Jg (q_false (q_neq rfl rfl) (decide_eq_false (fun h => h rfl))) ?_
 refine Jq (q_pickF rfl rfl) ?_
 refine Jq (q_move rfl) ?_
 refine Jg (q_move rfl) ?_
 refine Jg (q_move rfl) ?_
 refine L_callg tb rfl rfl rfl rfl rfl rfl (ct_shotlinebase_Ints v221 v230 (consK gs.length ls (amtT sf gs ls r.br (k : Int)) ls.length) (by rw [consK_len]; omega)) (ps_cons gvo (ps_cons gvo no_ps)) rfl ?_
 refine Jg (q_not rfl rfl) ?_
 refine Jq (q_pickF rfl rfl) ?_
 refine L_then ?_
 refine C_false rfl ?_
 refine C_skip_blk ?_
 refine C_region ?_
 refine Jq (q_move rfl) ?_
 refine Jq (q_add rfl rfl (by first | exact IntWalk.i64_in _ (by omega) | rfl)) ?_
 refine Jq (q_move rfl) ?_
 refine Jq (q_quo rfl rfl (by omega) (by first | exact IntWalk.i64_quo _ _ (by omega) | exact IntWalk.i64_quo' _ _ (by omega) | rfl)) ?_
 refine Jq (q_add rfl rfl (by first | exact IntWalk.i64_in _ (by omega) | rfl)) ?_
 refine Jq (q_assign rfl) ?_
 refine L_end ?_
 exact fun ac_ wo_ hs_ => ⟨k + 1 + σ / 7, trivial, (by dsimp only; omega), hs_.weak ⟨rfl, rfl, rfl, rfl, en (by omega), trivial⟩ (fun h => h.pk (pk_box rfl (pk_box rfl (pk_box rfl (pk_rd rfl (pk_rd rfl (pk_rd rfl (pk_sl rfl (pk_sl rfl pk_nil)))))))))⟩
 refine C_exit ?_
 change C Try.prog _ _ _ _ _ _ _
 refine C_seq ?_
 refine C_region ?_
 refine Jq (q_assign rfl) ?_
 refine L_then ?_
 refine C_ret ?_
 exact ret_of (res1 rfl rfl) sub_nil (by intro r hr; cases hr) ⟨rfl, rfl⟩
 refine C_skip_then ?_
 refine C_seq ?_
 have h0 : 0 < ls.length := Decidable.byContradiction fun h9 => hw fun h8 => absurd h8 h9
 have hne : ¬ dpL ls σ = dpH ls σ := fun h9 => hw fun _ => h9
 refine C_region ?_
 refine Jq (q_loadA tb rfl rfl bxo rfl rfl) ?_
 refine L_lo rfl rfl rfl (lo_call tb rfl rfl (ct_shotlinebase_CopyPlan nm sf v u gs ls (by omega) (by omega)) (ps_cons gvo (ps_cons gvo no_ps)) (by rintro y rs ⟨a, b, _, rfl⟩ r hr; simp only [List.mem_cons, List.not_mem_nil, or_false] at hr; rcases hr with rfl | rfl <;> exact sl_sinks _ _ _ _)) ?_
 rintro _ _ ⟨a60, b60, rfl, rfl⟩
 refine Jq (q_move rfl) ?_
 refine L_call tb rfl rfl (ct_Before_no nm sf a60 b60 gs ls (by omega) (by omega) (by omega) H hz σ h1 h0 hne) (ps_cons gvo (ps_cons gvo no_ps)) rfl ?_
 refine Jq (q_move rfl) ?_
 refine Jq (q_ext0 rfl) ?_
 refine Jq (q_ext1 rfl) ?_
 refine L_alloc tb rfl rfl fun g7 => ?_
 refine L_st tb rfl rfl ?_
 refine Jq (q_assign rfl) ?_
 refine L_then ?_
 refine C_seq ?_
 refine C_seq ?_
 refine C_region ?_
 refine Jq (q_move rfl) ?_
 refine Jq (q_true (q_neq rfl rfl) (by decide)) ?_
 refine L_then ?_
 refine C_true rfl ?_
 refine C_seq ?_
 refine C_region ?_
 refine Jq (q_move rfl) ?_
 refine Jq (q_true (q_eql rfl rfl) (by decide)) ?_
 refine Jq (q_assign rfl) ?_
 refine L_then ?_
 refine C_ret ?_
 exact ret_of (res1 rfl rfl) sub_nil (by intro r hr; cases hr) ⟨rfl, rfl⟩
end Go.Proofs.Ytdmnejfpbbmcaaa
