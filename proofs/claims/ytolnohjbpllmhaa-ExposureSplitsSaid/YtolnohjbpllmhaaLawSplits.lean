/-
  Walks: each function named returns what its model says. Conditions: those in front of each theorem.
-/
import Derived.Test.YtolnohjbpllmhaaXQ
import Derived.Test.YtolnohjbpllmhaaXZ
namespace Go.Proofs.Ytolnohjbpllmhaa
open Go.RowKit

set_option maxRecDepth 100000 in
set_option maxHeartbeats 1000000 in
theorem ct_shotlinelaw05_ExposureSplits (t : Value) (r : Ru) (nm : ByteArray) (sf : Int) (v u : Value) (gs : List Gs) (ls : List Dl) (n c : Int) : Ct Try.prog 10 [.agg (cPl nm sf v u).toArray, .agg (cRu t r).toArray, .agg #[.int .i64 n, .int .i64 c]] [(v, 2, gs.map cGs), (u, 3, ls.map cDl), (t, 2, r.tb.map cOw)] (isV (.bool true)) := by
  refine Ct.of (N := 184) Try.func10 rfl rfl rfl fun w => ?_
  refine C_weak (E' := [(0, .agg (cPl nm sf v u).toArray), (1, .agg (cRu t r).toArray), (2, .agg #[.int .i64 n, .int .i64 c])]) (rs' := [rd v 2 (gs.map cGs), rd u 3 (ls.map cDl), rd t 2 (r.tb.map cOw)]) ⟨rfl, rfl, rfl, trivial⟩ (fun _ h => h) ?_
  have hlp := len_map cGs gs
  have hl1 := len_map cGs gs
  have hl2 := len_map cDl ls
  have hlt9 := len_map cOw r.tb
  refine C_seq ?_
  refine C_region ?_
  refine L_box rfl rfl rfl fun g3 => ?_
  refine L_box rfl rfl rfl fun g4 => ?_
  refine L_box rfl rfl rfl fun g5 => ?_
  refine L_q rfl rfl rfl (q_assign rfl) ?_
  refine L_then ?_
  refine C_seq ?_
  refine C_seq ?_
  refine C_region ?_
  refine L_call tb rfl rfl (ct_shotlinelaw05_awake) no_ps rfl ?_
  refine L_q rfl rfl rfl (q_not rfl (by first | exact (rfl : (!true) = false) | exact (rfl : (!false) = true) | exact decide_not.symm | rfl)) ?_
  refine L_then ?_
  refine C_false rfl ?_
  refine C_skip_then ?_
  refine C_seq ?_
  refine C_seq ?_
  refine C_region ?_
  refine L_q rfl rfl rfl (q_loadA tb rfl rfl bxo rfl rfl) ?_
  refine L_call tb rfl rfl (ct_shotlinelaw05_Short nm sf v u gs ls) (ps_cons (by first | exact gvo | exact gvd gvo (by omega)) (ps_cons (by first | exact gvo | exact gvd gvo (by omega)) no_ps)) rfl ?_
  refine L_q rfl rfl rfl (q_not rfl (by first | exact (rfl : (!true) = false) | exact (rfl : (!false) = true) | exact decide_not.symm | rfl)) ?_
  refine L_q rfl rfl rfl (q_move rfl) ?_
  refine L_dec (d := 26) rfl (fun hsn => ?_) (fun hsn => ?_)
  · -- t26 True
    refine L_skip rfl rfl rfl rfl rfl rfl rfl ?_
    refine L_skip rfl rfl rfl rfl rfl rfl rfl ?_
    refine L_skip rfl rfl rfl rfl rfl rfl rfl ?_
    refine L_q rfl rfl rfl (by first | exact q_pickT rfl rfl | exact q_pickF rfl rfl) ?_
    refine L_q rfl rfl rfl (q_move rfl) ?_
    refine L_skip rfl rfl rfl rfl rfl rfl rfl ?_
    refine L_skip rfl rfl rfl rfl rfl rfl rfl ?_
    refine L_skip rfl rfl rfl rfl rfl rfl rfl ?_
    refine L_skip rfl rfl rfl rfl rfl rfl rfl ?_
    refine L_q rfl rfl rfl (by first | exact q_pickT rfl rfl | exact q_pickF rfl rfl) ?_
    refine L_q rfl rfl rfl (q_move rfl) ?_
    refine L_skip rfl rfl rfl rfl rfl rfl rfl ?_
    refine L_skip rfl rfl rfl rfl rfl rfl rfl ?_
    refine L_skip rfl rfl rfl rfl rfl rfl rfl ?_
    refine L_skip rfl rfl rfl rfl rfl rfl rfl ?_
    refine L_skip rfl rfl rfl rfl rfl rfl rfl ?_
    refine L_skip rfl rfl rfl rfl rfl rfl rfl ?_
    refine L_skip rfl rfl rfl rfl rfl rfl rfl ?_
    refine L_skip rfl rfl rfl rfl rfl rfl rfl ?_
    refine L_q rfl rfl rfl (by first | exact q_pickT rfl rfl | exact q_pickF rfl rfl) ?_
    refine L_q rfl rfl rfl (q_move rfl) ?_
    refine L_skip rfl rfl rfl rfl rfl rfl rfl ?_
    refine L_skip rfl rfl rfl rfl rfl rfl rfl ?_
    refine L_skip rfl rfl rfl rfl rfl rfl rfl ?_
    refine L_skip rfl rfl rfl rfl rfl rfl rfl ?_
    refine L_q rfl rfl rfl (by first | exact q_pickT rfl rfl | exact q_pickF rfl rfl) ?_
    refine L_then ?_
    refine C_true rfl ?_
    refine C_seq ?_
    refine C_region ?_
    refine L_q rfl rfl rfl (q_assign rfl) ?_
    refine L_then ?_
    refine C_ret ?_
    exact ret_of (res1 rfl rfl) sub_nil (by intro r hr; cases hr) ⟨rfl, rfl⟩
  · -- t26 False
    have hsh := Decidable.not_not.1 hsn
    refine L_qg rfl rfl rfl rfl rfl rfl rfl (q_loadA tb rfl rfl bxo rfl rfl) ?_
    refine L_callg tb rfl rfl rfl rfl rfl rfl (ct_shotlinelaw05_few _ _) (ps_cons (by first | exact gvo | exact gvd gvo (by omega)) no_ps) rfl ?_
    refine L_qg rfl rfl rfl rfl rfl rfl rfl (q_not rfl (by first | exact (rfl : (!true) = false) | exact (rfl : (!false) = true) | exact decide_not.symm | rfl)) ?_
    refine L_q rfl rfl rfl (by first | exact q_pickT rfl rfl | exact q_pickF rfl rfl) ?_
    refine L_q rfl rfl rfl (q_move rfl) ?_
    refine L_dec (d := 31) rfl (fun hfw => ?_) (fun hfw => ?_)
    · -- t31 True
      refine L_skip rfl rfl rfl rfl rfl rfl rfl ?_
      refine L_skip rfl rfl rfl rfl rfl rfl rfl ?_
      refine L_skip rfl rfl rfl rfl rfl rfl rfl ?_
      refine L_skip rfl rfl rfl rfl rfl rfl rfl ?_
      refine L_q rfl rfl rfl (by first | exact q_pickT rfl rfl | exact q_pickF rfl rfl) ?_
      refine L_q rfl rfl rfl (q_move rfl) ?_
      refine L_skip rfl rfl rfl rfl rfl rfl rfl ?_
      refine L_skip rfl rfl rfl rfl rfl rfl rfl ?_
      refine L_skip rfl rfl rfl rfl rfl rfl rfl ?_
      refine L_skip rfl rfl rfl rfl rfl rfl rfl ?_
      refine L_skip rfl rfl rfl rfl rfl rfl rfl ?_
      refine L_skip rfl rfl rfl rfl rfl rfl rfl ?_
      refine L_skip rfl rfl rfl rfl rfl rfl rfl ?_
      refine L_skip rfl rfl rfl rfl rfl rfl rfl ?_
      refine L_q rfl rfl rfl (by first | exact q_pickT rfl rfl | exact q_pickF rfl rfl) ?_
      refine L_q rfl rfl rfl (q_move rfl) ?_
      refine L_skip rfl rfl rfl rfl rfl rfl rfl ?_
      refine L_skip rfl rfl rfl rfl rfl rfl rfl ?_
      refine L_skip rfl rfl rfl rfl rfl rfl rfl ?_
      refine L_skip rfl rfl rfl rfl rfl rfl rfl ?_
      refine L_q rfl rfl rfl (by first | exact q_pickT rfl rfl | exact q_pickF rfl rfl) ?_
      refine L_then ?_
      refine C_true rfl ?_
      refine C_seq ?_
      refine C_region ?_
      refine L_q rfl rfl rfl (q_assign rfl) ?_
      refine L_then ?_
      refine C_ret ?_
      exact ret_of (res1 rfl rfl) sub_nil (by intro r hr; cases hr) ⟨rfl, rfl⟩
    · -- t31 False
      refine L_qg rfl rfl rfl rfl rfl rfl rfl (q_loadA tb rfl rfl bxo rfl rfl) ?_
      refine L_qg rfl rfl rfl rfl rfl rfl rfl (q_loadA tb rfl rfl bxo rfl rfl) ?_
      refine L_callg tb rfl rfl rfl rfl rfl rfl (ct_shotlineref05_Both t r nm sf v u gs ls (by omega) (by omega) (by omega)) (ps_cons (by first | exact gvo | exact gvd gvo (by omega)) (ps_cons (by first | exact gvo | exact gvd gvo (by omega)) (ps_cons (by first | exact gvo | exact gvd gvo (by omega)) no_ps))) rfl ?_
      refine L_qg rfl rfl rfl rfl rfl rfl rfl (q_neq rfl rfl) ?_
      refine L_q rfl rfl rfl (by first | exact q_pickT rfl rfl | exact q_pickF rfl rfl) ?_
      refine L_q rfl rfl rfl (q_move rfl) ?_
      refine L_dec (d := 37) rfl (fun hb => ?_) (fun hb => ?_)
      · -- t37 True
        refine L_skip rfl rfl rfl rfl rfl rfl rfl ?_
        refine L_skip rfl rfl rfl rfl rfl rfl rfl ?_
        refine L_skip rfl rfl rfl rfl rfl rfl rfl ?_
        refine L_skip rfl rfl rfl rfl rfl rfl rfl ?_
        refine L_skip rfl rfl rfl rfl rfl rfl rfl ?_
        refine L_skip rfl rfl rfl rfl rfl rfl rfl ?_
        refine L_skip rfl rfl rfl rfl rfl rfl rfl ?_
        refine L_skip rfl rfl rfl rfl rfl rfl rfl ?_
        refine L_q rfl rfl rfl (by first | exact q_pickT rfl rfl | exact q_pickF rfl rfl) ?_
        refine L_q rfl rfl rfl (q_move rfl) ?_
        refine L_skip rfl rfl rfl rfl rfl rfl rfl ?_
        refine L_skip rfl rfl rfl rfl rfl rfl rfl ?_
        refine L_skip rfl rfl rfl rfl rfl rfl rfl ?_
        refine L_skip rfl rfl rfl rfl rfl rfl rfl ?_
        refine L_q rfl rfl rfl (by first | exact q_pickT rfl rfl | exact q_pickF rfl rfl) ?_
        refine L_then ?_
        refine C_true rfl ?_
        refine C_seq ?_
        refine C_region ?_
        refine L_q rfl rfl rfl (q_assign rfl) ?_
        refine L_then ?_
        refine C_ret ?_
        exact ret_of (res1 rfl rfl) sub_nil (by intro r hr; cases hr) ⟨rfl, rfl⟩
      · -- t37 False
        refine L_qg rfl rfl rfl rfl rfl rfl rfl (by first | exact q_index tb rfl rfl rfl rfl (by first | exact gvo | exact gvd gvo (by omega)) (by omega) (by first | omega | (simp; done) | (simp; omega)) | exact q_indexP tb rfl rfl rfl rfl (by omega) (by omega)) ?_
        refine L_qg rfl rfl rfl rfl rfl rfl rfl (by first | exact q_load tb rfl rfl bxo rfl | exact q_loadE tb rfl rfl (by first | exact gvo | exact gvd gvo (by omega)) (by omega) (by simp) rfl) ?_
        refine L_qg rfl rfl rfl rfl rfl rfl rfl (q_field tb rfl rfl rfl) ?_
        refine L_qg rfl rfl rfl rfl rfl rfl rfl (q_load tb rfl rfl bxo rfl) ?_
        refine L_qg rfl rfl rfl rfl rfl rfl rfl (q_len tb rfl rfl (by first | exact gvo | exact gvd gvo (by omega))) ?_
        refine L_qg rfl rfl rfl rfl rfl rfl rfl (q_sub rfl rfl (by first | exact IntWalk.i64_in _ (by omega) | rfl)) ?_
        refine L_callg tb rfl rfl rfl rfl rfl rfl (ct_shotlinebase_Within _ _ _) no_ps rfl ?_
        refine L_qg rfl rfl rfl rfl rfl rfl rfl (q_not rfl (by first | exact (rfl : (!true) = false) | exact (rfl : (!false) = true) | exact decide_not.symm | rfl)) ?_
        refine L_q rfl rfl rfl (by first | exact q_pickT rfl rfl | exact q_pickF rfl rfl) ?_
        refine L_q rfl rfl rfl (q_move rfl) ?_
        refine L_dec (d := 47) rfl (fun hn => ?_) (fun hn => ?_)
        · -- t47 True
          refine L_skip rfl rfl rfl rfl rfl rfl rfl ?_
          refine L_skip rfl rfl rfl rfl rfl rfl rfl ?_
          refine L_skip rfl rfl rfl rfl rfl rfl rfl ?_
          refine L_skip rfl rfl rfl rfl rfl rfl rfl ?_
          refine L_q rfl rfl rfl (by first | exact q_pickT rfl rfl | exact q_pickF rfl rfl) ?_
          refine L_then ?_
          refine C_true rfl ?_
          refine C_seq ?_
          refine C_region ?_
          refine L_q rfl rfl rfl (q_assign rfl) ?_
          refine L_then ?_
          refine C_ret ?_
          exact ret_of (res1 rfl rfl) sub_nil (by intro r hr; cases hr) ⟨rfl, rfl⟩
        · -- t47 False
          refine L_qg rfl rfl rfl rfl rfl rfl rfl (by first | exact q_index tb rfl rfl rfl rfl (by first | exact gvo | exact gvd gvo (by omega)) (by omega) (by first | omega | (simp; done) | (simp; omega)) | exact q_indexP tb rfl rfl rfl rfl (by omega) (by omega)) ?_
          refine L_qg rfl rfl rfl rfl rfl rfl rfl (by first | exact q_load tb rfl rfl bxo rfl | exact q_loadE tb rfl rfl (by first | exact gvo | exact gvd gvo (by omega)) (by omega) (by simp) rfl) ?_
          refine L_callg tb rfl rfl rfl rfl rfl rfl (ct_shotlinebase_Within _ _ _) no_ps rfl ?_
          refine L_qg rfl rfl rfl rfl rfl rfl rfl (q_not rfl (by first | exact (rfl : (!true) = false) | exact (rfl : (!false) = true) | exact decide_not.symm | rfl)) ?_
          refine L_q rfl rfl rfl (by first | exact q_pickT rfl rfl | exact q_pickF rfl rfl) ?_
          refine L_then ?_
          refine C_dec rfl (fun hc => ?_) (fun hc => ?_)
          · -- t52 True
            refine C_seq ?_
            refine C_region ?_
            refine L_q rfl rfl rfl (q_assign rfl) ?_
            refine L_then ?_
            refine C_ret ?_
            exact ret_of (res1 rfl rfl) sub_nil (by intro r hr; cases hr) ⟨rfl, rfl⟩
          · -- t52 False
            have hb9 := Decidable.not_not.1 hb; obtain ⟨_, H, HR, hz⟩ := bothE_ok hb9; have hgl := H.gl; have hll := H.ll; have hbrn := HR.br
            obtain ⟨k9, rfl⟩ : ∃ k9 : Nat, n = (k9 : Int) := ⟨n.toNat, by omega⟩
            have hk9 : k9 < ls.length := by omega
            
            rcases Decidable.em (dvP ls k9 c) with hdv | hdv
            · -- case 0
              refine C_skip_then ?_
              refine C_seq ?_
              refine C_region ?_
              refine L_q rfl rfl rfl (q_loadA tb rfl rfl bxo rfl rfl) ?_
              refine L_q rfl rfl rfl (by first | exact q_index tb rfl rfl rfl rfl (by first | exact gvo | exact gvd gvo (by omega)) (by omega) (by first | omega | (simp; done) | (simp; omega)) | exact q_indexP tb rfl rfl rfl rfl (by omega) (by omega)) ?_
              refine L_q rfl rfl rfl (by first | exact q_load tb rfl rfl bxo rfl | exact q_loadE tb rfl rfl (by first | exact gvo | exact gvd gvo (by omega)) (by omega) (by simp) rfl) ?_
              refine L_q rfl rfl rfl (by first | exact q_index tb rfl rfl rfl rfl (by first | exact gvo | exact gvd gvo (by omega)) (by omega) (by first | omega | (simp; done) | (simp; omega)) | exact q_indexP tb rfl rfl rfl rfl (by omega) (by omega)) ?_
              refine L_q rfl rfl rfl (by first | exact q_load tb rfl rfl bxo rfl | exact q_loadE tb rfl rfl (by first | exact gvo | exact gvd gvo (by omega)) (by omega) (by simp) rfl) ?_
              refine L_lo rfl rfl rfl (lo_call tb rfl rfl (ct_divided_yes nm sf v u gs ls H k9 hk9 c (by omega) hdv) (ps_cons (by first | exact gvo | exact gvd gvo (by omega)) (ps_cons (by first | exact gvo | exact gvd gvo (by omega)) no_ps)) (by rintro y rs ⟨a, b, _, rfl⟩ r hr; simp only [List.mem_cons, List.not_mem_nil, or_false] at hr; rcases hr with rfl | rfl <;> exact sl_sinks _ _ _ _)) ?_
              rintro _ _ ⟨a59, b59, rfl, rfl⟩
              refine L_q rfl rfl rfl (q_move rfl) ?_
              refine L_form (v := a59) gvo (fun A59 c59 hv59 _ => ?_)
              subst hv59
              refine L_form (v := b59) gvo (fun B59 d59 hw59 _ => ?_)
              subst hw59
              refine L_q rfl rfl rfl (q_ext0 rfl) ?_
              refine L_q rfl rfl rfl (q_ext1 rfl) ?_
              refine L_alloc tb rfl rfl fun g7 => ?_
              first | refine L_store tb rfl rfl rfl rfl rfl rfl rfl rfl ?_ | (refine L_front1 ?_; refine L_store tb rfl rfl rfl rfl rfl rfl rfl rfl ?_) | (refine L_front2 ?_; refine L_store tb rfl rfl rfl rfl rfl rfl rfl rfl ?_) | (refine L_front3 ?_; refine L_store tb rfl rfl rfl rfl rfl rfl rfl rfl ?_) | (refine L_front4 ?_; refine L_store tb rfl rfl rfl rfl rfl rfl rfl rfl ?_) | (refine L_front5 ?_; refine L_store tb rfl rfl rfl rfl rfl rfl rfl rfl ?_) | (refine L_front6 ?_; refine L_store tb rfl rfl rfl rfl rfl rfl rfl rfl ?_)
              refine L_q rfl rfl rfl (q_assign rfl) ?_
              refine L_then ?_
              refine C_seq ?_
              refine C_seq ?_
              refine C_region ?_
              refine L_q rfl rfl rfl (q_move rfl) ?_
              refine L_q rfl rfl rfl (q_not rfl (by first | exact (rfl : (!true) = false) | exact (rfl : (!false) = true) | exact decide_not.symm | rfl)) ?_
              refine L_then ?_
              refine C_dec rfl (fun hle => ?_) (fun hle => ?_)
              · -- t63 True
                refine C_seq ?_
                refine C_region ?_
                refine L_q rfl rfl rfl (q_assign rfl) ?_
                refine L_then ?_
                refine C_ret ?_
                exact ret_of (res1 rfl rfl) sub_nil (by intro r hr; cases hr) ⟨rfl, rfl⟩
              · -- t63 False
                have hl9 := dvL_len (c := c) hk9; have hlm9 := len_map cDl (dvL ls k9 c); have hb2 := dv_ok H hk9 hdv (by omega) hb9; obtain ⟨_, H2, _, hz2⟩ := bothE_ok hb2
                have hx9 := dv_clk H HR.tb hk9 hdv; have hy9 := dv_br H hk9 hdv r.br
                have hlc1 : ((clksK r.tb sf gs ls ls.length).map cI).length = ls.length := by rw [List.length_map, clksK_len]
                have hlc2 : ((clksK r.tb sf gs (dvL ls k9 c) (dvL ls k9 c).length).map cI).length = ls.length + 1 := by rw [List.length_map, clksK_len, hl9]
                have he1 : ((clksK r.tb sf gs ls ls.length).map cI)[k9]? = some (cI (clkM r.tb (legAt sf gs ls k9))) := map_get cI (clksK_get (by omega))
                have he2 : ((clksK r.tb sf gs (dvL ls k9 c) (dvL ls k9 c).length).map cI)[k9]? = some (cI (clkM r.tb (legAt sf gs (dvL ls k9 c) k9))) := map_get cI (clksK_get (by omega))
                have he3 : ((clksK r.tb sf gs (dvL ls k9 c) (dvL ls k9 c).length).map cI)[k9 + 1]? = some (cI (clkM r.tb (legAt sf gs (dvL ls k9 c) (k9 + 1)))) := map_get cI (clksK_get (by omega))
                have hq1 := clkM_in (H.le (k := k9) (by omega)) HR.tb; have hq2 := clkM_in (H2.le (k := k9) (by omega)) HR.tb; have hq3 := clkM_in (H2.le (k := k9 + 1) (by omega)) HR.tb
                have hr1 := brM_in (H.le (k := k9) (by omega)) HR.br (n := (dlAt ls k9).s) (by have := (H.at hk9).s; show 0 ≤ (dlAt ls k9).s ∧ (dlAt ls k9).s ≤ (dlAt ls k9).s; omega) (.inl rfl)
                have hr2 := brM_in (H2.le (k := k9) (by omega)) HR.br (n := (dlAt (dvL ls k9 c) k9).s) (by have := (H2.at (k := k9) (by omega)).s; show 0 ≤ (dlAt (dvL ls k9 c) k9).s ∧ (dlAt (dvL ls k9 c) k9).s ≤ (dlAt (dvL ls k9 c) k9).s; omega) (.inl rfl)
                have hr3 := brM_in (H2.le (k := k9 + 1) (by omega)) HR.br (n := (dlAt (dvL ls k9 c) (k9 + 1)).s) (by have := (H2.at (k := k9 + 1) (by omega)).s; show 0 ≤ (dlAt (dvL ls k9 c) (k9 + 1)).s ∧ (dlAt (dvL ls k9 c) (k9 + 1)).s ≤ (dlAt (dvL ls k9 c) (k9 + 1)).s; omega) (.inl rfl)
                refine C_skip_then ?_
                refine C_seq ?_
                refine C_draw (n := 10) [(0, false), (2, false), (1, true), (3, true), (4, true), (5, false), (6, false), (7, false), (8, false), (9, false)] mixed (by kernel_rfl) ?_
                refine W_q rfl rfl rfl rfl (q_loadA tb rfl rfl bxo rfl rfl) ?_
                refine W_q rfl rfl rfl rfl (q_loadA tb rfl rfl bxo rfl rfl) ?_
                refine W_lo rfl rfl rfl rfl (lo_call tb rfl rfl (ct_shotlinebase_CopyPlan nm sf v u gs ls (by omega) (by omega)) (ps_cons (by first | exact gvo | exact gvd gvo (by omega)) (ps_cons (by first | exact gvo | exact gvd gvo (by omega)) no_ps)) (by rintro y rs ⟨a, b, _, rfl⟩ r hr; simp only [List.mem_cons, List.not_mem_nil, or_false] at hr; rcases hr with rfl | rfl <;> exact sl_sinks _ _ _ _)) ?_
                rintro _ _ ⟨a66, b66, rfl, rfl⟩
                refine W_lo rfl rfl rfl rfl (lo_call tb rfl rfl (ct_shotlineref05_Copy t r (by omega)) (ps_cons (by first | exact gvo | exact gvd gvo (by omega)) no_ps) (by rintro y rs ⟨a, _, rfl⟩ r hr; rw [List.mem_singleton.1 hr]; exact sl_sinks _ _ _ _)) ?_
                rintro _ _ ⟨a68, rfl, rfl⟩
                refine W_callSN tb rfl rfl rfl rfl (ct_exposure_ClockOf a68 r nm sf a66 b66 gs ls (by omega) (by omega) (by omega) (by omega)) (ps_cons (by first | exact gvo | exact gvd gvo (by omega)) (ps_cons (by first | exact gvo | exact gvd gvo (by omega)) (ps_cons (by first | exact gvo | exact gvd gvo (by omega)) no_ps))) rfl fun v69 => ?_
                rw [clkE_2 hb9]
                dsimp only
                refine W_q rfl rfl rfl rfl (q_move rfl) ?_
                refine W_q rfl rfl rfl rfl (q_ext0 rfl) ?_
                refine W_q rfl rfl rfl rfl (q_ext1 rfl) ?_
                refine W_q rfl rfl rfl rfl (q_assign rfl) ?_
                refine W_q rfl rfl rfl rfl (q_assign rfl) ?_
                refine W_nil ?_
                refine L_then ?_
                refine C_seq ?_
                refine C_draw (n := 10) [(0, false), (2, false), (1, true), (3, true), (4, true), (5, false), (6, false), (7, false), (8, false), (9, false)] mixed (by kernel_rfl) ?_
                refine W_q rfl rfl rfl rfl (q_loadA tb rfl rfl bxo rfl rfl) ?_
                refine W_q rfl rfl rfl rfl (q_loadA tb rfl rfl bxo rfl rfl) ?_
                refine W_lo rfl rfl rfl rfl (lo_call tb rfl rfl (ct_shotlinebase_CopyPlan nm sf (.slice A59 (gs.map cGs).length c59) (.slice B59 ((dvL ls k9 c).map cDl).length d59) gs (dvL ls k9 c) (by omega) (by omega)) (ps_cons (by first | exact gvo | exact gvd gvo (by omega)) (ps_cons (by first | exact gvo | exact gvd gvo (by omega)) no_ps)) (by rintro y rs ⟨a, b, _, rfl⟩ r hr; simp only [List.mem_cons, List.not_mem_nil, or_false] at hr; rcases hr with rfl | rfl <;> exact sl_sinks _ _ _ _)) ?_
                rintro _ _ ⟨a74, b74, rfl, rfl⟩
                refine W_lo rfl rfl rfl rfl (lo_call tb rfl rfl (ct_shotlineref05_Copy t r (by omega)) (ps_cons (by first | exact gvo | exact gvd gvo (by omega)) no_ps) (by rintro y rs ⟨a, _, rfl⟩ r hr; rw [List.mem_singleton.1 hr]; exact sl_sinks _ _ _ _)) ?_
                rintro _ _ ⟨a76, rfl, rfl⟩
                refine W_callSN tb rfl rfl rfl rfl (ct_exposure_ClockOf a76 r nm sf a74 b74 gs (dvL ls k9 c) (by omega) (by omega) (by omega) (by omega)) (ps_cons (by first | exact gvo | exact gvd gvo (by omega)) (ps_cons (by first | exact gvo | exact gvd gvo (by omega)) (ps_cons (by first | exact gvo | exact gvd gvo (by omega)) no_ps))) rfl fun v77 => ?_
                rw [clkE_2 hb2]
                dsimp only
                refine W_q rfl rfl rfl rfl (q_move rfl) ?_
                refine W_q rfl rfl rfl rfl (q_ext0 rfl) ?_
                refine W_q rfl rfl rfl rfl (q_ext1 rfl) ?_
                refine W_q rfl rfl rfl rfl (q_assign rfl) ?_
                refine W_q rfl rfl rfl rfl (q_assign rfl) ?_
                refine W_nil ?_
                refine L_then ?_
                refine C_seq ?_
                refine C_draw (n := 12) [(0, false), (2, false), (3, false), (4, false), (5, false), (1, true), (6, true), (7, false), (8, false), (9, false), (10, false), (11, false)] mixed (by kernel_rfl) ?_
                refine W_q rfl rfl rfl rfl (q_loadA tb rfl rfl bxo rfl rfl) ?_
                refine W_q rfl rfl rfl rfl (by first | exact q_index tb rfl rfl rfl rfl (by first | exact gvo | exact gvd gvo (by omega)) (by omega) (by first | omega | (simp; done) | (simp; omega)) | exact q_indexP tb rfl rfl rfl rfl (by omega) (by omega)) ?_
                refine W_q rfl rfl rfl rfl (by first | exact q_load tb rfl rfl bxo rfl | exact q_loadE tb rfl rfl (by first | exact gvo | exact gvd gvo (by omega)) (by omega) (by simp) rfl) ?_
                refine W_q rfl rfl rfl rfl (q_field tb rfl rfl rfl) ?_
                refine W_q rfl rfl rfl rfl (q_load tb rfl rfl bxo rfl) ?_
                refine W_lo rfl rfl rfl rfl (lo_call tb rfl rfl (ct_shotlinebase_CopyPlan nm sf v u gs ls (by omega) (by omega)) (ps_cons (by first | exact gvo | exact gvd gvo (by omega)) (ps_cons (by first | exact gvo | exact gvd gvo (by omega)) no_ps)) (by rintro y rs ⟨a, b, _, rfl⟩ r hr; simp only [List.mem_cons, List.not_mem_nil, or_false] at hr; rcases hr with rfl | rfl <;> exact sl_sinks _ _ _ _)) ?_
                rintro _ _ ⟨a82, b82, rfl, rfl⟩
                refine W_call tb rfl rfl rfl rfl (ct_exposure_LegBreath nm sf a82 b82 gs ls (by omega) (by omega) (by omega) (k9 : Int) r.br) (ps_cons (by first | exact gvo | exact gvd gvo (by omega)) (ps_cons (by first | exact gvo | exact gvd gvo (by omega)) no_ps)) rfl ?_
                rw [lbrE_3 (legOfE_3 hz hk9) (by omega)]
                refine W_q rfl rfl rfl rfl (q_move rfl) ?_
                refine W_q rfl rfl rfl rfl (q_ext0 rfl) ?_
                refine W_q rfl rfl rfl rfl (q_ext1 rfl) ?_
                refine W_q rfl rfl rfl rfl (q_assign rfl) ?_
                refine W_q rfl rfl rfl rfl (q_assign rfl) ?_
                refine W_nil ?_
                refine L_then ?_
                refine C_seq ?_
                refine C_draw (n := 12) [(0, false), (2, false), (3, false), (4, false), (5, false), (1, true), (6, true), (7, false), (8, false), (9, false), (10, false), (11, false)] mixed (by kernel_rfl) ?_
                refine W_q rfl rfl rfl rfl (q_loadA tb rfl rfl bxo rfl rfl) ?_
                refine W_q rfl rfl rfl rfl (by first | exact q_index tb rfl rfl rfl rfl (by first | exact gvo | exact gvd gvo (by omega)) (by omega) (by first | omega | (simp; done) | (simp; omega)) | exact q_indexP tb rfl rfl rfl rfl (by omega) (by omega)) ?_
                refine W_q rfl rfl rfl rfl (by first | exact q_load tb rfl rfl bxo rfl | exact q_loadE tb rfl rfl (by first | exact gvo | exact gvd gvo (by omega)) (by omega) (by simp) rfl) ?_
                refine W_q rfl rfl rfl rfl (q_field tb rfl rfl rfl) ?_
                refine W_q rfl rfl rfl rfl (q_load tb rfl rfl bxo rfl) ?_
                refine W_lo rfl rfl rfl rfl (lo_call tb rfl rfl (ct_shotlinebase_CopyPlan nm sf (.slice A59 (gs.map cGs).length c59) (.slice B59 ((dvL ls k9 c).map cDl).length d59) gs (dvL ls k9 c) (by omega) (by omega)) (ps_cons (by first | exact gvo | exact gvd gvo (by omega)) (ps_cons (by first | exact gvo | exact gvd gvo (by omega)) no_ps)) (by rintro y rs ⟨a, b, _, rfl⟩ r hr; simp only [List.mem_cons, List.not_mem_nil, or_false] at hr; rcases hr with rfl | rfl <;> exact sl_sinks _ _ _ _)) ?_
                rintro _ _ ⟨a92, b92, rfl, rfl⟩
                refine W_call tb rfl rfl rfl rfl (ct_exposure_LegBreath nm sf a92 b92 gs (dvL ls k9 c) (by omega) (by omega) (by omega) (k9 : Int) r.br) (ps_cons (by first | exact gvo | exact gvd gvo (by omega)) (ps_cons (by first | exact gvo | exact gvd gvo (by omega)) no_ps)) rfl ?_
                rw [lbrE_3 (legOfE_3 hz2 (by omega)) (by omega)]
                refine W_q rfl rfl rfl rfl (q_move rfl) ?_
                refine W_q rfl rfl rfl rfl (q_ext0 rfl) ?_
                refine W_q rfl rfl rfl rfl (q_ext1 rfl) ?_
                refine W_q rfl rfl rfl rfl (q_assign rfl) ?_
                refine W_q rfl rfl rfl rfl (q_assign rfl) ?_
                refine W_nil ?_
                refine L_then ?_
                refine C_seq ?_
                refine C_draw (n := 13) [(0, false), (2, false), (3, false), (4, false), (5, false), (6, false), (1, true), (7, true), (8, false), (9, false), (10, false), (11, false), (12, false)] mixed (by kernel_rfl) ?_
                refine W_q rfl rfl rfl rfl (q_loadA tb rfl rfl bxo rfl rfl) ?_
                refine W_q rfl rfl rfl rfl (by first | exact q_index tb rfl rfl rfl rfl (by first | exact gvo | exact gvd gvo (by omega)) (by omega) (by first | omega | (simp; done) | (simp; omega)) | exact q_indexP tb rfl rfl rfl rfl (by omega) (by omega)) ?_
                refine W_q rfl rfl rfl rfl (by first | exact q_load tb rfl rfl bxo rfl | exact q_loadE tb rfl rfl (by first | exact gvo | exact gvd gvo (by omega)) (by omega) (by simp) rfl) ?_
                refine W_q rfl rfl rfl rfl (q_add rfl rfl (by first | exact IntWalk.i64_in _ (by omega) | rfl)) ?_
                refine W_q rfl rfl rfl rfl (q_field tb rfl rfl rfl) ?_
                refine W_q rfl rfl rfl rfl (q_load tb rfl rfl bxo rfl) ?_
                refine W_lo rfl rfl rfl rfl (lo_call tb rfl rfl (ct_shotlinebase_CopyPlan nm sf (.slice A59 (gs.map cGs).length c59) (.slice B59 ((dvL ls k9 c).map cDl).length d59) gs (dvL ls k9 c) (by omega) (by omega)) (ps_cons (by first | exact gvo | exact gvd gvo (by omega)) (ps_cons (by first | exact gvo | exact gvd gvo (by omega)) no_ps)) (by rintro y rs ⟨a, b, _, rfl⟩ r hr; simp only [List.mem_cons, List.not_mem_nil, or_false] at hr; rcases hr with rfl | rfl <;> exact sl_sinks _ _ _ _)) ?_
                rintro _ _ ⟨a102, b102, rfl, rfl⟩
                refine W_call tb rfl rfl rfl rfl (ct_exposure_LegBreath nm sf a102 b102 gs (dvL ls k9 c) (by omega) (by omega) (by omega) ((k9 + 1 : Nat) : Int) r.br) (ps_cons (by first | exact gvo | exact gvd gvo (by omega)) (ps_cons (by first | exact gvo | exact gvd gvo (by omega)) no_ps)) rfl ?_
                rw [lbrE_3 (legOfE_3 hz2 (by omega)) (by omega)]
                refine W_q rfl rfl rfl rfl (q_move rfl) ?_
                refine W_q rfl rfl rfl rfl (q_ext0 rfl) ?_
                refine W_q rfl rfl rfl rfl (q_ext1 rfl) ?_
                refine W_q rfl rfl rfl rfl (q_assign rfl) ?_
                refine W_q rfl rfl rfl rfl (q_assign rfl) ?_
                refine W_nil ?_
                refine L_then ?_
                refine C_seq ?_
                refine C_seq ?_
                refine C_region ?_
                refine L_q rfl rfl rfl (q_move rfl) ?_
                refine L_q rfl rfl rfl (q_false (q_neq rfl rfl) (by simp)) ?_
                refine L_q rfl rfl rfl (q_move rfl) ?_
                refine L_qg rfl rfl rfl rfl rfl rfl rfl (q_move rfl) ?_
                refine L_qg rfl rfl rfl rfl rfl rfl rfl (q_false (q_neq rfl rfl) (by simp)) ?_
                refine L_q rfl rfl rfl (by first | exact q_pickT rfl rfl | exact q_pickF rfl rfl) ?_
                refine L_q rfl rfl rfl (q_move rfl) ?_
                refine L_qg rfl rfl rfl rfl rfl rfl rfl (q_move rfl) ?_
                refine L_qg rfl rfl rfl rfl rfl rfl rfl (q_false (q_neq rfl rfl) (by simp)) ?_
                refine L_q rfl rfl rfl (by first | exact q_pickT rfl rfl | exact q_pickF rfl rfl) ?_
                refine L_q rfl rfl rfl (q_move rfl) ?_
                refine L_qg rfl rfl rfl rfl rfl rfl rfl (q_move rfl) ?_
                refine L_qg rfl rfl rfl rfl rfl rfl rfl (q_false (q_neq rfl rfl) (by simp)) ?_
                refine L_q rfl rfl rfl (by first | exact q_pickT rfl rfl | exact q_pickF rfl rfl) ?_
                refine L_q rfl rfl rfl (q_move rfl) ?_
                refine L_qg rfl rfl rfl rfl rfl rfl rfl (q_move rfl) ?_
                refine L_qg rfl rfl rfl rfl rfl rfl rfl (q_false (q_neq rfl rfl) (by simp)) ?_
                refine L_q rfl rfl rfl (by first | exact q_pickT rfl rfl | exact q_pickF rfl rfl) ?_
                refine L_q rfl rfl rfl (q_move rfl) ?_
                refine L_qg rfl rfl rfl rfl rfl rfl rfl (q_move rfl) ?_
                refine L_qg rfl rfl rfl rfl rfl rfl rfl (q_len tb rfl rfl (by first | exact gvo | exact gvd gvo (by omega))) ?_
                refine L_qg rfl rfl rfl rfl rfl rfl rfl (q_field tb rfl rfl rfl) ?_
                refine L_qg rfl rfl rfl rfl rfl rfl rfl (q_load tb rfl rfl bxo rfl) ?_
                refine L_qg rfl rfl rfl rfl rfl rfl rfl (q_len tb rfl rfl (by first | exact gvo | exact gvd gvo (by omega))) ?_
                refine L_qg rfl rfl rfl rfl rfl rfl rfl (q_false (q_neq rfl rfl) (by simp [clksK_len])) ?_
                refine L_q rfl rfl rfl (by first | exact q_pickT rfl rfl | exact q_pickF rfl rfl) ?_
                refine L_q rfl rfl rfl (q_move rfl) ?_
                refine L_qg rfl rfl rfl rfl rfl rfl rfl (q_move rfl) ?_
                refine L_qg rfl rfl rfl rfl rfl rfl rfl (q_len tb rfl rfl (by first | exact gvo | exact gvd gvo (by omega))) ?_
                refine L_qg rfl rfl rfl rfl rfl rfl rfl (q_field tb rfl rfl rfl) ?_
                refine L_qg rfl rfl rfl rfl rfl rfl rfl (q_load tb rfl rfl bxo rfl) ?_
                refine L_qg rfl rfl rfl rfl rfl rfl rfl (q_len tb rfl rfl (by first | exact gvo | exact gvd gvo (by omega))) ?_
                refine L_qg rfl rfl rfl rfl rfl rfl rfl (q_false (q_neq rfl rfl) (by simp [clksK_len])) ?_
                refine L_q rfl rfl rfl (by first | exact q_pickT rfl rfl | exact q_pickF rfl rfl) ?_
                refine L_then ?_
                refine C_false rfl ?_
                refine C_skip_then ?_
                refine C_seq ?_
                refine C_draw (n := 19) [(0, false), (1, false), (2, false), (3, false), (4, false), (5, false), (6, false), (7, false), (8, false), (9, false), (10, false), (11, false), (12, false), (13, false), (14, false), (15, false), (16, false), (17, false), (18, false)] mixed (by kernel_rfl) ?_
                refine W_q rfl rfl rfl rfl (q_move rfl) ?_
                refine W_q rfl rfl rfl rfl (by first | exact q_index tb rfl rfl rfl rfl (by first | exact gvo | exact gvd gvo (by omega)) (by omega) (by first | omega | (simp; done) | (simp; omega)) | exact q_indexP tb rfl rfl rfl rfl (by omega) (by omega)) ?_
                refine W_q rfl rfl rfl rfl (by first | exact q_load tb rfl rfl bxo rfl | exact q_loadE tb rfl rfl (by first | exact gvo | exact gvd gvo (by omega)) (by omega) (by simp) rfl) ?_
                refine W_q rfl rfl rfl rfl (by first | exact q_index tb rfl rfl rfl rfl (by first | exact gvo | exact gvd gvo (by omega)) (by omega) (by first | omega | (simp; done) | (simp; omega)) | exact q_indexP tb rfl rfl rfl rfl (by omega) (by omega)) ?_
                refine W_q rfl rfl rfl rfl (q_loadE tb rfl rfl (by first | exact gvo | exact gvd gvo (by omega)) (i := k9) (o := 0) (by omega) he1 rfl) ?_
                refine W_q rfl rfl rfl rfl (q_move rfl) ?_
                refine W_q rfl rfl rfl rfl (by first | exact q_index tb rfl rfl rfl rfl (by first | exact gvo | exact gvd gvo (by omega)) (by omega) (by first | omega | (simp; done) | (simp; omega)) | exact q_indexP tb rfl rfl rfl rfl (by omega) (by omega)) ?_
                refine W_q rfl rfl rfl rfl (by first | exact q_load tb rfl rfl bxo rfl | exact q_loadE tb rfl rfl (by first | exact gvo | exact gvd gvo (by omega)) (by omega) (by simp) rfl) ?_
                refine W_q rfl rfl rfl rfl (by first | exact q_index tb rfl rfl rfl rfl (by first | exact gvo | exact gvd gvo (by omega)) (by omega) (by first | omega | (simp; done) | (simp; omega)) | exact q_indexP tb rfl rfl rfl rfl (by omega) (by omega)) ?_
                refine W_q rfl rfl rfl rfl (q_loadE tb rfl rfl (by first | exact gvo | exact gvd gvo (by omega)) (i := k9) (o := 0) (by omega) he2 rfl) ?_
                refine W_q rfl rfl rfl rfl (q_move rfl) ?_
                refine W_q rfl rfl rfl rfl (by first | exact q_index tb rfl rfl rfl rfl (by first | exact gvo | exact gvd gvo (by omega)) (by omega) (by first | omega | (simp; done) | (simp; omega)) | exact q_indexP tb rfl rfl rfl rfl (by omega) (by omega)) ?_
                refine W_q rfl rfl rfl rfl (by first | exact q_load tb rfl rfl bxo rfl | exact q_loadE tb rfl rfl (by first | exact gvo | exact gvd gvo (by omega)) (by omega) (by simp) rfl) ?_
                refine W_q rfl rfl rfl rfl (q_add rfl rfl (by first | exact IntWalk.i64_in _ (by omega) | rfl)) ?_
                refine W_q rfl rfl rfl rfl (by first | exact q_index tb rfl rfl rfl rfl (by first | exact gvo | exact gvd gvo (by omega)) (by omega) (by first | omega | (simp; done) | (simp; omega)) | exact q_indexP tb rfl rfl rfl rfl (by omega) (by omega)) ?_
                refine W_q rfl rfl rfl rfl (q_loadE tb rfl rfl (by first | exact gvo | exact gvd gvo (by omega)) (i := k9 + 1) (o := 0) (by omega) he3 rfl) ?_
                refine W_q rfl rfl rfl rfl (q_add rfl rfl (by first | exact IntWalk.i64_in _ (by omega) | rfl)) ?_
                refine W_q rfl rfl rfl rfl (q_assign rfl) ?_
                refine W_q rfl rfl rfl rfl (q_assign rfl) ?_
                refine W_nil ?_
                refine L_then ?_
                refine C_seq ?_
                refine C_region ?_
                refine L_q rfl rfl rfl (q_move rfl) ?_
                refine L_call tb rfl rfl (ct_shotlinebase_Within _ _ _) no_ps rfl ?_
                refine L_q rfl rfl rfl (q_move rfl) ?_
                refine L_dec (d := 164) rfl (fun hw1 => ?_) (fun hw1 => ?_)
                · -- t164 True
                  refine L_qg rfl rfl rfl rfl rfl rfl rfl (q_move rfl) ?_
                  refine L_qg rfl rfl rfl rfl rfl rfl rfl (q_move rfl) ?_
                  refine L_qg rfl rfl rfl rfl rfl rfl rfl (q_move rfl) ?_
                  refine L_qg rfl rfl rfl rfl rfl rfl rfl (q_add rfl rfl (by first | exact IntWalk.i64_in _ (by omega) | rfl)) ?_
                  refine L_callg tb rfl rfl rfl rfl rfl rfl (ct_shotlinebase_Within _ _ _) no_ps rfl ?_
                  refine L_q rfl rfl rfl (by first | exact q_pickT rfl rfl | exact q_pickF rfl rfl) ?_
                  refine L_q rfl rfl rfl (q_move rfl) ?_
                  refine L_dec (d := 171) rfl (fun hw2 => ?_) (fun hw2 => ?_)
                  · -- t171 True
                    refine L_qg rfl rfl rfl rfl rfl rfl rfl (q_move rfl) ?_
                    refine L_callg tb rfl rfl rfl rfl rfl rfl (ct_shotlinebase_Within _ _ _) no_ps rfl ?_
                    refine L_q rfl rfl rfl (by first | exact q_pickT rfl rfl | exact q_pickF rfl rfl) ?_
                    refine L_q rfl rfl rfl (q_move rfl) ?_
                    refine L_dec (d := 175) rfl (fun hw3 => ?_) (fun hw3 => ?_)
                    · -- t175 True
                      refine L_qg rfl rfl rfl rfl rfl rfl rfl (q_move rfl) ?_
                      refine L_qg rfl rfl rfl rfl rfl rfl rfl (q_move rfl) ?_
                      refine L_qg rfl rfl rfl rfl rfl rfl rfl (q_add rfl rfl (by first | exact IntWalk.i64_in _ (by omega) | rfl)) ?_
                      refine L_qg rfl rfl rfl rfl rfl rfl rfl (q_move rfl) ?_
                      refine L_qg rfl rfl rfl rfl rfl rfl rfl (q_move rfl) ?_
                      refine L_qg rfl rfl rfl rfl rfl rfl rfl (q_add rfl rfl (by first | exact IntWalk.i64_in _ (by omega) | rfl)) ?_
                      refine L_callg tb rfl rfl rfl rfl rfl rfl (ct_shotlinebase_Within _ _ _) no_ps rfl ?_
                      refine L_q rfl rfl rfl (by first | exact q_pickT rfl rfl | exact q_pickF rfl rfl) ?_
                      refine L_q rfl rfl rfl (q_assign rfl) ?_
                      refine L_then ?_
                      refine C_ret ?_
                      exact ret_of (res1 rfl rfl) sub_nil (by intro r hr; cases hr) ⟨(congrArg Value.bool (decide_eq_true (by omega))), rfl⟩
                    · -- t175 False
                      exfalso; omega
                  · -- t171 False
                    exfalso; omega
                · -- t164 False
                  exfalso; omega
            · -- case 1
              refine C_skip_then ?_
              refine C_seq ?_
              refine C_region ?_
              refine L_q rfl rfl rfl (q_loadA tb rfl rfl bxo rfl rfl) ?_
              refine L_q rfl rfl rfl (by first | exact q_index tb rfl rfl rfl rfl (by first | exact gvo | exact gvd gvo (by omega)) (by omega) (by first | omega | (simp; done) | (simp; omega)) | exact q_indexP tb rfl rfl rfl rfl (by omega) (by omega)) ?_
              refine L_q rfl rfl rfl (by first | exact q_load tb rfl rfl bxo rfl | exact q_loadE tb rfl rfl (by first | exact gvo | exact gvd gvo (by omega)) (by omega) (by simp) rfl) ?_
              refine L_q rfl rfl rfl (by first | exact q_index tb rfl rfl rfl rfl (by first | exact gvo | exact gvd gvo (by omega)) (by omega) (by first | omega | (simp; done) | (simp; omega)) | exact q_indexP tb rfl rfl rfl rfl (by omega) (by omega)) ?_
              refine L_q rfl rfl rfl (by first | exact q_load tb rfl rfl bxo rfl | exact q_loadE tb rfl rfl (by first | exact gvo | exact gvd gvo (by omega)) (by omega) (by simp) rfl) ?_
              refine L_call tb rfl rfl (ct_divided_no nm sf v u gs ls H k9 hk9 c (by omega) hdv) (ps_cons (by first | exact gvo | exact gvd gvo (by omega)) (ps_cons (by first | exact gvo | exact gvd gvo (by omega)) no_ps)) rfl ?_
              refine L_q rfl rfl rfl (q_move rfl) ?_
              refine L_form (v := v) gvo (fun Av cv hv59 _ => ?_)
              subst hv59
              refine L_form (v := u) gvo (fun Au cu hw59 _ => ?_)
              subst hw59
              refine L_q rfl rfl rfl (q_ext0 rfl) ?_
              refine L_q rfl rfl rfl (q_ext1 rfl) ?_
              refine L_alloc tb rfl rfl fun g7 => ?_
              first | refine L_store tb rfl rfl rfl rfl rfl rfl rfl rfl ?_ | (refine L_front1 ?_; refine L_store tb rfl rfl rfl rfl rfl rfl rfl rfl ?_) | (refine L_front2 ?_; refine L_store tb rfl rfl rfl rfl rfl rfl rfl rfl ?_) | (refine L_front3 ?_; refine L_store tb rfl rfl rfl rfl rfl rfl rfl rfl ?_) | (refine L_front4 ?_; refine L_store tb rfl rfl rfl rfl rfl rfl rfl rfl ?_) | (refine L_front5 ?_; refine L_store tb rfl rfl rfl rfl rfl rfl rfl rfl ?_) | (refine L_front6 ?_; refine L_store tb rfl rfl rfl rfl rfl rfl rfl rfl ?_)
              refine L_q rfl rfl rfl (q_assign rfl) ?_
              refine L_then ?_
              refine C_seq ?_
              refine C_seq ?_
              refine C_region ?_
              refine L_q rfl rfl rfl (q_move rfl) ?_
              refine L_q rfl rfl rfl (q_not rfl (by first | exact (rfl : (!true) = false) | exact (rfl : (!false) = true) | exact decide_not.symm | rfl)) ?_
              refine L_then ?_
              refine C_true rfl ?_
              refine C_seq ?_
              refine C_region ?_
              refine L_q rfl rfl rfl (q_assign rfl) ?_
              refine L_then ?_
              refine C_ret ?_
              exact ret_of (res1 rfl rfl) sub_nil (by intro r hr; cases hr) ⟨rfl, rfl⟩
end Go.Proofs.Ytolnohjbpllmhaa
