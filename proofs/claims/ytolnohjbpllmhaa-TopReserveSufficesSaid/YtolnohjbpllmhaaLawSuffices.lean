/-
  Walks: each function named returns what its model says. Conditions: those in front of each theorem.
-/
import Derived.Test.YtolnohjbpllmhaaYS
import Derived.Test.YtolnohjbpllmhaaXW
import Derived.Test.YtolnohjbpllmhaaYC
namespace Go.Proofs.Ytolnohjbpllmhaa
open Go.RowKit

set_option maxRecDepth 100000 in
set_option maxHeartbeats 2000000 in
theorem ct_shotlinetop_TopReserveSuffices (t : Value) (r : Ru) (nm : ByteArray) (sf : Int) (v u : Value) (gs : List Gs) (ls : List Dl) (n : Int) : Ct Try.prog 17 [.agg (cPl nm sf v u).toArray, .agg (cRu t r).toArray, .int .i64 n] [(v, 2, gs.map cGs), (u, 3, ls.map cDl), (t, 2, r.tb.map cOw)] (isV (.bool true)) := by
  refine Ct.of (N := 205) Try.func17 rfl rfl rfl fun w => ?_
  refine C_weak (E' := [(0, .agg (cPl nm sf v u).toArray), (1, .agg (cRu t r).toArray), (2, .int .i64 n)]) (rs' := [rd v 2 (gs.map cGs), rd u 3 (ls.map cDl), rd t 2 (r.tb.map cOw)]) ⟨rfl, rfl, rfl, trivial⟩ (fun _ h => h) ?_
  have hlp := len_map cGs gs
  have hl1 := len_map cGs gs
  have hl2 := len_map cDl ls
  have hlt9 := len_map cOw r.tb
  refine C_seq ?_
  refine C_region ?_
  refine L_box rfl rfl rfl fun g3 => ?_
  refine L_box rfl rfl rfl fun g4 => ?_
  refine L_q rfl rfl rfl (q_assign rfl) ?_
  refine L_then ?_
  refine C_seq ?_
  refine C_seq ?_
  refine C_region ?_
  refine L_call tb rfl rfl (ct_shotlinetop_exposed) no_ps rfl ?_
  refine L_q rfl rfl rfl (q_not rfl (by first | exact (rfl : (!true) = false) | exact (rfl : (!false) = true) | exact decide_not.symm | rfl)) ?_
  refine L_then ?_
  refine C_false rfl ?_
  refine C_skip_then ?_
  refine C_seq ?_
  refine C_seq ?_
  refine C_region ?_
  refine L_q rfl rfl rfl (q_loadA tb rfl rfl bxo rfl rfl) ?_
  refine L_call tb rfl rfl (ct_shotlinelaw05_Brief nm sf v u gs ls) (ps_cons (by first | exact gvo | exact gvd gvo (by omega)) (ps_cons (by first | exact gvo | exact gvd gvo (by omega)) no_ps)) rfl ?_
  refine L_q rfl rfl rfl (q_not rfl (by first | exact (rfl : (!true) = false) | exact (rfl : (!false) = true) | exact decide_not.symm | rfl)) ?_
  refine L_q rfl rfl rfl (q_move rfl) ?_
  refine L_dec (d := 27) rfl (fun hbr => ?_) (fun hbr => ?_)
  · -- t27 True
    refine L_skip rfl rfl rfl rfl rfl rfl rfl ?_
    refine L_skip rfl rfl rfl rfl rfl rfl rfl ?_
    refine L_skip rfl rfl rfl rfl rfl rfl rfl ?_
    refine L_q rfl rfl rfl (by first | exact q_pickT rfl rfl | exact q_pickF rfl rfl) ?_
    refine L_q rfl rfl rfl (q_move rfl) ?_
    refine L_skip rfl rfl rfl rfl rfl rfl rfl ?_
    refine L_skip rfl rfl rfl rfl rfl rfl rfl ?_
    refine L_skip rfl rfl rfl rfl rfl rfl rfl ?_
    refine L_skip rfl rfl rfl rfl rfl rfl rfl ?_
    refine L_q rfl rfl rfl (by first | exact q_pickT rfl rfl | exact q_pickF rfl rfl) ?_
    refine L_q rfl rfl rfl (q_move rfl) ?_
    refine L_skip rfl rfl rfl rfl rfl rfl rfl ?_
    refine L_skip rfl rfl rfl rfl rfl rfl rfl ?_
    refine L_skip rfl rfl rfl rfl rfl rfl rfl ?_
    refine L_q rfl rfl rfl (by first | exact q_pickT rfl rfl | exact q_pickF rfl rfl) ?_
    refine L_q rfl rfl rfl (q_move rfl) ?_
    refine L_skip rfl rfl rfl rfl rfl rfl rfl ?_
    refine L_skip rfl rfl rfl rfl rfl rfl rfl ?_
    refine L_skip rfl rfl rfl rfl rfl rfl rfl ?_
    refine L_skip rfl rfl rfl rfl rfl rfl rfl ?_
    refine L_q rfl rfl rfl (by first | exact q_pickT rfl rfl | exact q_pickF rfl rfl) ?_
    refine L_q rfl rfl rfl (q_move rfl) ?_
    refine L_skip rfl rfl rfl rfl rfl rfl rfl ?_
    refine L_skip rfl rfl rfl rfl rfl rfl rfl ?_
    refine L_skip rfl rfl rfl rfl rfl rfl rfl ?_
    refine L_skip rfl rfl rfl rfl rfl rfl rfl ?_
    refine L_skip rfl rfl rfl rfl rfl rfl rfl ?_
    refine L_q rfl rfl rfl (by first | exact q_pickT rfl rfl | exact q_pickF rfl rfl) ?_
    refine L_then ?_
    refine C_true rfl ?_
    refine C_seq ?_
    refine C_region ?_
    refine L_q rfl rfl rfl (q_assign rfl) ?_
    refine L_then ?_
    refine C_ret ?_
    exact ret_of (res1 rfl rfl) sub_nil (by intro r hr; cases hr) ⟨rfl, rfl⟩
  · -- t27 False
    have hsh := (Decidable.not_not.1 hbr).1
    refine L_qg rfl rfl rfl rfl rfl rfl rfl (q_loadA tb rfl rfl bxo rfl rfl) ?_
    refine L_callg tb rfl rfl rfl rfl rfl rfl (ct_shotlinelaw05_Few _ _) (ps_cons (by first | exact gvo | exact gvd gvo (by omega)) no_ps) rfl ?_
    refine L_qg rfl rfl rfl rfl rfl rfl rfl (q_not rfl (by first | exact (rfl : (!true) = false) | exact (rfl : (!false) = true) | exact decide_not.symm | rfl)) ?_
    refine L_q rfl rfl rfl (by first | exact q_pickT rfl rfl | exact q_pickF rfl rfl) ?_
    refine L_q rfl rfl rfl (q_move rfl) ?_
    refine L_dec (d := 32) rfl (fun hfw => ?_) (fun hfw => ?_)
    · -- t32 True
      refine L_skip rfl rfl rfl rfl rfl rfl rfl ?_
      refine L_skip rfl rfl rfl rfl rfl rfl rfl ?_
      refine L_skip rfl rfl rfl rfl rfl rfl rfl ?_
      refine L_skip rfl rfl rfl rfl rfl rfl rfl ?_
      refine L_q rfl rfl rfl (by first | exact q_pickT rfl rfl | exact q_pickF rfl rfl) ?_
      refine L_q rfl rfl rfl (q_move rfl) ?_
      refine L_skip rfl rfl rfl rfl rfl rfl rfl ?_
      refine L_skip rfl rfl rfl rfl rfl rfl rfl ?_
      refine L_skip rfl rfl rfl rfl rfl rfl rfl ?_
      refine L_q rfl rfl rfl (by first | exact q_pickT rfl rfl | exact q_pickF rfl rfl) ?_
      refine L_q rfl rfl rfl (q_move rfl) ?_
      refine L_skip rfl rfl rfl rfl rfl rfl rfl ?_
      refine L_skip rfl rfl rfl rfl rfl rfl rfl ?_
      refine L_skip rfl rfl rfl rfl rfl rfl rfl ?_
      refine L_skip rfl rfl rfl rfl rfl rfl rfl ?_
      refine L_q rfl rfl rfl (by first | exact q_pickT rfl rfl | exact q_pickF rfl rfl) ?_
      refine L_q rfl rfl rfl (q_move rfl) ?_
      refine L_skip rfl rfl rfl rfl rfl rfl rfl ?_
      refine L_skip rfl rfl rfl rfl rfl rfl rfl ?_
      refine L_skip rfl rfl rfl rfl rfl rfl rfl ?_
      refine L_skip rfl rfl rfl rfl rfl rfl rfl ?_
      refine L_skip rfl rfl rfl rfl rfl rfl rfl ?_
      refine L_q rfl rfl rfl (by first | exact q_pickT rfl rfl | exact q_pickF rfl rfl) ?_
      refine L_then ?_
      refine C_true rfl ?_
      refine C_seq ?_
      refine C_region ?_
      refine L_q rfl rfl rfl (q_assign rfl) ?_
      refine L_then ?_
      refine C_ret ?_
      exact ret_of (res1 rfl rfl) sub_nil (by intro r hr; cases hr) ⟨rfl, rfl⟩
    · -- t32 False
      refine L_qg rfl rfl rfl rfl rfl rfl rfl (q_loadA tb rfl rfl bxo rfl rfl) ?_
      refine L_qg rfl rfl rfl rfl rfl rfl rfl (q_loadA tb rfl rfl bxo rfl rfl) ?_
      refine L_callg tb rfl rfl rfl rfl rfl rfl (ct_shotlineref05_Both t r nm sf v u gs ls (by omega) (by omega) (by omega)) (ps_cons (by first | exact gvo | exact gvd gvo (by omega)) (ps_cons (by first | exact gvo | exact gvd gvo (by omega)) (ps_cons (by first | exact gvo | exact gvd gvo (by omega)) no_ps))) rfl ?_
      refine L_qg rfl rfl rfl rfl rfl rfl rfl (q_neq rfl rfl) ?_
      refine L_q rfl rfl rfl (by first | exact q_pickT rfl rfl | exact q_pickF rfl rfl) ?_
      refine L_q rfl rfl rfl (q_move rfl) ?_
      refine L_dec (d := 38) rfl (fun hb => ?_) (fun hb => ?_)
      · -- t38 True
        refine L_skip rfl rfl rfl rfl rfl rfl rfl ?_
        refine L_skip rfl rfl rfl rfl rfl rfl rfl ?_
        refine L_skip rfl rfl rfl rfl rfl rfl rfl ?_
        refine L_q rfl rfl rfl (by first | exact q_pickT rfl rfl | exact q_pickF rfl rfl) ?_
        refine L_q rfl rfl rfl (q_move rfl) ?_
        refine L_skip rfl rfl rfl rfl rfl rfl rfl ?_
        refine L_skip rfl rfl rfl rfl rfl rfl rfl ?_
        refine L_skip rfl rfl rfl rfl rfl rfl rfl ?_
        refine L_skip rfl rfl rfl rfl rfl rfl rfl ?_
        refine L_q rfl rfl rfl (by first | exact q_pickT rfl rfl | exact q_pickF rfl rfl) ?_
        refine L_q rfl rfl rfl (q_move rfl) ?_
        refine L_skip rfl rfl rfl rfl rfl rfl rfl ?_
        refine L_skip rfl rfl rfl rfl rfl rfl rfl ?_
        refine L_skip rfl rfl rfl rfl rfl rfl rfl ?_
        refine L_skip rfl rfl rfl rfl rfl rfl rfl ?_
        refine L_skip rfl rfl rfl rfl rfl rfl rfl ?_
        refine L_q rfl rfl rfl (by first | exact q_pickT rfl rfl | exact q_pickF rfl rfl) ?_
        refine L_then ?_
        refine C_true rfl ?_
        refine C_seq ?_
        refine C_region ?_
        refine L_q rfl rfl rfl (q_assign rfl) ?_
        refine L_then ?_
        refine C_ret ?_
        exact ret_of (res1 rfl rfl) sub_nil (by intro r hr; cases hr) ⟨rfl, rfl⟩
      · -- t38 False
        have hb9 := Decidable.not_not.1 hb; obtain ⟨_, H, HR, hz⟩ := bothE_ok hb9; have hgl := H.gl; have hll := H.ll; have hTe := H.e ls.length (Nat.le_refl _); have hbrn := HR.br
        refine L_qg rfl rfl rfl rfl rfl rfl rfl (q_loadA tb rfl rfl bxo rfl rfl) ?_
        refine L_callg tb rfl rfl rfl rfl rfl rfl (ct_shotlineref02_Seconds nm sf v u gs ls H) (ps_cons (by first | exact gvo | exact gvd gvo (by omega)) (ps_cons (by first | exact gvo | exact gvd gvo (by omega)) no_ps)) rfl ?_
        refine L_qg rfl rfl rfl rfl rfl rfl rfl (q_gtr rfl rfl) ?_
        refine L_q rfl rfl rfl (by first | exact q_pickT rfl rfl | exact q_pickF rfl rfl) ?_
        refine L_q rfl rfl rfl (q_move rfl) ?_
        refine L_dec (d := 43) rfl (fun hT4 => ?_) (fun hT4 => ?_)
        · -- t43 True
          refine L_skip rfl rfl rfl rfl rfl rfl rfl ?_
          refine L_skip rfl rfl rfl rfl rfl rfl rfl ?_
          refine L_skip rfl rfl rfl rfl rfl rfl rfl ?_
          refine L_skip rfl rfl rfl rfl rfl rfl rfl ?_
          refine L_q rfl rfl rfl (by first | exact q_pickT rfl rfl | exact q_pickF rfl rfl) ?_
          refine L_q rfl rfl rfl (q_move rfl) ?_
          refine L_skip rfl rfl rfl rfl rfl rfl rfl ?_
          refine L_skip rfl rfl rfl rfl rfl rfl rfl ?_
          refine L_skip rfl rfl rfl rfl rfl rfl rfl ?_
          refine L_skip rfl rfl rfl rfl rfl rfl rfl ?_
          refine L_skip rfl rfl rfl rfl rfl rfl rfl ?_
          refine L_q rfl rfl rfl (by first | exact q_pickT rfl rfl | exact q_pickF rfl rfl) ?_
          refine L_then ?_
          refine C_true rfl ?_
          refine C_seq ?_
          refine C_region ?_
          refine L_q rfl rfl rfl (q_assign rfl) ?_
          refine L_then ?_
          refine C_ret ?_
          exact ret_of (res1 rfl rfl) sub_nil (by intro r hr; cases hr) ⟨rfl, rfl⟩
        · -- t43 False
          refine L_qg rfl rfl rfl rfl rfl rfl rfl (q_field tb rfl rfl rfl) ?_
          refine L_qg rfl rfl rfl rfl rfl rfl rfl (q_load tb rfl rfl bxo rfl) ?_
          refine L_qg rfl rfl rfl rfl rfl rfl rfl (q_len tb rfl rfl (by first | exact gvo | exact gvd gvo (by omega))) ?_
          refine L_qg rfl rfl rfl rfl rfl rfl rfl (q_eql rfl rfl) ?_
          refine L_q rfl rfl rfl (by first | exact q_pickT rfl rfl | exact q_pickF rfl rfl) ?_
          refine L_q rfl rfl rfl (q_move rfl) ?_
          refine L_dec (d := 49) rfl (fun hl0 => ?_) (fun hl0 => ?_)
          · -- t49 True
            refine L_skip rfl rfl rfl rfl rfl rfl rfl ?_
            refine L_skip rfl rfl rfl rfl rfl rfl rfl ?_
            refine L_skip rfl rfl rfl rfl rfl rfl rfl ?_
            refine L_skip rfl rfl rfl rfl rfl rfl rfl ?_
            refine L_skip rfl rfl rfl rfl rfl rfl rfl ?_
            refine L_q rfl rfl rfl (by first | exact q_pickT rfl rfl | exact q_pickF rfl rfl) ?_
            refine L_then ?_
            refine C_true rfl ?_
            refine C_seq ?_
            refine C_region ?_
            refine L_q rfl rfl rfl (q_assign rfl) ?_
            refine L_then ?_
            refine C_ret ?_
            exact ret_of (res1 rfl rfl) sub_nil (by intro r hr; cases hr) ⟨rfl, rfl⟩
          · -- t49 False
            refine L_qg rfl rfl rfl rfl rfl rfl rfl (q_move rfl) ?_
            refine L_qg rfl rfl rfl rfl rfl rfl rfl (q_loadA tb rfl rfl bxo rfl rfl) ?_
            refine L_callg tb rfl rfl rfl rfl rfl rfl (ct_shotlineref02_Seconds nm sf v u gs ls H) (ps_cons (by first | exact gvo | exact gvd gvo (by omega)) (ps_cons (by first | exact gvo | exact gvd gvo (by omega)) no_ps)) rfl ?_
            refine L_callg tb rfl rfl rfl rfl rfl rfl (ct_shotlinebase_Within _ _ _) no_ps rfl ?_
            refine L_qg rfl rfl rfl rfl rfl rfl rfl (q_not rfl (by first | exact (rfl : (!true) = false) | exact (rfl : (!false) = true) | exact decide_not.symm | rfl)) ?_
            refine L_q rfl rfl rfl (by first | exact q_pickT rfl rfl | exact q_pickF rfl rfl) ?_
            refine L_then ?_
            refine C_dec rfl (fun hs => ?_) (fun hs => ?_)
            · -- t55 True
              refine C_seq ?_
              refine C_region ?_
              refine L_q rfl rfl rfl (q_assign rfl) ?_
              refine L_then ?_
              refine C_ret ?_
              exact ret_of (res1 rfl rfl) sub_nil (by intro r hr; cases hr) ⟨rfl, rfl⟩
            · -- t55 False
              obtain ⟨σ, rfl⟩ : ∃ σ : Nat, n = (σ : Int) := ⟨n.toNat, by omega⟩
              have h1 : (σ : Int) ≤ secAt ls ls.length := by omega
              have h0 : 0 < ls.length := by omega
              have htold := toldE_3 hb9 (show ¬ secAt ls ls.length > 20000 by omega)
              obtain ⟨hk1, hk2, hk3⟩ := kAt_in H h0 h1
              have hg9 : 0 ≤ gN ls σ ∧ gN ls σ ≤ gs.length - 1 := (H.at hk1).g
              have hcr := both_ru hb9; have hdr := dpH_m H h0 h1; have hkz : secAt ls (kAt ls σ) ≤ (σ : Int) := by
                rcases hk3 with h9 | h9
                · omega
                · rw [h9]; show (0 : Int) ≤ _; omega
              have hsu9 := secAt_succ ls (kAt ls σ)
              have hdd := dpM_in (H.le hk1) (s := (σ : Int) - secAt ls (kAt ls σ)) (by show 0 ≤ (σ : Int) - secAt ls (kAt ls σ) ∧ (σ : Int) - secAt ls (kAt ls σ) ≤ (dlAt ls (kAt ls σ)).s; omega)
              rw [← hdr] at hdd
              have hes := escM_in2 (sf := sf) HR H.sf hdd
              have hrl : ((resM r sf gs ls).map cSw).length = gs.length := by rw [List.length_map, resM_len]
              have hcl : ((consK gs.length ls (amtT sf gs ls r.br (σ : Int)) ls.length).map cI).length = gs.length := by rw [List.length_map, consK_len]
              obtain ⟨y, hy⟩ := get_some (resM r sf gs ls) (k := (gN ls σ).toNat) (by rw [resM_len]; omega)
              obtain ⟨u9, hu9⟩ := get_some (consK gs.length ls (amtT sf gs ls r.br (σ : Int)) ls.length) (k := (gN ls σ).toNat) (by rw [consK_len]; omega)
              have hey := map_get cSw hy; have heu := map_get cI hu9
              have hin9 : ∀ x ∈ consK gs.length ls (amtT sf gs ls r.br (σ : Int)) ls.length, 0 ≤ x ∧ x ≤ 100000000000000 := fun x hx => by
                obtain ⟨j, hj⟩ := List.getElem?_of_mem hx
                have := consK_in (n := gs.length) (ls := ls) (amt := amtT sf gs ls r.br (σ : Int)) (A := 51833333334) (by omega) ls.length (fun i hi => amtT_in H HR.br (by omega) hi) _ _ hj
                omega
              have hsn := (sumT_in hin9 (consK gs.length ls (amtT sf gs ls r.br (σ : Int)) ls.length).length).1
              have hyn := ent_nn H HR (by omega) hy; have hyu := ent_up H HR (by omega) hy; have hun := hin9 _ (List.mem_of_getElem? hu9); have hleft := bf_left H h0 h1 hy hu9
              refine C_skip_then ?_
              refine C_seq ?_
              refine C_draw (n := 10) [(0, false), (2, false), (1, true), (3, true), (4, true), (5, false), (6, false), (7, false), (8, false), (9, false)] mixed (by kernel_rfl) ?_
              refine W_q rfl rfl rfl rfl (q_loadA tb rfl rfl bxo rfl rfl) ?_
              refine W_q rfl rfl rfl rfl (q_loadA tb rfl rfl bxo rfl rfl) ?_
              refine W_lo rfl rfl rfl rfl (lo_call tb rfl rfl (ct_shotlinebase_CopyPlan nm sf v u gs ls (by omega) (by omega)) (ps_cons (by first | exact gvo | exact gvd gvo (by omega)) (ps_cons (by first | exact gvo | exact gvd gvo (by omega)) no_ps)) (by rintro y rs ⟨a, b, _, rfl⟩ r hr; simp only [List.mem_cons, List.not_mem_nil, or_false] at hr; rcases hr with rfl | rfl <;> exact sl_sinks _ _ _ _)) ?_
              rintro _ _ ⟨a58, b58, rfl, rfl⟩
              refine W_lo rfl rfl rfl rfl (lo_call tb rfl rfl (ct_shotlineref05_Copy t r (by omega)) (ps_cons (by first | exact gvo | exact gvd gvo (by omega)) no_ps) (by rintro y rs ⟨a, _, rfl⟩ r hr; rw [List.mem_singleton.1 hr]; exact sl_sinks _ _ _ _)) ?_
              rintro _ _ ⟨a60, rfl, rfl⟩
              refine W_callSN tb rfl rfl rfl rfl (ct_exposure_Reserves a60 r nm sf a58 b58 gs ls (by omega) (by omega) (by omega) (by omega)) (ps_cons (by first | exact gvo | exact gvd gvo (by omega)) (ps_cons (by first | exact gvo | exact gvd gvo (by omega)) (ps_cons (by first | exact gvo | exact gvd gvo (by omega)) no_ps))) rfl fun v61 => ?_
              rw [reE_2 htold]
              dsimp only
              refine W_q rfl rfl rfl rfl (q_move rfl) ?_
              refine W_q rfl rfl rfl rfl (q_ext0 rfl) ?_
              refine W_q rfl rfl rfl rfl (q_ext1 rfl) ?_
              refine W_q rfl rfl rfl rfl (q_assign rfl) ?_
              refine W_q rfl rfl rfl rfl (q_assign rfl) ?_
              refine W_nil ?_
              refine L_then ?_
              refine C_seq ?_
              refine C_region ?_
              refine L_q rfl rfl rfl (q_loadA tb rfl rfl bxo rfl rfl) ?_
              refine L_lo rfl rfl rfl (lo_call tb rfl rfl (ct_shotlinebase_CopyPlan nm sf v u gs ls (by omega) (by omega)) (ps_cons (by first | exact gvo | exact gvd gvo (by omega)) (ps_cons (by first | exact gvo | exact gvd gvo (by omega)) no_ps)) (by rintro y rs ⟨a, b, _, rfl⟩ r hr; simp only [List.mem_cons, List.not_mem_nil, or_false] at hr; rcases hr with rfl | rfl <;> exact sl_sinks _ _ _ _)) ?_
              rintro _ _ ⟨a66, b66, rfl, rfl⟩
              refine L_q rfl rfl rfl (q_move rfl) ?_
              refine L_call tb rfl rfl (ct_profile_GasAt nm sf a66 b66 gs ls (by omega) (by omega) (by omega) H hz σ h1 h0) (ps_cons (by first | exact gvo | exact gvd gvo (by omega)) (ps_cons (by first | exact gvo | exact gvd gvo (by omega)) no_ps)) rfl ?_
              refine L_q rfl rfl rfl (q_move rfl) ?_
              refine L_q rfl rfl rfl (q_ext0 rfl) ?_
              refine L_q rfl rfl rfl (q_ext1 rfl) ?_
              refine L_q rfl rfl rfl (q_assign rfl) ?_
              refine L_q rfl rfl rfl (q_assign rfl) ?_
              refine L_then ?_
              refine C_seq ?_
              refine C_region ?_
              refine L_q rfl rfl rfl (q_loadA tb rfl rfl bxo rfl rfl) ?_
              refine L_lo rfl rfl rfl (lo_call tb rfl rfl (ct_shotlinebase_CopyPlan nm sf v u gs ls (by omega) (by omega)) (ps_cons (by first | exact gvo | exact gvd gvo (by omega)) (ps_cons (by first | exact gvo | exact gvd gvo (by omega)) no_ps)) (by rintro y rs ⟨a, b, _, rfl⟩ r hr; simp only [List.mem_cons, List.not_mem_nil, or_false] at hr; rcases hr with rfl | rfl <;> exact sl_sinks _ _ _ _)) ?_
              rintro _ _ ⟨a73, b73, rfl, rfl⟩
              refine L_q rfl rfl rfl (q_move rfl) ?_
              refine L_call tb rfl rfl (ct_profile_DepthAt nm sf a73 b73 gs ls (by omega) (by omega) (by omega) H hz σ h1 h0) (ps_cons (by first | exact gvo | exact gvd gvo (by omega)) (ps_cons (by first | exact gvo | exact gvd gvo (by omega)) no_ps)) rfl ?_
              refine L_q rfl rfl rfl (q_move rfl) ?_
              refine L_q rfl rfl rfl (q_ext0 rfl) ?_
              refine L_q rfl rfl rfl (q_ext1 rfl) ?_
              refine L_alloc tb rfl rfl fun g11 => ?_
              first | refine L_store tb rfl rfl rfl rfl rfl rfl rfl rfl ?_ | (refine L_front1 ?_; refine L_store tb rfl rfl rfl rfl rfl rfl rfl rfl ?_) | (refine L_front2 ?_; refine L_store tb rfl rfl rfl rfl rfl rfl rfl rfl ?_) | (refine L_front3 ?_; refine L_store tb rfl rfl rfl rfl rfl rfl rfl rfl ?_) | (refine L_front4 ?_; refine L_store tb rfl rfl rfl rfl rfl rfl rfl rfl ?_) | (refine L_front5 ?_; refine L_store tb rfl rfl rfl rfl rfl rfl rfl rfl ?_) | (refine L_front6 ?_; refine L_store tb rfl rfl rfl rfl rfl rfl rfl rfl ?_)
              refine L_q rfl rfl rfl (q_assign rfl) ?_
              refine L_then ?_
              refine C_seq ?_
              refine C_draw (n := 11) [(0, false), (2, false), (3, false), (4, false), (1, true), (5, true), (6, false), (7, false), (8, false), (9, false), (10, false)] mixed (by kernel_rfl) ?_
              refine W_q rfl rfl rfl rfl (q_loadA tb rfl rfl bxo rfl rfl) ?_
              refine W_q rfl rfl rfl rfl (q_field tb rfl rfl rfl) ?_
              refine W_q rfl rfl rfl rfl (q_load tb rfl rfl bxo rfl) ?_
              refine W_q rfl rfl rfl rfl (q_move rfl) ?_
              refine W_lo rfl rfl rfl rfl (lo_call tb rfl rfl (ct_shotlinebase_CopyPlan nm sf v u gs ls (by omega) (by omega)) (ps_cons (by first | exact gvo | exact gvd gvo (by omega)) (ps_cons (by first | exact gvo | exact gvd gvo (by omega)) no_ps)) (by rintro y rs ⟨a, b, _, rfl⟩ r hr; simp only [List.mem_cons, List.not_mem_nil, or_false] at hr; rcases hr with rfl | rfl <;> exact sl_sinks _ _ _ _)) ?_
              rintro _ _ ⟨a80, b80, rfl, rfl⟩
              refine W_callSN tb rfl rfl rfl rfl (ct_exposure_ConsumedAt nm sf a80 b80 gs ls (by omega) (by omega) (by omega) r.br (σ : Int)) (ps_cons (by first | exact gvo | exact gvd gvo (by omega)) (ps_cons (by first | exact gvo | exact gvd gvo (by omega)) no_ps)) rfl fun v84 => ?_
              rw [traceE_5 hz (by omega) (by omega) (by omega)]
              dsimp only
              refine W_q rfl rfl rfl rfl (q_move rfl) ?_
              refine W_q rfl rfl rfl rfl (q_ext0 rfl) ?_
              refine W_q rfl rfl rfl rfl (q_ext1 rfl) ?_
              refine W_q rfl rfl rfl rfl (q_assign rfl) ?_
              refine W_q rfl rfl rfl rfl (q_assign rfl) ?_
              refine W_nil ?_
              refine L_then ?_
              refine C_seq ?_
              refine C_seq ?_
              refine C_region ?_
              refine L_q rfl rfl rfl (q_move rfl) ?_
              refine L_q rfl rfl rfl (q_false (q_neq rfl rfl) (by simp)) ?_
              refine L_q rfl rfl rfl (q_move rfl) ?_
              refine L_qg rfl rfl rfl rfl rfl rfl rfl (q_move rfl) ?_
              refine L_qg rfl rfl rfl rfl rfl rfl rfl (q_false (q_neq rfl rfl) (by simp)) ?_
              refine L_q rfl rfl rfl (by first | exact q_pickT rfl rfl | exact q_pickF rfl rfl) ?_
              refine L_q rfl rfl rfl (q_move rfl) ?_
              refine L_qg rfl rfl rfl rfl rfl rfl rfl (q_move rfl) ?_
              refine L_qg rfl rfl rfl rfl rfl rfl rfl (q_false (q_neq rfl rfl) (by simp)) ?_
              refine L_q rfl rfl rfl (by first | exact q_pickT rfl rfl | exact q_pickF rfl rfl) ?_
              refine L_q rfl rfl rfl (q_move rfl) ?_
              refine L_qg rfl rfl rfl rfl rfl rfl rfl (q_move rfl) ?_
              refine L_qg rfl rfl rfl rfl rfl rfl rfl (q_false (q_neq rfl rfl) (by simp)) ?_
              refine L_q rfl rfl rfl (by first | exact q_pickT rfl rfl | exact q_pickF rfl rfl) ?_
              refine L_q rfl rfl rfl (q_move rfl) ?_
              refine L_qg rfl rfl rfl rfl rfl rfl rfl (q_move rfl) ?_
              refine L_qg rfl rfl rfl rfl rfl rfl rfl (q_len tb rfl rfl (by first | exact gvo | exact gvd gvo (by omega))) ?_
              refine L_qg rfl rfl rfl rfl rfl rfl rfl (q_field tb rfl rfl rfl) ?_
              refine L_qg rfl rfl rfl rfl rfl rfl rfl (q_load tb rfl rfl bxo rfl) ?_
              refine L_qg rfl rfl rfl rfl rfl rfl rfl (q_len tb rfl rfl (by first | exact gvo | exact gvd gvo (by omega))) ?_
              refine L_qg rfl rfl rfl rfl rfl rfl rfl (q_false (q_neq rfl rfl) (by simp [resM_len])) ?_
              refine L_q rfl rfl rfl (by first | exact q_pickT rfl rfl | exact q_pickF rfl rfl) ?_
              refine L_q rfl rfl rfl (q_move rfl) ?_
              refine L_qg rfl rfl rfl rfl rfl rfl rfl (q_move rfl) ?_
              refine L_qg rfl rfl rfl rfl rfl rfl rfl (q_len tb rfl rfl (by first | exact gvo | exact gvd gvo (by omega))) ?_
              refine L_qg rfl rfl rfl rfl rfl rfl rfl (q_field tb rfl rfl rfl) ?_
              refine L_qg rfl rfl rfl rfl rfl rfl rfl (q_load tb rfl rfl bxo rfl) ?_
              refine L_qg rfl rfl rfl rfl rfl rfl rfl (q_len tb rfl rfl (by first | exact gvo | exact gvd gvo (by omega))) ?_
              refine L_qg rfl rfl rfl rfl rfl rfl rfl (q_false (q_neq rfl rfl) (by simp [consK_len])) ?_
              refine L_q rfl rfl rfl (by first | exact q_pickT rfl rfl | exact q_pickF rfl rfl) ?_
              refine L_q rfl rfl rfl (q_move rfl) ?_
              refine L_qg rfl rfl rfl rfl rfl rfl rfl (q_move rfl) ?_
              refine L_qg rfl rfl rfl rfl rfl rfl rfl (q_move rfl) ?_
              refine L_qg rfl rfl rfl rfl rfl rfl rfl (q_len tb rfl rfl (by first | exact gvo | exact gvd gvo (by omega))) ?_
              refine L_qg rfl rfl rfl rfl rfl rfl rfl (q_sub rfl rfl (by first | exact IntWalk.i64_in _ (by omega) | rfl)) ?_
              refine L_callg tb rfl rfl rfl rfl rfl rfl (ct_shotlinebase_Within _ _ _) no_ps rfl ?_
              refine L_qg rfl rfl rfl rfl rfl rfl rfl (q_not rfl (by first | exact (rfl : (!true) = false) | exact (rfl : (!false) = true) | exact decide_not.symm | rfl)) ?_
              refine L_q rfl rfl rfl (by first | exact q_pickT rfl rfl | exact q_pickF rfl rfl) ?_
              refine L_q rfl rfl rfl (q_move rfl) ?_
              refine L_dec (d := 125) rfl (fun h13 => ?_) (fun h13 => ?_)
              · -- t125 True
                exfalso; omega
              · -- t125 False
                refine L_qg rfl rfl rfl rfl rfl rfl rfl (q_move rfl) ?_
                refine L_callg tb rfl rfl rfl rfl rfl rfl (ct_shotlinetop_sumOf v84 (consK gs.length ls (amtT sf gs ls r.br (σ : Int)) ls.length) (by rw [consK_len]; omega) hin9) (ps_cons (by first | exact gvo | exact gvd gvo (by omega)) no_ps) rfl ?_
                refine L_qg rfl rfl rfl rfl rfl rfl rfl (q_lss rfl rfl) ?_
                refine L_q rfl rfl rfl (by first | exact q_pickT rfl rfl | exact q_pickF rfl rfl) ?_
                refine L_then ?_
                refine C_dec rfl (fun h14 => ?_) (fun h14 => ?_)
                · -- t129 True
                  exfalso; omega
                · -- t129 False
                  refine C_skip_then ?_
                  refine C_seq ?_
                  refine C_draw (n := 12) [(0, false), (2, false), (3, false), (4, false), (5, false), (1, true), (6, true), (7, false), (8, false), (9, false), (10, false), (11, false)] mixed (by kernel_rfl) ?_
                  refine W_q rfl rfl rfl rfl (q_loadA tb rfl rfl bxo rfl rfl) ?_
                  refine W_q rfl rfl rfl rfl (q_field tb rfl rfl rfl) ?_
                  refine W_q rfl rfl rfl rfl (q_load tb rfl rfl bxo rfl) ?_
                  refine W_q rfl rfl rfl rfl (q_field tb rfl rfl rfl) ?_
                  refine W_q rfl rfl rfl rfl (q_load tb rfl rfl bxo rfl) ?_
                  refine W_lo rfl rfl rfl rfl (lo_call tb rfl rfl (ct_shotlineref05_Copy t r (by omega)) (ps_cons (by first | exact gvo | exact gvd gvo (by omega)) no_ps) (by rintro y rs ⟨a, _, rfl⟩ r hr; rw [List.mem_singleton.1 hr]; exact sl_sinks _ _ _ _)) ?_
                  rintro _ _ ⟨a132, rfl, rfl⟩
                  refine W_call tb rfl rfl rfl rfl (ct_exposure_EscapeFrom a132 r sf (dpH ls σ) (by omega)) (ps_cons (by first | exact gvo | exact gvd gvo (by omega)) no_ps) rfl ?_
                  rw [escE_3 hcr ⟨H.sf.1, H.sf.2, hdd.1, hdd.2⟩]
                  dsimp only
                  refine W_q rfl rfl rfl rfl (q_move rfl) ?_
                  refine W_q rfl rfl rfl rfl (q_ext0 rfl) ?_
                  refine W_q rfl rfl rfl rfl (q_ext1 rfl) ?_
                  refine W_q rfl rfl rfl rfl (q_assign rfl) ?_
                  refine W_q rfl rfl rfl rfl (q_assign rfl) ?_
                  refine W_nil ?_
                  refine L_then ?_
                  refine C_seq ?_
                  refine C_seq ?_
                  refine C_draw (n := 21) [(0, false), (1, false), (2, false), (3, false), (4, true), (5, false), (6, false), (7, false), (8, false), (9, false), (10, false), (11, false), (12, false), (13, false), (14, false), (15, false), (16, false), (17, false), (18, false), (19, false), (20, false)] mixed (by kernel_rfl) ?_
                  refine W_q rfl rfl rfl rfl (q_move rfl) ?_
                  refine W_q rfl rfl rfl rfl (q_false (q_neq rfl rfl) (by simp)) ?_
                  refine W_q rfl rfl rfl rfl (q_move rfl) ?_
                  refine W_qg rfl rfl rfl rfl rfl rfl rfl rfl (q_move rfl) ?_
                  refine W_callg tb rfl rfl rfl rfl rfl rfl rfl rfl (ct_shotlinebase_Within _ _ _) no_ps rfl ?_
                  refine W_qg rfl rfl rfl rfl rfl rfl rfl rfl (q_not rfl (by first | exact (rfl : (!true) = false) | exact (rfl : (!false) = true) | exact decide_not.symm | rfl)) ?_
                  refine W_q rfl rfl rfl rfl (by first | exact q_pickT rfl rfl | exact q_pickF rfl rfl) ?_
                  refine W_q rfl rfl rfl rfl (q_move rfl) ?_
                  refine W_dec (d := 147) rfl (fun h15 => ?_) (fun h15 => ?_)
                  · -- t147 True
                    exfalso; omega
                  · -- t147 False
                    refine W_qg rfl rfl rfl rfl rfl rfl rfl rfl (q_move rfl) ?_
                    refine W_qg rfl rfl rfl rfl rfl rfl rfl rfl (q_move rfl) ?_
                    refine W_qg rfl rfl rfl rfl rfl rfl rfl rfl (by first | exact q_index tb rfl rfl rfl rfl (by first | exact gvo | exact gvd gvo (by omega)) (by omega) (by first | omega | (simp; done) | (simp; omega)) | exact q_indexP tb rfl rfl rfl rfl (by omega) (by omega)) ?_
                    refine W_qg rfl rfl rfl rfl rfl rfl rfl rfl (q_fieldE tb rfl rfl rfl (by first | exact gvo | exact gvd gvo (by omega)) (by first | omega | (simp; done) | (simp; omega))) ?_
                    refine W_qg rfl rfl rfl rfl rfl rfl rfl rfl (q_loadE tb rfl rfl (by first | exact gvo | exact gvd gvo (by omega)) (i := (gN ls σ).toNat) (o := 0) (by omega) hey rfl) ?_
                    refine W_qg rfl rfl rfl rfl rfl rfl rfl rfl (q_move rfl) ?_
                    refine W_qg rfl rfl rfl rfl rfl rfl rfl rfl (q_move rfl) ?_
                    refine W_qg rfl rfl rfl rfl rfl rfl rfl rfl (by first | exact q_index tb rfl rfl rfl rfl (by first | exact gvo | exact gvd gvo (by omega)) (by omega) (by first | omega | (simp; done) | (simp; omega)) | exact q_indexP tb rfl rfl rfl rfl (by omega) (by omega)) ?_
                    refine W_qg rfl rfl rfl rfl rfl rfl rfl rfl (q_loadE tb rfl rfl (by first | exact gvo | exact gvd gvo (by omega)) (i := (gN ls σ).toNat) (o := 0) (by omega) heu rfl) ?_
                    refine W_qg rfl rfl rfl rfl rfl rfl rfl rfl (q_sub rfl rfl (by first | exact IntWalk.i64_in _ (by omega) | rfl)) ?_
                    refine W_qg rfl rfl rfl rfl rfl rfl rfl rfl (q_move rfl) ?_
                    refine W_qg rfl rfl rfl rfl rfl rfl rfl rfl (q_lss rfl rfl) ?_
                    refine W_q rfl rfl rfl rfl (by first | exact q_pickT rfl rfl | exact q_pickF rfl rfl) ?_
                    refine W_nil ?_
                    refine L_then ?_
                    refine C_dec rfl (fun h16 => ?_) (fun h16 => ?_)
                    · -- t160 True
                      exfalso; omega
                    · -- t160 False
                      rcases Decidable.em (dpL ls σ = dpH ls σ) with hw | hw
                      · -- case 0
                        refine C_skip_then ?_
                        refine C_seq ?_
                        refine C_region ?_
                        refine L_q rfl rfl rfl (q_loadA tb rfl rfl bxo rfl rfl) ?_
                        refine L_lo rfl rfl rfl (lo_call tb rfl rfl (ct_shotlinebase_CopyPlan nm sf v u gs ls (by omega) (by omega)) (ps_cons (by first | exact gvo | exact gvd gvo (by omega)) (ps_cons (by first | exact gvo | exact gvd gvo (by omega)) no_ps)) (by rintro y rs ⟨a, b, _, rfl⟩ r hr; simp only [List.mem_cons, List.not_mem_nil, or_false] at hr; rcases hr with rfl | rfl <;> exact sl_sinks _ _ _ _)) ?_
                        rintro _ _ ⟨a163, b163, rfl, rfl⟩
                        refine L_q rfl rfl rfl (q_move rfl) ?_
                        refine L_lo rfl rfl rfl (lo_call tb rfl rfl (ct_Before_yes nm sf a163 b163 gs ls (by omega) (by omega) (by omega) H hz σ h1 h0 hw) (ps_cons (by first | exact gvo | exact gvd gvo (by omega)) (ps_cons (by first | exact gvo | exact gvd gvo (by omega)) no_ps)) (by rintro y rs ⟨a, b, _, rfl⟩ r hr; simp only [List.mem_cons, List.not_mem_nil, or_false] at hr; rcases hr with rfl | rfl <;> exact sl_sinks _ _ _ _)) ?_
                        rintro _ _ ⟨a165, b165, rfl, rfl⟩
                        refine L_q rfl rfl rfl (q_move rfl) ?_
                        refine L_form (v := a165) gvo (fun A165 c165 hv165 _ => ?_)
                        subst hv165
                        refine L_form (v := b165) gvo (fun B165 d165 hw165 _ => ?_)
                        subst hw165
                        refine L_q rfl rfl rfl (q_ext0 rfl) ?_
                        refine L_q rfl rfl rfl (q_ext1 rfl) ?_
                        refine L_alloc tb rfl rfl fun g17 => ?_
                        first | refine L_store tb rfl rfl rfl rfl rfl rfl rfl rfl ?_ | (refine L_front1 ?_; refine L_store tb rfl rfl rfl rfl rfl rfl rfl rfl ?_) | (refine L_front2 ?_; refine L_store tb rfl rfl rfl rfl rfl rfl rfl rfl ?_) | (refine L_front3 ?_; refine L_store tb rfl rfl rfl rfl rfl rfl rfl rfl ?_) | (refine L_front4 ?_; refine L_store tb rfl rfl rfl rfl rfl rfl rfl rfl ?_) | (refine L_front5 ?_; refine L_store tb rfl rfl rfl rfl rfl rfl rfl rfl ?_) | (refine L_front6 ?_; refine L_store tb rfl rfl rfl rfl rfl rfl rfl rfl ?_)
                        refine L_q rfl rfl rfl (q_assign rfl) ?_
                        refine L_then ?_
                        refine C_seq ?_
                        refine C_seq ?_
                        refine C_region ?_
                        refine L_q rfl rfl rfl (q_move rfl) ?_
                        refine L_q rfl rfl rfl (q_false (q_neq rfl rfl) (by simp)) ?_
                        refine L_then ?_
                        refine C_false rfl ?_
                        have hb2 := bf_ok H h0 h1 hw hb9; have hse9 := bf_sec H h0 h1; have htold2 := toldE_3 hb2 (show ¬ secAt (bfL ls σ) (bfL ls σ).length > 20000 by omega); have hbl := bf_len H h0 h1
                        have hrl2 : ((resM r sf gs (bfL ls σ)).map cSw).length = gs.length := by rw [List.length_map, resM_len]
                        refine C_skip_then ?_
                        refine C_seq ?_
                        refine C_draw (n := 9) [(0, false), (1, false), (2, true), (3, true), (4, false), (5, false), (6, false), (7, false), (8, false)] mixed (by kernel_rfl) ?_
                        refine W_q rfl rfl rfl rfl (q_loadA tb rfl rfl bxo rfl rfl) ?_
                        refine W_q rfl rfl rfl rfl (q_loadA tb rfl rfl bxo rfl rfl) ?_
                        refine W_lo rfl rfl rfl rfl (lo_call tb rfl rfl (ct_shotlineref05_Copy t r (by omega)) (ps_cons (by first | exact gvo | exact gvd gvo (by omega)) no_ps) (by rintro y rs ⟨a, _, rfl⟩ r hr; rw [List.mem_singleton.1 hr]; exact sl_sinks _ _ _ _)) ?_
                        rintro _ _ ⟨a175, rfl, rfl⟩
                        refine W_callSN tb rfl rfl rfl rfl (ct_exposure_Reserves a175 r nm sf (.slice A165 (gs.map cGs).length c165) (.slice B165 ((bfL ls σ).map cDl).length d165) gs (bfL ls σ) (by omega) (by omega) (by omega) (by omega)) (ps_cons (by first | exact gvo | exact gvd gvo (by omega)) (ps_cons (by first | exact gvo | exact gvd gvo (by omega)) (ps_cons (by first | exact gvo | exact gvd gvo (by omega)) no_ps))) rfl fun v176 => ?_
                        rw [reE_2 htold2]
                        dsimp only
                        refine W_q rfl rfl rfl rfl (q_move rfl) ?_
                        refine W_q rfl rfl rfl rfl (q_ext0 rfl) ?_
                        refine W_q rfl rfl rfl rfl (q_ext1 rfl) ?_
                        refine W_q rfl rfl rfl rfl (q_assign rfl) ?_
                        refine W_q rfl rfl rfl rfl (q_assign rfl) ?_
                        refine W_nil ?_
                        refine L_then ?_
                        refine C_seq ?_
                        refine C_seq ?_
                        refine C_region ?_
                        refine L_q rfl rfl rfl (q_move rfl) ?_
                        refine L_q rfl rfl rfl (q_false (q_neq rfl rfl) (by simp)) ?_
                        refine L_q rfl rfl rfl (q_move rfl) ?_
                        refine L_qg rfl rfl rfl rfl rfl rfl rfl (q_move rfl) ?_
                        refine L_qg rfl rfl rfl rfl rfl rfl rfl (q_len tb rfl rfl (by first | exact gvo | exact gvd gvo (by omega))) ?_
                        refine L_qg rfl rfl rfl rfl rfl rfl rfl (q_move rfl) ?_
                        refine L_qg rfl rfl rfl rfl rfl rfl rfl (q_len tb rfl rfl (by first | exact gvo | exact gvd gvo (by omega))) ?_
                        refine L_qg rfl rfl rfl rfl rfl rfl rfl (q_false (q_neq rfl rfl) (by simp [resM_len])) ?_
                        refine L_q rfl rfl rfl (by first | exact q_pickT rfl rfl | exact q_pickF rfl rfl) ?_
                        refine L_then ?_
                        refine C_false rfl ?_
                        refine C_skip_then ?_
                        refine C_seq ?_
                        refine C_seq ?_
                        refine C_region ?_
                        refine L_q rfl rfl rfl (q_assign rfl) ?_
                        refine L_then ?_
                        refine C_block ?_
                        refine C_loop (ι := Nat) (fun k => ([(7, v61), (19, v176), (21, .int .i64 (k : Int))], [sl v61 109 2 ((resM r sf gs ls).map cSw), sl v176 109 2 ((resM r sf gs (bfL ls σ)).map cSw)])) (fun k => k ≤ gs.length) (fun k => gs.length - k) 0 (Nat.zero_le _) (fun a w hs => hs.weak ⟨rfl, rfl, rfl, trivial⟩ (fun h => h.pk (by repeat (first | with_reducible exact pk_nil | refine pk_box rfl ?_ | refine pk_rd rfl ?_ | refine pk_sl rfl ?_ | with_reducible refine pk_app ?_ | with_reducible refine pk_app0 ?_ | with_reducible refine pk_app0L ?_ | with_reducible exact pk_tl | refine pk_var ?_)))) ?_
                        intro k hk8
                        dsimp only at hk8 ⊢
                        refine C_seq ?_
                        refine C_seq ?_
                        refine C_region ?_
                        refine L_q rfl rfl rfl (q_move rfl) ?_
                        refine L_q rfl rfl rfl (q_move rfl) ?_
                        refine L_q rfl rfl rfl (q_len tb rfl rfl (by first | exact gvo | exact gvd gvo (by omega))) ?_
                        refine L_q rfl rfl rfl (q_lss rfl rfl) ?_
                        refine L_then ?_
                        refine C_dec rfl (fun h19 => ?_) (fun h19 => ?_)
                        · -- t191 True
                          obtain ⟨x, hx⟩ := get_some (resM r sf gs ls) (k := k) (by rw [resM_len]; omega); obtain ⟨z, hz9⟩ := get_some (resM r sf gs (bfL ls σ)) (k := k) (by rw [resM_len]; omega)
                          have hex := map_get cSw hx; have hez := map_get cSw hz9
                          have hres := bf_res H HR (by omega) h0 h1 hw hb9 hz9 hx
                          refine C_skip_then ?_
                          refine C_seq ?_
                          refine C_block ?_
                          refine C_seq ?_
                          refine C_draw (n := 11) [(0, false), (1, false), (2, false), (3, false), (4, false), (5, false), (6, false), (7, false), (8, false), (9, false), (10, false)] mixed (by kernel_rfl) ?_
                          refine W_q rfl rfl rfl rfl (q_move rfl) ?_
                          refine W_q rfl rfl rfl rfl (q_move rfl) ?_
                          refine W_q rfl rfl rfl rfl (by first | exact q_index tb rfl rfl rfl rfl (by first | exact gvo | exact gvd gvo (by omega)) (by omega) (by first | omega | (simp; done) | (simp; omega)) | exact q_indexP tb rfl rfl rfl rfl (by omega) (by omega)) ?_
                          refine W_q rfl rfl rfl rfl (q_fieldE tb rfl rfl rfl (by first | exact gvo | exact gvd gvo (by omega)) (by first | omega | (simp; done) | (simp; omega))) ?_
                          refine W_q rfl rfl rfl rfl (q_loadE tb rfl rfl (by first | exact gvo | exact gvd gvo (by omega)) (i := k) (o := 0) (by omega) hez rfl) ?_
                          refine W_q rfl rfl rfl rfl (q_move rfl) ?_
                          refine W_q rfl rfl rfl rfl (q_move rfl) ?_
                          refine W_q rfl rfl rfl rfl (by first | exact q_index tb rfl rfl rfl rfl (by first | exact gvo | exact gvd gvo (by omega)) (by omega) (by first | omega | (simp; done) | (simp; omega)) | exact q_indexP tb rfl rfl rfl rfl (by omega) (by omega)) ?_
                          refine W_q rfl rfl rfl rfl (q_fieldE tb rfl rfl rfl (by first | exact gvo | exact gvd gvo (by omega)) (by first | omega | (simp; done) | (simp; omega))) ?_
                          refine W_q rfl rfl rfl rfl (q_loadE tb rfl rfl (by first | exact gvo | exact gvd gvo (by omega)) (i := k) (o := 0) (by omega) hex rfl) ?_
                          refine W_q rfl rfl rfl rfl (q_gtr rfl rfl) ?_
                          refine W_nil ?_
                          refine L_then ?_
                          refine C_dec rfl (fun h20 => ?_) (fun h20 => ?_)
                          · -- t204 True
                            exfalso; omega
                          · -- t204 False
                            refine C_skip_blk ?_
                            refine C_region ?_
                            refine L_q rfl rfl rfl (q_move rfl) ?_
                            refine L_q rfl rfl rfl (q_add rfl rfl (by first | exact IntWalk.i64_in _ (by omega) | rfl)) ?_
                            refine L_q rfl rfl rfl (q_assign rfl) ?_
                            refine L_end ?_
                            exact fun ac_ wo_ hs_ => ⟨k + 1, (by dsimp only; omega), (by dsimp only; omega), hs_.weak ⟨rfl, rfl, rfl, trivial⟩ (fun h => h.pk (by repeat (first | with_reducible exact pk_nil | refine pk_box rfl ?_ | refine pk_rd rfl ?_ | refine pk_sl rfl ?_ | with_reducible refine pk_app ?_ | with_reducible refine pk_app0 ?_ | with_reducible refine pk_app0L ?_ | with_reducible exact pk_tl | refine pk_var ?_)))⟩
                        · -- t191 False
                          refine C_exit ?_
                          change C Try.prog _ _ _ _ _ _ _
                          refine C_seq ?_
                          refine C_region ?_
                          refine L_q rfl rfl rfl (q_assign rfl) ?_
                          refine L_then ?_
                          refine C_ret ?_
                          exact ret_of (res1 rfl rfl) sub_nil (by intro r hr; cases hr) ⟨rfl, rfl⟩
                      · -- case 1
                        refine C_skip_then ?_
                        refine C_seq ?_
                        refine C_region ?_
                        refine L_q rfl rfl rfl (q_loadA tb rfl rfl bxo rfl rfl) ?_
                        refine L_lo rfl rfl rfl (lo_call tb rfl rfl (ct_shotlinebase_CopyPlan nm sf v u gs ls (by omega) (by omega)) (ps_cons (by first | exact gvo | exact gvd gvo (by omega)) (ps_cons (by first | exact gvo | exact gvd gvo (by omega)) no_ps)) (by rintro y rs ⟨a, b, _, rfl⟩ r hr; simp only [List.mem_cons, List.not_mem_nil, or_false] at hr; rcases hr with rfl | rfl <;> exact sl_sinks _ _ _ _)) ?_
                        rintro _ _ ⟨a163, b163, rfl, rfl⟩
                        refine L_q rfl rfl rfl (q_move rfl) ?_
                        refine L_call tb rfl rfl (ct_Before_no nm sf a163 b163 gs ls (by omega) (by omega) (by omega) H hz σ h1 h0 hw) (ps_cons (by first | exact gvo | exact gvd gvo (by omega)) (ps_cons (by first | exact gvo | exact gvd gvo (by omega)) no_ps)) rfl ?_
                        refine L_q rfl rfl rfl (q_move rfl) ?_
                        refine L_q rfl rfl rfl (q_ext0 rfl) ?_
                        refine L_q rfl rfl rfl (q_ext1 rfl) ?_
                        refine L_alloc tb rfl rfl fun g17 => ?_
                        first | refine L_store tb rfl rfl rfl rfl rfl rfl rfl rfl ?_ | (refine L_front1 ?_; refine L_store tb rfl rfl rfl rfl rfl rfl rfl rfl ?_) | (refine L_front2 ?_; refine L_store tb rfl rfl rfl rfl rfl rfl rfl rfl ?_) | (refine L_front3 ?_; refine L_store tb rfl rfl rfl rfl rfl rfl rfl rfl ?_) | (refine L_front4 ?_; refine L_store tb rfl rfl rfl rfl rfl rfl rfl rfl ?_) | (refine L_front5 ?_; refine L_store tb rfl rfl rfl rfl rfl rfl rfl rfl ?_) | (refine L_front6 ?_; refine L_store tb rfl rfl rfl rfl rfl rfl rfl rfl ?_)
                        refine L_q rfl rfl rfl (q_assign rfl) ?_
                        refine L_then ?_
                        refine C_seq ?_
                        refine C_seq ?_
                        refine C_region ?_
                        refine L_q rfl rfl rfl (q_move rfl) ?_
                        refine L_q rfl rfl rfl (q_true (q_neq rfl rfl) (by decide)) ?_
                        refine L_then ?_
                        refine C_true rfl ?_
                        refine C_seq ?_
                        refine C_region ?_
                        refine L_q rfl rfl rfl (q_move rfl) ?_
                        refine L_q rfl rfl rfl (q_true (q_eql rfl rfl) (by simp)) ?_
                        refine L_q rfl rfl rfl (q_assign rfl) ?_
                        refine L_then ?_
                        refine C_ret ?_
                        exact ret_of (res1 rfl rfl) sub_nil (by intro r hr; cases hr) ⟨rfl, rfl⟩
end Go.Proofs.Ytolnohjbpllmhaa
