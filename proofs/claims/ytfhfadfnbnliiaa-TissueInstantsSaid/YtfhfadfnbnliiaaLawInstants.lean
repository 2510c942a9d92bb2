/-
  Walks: each function named returns what its model says. Conditions: those in front of each theorem.
-/
import Derived.Test.YtfhfadfnbnliiaaY
import Derived.Test.YtfhfadfnbnliiaaS
import Derived.Test.YtfhfadfnbnliiaaTraj5
import Derived.Test.YtfhfadfnbnliiaaShPut
namespace Go.Proofs.Ytfhfadfnbnliiaa
open Go.RowKit

set_option maxRecDepth 100000 in
set_option maxHeartbeats 4000000 in
theorem ct_shotlinelaw03_TissueInstants (v u : Value) (x : Lg) (fa : Int) (ts : List Cp) (ls : List Ld) (p q sec : Int) : Ct Try.prog 16 [.agg (cDv v u x fa).toArray, .agg #[.int .i64 p, .int .i64 q], .int .i64 sec] [(v, 4, ts.map cCp), (u, 4, ls.map cLd)] (isV (.bool true)) := by
  refine Ct.of (N := 185) Try.func16 rfl rfl rfl fun w => ?_
  refine C_weak (E' := [(0, .agg (cDv v u x fa).toArray), (1, .agg #[.int .i64 p, .int .i64 q]), (2, .int .i64 sec)]) (rs' := [rd v 4 (ts.map cCp), rd u 4 (ls.map cLd)]) ⟨rfl, rfl, rfl, trivial⟩ (fun _ h => h) ?_
  have hl1 := len_map cCp ts; have hl2 := len_map cLd ls
  refine C_seq ?_
  refine C_region ?_
  refine L_box rfl rfl rfl fun g3 => ?_
  refine L_box rfl rfl rfl fun g4 => ?_
  refine L_q rfl rfl rfl (q_assign rfl) ?_
  refine L_then ?_
  refine C_seq ?_
  refine C_seq ?_
  refine C_region ?_
  refine L_call tb rfl rfl (ct_shotlinelaw03_awake) no_ps rfl ?_
  refine L_q rfl rfl rfl (q_not rfl (by first | exact (rfl : (!true) = false) | exact (rfl : (!false) = true) | exact decide_not.symm | rfl)) ?_
  refine L_then ?_
  refine C_false rfl ?_
  refine C_skip_then ?_
  refine C_seq ?_
  refine C_seq ?_
  refine C_region ?_
  refine L_q rfl rfl rfl (by first | exact q_loadA tb rfl rfl bxo rfl rfl | exact q_loadEA tb rfl rfl (by first | exact gvo | exact gvd gvo (by omega)) (by omega) (by simp) rfl rfl) ?_
  refine L_call tb rfl rfl (ct_shotlinelaw03_small v u x fa ts ls) (ps_cons (by first | exact gvo | exact gvd gvo (by omega)) (ps_cons (by first | exact gvo | exact gvd gvo (by omega)) no_ps)) rfl ?_
  refine L_q rfl rfl rfl (q_not rfl (by first | exact (rfl : (!true) = false) | exact (rfl : (!false) = true) | exact decide_not.symm | rfl)) ?_
  refine L_q rfl rfl rfl (q_move rfl) ?_
  refine L_dec (d := 24) rfl (fun h2 => ?_) (fun h2 => ?_)
  · -- t24 True
    refine L_skip rfl rfl rfl rfl rfl rfl rfl ?_
    refine L_skip rfl rfl rfl rfl rfl rfl rfl ?_
    refine L_skip rfl rfl rfl rfl rfl rfl rfl ?_
    refine L_q rfl rfl rfl (by first | exact q_pickT rfl rfl | exact q_pickF rfl rfl) ?_
    refine L_q rfl rfl rfl (q_move rfl) ?_
    refine L_skip rfl rfl rfl rfl rfl rfl rfl ?_
    refine L_skip rfl rfl rfl rfl rfl rfl rfl ?_
    refine L_skip rfl rfl rfl rfl rfl rfl rfl ?_
    refine L_skip rfl rfl rfl rfl rfl rfl rfl ?_
    refine L_q rfl rfl rfl (by first | exact q_pickT rfl rfl | exact q_pickF rfl rfl) ?_
    refine L_q rfl rfl rfl (q_move rfl) ?_
    refine L_skip rfl rfl rfl rfl rfl rfl rfl ?_
    refine L_skip rfl rfl rfl rfl rfl rfl rfl ?_
    refine L_skip rfl rfl rfl rfl rfl rfl rfl ?_
    refine L_skip rfl rfl rfl rfl rfl rfl rfl ?_
    refine L_q rfl rfl rfl (by first | exact q_pickT rfl rfl | exact q_pickF rfl rfl) ?_
    refine L_q rfl rfl rfl (q_move rfl) ?_
    refine L_skip rfl rfl rfl rfl rfl rfl rfl ?_
    refine L_skip rfl rfl rfl rfl rfl rfl rfl ?_
    refine L_skip rfl rfl rfl rfl rfl rfl rfl ?_
    refine L_skip rfl rfl rfl rfl rfl rfl rfl ?_
    refine L_q rfl rfl rfl (by first | exact q_pickT rfl rfl | exact q_pickF rfl rfl) ?_
    refine L_then ?_
    refine C_true rfl ?_
    refine C_seq ?_
    refine C_region ?_
    refine L_q rfl rfl rfl (q_assign rfl) ?_
    refine L_then ?_
    refine C_ret ?_
    exact ret_of (res1 rfl rfl) sub_nil (by intro r hr; cases hr) ⟨(by first | rfl | exact congrArg Value.bool (decide_eq_decide.2 (by omega)) | exact congrArg Value.bool (decide_eq_true (by omega)).symm | exact congrArg Value.bool (decide_eq_false (by omega)).symm | exact congrArg Value.bool (decide_eq_true (by omega))), rfl⟩
  · -- t24 False
    refine L_qg rfl rfl rfl rfl rfl rfl rfl (by first | exact q_loadA tb rfl rfl bxo rfl rfl | exact q_loadEA tb rfl rfl (by first | exact gvo | exact gvd gvo (by omega)) (by omega) (by simp) rfl rfl) ?_
    refine L_callg tb rfl rfl rfl rfl rfl rfl (ct_shotlineref03_CheckTask v u x fa ts ls (by omega)) (ps_cons (by first | exact gvo | exact gvd gvo (by omega)) (ps_cons (by first | exact gvo | exact gvd gvo (by omega)) no_ps)) rfl ?_
    refine L_qg rfl rfl rfl rfl rfl rfl rfl (q_neq rfl rfl) ?_
    refine L_q rfl rfl rfl (by first | exact q_pickT rfl rfl | exact q_pickF rfl rfl) ?_
    refine L_q rfl rfl rfl (q_move rfl) ?_
    refine L_dec (d := 29) rfl (fun hct => ?_) (fun hct => ?_)
    · -- t29 True
      refine L_skip rfl rfl rfl rfl rfl rfl rfl ?_
      refine L_skip rfl rfl rfl rfl rfl rfl rfl ?_
      refine L_skip rfl rfl rfl rfl rfl rfl rfl ?_
      refine L_skip rfl rfl rfl rfl rfl rfl rfl ?_
      refine L_q rfl rfl rfl (by first | exact q_pickT rfl rfl | exact q_pickF rfl rfl) ?_
      refine L_q rfl rfl rfl (q_move rfl) ?_
      refine L_skip rfl rfl rfl rfl rfl rfl rfl ?_
      refine L_skip rfl rfl rfl rfl rfl rfl rfl ?_
      refine L_skip rfl rfl rfl rfl rfl rfl rfl ?_
      refine L_skip rfl rfl rfl rfl rfl rfl rfl ?_
      refine L_q rfl rfl rfl (by first | exact q_pickT rfl rfl | exact q_pickF rfl rfl) ?_
      refine L_q rfl rfl rfl (q_move rfl) ?_
      refine L_skip rfl rfl rfl rfl rfl rfl rfl ?_
      refine L_skip rfl rfl rfl rfl rfl rfl rfl ?_
      refine L_skip rfl rfl rfl rfl rfl rfl rfl ?_
      refine L_skip rfl rfl rfl rfl rfl rfl rfl ?_
      refine L_q rfl rfl rfl (by first | exact q_pickT rfl rfl | exact q_pickF rfl rfl) ?_
      refine L_then ?_
      refine C_true rfl ?_
      refine C_seq ?_
      refine C_region ?_
      refine L_q rfl rfl rfl (q_assign rfl) ?_
      refine L_then ?_
      refine C_ret ?_
      exact ret_of (res1 rfl rfl) sub_nil (by intro r hr; cases hr) ⟨(by first | rfl | exact congrArg Value.bool (decide_eq_decide.2 (by omega)) | exact congrArg Value.bool (decide_eq_true (by omega)).symm | exact congrArg Value.bool (decide_eq_false (by omega)).symm | exact congrArg Value.bool (decide_eq_true (by omega))), rfl⟩
    · -- t29 False
      refine L_qg rfl rfl rfl rfl rfl rfl rfl (by first | exact q_index tb rfl rfl rfl rfl (by first | exact gvo | exact gvd gvo (by omega)) (by omega) (by first | omega | (simp; done) | (simp; omega)) | exact q_indexP tb rfl rfl rfl rfl (by omega) (by omega)) ?_
      refine L_qg rfl rfl rfl rfl rfl rfl rfl (by first | exact q_load tb rfl rfl bxo rfl | exact q_loadE tb rfl rfl (by first | exact gvo | exact gvd gvo (by omega)) (by omega) (by simp) rfl) ?_
      refine L_callg tb rfl rfl rfl rfl rfl rfl (ct_shotlineref03_IsFine _) no_ps rfl ?_
      refine L_qg rfl rfl rfl rfl rfl rfl rfl (q_not rfl (by first | exact (rfl : (!true) = false) | exact (rfl : (!false) = true) | exact decide_not.symm | rfl)) ?_
      refine L_q rfl rfl rfl (by first | exact q_pickT rfl rfl | exact q_pickF rfl rfl) ?_
      refine L_q rfl rfl rfl (q_move rfl) ?_
      refine L_dec (d := 35) rfl (fun h6 => ?_) (fun h6 => ?_)
      · -- t35 True
        refine L_skip rfl rfl rfl rfl rfl rfl rfl ?_
        refine L_skip rfl rfl rfl rfl rfl rfl rfl ?_
        refine L_skip rfl rfl rfl rfl rfl rfl rfl ?_
        refine L_skip rfl rfl rfl rfl rfl rfl rfl ?_
        refine L_q rfl rfl rfl (by first | exact q_pickT rfl rfl | exact q_pickF rfl rfl) ?_
        refine L_q rfl rfl rfl (q_move rfl) ?_
        refine L_skip rfl rfl rfl rfl rfl rfl rfl ?_
        refine L_skip rfl rfl rfl rfl rfl rfl rfl ?_
        refine L_skip rfl rfl rfl rfl rfl rfl rfl ?_
        refine L_skip rfl rfl rfl rfl rfl rfl rfl ?_
        refine L_q rfl rfl rfl (by first | exact q_pickT rfl rfl | exact q_pickF rfl rfl) ?_
        refine L_then ?_
        refine C_true rfl ?_
        refine C_seq ?_
        refine C_region ?_
        refine L_q rfl rfl rfl (q_assign rfl) ?_
        refine L_then ?_
        refine C_ret ?_
        exact ret_of (res1 rfl rfl) sub_nil (by intro r hr; cases hr) ⟨(by first | rfl | exact congrArg Value.bool (decide_eq_decide.2 (by omega)) | exact congrArg Value.bool (decide_eq_true (by omega)).symm | exact congrArg Value.bool (decide_eq_false (by omega)).symm | exact congrArg Value.bool (decide_eq_true (by omega))), rfl⟩
      · -- t35 False
        refine L_qg rfl rfl rfl rfl rfl rfl rfl (by first | exact q_index tb rfl rfl rfl rfl (by first | exact gvo | exact gvd gvo (by omega)) (by omega) (by first | omega | (simp; done) | (simp; omega)) | exact q_indexP tb rfl rfl rfl rfl (by omega) (by omega)) ?_
        refine L_qg rfl rfl rfl rfl rfl rfl rfl (by first | exact q_load tb rfl rfl bxo rfl | exact q_loadE tb rfl rfl (by first | exact gvo | exact gvd gvo (by omega)) (by omega) (by simp) rfl) ?_
        refine L_callg tb rfl rfl rfl rfl rfl rfl (ct_shotlineref03_IsFine _) no_ps rfl ?_
        refine L_qg rfl rfl rfl rfl rfl rfl rfl (q_not rfl (by first | exact (rfl : (!true) = false) | exact (rfl : (!false) = true) | exact decide_not.symm | rfl)) ?_
        refine L_q rfl rfl rfl (by first | exact q_pickT rfl rfl | exact q_pickF rfl rfl) ?_
        refine L_q rfl rfl rfl (q_move rfl) ?_
        refine L_dec (d := 41) rfl (fun h8 => ?_) (fun h8 => ?_)
        · -- t41 True
          refine L_skip rfl rfl rfl rfl rfl rfl rfl ?_
          refine L_skip rfl rfl rfl rfl rfl rfl rfl ?_
          refine L_skip rfl rfl rfl rfl rfl rfl rfl ?_
          refine L_skip rfl rfl rfl rfl rfl rfl rfl ?_
          refine L_q rfl rfl rfl (by first | exact q_pickT rfl rfl | exact q_pickF rfl rfl) ?_
          refine L_then ?_
          refine C_true rfl ?_
          refine C_seq ?_
          refine C_region ?_
          refine L_q rfl rfl rfl (q_assign rfl) ?_
          refine L_then ?_
          refine C_ret ?_
          exact ret_of (res1 rfl rfl) sub_nil (by intro r hr; cases hr) ⟨(by first | rfl | exact congrArg Value.bool (decide_eq_decide.2 (by omega)) | exact congrArg Value.bool (decide_eq_true (by omega)).symm | exact congrArg Value.bool (decide_eq_false (by omega)).symm | exact congrArg Value.bool (decide_eq_true (by omega))), rfl⟩
        · -- t41 False
          refine L_qg rfl rfl rfl rfl rfl rfl rfl (by first | exact q_field tb rfl rfl rfl | exact q_fieldE tb rfl rfl rfl (by first | exact gvo | exact gvd gvo (by omega)) (by first | omega | (simp; done) | (simp; omega))) ?_
          refine L_qg rfl rfl rfl rfl rfl rfl rfl (by first | exact q_field tb rfl rfl rfl | exact q_fieldE tb rfl rfl rfl (by first | exact gvo | exact gvd gvo (by omega)) (by first | omega | (simp; done) | (simp; omega))) ?_
          refine L_qg rfl rfl rfl rfl rfl rfl rfl (by first | exact q_load tb rfl rfl bxo rfl | exact q_loadE tb rfl rfl (by first | exact gvo | exact gvd gvo (by omega)) (by omega) (by simp) rfl) ?_
          refine L_qg rfl rfl rfl rfl rfl rfl rfl (q_eql rfl rfl) ?_
          refine L_q rfl rfl rfl (by first | exact q_pickT rfl rfl | exact q_pickF rfl rfl) ?_
          refine L_then ?_
          refine C_dec rfl (fun hx0 => ?_) (fun hx0 => ?_)
          · -- t46 True
            refine C_seq ?_
            refine C_region ?_
            refine L_q rfl rfl rfl (q_assign rfl) ?_
            refine L_then ?_
            refine C_ret ?_
            exact ret_of (res1 rfl rfl) sub_nil (by intro r hr; cases hr) ⟨(by first | rfl | exact congrArg Value.bool (decide_eq_decide.2 (by omega)) | exact congrArg Value.bool (decide_eq_true (by omega)).symm | exact congrArg Value.bool (decide_eq_false (by omega)).symm | exact congrArg Value.bool (decide_eq_true (by omega))), rfl⟩
          · -- t46 False
            have hct9 := Decidable.not_not.1 hct
            have H := ckTask_ok hct9
            have hsx := H.xx.s; have hfx := H.xx.f; have htx := H.xx.t; have hfa := H.fa; have hkb := H.k.b; have hklen := H.k.len
            unfold okPr at hfx htx
            obtain ⟨f, rfl⟩ := Int.eq_ofNat_of_zero_le (show 0 ≤ p by omega)
            obtain ⟨g, rfl⟩ := Int.eq_ofNat_of_zero_le (show 0 ≤ q by omega)
            have hf : f ≤ 6 := by omega
            have hg : g ≤ 6 := by omega
            have hz := ckFine_yes (ls := ls) hct9 (show 0 ≤ (f : Int) ∧ (f : Int) ≤ 6 by omega)
            have hs9 := Int.emod_nonneg sec (show x.s + 1 ≠ 0 by omega)
            have hs8 := Int.emod_lt_of_pos sec (show 0 < x.s + 1 by omega)
            generalize hsg : sec % (x.s + 1) = s at hs9 hs8
            have hrb := rise_bd (a := x.t - x.f) (s := s) (by omega) (by omega)
            refine C_skip_then ?_
            refine C_seq ?_
            refine C_region ?_
            refine L_q rfl rfl rfl (q_move rfl) ?_
            refine L_q rfl rfl rfl (by first | exact q_field tb rfl rfl rfl | exact q_fieldE tb rfl rfl rfl (by first | exact gvo | exact gvd gvo (by omega)) (by first | omega | (simp; done) | (simp; omega))) ?_
            refine L_q rfl rfl rfl (by first | exact q_field tb rfl rfl rfl | exact q_fieldE tb rfl rfl rfl (by first | exact gvo | exact gvd gvo (by omega)) (by first | omega | (simp; done) | (simp; omega))) ?_
            refine L_q rfl rfl rfl (by first | exact q_load tb rfl rfl bxo rfl | exact q_loadE tb rfl rfl (by first | exact gvo | exact gvd gvo (by omega)) (by omega) (by simp) rfl) ?_
            refine L_q rfl rfl rfl (q_add rfl rfl (by first | exact IntWalk.i64_in _ (by omega) | rfl)) ?_
            refine L_call tb rfl rfl (ct_shotlinebase_Mod sec (x.s + 1) (by omega)) no_ps rfl ?_
            refine L_q rfl rfl rfl (q_assign rfl) ?_
            refine L_then ?_
            refine C_seq ?_
            refine C_region ?_
            rw [hsg]
            refine L_q rfl rfl rfl (by first | exact q_field tb rfl rfl rfl | exact q_fieldE tb rfl rfl rfl (by first | exact gvo | exact gvd gvo (by omega)) (by first | omega | (simp; done) | (simp; omega))) ?_
            refine L_q rfl rfl rfl (by first | exact q_field tb rfl rfl rfl | exact q_fieldE tb rfl rfl rfl (by first | exact gvo | exact gvd gvo (by omega)) (by first | omega | (simp; done) | (simp; omega))) ?_
            refine L_q rfl rfl rfl (by first | exact q_load tb rfl rfl bxo rfl | exact q_loadE tb rfl rfl (by first | exact gvo | exact gvd gvo (by omega)) (by omega) (by simp) rfl) ?_
            refine L_q rfl rfl rfl (by first | exact q_field tb rfl rfl rfl | exact q_fieldE tb rfl rfl rfl (by first | exact gvo | exact gvd gvo (by omega)) (by first | omega | (simp; done) | (simp; omega))) ?_
            refine L_q rfl rfl rfl (by first | exact q_field tb rfl rfl rfl | exact q_fieldE tb rfl rfl rfl (by first | exact gvo | exact gvd gvo (by omega)) (by first | omega | (simp; done) | (simp; omega))) ?_
            refine L_q rfl rfl rfl (by first | exact q_load tb rfl rfl bxo rfl | exact q_loadE tb rfl rfl (by first | exact gvo | exact gvd gvo (by omega)) (by omega) (by simp) rfl) ?_
            refine L_q rfl rfl rfl (q_sub rfl rfl (by first | exact IntWalk.i64_in _ (by omega) | rfl)) ?_
            refine L_q rfl rfl rfl (q_move rfl) ?_
            refine L_q rfl rfl rfl (q_mul rfl rfl (by first | exact IntWalk.i64_in _ (by omega) | rfl)) ?_
            refine L_q rfl rfl rfl (q_assign rfl) ?_
            refine L_then ?_
            refine C_seq ?_
            refine C_seq ?_
            refine C_region ?_
            refine L_q rfl rfl rfl (q_move rfl) ?_
            refine L_q rfl rfl rfl (q_eql rfl rfl) ?_
            refine L_q rfl rfl rfl (q_move rfl) ?_
            refine L_dec (d := 64) rfl (fun hs0 => ?_) (fun hs0 => ?_)
            · -- t64 True
              refine L_skip rfl rfl rfl rfl rfl rfl rfl ?_
              refine L_skip rfl rfl rfl rfl rfl rfl rfl ?_
              refine L_skip rfl rfl rfl rfl rfl rfl rfl ?_
              refine L_skip rfl rfl rfl rfl rfl rfl rfl ?_
              refine L_skip rfl rfl rfl rfl rfl rfl rfl ?_
              refine L_skip rfl rfl rfl rfl rfl rfl rfl ?_
              refine L_q rfl rfl rfl (by first | exact q_pickT rfl rfl | exact q_pickF rfl rfl) ?_
              refine L_then ?_
              refine C_true rfl ?_
              refine C_seq ?_
              refine C_region ?_
              refine L_q rfl rfl rfl (q_assign rfl) ?_
              refine L_then ?_
              refine C_ret ?_
              exact ret_of (res1 rfl rfl) sub_nil (by intro r hr; cases hr) ⟨(by first | rfl | exact congrArg Value.bool (decide_eq_decide.2 (by omega)) | exact congrArg Value.bool (decide_eq_true (by omega)).symm | exact congrArg Value.bool (decide_eq_false (by omega)).symm | exact congrArg Value.bool (decide_eq_true (by omega))), rfl⟩
            · -- t64 False
              refine L_qg rfl rfl rfl rfl rfl rfl rfl (q_move rfl) ?_
              refine L_qg rfl rfl rfl rfl rfl rfl rfl (by first | exact q_field tb rfl rfl rfl | exact q_fieldE tb rfl rfl rfl (by first | exact gvo | exact gvd gvo (by omega)) (by first | omega | (simp; done) | (simp; omega))) ?_
              refine L_qg rfl rfl rfl rfl rfl rfl rfl (by first | exact q_field tb rfl rfl rfl | exact q_fieldE tb rfl rfl rfl (by first | exact gvo | exact gvd gvo (by omega)) (by first | omega | (simp; done) | (simp; omega))) ?_
              refine L_qg rfl rfl rfl rfl rfl rfl rfl (by first | exact q_load tb rfl rfl bxo rfl | exact q_loadE tb rfl rfl (by first | exact gvo | exact gvd gvo (by omega)) (by omega) (by simp) rfl) ?_
              refine L_callg tb rfl rfl rfl rfl rfl rfl (ct_shotlinebase_Mod ((x.t - x.f) * s) x.s (by omega)) no_ps rfl ?_
              refine L_qg rfl rfl rfl rfl rfl rfl rfl (q_neq rfl rfl) ?_
              refine L_q rfl rfl rfl (by first | exact q_pickT rfl rfl | exact q_pickF rfl rfl) ?_
              refine L_then ?_
              refine C_dec rfl (fun hmod => ?_) (fun hmod => ?_)
              · -- t71 True
                refine C_seq ?_
                refine C_region ?_
                refine L_q rfl rfl rfl (q_assign rfl) ?_
                refine L_then ?_
                refine C_ret ?_
                exact ret_of (res1 rfl rfl) sub_nil (by intro r hr; cases hr) ⟨(by first | rfl | exact congrArg Value.bool (decide_eq_decide.2 (by omega)) | exact congrArg Value.bool (decide_eq_true (by omega)).symm | exact congrArg Value.bool (decide_eq_false (by omega)).symm | exact congrArg Value.bool (decide_eq_true (by omega))), rfl⟩
              · -- t71 False
                obtain ⟨d, hd⟩ := div_ex (Decidable.not_not.1 hmod)
                have hbg := begin_mk (x := x) (s := s) (d := d) (by omega) hd
                have hoky := hbg.ok H.xx
                have hcy := ckLeg_yes hoky (show 1 ≤ s by omega)
                have hyt := hoky.t
                have hyt9 : 400 ≤ x.f + d ∧ x.f + d ≤ 31100 := hyt
                rw [hd]
                have hlo := loaded_ok H.k hoky hg
                have hca : ckAt ts (loadedM ts ls ⟨x.f, x.f + d, s, x.g⟩ g) (x.f + d) fa = 0 := ckAt_yes hlo hyt H.fa
                have hpl := peaksT_len (x := x) (f := f) hklen
                have hll := loadedM_len (x := ⟨x.f, x.f + d, s, x.g⟩) (f := g) hklen
                have hpc := len_map cI (peaksT ts ls x f); have hlc := len_map cLd (loadedM ts ls ⟨x.f, x.f + d, s, x.g⟩ g)
                refine C_skip_then ?_
                refine C_seq ?_
                refine C_draw (n := 10) [(0, false), (2, false), (3, false), (1, true), (4, true), (5, false), (6, false), (7, false), (8, false), (9, false)] mixed (by kernel_rfl) ?_
                refine W_q rfl rfl rfl rfl (by first | exact q_loadA tb rfl rfl bxo rfl rfl | exact q_loadEA tb rfl rfl (by first | exact gvo | exact gvd gvo (by omega)) (by omega) (by simp) rfl rfl) ?_
                refine W_q rfl rfl rfl rfl (by first | exact q_index tb rfl rfl rfl rfl (by first | exact gvo | exact gvd gvo (by omega)) (by omega) (by first | omega | (simp; done) | (simp; omega)) | exact q_indexP tb rfl rfl rfl rfl (by omega) (by omega)) ?_
                refine W_q rfl rfl rfl rfl (by first | exact q_load tb rfl rfl bxo rfl | exact q_loadE tb rfl rfl (by first | exact gvo | exact gvd gvo (by omega)) (by omega) (by simp) rfl) ?_
                refine W_lo rfl rfl rfl rfl (lo_call tb rfl rfl (ct_shotlinelaw03_task v u x fa ts ls (by omega) (by omega)) (ps_cons (by first | exact gvo | exact gvd gvo (by omega)) (ps_cons (by first | exact gvo | exact gvd gvo (by omega)) no_ps)) (by rintro y rs ⟨a, b, _, rfl⟩ r hr; simp only [List.mem_cons, List.not_mem_nil, or_false] at hr; rcases hr with rfl | rfl <;> exact sl_sinks _ _ _ _)) ?_
                rintro _ _ ⟨a74, b74, rfl, rfl⟩
                refine W_call tb rfl rfl rfl rfl (ct_tissue_Kept a74 b74 x fa (f : Int) ts ls (by omega) (by omega)) (ps_cons (by first | exact gvo | exact gvd gvo (by omega)) (ps_cons (by first | exact gvo | exact gvd gvo (by omega)) no_ps)) rfl ?_
                refine W_q rfl rfl rfl rfl (q_move rfl) ?_
                rw [keptTE_2 hz]
                refine W_q rfl rfl rfl rfl (q_ext0 rfl) ?_
                refine W_q rfl rfl rfl rfl (q_ext1 rfl) ?_
                refine W_q rfl rfl rfl rfl (q_assign rfl) ?_
                refine W_q rfl rfl rfl rfl (q_assign rfl) ?_
                refine W_nil ?_
                refine L_then ?_
                refine C_seq ?_
                refine C_draw (n := 10) [(0, false), (2, false), (3, false), (1, true), (4, true), (5, false), (6, false), (7, false), (8, false), (9, false)] mixed (by kernel_rfl) ?_
                refine W_q rfl rfl rfl rfl (by first | exact q_loadA tb rfl rfl bxo rfl rfl | exact q_loadEA tb rfl rfl (by first | exact gvo | exact gvd gvo (by omega)) (by omega) (by simp) rfl rfl) ?_
                refine W_q rfl rfl rfl rfl (by first | exact q_index tb rfl rfl rfl rfl (by first | exact gvo | exact gvd gvo (by omega)) (by omega) (by first | omega | (simp; done) | (simp; omega)) | exact q_indexP tb rfl rfl rfl rfl (by omega) (by omega)) ?_
                refine W_q rfl rfl rfl rfl (by first | exact q_load tb rfl rfl bxo rfl | exact q_loadE tb rfl rfl (by first | exact gvo | exact gvd gvo (by omega)) (by omega) (by simp) rfl) ?_
                refine W_lo rfl rfl rfl rfl (lo_call tb rfl rfl (ct_shotlinelaw03_task v u x fa ts ls (by omega) (by omega)) (ps_cons (by first | exact gvo | exact gvd gvo (by omega)) (ps_cons (by first | exact gvo | exact gvd gvo (by omega)) no_ps)) (by rintro y rs ⟨a, b, _, rfl⟩ r hr; simp only [List.mem_cons, List.not_mem_nil, or_false] at hr; rcases hr with rfl | rfl <;> exact sl_sinks _ _ _ _)) ?_
                rintro _ _ ⟨a82, b82, rfl, rfl⟩
                refine W_callSN tb rfl rfl rfl rfl (ct_tissue_Peaks a82 b82 x fa (f : Int) ts ls (by omega) (by omega)) (ps_cons (by first | exact gvo | exact gvd gvo (by omega)) (ps_cons (by first | exact gvo | exact gvd gvo (by omega)) no_ps)) rfl fun v85 => ?_
                refine W_q rfl rfl rfl rfl (q_move rfl) ?_
                rw [peaksE_2 hz]
                refine W_q rfl rfl rfl rfl (q_ext0 rfl) ?_
                refine W_q rfl rfl rfl rfl (q_ext1 rfl) ?_
                refine W_q rfl rfl rfl rfl (q_assign rfl) ?_
                refine W_q rfl rfl rfl rfl (q_assign rfl) ?_
                refine W_nil ?_
                refine L_then ?_
                refine C_seq ?_
                refine C_seq ?_
                refine C_region ?_
                refine L_q rfl rfl rfl (q_move rfl) ?_
                refine L_q rfl rfl rfl (q_false (q_neq rfl rfl) (by simp)) ?_
                refine L_q rfl rfl rfl (q_move rfl) ?_
                refine L_qg rfl rfl rfl rfl rfl rfl rfl (q_move rfl) ?_
                refine L_qg rfl rfl rfl rfl rfl rfl rfl (q_false (q_neq rfl rfl) (by simp)) ?_
                refine L_q rfl rfl rfl (by first | exact q_pickT rfl rfl | exact q_pickF rfl rfl) ?_
                refine L_q rfl rfl rfl (q_move rfl) ?_
                refine L_qg rfl rfl rfl rfl rfl rfl rfl (q_move rfl) ?_
                refine L_qg rfl rfl rfl rfl rfl rfl rfl (q_len tb rfl rfl (by first | exact gvo | exact gvd gvo (by omega))) ?_
                refine L_qg rfl rfl rfl rfl rfl rfl rfl (by first | exact q_field tb rfl rfl rfl | exact q_fieldE tb rfl rfl rfl (by first | exact gvo | exact gvd gvo (by omega)) (by first | omega | (simp; done) | (simp; omega))) ?_
                refine L_qg rfl rfl rfl rfl rfl rfl rfl (by first | exact q_load tb rfl rfl bxo rfl | exact q_loadE tb rfl rfl (by first | exact gvo | exact gvd gvo (by omega)) (by omega) (by simp) rfl) ?_
                refine L_qg rfl rfl rfl rfl rfl rfl rfl (q_len tb rfl rfl (by first | exact gvo | exact gvd gvo (by omega))) ?_
                refine L_qg rfl rfl rfl rfl rfl rfl rfl (q_false (q_neq rfl rfl) (by simp [hpl])) ?_
                refine L_q rfl rfl rfl (by first | exact q_pickT rfl rfl | exact q_pickF rfl rfl) ?_
                refine L_then ?_
                refine C_false rfl ?_
                refine C_skip_then ?_
                refine C_seq ?_
                refine C_region ?_
                refine L_q rfl rfl rfl (by first | exact q_field tb rfl rfl rfl | exact q_fieldE tb rfl rfl rfl (by first | exact gvo | exact gvd gvo (by omega)) (by first | omega | (simp; done) | (simp; omega))) ?_
                refine L_q rfl rfl rfl (by first | exact q_loadA tb rfl rfl bxo rfl rfl | exact q_loadEA tb rfl rfl (by first | exact gvo | exact gvd gvo (by omega)) (by omega) (by simp) rfl rfl) ?_
                refine L_alloc tb rfl rfl fun g13 => ?_
                first | refine L_store tb rfl rfl rfl rfl rfl rfl rfl rfl ?_ | (refine L_front1 ?_; refine L_store tb rfl rfl rfl rfl rfl rfl rfl rfl ?_) | (refine L_front2 ?_; refine L_store tb rfl rfl rfl rfl rfl rfl rfl rfl ?_) | (refine L_front3 ?_; refine L_store tb rfl rfl rfl rfl rfl rfl rfl rfl ?_) | (refine L_front4 ?_; refine L_store tb rfl rfl rfl rfl rfl rfl rfl rfl ?_) | (refine L_front5 ?_; refine L_store tb rfl rfl rfl rfl rfl rfl rfl rfl ?_) | (refine L_front6 ?_; refine L_store tb rfl rfl rfl rfl rfl rfl rfl rfl ?_)
                refine L_then ?_
                refine C_seq ?_
                refine Kp.C_own1 [.q 0, .q 1, .q 2, .q 3, .q 4, .q 5, .q 6, .q 7, .q 8, .q 9, .q 10, .s 11, .q 12, .s 13] mixed (by kernel_rfl) rfl (by kernel_rfl) ?_
                refine Kp.X_q rfl rfl rfl rfl (by first | exact q_field tb rfl rfl rfl | exact q_fieldE tb rfl rfl rfl (by first | exact gvo | exact gvd gvo (by omega)) (by first | omega | (simp; done) | (simp; omega))) ?_
                refine Kp.X_q rfl rfl rfl rfl (by first | exact q_field tb rfl rfl rfl | exact q_fieldE tb rfl rfl rfl (by first | exact gvo | exact gvd gvo (by omega)) (by first | omega | (simp; done) | (simp; omega))) ?_
                refine Kp.X_q rfl rfl rfl rfl (by first | exact q_load tb rfl rfl bxo rfl | exact q_loadE tb rfl rfl (by first | exact gvo | exact gvd gvo (by omega)) (by omega) (by simp) rfl) ?_
                refine Kp.X_q rfl rfl rfl rfl (q_move rfl) ?_
                refine Kp.X_q rfl rfl rfl rfl (by first | exact q_field tb rfl rfl rfl | exact q_fieldE tb rfl rfl rfl (by first | exact gvo | exact gvd gvo (by omega)) (by first | omega | (simp; done) | (simp; omega))) ?_
                refine Kp.X_q rfl rfl rfl rfl (by first | exact q_field tb rfl rfl rfl | exact q_fieldE tb rfl rfl rfl (by first | exact gvo | exact gvd gvo (by omega)) (by first | omega | (simp; done) | (simp; omega))) ?_
                refine Kp.X_q rfl rfl rfl rfl (by first | exact q_load tb rfl rfl bxo rfl | exact q_loadE tb rfl rfl (by first | exact gvo | exact gvd gvo (by omega)) (by omega) (by simp) rfl) ?_
                refine Kp.X_q rfl rfl rfl rfl (q_quo rfl rfl (by omega) (by exact (congrArg _ (quo_ex (by omega))).trans (IntWalk.i64_in _ (by omega)))) ?_
                refine Kp.X_q rfl rfl rfl rfl (q_add rfl rfl (by first | exact IntWalk.i64_in _ (by omega) | rfl)) ?_
                refine Kp.X_q rfl rfl rfl rfl (q_move rfl) ?_
                refine Kp.X_q rfl rfl rfl rfl (by first | exact q_field tb rfl rfl rfl | exact q_fieldE tb rfl rfl rfl (by first | exact gvo | exact gvd gvo (by omega)) (by first | omega | (simp; done) | (simp; omega))) ?_
                first | refine Kp.X_store tb rfl rfl (List.Perm.refl _) rfl rfl rfl rfl rfl rfl rfl rfl ?_ | refine Kp.X_store tb rfl rfl perm1 rfl rfl rfl rfl rfl rfl rfl rfl ?_ | refine Kp.X_store tb rfl rfl (perm_front (pre := [_, _])) rfl rfl rfl rfl rfl rfl rfl rfl ?_ | refine Kp.X_store tb rfl rfl (perm_front (pre := [_, _, _])) rfl rfl rfl rfl rfl rfl rfl rfl ?_
                refine Kp.X_q rfl rfl rfl rfl (by first | exact q_field tb rfl rfl rfl | exact q_fieldE tb rfl rfl rfl (by first | exact gvo | exact gvd gvo (by omega)) (by first | omega | (simp; done) | (simp; omega))) ?_
                first | refine Kp.X_store tb rfl rfl (List.Perm.refl _) rfl rfl rfl rfl rfl rfl rfl rfl ?_ | refine Kp.X_store tb rfl rfl perm1 rfl rfl rfl rfl rfl rfl rfl rfl ?_ | refine Kp.X_store tb rfl rfl (perm_front (pre := [_, _])) rfl rfl rfl rfl rfl rfl rfl rfl ?_ | refine Kp.X_store tb rfl rfl (perm_front (pre := [_, _, _])) rfl rfl rfl rfl rfl rfl rfl rfl ?_
                refine Kp.X_nil ?_
                dsimp only [List.cons_append, List.nil_append]
                refine L_then ?_
                refine C_seq ?_
                refine C_draw (n := 15) [(0, false), (1, false), (3, false), (4, false), (6, false), (7, false), (8, false), (2, true), (5, true), (9, true), (10, false), (11, false), (12, false), (13, false), (14, false)] mixed (by kernel_rfl) ?_
                refine W_q rfl rfl rfl rfl (by first | exact q_field tb rfl rfl rfl | exact q_fieldE tb rfl rfl rfl (by first | exact gvo | exact gvd gvo (by omega)) (by first | omega | (simp; done) | (simp; omega))) ?_
                refine W_q rfl rfl rfl rfl (by first | exact q_load tb rfl rfl bxo rfl | exact q_loadE tb rfl rfl (by first | exact gvo | exact gvd gvo (by omega)) (by omega) (by simp) rfl) ?_
                refine W_q rfl rfl rfl rfl (by first | exact q_field tb rfl rfl rfl | exact q_fieldE tb rfl rfl rfl (by first | exact gvo | exact gvd gvo (by omega)) (by first | omega | (simp; done) | (simp; omega))) ?_
                refine W_q rfl rfl rfl rfl (by first | exact q_load tb rfl rfl bxo rfl | exact q_loadE tb rfl rfl (by first | exact gvo | exact gvd gvo (by omega)) (by omega) (by simp) rfl) ?_
                refine W_q rfl rfl rfl rfl (by first | exact q_loadA tb rfl rfl bxo rfl rfl | exact q_loadEA tb rfl rfl (by first | exact gvo | exact gvd gvo (by omega)) (by omega) (by simp) rfl rfl) ?_
                refine W_q rfl rfl rfl rfl (by first | exact q_index tb rfl rfl rfl rfl (by first | exact gvo | exact gvd gvo (by omega)) (by omega) (by first | omega | (simp; done) | (simp; omega)) | exact q_indexP tb rfl rfl rfl rfl (by omega) (by omega)) ?_
                refine W_q rfl rfl rfl rfl (by first | exact q_load tb rfl rfl bxo rfl | exact q_loadE tb rfl rfl (by first | exact gvo | exact gvd gvo (by omega)) (by omega) (by simp) rfl) ?_
                refine W_callSF tb rfl rfl rfl rfl (ct_shotlinelaw03_table v ts (by omega)) (ps_cons (by first | exact gvo | exact gvd gvo (by omega)) no_ps) rfl fun A119 n119 c119 => ?_
                refine W_callSF tb rfl rfl rfl rfl (ct_shotlinelaw03_loads u ls (by omega)) (ps_cons (by first | exact gvo | exact gvd gvo (by omega)) no_ps) rfl fun A122 n122 c122 => ?_
                refine W_callSN tb rfl rfl rfl rfl (ct_tissue_Loaded _ _ ⟨x.f, x.f + d, s, x.g⟩ (g : Int) ts ls (by omega) (by omega)) (ps_cons (by first | exact gvo | exact gvd gvo (by omega)) (ps_cons (by first | exact gvo | exact gvd gvo (by omega)) no_ps)) rfl fun v126 => ?_
                refine W_q rfl rfl rfl rfl (q_move rfl) ?_
                rw [loadedE_4 (fun hh => hh H.ct) (fun hh => hh hcy) hg]
                refine W_q rfl rfl rfl rfl (q_ext0 rfl) ?_
                refine W_q rfl rfl rfl rfl (q_ext1 rfl) ?_
                refine W_q rfl rfl rfl rfl (q_assign rfl) ?_
                refine W_q rfl rfl rfl rfl (q_assign rfl) ?_
                refine W_nil ?_
                refine L_then ?_
                refine C_seq ?_
                refine C_seq ?_
                refine C_region ?_
                refine L_q rfl rfl rfl (q_move rfl) ?_
                refine L_q rfl rfl rfl (q_false (q_neq rfl rfl) (by simp)) ?_
                refine L_q rfl rfl rfl (q_move rfl) ?_
                refine L_qg rfl rfl rfl rfl rfl rfl rfl (q_move rfl) ?_
                refine L_qg rfl rfl rfl rfl rfl rfl rfl (q_len tb rfl rfl (by first | exact gvo | exact gvd gvo (by omega))) ?_
                refine L_qg rfl rfl rfl rfl rfl rfl rfl (q_move rfl) ?_
                refine L_qg rfl rfl rfl rfl rfl rfl rfl (q_len tb rfl rfl (by first | exact gvo | exact gvd gvo (by omega))) ?_
                refine L_qg rfl rfl rfl rfl rfl rfl rfl (q_false (q_neq rfl rfl) (by simp [hpl, hll])) ?_
                refine L_q rfl rfl rfl (by first | exact q_pickT rfl rfl | exact q_pickF rfl rfl) ?_
                refine L_then ?_
                refine C_false rfl ?_
                refine C_skip_then ?_
                refine C_seq ?_
                refine C_seq ?_
                refine C_region ?_
                refine L_q rfl rfl rfl (q_assign rfl) ?_
                refine L_then ?_
                refine C_block ?_
                refine C_loop (ι := Nat) (fun i => ([(3, .pointer (some ⟨g3, 0, none⟩)), (9, .int .i64 (keptT ts ls x fa f)), (11, v85), (13, .pointer (some ⟨g13, 0, none⟩)), (14, v126), (16, .int .i64 (i : Int))], [sl v126 62 4 ((loadedM ts ls ⟨x.f, x.f + d, s, x.g⟩ g).map cLd), box g13 27 (cLg ⟨x.f, x.f + d, s, x.g⟩), sl v85 3 1 ((peaksT ts ls x f).map cI), box g3 101 (cDv v u x fa), rd v 4 (ts.map cCp), rd u 4 (ls.map cLd)])) (fun i => i ≤ ts.length) (fun i => ts.length - i) 0 (Nat.zero_le _) (fun a w hs => hs.weak ⟨rfl, rfl, rfl, rfl, rfl, rfl, trivial⟩ (fun h => h.pk (by repeat (first | with_reducible exact pk_nil | refine pk_box rfl ?_ | refine pk_rd rfl ?_ | refine pk_sl rfl ?_ | with_reducible refine pk_app ?_ | with_reducible refine pk_app0 ?_ | with_reducible exact pk_tl | refine pk_var ?_)))) ?_
                intro i hi9
                dsimp only at hi9 ⊢
                refine C_seq ?_
                refine C_seq ?_
                refine C_region ?_
                refine L_q rfl rfl rfl (q_move rfl) ?_
                refine L_q rfl rfl rfl (q_move rfl) ?_
                refine L_q rfl rfl rfl (q_len tb rfl rfl (by first | exact gvo | exact gvd gvo (by omega))) ?_
                refine L_q rfl rfl rfl (q_lss rfl rfl) ?_
                refine L_then ?_
                refine C_dec rfl (fun h16 => ?_) (fun h16 => ?_)
                · -- t141 True
                  obtain ⟨w9, hew⟩ := get_some (loadedM ts ls ⟨x.f, x.f + d, s, x.g⟩ g) (k := i) (by omega); obtain ⟨z9, hez⟩ := get_some (peaksT ts ls x f) (k := i) (by omega); have helw := map_get cLd hew; have helz := map_get cI hez; have hwi := hlo.x w9 (List.mem_of_getElem? hew); have hpk := hbg.peaks H.k H.xx hf hg hew hez
                  have x1 := hwi.1.a; have x2 := hwi.1.b; have x3 := hwi.1.c; have x4 := hwi.1.e; have x5 := hwi.2.a; have x6 := hwi.2.b; have x7 := hwi.2.c; have x8 := hwi.2.e
                  refine C_skip_then ?_
                  refine C_seq ?_
                  refine C_block ?_
                  refine C_seq ?_
                  refine C_draw (n := 18) [(0, false), (1, false), (2, false), (3, false), (4, false), (5, false), (6, false), (7, false), (8, false), (9, false), (10, false), (11, false), (12, false), (13, false), (14, false), (15, false), (16, false), (17, false)] mixed (by kernel_rfl) ?_
                  refine W_q rfl rfl rfl rfl (q_move rfl) ?_
                  refine W_q rfl rfl rfl rfl (q_move rfl) ?_
                  refine W_q rfl rfl rfl rfl (by first | exact q_index tb rfl rfl rfl rfl (by first | exact gvo | exact gvd gvo (by omega)) (by omega) (by first | omega | (simp; done) | (simp; omega)) | exact q_indexP tb rfl rfl rfl rfl (by omega) (by omega)) ?_
                  refine W_q rfl rfl rfl rfl (by first | exact q_field tb rfl rfl rfl | exact q_fieldE tb rfl rfl rfl (by first | exact gvo | exact gvd gvo (by omega)) (by first | omega | (simp; done) | (simp; omega))) ?_
                  refine W_q rfl rfl rfl rfl (by first | exact q_field tb rfl rfl rfl | exact q_fieldE tb rfl rfl rfl (by first | exact gvo | exact gvd gvo (by omega)) (by first | omega | (simp; done) | (simp; omega))) ?_
                  refine W_q rfl rfl rfl rfl (by first | exact q_load tb rfl rfl bxo rfl | exact q_loadE tb rfl rfl (by first | exact gvo | exact gvd gvo (by omega)) (i := i) (o := 0) (by omega) helw rfl) ?_
                  refine W_q rfl rfl rfl rfl (q_move rfl) ?_
                  refine W_q rfl rfl rfl rfl (q_move rfl) ?_
                  refine W_q rfl rfl rfl rfl (by first | exact q_index tb rfl rfl rfl rfl (by first | exact gvo | exact gvd gvo (by omega)) (by omega) (by first | omega | (simp; done) | (simp; omega)) | exact q_indexP tb rfl rfl rfl rfl (by omega) (by omega)) ?_
                  refine W_q rfl rfl rfl rfl (by first | exact q_field tb rfl rfl rfl | exact q_fieldE tb rfl rfl rfl (by first | exact gvo | exact gvd gvo (by omega)) (by first | omega | (simp; done) | (simp; omega))) ?_
                  refine W_q rfl rfl rfl rfl (by first | exact q_field tb rfl rfl rfl | exact q_fieldE tb rfl rfl rfl (by first | exact gvo | exact gvd gvo (by omega)) (by first | omega | (simp; done) | (simp; omega))) ?_
                  refine W_q rfl rfl rfl rfl (by first | exact q_load tb rfl rfl bxo rfl | exact q_loadE tb rfl rfl (by first | exact gvo | exact gvd gvo (by omega)) (i := i) (o := 2) (by omega) helw rfl) ?_
                  refine W_q rfl rfl rfl rfl (q_add rfl rfl (by first | exact IntWalk.i64_in _ (by omega) | rfl)) ?_
                  refine W_q rfl rfl rfl rfl (q_move rfl) ?_
                  refine W_q rfl rfl rfl rfl (q_move rfl) ?_
                  refine W_q rfl rfl rfl rfl (by first | exact q_index tb rfl rfl rfl rfl (by first | exact gvo | exact gvd gvo (by omega)) (by omega) (by first | omega | (simp; done) | (simp; omega)) | exact q_indexP tb rfl rfl rfl rfl (by omega) (by omega)) ?_
                  refine W_q rfl rfl rfl rfl (by first | exact q_load tb rfl rfl bxo rfl | exact q_loadE tb rfl rfl (by first | exact gvo | exact gvd gvo (by omega)) (i := i) (o := 0) (by omega) helz rfl) ?_
                  refine W_q rfl rfl rfl rfl (q_gtr rfl rfl) ?_
                  refine W_nil ?_
                  refine L_then ?_
                  refine C_dec rfl (fun h17 => ?_) (fun h17 => ?_)
                  · -- t161 True
                    exfalso; omega
                  · -- t161 False
                    refine C_skip_blk ?_
                    refine C_region ?_
                    refine L_q rfl rfl rfl (q_move rfl) ?_
                    refine L_q rfl rfl rfl (q_add rfl rfl (by first | exact IntWalk.i64_in _ (by omega) | rfl)) ?_
                    refine L_q rfl rfl rfl (q_assign rfl) ?_
                    refine L_end ?_
                    exact fun ac_ wo_ hs_ => ⟨i + 1, (by dsimp only; omega), (by dsimp only; omega), hs_.weak ⟨rfl, rfl, rfl, rfl, rfl, rfl, trivial⟩ (fun h => h.pk (by repeat (first | with_reducible exact pk_nil | refine pk_box rfl ?_ | refine pk_rd rfl ?_ | refine pk_sl rfl ?_ | with_reducible refine pk_app ?_ | with_reducible refine pk_app0 ?_ | with_reducible exact pk_tl | refine pk_var ?_)))⟩
                · -- t141 False
                  have hkk : ¬ (keptT ts ls x fa f = 2 ∧ keptM ts (loadedM ts ls ⟨x.f, x.f + d, s, x.g⟩ g) (x.f + d) fa = 0) := fun hh => hbg.kept H hf hg hh.1 hh.2
                  have e7 : (keptM ts (loadedM ts ls ⟨x.f, x.f + d, s, x.g⟩ g) (x.f + d) fa, (0 : Int)).1 = keptM ts (loadedM ts ls ⟨x.f, x.f + d, s, x.g⟩ g) (x.f + d) fa := rfl
                  refine C_exit ?_
                  change C Try.prog _ _ _ _ _ _ _
                  refine C_seq ?_
                  refine C_draw (n := 15) [(0, false), (1, false), (3, false), (4, false), (5, false), (6, false), (7, false), (8, false), (2, true), (9, true), (10, false), (11, false), (12, false), (13, false), (14, false)] mixed (by kernel_rfl) ?_
                  refine W_q rfl rfl rfl rfl (by first | exact q_field tb rfl rfl rfl | exact q_fieldE tb rfl rfl rfl (by first | exact gvo | exact gvd gvo (by omega)) (by first | omega | (simp; done) | (simp; omega))) ?_
                  refine W_q rfl rfl rfl rfl (by first | exact q_load tb rfl rfl bxo rfl | exact q_loadE tb rfl rfl (by first | exact gvo | exact gvd gvo (by omega)) (by omega) (by simp) rfl) ?_
                  refine W_q rfl rfl rfl rfl (q_move rfl) ?_
                  refine W_q rfl rfl rfl rfl (by first | exact q_field tb rfl rfl rfl | exact q_fieldE tb rfl rfl rfl (by first | exact gvo | exact gvd gvo (by omega)) (by first | omega | (simp; done) | (simp; omega))) ?_
                  refine W_q rfl rfl rfl rfl (by first | exact q_load tb rfl rfl bxo rfl | exact q_loadE tb rfl rfl (by first | exact gvo | exact gvd gvo (by omega)) (by omega) (by simp) rfl) ?_
                  refine W_q rfl rfl rfl rfl (by first | exact q_field tb rfl rfl rfl | exact q_fieldE tb rfl rfl rfl (by first | exact gvo | exact gvd gvo (by omega)) (by first | omega | (simp; done) | (simp; omega))) ?_
                  refine W_q rfl rfl rfl rfl (by first | exact q_load tb rfl rfl bxo rfl | exact q_loadE tb rfl rfl (by first | exact gvo | exact gvd gvo (by omega)) (by omega) (by simp) rfl) ?_
                  refine W_q rfl rfl rfl rfl (by first | exact q_build tb rfl rfl rfl rfl | exact q_buildArr tb rfl rfl rfl rfl rfl) ?_
                  refine W_callSF tb rfl rfl rfl rfl (ct_shotlinelaw03_table v ts (by omega)) (ps_cons (by first | exact gvo | exact gvd gvo (by omega)) no_ps) rfl fun A165 n165 c165 => ?_
                  refine W_call tb rfl rfl rfl rfl (ct_tissue_KeptAt _ _ (x.f + d) fa ts (loadedM ts ls ⟨x.f, x.f + d, s, x.g⟩ g) (by omega) (by omega)) (ps_cons (by first | exact gvo | exact gvd gvo (by omega)) (ps_cons (by first | exact gvo | exact gvd gvo (by omega)) no_ps)) rfl ?_
                  refine W_q rfl rfl rfl rfl (q_move rfl) ?_
                  rw [keptE_ok hca]
                  refine W_q rfl rfl rfl rfl (q_ext0 rfl) ?_
                  refine W_q rfl rfl rfl rfl (q_ext1 rfl) ?_
                  refine W_q rfl rfl rfl rfl (q_assign rfl) ?_
                  refine W_q rfl rfl rfl rfl (q_assign rfl) ?_
                  refine W_nil ?_
                  refine L_then ?_
                  refine C_seq ?_
                  refine C_region ?_
                  refine L_q rfl rfl rfl (q_move rfl) ?_
                  refine L_q rfl rfl rfl (q_true (q_eql rfl rfl) (by simp)) ?_
                  refine L_q rfl rfl rfl (q_move rfl) ?_
                  refine L_qg rfl rfl rfl rfl rfl rfl rfl (q_move rfl) ?_
                  refine L_qg rfl rfl rfl rfl rfl rfl rfl (q_neq rfl rfl) ?_
                  refine L_qg rfl rfl rfl rfl rfl rfl rfl (q_move rfl) ?_
                  refine L_dec (d := 180) rfl (fun h18 => ?_) (fun h18 => ?_)
                  · -- t180 True
                    refine L_skip rfl rfl rfl rfl rfl rfl rfl ?_
                    refine L_skip rfl rfl rfl rfl rfl rfl rfl ?_
                    refine L_qg rfl rfl rfl rfl rfl rfl rfl (by first | exact q_pickT rfl rfl | exact q_pickF rfl rfl) ?_
                    refine L_q rfl rfl rfl (by first | exact q_pickT rfl rfl | exact q_pickF rfl rfl) ?_
                    refine L_q rfl rfl rfl (q_assign rfl) ?_
                    refine L_then ?_
                    refine C_ret ?_
                    exact ret_of (res1 rfl rfl) sub_nil (by intro r hr; cases hr) ⟨(by first | rfl | exact congrArg Value.bool (decide_eq_decide.2 (by omega)) | exact congrArg Value.bool (decide_eq_true (by omega)).symm | exact congrArg Value.bool (decide_eq_false (by omega)).symm | exact congrArg Value.bool (decide_eq_true (by omega))), rfl⟩
                  · -- t180 False
                    refine L_qg rfl rfl rfl rfl rfl rfl rfl (q_move rfl) ?_
                    refine L_qg rfl rfl rfl rfl rfl rfl rfl (q_neq rfl rfl) ?_
                    refine L_qg rfl rfl rfl rfl rfl rfl rfl (by first | exact q_pickT rfl rfl | exact q_pickF rfl rfl) ?_
                    refine L_q rfl rfl rfl (by first | exact q_pickT rfl rfl | exact q_pickF rfl rfl) ?_
                    refine L_q rfl rfl rfl (q_assign rfl) ?_
                    refine L_then ?_
                    refine C_ret ?_
                    exact ret_of (res1 rfl rfl) sub_nil (by intro r hr; cases hr) ⟨(by first | rfl | exact congrArg Value.bool (decide_eq_decide.2 (by omega)) | exact congrArg Value.bool (decide_eq_true (by omega)).symm | exact congrArg Value.bool (decide_eq_false (by omega)).symm | exact congrArg Value.bool (decide_eq_true (by omega))), rfl⟩
end Go.Proofs.Ytfhfadfnbnliiaa
