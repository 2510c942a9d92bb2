/-
  Walks: each function named returns what its model says. Conditions: those in front of each theorem.
-/
import Derived.Test.YtolnohjbpllmhaaXL
import Derived.Test.YtolnohjbpllmhaaXp9
namespace Go.Proofs.Ytolnohjbpllmhaa
open Go.RowKit

set_option maxRecDepth 100000 in
theorem ct_shotlineref01_Nitrogen (g : Gs) (hg : 0 ≤ g.o ∧ 0 ≤ g.h ∧ g.o + g.h ≤ 1000) : Ct Try.prog 172 [.agg (cGs g).toArray] [] (isV (.int .i64 (1000 - g.o - g.h))) := by
  refine Ct.of (N := 9) Try.func172 rfl rfl rfl fun w => ?_
  refine C_weak (E' := [(0, .agg (cGs g).toArray)]) (rs' := []) ⟨rfl, trivial⟩ (fun _ h => h) ?_
  refine C_seq ?_
  refine C_region ?_
  refine L_box rfl rfl rfl fun g1 => ?_
  refine L_q rfl rfl rfl (q_assign rfl) ?_
  refine L_then ?_
  refine C_seq ?_
  refine C_region ?_
  refine L_q rfl rfl rfl (q_field tb rfl rfl rfl) ?_
  refine L_q rfl rfl rfl (q_load tb rfl rfl bxo rfl) ?_
  refine L_q rfl rfl rfl (q_sub rfl rfl (by first | exact IntWalk.i64_in _ (by omega) | rfl)) ?_
  refine L_q rfl rfl rfl (q_field tb rfl rfl rfl) ?_
  refine L_q rfl rfl rfl (q_load tb rfl rfl bxo rfl) ?_
  refine L_q rfl rfl rfl (q_sub rfl rfl (by first | exact IntWalk.i64_in _ (by omega) | rfl)) ?_
  refine L_q rfl rfl rfl (q_assign rfl) ?_
  refine L_then ?_
  refine C_ret ?_
  exact ret_of (res1 rfl rfl) sub_nil (by intro r hr; cases hr) ⟨rfl, rfl⟩
set_option maxRecDepth 100000 in
theorem ct_shotlineref01_weight (g : Gs) (hg : 0 ≤ g.o ∧ 0 ≤ g.h ∧ g.o + g.h ≤ 1000) : Ct Try.prog 166 [.agg (cGs g).toArray] [] (isV (.int .i64 (wgM g))) := by
  refine Ct.of (N := 14) Try.func166 rfl rfl rfl fun w => ?_
  refine C_weak (E' := [(0, .agg (cGs g).toArray)]) (rs' := []) ⟨rfl, trivial⟩ (fun _ h => h) ?_
  refine C_seq ?_
  refine C_region ?_
  refine L_box rfl rfl rfl fun g1 => ?_
  refine L_q rfl rfl rfl (q_assign rfl) ?_
  refine L_then ?_
  refine C_seq ?_
  refine C_draw (n := 11) [(0, false), (1, false), (2, false), (3, false), (4, false), (5, false), (6, false), (7, false), (8, true), (9, false), (10, false)] mixed (by kernel_rfl) ?_
  refine W_q rfl rfl rfl rfl (q_field tb rfl rfl rfl) ?_
  refine W_q rfl rfl rfl rfl (q_load tb rfl rfl bxo rfl) ?_
  refine W_q rfl rfl rfl rfl (q_mul rfl rfl (by first | exact IntWalk.i64_in _ (by omega) | rfl)) ?_
  refine W_q rfl rfl rfl rfl (q_field tb rfl rfl rfl) ?_
  refine W_q rfl rfl rfl rfl (q_load tb rfl rfl bxo rfl) ?_
  refine W_q rfl rfl rfl rfl (q_mul rfl rfl (by first | exact IntWalk.i64_in _ (by omega) | rfl)) ?_
  refine W_q rfl rfl rfl rfl (q_add rfl rfl (by first | exact IntWalk.i64_in _ (by omega) | rfl)) ?_
  refine W_q rfl rfl rfl rfl (q_loadA tb rfl rfl bxo rfl rfl) ?_
  refine W_call tb rfl rfl rfl rfl (ct_shotlineref01_Nitrogen g hg) no_ps rfl ?_
  refine W_q rfl rfl rfl rfl (q_mul rfl rfl (by first | exact IntWalk.i64_in _ (by omega) | rfl)) ?_
  refine W_q rfl rfl rfl rfl (q_add rfl rfl (by first | exact IntWalk.i64_in _ (by omega) | rfl)) ?_
  refine W_nil ?_
  refine L_q rfl rfl rfl (q_assign rfl) ?_
  refine L_then ?_
  refine C_ret ?_
  exact ret_of (res1 rfl rfl) sub_nil (by intro r hr; cases hr) ⟨(congrArg (Value.int .i64) (by unfold wgM; omega)), rfl⟩
set_option maxRecDepth 100000 in
theorem ct_shotlineref01_EquivalentNarcotic (g : Gs) (sf d : Int) (hg : 0 ≤ g.o ∧ 0 ≤ g.h ∧ g.o + g.h ≤ 1000) (hs : 400 ≤ sf ∧ sf ≤ 1100) (hd : 0 ≤ d ∧ d ≤ 30000) : Ct Try.prog 137 [.agg (cGs g).toArray, .int .i64 sf, .int .i64 d] [] (isV (.agg #[.int .i64 (narM g sf d).lo, .int .i64 (narM g sf d).hi])) := by
  refine Ct.of (N := 26) Try.func137 rfl rfl rfl fun w => ?_
  refine C_weak (E' := [(0, .agg (cGs g).toArray), (1, .int .i64 sf), (2, .int .i64 d)]) (rs' := []) ⟨rfl, rfl, rfl, trivial⟩ (fun _ h => h) ?_
  have hnf := nar_fact (g := g) (q := sf + d) (by omega) (by omega)
  have hq0 := Int.ediv_nonneg hnf.1 (show (0 : Int) ≤ 1000 by omega); have hq3 := Int.ediv_le_self (1000 : Int) hnf.1; have hup := upZ_in (N := (1000 - g.h) * (sf + d)) (b := 1000) ⟨hnf.1, Int.le_refl _⟩ (by omega)
  refine C_seq ?_
  refine C_region ?_
  refine L_box rfl rfl rfl fun g3 => ?_
  refine L_alloc tb rfl rfl fun g6 => ?_
  refine L_then ?_
  refine C_seq ?_
  refine C_region ?_
  refine L_q rfl rfl rfl (q_field tb rfl rfl rfl) ?_
  refine L_q rfl rfl rfl (q_load tb rfl rfl bxo rfl) ?_
  refine L_q rfl rfl rfl (q_sub rfl rfl (by first | exact IntWalk.i64_in _ (by omega) | rfl)) ?_
  refine L_q rfl rfl rfl (q_move rfl) ?_
  refine L_q rfl rfl rfl (q_move rfl) ?_
  refine L_q rfl rfl rfl (q_add rfl rfl (by first | exact IntWalk.i64_in _ (by omega) | rfl)) ?_
  refine L_q rfl rfl rfl (q_mul rfl rfl (by first | exact IntWalk.i64_in _ (by omega) | rfl)) ?_
  refine L_q rfl rfl rfl (q_assign rfl) ?_
  refine L_then ?_
  refine C_seq ?_
  refine C_region ?_
  refine L_q rfl rfl rfl (q_move rfl) ?_
  refine L_call tb rfl rfl (ct_shotlinebase_Floor ((1000 - g.h) * (sf + d)) 1000 (by first | omega | exact ⟨by omega, by omega, by omega⟩)) no_ps rfl ?_
  refine L_q rfl rfl rfl (q_move rfl) ?_
  refine L_q rfl rfl rfl (q_sub rfl rfl (by first | exact IntWalk.i64_in _ (by omega) | rfl)) ?_
  refine L_q rfl rfl rfl (q_max rfl rfl) ?_
  refine L_q rfl rfl rfl (q_move rfl) ?_
  refine L_call tb rfl rfl (ct_shotlinebase_Ceil ((1000 - g.h) * (sf + d)) 1000 (by omega)) no_ps rfl ?_
  refine L_q rfl rfl rfl (q_move rfl) ?_
  refine L_q rfl rfl rfl (q_sub rfl rfl (by first | exact IntWalk.i64_in _ (by omega) | rfl)) ?_
  refine L_q rfl rfl rfl (q_max rfl rfl) ?_
  refine L_q rfl rfl rfl (by first | exact q_build tb rfl rfl rfl rfl | exact q_buildArr tb rfl rfl rfl rfl rfl) ?_
  first | refine L_store tb rfl rfl rfl rfl rfl rfl rfl rfl ?_ | (refine L_front1 ?_; refine L_store tb rfl rfl rfl rfl rfl rfl rfl rfl ?_) | (refine L_front2 ?_; refine L_store tb rfl rfl rfl rfl rfl rfl rfl rfl ?_) | (refine L_front3 ?_; refine L_store tb rfl rfl rfl rfl rfl rfl rfl rfl ?_) | (refine L_front4 ?_; refine L_store tb rfl rfl rfl rfl rfl rfl rfl rfl ?_) | (refine L_front5 ?_; refine L_store tb rfl rfl rfl rfl rfl rfl rfl rfl ?_) | (refine L_front6 ?_; refine L_store tb rfl rfl rfl rfl rfl rfl rfl rfl ?_)
  refine L_then ?_
  refine C_ret ?_
  exact ret_of (resC tb rfl rfl rfl bxo rfl) sub_nil (by intro r hr; cases hr) ⟨rfl, rfl⟩
set_option maxRecDepth 100000 in
theorem ct_shotlineref01_Density (g : Gs) (p : Int) (hg : 0 ≤ g.o ∧ 0 ≤ g.h ∧ g.o + g.h ≤ 1000) (hp : 0 ≤ p ∧ p ≤ 100000) : Ct Try.prog 138 [.agg (cGs g).toArray, .int .i64 p] [] (isV (.agg #[.int .i64 (denM g p).lo, .int .i64 (denM g p).hi])) := by
  refine Ct.of (N := 15) Try.func138 rfl rfl rfl fun w => ?_
  refine C_weak (E' := [(0, .agg (cGs g).toArray), (1, .int .i64 p)]) (rs' := []) ⟨rfl, rfl, trivial⟩ (fun _ h => h) ?_
  have hwf := wg_fact (g := g) (p := p) hg hp
  refine C_seq ?_
  refine C_region ?_
  refine L_box rfl rfl rfl fun g2 => ?_
  refine L_alloc tb rfl rfl fun g4 => ?_
  refine L_then ?_
  refine C_seq ?_
  refine C_region ?_
  refine L_q rfl rfl rfl (q_loadA tb rfl rfl bxo rfl rfl) ?_
  refine L_call tb rfl rfl (ct_shotlineref01_weight g hg) no_ps rfl ?_
  refine L_q rfl rfl rfl (q_move rfl) ?_
  refine L_q rfl rfl rfl (q_mul rfl rfl (by first | exact IntWalk.i64_in _ (by omega) | rfl)) ?_
  refine L_q rfl rfl rfl (q_assign rfl) ?_
  refine L_then ?_
  refine C_seq ?_
  refine C_region ?_
  refine L_q rfl rfl rfl (q_move rfl) ?_
  refine L_call tb rfl rfl (ct_shotlinebase_Floor (wgM g * p) 1013000 (by first | omega | exact ⟨by omega, by omega, by omega⟩)) no_ps rfl ?_
  refine L_q rfl rfl rfl (q_move rfl) ?_
  refine L_call tb rfl rfl (ct_shotlinebase_Ceil (wgM g * p) 1013000 (by omega)) no_ps rfl ?_
  refine L_q rfl rfl rfl (by first | exact q_build tb rfl rfl rfl rfl | exact q_buildArr tb rfl rfl rfl rfl rfl) ?_
  first | refine L_store tb rfl rfl rfl rfl rfl rfl rfl rfl ?_ | (refine L_front1 ?_; refine L_store tb rfl rfl rfl rfl rfl rfl rfl rfl ?_) | (refine L_front2 ?_; refine L_store tb rfl rfl rfl rfl rfl rfl rfl rfl ?_) | (refine L_front3 ?_; refine L_store tb rfl rfl rfl rfl rfl rfl rfl rfl ?_) | (refine L_front4 ?_; refine L_store tb rfl rfl rfl rfl rfl rfl rfl rfl ?_) | (refine L_front5 ?_; refine L_store tb rfl rfl rfl rfl rfl rfl rfl rfl ?_) | (refine L_front6 ?_; refine L_store tb rfl rfl rfl rfl rfl rfl rfl rfl ?_)
  refine L_then ?_
  refine C_ret ?_
  exact ret_of (resC tb rfl rfl rfl bxo rfl) sub_nil (by intro r hr; cases hr) ⟨rfl, rfl⟩
set_option maxRecDepth 100000 in
set_option maxHeartbeats 2000000 in
theorem ct_shotlineref05_breaksAt (t : Value) (g : Gs) (sf a b : Int) (r : Ru) (hg : 0 ≤ g.o ∧ 0 ≤ g.h ∧ g.o + g.h ≤ 1000) (hs : 400 ≤ sf ∧ sf ≤ 1100) (ha : sf ≤ a ∧ a ≤ sf + 30000) (hb : sf ≤ b ∧ b ≤ sf + 30000) (HR : okRu r) : Ct Try.prog 90 [.agg (cGs g).toArray, .int .i64 sf, .int .i64 a, .int .i64 b, .agg (cRu t r).toArray] [(t, 2, r.tb.map cOw)] (isSl 3 1 ((brkL g sf a b r).map cI)) := by
  refine Ct.of (N := 68) Try.func90 rfl rfl rfl fun w => ?_
  refine C_weak (E' := [(0, .agg (cGs g).toArray), (1, .int .i64 sf), (2, .int .i64 a), (3, .int .i64 b), (4, .agg (cRu t r).toArray)]) (rs' := [rd t 2 (r.tb.map cOw)]) ⟨rfl, rfl, rfl, rfl, rfl, trivial⟩ (fun _ h => h) ?_
  have hl1 := len_map cOw r.tb
  have hli := HR.li
  have hm1 := mulB (a := g.o) (b := min a b) (A := 1000) (B := 31100) (by omega) (by omega); have hm2 := mulB (a := g.o) (b := max a b) (A := 1000) (B := 31100) (by omega) (by omega)
  refine C_seq ?_
  refine C_region ?_
  refine L_box rfl rfl rfl fun g5 => ?_
  refine L_box rfl rfl rfl fun g9 => ?_
  refine L_q rfl rfl rfl (q_assign rfl) ?_
  refine L_then ?_
  refine C_seq ?_
  refine C_region ?_
  refine L_q rfl rfl rfl (q_assign rfl) ?_
  refine L_then ?_
  refine C_seq ?_
  refine C_seq ?_
  refine C_nil 3 1 ?_
  refine C_region ?_
  refine L_q rfl rfl rfl (q_field tb rfl rfl rfl) ?_
  refine L_q rfl rfl rfl (q_load tb rfl rfl bxo rfl) ?_
  refine L_q rfl rfl rfl (q_move rfl) ?_
  refine L_q rfl rfl rfl (q_move rfl) ?_
  refine L_q rfl rfl rfl (q_min rfl rfl) ?_
  refine L_q rfl rfl rfl (q_mul rfl rfl (by first | exact IntWalk.i64_in _ (by omega) | rfl)) ?_
  refine L_q rfl rfl rfl (q_field tb rfl rfl rfl) ?_
  refine L_q rfl rfl rfl (q_field tb rfl rfl rfl) ?_
  refine L_q rfl rfl rfl (q_load tb rfl rfl bxo rfl) ?_
  refine L_q rfl rfl rfl (q_mul rfl rfl (by first | exact IntWalk.i64_in _ (by omega) | rfl)) ?_
  refine L_q rfl rfl rfl (q_lss rfl rfl) ?_
  refine L_then ?_
  refine C_dec rfl (fun h1 => ?_) (fun h1 => ?_)
  · -- t22 True
    refine C_region ?_
    refine L_q rfl rfl rfl (q_move rfl) ?_
    refine L_mk (lo_bslice tb rfl rfl rfl (xs := [cI 1]) rfl rfl (by simp [cI]) rfl (by omega) rfl) rfl rfl rfl fun v24 => ?_
    first | (refine L_front1 ?_; refine L_append tb rfl rfl rfl (by omega) rfl rfl (by first | exact gvo | exact gvd gvo (by omega)) (by simp [Value.oneCell', cI]) (by simp [maxLen]) (by simp) rfl fun v25 => ?_) | (refine L_front2 ?_; refine L_append tb rfl rfl rfl (by omega) rfl rfl (by first | exact gvo | exact gvd gvo (by omega)) (by simp [Value.oneCell', cI]) (by simp [maxLen]) (by simp) rfl fun v25 => ?_) | (refine L_front3 ?_; refine L_append tb rfl rfl rfl (by omega) rfl rfl (by first | exact gvo | exact gvd gvo (by omega)) (by simp [Value.oneCell', cI]) (by simp [maxLen]) (by simp) rfl fun v25 => ?_) | (refine L_front4 ?_; refine L_append tb rfl rfl rfl (by omega) rfl rfl (by first | exact gvo | exact gvd gvo (by omega)) (by simp [Value.oneCell', cI]) (by simp [maxLen]) (by simp) rfl fun v25 => ?_) | (refine L_front5 ?_; refine L_append tb rfl rfl rfl (by omega) rfl rfl (by first | exact gvo | exact gvd gvo (by omega)) (by simp [Value.oneCell', cI]) (by simp [maxLen]) (by simp) rfl fun v25 => ?_) | (refine L_front6 ?_; refine L_append tb rfl rfl rfl (by omega) rfl rfl (by first | exact gvo | exact gvd gvo (by omega)) (by simp [Value.oneCell', cI]) (by simp [maxLen]) (by simp) rfl fun v25 => ?_) | (refine L_append tb rfl rfl rfl (by omega) rfl rfl (by first | exact gvo | exact gvd gvo (by omega)) (by simp [Value.oneCell', cI]) (by simp [maxLen]) (by simp) rfl fun v25 => ?_)
    refine L_q rfl rfl rfl (q_assign rfl) ?_
    refine L_then ?_
    refine C_seq ?_
    refine C_seq ?_
    refine C_region ?_
    refine L_q rfl rfl rfl (q_field tb rfl rfl rfl) ?_
    refine L_q rfl rfl rfl (q_load tb rfl rfl bxo rfl) ?_
    refine L_q rfl rfl rfl (q_move rfl) ?_
    refine L_q rfl rfl rfl (q_move rfl) ?_
    refine L_q rfl rfl rfl (q_max rfl rfl) ?_
    refine L_q rfl rfl rfl (q_mul rfl rfl (by first | exact IntWalk.i64_in _ (by omega) | rfl)) ?_
    refine L_q rfl rfl rfl (q_field tb rfl rfl rfl) ?_
    refine L_q rfl rfl rfl (q_field tb rfl rfl rfl) ?_
    refine L_q rfl rfl rfl (q_load tb rfl rfl bxo rfl) ?_
    refine L_q rfl rfl rfl (q_mul rfl rfl (by first | exact IntWalk.i64_in _ (by omega) | rfl)) ?_
    refine L_q rfl rfl rfl (q_gtr rfl rfl) ?_
    refine L_then ?_
    refine C_dec rfl (fun h2 => ?_) (fun h2 => ?_)
    · -- t36 True
      refine C_region ?_
      refine L_q rfl rfl rfl (q_move rfl) ?_
      refine L_mk (lo_bslice tb rfl rfl rfl (xs := [cI 2]) rfl rfl (by simp [cI]) rfl (by omega) rfl) rfl rfl rfl fun v38 => ?_
      first | (refine L_front1 ?_; refine L_append tb rfl rfl rfl (by omega) rfl rfl (by first | exact gvo | exact gvd gvo (by omega)) (by simp [Value.oneCell', cI]) (by simp [maxLen]) (by simp) rfl fun v39 => ?_) | (refine L_front2 ?_; refine L_append tb rfl rfl rfl (by omega) rfl rfl (by first | exact gvo | exact gvd gvo (by omega)) (by simp [Value.oneCell', cI]) (by simp [maxLen]) (by simp) rfl fun v39 => ?_) | (refine L_front3 ?_; refine L_append tb rfl rfl rfl (by omega) rfl rfl (by first | exact gvo | exact gvd gvo (by omega)) (by simp [Value.oneCell', cI]) (by simp [maxLen]) (by simp) rfl fun v39 => ?_) | (refine L_front4 ?_; refine L_append tb rfl rfl rfl (by omega) rfl rfl (by first | exact gvo | exact gvd gvo (by omega)) (by simp [Value.oneCell', cI]) (by simp [maxLen]) (by simp) rfl fun v39 => ?_) | (refine L_front5 ?_; refine L_append tb rfl rfl rfl (by omega) rfl rfl (by first | exact gvo | exact gvd gvo (by omega)) (by simp [Value.oneCell', cI]) (by simp [maxLen]) (by simp) rfl fun v39 => ?_) | (refine L_front6 ?_; refine L_append tb rfl rfl rfl (by omega) rfl rfl (by first | exact gvo | exact gvd gvo (by omega)) (by simp [Value.oneCell', cI]) (by simp [maxLen]) (by simp) rfl fun v39 => ?_) | (refine L_append tb rfl rfl rfl (by omega) rfl rfl (by first | exact gvo | exact gvd gvo (by omega)) (by simp [Value.oneCell', cI]) (by simp [maxLen]) (by simp) rfl fun v39 => ?_)
      refine L_q rfl rfl rfl (q_assign rfl) ?_
      refine L_then ?_
      refine C_seq ?_
      refine C_seq ?_
      refine C_draw (n := 12) [(0, false), (1, false), (2, false), (3, false), (4, false), (5, false), (6, false), (9, false), (10, false), (7, true), (8, false), (11, false)] mixed (by kernel_rfl) ?_
      refine W_q rfl rfl rfl rfl (q_loadA tb rfl rfl bxo rfl rfl) ?_
      refine W_q rfl rfl rfl rfl (q_move rfl) ?_
      refine W_q rfl rfl rfl rfl (q_move rfl) ?_
      refine W_q rfl rfl rfl rfl (q_move rfl) ?_
      refine W_q rfl rfl rfl rfl (q_max rfl rfl) ?_
      refine W_q rfl rfl rfl rfl (q_move rfl) ?_
      refine W_q rfl rfl rfl rfl (q_sub rfl rfl (by first | exact IntWalk.i64_in _ (by omega) | rfl)) ?_
      refine W_q rfl rfl rfl rfl (q_field tb rfl rfl rfl) ?_
      refine W_q rfl rfl rfl rfl (q_load tb rfl rfl bxo rfl) ?_
      refine W_call tb rfl rfl rfl rfl (ct_shotlineref01_EquivalentNarcotic g sf (max a b - sf) (by omega) hs (by omega)) no_ps rfl ?_
      refine W_q rfl rfl rfl rfl (by first | exact q_fieldV (off := 1) (sz := 1) (by kernel_rfl) rfl rfl | exact q_fieldVA (off := 1) (sz := 1) (by kernel_rfl) rfl rfl) ?_
      refine W_q rfl rfl rfl rfl (q_gtr rfl rfl) ?_
      refine W_nil ?_
      refine L_then ?_
      refine C_dec rfl (fun h3 => ?_) (fun h3 => ?_)
      · -- t51 True
        refine C_region ?_
        refine L_q rfl rfl rfl (q_move rfl) ?_
        refine L_mk (lo_bslice tb rfl rfl rfl (xs := [cI 3]) rfl rfl (by simp [cI]) rfl (by omega) rfl) rfl rfl rfl fun v53 => ?_
        first | (refine L_front1 ?_; refine L_append tb rfl rfl rfl (by omega) rfl rfl (by first | exact gvo | exact gvd gvo (by omega)) (by simp [Value.oneCell', cI]) (by simp [maxLen]) (by simp) rfl fun v54 => ?_) | (refine L_front2 ?_; refine L_append tb rfl rfl rfl (by omega) rfl rfl (by first | exact gvo | exact gvd gvo (by omega)) (by simp [Value.oneCell', cI]) (by simp [maxLen]) (by simp) rfl fun v54 => ?_) | (refine L_front3 ?_; refine L_append tb rfl rfl rfl (by omega) rfl rfl (by first | exact gvo | exact gvd gvo (by omega)) (by simp [Value.oneCell', cI]) (by simp [maxLen]) (by simp) rfl fun v54 => ?_) | (refine L_front4 ?_; refine L_append tb rfl rfl rfl (by omega) rfl rfl (by first | exact gvo | exact gvd gvo (by omega)) (by simp [Value.oneCell', cI]) (by simp [maxLen]) (by simp) rfl fun v54 => ?_) | (refine L_front5 ?_; refine L_append tb rfl rfl rfl (by omega) rfl rfl (by first | exact gvo | exact gvd gvo (by omega)) (by simp [Value.oneCell', cI]) (by simp [maxLen]) (by simp) rfl fun v54 => ?_) | (refine L_front6 ?_; refine L_append tb rfl rfl rfl (by omega) rfl rfl (by first | exact gvo | exact gvd gvo (by omega)) (by simp [Value.oneCell', cI]) (by simp [maxLen]) (by simp) rfl fun v54 => ?_) | (refine L_append tb rfl rfl rfl (by omega) rfl rfl (by first | exact gvo | exact gvd gvo (by omega)) (by simp [Value.oneCell', cI]) (by simp [maxLen]) (by simp) rfl fun v54 => ?_)
        refine L_q rfl rfl rfl (q_assign rfl) ?_
        refine L_then ?_
        refine C_seq ?_
        refine C_seq ?_
        refine C_draw (n := 9) [(0, false), (1, false), (2, false), (3, false), (6, false), (7, false), (4, true), (5, false), (8, false)] mixed (by kernel_rfl) ?_
        refine W_q rfl rfl rfl rfl (q_loadA tb rfl rfl bxo rfl rfl) ?_
        refine W_q rfl rfl rfl rfl (q_move rfl) ?_
        refine W_q rfl rfl rfl rfl (q_move rfl) ?_
        refine W_q rfl rfl rfl rfl (q_max rfl rfl) ?_
        refine W_q rfl rfl rfl rfl (q_field tb rfl rfl rfl) ?_
        refine W_q rfl rfl rfl rfl (q_load tb rfl rfl bxo rfl) ?_
        refine W_call tb rfl rfl rfl rfl (ct_shotlineref01_Density g (max a b) (by omega) (by omega)) no_ps rfl ?_
        refine W_q rfl rfl rfl rfl (by first | exact q_fieldV (off := 1) (sz := 1) (by kernel_rfl) rfl rfl | exact q_fieldVA (off := 1) (sz := 1) (by kernel_rfl) rfl rfl) ?_
        refine W_q rfl rfl rfl rfl (q_gtr rfl rfl) ?_
        refine W_nil ?_
        refine L_then ?_
        refine C_dec rfl (fun h4 => ?_) (fun h4 => ?_)
        · -- t63 True
          refine C_region ?_
          refine L_q rfl rfl rfl (q_move rfl) ?_
          refine L_mk (lo_bslice tb rfl rfl rfl (xs := [cI 4]) rfl rfl (by simp [cI]) rfl (by omega) rfl) rfl rfl rfl fun v65 => ?_
          first | (refine L_front1 ?_; refine L_append tb rfl rfl rfl (by omega) rfl rfl (by first | exact gvo | exact gvd gvo (by omega)) (by simp [Value.oneCell', cI]) (by simp [maxLen]) (by simp) rfl fun v66 => ?_) | (refine L_front2 ?_; refine L_append tb rfl rfl rfl (by omega) rfl rfl (by first | exact gvo | exact gvd gvo (by omega)) (by simp [Value.oneCell', cI]) (by simp [maxLen]) (by simp) rfl fun v66 => ?_) | (refine L_front3 ?_; refine L_append tb rfl rfl rfl (by omega) rfl rfl (by first | exact gvo | exact gvd gvo (by omega)) (by simp [Value.oneCell', cI]) (by simp [maxLen]) (by simp) rfl fun v66 => ?_) | (refine L_front4 ?_; refine L_append tb rfl rfl rfl (by omega) rfl rfl (by first | exact gvo | exact gvd gvo (by omega)) (by simp [Value.oneCell', cI]) (by simp [maxLen]) (by simp) rfl fun v66 => ?_) | (refine L_front5 ?_; refine L_append tb rfl rfl rfl (by omega) rfl rfl (by first | exact gvo | exact gvd gvo (by omega)) (by simp [Value.oneCell', cI]) (by simp [maxLen]) (by simp) rfl fun v66 => ?_) | (refine L_front6 ?_; refine L_append tb rfl rfl rfl (by omega) rfl rfl (by first | exact gvo | exact gvd gvo (by omega)) (by simp [Value.oneCell', cI]) (by simp [maxLen]) (by simp) rfl fun v66 => ?_) | (refine L_append tb rfl rfl rfl (by omega) rfl rfl (by first | exact gvo | exact gvd gvo (by omega)) (by simp [Value.oneCell', cI]) (by simp [maxLen]) (by simp) rfl fun v66 => ?_)
          refine L_q rfl rfl rfl (q_assign rfl) ?_
          refine L_then ?_
          refine C_seq ?_
          refine C_region ?_
          refine L_q rfl rfl rfl (q_move rfl) ?_
          refine L_q rfl rfl rfl (q_assign rfl) ?_
          refine L_then ?_
          refine C_ret ?_
          have e9 : [cI 1, cI 2, cI 3, cI 4] = (brkL g sf a b r).map cI := by unfold brkL; rw [if_pos h1, if_pos h2, if_pos h3, if_pos h4]; rfl
          exact ret_of (rs' := [sl v66 3 1 ((brkL g sf a b r).map cI)]) (res1 rfl rfl) (fun w_ h_ => h_.pk (by repeat (first | with_reducible exact pk_nil | refine pk_box (by first | rfl | exact e9) ?_ | refine pk_rd rfl ?_ | refine pk_sl (by first | rfl | exact e9) ?_ | with_reducible refine pk_app ?_ | with_reducible refine pk_app0 ?_ | with_reducible refine pk_app0L ?_ | with_reducible exact pk_tl | refine pk_var ?_))) own1 rfl
        · -- t63 False
          refine C_skip_then ?_
          refine C_seq ?_
          refine C_region ?_
          refine L_q rfl rfl rfl (q_move rfl) ?_
          refine L_q rfl rfl rfl (q_assign rfl) ?_
          refine L_then ?_
          refine C_ret ?_
          have e9 : [cI 1, cI 2, cI 3] = (brkL g sf a b r).map cI := by unfold brkL; rw [if_pos h1, if_pos h2, if_pos h3, if_neg h4]; rfl
          exact ret_of (rs' := [sl v54 3 1 ((brkL g sf a b r).map cI)]) (res1 rfl rfl) (fun w_ h_ => h_.pk (by repeat (first | with_reducible exact pk_nil | refine pk_box (by first | rfl | exact e9) ?_ | refine pk_rd rfl ?_ | refine pk_sl (by first | rfl | exact e9) ?_ | with_reducible refine pk_app ?_ | with_reducible refine pk_app0 ?_ | with_reducible refine pk_app0L ?_ | with_reducible exact pk_tl | refine pk_var ?_))) own1 rfl
      · -- t51 False
        refine C_skip_then ?_
        refine C_seq ?_
        refine C_seq ?_
        refine C_draw (n := 9) [(0, false), (1, false), (2, false), (3, false), (6, false), (7, false), (4, true), (5, false), (8, false)] mixed (by kernel_rfl) ?_
        refine W_q rfl rfl rfl rfl (q_loadA tb rfl rfl bxo rfl rfl) ?_
        refine W_q rfl rfl rfl rfl (q_move rfl) ?_
        refine W_q rfl rfl rfl rfl (q_move rfl) ?_
        refine W_q rfl rfl rfl rfl (q_max rfl rfl) ?_
        refine W_q rfl rfl rfl rfl (q_field tb rfl rfl rfl) ?_
        refine W_q rfl rfl rfl rfl (q_load tb rfl rfl bxo rfl) ?_
        refine W_call tb rfl rfl rfl rfl (ct_shotlineref01_Density g (max a b) (by omega) (by omega)) no_ps rfl ?_
        refine W_q rfl rfl rfl rfl (by first | exact q_fieldV (off := 1) (sz := 1) (by kernel_rfl) rfl rfl | exact q_fieldVA (off := 1) (sz := 1) (by kernel_rfl) rfl rfl) ?_
        refine W_q rfl rfl rfl rfl (q_gtr rfl rfl) ?_
        refine W_nil ?_
        refine L_then ?_
        refine C_dec rfl (fun h4 => ?_) (fun h4 => ?_)
        · -- t63 True
          refine C_region ?_
          refine L_q rfl rfl rfl (q_move rfl) ?_
          refine L_mk (lo_bslice tb rfl rfl rfl (xs := [cI 4]) rfl rfl (by simp [cI]) rfl (by omega) rfl) rfl rfl rfl fun v65 => ?_
          first | (refine L_front1 ?_; refine L_append tb rfl rfl rfl (by omega) rfl rfl (by first | exact gvo | exact gvd gvo (by omega)) (by simp [Value.oneCell', cI]) (by simp [maxLen]) (by simp) rfl fun v66 => ?_) | (refine L_front2 ?_; refine L_append tb rfl rfl rfl (by omega) rfl rfl (by first | exact gvo | exact gvd gvo (by omega)) (by simp [Value.oneCell', cI]) (by simp [maxLen]) (by simp) rfl fun v66 => ?_) | (refine L_front3 ?_; refine L_append tb rfl rfl rfl (by omega) rfl rfl (by first | exact gvo | exact gvd gvo (by omega)) (by simp [Value.oneCell', cI]) (by simp [maxLen]) (by simp) rfl fun v66 => ?_) | (refine L_front4 ?_; refine L_append tb rfl rfl rfl (by omega) rfl rfl (by first | exact gvo | exact gvd gvo (by omega)) (by simp [Value.oneCell', cI]) (by simp [maxLen]) (by simp) rfl fun v66 => ?_) | (refine L_front5 ?_; refine L_append tb rfl rfl rfl (by omega) rfl rfl (by first | exact gvo | exact gvd gvo (by omega)) (by simp [Value.oneCell', cI]) (by simp [maxLen]) (by simp) rfl fun v66 => ?_) | (refine L_front6 ?_; refine L_append tb rfl rfl rfl (by omega) rfl rfl (by first | exact gvo | exact gvd gvo (by omega)) (by simp [Value.oneCell', cI]) (by simp [maxLen]) (by simp) rfl fun v66 => ?_) | (refine L_append tb rfl rfl rfl (by omega) rfl rfl (by first | exact gvo | exact gvd gvo (by omega)) (by simp [Value.oneCell', cI]) (by simp [maxLen]) (by simp) rfl fun v66 => ?_)
          refine L_q rfl rfl rfl (q_assign rfl) ?_
          refine L_then ?_
          refine C_seq ?_
          refine C_region ?_
          refine L_q rfl rfl rfl (q_move rfl) ?_
          refine L_q rfl rfl rfl (q_assign rfl) ?_
          refine L_then ?_
          refine C_ret ?_
          have e9 : [cI 1, cI 2, cI 4] = (brkL g sf a b r).map cI := by unfold brkL; rw [if_pos h1, if_pos h2, if_neg h3, if_pos h4]; rfl
          exact ret_of (rs' := [sl v66 3 1 ((brkL g sf a b r).map cI)]) (res1 rfl rfl) (fun w_ h_ => h_.pk (by repeat (first | with_reducible exact pk_nil | refine pk_box (by first | rfl | exact e9) ?_ | refine pk_rd rfl ?_ | refine pk_sl (by first | rfl | exact e9) ?_ | with_reducible refine pk_app ?_ | with_reducible refine pk_app0 ?_ | with_reducible refine pk_app0L ?_ | with_reducible exact pk_tl | refine pk_var ?_))) own1 rfl
        · -- t63 False
          refine C_skip_then ?_
          refine C_seq ?_
          refine C_region ?_
          refine L_q rfl rfl rfl (q_move rfl) ?_
          refine L_q rfl rfl rfl (q_assign rfl) ?_
          refine L_then ?_
          refine C_ret ?_
          have e9 : [cI 1, cI 2] = (brkL g sf a b r).map cI := by unfold brkL; rw [if_pos h1, if_pos h2, if_neg h3, if_neg h4]; rfl
          exact ret_of (rs' := [sl v39 3 1 ((brkL g sf a b r).map cI)]) (res1 rfl rfl) (fun w_ h_ => h_.pk (by repeat (first | with_reducible exact pk_nil | refine pk_box (by first | rfl | exact e9) ?_ | refine pk_rd rfl ?_ | refine pk_sl (by first | rfl | exact e9) ?_ | with_reducible refine pk_app ?_ | with_reducible refine pk_app0 ?_ | with_reducible refine pk_app0L ?_ | with_reducible exact pk_tl | refine pk_var ?_))) own1 rfl
    · -- t36 False
      refine C_skip_then ?_
      refine C_seq ?_
      refine C_seq ?_
      refine C_draw (n := 12) [(0, false), (1, false), (2, false), (3, false), (4, false), (5, false), (6, false), (9, false), (10, false), (7, true), (8, false), (11, false)] mixed (by kernel_rfl) ?_
      refine W_q rfl rfl rfl rfl (q_loadA tb rfl rfl bxo rfl rfl) ?_
      refine W_q rfl rfl rfl rfl (q_move rfl) ?_
      refine W_q rfl rfl rfl rfl (q_move rfl) ?_
      refine W_q rfl rfl rfl rfl (q_move rfl) ?_
      refine W_q rfl rfl rfl rfl (q_max rfl rfl) ?_
      refine W_q rfl rfl rfl rfl (q_move rfl) ?_
      refine W_q rfl rfl rfl rfl (q_sub rfl rfl (by first | exact IntWalk.i64_in _ (by omega) | rfl)) ?_
      refine W_q rfl rfl rfl rfl (q_field tb rfl rfl rfl) ?_
      refine W_q rfl rfl rfl rfl (q_load tb rfl rfl bxo rfl) ?_
      refine W_call tb rfl rfl rfl rfl (ct_shotlineref01_EquivalentNarcotic g sf (max a b - sf) (by omega) hs (by omega)) no_ps rfl ?_
      refine W_q rfl rfl rfl rfl (by first | exact q_fieldV (off := 1) (sz := 1) (by kernel_rfl) rfl rfl | exact q_fieldVA (off := 1) (sz := 1) (by kernel_rfl) rfl rfl) ?_
      refine W_q rfl rfl rfl rfl (q_gtr rfl rfl) ?_
      refine W_nil ?_
      refine L_then ?_
      refine C_dec rfl (fun h3 => ?_) (fun h3 => ?_)
      · -- t51 True
        refine C_region ?_
        refine L_q rfl rfl rfl (q_move rfl) ?_
        refine L_mk (lo_bslice tb rfl rfl rfl (xs := [cI 3]) rfl rfl (by simp [cI]) rfl (by omega) rfl) rfl rfl rfl fun v53 => ?_
        first | (refine L_front1 ?_; refine L_append tb rfl rfl rfl (by omega) rfl rfl (by first | exact gvo | exact gvd gvo (by omega)) (by simp [Value.oneCell', cI]) (by simp [maxLen]) (by simp) rfl fun v54 => ?_) | (refine L_front2 ?_; refine L_append tb rfl rfl rfl (by omega) rfl rfl (by first | exact gvo | exact gvd gvo (by omega)) (by simp [Value.oneCell', cI]) (by simp [maxLen]) (by simp) rfl fun v54 => ?_) | (refine L_front3 ?_; refine L_append tb rfl rfl rfl (by omega) rfl rfl (by first | exact gvo | exact gvd gvo (by omega)) (by simp [Value.oneCell', cI]) (by simp [maxLen]) (by simp) rfl fun v54 => ?_) | (refine L_front4 ?_; refine L_append tb rfl rfl rfl (by omega) rfl rfl (by first | exact gvo | exact gvd gvo (by omega)) (by simp [Value.oneCell', cI]) (by simp [maxLen]) (by simp) rfl fun v54 => ?_) | (refine L_front5 ?_; refine L_append tb rfl rfl rfl (by omega) rfl rfl (by first | exact gvo | exact gvd gvo (by omega)) (by simp [Value.oneCell', cI]) (by simp [maxLen]) (by simp) rfl fun v54 => ?_) | (refine L_front6 ?_; refine L_append tb rfl rfl rfl (by omega) rfl rfl (by first | exact gvo | exact gvd gvo (by omega)) (by simp [Value.oneCell', cI]) (by simp [maxLen]) (by simp) rfl fun v54 => ?_) | (refine L_append tb rfl rfl rfl (by omega) rfl rfl (by first | exact gvo | exact gvd gvo (by omega)) (by simp [Value.oneCell', cI]) (by simp [maxLen]) (by simp) rfl fun v54 => ?_)
        refine L_q rfl rfl rfl (q_assign rfl) ?_
        refine L_then ?_
        refine C_seq ?_
        refine C_seq ?_
        refine C_draw (n := 9) [(0, false), (1, false), (2, false), (3, false), (6, false), (7, false), (4, true), (5, false), (8, false)] mixed (by kernel_rfl) ?_
        refine W_q rfl rfl rfl rfl (q_loadA tb rfl rfl bxo rfl rfl) ?_
        refine W_q rfl rfl rfl rfl (q_move rfl) ?_
        refine W_q rfl rfl rfl rfl (q_move rfl) ?_
        refine W_q rfl rfl rfl rfl (q_max rfl rfl) ?_
        refine W_q rfl rfl rfl rfl (q_field tb rfl rfl rfl) ?_
        refine W_q rfl rfl rfl rfl (q_load tb rfl rfl bxo rfl) ?_
        refine W_call tb rfl rfl rfl rfl (ct_shotlineref01_Density g (max a b) (by omega) (by omega)) no_ps rfl ?_
        refine W_q rfl rfl rfl rfl (by first | exact q_fieldV (off := 1) (sz := 1) (by kernel_rfl) rfl rfl | exact q_fieldVA (off := 1) (sz := 1) (by kernel_rfl) rfl rfl) ?_
        refine W_q rfl rfl rfl rfl (q_gtr rfl rfl) ?_
        refine W_nil ?_
        refine L_then ?_
        refine C_dec rfl (fun h4 => ?_) (fun h4 => ?_)
        · -- t63 True
          refine C_region ?_
          refine L_q rfl rfl rfl (q_move rfl) ?_
          refine L_mk (lo_bslice tb rfl rfl rfl (xs := [cI 4]) rfl rfl (by simp [cI]) rfl (by omega) rfl) rfl rfl rfl fun v65 => ?_
          first | (refine L_front1 ?_; refine L_append tb rfl rfl rfl (by omega) rfl rfl (by first | exact gvo | exact gvd gvo (by omega)) (by simp [Value.oneCell', cI]) (by simp [maxLen]) (by simp) rfl fun v66 => ?_) | (refine L_front2 ?_; refine L_append tb rfl rfl rfl (by omega) rfl rfl (by first | exact gvo | exact gvd gvo (by omega)) (by simp [Value.oneCell', cI]) (by simp [maxLen]) (by simp) rfl fun v66 => ?_) | (refine L_front3 ?_; refine L_append tb rfl rfl rfl (by omega) rfl rfl (by first | exact gvo | exact gvd gvo (by omega)) (by simp [Value.oneCell', cI]) (by simp [maxLen]) (by simp) rfl fun v66 => ?_) | (refine L_front4 ?_; refine L_append tb rfl rfl rfl (by omega) rfl rfl (by first | exact gvo | exact gvd gvo (by omega)) (by simp [Value.oneCell', cI]) (by simp [maxLen]) (by simp) rfl fun v66 => ?_) | (refine L_front5 ?_; refine L_append tb rfl rfl rfl (by omega) rfl rfl (by first | exact gvo | exact gvd gvo (by omega)) (by simp [Value.oneCell', cI]) (by simp [maxLen]) (by simp) rfl fun v66 => ?_) | (refine L_front6 ?_; refine L_append tb rfl rfl rfl (by omega) rfl rfl (by first | exact gvo | exact gvd gvo (by omega)) (by simp [Value.oneCell', cI]) (by simp [maxLen]) (by simp) rfl fun v66 => ?_) | (refine L_append tb rfl rfl rfl (by omega) rfl rfl (by first | exact gvo | exact gvd gvo (by omega)) (by simp [Value.oneCell', cI]) (by simp [maxLen]) (by simp) rfl fun v66 => ?_)
          refine L_q rfl rfl rfl (q_assign rfl) ?_
          refine L_then ?_
          refine C_seq ?_
          refine C_region ?_
          refine L_q rfl rfl rfl (q_move rfl) ?_
          refine L_q rfl rfl rfl (q_assign rfl) ?_
          refine L_then ?_
          refine C_ret ?_
          have e9 : [cI 1, cI 3, cI 4] = (brkL g sf a b r).map cI := by unfold brkL; rw [if_pos h1, if_neg h2, if_pos h3, if_pos h4]; rfl
          exact ret_of (rs' := [sl v66 3 1 ((brkL g sf a b r).map cI)]) (res1 rfl rfl) (fun w_ h_ => h_.pk (by repeat (first | with_reducible exact pk_nil | refine pk_box (by first | rfl | exact e9) ?_ | refine pk_rd rfl ?_ | refine pk_sl (by first | rfl | exact e9) ?_ | with_reducible refine pk_app ?_ | with_reducible refine pk_app0 ?_ | with_reducible refine pk_app0L ?_ | with_reducible exact pk_tl | refine pk_var ?_))) own1 rfl
        · -- t63 False
          refine C_skip_then ?_
          refine C_seq ?_
          refine C_region ?_
          refine L_q rfl rfl rfl (q_move rfl) ?_
          refine L_q rfl rfl rfl (q_assign rfl) ?_
          refine L_then ?_
          refine C_ret ?_
          have e9 : [cI 1, cI 3] = (brkL g sf a b r).map cI := by unfold brkL; rw [if_pos h1, if_neg h2, if_pos h3, if_neg h4]; rfl
          exact ret_of (rs' := [sl v54 3 1 ((brkL g sf a b r).map cI)]) (res1 rfl rfl) (fun w_ h_ => h_.pk (by repeat (first | with_reducible exact pk_nil | refine pk_box (by first | rfl | exact e9) ?_ | refine pk_rd rfl ?_ | refine pk_sl (by first | rfl | exact e9) ?_ | with_reducible refine pk_app ?_ | with_reducible refine pk_app0 ?_ | with_reducible refine pk_app0L ?_ | with_reducible exact pk_tl | refine pk_var ?_))) own1 rfl
      · -- t51 False
        refine C_skip_then ?_
        refine C_seq ?_
        refine C_seq ?_
        refine C_draw (n := 9) [(0, false), (1, false), (2, false), (3, false), (6, false), (7, false), (4, true), (5, false), (8, false)] mixed (by kernel_rfl) ?_
        refine W_q rfl rfl rfl rfl (q_loadA tb rfl rfl bxo rfl rfl) ?_
        refine W_q rfl rfl rfl rfl (q_move rfl) ?_
        refine W_q rfl rfl rfl rfl (q_move rfl) ?_
        refine W_q rfl rfl rfl rfl (q_max rfl rfl) ?_
        refine W_q rfl rfl rfl rfl (q_field tb rfl rfl rfl) ?_
        refine W_q rfl rfl rfl rfl (q_load tb rfl rfl bxo rfl) ?_
        refine W_call tb rfl rfl rfl rfl (ct_shotlineref01_Density g (max a b) (by omega) (by omega)) no_ps rfl ?_
        refine W_q rfl rfl rfl rfl (by first | exact q_fieldV (off := 1) (sz := 1) (by kernel_rfl) rfl rfl | exact q_fieldVA (off := 1) (sz := 1) (by kernel_rfl) rfl rfl) ?_
        refine W_q rfl rfl rfl rfl (q_gtr rfl rfl) ?_
        refine W_nil ?_
        refine L_then ?_
        refine C_dec rfl (fun h4 => ?_) (fun h4 => ?_)
        · -- t63 True
          refine C_region ?_
          refine L_q rfl rfl rfl (q_move rfl) ?_
          refine L_mk (lo_bslice tb rfl rfl rfl (xs := [cI 4]) rfl rfl (by simp [cI]) rfl (by omega) rfl) rfl rfl rfl fun v65 => ?_
          first | (refine L_front1 ?_; refine L_append tb rfl rfl rfl (by omega) rfl rfl (by first | exact gvo | exact gvd gvo (by omega)) (by simp [Value.oneCell', cI]) (by simp [maxLen]) (by simp) rfl fun v66 => ?_) | (refine L_front2 ?_; refine L_append tb rfl rfl rfl (by omega) rfl rfl (by first | exact gvo | exact gvd gvo (by omega)) (by simp [Value.oneCell', cI]) (by simp [maxLen]) (by simp) rfl fun v66 => ?_) | (refine L_front3 ?_; refine L_append tb rfl rfl rfl (by omega) rfl rfl (by first | exact gvo | exact gvd gvo (by omega)) (by simp [Value.oneCell', cI]) (by simp [maxLen]) (by simp) rfl fun v66 => ?_) | (refine L_front4 ?_; refine L_append tb rfl rfl rfl (by omega) rfl rfl (by first | exact gvo | exact gvd gvo (by omega)) (by simp [Value.oneCell', cI]) (by simp [maxLen]) (by simp) rfl fun v66 => ?_) | (refine L_front5 ?_; refine L_append tb rfl rfl rfl (by omega) rfl rfl (by first | exact gvo | exact gvd gvo (by omega)) (by simp [Value.oneCell', cI]) (by simp [maxLen]) (by simp) rfl fun v66 => ?_) | (refine L_front6 ?_; refine L_append tb rfl rfl rfl (by omega) rfl rfl (by first | exact gvo | exact gvd gvo (by omega)) (by simp [Value.oneCell', cI]) (by simp [maxLen]) (by simp) rfl fun v66 => ?_) | (refine L_append tb rfl rfl rfl (by omega) rfl rfl (by first | exact gvo | exact gvd gvo (by omega)) (by simp [Value.oneCell', cI]) (by simp [maxLen]) (by simp) rfl fun v66 => ?_)
          refine L_q rfl rfl rfl (q_assign rfl) ?_
          refine L_then ?_
          refine C_seq ?_
          refine C_region ?_
          refine L_q rfl rfl rfl (q_move rfl) ?_
          refine L_q rfl rfl rfl (q_assign rfl) ?_
          refine L_then ?_
          refine C_ret ?_
          have e9 : [cI 1, cI 4] = (brkL g sf a b r).map cI := by unfold brkL; rw [if_pos h1, if_neg h2, if_neg h3, if_pos h4]; rfl
          exact ret_of (rs' := [sl v66 3 1 ((brkL g sf a b r).map cI)]) (res1 rfl rfl) (fun w_ h_ => h_.pk (by repeat (first | with_reducible exact pk_nil | refine pk_box (by first | rfl | exact e9) ?_ | refine pk_rd rfl ?_ | refine pk_sl (by first | rfl | exact e9) ?_ | with_reducible refine pk_app ?_ | with_reducible refine pk_app0 ?_ | with_reducible refine pk_app0L ?_ | with_reducible exact pk_tl | refine pk_var ?_))) own1 rfl
        · -- t63 False
          refine C_skip_then ?_
          refine C_seq ?_
          refine C_region ?_
          refine L_q rfl rfl rfl (q_move rfl) ?_
          refine L_q rfl rfl rfl (q_assign rfl) ?_
          refine L_then ?_
          refine C_ret ?_
          have e9 : [cI 1] = (brkL g sf a b r).map cI := by unfold brkL; rw [if_pos h1, if_neg h2, if_neg h3, if_neg h4]; rfl
          exact ret_of (rs' := [sl v25 3 1 ((brkL g sf a b r).map cI)]) (res1 rfl rfl) (fun w_ h_ => h_.pk (by repeat (first | with_reducible exact pk_nil | refine pk_box (by first | rfl | exact e9) ?_ | refine pk_rd rfl ?_ | refine pk_sl (by first | rfl | exact e9) ?_ | with_reducible refine pk_app ?_ | with_reducible refine pk_app0 ?_ | with_reducible refine pk_app0L ?_ | with_reducible exact pk_tl | refine pk_var ?_))) own1 rfl
  · -- t22 False
    refine C_skip_then ?_
    refine C_seq ?_
    refine C_seq ?_
    refine C_region ?_
    refine L_q rfl rfl rfl (q_field tb rfl rfl rfl) ?_
    refine L_q rfl rfl rfl (q_load tb rfl rfl bxo rfl) ?_
    refine L_q rfl rfl rfl (q_move rfl) ?_
    refine L_q rfl rfl rfl (q_move rfl) ?_
    refine L_q rfl rfl rfl (q_max rfl rfl) ?_
    refine L_q rfl rfl rfl (q_mul rfl rfl (by first | exact IntWalk.i64_in _ (by omega) | rfl)) ?_
    refine L_q rfl rfl rfl (q_field tb rfl rfl rfl) ?_
    refine L_q rfl rfl rfl (q_field tb rfl rfl rfl) ?_
    refine L_q rfl rfl rfl (q_load tb rfl rfl bxo rfl) ?_
    refine L_q rfl rfl rfl (q_mul rfl rfl (by first | exact IntWalk.i64_in _ (by omega) | rfl)) ?_
    refine L_q rfl rfl rfl (q_gtr rfl rfl) ?_
    refine L_then ?_
    refine C_dec rfl (fun h2 => ?_) (fun h2 => ?_)
    · -- t36 True
      refine C_region ?_
      refine L_q rfl rfl rfl (q_move rfl) ?_
      refine L_mk (lo_bslice tb rfl rfl rfl (xs := [cI 2]) rfl rfl (by simp [cI]) rfl (by omega) rfl) rfl rfl rfl fun v38 => ?_
      first | (refine L_front1 ?_; refine L_append tb rfl rfl rfl (by omega) rfl rfl (by first | exact gvo | exact gvd gvo (by omega)) (by simp [Value.oneCell', cI]) (by simp [maxLen]) (by simp) rfl fun v39 => ?_) | (refine L_front2 ?_; refine L_append tb rfl rfl rfl (by omega) rfl rfl (by first | exact gvo | exact gvd gvo (by omega)) (by simp [Value.oneCell', cI]) (by simp [maxLen]) (by simp) rfl fun v39 => ?_) | (refine L_front3 ?_; refine L_append tb rfl rfl rfl (by omega) rfl rfl (by first | exact gvo | exact gvd gvo (by omega)) (by simp [Value.oneCell', cI]) (by simp [maxLen]) (by simp) rfl fun v39 => ?_) | (refine L_front4 ?_; refine L_append tb rfl rfl rfl (by omega) rfl rfl (by first | exact gvo | exact gvd gvo (by omega)) (by simp [Value.oneCell', cI]) (by simp [maxLen]) (by simp) rfl fun v39 => ?_) | (refine L_front5 ?_; refine L_append tb rfl rfl rfl (by omega) rfl rfl (by first | exact gvo | exact gvd gvo (by omega)) (by simp [Value.oneCell', cI]) (by simp [maxLen]) (by simp) rfl fun v39 => ?_) | (refine L_front6 ?_; refine L_append tb rfl rfl rfl (by omega) rfl rfl (by first | exact gvo | exact gvd gvo (by omega)) (by simp [Value.oneCell', cI]) (by simp [maxLen]) (by simp) rfl fun v39 => ?_) | (refine L_append tb rfl rfl rfl (by omega) rfl rfl (by first | exact gvo | exact gvd gvo (by omega)) (by simp [Value.oneCell', cI]) (by simp [maxLen]) (by simp) rfl fun v39 => ?_)
      refine L_q rfl rfl rfl (q_assign rfl) ?_
      refine L_then ?_
      refine C_seq ?_
      refine C_seq ?_
      refine C_draw (n := 12) [(0, false), (1, false), (2, false), (3, false), (4, false), (5, false), (6, false), (9, false), (10, false), (7, true), (8, false), (11, false)] mixed (by kernel_rfl) ?_
      refine W_q rfl rfl rfl rfl (q_loadA tb rfl rfl bxo rfl rfl) ?_
      refine W_q rfl rfl rfl rfl (q_move rfl) ?_
      refine W_q rfl rfl rfl rfl (q_move rfl) ?_
      refine W_q rfl rfl rfl rfl (q_move rfl) ?_
      refine W_q rfl rfl rfl rfl (q_max rfl rfl) ?_
      refine W_q rfl rfl rfl rfl (q_move rfl) ?_
      refine W_q rfl rfl rfl rfl (q_sub rfl rfl (by first | exact IntWalk.i64_in _ (by omega) | rfl)) ?_
      refine W_q rfl rfl rfl rfl (q_field tb rfl rfl rfl) ?_
      refine W_q rfl rfl rfl rfl (q_load tb rfl rfl bxo rfl) ?_
      refine W_call tb rfl rfl rfl rfl (ct_shotlineref01_EquivalentNarcotic g sf (max a b - sf) (by omega) hs (by omega)) no_ps rfl ?_
      refine W_q rfl rfl rfl rfl (by first | exact q_fieldV (off := 1) (sz := 1) (by kernel_rfl) rfl rfl | exact q_fieldVA (off := 1) (sz := 1) (by kernel_rfl) rfl rfl) ?_
      refine W_q rfl rfl rfl rfl (q_gtr rfl rfl) ?_
      refine W_nil ?_
      refine L_then ?_
      refine C_dec rfl (fun h3 => ?_) (fun h3 => ?_)
      · -- t51 True
        refine C_region ?_
        refine L_q rfl rfl rfl (q_move rfl) ?_
        refine L_mk (lo_bslice tb rfl rfl rfl (xs := [cI 3]) rfl rfl (by simp [cI]) rfl (by omega) rfl) rfl rfl rfl fun v53 => ?_
        first | (refine L_front1 ?_; refine L_append tb rfl rfl rfl (by omega) rfl rfl (by first | exact gvo | exact gvd gvo (by omega)) (by simp [Value.oneCell', cI]) (by simp [maxLen]) (by simp) rfl fun v54 => ?_) | (refine L_front2 ?_; refine L_append tb rfl rfl rfl (by omega) rfl rfl (by first | exact gvo | exact gvd gvo (by omega)) (by simp [Value.oneCell', cI]) (by simp [maxLen]) (by simp) rfl fun v54 => ?_) | (refine L_front3 ?_; refine L_append tb rfl rfl rfl (by omega) rfl rfl (by first | exact gvo | exact gvd gvo (by omega)) (by simp [Value.oneCell', cI]) (by simp [maxLen]) (by simp) rfl fun v54 => ?_) | (refine L_front4 ?_; refine L_append tb rfl rfl rfl (by omega) rfl rfl (by first | exact gvo | exact gvd gvo (by omega)) (by simp [Value.oneCell', cI]) (by simp [maxLen]) (by simp) rfl fun v54 => ?_) | (refine L_front5 ?_; refine L_append tb rfl rfl rfl (by omega) rfl rfl (by first | exact gvo | exact gvd gvo (by omega)) (by simp [Value.oneCell', cI]) (by simp [maxLen]) (by simp) rfl fun v54 => ?_) | (refine L_front6 ?_; refine L_append tb rfl rfl rfl (by omega) rfl rfl (by first | exact gvo | exact gvd gvo (by omega)) (by simp [Value.oneCell', cI]) (by simp [maxLen]) (by simp) rfl fun v54 => ?_) | (refine L_append tb rfl rfl rfl (by omega) rfl rfl (by first | exact gvo | exact gvd gvo (by omega)) (by simp [Value.oneCell', cI]) (by simp [maxLen]) (by simp) rfl fun v54 => ?_)
        refine L_q rfl rfl rfl (q_assign rfl) ?_
        refine L_then ?_
        refine C_seq ?_
        refine C_seq ?_
        refine C_draw (n := 9) [(0, false), (1, false), (2, false), (3, false), (6, false), (7, false), (4, true), (5, false), (8, false)] mixed (by kernel_rfl) ?_
        refine W_q rfl rfl rfl rfl (q_loadA tb rfl rfl bxo rfl rfl) ?_
        refine W_q rfl rfl rfl rfl (q_move rfl) ?_
        refine W_q rfl rfl rfl rfl (q_move rfl) ?_
        refine W_q rfl rfl rfl rfl (q_max rfl rfl) ?_
        refine W_q rfl rfl rfl rfl (q_field tb rfl rfl rfl) ?_
        refine W_q rfl rfl rfl rfl (q_load tb rfl rfl bxo rfl) ?_
        refine W_call tb rfl rfl rfl rfl (ct_shotlineref01_Density g (max a b) (by omega) (by omega)) no_ps rfl ?_
        refine W_q rfl rfl rfl rfl (by first | exact q_fieldV (off := 1) (sz := 1) (by kernel_rfl) rfl rfl | exact q_fieldVA (off := 1) (sz := 1) (by kernel_rfl) rfl rfl) ?_
        refine W_q rfl rfl rfl rfl (q_gtr rfl rfl) ?_
        refine W_nil ?_
        refine L_then ?_
        refine C_dec rfl (fun h4 => ?_) (fun h4 => ?_)
        · -- t63 True
          refine C_region ?_
          refine L_q rfl rfl rfl (q_move rfl) ?_
          refine L_mk (lo_bslice tb rfl rfl rfl (xs := [cI 4]) rfl rfl (by simp [cI]) rfl (by omega) rfl) rfl rfl rfl fun v65 => ?_
          first | (refine L_front1 ?_; refine L_append tb rfl rfl rfl (by omega) rfl rfl (by first | exact gvo | exact gvd gvo (by omega)) (by simp [Value.oneCell', cI]) (by simp [maxLen]) (by simp) rfl fun v66 => ?_) | (refine L_front2 ?_; refine L_append tb rfl rfl rfl (by omega) rfl rfl (by first | exact gvo | exact gvd gvo (by omega)) (by simp [Value.oneCell', cI]) (by simp [maxLen]) (by simp) rfl fun v66 => ?_) | (refine L_front3 ?_; refine L_append tb rfl rfl rfl (by omega) rfl rfl (by first | exact gvo | exact gvd gvo (by omega)) (by simp [Value.oneCell', cI]) (by simp [maxLen]) (by simp) rfl fun v66 => ?_) | (refine L_front4 ?_; refine L_append tb rfl rfl rfl (by omega) rfl rfl (by first | exact gvo | exact gvd gvo (by omega)) (by simp [Value.oneCell', cI]) (by simp [maxLen]) (by simp) rfl fun v66 => ?_) | (refine L_front5 ?_; refine L_append tb rfl rfl rfl (by omega) rfl rfl (by first | exact gvo | exact gvd gvo (by omega)) (by simp [Value.oneCell', cI]) (by simp [maxLen]) (by simp) rfl fun v66 => ?_) | (refine L_front6 ?_; refine L_append tb rfl rfl rfl (by omega) rfl rfl (by first | exact gvo | exact gvd gvo (by omega)) (by simp [Value.oneCell', cI]) (by simp [maxLen]) (by simp) rfl fun v66 => ?_) | (refine L_append tb rfl rfl rfl (by omega) rfl rfl (by first | exact gvo | exact gvd gvo (by omega)) (by simp [Value.oneCell', cI]) (by simp [maxLen]) (by simp) rfl fun v66 => ?_)
          refine L_q rfl rfl rfl (q_assign rfl) ?_
          refine L_then ?_
          refine C_seq ?_
          refine C_region ?_
          refine L_q rfl rfl rfl (q_move rfl) ?_
          refine L_q rfl rfl rfl (q_assign rfl) ?_
          refine L_then ?_
          refine C_ret ?_
          have e9 : [cI 2, cI 3, cI 4] = (brkL g sf a b r).map cI := by unfold brkL; rw [if_neg h1, if_pos h2, if_pos h3, if_pos h4]; rfl
          exact ret_of (rs' := [sl v66 3 1 ((brkL g sf a b r).map cI)]) (res1 rfl rfl) (fun w_ h_ => h_.pk (by repeat (first | with_reducible exact pk_nil | refine pk_box (by first | rfl | exact e9) ?_ | refine pk_rd rfl ?_ | refine pk_sl (by first | rfl | exact e9) ?_ | with_reducible refine pk_app ?_ | with_reducible refine pk_app0 ?_ | with_reducible refine pk_app0L ?_ | with_reducible exact pk_tl | refine pk_var ?_))) own1 rfl
        · -- t63 False
          refine C_skip_then ?_
          refine C_seq ?_
          refine C_region ?_
          refine L_q rfl rfl rfl (q_move rfl) ?_
          refine L_q rfl rfl rfl (q_assign rfl) ?_
          refine L_then ?_
          refine C_ret ?_
          have e9 : [cI 2, cI 3] = (brkL g sf a b r).map cI := by unfold brkL; rw [if_neg h1, if_pos h2, if_pos h3, if_neg h4]; rfl
          exact ret_of (rs' := [sl v54 3 1 ((brkL g sf a b r).map cI)]) (res1 rfl rfl) (fun w_ h_ => h_.pk (by repeat (first | with_reducible exact pk_nil | refine pk_box (by first | rfl | exact e9) ?_ | refine pk_rd rfl ?_ | refine pk_sl (by first | rfl | exact e9) ?_ | with_reducible refine pk_app ?_ | with_reducible refine pk_app0 ?_ | with_reducible refine pk_app0L ?_ | with_reducible exact pk_tl | refine pk_var ?_))) own1 rfl
      · -- t51 False
        refine C_skip_then ?_
        refine C_seq ?_
        refine C_seq ?_
        refine C_draw (n := 9) [(0, false), (1, false), (2, false), (3, false), (6, false), (7, false), (4, true), (5, false), (8, false)] mixed (by kernel_rfl) ?_
        refine W_q rfl rfl rfl rfl (q_loadA tb rfl rfl bxo rfl rfl) ?_
        refine W_q rfl rfl rfl rfl (q_move rfl) ?_
        refine W_q rfl rfl rfl rfl (q_move rfl) ?_
        refine W_q rfl rfl rfl rfl (q_max rfl rfl) ?_
        refine W_q rfl rfl rfl rfl (q_field tb rfl rfl rfl) ?_
        refine W_q rfl rfl rfl rfl (q_load tb rfl rfl bxo rfl) ?_
        refine W_call tb rfl rfl rfl rfl (ct_shotlineref01_Density g (max a b) (by omega) (by omega)) no_ps rfl ?_
        refine W_q rfl rfl rfl rfl (by first | exact q_fieldV (off := 1) (sz := 1) (by kernel_rfl) rfl rfl | exact q_fieldVA (off := 1) (sz := 1) (by kernel_rfl) rfl rfl) ?_
        refine W_q rfl rfl rfl rfl (q_gtr rfl rfl) ?_
        refine W_nil ?_
        refine L_then ?_
        refine C_dec rfl (fun h4 => ?_) (fun h4 => ?_)
        · -- t63 True
          refine C_region ?_
          refine L_q rfl rfl rfl (q_move rfl) ?_
          refine L_mk (lo_bslice tb rfl rfl rfl (xs := [cI 4]) rfl rfl (by simp [cI]) rfl (by omega) rfl) rfl rfl rfl fun v65 => ?_
          first | (refine L_front1 ?_; refine L_append tb rfl rfl rfl (by omega) rfl rfl (by first | exact gvo | exact gvd gvo (by omega)) (by simp [Value.oneCell', cI]) (by simp [maxLen]) (by simp) rfl fun v66 => ?_) | (refine L_front2 ?_; refine L_append tb rfl rfl rfl (by omega) rfl rfl (by first | exact gvo | exact gvd gvo (by omega)) (by simp [Value.oneCell', cI]) (by simp [maxLen]) (by simp) rfl fun v66 => ?_) | (refine L_front3 ?_; refine L_append tb rfl rfl rfl (by omega) rfl rfl (by first | exact gvo | exact gvd gvo (by omega)) (by simp [Value.oneCell', cI]) (by simp [maxLen]) (by simp) rfl fun v66 => ?_) | (refine L_front4 ?_; refine L_append tb rfl rfl rfl (by omega) rfl rfl (by first | exact gvo | exact gvd gvo (by omega)) (by simp [Value.oneCell', cI]) (by simp [maxLen]) (by simp) rfl fun v66 => ?_) | (refine L_front5 ?_; refine L_append tb rfl rfl rfl (by omega) rfl rfl (by first | exact gvo | exact gvd gvo (by omega)) (by simp [Value.oneCell', cI]) (by simp [maxLen]) (by simp) rfl fun v66 => ?_) | (refine L_front6 ?_; refine L_append tb rfl rfl rfl (by omega) rfl rfl (by first | exact gvo | exact gvd gvo (by omega)) (by simp [Value.oneCell', cI]) (by simp [maxLen]) (by simp) rfl fun v66 => ?_) | (refine L_append tb rfl rfl rfl (by omega) rfl rfl (by first | exact gvo | exact gvd gvo (by omega)) (by simp [Value.oneCell', cI]) (by simp [maxLen]) (by simp) rfl fun v66 => ?_)
          refine L_q rfl rfl rfl (q_assign rfl) ?_
          refine L_then ?_
          refine C_seq ?_
          refine C_region ?_
          refine L_q rfl rfl rfl (q_move rfl) ?_
          refine L_q rfl rfl rfl (q_assign rfl) ?_
          refine L_then ?_
          refine C_ret ?_
          have e9 : [cI 2, cI 4] = (brkL g sf a b r).map cI := by unfold brkL; rw [if_neg h1, if_pos h2, if_neg h3, if_pos h4]; rfl
          exact ret_of (rs' := [sl v66 3 1 ((brkL g sf a b r).map cI)]) (res1 rfl rfl) (fun w_ h_ => h_.pk (by repeat (first | with_reducible exact pk_nil | refine pk_box (by first | rfl | exact e9) ?_ | refine pk_rd rfl ?_ | refine pk_sl (by first | rfl | exact e9) ?_ | with_reducible refine pk_app ?_ | with_reducible refine pk_app0 ?_ | with_reducible refine pk_app0L ?_ | with_reducible exact pk_tl | refine pk_var ?_))) own1 rfl
        · -- t63 False
          refine C_skip_then ?_
          refine C_seq ?_
          refine C_region ?_
          refine L_q rfl rfl rfl (q_move rfl) ?_
          refine L_q rfl rfl rfl (q_assign rfl) ?_
          refine L_then ?_
          refine C_ret ?_
          have e9 : [cI 2] = (brkL g sf a b r).map cI := by unfold brkL; rw [if_neg h1, if_pos h2, if_neg h3, if_neg h4]; rfl
          exact ret_of (rs' := [sl v39 3 1 ((brkL g sf a b r).map cI)]) (res1 rfl rfl) (fun w_ h_ => h_.pk (by repeat (first | with_reducible exact pk_nil | refine pk_box (by first | rfl | exact e9) ?_ | refine pk_rd rfl ?_ | refine pk_sl (by first | rfl | exact e9) ?_ | with_reducible refine pk_app ?_ | with_reducible refine pk_app0 ?_ | with_reducible refine pk_app0L ?_ | with_reducible exact pk_tl | refine pk_var ?_))) own1 rfl
    · -- t36 False
      refine C_skip_then ?_
      refine C_seq ?_
      refine C_seq ?_
      refine C_draw (n := 12) [(0, false), (1, false), (2, false), (3, false), (4, false), (5, false), (6, false), (9, false), (10, false), (7, true), (8, false), (11, false)] mixed (by kernel_rfl) ?_
      refine W_q rfl rfl rfl rfl (q_loadA tb rfl rfl bxo rfl rfl) ?_
      refine W_q rfl rfl rfl rfl (q_move rfl) ?_
      refine W_q rfl rfl rfl rfl (q_move rfl) ?_
      refine W_q rfl rfl rfl rfl (q_move rfl) ?_
      refine W_q rfl rfl rfl rfl (q_max rfl rfl) ?_
      refine W_q rfl rfl rfl rfl (q_move rfl) ?_
      refine W_q rfl rfl rfl rfl (q_sub rfl rfl (by first | exact IntWalk.i64_in _ (by omega) | rfl)) ?_
      refine W_q rfl rfl rfl rfl (q_field tb rfl rfl rfl) ?_
      refine W_q rfl rfl rfl rfl (q_load tb rfl rfl bxo rfl) ?_
      refine W_call tb rfl rfl rfl rfl (ct_shotlineref01_EquivalentNarcotic g sf (max a b - sf) (by omega) hs (by omega)) no_ps rfl ?_
      refine W_q rfl rfl rfl rfl (by first | exact q_fieldV (off := 1) (sz := 1) (by kernel_rfl) rfl rfl | exact q_fieldVA (off := 1) (sz := 1) (by kernel_rfl) rfl rfl) ?_
      refine W_q rfl rfl rfl rfl (q_gtr rfl rfl) ?_
      refine W_nil ?_
      refine L_then ?_
      refine C_dec rfl (fun h3 => ?_) (fun h3 => ?_)
      · -- t51 True
        refine C_region ?_
        refine L_q rfl rfl rfl (q_move rfl) ?_
        refine L_mk (lo_bslice tb rfl rfl rfl (xs := [cI 3]) rfl rfl (by simp [cI]) rfl (by omega) rfl) rfl rfl rfl fun v53 => ?_
        first | (refine L_front1 ?_; refine L_append tb rfl rfl rfl (by omega) rfl rfl (by first | exact gvo | exact gvd gvo (by omega)) (by simp [Value.oneCell', cI]) (by simp [maxLen]) (by simp) rfl fun v54 => ?_) | (refine L_front2 ?_; refine L_append tb rfl rfl rfl (by omega) rfl rfl (by first | exact gvo | exact gvd gvo (by omega)) (by simp [Value.oneCell', cI]) (by simp [maxLen]) (by simp) rfl fun v54 => ?_) | (refine L_front3 ?_; refine L_append tb rfl rfl rfl (by omega) rfl rfl (by first | exact gvo | exact gvd gvo (by omega)) (by simp [Value.oneCell', cI]) (by simp [maxLen]) (by simp) rfl fun v54 => ?_) | (refine L_front4 ?_; refine L_append tb rfl rfl rfl (by omega) rfl rfl (by first | exact gvo | exact gvd gvo (by omega)) (by simp [Value.oneCell', cI]) (by simp [maxLen]) (by simp) rfl fun v54 => ?_) | (refine L_front5 ?_; refine L_append tb rfl rfl rfl (by omega) rfl rfl (by first | exact gvo | exact gvd gvo (by omega)) (by simp [Value.oneCell', cI]) (by simp [maxLen]) (by simp) rfl fun v54 => ?_) | (refine L_front6 ?_; refine L_append tb rfl rfl rfl (by omega) rfl rfl (by first | exact gvo | exact gvd gvo (by omega)) (by simp [Value.oneCell', cI]) (by simp [maxLen]) (by simp) rfl fun v54 => ?_) | (refine L_append tb rfl rfl rfl (by omega) rfl rfl (by first | exact gvo | exact gvd gvo (by omega)) (by simp [Value.oneCell', cI]) (by simp [maxLen]) (by simp) rfl fun v54 => ?_)
        refine L_q rfl rfl rfl (q_assign rfl) ?_
        refine L_then ?_
        refine C_seq ?_
        refine C_seq ?_
        refine C_draw (n := 9) [(0, false), (1, false), (2, false), (3, false), (6, false), (7, false), (4, true), (5, false), (8, false)] mixed (by kernel_rfl) ?_
        refine W_q rfl rfl rfl rfl (q_loadA tb rfl rfl bxo rfl rfl) ?_
        refine W_q rfl rfl rfl rfl (q_move rfl) ?_
        refine W_q rfl rfl rfl rfl (q_move rfl) ?_
        refine W_q rfl rfl rfl rfl (q_max rfl rfl) ?_
        refine W_q rfl rfl rfl rfl (q_field tb rfl rfl rfl) ?_
        refine W_q rfl rfl rfl rfl (q_load tb rfl rfl bxo rfl) ?_
        refine W_call tb rfl rfl rfl rfl (ct_shotlineref01_Density g (max a b) (by omega) (by omega)) no_ps rfl ?_
        refine W_q rfl rfl rfl rfl (by first | exact q_fieldV (off := 1) (sz := 1) (by kernel_rfl) rfl rfl | exact q_fieldVA (off := 1) (sz := 1) (by kernel_rfl) rfl rfl) ?_
        refine W_q rfl rfl rfl rfl (q_gtr rfl rfl) ?_
        refine W_nil ?_
        refine L_then ?_
        refine C_dec rfl (fun h4 => ?_) (fun h4 => ?_)
        · -- t63 True
          refine C_region ?_
          refine L_q rfl rfl rfl (q_move rfl) ?_
          refine L_mk (lo_bslice tb rfl rfl rfl (xs := [cI 4]) rfl rfl (by simp [cI]) rfl (by omega) rfl) rfl rfl rfl fun v65 => ?_
          first | (refine L_front1 ?_; refine L_append tb rfl rfl rfl (by omega) rfl rfl (by first | exact gvo | exact gvd gvo (by omega)) (by simp [Value.oneCell', cI]) (by simp [maxLen]) (by simp) rfl fun v66 => ?_) | (refine L_front2 ?_; refine L_append tb rfl rfl rfl (by omega) rfl rfl (by first | exact gvo | exact gvd gvo (by omega)) (by simp [Value.oneCell', cI]) (by simp [maxLen]) (by simp) rfl fun v66 => ?_) | (refine L_front3 ?_; refine L_append tb rfl rfl rfl (by omega) rfl rfl (by first | exact gvo | exact gvd gvo (by omega)) (by simp [Value.oneCell', cI]) (by simp [maxLen]) (by simp) rfl fun v66 => ?_) | (refine L_front4 ?_; refine L_append tb rfl rfl rfl (by omega) rfl rfl (by first | exact gvo | exact gvd gvo (by omega)) (by simp [Value.oneCell', cI]) (by simp [maxLen]) (by simp) rfl fun v66 => ?_) | (refine L_front5 ?_; refine L_append tb rfl rfl rfl (by omega) rfl rfl (by first | exact gvo | exact gvd gvo (by omega)) (by simp [Value.oneCell', cI]) (by simp [maxLen]) (by simp) rfl fun v66 => ?_) | (refine L_front6 ?_; refine L_append tb rfl rfl rfl (by omega) rfl rfl (by first | exact gvo | exact gvd gvo (by omega)) (by simp [Value.oneCell', cI]) (by simp [maxLen]) (by simp) rfl fun v66 => ?_) | (refine L_append tb rfl rfl rfl (by omega) rfl rfl (by first | exact gvo | exact gvd gvo (by omega)) (by simp [Value.oneCell', cI]) (by simp [maxLen]) (by simp) rfl fun v66 => ?_)
          refine L_q rfl rfl rfl (q_assign rfl) ?_
          refine L_then ?_
          refine C_seq ?_
          refine C_region ?_
          refine L_q rfl rfl rfl (q_move rfl) ?_
          refine L_q rfl rfl rfl (q_assign rfl) ?_
          refine L_then ?_
          refine C_ret ?_
          have e9 : [cI 3, cI 4] = (brkL g sf a b r).map cI := by unfold brkL; rw [if_neg h1, if_neg h2, if_pos h3, if_pos h4]; rfl
          exact ret_of (rs' := [sl v66 3 1 ((brkL g sf a b r).map cI)]) (res1 rfl rfl) (fun w_ h_ => h_.pk (by repeat (first | with_reducible exact pk_nil | refine pk_box (by first | rfl | exact e9) ?_ | refine pk_rd rfl ?_ | refine pk_sl (by first | rfl | exact e9) ?_ | with_reducible refine pk_app ?_ | with_reducible refine pk_app0 ?_ | with_reducible refine pk_app0L ?_ | with_reducible exact pk_tl | refine pk_var ?_))) own1 rfl
        · -- t63 False
          refine C_skip_then ?_
          refine C_seq ?_
          refine C_region ?_
          refine L_q rfl rfl rfl (q_move rfl) ?_
          refine L_q rfl rfl rfl (q_assign rfl) ?_
          refine L_then ?_
          refine C_ret ?_
          have e9 : [cI 3] = (brkL g sf a b r).map cI := by unfold brkL; rw [if_neg h1, if_neg h2, if_pos h3, if_neg h4]; rfl
          exact ret_of (rs' := [sl v54 3 1 ((brkL g sf a b r).map cI)]) (res1 rfl rfl) (fun w_ h_ => h_.pk (by repeat (first | with_reducible exact pk_nil | refine pk_box (by first | rfl | exact e9) ?_ | refine pk_rd rfl ?_ | refine pk_sl (by first | rfl | exact e9) ?_ | with_reducible refine pk_app ?_ | with_reducible refine pk_app0 ?_ | with_reducible refine pk_app0L ?_ | with_reducible exact pk_tl | refine pk_var ?_))) own1 rfl
      · -- t51 False
        refine C_skip_then ?_
        refine C_seq ?_
        refine C_seq ?_
        refine C_draw (n := 9) [(0, false), (1, false), (2, false), (3, false), (6, false), (7, false), (4, true), (5, false), (8, false)] mixed (by kernel_rfl) ?_
        refine W_q rfl rfl rfl rfl (q_loadA tb rfl rfl bxo rfl rfl) ?_
        refine W_q rfl rfl rfl rfl (q_move rfl) ?_
        refine W_q rfl rfl rfl rfl (q_move rfl) ?_
        refine W_q rfl rfl rfl rfl (q_max rfl rfl) ?_
        refine W_q rfl rfl rfl rfl (q_field tb rfl rfl rfl) ?_
        refine W_q rfl rfl rfl rfl (q_load tb rfl rfl bxo rfl) ?_
        refine W_call tb rfl rfl rfl rfl (ct_shotlineref01_Density g (max a b) (by omega) (by omega)) no_ps rfl ?_
        refine W_q rfl rfl rfl rfl (by first | exact q_fieldV (off := 1) (sz := 1) (by kernel_rfl) rfl rfl | exact q_fieldVA (off := 1) (sz := 1) (by kernel_rfl) rfl rfl) ?_
        refine W_q rfl rfl rfl rfl (q_gtr rfl rfl) ?_
        refine W_nil ?_
        refine L_then ?_
        refine C_dec rfl (fun h4 => ?_) (fun h4 => ?_)
        · -- t63 True
          refine C_region ?_
          refine L_q rfl rfl rfl (q_move rfl) ?_
          refine L_mk (lo_bslice tb rfl rfl rfl (xs := [cI 4]) rfl rfl (by simp [cI]) rfl (by omega) rfl) rfl rfl rfl fun v65 => ?_
          first | (refine L_front1 ?_; refine L_append tb rfl rfl rfl (by omega) rfl rfl (by first | exact gvo | exact gvd gvo (by omega)) (by simp [Value.oneCell', cI]) (by simp [maxLen]) (by simp) rfl fun v66 => ?_) | (refine L_front2 ?_; refine L_append tb rfl rfl rfl (by omega) rfl rfl (by first | exact gvo | exact gvd gvo (by omega)) (by simp [Value.oneCell', cI]) (by simp [maxLen]) (by simp) rfl fun v66 => ?_) | (refine L_front3 ?_; refine L_append tb rfl rfl rfl (by omega) rfl rfl (by first | exact gvo | exact gvd gvo (by omega)) (by simp [Value.oneCell', cI]) (by simp [maxLen]) (by simp) rfl fun v66 => ?_) | (refine L_front4 ?_; refine L_append tb rfl rfl rfl (by omega) rfl rfl (by first | exact gvo | exact gvd gvo (by omega)) (by simp [Value.oneCell', cI]) (by simp [maxLen]) (by simp) rfl fun v66 => ?_) | (refine L_front5 ?_; refine L_append tb rfl rfl rfl (by omega) rfl rfl (by first | exact gvo | exact gvd gvo (by omega)) (by simp [Value.oneCell', cI]) (by simp [maxLen]) (by simp) rfl fun v66 => ?_) | (refine L_front6 ?_; refine L_append tb rfl rfl rfl (by omega) rfl rfl (by first | exact gvo | exact gvd gvo (by omega)) (by simp [Value.oneCell', cI]) (by simp [maxLen]) (by simp) rfl fun v66 => ?_) | (refine L_append tb rfl rfl rfl (by omega) rfl rfl (by first | exact gvo | exact gvd gvo (by omega)) (by simp [Value.oneCell', cI]) (by simp [maxLen]) (by simp) rfl fun v66 => ?_)
          refine L_q rfl rfl rfl (q_assign rfl) ?_
          refine L_then ?_
          refine C_seq ?_
          refine C_region ?_
          refine L_q rfl rfl rfl (q_move rfl) ?_
          refine L_q rfl rfl rfl (q_assign rfl) ?_
          refine L_then ?_
          refine C_ret ?_
          have e9 : [cI 4] = (brkL g sf a b r).map cI := by unfold brkL; rw [if_neg h1, if_neg h2, if_neg h3, if_pos h4]; rfl
          exact ret_of (rs' := [sl v66 3 1 ((brkL g sf a b r).map cI)]) (res1 rfl rfl) (fun w_ h_ => h_.pk (by repeat (first | with_reducible exact pk_nil | refine pk_box (by first | rfl | exact e9) ?_ | refine pk_rd rfl ?_ | refine pk_sl (by first | rfl | exact e9) ?_ | with_reducible refine pk_app ?_ | with_reducible refine pk_app0 ?_ | with_reducible refine pk_app0L ?_ | with_reducible exact pk_tl | refine pk_var ?_))) own1 rfl
        · -- t63 False
          refine C_skip_then ?_
          refine C_seq ?_
          refine C_region ?_
          refine L_q rfl rfl rfl (q_move rfl) ?_
          refine L_q rfl rfl rfl (q_assign rfl) ?_
          refine L_then ?_
          refine C_ret ?_
          have e9 : [] = (brkL g sf a b r).map cI := by unfold brkL; rw [if_neg h1, if_neg h2, if_neg h3, if_neg h4]; rfl
          exact ret_of (rs' := [sl (.slice none 0 0) 3 1 ((brkL g sf a b r).map cI)]) (res1 rfl rfl) (fun w_ h_ => h_.pk (by repeat (first | with_reducible exact pk_nil | refine pk_box (by first | rfl | exact e9) ?_ | refine pk_rd rfl ?_ | refine pk_sl (by first | rfl | exact e9) ?_ | with_reducible refine pk_app ?_ | with_reducible refine pk_app0 ?_ | with_reducible refine pk_app0L ?_ | with_reducible exact pk_tl | refine pk_var ?_))) own1 rfl
set_option maxRecDepth 100000 in
set_option maxHeartbeats 1000000 in
theorem ct_shotlineref05_DepthsOf (t : Value) (g : Gs) (sf : Int) (r : Ru) (hg : 0 ≤ g.o ∧ 0 ≤ g.h ∧ g.o + g.h ≤ 1000) (hs : 400 ≤ sf ∧ sf ≤ 1100) (HR : okRu r) : Ct Try.prog 24 [.agg (cGs g).toArray, .int .i64 sf, .agg (cRu t r).toArray] [(t, 2, r.tb.map cOw)] (isV (.tuple #[.agg #[.int .i64 (rdE g sf r).1.lo, .int .i64 (rdE g sf r).1.hi], .bool (rdE g sf r).2])) := by
  refine Ct.of (N := 39) Try.func24 rfl rfl rfl fun w => ?_
  refine C_weak (E' := [(0, .agg (cGs g).toArray), (1, .int .i64 sf), (2, .agg (cRu t r).toArray)]) (rs' := [rd t 2 (r.tb.map cOw)]) ⟨rfl, rfl, rfl, trivial⟩ (fun _ h => h) ?_
  have hl1 := len_map cOw r.tb
  refine C_seq ?_
  refine C_region ?_
  refine L_box rfl rfl rfl fun g3 => ?_
  refine L_box rfl rfl rfl fun g5 => ?_
  refine L_alloc tb rfl rfl fun g6 => ?_
  refine L_q rfl rfl rfl (q_assign rfl) ?_
  refine L_then ?_
  refine C_seq ?_
  refine C_region ?_
  refine L_q rfl rfl rfl (by first | exact q_build tb rfl rfl rfl rfl | exact q_buildArr tb rfl rfl rfl rfl rfl) ?_
  refine L_alloc tb rfl rfl fun g8 => ?_
  first | refine L_store tb rfl rfl rfl rfl rfl rfl rfl rfl ?_ | (refine L_front1 ?_; refine L_store tb rfl rfl rfl rfl rfl rfl rfl rfl ?_) | (refine L_front2 ?_; refine L_store tb rfl rfl rfl rfl rfl rfl rfl rfl ?_) | (refine L_front3 ?_; refine L_store tb rfl rfl rfl rfl rfl rfl rfl rfl ?_) | (refine L_front4 ?_; refine L_store tb rfl rfl rfl rfl rfl rfl rfl rfl ?_) | (refine L_front5 ?_; refine L_store tb rfl rfl rfl rfl rfl rfl rfl rfl ?_) | (refine L_front6 ?_; refine L_store tb rfl rfl rfl rfl rfl rfl rfl rfl ?_)
  refine L_then ?_
  refine C_seq ?_
  refine C_seq ?_
  have eb0 : ([.int .i64 (-1), .int .i64 0] : List Value) = [.int .i64 (rLo g sf r 0), .int .i64 (rHi g sf r 0)] := by rw [rLo_zero, rHi_zero]
  refine C_res (rs' := [box g8 32 [.int .i64 (rLo g sf r 0), .int .i64 (rHi g sf r 0)], box g6 32 [.int .i64 0, .int .i64 0], box g3 23 (cGs g), box g5 28 (cRu t r), rd t 2 (r.tb.map cOw)]) (fun _ h => h.pk (by repeat (first | with_reducible exact pk_nil | refine pk_box (by first | rfl | exact eb0) ?_ | refine pk_rd rfl ?_ | refine pk_sl (by first | rfl | exact eb0) ?_ | with_reducible refine pk_app ?_ | with_reducible refine pk_app0 ?_ | with_reducible refine pk_app0L ?_ | with_reducible exact pk_tl | refine pk_var ?_))) ?_
  refine C_region ?_
  refine L_q rfl rfl rfl (q_assign rfl) ?_
  refine L_then ?_
  refine C_block ?_
  refine C_loop (ι := Nat) (fun k => ([(1, .int .i64 sf), (3, .pointer (some ⟨g3, 0, none⟩)), (5, .pointer (some ⟨g5, 0, none⟩)), (6, .pointer (some ⟨g6, 0, none⟩)), (8, .pointer (some ⟨g8, 0, none⟩)), (9, .int .i64 (k : Int))], [box g8 32 [.int .i64 (rLo g sf r k), .int .i64 (rHi g sf r k)], box g6 32 [.int .i64 0, .int .i64 0], box g3 23 (cGs g), box g5 28 (cRu t r), rd t 2 (r.tb.map cOw)])) (fun k => k ≤ 30001) (fun k => 30001 - k) 0 (Nat.zero_le _) (fun a w hs => hs.weak ⟨rfl, rfl, rfl, rfl, rfl, rfl, trivial⟩ (fun h => h.pk (by repeat (first | with_reducible exact pk_nil | refine pk_box rfl ?_ | refine pk_rd rfl ?_ | refine pk_sl rfl ?_ | with_reducible refine pk_app ?_ | with_reducible refine pk_app0 ?_ | with_reducible refine pk_app0L ?_ | with_reducible exact pk_tl | refine pk_var ?_)))) ?_
  intro k hk8
  dsimp only at hk8 ⊢
  refine C_seq ?_
  refine C_seq ?_
  refine C_region ?_
  refine L_q rfl rfl rfl (q_move rfl) ?_
  refine L_q rfl rfl rfl (q_leq rfl rfl) ?_
  refine L_then ?_
  refine C_dec rfl (fun h1 => ?_) (fun h1 => ?_)
  · -- t12 True
    have hgd := brk_good (g := g) (sf := sf) (r := r) (k := k) hg (by omega); have hln := brkL_len g sf (sf + (k : Int)) (sf + (k : Int)) r; have hlm := len_map cI (brkL g sf (sf + (k : Int)) (sf + (k : Int)) r)
    refine C_skip_then ?_
    refine C_seq ?_
    refine C_block ?_
    refine C_seq ?_
    refine C_seq ?_
    refine C_region ?_
    refine L_q rfl rfl rfl (q_loadA tb rfl rfl bxo rfl rfl) ?_
    refine L_q rfl rfl rfl (q_move rfl) ?_
    refine L_q rfl rfl rfl (q_move rfl) ?_
    refine L_q rfl rfl rfl (q_move rfl) ?_
    refine L_q rfl rfl rfl (q_add rfl rfl (by first | exact IntWalk.i64_in _ (by omega) | rfl)) ?_
    refine L_q rfl rfl rfl (q_move rfl) ?_
    refine L_q rfl rfl rfl (q_move rfl) ?_
    refine L_q rfl rfl rfl (q_add rfl rfl (by first | exact IntWalk.i64_in _ (by omega) | rfl)) ?_
    refine L_q rfl rfl rfl (q_loadA tb rfl rfl bxo rfl rfl) ?_
    refine L_callS tb rfl rfl (ct_shotlineref05_breaksAt t g sf (sf + (k : Int)) (sf + (k : Int)) r hg hs (by omega) (by omega) HR) (ps_cons (by first | exact gvo | exact gvd gvo (by omega)) no_ps) rfl fun v24 => ?_
    refine L_q rfl rfl rfl (q_len tb rfl rfl (by first | exact gvo | exact gvd gvo (by omega))) ?_
    refine L_q rfl rfl rfl (q_gtr rfl rfl) ?_
    refine L_then ?_
    refine C_dec rfl (fun hbk => ?_) (fun hbk => ?_)
    · -- t26 True
      refine C_exit ?_
      change C Try.prog _ _ _ _ _ _ _
      refine C_region ?_
      refine L_q rfl rfl rfl (q_move rfl) ?_
      refine L_q rfl rfl rfl (q_add rfl rfl (by first | exact IntWalk.i64_in _ (by omega) | rfl)) ?_
      refine L_q rfl rfl rfl (q_assign rfl) ?_
      refine L_end ?_
      have e9 := (r_same (g := g) (sf := sf) (r := r) (k := k) (by omega)).1; have e8 := (r_same (g := g) (sf := sf) (r := r) (k := k) (by omega)).2
      have eb : ([.int .i64 (rLo g sf r k), .int .i64 (rHi g sf r k)] : List Value) = [.int .i64 (rLo g sf r (k + 1)), .int .i64 (rHi g sf r (k + 1))] := by rw [e9, e8]
      exact fun ac_ wo_ hs_ => ⟨k + 1, (by dsimp only; omega), (by dsimp only; omega), hs_.weak ⟨rfl, rfl, rfl, rfl, rfl, rfl, trivial⟩ (fun h => h.pk (by repeat (first | with_reducible exact pk_nil | refine pk_box (by first | rfl | exact eb) ?_ | refine pk_rd rfl ?_ | refine pk_sl (by first | rfl | exact eb) ?_ | with_reducible refine pk_app ?_ | with_reducible refine pk_app0 ?_ | with_reducible refine pk_app0L ?_ | with_reducible exact pk_tl | refine pk_var ?_)))⟩
    · -- t26 False
      refine C_skip_then ?_
      refine C_seq ?_
      refine C_seq ?_
      refine C_region ?_
      refine L_q rfl rfl rfl (q_field tb rfl rfl rfl) ?_
      refine L_q rfl rfl rfl (q_load tb rfl rfl bxo rfl) ?_
      refine L_q rfl rfl rfl (q_lss rfl rfl) ?_
      refine L_then ?_
      refine C_dec rfl (fun hlo => ?_) (fun hlo => ?_)
      · -- t29 True
        refine C_region ?_
        refine L_q rfl rfl rfl (q_move rfl) ?_
        refine L_q rfl rfl rfl (q_field tb rfl rfl rfl) ?_
        first | refine L_store tb rfl rfl rfl rfl rfl rfl rfl rfl ?_ | (refine L_front1 ?_; refine L_store tb rfl rfl rfl rfl rfl rfl rfl rfl ?_) | (refine L_front2 ?_; refine L_store tb rfl rfl rfl rfl rfl rfl rfl rfl ?_) | (refine L_front3 ?_; refine L_store tb rfl rfl rfl rfl rfl rfl rfl rfl ?_) | (refine L_front4 ?_; refine L_store tb rfl rfl rfl rfl rfl rfl rfl rfl ?_) | (refine L_front5 ?_; refine L_store tb rfl rfl rfl rfl rfl rfl rfl rfl ?_) | (refine L_front6 ?_; refine L_store tb rfl rfl rfl rfl rfl rfl rfl rfl ?_)
        refine L_then ?_
        refine C_region ?_
        refine L_q rfl rfl rfl (q_move rfl) ?_
        refine L_q rfl rfl rfl (q_field tb rfl rfl rfl) ?_
        first | refine L_store tb rfl rfl rfl rfl rfl rfl rfl rfl ?_ | (refine L_front1 ?_; refine L_store tb rfl rfl rfl rfl rfl rfl rfl rfl ?_) | (refine L_front2 ?_; refine L_store tb rfl rfl rfl rfl rfl rfl rfl rfl ?_) | (refine L_front3 ?_; refine L_store tb rfl rfl rfl rfl rfl rfl rfl rfl ?_) | (refine L_front4 ?_; refine L_store tb rfl rfl rfl rfl rfl rfl rfl rfl ?_) | (refine L_front5 ?_; refine L_store tb rfl rfl rfl rfl rfl rfl rfl rfl ?_) | (refine L_front6 ?_; refine L_store tb rfl rfl rfl rfl rfl rfl rfl rfl ?_)
        refine L_blk ?_
        refine C_region ?_
        refine L_q rfl rfl rfl (q_move rfl) ?_
        refine L_q rfl rfl rfl (q_add rfl rfl (by first | exact IntWalk.i64_in _ (by omega) | rfl)) ?_
        refine L_q rfl rfl rfl (q_assign rfl) ?_
        refine L_end ?_
        have e9 := (r_first (g := g) (sf := sf) (r := r) (k := k) (by omega) hlo).1; have e8 := (r_first (g := g) (sf := sf) (r := r) (k := k) (by omega) hlo).2
        have eb : ([.int .i64 (k : Int), .int .i64 (k : Int)] : List Value) = [.int .i64 (rLo g sf r (k + 1)), .int .i64 (rHi g sf r (k + 1))] := by rw [e9, e8]
        exact fun ac_ wo_ hs_ => ⟨k + 1, (by dsimp only; omega), (by dsimp only; omega), hs_.weak ⟨rfl, rfl, rfl, rfl, rfl, rfl, trivial⟩ (fun h => h.pk (by repeat (first | with_reducible exact pk_nil | refine pk_box (by first | rfl | exact eb) ?_ | refine pk_rd rfl ?_ | refine pk_sl (by first | rfl | exact eb) ?_ | with_reducible refine pk_app ?_ | with_reducible refine pk_app0 ?_ | with_reducible refine pk_app0L ?_ | with_reducible exact pk_tl | refine pk_var ?_)))⟩
      · -- t29 False
        refine C_skip_then ?_
        refine C_region ?_
        refine L_q rfl rfl rfl (q_move rfl) ?_
        refine L_q rfl rfl rfl (q_field tb rfl rfl rfl) ?_
        first | refine L_store tb rfl rfl rfl rfl rfl rfl rfl rfl ?_ | (refine L_front1 ?_; refine L_store tb rfl rfl rfl rfl rfl rfl rfl rfl ?_) | (refine L_front2 ?_; refine L_store tb rfl rfl rfl rfl rfl rfl rfl rfl ?_) | (refine L_front3 ?_; refine L_store tb rfl rfl rfl rfl rfl rfl rfl rfl ?_) | (refine L_front4 ?_; refine L_store tb rfl rfl rfl rfl rfl rfl rfl rfl ?_) | (refine L_front5 ?_; refine L_store tb rfl rfl rfl rfl rfl rfl rfl rfl ?_) | (refine L_front6 ?_; refine L_store tb rfl rfl rfl rfl rfl rfl rfl rfl ?_)
        refine L_blk ?_
        refine C_region ?_
        refine L_q rfl rfl rfl (q_move rfl) ?_
        refine L_q rfl rfl rfl (q_add rfl rfl (by first | exact IntWalk.i64_in _ (by omega) | rfl)) ?_
        refine L_q rfl rfl rfl (q_assign rfl) ?_
        refine L_end ?_
        have e9 := (r_more (g := g) (sf := sf) (r := r) (k := k) (by omega) hlo).1; have e8 := (r_more (g := g) (sf := sf) (r := r) (k := k) (by omega) hlo).2
        have eb : ([.int .i64 (rLo g sf r k), .int .i64 (k : Int)] : List Value) = [.int .i64 (rLo g sf r (k + 1)), .int .i64 (rHi g sf r (k + 1))] := by rw [e9, e8]
        exact fun ac_ wo_ hs_ => ⟨k + 1, (by dsimp only; omega), (by dsimp only; omega), hs_.weak ⟨rfl, rfl, rfl, rfl, rfl, rfl, trivial⟩ (fun h => h.pk (by repeat (first | with_reducible exact pk_nil | refine pk_box (by first | rfl | exact eb) ?_ | refine pk_rd rfl ?_ | refine pk_sl (by first | rfl | exact eb) ?_ | with_reducible refine pk_app ?_ | with_reducible refine pk_app0 ?_ | with_reducible refine pk_app0L ?_ | with_reducible exact pk_tl | refine pk_var ?_)))⟩
  · -- t12 False
    obtain rfl : k = 30001 := by omega
    have hre := r_end (g := g) (sf := sf) (r := r)
    refine C_exit ?_
    change C Try.prog _ _ _ _ _ _ _
    refine C_seq ?_
    refine C_seq ?_
    refine C_region ?_
    refine L_q rfl rfl rfl (q_field tb rfl rfl rfl) ?_
    refine L_q rfl rfl rfl (q_load tb rfl rfl bxo rfl) ?_
    refine L_q rfl rfl rfl (q_lss rfl rfl) ?_
    refine L_then ?_
    refine C_dec rfl (fun hlo => ?_) (fun hlo => ?_)
    · -- t36 True
      refine C_seq ?_
      refine C_region ?_
      refine L_q rfl rfl rfl (by first | exact q_build tb rfl rfl rfl rfl | exact q_buildArr tb rfl rfl rfl rfl rfl) ?_
      first | refine L_store tb rfl rfl rfl rfl rfl rfl rfl rfl ?_ | (refine L_front1 ?_; refine L_store tb rfl rfl rfl rfl rfl rfl rfl rfl ?_) | (refine L_front2 ?_; refine L_store tb rfl rfl rfl rfl rfl rfl rfl rfl ?_) | (refine L_front3 ?_; refine L_store tb rfl rfl rfl rfl rfl rfl rfl rfl ?_) | (refine L_front4 ?_; refine L_store tb rfl rfl rfl rfl rfl rfl rfl rfl ?_) | (refine L_front5 ?_; refine L_store tb rfl rfl rfl rfl rfl rfl rfl rfl ?_) | (refine L_front6 ?_; refine L_store tb rfl rfl rfl rfl rfl rfl rfl rfl ?_)
      refine L_q rfl rfl rfl (q_assign rfl) ?_
      refine L_then ?_
      refine C_ret ?_
      rw [rdE_1 (hre.1 hlo)]
      exact ret_of (resCT tb rfl rfl rfl rfl bxo rfl) sub_nil (by intro r hr; cases hr) ⟨rfl, rfl⟩
    · -- t36 False
      refine C_skip_then ?_
      refine C_seq ?_
      refine C_region ?_
      refine L_q rfl rfl rfl (q_loadA tb rfl rfl bxo rfl rfl) ?_
      first | refine L_store tb rfl rfl rfl rfl rfl rfl rfl rfl ?_ | (refine L_front1 ?_; refine L_store tb rfl rfl rfl rfl rfl rfl rfl rfl ?_) | (refine L_front2 ?_; refine L_store tb rfl rfl rfl rfl rfl rfl rfl rfl ?_) | (refine L_front3 ?_; refine L_store tb rfl rfl rfl rfl rfl rfl rfl rfl ?_) | (refine L_front4 ?_; refine L_store tb rfl rfl rfl rfl rfl rfl rfl rfl ?_) | (refine L_front5 ?_; refine L_store tb rfl rfl rfl rfl rfl rfl rfl rfl ?_) | (refine L_front6 ?_; refine L_store tb rfl rfl rfl rfl rfl rfl rfl rfl ?_)
      refine L_q rfl rfl rfl (q_assign rfl) ?_
      refine L_then ?_
      refine C_ret ?_
      rw [(hre.2 hlo).2.1, (hre.2 hlo).2.2, rdE_2 (hre.2 hlo).1]
      exact ret_of (resCT tb rfl rfl rfl rfl bxo rfl) sub_nil (by intro r hr; cases hr) ⟨rfl, rfl⟩
set_option maxRecDepth 100000 in
theorem ct_shotlinelaw05_gasErr (t : Value) (g : Gs) (sf : Int) (r : Ru) (hlt : r.tb.length ≤ 100000) : Ct Try.prog 23 [.agg (cGs g).toArray, .int .i64 sf, .agg (cRu t r).toArray] [(t, 2, r.tb.map cOw)] (isV (.int .i64 (ckGSR g sf r))) := by
  refine Ct.of (N := 18) Try.func23 rfl rfl rfl fun w => ?_
  refine C_weak (E' := [(0, .agg (cGs g).toArray), (1, .int .i64 sf), (2, .agg (cRu t r).toArray)]) (rs' := [rd t 2 (r.tb.map cOw)]) ⟨rfl, rfl, rfl, trivial⟩ (fun _ h => h) ?_
  have hl1 := len_map cOw r.tb
  refine C_seq ?_
  refine C_region ?_
  refine L_box rfl rfl rfl fun g3 => ?_
  refine L_box rfl rfl rfl fun g5 => ?_
  refine L_q rfl rfl rfl (q_assign rfl) ?_
  refine L_then ?_
  refine C_seq ?_
  refine C_seq ?_
  refine C_region ?_
  refine L_q rfl rfl rfl (q_loadA tb rfl rfl bxo rfl rfl) ?_
  refine L_call tb rfl rfl (ct_shotlineref01_CheckGas g.o g.h) no_ps rfl ?_
  refine L_q rfl rfl rfl (q_assign rfl) ?_
  refine L_then ?_
  refine C_seq ?_
  refine C_region ?_
  refine L_q rfl rfl rfl (q_move rfl) ?_
  refine L_q rfl rfl rfl (q_neq rfl rfl) ?_
  refine L_then ?_
  refine C_dec rfl (fun h1 => ?_) (fun h1 => ?_)
  · -- t11 True
    refine C_seq ?_
    refine C_region ?_
    refine L_q rfl rfl rfl (q_move rfl) ?_
    refine L_q rfl rfl rfl (q_assign rfl) ?_
    refine L_then ?_
    refine C_ret ?_
    rw [ckGSR_1 h1]
    exact ret_of (res1 rfl rfl) sub_nil (by intro r hr; cases hr) ⟨rfl, rfl⟩
  · -- t11 False
    refine C_skip_then ?_
    refine C_seq ?_
    refine C_seq ?_
    refine C_region ?_
    refine L_q rfl rfl rfl (q_move rfl) ?_
    refine L_call tb rfl rfl (ct_shotlineref01_IsSurface _) no_ps rfl ?_
    refine L_q rfl rfl rfl (q_not rfl (by first | exact (rfl : (!true) = false) | exact (rfl : (!false) = true) | exact decide_not.symm | rfl)) ?_
    refine L_then ?_
    refine C_dec rfl (fun h2 => ?_) (fun h2 => ?_)
    · -- t15 True
      refine C_seq ?_
      refine C_region ?_
      refine L_q rfl rfl rfl (q_assign rfl) ?_
      refine L_then ?_
      refine C_ret ?_
      rw [ckGSR_2 (Decidable.not_not.1 h1) (by omega)]
      exact ret_of (res1 rfl rfl) sub_nil (by intro r hr; cases hr) ⟨rfl, rfl⟩
    · -- t15 False
      refine C_skip_then ?_
      refine C_seq ?_
      refine C_region ?_
      refine L_q rfl rfl rfl (q_loadA tb rfl rfl bxo rfl rfl) ?_
      refine L_call tb rfl rfl (ct_shotlineref05_CheckRules t r hlt) (ps_cons (by first | exact gvo | exact gvd gvo (by omega)) no_ps) rfl ?_
      refine L_q rfl rfl rfl (q_assign rfl) ?_
      refine L_then ?_
      refine C_ret ?_
      rw [ckGSR_3 (Decidable.not_not.1 h1) (by omega)]
      exact ret_of (res1 rfl rfl) sub_nil (by intro r hr; cases hr) ⟨rfl, rfl⟩
end Go.Proofs.Ytolnohjbpllmhaa
