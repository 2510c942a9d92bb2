/-
  Walks: each function named returns what its model says. Conditions: those in front of each theorem.
-/
import Derived.Test.YtibohfipgjljhaaDoorKB
import Derived.Test.YtibohfipgjljhaaDoorEqT
namespace Go.Proofs.YtibohfipgjljhaaDoor
open Go.RowKit

set_option maxRecDepth 100000 in
set_option maxHeartbeats 1000000 in
theorem ct_gas_nameOf  : CtK Tryd.prog 0 136 knL knZ 90 [gsV 180 450] [] (isV (.string sTX)) := by
  refine CtK.of (N := 68) Tryd.func90 rfl rfl rfl fun w hK => ?_
  obtain ⟨bm, es, clock, hKB⟩ := id hK
  refine C_weak (E' := [(0, gsV 180 450)]) (rs' := []) ⟨rfl, trivial⟩ (fun _ h => h) ?_
  refine C_seq ?_
  refine C_region ?_
  refine L_box rfl rfl rfl fun g1 => ?_
  refine L_q rfl rfl rfl (q_assign rfl) ?_
  refine L_then ?_
  refine C_seq ?_
  refine C_seq ?_
  refine C_region ?_
  refine L_q rfl rfl rfl (q_gmap tb rfl rfl hKB) ?_
  refine L_range Tryd.underlying136 rfl hKB rfl fun r7 => ?_
  refine L_then ?_
  refine C_block ?_
  refine C_loop (ι := Array Nat) (fun seen => ([(1, .pointer (some ⟨g1, 0, none⟩)), (7, .pointer (some ⟨r7, 0, none⟩))], [itr r7 bm clock seen clock, box g1 23 [.int .i64 180, .int .i64 450]])) (fun seen => True) (fun seen => (leftOf es seen).size) #[] trivial (fun a w hs => hs.weak ⟨rfl, rfl, trivial⟩ (fun h => h.pk (by repeat (first | with_reducible exact pk_nil | refine pk_box rfl ?_ | refine pk_rd rfl ?_ | refine pk_sl rfl ?_ | with_reducible refine pk_app ?_ | with_reducible refine pk_app0 ?_ | with_reducible refine pk_app0L ?_ | with_reducible exact pk_tl | refine pk_var ?_)))) ?_
  intro seen _
  try dsimp only
  refine C_seq ?_
  refine C_region ?_
  first | refine L_next rfl hKB rfl (fun hl_ => ?_) (fun e_ he_ => ?_) | (refine L_front1 ?_; refine L_next rfl hKB rfl (fun hl_ => ?_) (fun e_ he_ => ?_)) | (refine L_front2 ?_; refine L_next rfl hKB rfl (fun hl_ => ?_) (fun e_ he_ => ?_)) | (refine L_front3 ?_; refine L_next rfl hKB rfl (fun hl_ => ?_) (fun e_ he_ => ?_))
  · -- next False
    refine L_q rfl rfl rfl (q_ext0 rfl) ?_
    refine L_then ?_
    refine C_seq ?_
    refine C_false rfl ?_
    refine C_exit ?_
    change C Tryd.prog _ _ _ _ _ _ _
    refine C_seq ?_
    refine C_region ?_
    refine L_q rfl rfl rfl (q_assign rfl) ?_
    refine L_then ?_
    refine C_seq ?_
    refine C_block ?_
    refine C_seq ?_
    refine C_region ?_
    refine L_q rfl rfl rfl (q_field tb rfl rfl rfl) ?_
    refine L_q rfl rfl rfl (q_load tb rfl rfl bxo rfl) ?_
    refine L_q rfl rfl rfl (q_false (q_eql rfl rfl) (by decide)) ?_
    refine L_q rfl rfl rfl (q_move rfl) ?_
    refine L_skip rfl rfl rfl rfl rfl rfl rfl ?_
    refine L_skip rfl rfl rfl rfl rfl rfl rfl ?_
    refine L_skip rfl rfl rfl rfl rfl rfl rfl ?_
    refine L_skip rfl rfl rfl rfl rfl rfl rfl ?_
    refine L_q rfl rfl rfl (by first | exact q_pickT rfl rfl | exact q_pickF rfl rfl) ?_
    refine L_q rfl rfl rfl (q_assign rfl) ?_
    refine L_then ?_
    refine C_false rfl ?_
    refine C_seq ?_
    refine C_region ?_
    refine L_q rfl rfl rfl (q_field tb rfl rfl rfl) ?_
    refine L_q rfl rfl rfl (q_load tb rfl rfl bxo rfl) ?_
    refine L_q rfl rfl rfl (q_rem (e := 0) rfl rfl (by decide) (by decide)) ?_
    refine L_q rfl rfl rfl (q_true (q_eql rfl rfl) (by decide)) ?_
    refine L_q rfl rfl rfl (q_move rfl) ?_
    refine L_qg rfl rfl rfl rfl rfl rfl rfl (q_field tb rfl rfl rfl) ?_
    refine L_qg rfl rfl rfl rfl rfl rfl rfl (q_load tb rfl rfl bxo rfl) ?_
    refine L_qg rfl rfl rfl rfl rfl rfl rfl (q_rem (e := 0) rfl rfl (by decide) (by decide)) ?_
    refine L_qg rfl rfl rfl rfl rfl rfl rfl (q_true (q_eql rfl rfl) (by decide)) ?_
    refine L_q rfl rfl rfl (by first | exact q_pickT rfl rfl | exact q_pickF rfl rfl) ?_
    refine L_q rfl rfl rfl (q_assign rfl) ?_
    refine L_then ?_
    refine C_true rfl ?_
    refine C_seq ?_
    refine C_draw (n := 13) [(0, false), (1, false), (2, false), (3, false), (7, false), (8, false), (9, false), (10, false), (4, true), (5, false), (6, false), (11, true), (12, false)] mixed (by kernel_rfl) ?_
    refine W_q rfl rfl rfl rfl (q_move rfl) ?_
    refine W_q rfl rfl rfl rfl (q_field tb rfl rfl rfl) ?_
    refine W_q rfl rfl rfl rfl (q_load tb rfl rfl bxo rfl) ?_
    refine W_q rfl rfl rfl rfl (q_quo (e := 18) rfl rfl (by decide) (by decide)) ?_
    refine W_q rfl rfl rfl rfl (q_move rfl) ?_
    refine W_q rfl rfl rfl rfl (q_field tb rfl rfl rfl) ?_
    refine W_q rfl rfl rfl rfl (q_load tb rfl rfl bxo rfl) ?_
    refine W_q rfl rfl rfl rfl (q_quo (e := 45) rfl rfl (by decide) (by decide)) ?_
    refine W_callC rfl rfl (tb.en_ok _ (lkT_mem (rfl : lkT tb.en 108 = some ()))) rfl rfl (ct_it18) no_ps rfl ?_
    refine W_q rfl rfl rfl rfl (q_cat (r := ⟨#[116, 120, 49, 56]⟩) rfl rfl (by decide) (by kernel_rfl)) ?_
    refine W_q rfl rfl rfl rfl (q_cat (r := ⟨#[116, 120, 49, 56, 47]⟩) rfl rfl (by decide) (by kernel_rfl)) ?_
    refine W_callC rfl rfl (tb.en_ok _ (lkT_mem (rfl : lkT tb.en 108 = some ()))) rfl rfl (ct_it45) no_ps rfl ?_
    refine W_q rfl rfl rfl rfl (q_cat (r := sTX) rfl rfl (by decide) (by kernel_rfl)) ?_
    refine W_nil ?_
    refine L_q rfl rfl rfl (q_assign rfl) ?_
    refine L_then ?_
    refine C_ret ?_
    exact ret_of (res1 rfl rfl) sub_nil (by intro r hr; cases hr) ⟨rfl, rfl⟩
  · -- next True
    obtain ⟨p9, hp9, hk9, hv9⟩ := hKB.en.sub e_ (left_mem he_)
    obtain ⟨o9, g9, hg9, hn9⟩ := knL_val hp9
    refine L_q rfl rfl rfl (q_ext0 rfl) ?_
    refine L_then ?_
    refine C_seq ?_
    refine C_true rfl ?_
    refine C_skip_then ?_
    refine C_block ?_
    refine C_seq ?_
    refine C_region ?_
    refine L_q rfl rfl rfl (q_entry rfl hKB m0 (left_mem he_)) ?_
    rw [hk9, hv9, hg9]
    refine L_q rfl rfl rfl (q_ext0 rfl) ?_
    refine L_q rfl rfl rfl (q_ext1 rfl) ?_
    refine L_alloc tb rfl rfl fun g4 => ?_
    refine L_q rfl rfl rfl (q_assign rfl) ?_
    first | refine L_store tb rfl rfl rfl rfl rfl rfl rfl rfl ?_ | (refine L_front1 ?_; refine L_store tb rfl rfl rfl rfl rfl rfl rfl rfl ?_) | (refine L_front2 ?_; refine L_store tb rfl rfl rfl rfl rfl rfl rfl rfl ?_) | (refine L_front3 ?_; refine L_store tb rfl rfl rfl rfl rfl rfl rfl rfl ?_) | (refine L_front4 ?_; refine L_store tb rfl rfl rfl rfl rfl rfl rfl rfl ?_) | (refine L_front5 ?_; refine L_store tb rfl rfl rfl rfl rfl rfl rfl rfl ?_) | (refine L_front6 ?_; refine L_store tb rfl rfl rfl rfl rfl rfl rfl rfl ?_)
    refine L_then ?_
    refine C_seq ?_
    refine C_region ?_
    refine L_q rfl rfl rfl (q_loadA tb rfl rfl bxo rfl rfl) ?_
    refine L_q rfl rfl rfl (q_loadA tb rfl rfl bxo rfl rfl) ?_
    refine L_q rfl rfl rfl (q_false (q_eqI (p := [o9, g9] = [180, 450]) (xs := [o9, g9]) (ys := [180, 450]) eq23 (by omega) eg23 rfl rfl rfl rfl Iff.rfl) (decide_eq_false (fun h => hn9 (by simpa using h)))) ?_
    refine L_then ?_
    refine C_false rfl ?_
    refine C_skip ?_
    exact fun ac_ wo_ hs_ => ⟨(seen.push e_.born), trivial, (left_less he_), hs_.weak ⟨rfl, rfl, trivial⟩ (fun h => h.pk (by repeat (first | with_reducible exact pk_nil | refine pk_box rfl ?_ | refine pk_rd rfl ?_ | refine pk_sl rfl ?_ | with_reducible refine pk_app ?_ | with_reducible refine pk_app0 ?_ | with_reducible refine pk_app0L ?_ | with_reducible exact pk_tl | refine pk_var ?_)))⟩
set_option maxRecDepth 100000 in
theorem ct_gas_Parse  : CtK Tryd.prog 0 136 knL knZ 43 [.string sTX] [] (isV (.tuple #[gsV 180 450, .int .i64 0])) := by
  refine CtK.of (N := 26) Tryd.func43 rfl rfl rfl fun w hK => ?_
  refine C_weak (E' := [(0, .string sTX)]) (rs' := []) ⟨rfl, trivial⟩ (fun _ h => h) ?_
  refine C_seq ?_
  refine C_region ?_
  refine L_alloc tb rfl rfl fun g2 => ?_
  refine L_q rfl rfl rfl (q_assign rfl) ?_
  refine L_then ?_
  refine C_seq ?_
  refine C_region ?_
  refine L_q rfl rfl rfl (q_move rfl) ?_
  refine L_lo rfl rfl rfl (lo_callK tb hK rfl rfl (ct_gas_read) no_ps isV_sinks) ?_
  rintro _ _ ⟨rfl, rfl⟩
  refine L_q rfl rfl rfl (q_move rfl) ?_
  refine L_q rfl rfl rfl (q_ext0 rfl) ?_
  refine L_q rfl rfl rfl (q_ext1 rfl) ?_
  refine L_alloc tb rfl rfl fun g4 => ?_
  first | refine L_store tb rfl rfl rfl rfl rfl rfl rfl rfl ?_ | (refine L_front1 ?_; refine L_store tb rfl rfl rfl rfl rfl rfl rfl rfl ?_) | (refine L_front2 ?_; refine L_store tb rfl rfl rfl rfl rfl rfl rfl rfl ?_) | (refine L_front3 ?_; refine L_store tb rfl rfl rfl rfl rfl rfl rfl rfl ?_) | (refine L_front4 ?_; refine L_store tb rfl rfl rfl rfl rfl rfl rfl rfl ?_) | (refine L_front5 ?_; refine L_store tb rfl rfl rfl rfl rfl rfl rfl rfl ?_) | (refine L_front6 ?_; refine L_store tb rfl rfl rfl rfl rfl rfl rfl rfl ?_)
  refine L_q rfl rfl rfl (q_assign rfl) ?_
  refine L_then ?_
  refine C_seq ?_
  refine C_seq ?_
  refine C_region ?_
  refine L_q rfl rfl rfl (q_move rfl) ?_
  refine L_q rfl rfl rfl (q_not rfl (by first | exact (rfl : (!true) = false) | exact (rfl : (!false) = true) | exact decide_not.symm | rfl)) ?_
  refine L_q rfl rfl rfl (q_move rfl) ?_
  refine L_qg rfl rfl rfl rfl rfl rfl rfl (q_loadA tb rfl rfl bxo rfl rfl) ?_
  refine L_callg tb rfl rfl rfl rfl rfl rfl (ct_gas_CheckGas 180 450) no_ps rfl ?_
  refine L_qg rfl rfl rfl rfl rfl rfl rfl (q_false (q_neq rfl rfl) (by decide)) ?_
  refine L_q rfl rfl rfl (by first | exact q_pickT rfl rfl | exact q_pickF rfl rfl) ?_
  refine L_q rfl rfl rfl (q_move rfl) ?_
  refine L_qg rfl rfl rfl rfl rfl rfl rfl (q_loadA tb rfl rfl bxo rfl rfl) ?_
  refine L_log rfl rfl rfl rfl rfl rfl rfl (lo_callK tb hK rfl rfl (ct_gas_nameOf) no_ps isV_sinks) ?_
  rintro _ _ ⟨rfl, rfl⟩
  refine L_qg rfl rfl rfl rfl rfl rfl rfl (q_move rfl) ?_
  refine L_qg rfl rfl rfl rfl rfl rfl rfl (q_sne (b := false) rfl rfl (by decide)) ?_
  refine L_q rfl rfl rfl (by first | exact q_pickT rfl rfl | exact q_pickF rfl rfl) ?_
  refine L_then ?_
  refine C_false rfl ?_
  refine C_skip_then ?_
  refine C_seq ?_
  refine C_region ?_
  refine L_q rfl rfl rfl (q_loadA tb rfl rfl bxo rfl rfl) ?_
  first | refine L_store tb rfl rfl rfl rfl rfl rfl rfl rfl ?_ | (refine L_front1 ?_; refine L_store tb rfl rfl rfl rfl rfl rfl rfl rfl ?_) | (refine L_front2 ?_; refine L_store tb rfl rfl rfl rfl rfl rfl rfl rfl ?_) | (refine L_front3 ?_; refine L_store tb rfl rfl rfl rfl rfl rfl rfl rfl ?_) | (refine L_front4 ?_; refine L_store tb rfl rfl rfl rfl rfl rfl rfl rfl ?_) | (refine L_front5 ?_; refine L_store tb rfl rfl rfl rfl rfl rfl rfl rfl ?_) | (refine L_front6 ?_; refine L_store tb rfl rfl rfl rfl rfl rfl rfl rfl ?_)
  refine L_q rfl rfl rfl (q_assign rfl) ?_
  refine L_then ?_
  refine C_ret ?_
  exact ret_of (resCT tb rfl rfl rfl rfl bxo rfl) sub_nil (by intro r hr; cases hr) ⟨rfl, rfl⟩
set_option maxRecDepth 100000 in
set_option maxHeartbeats 1000000 in
theorem ct_shotlinelaw01_awake  : CtK Tryd.prog 0 136 knL knZ 18 [] [] (isV (.bool true)) := by
  refine CtK.of (N := 75) Tryd.func18 rfl rfl rfl fun w hK => ?_
  refine C_weak (E' := []) (rs' := []) trivial (fun _ h => h) ?_
  refine C_seq ?_
  refine C_region ?_
  refine L_q rfl rfl rfl (q_assign rfl) ?_
  refine L_then ?_
  refine C_seq ?_
  refine C_region ?_
  refine L_lo rfl rfl rfl (lo_callK tb hK rfl rfl (ct_gas_Parse) no_ps isV_sinks) ?_
  rintro _ _ ⟨rfl, rfl⟩
  refine L_q rfl rfl rfl (q_move rfl) ?_
  refine L_q rfl rfl rfl (q_ext0 rfl) ?_
  refine L_q rfl rfl rfl (q_ext1 rfl) ?_
  refine L_alloc tb rfl rfl fun g1 => ?_
  first | refine L_store tb rfl rfl rfl rfl rfl rfl rfl rfl ?_ | (refine L_front1 ?_; refine L_store tb rfl rfl rfl rfl rfl rfl rfl rfl ?_) | (refine L_front2 ?_; refine L_store tb rfl rfl rfl rfl rfl rfl rfl rfl ?_) | (refine L_front3 ?_; refine L_store tb rfl rfl rfl rfl rfl rfl rfl rfl ?_) | (refine L_front4 ?_; refine L_store tb rfl rfl rfl rfl rfl rfl rfl rfl ?_) | (refine L_front5 ?_; refine L_store tb rfl rfl rfl rfl rfl rfl rfl rfl ?_) | (refine L_front6 ?_; refine L_store tb rfl rfl rfl rfl rfl rfl rfl rfl ?_)
  refine L_q rfl rfl rfl (q_assign rfl) ?_
  refine L_then ?_
  refine C_seq ?_
  refine C_region ?_
  refine L_q rfl rfl rfl (by first | exact q_build tb rfl rfl rfl rfl | exact q_buildArr tb rfl rfl rfl rfl rfl) ?_
  refine L_q rfl rfl rfl (by first | exact q_build tb rfl rfl rfl rfl | exact q_buildArr tb rfl rfl rfl rfl rfl) ?_
  refine L_call tb rfl rfl (ct_gas_DepthsFor 320 0 1000 160 1400 (by decide) (by decide) (by decide) (by decide)) no_ps rfl ?_
  refine L_q rfl rfl rfl (q_move rfl) ?_
  refine L_q rfl rfl rfl (q_ext0 rfl) ?_
  refine L_q rfl rfl rfl (q_ext1 rfl) ?_
  refine L_alloc tb rfl rfl fun g3 => ?_
  first | refine L_store tb rfl rfl rfl rfl rfl rfl rfl rfl ?_ | (refine L_front1 ?_; refine L_store tb rfl rfl rfl rfl rfl rfl rfl rfl ?_) | (refine L_front2 ?_; refine L_store tb rfl rfl rfl rfl rfl rfl rfl rfl ?_) | (refine L_front3 ?_; refine L_store tb rfl rfl rfl rfl rfl rfl rfl rfl ?_) | (refine L_front4 ?_; refine L_store tb rfl rfl rfl rfl rfl rfl rfl rfl ?_) | (refine L_front5 ?_; refine L_store tb rfl rfl rfl rfl rfl rfl rfl rfl ?_) | (refine L_front6 ?_; refine L_store tb rfl rfl rfl rfl rfl rfl rfl rfl ?_)
  refine L_q rfl rfl rfl (q_assign rfl) ?_
  refine L_then ?_
  refine C_seq ?_
  refine C_region ?_
  refine L_q rfl rfl rfl (by first | exact q_build tb rfl rfl rfl rfl | exact q_buildArr tb rfl rfl rfl rfl rfl) ?_
  refine L_q rfl rfl rfl (by first | exact q_build tb rfl rfl rfl rfl | exact q_buildArr tb rfl rfl rfl rfl rfl) ?_
  refine L_call tb rfl rfl (ct_gas_BestGas aX okAX) no_ps rfl ?_
  rw [bsX]; dsimp only
  refine L_q rfl rfl rfl (q_move rfl) ?_
  refine L_q rfl rfl rfl (q_ext0 rfl) ?_
  refine L_q rfl rfl rfl (q_ext1 rfl) ?_
  refine L_alloc tb rfl rfl fun g5 => ?_
  first | refine L_store tb rfl rfl rfl rfl rfl rfl rfl rfl ?_ | (refine L_front1 ?_; refine L_store tb rfl rfl rfl rfl rfl rfl rfl rfl ?_) | (refine L_front2 ?_; refine L_store tb rfl rfl rfl rfl rfl rfl rfl rfl ?_) | (refine L_front3 ?_; refine L_store tb rfl rfl rfl rfl rfl rfl rfl rfl ?_) | (refine L_front4 ?_; refine L_store tb rfl rfl rfl rfl rfl rfl rfl rfl ?_) | (refine L_front5 ?_; refine L_store tb rfl rfl rfl rfl rfl rfl rfl rfl ?_) | (refine L_front6 ?_; refine L_store tb rfl rfl rfl rfl rfl rfl rfl rfl ?_)
  refine L_q rfl rfl rfl (q_assign rfl) ?_
  refine L_then ?_
  refine C_seq ?_
  refine C_region ?_
  refine L_q rfl rfl rfl (by first | exact q_build tb rfl rfl rfl rfl | exact q_buildArr tb rfl rfl rfl rfl rfl) ?_
  refine L_q rfl rfl rfl (by first | exact q_build tb rfl rfl rfl rfl | exact q_buildArr tb rfl rfl rfl rfl rfl) ?_
  refine L_q rfl rfl rfl (by first | exact q_build tb rfl rfl rfl rfl | exact q_buildArr tb rfl rfl rfl rfl rfl) ?_
  refine L_q rfl rfl rfl (by first | exact q_build tb rfl rfl rfl rfl | exact q_buildArr tb rfl rfl rfl rfl rfl) ?_
  refine L_mk (lo_bslice tb rfl rfl rfl (xs := (exL.map cGp)) rfl rfl (by decide) rfl (by omega) rfl) rfl rfl rfl fun v30 => ?_
  refine L_call tb rfl rfl (ct_gas_Mixed v30) (ps_cons (by first | exact gvo | exact gvd gvo (by omega)) no_ps) rfl ?_
  refine L_q rfl rfl rfl (q_move rfl) ?_
  refine L_q rfl rfl rfl (q_ext0 rfl) ?_
  refine L_q rfl rfl rfl (q_ext1 rfl) ?_
  refine L_alloc tb rfl rfl fun g7 => ?_
  first | refine L_store tb rfl rfl rfl rfl rfl rfl rfl rfl ?_ | (refine L_front1 ?_; refine L_store tb rfl rfl rfl rfl rfl rfl rfl rfl ?_) | (refine L_front2 ?_; refine L_store tb rfl rfl rfl rfl rfl rfl rfl rfl ?_) | (refine L_front3 ?_; refine L_store tb rfl rfl rfl rfl rfl rfl rfl rfl ?_) | (refine L_front4 ?_; refine L_store tb rfl rfl rfl rfl rfl rfl rfl rfl ?_) | (refine L_front5 ?_; refine L_store tb rfl rfl rfl rfl rfl rfl rfl rfl ?_) | (refine L_front6 ?_; refine L_store tb rfl rfl rfl rfl rfl rfl rfl rfl ?_)
  refine L_q rfl rfl rfl (q_assign rfl) ?_
  refine L_then ?_
  refine C_seq ?_
  refine C_region ?_
  refine L_q rfl rfl rfl (q_move rfl) ?_
  refine L_q rfl rfl rfl (q_true (q_eql rfl rfl) (by decide)) ?_
  refine L_q rfl rfl rfl (q_move rfl) ?_
  refine L_qg rfl rfl rfl rfl rfl rfl rfl (q_loadA tb rfl rfl bxo rfl rfl) ?_
  refine L_qg rfl rfl rfl rfl rfl rfl rfl (by first | exact q_build tb rfl rfl rfl rfl | exact q_buildArr tb rfl rfl rfl rfl rfl) ?_
  refine L_qg rfl rfl rfl rfl rfl rfl rfl (q_true (q_eqI (p := [180, 450] = [180, 450]) (xs := [180, 450]) (ys := [180, 450]) eq23 (by omega) eg23 rfl rfl rfl rfl Iff.rfl) (by decide)) ?_
  refine L_q rfl rfl rfl (by first | exact q_pickT rfl rfl | exact q_pickF rfl rfl) ?_
  refine L_q rfl rfl rfl (q_move rfl) ?_
  refine L_qg rfl rfl rfl rfl rfl rfl rfl (q_move rfl) ?_
  refine L_qg rfl rfl rfl rfl rfl rfl rfl (q_true (q_eql rfl rfl) (by decide)) ?_
  refine L_q rfl rfl rfl (by first | exact q_pickT rfl rfl | exact q_pickF rfl rfl) ?_
  refine L_q rfl rfl rfl (q_move rfl) ?_
  refine L_qg rfl rfl rfl rfl rfl rfl rfl (q_loadA tb rfl rfl bxo rfl rfl) ?_
  refine L_qg rfl rfl rfl rfl rfl rfl rfl (by first | exact q_build tb rfl rfl rfl rfl | exact q_buildArr tb rfl rfl rfl rfl rfl) ?_
  refine L_qg rfl rfl rfl rfl rfl rfl rfl (q_true (q_eqI (p := [(dfR 320 1000 160 1400).lo, (dfR 320 1000 160 1400).hi] = [0, 3375]) (xs := [(dfR 320 1000 160 1400).lo, (dfR 320 1000 160 1400).hi]) (ys := [0, 3375]) eq28 (by omega) eg28 rfl rfl rfl rfl Iff.rfl) (by decide)) ?_
  refine L_q rfl rfl rfl (by first | exact q_pickT rfl rfl | exact q_pickF rfl rfl) ?_
  refine L_q rfl rfl rfl (q_move rfl) ?_
  refine L_qg rfl rfl rfl rfl rfl rfl rfl (q_move rfl) ?_
  refine L_qg rfl rfl rfl rfl rfl rfl rfl (q_true (q_eql rfl rfl) (by decide)) ?_
  refine L_q rfl rfl rfl (by first | exact q_pickT rfl rfl | exact q_pickF rfl rfl) ?_
  refine L_q rfl rfl rfl (q_move rfl) ?_
  refine L_qg rfl rfl rfl rfl rfl rfl rfl (q_loadA tb rfl rfl bxo rfl rfl) ?_
  refine L_qg rfl rfl rfl rfl rfl rfl rfl (by first | exact q_build tb rfl rfl rfl rfl | exact q_buildArr tb rfl rfl rfl rfl rfl) ?_
  refine L_qg rfl rfl rfl rfl rfl rfl rfl (q_true (q_eqI (p := [200, 429] = [200, 429]) (xs := [200, 429]) (ys := [200, 429]) eq23 (by omega) eg23 rfl rfl rfl rfl Iff.rfl) (by decide)) ?_
  refine L_q rfl rfl rfl (by first | exact q_pickT rfl rfl | exact q_pickF rfl rfl) ?_
  refine L_q rfl rfl rfl (q_move rfl) ?_
  refine L_qg rfl rfl rfl rfl rfl rfl rfl (q_move rfl) ?_
  refine L_qg rfl rfl rfl rfl rfl rfl rfl (q_true (q_eql rfl rfl) (by decide)) ?_
  refine L_q rfl rfl rfl (by first | exact q_pickT rfl rfl | exact q_pickF rfl rfl) ?_
  refine L_q rfl rfl rfl (q_move rfl) ?_
  refine L_qg rfl rfl rfl rfl rfl rfl rfl (by first | exact q_index tb rfl rfl rfl rfl (by first | exact gvo | exact gvd gvo (by omega)) (by omega) (by first | omega | (simp; done) | (simp; omega)) | exact q_indexP tb rfl rfl rfl rfl (by omega) (by omega)) ?_
  refine L_qg rfl rfl rfl rfl rfl rfl rfl (by first | exact q_loadA tb rfl rfl bxo rfl rfl | exact q_loadEA tb rfl rfl (by first | exact gvo | exact gvd gvo (by omega)) (by omega) (by simp) rfl rfl) ?_
  refine L_qg rfl rfl rfl rfl rfl rfl rfl (by first | exact q_build tb rfl rfl rfl rfl | exact q_buildArr tb rfl rfl rfl rfl rfl) ?_
  refine L_qg rfl rfl rfl rfl rfl rfl rfl (q_true (q_eqI (p := [163, 400] = [163, 400]) (xs := [163, 400]) (ys := [163, 400]) eq50 (by omega) eg50 rfl rfl rfl rfl Iff.rfl) (by decide)) ?_
  refine L_q rfl rfl rfl (by first | exact q_pickT rfl rfl | exact q_pickF rfl rfl) ?_
  refine L_q rfl rfl rfl (q_move rfl) ?_
  refine L_qg rfl rfl rfl rfl rfl rfl rfl (by first | exact q_index tb rfl rfl rfl rfl (by first | exact gvo | exact gvd gvo (by omega)) (by omega) (by first | omega | (simp; done) | (simp; omega)) | exact q_indexP tb rfl rfl rfl rfl (by omega) (by omega)) ?_
  refine L_qg rfl rfl rfl rfl rfl rfl rfl (by first | exact q_loadA tb rfl rfl bxo rfl rfl | exact q_loadEA tb rfl rfl (by first | exact gvo | exact gvd gvo (by omega)) (by omega) (by simp) rfl rfl) ?_
  refine L_qg rfl rfl rfl rfl rfl rfl rfl (by first | exact q_build tb rfl rfl rfl rfl | exact q_buildArr tb rfl rfl rfl rfl rfl) ?_
  refine L_qg rfl rfl rfl rfl rfl rfl rfl (q_true (q_eqI (p := [237, 400] = [237, 400]) (xs := [237, 400]) (ys := [237, 400]) eq50 (by omega) eg50 rfl rfl rfl rfl Iff.rfl) (by decide)) ?_
  refine L_q rfl rfl rfl (by first | exact q_pickT rfl rfl | exact q_pickF rfl rfl) ?_
  refine L_q rfl rfl rfl (q_assign rfl) ?_
  refine L_then ?_
  refine C_ret ?_
  exact ret_of (res1 rfl rfl) sub_nil (by intro r hr; cases hr) ⟨rfl, rfl⟩
end Go.Proofs.YtibohfipgjljhaaDoor
