/-
  Walks: each function named returns what its model says. Conditions: those in front of each theorem.
-/
import Derived.Test.YtibohfipgjljhaaDoorKJ
import Derived.Test.YtibohfipgjljhaaDoorLawRichest
namespace Go.Proofs.YtibohfipgjljhaaDoor
open Go.RowKit

set_option maxRecDepth 100000 in
set_option maxHeartbeats 4000000 in
theorem ct_shotlinelaw01_GasGaps (v : Value) (gs : List Gs) (g : Gs) (su lo hi dl dh : Int) : CtK Tryd.prog 0 136 knL knZ 16 [v, .agg (cAr g su lo hi).toArray, .agg #[.int .i64 dl, .int .i64 dh]] [(v, 2, gs.map cGs)] (isV (.bool true)) := by
  refine CtK.of (N := 74) Tryd.func16 rfl rfl rfl fun w hK => ?_
  refine C_weak (E' := [(0, v), (1, .agg (cAr g su lo hi).toArray), (2, .agg #[.int .i64 dl, .int .i64 dh])]) (rs' := [rd v 2 (gs.map cGs)]) ⟨rfl, rfl, rfl, trivial⟩ (fun _ h => h) ?_
  have hl1 := len_map cGs gs
  refine C_seq ?_
  refine C_region ?_
  refine L_box rfl rfl rfl fun g4 => ?_
  refine L_box rfl rfl rfl fun g5 => ?_
  refine L_q rfl rfl rfl (q_assign rfl) ?_
  refine L_then ?_
  refine C_seq ?_
  refine C_seq ?_
  refine C_region ?_
  refine L_lo rfl rfl rfl (lo_callK tb hK rfl rfl (ct_shotlinelaw01_awake) no_ps isV_sinks) ?_
  rintro _ _ ⟨rfl, rfl⟩
  refine L_q rfl rfl rfl (q_not rfl (by first | exact (rfl : (!true) = false) | exact (rfl : (!false) = true) | exact decide_not.symm | rfl)) ?_
  refine L_then ?_
  refine C_false rfl ?_
  refine C_skip_then ?_
  refine C_seq ?_
  refine C_seq ?_
  refine C_region ?_
  refine L_q rfl rfl rfl (q_move rfl) ?_
  refine L_call tb rfl rfl (ct_many v gs) (ps_cons (by first | exact gvo | exact gvd gvo (by omega)) no_ps) rfl ?_
  refine L_q rfl rfl rfl (q_not rfl (by first | exact (rfl : (!true) = false) | exact (rfl : (!false) = true) | exact decide_not.symm | rfl)) ?_
  refine L_then ?_
  refine C_dec rfl (fun h2 => ?_) (fun h2 => ?_)
  · -- t15 True
    refine C_seq ?_
    refine C_region ?_
    refine L_q rfl rfl rfl (q_assign rfl) ?_
    refine L_then ?_
    refine C_ret ?_
    exact ret_of (res1 rfl rfl) sub_nil (by intro r hr; cases hr) ⟨rfl, rfl⟩
  · -- t15 False
    refine C_skip_then ?_
    refine C_seq ?_
    refine C_draw (n := 13) [(0, false), (2, false), (3, false), (4, false), (5, false), (6, false), (1, true), (7, true), (8, false), (9, false), (10, false), (11, false), (12, false)] mixed (by kernel_rfl) ?_
    refine W_q rfl rfl rfl rfl (q_move rfl) ?_
    refine W_q rfl rfl rfl rfl (q_field tb rfl rfl rfl) ?_
    refine W_q rfl rfl rfl rfl (q_load tb rfl rfl bxo rfl) ?_
    refine W_q rfl rfl rfl rfl (q_field tb rfl rfl rfl) ?_
    refine W_q rfl rfl rfl rfl (q_loadA tb rfl rfl bxo rfl rfl) ?_
    refine W_q rfl rfl rfl rfl (q_loadA tb rfl rfl bxo rfl rfl) ?_
    refine W_callS tb rfl rfl rfl rfl (ct_shotlinebase_CopyGases v gs (by omega)) (ps_cons (by first | exact gvo | exact gvd gvo (by omega)) no_ps) rfl fun v18 => ?_
    refine W_call tb rfl rfl rfl rfl (ct_FirstGapE v18 gs su lo hi dl dh (by omega)) (ps_cons (by first | exact gvo | exact gvd gvo (by omega)) no_ps) rfl ?_
    refine W_q rfl rfl rfl rfl (q_move rfl) ?_
    refine W_q rfl rfl rfl rfl (q_ext0 rfl) ?_
    refine W_q rfl rfl rfl rfl (q_ext1 rfl) ?_
    refine W_q rfl rfl rfl rfl (q_assign rfl) ?_
    refine W_q rfl rfl rfl rfl (q_assign rfl) ?_
    refine W_nil ?_
    refine L_then ?_
    refine C_seq ?_
    refine C_region ?_
    refine L_q rfl rfl rfl (q_move rfl) ?_
    refine L_call tb rfl rfl (ct_shotlineref01_CheckGases v gs (by omega)) (ps_cons (by first | exact gvo | exact gvd gvo (by omega)) no_ps) rfl ?_
    refine L_q rfl rfl rfl (q_assign rfl) ?_
    refine L_then ?_
    refine C_cut (ι := Unit) (fun _p => ([(0, v), (4, .pointer (some ⟨g4, 0, none⟩)), (5, .pointer (some ⟨g5, 0, none⟩)), (7, .int .i64 ((gpE gs su lo hi dl dh).1)), (8, .int .i64 ((gpE gs su lo hi dl dh).2)), (9, .int .i64 ((if ckGs8 gs = 0 then ckPlc su 0 else ckGs8 gs)))], [box g4 69 (cAr g su lo hi), box g5 28 [.int .i64 dl, .int .i64 dh], rd v 2 (gs.map cGs)])) (fun _p => True) ?_ ?_
    · -- ahead
      refine C_seq ?_
      refine C_region ?_
      refine L_q rfl rfl rfl (q_move rfl) ?_
      refine L_q rfl rfl rfl (q_eql rfl rfl) ?_
      refine L_then ?_
      refine C_dec rfl (fun h1 => ?_) (fun h1 => ?_)
      · -- t30 True
        refine C_region ?_
        refine L_q rfl rfl rfl (q_field tb rfl rfl rfl) ?_
        refine L_q rfl rfl rfl (q_load tb rfl rfl bxo rfl) ?_
        refine L_call tb rfl rfl (ct_shotlineref01_CheckPlace su 0) no_ps rfl ?_
        refine L_q rfl rfl rfl (q_assign rfl) ?_
        refine L_end ?_
        exact fun ac_ wo_ hs_ => ⟨(), trivial, hs_.weak ⟨rfl, rfl, rfl, rfl, rfl, en (by rw [if_pos h1]), trivial⟩ (fun h => h.pk (by repeat (first | with_reducible exact pk_nil | refine pk_box rfl ?_ | refine pk_rd rfl ?_ | refine pk_sl rfl ?_ | with_reducible refine pk_app ?_ | with_reducible refine pk_app0 ?_ | with_reducible refine pk_app0L ?_ | with_reducible exact pk_tl | refine pk_var ?_)))⟩
      · -- t30 False
        refine C_skip ?_
        exact fun ac_ wo_ hs_ => ⟨(), trivial, hs_.weak ⟨rfl, rfl, rfl, rfl, rfl, en (by rw [if_neg h1]), trivial⟩ (fun h => h.pk (by repeat (first | with_reducible exact pk_nil | refine pk_box rfl ?_ | refine pk_rd rfl ?_ | refine pk_sl rfl ?_ | with_reducible refine pk_app ?_ | with_reducible refine pk_app0 ?_ | with_reducible refine pk_app0L ?_ | with_reducible exact pk_tl | refine pk_var ?_)))⟩
    · -- behind
      intro _ _
      refine C_cut (ι := Unit) (fun _p => ([(0, v), (4, .pointer (some ⟨g4, 0, none⟩)), (5, .pointer (some ⟨g5, 0, none⟩)), (7, .int .i64 ((gpE gs su lo hi dl dh).1)), (8, .int .i64 ((gpE gs su lo hi dl dh).2)), (9, .int .i64 ((if (if ckGs8 gs = 0 then ckPlc su 0 else ckGs8 gs) = 0 then ckLim lo hi else (if ckGs8 gs = 0 then ckPlc su 0 else ckGs8 gs))))], [box g4 69 (cAr g su lo hi), box g5 28 [.int .i64 dl, .int .i64 dh], rd v 2 (gs.map cGs)])) (fun _p => True) ?_ ?_
      · -- ahead
        refine C_seq ?_
        refine C_region ?_
        refine L_q rfl rfl rfl (q_move rfl) ?_
        refine L_q rfl rfl rfl (q_eql rfl rfl) ?_
        refine L_then ?_
        refine C_dec rfl (fun h2 => ?_) (fun h2 => ?_)
        · -- t35 True
          refine C_region ?_
          refine L_q rfl rfl rfl (q_field tb rfl rfl rfl) ?_
          refine L_q rfl rfl rfl (q_loadA tb rfl rfl bxo rfl rfl) ?_
          refine L_call tb rfl rfl (ct_shotlineref01_CheckLimits lo hi) no_ps rfl ?_
          refine L_q rfl rfl rfl (q_assign rfl) ?_
          refine L_end ?_
          exact fun ac_ wo_ hs_ => ⟨(), trivial, hs_.weak ⟨rfl, rfl, rfl, rfl, rfl, en (by rw [if_pos h2]), trivial⟩ (fun h => h.pk (by repeat (first | with_reducible exact pk_nil | refine pk_box rfl ?_ | refine pk_rd rfl ?_ | refine pk_sl rfl ?_ | with_reducible refine pk_app ?_ | with_reducible refine pk_app0 ?_ | with_reducible refine pk_app0L ?_ | with_reducible exact pk_tl | refine pk_var ?_)))⟩
        · -- t35 False
          refine C_skip ?_
          exact fun ac_ wo_ hs_ => ⟨(), trivial, hs_.weak ⟨rfl, rfl, rfl, rfl, rfl, en (by rw [if_neg h2]), trivial⟩ (fun h => h.pk (by repeat (first | with_reducible exact pk_nil | refine pk_box rfl ?_ | refine pk_rd rfl ?_ | refine pk_sl rfl ?_ | with_reducible refine pk_app ?_ | with_reducible refine pk_app0 ?_ | with_reducible refine pk_app0L ?_ | with_reducible exact pk_tl | refine pk_var ?_)))⟩
      · -- behind
        intro _ _
        refine C_cut (ι := Unit) (fun _p => ([(0, v), (4, .pointer (some ⟨g4, 0, none⟩)), (5, .pointer (some ⟨g5, 0, none⟩)), (7, .int .i64 ((gpE gs su lo hi dl dh).1)), (8, .int .i64 ((gpE gs su lo hi dl dh).2)), (9, .int .i64 ((gpC gs su lo hi dl dh)))], [box g4 69 (cAr g su lo hi), box g5 28 [.int .i64 dl, .int .i64 dh], rd v 2 (gs.map cGs)])) (fun _p => True) ?_ ?_
        · -- ahead
          refine C_seq ?_
          refine C_region ?_
          refine L_q rfl rfl rfl (q_move rfl) ?_
          refine L_q rfl rfl rfl (q_eql rfl rfl) ?_
          refine L_then ?_
          refine C_dec rfl (fun h3 => ?_) (fun h3 => ?_)
          · -- t40 True
            refine C_region ?_
            refine L_q rfl rfl rfl (q_loadA tb rfl rfl bxo rfl rfl) ?_
            refine L_call tb rfl rfl (ct_shotlineref01_CheckDepths dl dh) no_ps rfl ?_
            refine L_q rfl rfl rfl (q_assign rfl) ?_
            refine L_end ?_
            exact fun ac_ wo_ hs_ => ⟨(), trivial, hs_.weak ⟨rfl, rfl, rfl, rfl, rfl, en (by unfold gpC; (repeat' split at h3) <;> (repeat' split) <;> omega), trivial⟩ (fun h => h.pk (by repeat (first | with_reducible exact pk_nil | refine pk_box rfl ?_ | refine pk_rd rfl ?_ | refine pk_sl rfl ?_ | with_reducible refine pk_app ?_ | with_reducible refine pk_app0 ?_ | with_reducible refine pk_app0L ?_ | with_reducible exact pk_tl | refine pk_var ?_)))⟩
          · -- t40 False
            refine C_skip ?_
            exact fun ac_ wo_ hs_ => ⟨(), trivial, hs_.weak ⟨rfl, rfl, rfl, rfl, rfl, en (by unfold gpC; (repeat' split at h3) <;> (repeat' split) <;> omega), trivial⟩ (fun h => h.pk (by repeat (first | with_reducible exact pk_nil | refine pk_box rfl ?_ | refine pk_rd rfl ?_ | refine pk_sl rfl ?_ | with_reducible refine pk_app ?_ | with_reducible refine pk_app0 ?_ | with_reducible refine pk_app0L ?_ | with_reducible exact pk_tl | refine pk_var ?_)))⟩
        · -- behind
          intro _ _
          refine C_seq ?_
          refine C_seq ?_
          refine C_region ?_
          refine L_q rfl rfl rfl (q_move rfl) ?_
          refine L_q rfl rfl rfl (q_neq rfl rfl) ?_
          refine L_then ?_
          refine C_dec rfl (fun hc => ?_) (fun hc => ?_)
          · -- t44 True
            rw [gpE_1 hc]
            refine C_seq ?_
            refine C_region ?_
            refine L_q rfl rfl rfl (q_move rfl) ?_
            refine L_q rfl rfl rfl (q_move rfl) ?_
            refine L_q rfl rfl rfl (q_true (q_eql rfl rfl) (decide_eq_true rfl)) ?_
            refine L_q rfl rfl rfl (q_move rfl) ?_
            refine L_qg rfl rfl rfl rfl rfl rfl rfl (q_move rfl) ?_
            refine L_qg rfl rfl rfl rfl rfl rfl rfl (q_true (q_eql rfl rfl) (decide_eq_true rfl)) ?_
            refine L_q rfl rfl rfl (by first | exact q_pickT rfl rfl | exact q_pickF rfl rfl) ?_
            refine L_q rfl rfl rfl (q_assign rfl) ?_
            refine L_then ?_
            refine C_ret ?_
            exact ret_of (res1 rfl rfl) sub_nil (by intro r hr; cases hr) ⟨rfl, rfl⟩
          · -- t44 False
            have hz := Decidable.not_not.1 hc
            refine C_skip_then ?_
            refine C_seq ?_
            refine C_region ?_
            refine L_q rfl rfl rfl (q_move rfl) ?_
            refine L_q rfl rfl rfl (q_field tb rfl rfl rfl) ?_
            refine L_q rfl rfl rfl (q_load tb rfl rfl bxo rfl) ?_
            refine L_q rfl rfl rfl (q_field tb rfl rfl rfl) ?_
            refine L_q rfl rfl rfl (q_loadA tb rfl rfl bxo rfl rfl) ?_
            refine L_q rfl rfl rfl (q_loadA tb rfl rfl bxo rfl rfl) ?_
            refine L_call tb rfl rfl (ct_shotlineref01_FirstGap v gs su lo hi dl dh (by omega) hz) (ps_cons (by first | exact gvo | exact gvd gvo (by omega)) no_ps) rfl ?_
            refine L_q rfl rfl rfl (q_assign rfl) ?_
            refine L_then ?_
            refine C_seq ?_
            refine C_seq ?_
            refine C_region ?_
            refine L_q rfl rfl rfl (q_move rfl) ?_
            refine L_q rfl rfl rfl (q_lss rfl rfl) ?_
            refine L_then ?_
            refine C_dec rfl (fun hneg => ?_) (fun hneg => ?_)
            · -- t60 True
              rw [gpE_2 hz hneg]
              refine C_seq ?_
              refine C_region ?_
              refine L_q rfl rfl rfl (q_move rfl) ?_
              refine L_q rfl rfl rfl (q_true (q_eql rfl rfl) (decide_eq_true rfl)) ?_
              refine L_q rfl rfl rfl (q_move rfl) ?_
              refine L_qg rfl rfl rfl rfl rfl rfl rfl (q_move rfl) ?_
              refine L_qg rfl rfl rfl rfl rfl rfl rfl (q_true (q_eql rfl rfl) (decide_eq_true rfl)) ?_
              refine L_q rfl rfl rfl (by first | exact q_pickT rfl rfl | exact q_pickF rfl rfl) ?_
              refine L_q rfl rfl rfl (q_assign rfl) ?_
              refine L_then ?_
              refine C_ret ?_
              exact ret_of (res1 rfl rfl) sub_nil (by intro r hr; cases hr) ⟨rfl, rfl⟩
            · -- t60 False
              rw [gpE_3 hz hneg]
              refine C_skip_then ?_
              refine C_seq ?_
              refine C_region ?_
              refine L_q rfl rfl rfl (q_move rfl) ?_
              refine L_q rfl rfl rfl (q_true (q_eql rfl rfl) (decide_eq_true rfl)) ?_
              refine L_q rfl rfl rfl (q_move rfl) ?_
              refine L_qg rfl rfl rfl rfl rfl rfl rfl (q_move rfl) ?_
              refine L_qg rfl rfl rfl rfl rfl rfl rfl (q_move rfl) ?_
              refine L_qg rfl rfl rfl rfl rfl rfl rfl (q_true (q_eql rfl rfl) (decide_eq_true rfl)) ?_
              refine L_q rfl rfl rfl (by first | exact q_pickT rfl rfl | exact q_pickF rfl rfl) ?_
              refine L_q rfl rfl rfl (q_assign rfl) ?_
              refine L_then ?_
              refine C_ret ?_
              exact ret_of (res1 rfl rfl) sub_nil (by intro r hr; cases hr) ⟨rfl, rfl⟩
end Go.Proofs.YtibohfipgjljhaaDoor
