/-
  Walks: each function named returns what its model says. Conditions: those in front of each theorem.
-/
import Derived.Test.YtibohfipgjljhaaDoorKT
import Derived.Test.YtibohfipgjljhaaDoorGh
import Derived.Test.YtibohfipgjljhaaDoorShelf2
namespace Go.Proofs.YtibohfipgjljhaaDoor
open Go.RowKit

abbrev rowN : String := (Rows.gasNamesRow.laid.getD 2 (default, .nil)).1
abbrev KQ : World → Prop := fun w => KnW Tryd.prog 0 136 knL knZ w ∧ Lib.TabIs Tryd.prog w rowN .u64 Lib.pow10Tab ∧ errAt 2 w ∧ errAt 3 w
theorem stQ : Stb KQ := stb_and (fun _ _ h hb => h.later hb) (stb_and (tab_st (g := 4) (by kernel_rfl) _ _) (stb_and (errAt_st 2) (errAt_st 3)))
theorem ct_ItoaQ (n : Int) (h : -9223372036854775808 ≤ n ∧ n ≤ 9223372036854775807) : CtQ KQ Tryd.prog 108 [.int .i64 n] [] (isV (.string (bs (Lib.itoa n)))) := ctq_law fun w hk => (Tryd.strconv_Itoa n h.1 h.2 w hk.2.1).mono fun e w' ⟨he, k, os, hw⟩ => ⟨⟨_, he, rfl, rfl⟩, hw ▸ below_grow w k os⟩
theorem ct_AtoiQ (l : Tx) (hl : l.length ≤ 1000000) : CtQ KQ Tryd.prog 111 [.string (bs l)] [] (AtP 155 l) := ctq_law fun w hk => by
  have hs : (bs l).size ≤ 1000000 := by rw [bs_size]; exact hl
  obtain ⟨e1, c1, i1⟩ := hk.2.2.1
  obtain ⟨e2, c2, i2⟩ := hk.2.2.2
  match h : Lib.atoiAll l with
  | .ok v => exact (Tryd.strconv_Atoi_ok (bs l) (by omega) v h w).mono fun e w' ⟨he, hw⟩ => ⟨⟨_, he, 0, by unfold atN atB errV; rw [h]; rfl, rfl⟩, by rcases hw with rfl | ⟨t, rfl⟩; exact Below.refl _ _; exact below_bytes _ _ _⟩
  | .syntax => exact (Tryd.strconv_Atoi_syntax (bs l) (by omega) h e1 w c1 i1).mono fun e w' ⟨N, he, _, _, hw⟩ => ⟨⟨_, he, N, by unfold atN atB errV; rw [h]; rfl, rfl⟩, hw⟩
  | .range => exact (Tryd.strconv_Atoi_range (bs l) (by omega) h e2 w c2 i2).mono fun e w' ⟨N, he, _, _, hw⟩ => ⟨⟨_, he, N, by unfold atN atB errV; rw [h]; rfl, rfl⟩, hw⟩
theorem ct_CutPrefixQ (l p : Tx) : Ct Tryd.prog 109 [.string (bs l), .string (bs p)] [] (isV (.tuple #[.string (bs (Lib.trimPrefix l p)), .bool (Lib.hasPrefix l p)])) := ct_law fun w => (Tryd.strings_CutPrefix (bs l) (bs p) w).mono fun _ _ ⟨he, hw⟩ => ⟨he, hw ▸ Below.refl _ _⟩
theorem ct_ixQ (l : Tx) : Ct Tryd.prog 119 [.string (bs l), .string (bs [47])] [] (isV (.int .i64 (Lib.indexByte l 47))) := ct_law fun w => (Tryd.stringslite_Index_one (bs l) 47 w).mono fun _ _ ⟨he, hw⟩ => ⟨he, hw ▸ Below.refl _ _⟩
set_option maxRecDepth 100000 in
theorem ct_CutLite (l : Tx) (hl : l.length ≤ 1000000) : Ct Tryd.prog 114 [.string (bs l), .string (bs [47])] [] (isV (.tuple #[.string (bs (cut1 47 l).1), .string (bs (cut1 47 l).2), .bool (decide (0 ≤ Lib.indexByte l 47))])) := by
  refine Ct.of (N := 23) Tryd.func114 rfl rfl rfl fun w => ?_
  refine C_weak (E' := [(0, .string (bs l)), (1, .string (bs [47]))]) (rs' := []) ⟨rfl, rfl, trivial⟩ (fun _ h => h) ?_
  refine C_seq ?_
  refine C_region ?_
  refine L_q rfl rfl rfl (q_assign rfl) ?_
  refine L_q rfl rfl rfl (q_assign rfl) ?_
  refine L_q rfl rfl rfl (q_assign rfl) ?_
  refine L_then ?_
  refine C_seq ?_
  refine C_seq ?_
  refine C_region ?_
  refine L_q rfl rfl rfl (q_move rfl) ?_
  refine L_q rfl rfl rfl (q_move rfl) ?_
  refine L_call tb rfl rfl (ct_ixQ l) no_ps rfl ?_
  refine L_q rfl rfl rfl (q_assign rfl) ?_
  refine L_then ?_
  refine C_seq ?_
  refine C_region ?_
  refine L_q rfl rfl rfl (q_move rfl) ?_
  refine L_q rfl rfl rfl (q_geq rfl rfl) ?_
  refine L_then ?_
  refine C_dec rfl (fun h0 => ?_) (fun h0 => ?_)
  · -- t12 True
    obtain ⟨j, hi, hj, hc⟩ : ∃ j : Nat, Lib.indexByte l 47 = j ∧ j < l.length ∧ cut1 47 l = (l.take j, l.drop (j + 1)) := by
      rcases idx_cut 47 l with ⟨hi, _⟩ | h
      · omega
      · exact h
    rw [decide_eq_true (show 0 ≤ Lib.indexByte l 47 by omega), hc, hi]
    dsimp only
    refine C_seq ?_
    refine C_draw (n := 12) [(0, false), (1, false), (2, false), (3, false), (4, false), (5, false), (6, false), (7, false), (8, false), (9, false), (10, false), (11, false)] mixed (by kernel_rfl) ?_
    refine W_q rfl rfl rfl rfl (q_move rfl) ?_
    refine W_q rfl rfl rfl rfl (q_move rfl) ?_
    refine W_q rfl rfl rfl rfl (t_to (j := j) Tryd.underlying9 rfl rfl (by omega) rfl) ?_
    refine W_q rfl rfl rfl rfl (q_move rfl) ?_
    refine W_q rfl rfl rfl rfl (q_move rfl) ?_
    refine W_q rfl rfl rfl rfl (q_move rfl) ?_
    refine W_q rfl rfl rfl rfl (t_len Tryd.underlying9 rfl) ?_
    refine W_q rfl rfl rfl rfl (q_add (e := ((j + 1 : Nat) : Int)) rfl rfl (wr (by simp) (by omega))) ?_
    refine W_q rfl rfl rfl rfl (t_from (j := j + 1) Tryd.underlying9 rfl rfl (by omega) rfl) ?_
    refine W_q rfl rfl rfl rfl (q_assign rfl) ?_
    refine W_q rfl rfl rfl rfl (q_assign rfl) ?_
    refine W_q rfl rfl rfl rfl (q_assign rfl) ?_
    refine W_nil ?_
    refine L_then ?_
    refine C_ret ?_
    exact ret_of (res3 rfl rfl rfl rfl) sub_nil (by intro r hr; cases hr) ⟨rfl, rfl⟩
  · -- t12 False
    have hc : cut1 47 l = (l, []) := by
      rcases idx_cut 47 l with ⟨_, h⟩ | ⟨j, hi, _⟩
      · exact h
      · omega
    rw [decide_eq_false (show ¬ 0 ≤ Lib.indexByte l 47 by omega), hc]
    dsimp only
    refine C_skip_then ?_
    refine C_seq ?_
    refine C_region ?_
    refine L_q rfl rfl rfl (q_move rfl) ?_
    refine L_q rfl rfl rfl (q_assign rfl) ?_
    refine L_q rfl rfl rfl (q_assign rfl) ?_
    refine L_q rfl rfl rfl (q_assign rfl) ?_
    refine L_then ?_
    refine C_ret ?_
    exact ret_of (res3 rfl rfl rfl rfl) sub_nil (by intro r hr; cases hr) ⟨rfl, rfl⟩
set_option maxRecDepth 100000 in
theorem ct_CutQ (l : Tx) (hl : l.length ≤ 1000000) : Ct Tryd.prog 110 [.string (bs l), .string (bs [47])] [] (isV (.tuple #[.string (bs (cut1 47 l).1), .string (bs (cut1 47 l).2), .bool (decide (0 ≤ Lib.indexByte l 47))])) := by
  refine Ct.of (N := 13) Tryd.func110 rfl rfl rfl fun w => ?_
  refine C_weak (E' := [(0, .string (bs l)), (1, .string (bs [47]))]) (rs' := []) ⟨rfl, rfl, trivial⟩ (fun _ h => h) ?_
  refine C_seq ?_
  refine C_region ?_
  refine L_q rfl rfl rfl (q_assign rfl) ?_
  refine L_q rfl rfl rfl (q_assign rfl) ?_
  refine L_q rfl rfl rfl (q_assign rfl) ?_
  refine L_then ?_
  refine C_seq ?_
  refine C_region ?_
  refine L_q rfl rfl rfl (q_move rfl) ?_
  refine L_q rfl rfl rfl (q_move rfl) ?_
  refine L_call tb rfl rfl (ct_CutLite l hl) no_ps rfl ?_
  refine L_q rfl rfl rfl (q_ext0 rfl) ?_
  refine L_q rfl rfl rfl (q_ext1 rfl) ?_
  refine L_q rfl rfl rfl (q_ext2 rfl) ?_
  refine L_q rfl rfl rfl (q_assign rfl) ?_
  refine L_q rfl rfl rfl (q_assign rfl) ?_
  refine L_q rfl rfl rfl (q_assign rfl) ?_
  refine L_then ?_
  refine C_ret ?_
  exact ret_of (res3 rfl rfl rfl rfl) sub_nil (by intro r hr; cases hr) ⟨rfl, rfl⟩
set_option maxRecDepth 100000 in
set_option maxHeartbeats 2000000 in
theorem ct_nameOfQ (g : Gs) (hg : ckGas g.o g.h = 0) : CtQ KQ Tryd.prog 90 [.agg (cGs g).toArray] [] (isV (.string (bs (nmL g)))) := by
  refine CtQ.of (N := 68) Tryd.func90 rfl rfl rfl fun w hQ => ?_
  refine C_weak (E' := [(0, .agg (cGs g).toArray)]) (rs' := []) ⟨rfl, trivial⟩ (fun _ h => h) ?_
  obtain ⟨bm, es, clock, hKB⟩ := id hQ.1
  have hgk := ckGas_ok hg
  have hn1 := nDg_len (n := g.o / 10) (by omega); have hn2 := nDg_len (n := g.h / 10) (by omega); have hn3 := nDg_len (n := g.o) (by omega); have hn4 := nDg_len (n := g.h) (by omega)
  refine C_seq ?_
  refine C_region ?_
  refine L_box rfl rfl rfl fun g1 => ?_
  refine L_q rfl rfl rfl (q_assign rfl) ?_
  refine L_then ?_
  refine C_seq ?_
  refine C_seq ?_
  refine C_region ?_
  refine L_q rfl rfl rfl (q_gmap tb rfl rfl hKB) ?_
  refine L_range Tryd.underlying136 rfl hKB rfl fun r7 => ?_
  refine L_then ?_
  refine C_block ?_
  refine C_loop (ι := Array Nat) (fun seen => ([(1, .pointer (some ⟨g1, 0, none⟩)), (7, .pointer (some ⟨r7, 0, none⟩))], [itr r7 bm clock seen clock, box g1 23 (cGs g)])) (fun seen => seenNo es seen g) (fun seen => (leftOf es seen).size) #[] (seen_0 es g) (fun a w hs => hs.weak ⟨rfl, rfl, trivial⟩ (fun h => h.pk (by repeat (first | with_reducible exact pk_nil | refine pk_box rfl ?_ | refine pk_rd rfl ?_ | refine pk_sl rfl ?_ | with_reducible refine pk_app ?_ | with_reducible refine pk_app0 ?_ | with_reducible refine pk_app0L ?_ | with_reducible exact pk_tl | refine pk_var ?_)))) ?_
  intro seen hsn
  try dsimp only at hsn ⊢
  refine C_seq ?_
  refine C_region ?_
  first | refine L_next rfl hKB rfl (fun hl_ => ?_) (fun e_ he_ => ?_) | (refine L_front1 ?_; refine L_next rfl hKB rfl (fun hl_ => ?_) (fun e_ he_ => ?_)) | (refine L_front2 ?_; refine L_next rfl hKB rfl (fun hl_ => ?_) (fun e_ he_ => ?_)) | (refine L_front3 ?_; refine L_next rfl hKB rfl (fun hl_ => ?_) (fun e_ he_ => ?_))
  · -- next False
    obtain ⟨h5, h8, h11⟩ := seen_e hKB.en hsn hl_
    refine L_q rfl rfl rfl (q_ext0 rfl) ?_
    refine L_then ?_
    refine C_seq ?_
    refine C_false rfl ?_
    refine C_exit ?_
    change C Tryd.prog _ _ _ _ _ _ _
    refine C_seq ?_
    refine C_region ?_
    refine L_q rfl rfl rfl (q_assign rfl) ?_
    refine L_then ?_
    refine C_seq ?_
    refine C_block ?_
    refine C_seq ?_
    refine C_region ?_
    refine L_q rfl rfl rfl (q_field tb rfl rfl rfl) ?_
    refine L_q rfl rfl rfl (q_load tb rfl rfl bxo rfl) ?_
    refine L_q rfl rfl rfl (q_eql rfl rfl) ?_
    refine L_q rfl rfl rfl (q_move rfl) ?_
    refine L_dec (d := 21) rfl (fun h21 => ?_) (fun h21 => ?_)
    · -- t21 True
      refine L_qg rfl rfl rfl rfl rfl rfl rfl (q_field tb rfl rfl rfl) ?_
      refine L_qg rfl rfl rfl rfl rfl rfl rfl (q_load tb rfl rfl bxo rfl) ?_
      refine L_qg rfl rfl rfl rfl rfl rfl rfl (q_rem (e := g.o % 10) rfl rfl (by omega) (Int.tmod_eq_emod_of_nonneg (by omega))) ?_
      refine L_qg rfl rfl rfl rfl rfl rfl rfl (q_eql rfl rfl) ?_
      refine L_q rfl rfl rfl (by first | exact q_pickT rfl rfl | exact q_pickF rfl rfl) ?_
      refine L_q rfl rfl rfl (q_assign rfl) ?_
      refine L_then ?_
      refine C_dec rfl (fun h17 => ?_) (fun h17 => ?_)
      · -- t17 True
        refine C_seq ?_
        refine C_region ?_
        refine L_q rfl rfl rfl (q_move rfl) ?_
        refine L_q rfl rfl rfl (q_field tb rfl rfl rfl) ?_
        refine L_q rfl rfl rfl (q_load tb rfl rfl bxo rfl) ?_
        refine L_q rfl rfl rfl (q_quo (e := g.o / 10) rfl rfl (by omega) (wr (Int.tdiv_eq_ediv_of_nonneg (by omega)) (by omega))) ?_
        refine L_lo rfl rfl rfl (lo_callCQ stQ hQ (tb.en_ok _ (lkT_mem (rfl : lkT tb.en 108 = some ()))) rfl rfl (ct_ItoaQ (g.o / 10) (by omega)) no_ps isV_sinks) ?_
        rintro _ _ ⟨rfl, rfl⟩
        refine L_q rfl rfl rfl (t_cat (a := [110, 120]) (b := (nDg (g.o / 10))) (r := 110 :: 120 :: (nDg (g.o / 10))) rfl rfl (by simp only [List.length_cons, List.length_nil, List.length_append]; omega) (by simp only [List.cons_append, List.nil_append, List.append_assoc])) ?_
        refine L_q rfl rfl rfl (q_assign rfl) ?_
        refine L_then ?_
        refine C_ret ?_
        rw [nm_nx h5 h8 (by omega)]
        exact ret_of (res1 rfl rfl) sub_nil (by intro r hr; cases hr) ⟨rfl, rfl⟩
      · -- t17 False
        refine C_seq ?_
        refine C_region ?_
        refine L_q rfl rfl rfl (q_field tb rfl rfl rfl) ?_
        refine L_q rfl rfl rfl (q_load tb rfl rfl bxo rfl) ?_
        refine L_q rfl rfl rfl (q_rem (e := g.h % 10) rfl rfl (by omega) (Int.tmod_eq_emod_of_nonneg (by omega))) ?_
        refine L_q rfl rfl rfl (q_eql rfl rfl) ?_
        refine L_q rfl rfl rfl (q_move rfl) ?_
        refine L_dec (d := 38) rfl (fun h38 => ?_) (fun h38 => ?_)
        · -- t38 True
          refine L_qg rfl rfl rfl rfl rfl rfl rfl (q_field tb rfl rfl rfl) ?_
          refine L_qg rfl rfl rfl rfl rfl rfl rfl (q_load tb rfl rfl bxo rfl) ?_
          refine L_qg rfl rfl rfl rfl rfl rfl rfl (q_rem (e := g.o % 10) rfl rfl (by omega) (Int.tmod_eq_emod_of_nonneg (by omega))) ?_
          refine L_qg rfl rfl rfl rfl rfl rfl rfl (q_eql rfl rfl) ?_
          refine L_q rfl rfl rfl (by first | exact q_pickT rfl rfl | exact q_pickF rfl rfl) ?_
          refine L_q rfl rfl rfl (q_assign rfl) ?_
          refine L_then ?_
          refine C_dec rfl (fun h33 => ?_) (fun h33 => ?_)
          · -- t33 True
            refine C_seq ?_
            refine C_draw (n := 13) [(0, false), (1, false), (2, false), (3, false), (7, false), (8, false), (9, false), (10, false), (4, true), (5, false), (6, false), (11, true), (12, false)] mixed (by kernel_rfl) ?_
            refine W_q rfl rfl rfl rfl (q_move rfl) ?_
            refine W_q rfl rfl rfl rfl (q_field tb rfl rfl rfl) ?_
            refine W_q rfl rfl rfl rfl (q_load tb rfl rfl bxo rfl) ?_
            refine W_q rfl rfl rfl rfl (q_quo (e := g.o / 10) rfl rfl (by omega) (wr (Int.tdiv_eq_ediv_of_nonneg (by omega)) (by omega))) ?_
            refine W_q rfl rfl rfl rfl (q_move rfl) ?_
            refine W_q rfl rfl rfl rfl (q_field tb rfl rfl rfl) ?_
            refine W_q rfl rfl rfl rfl (q_load tb rfl rfl bxo rfl) ?_
            refine W_q rfl rfl rfl rfl (q_quo (e := g.h / 10) rfl rfl (by omega) (wr (Int.tdiv_eq_ediv_of_nonneg (by omega)) (by omega))) ?_
            refine W_lo rfl rfl rfl rfl (lo_callCQ stQ hQ (tb.en_ok _ (lkT_mem (rfl : lkT tb.en 108 = some ()))) rfl rfl (ct_ItoaQ (g.o / 10) (by omega)) no_ps isV_sinks) ?_
            rintro _ _ ⟨rfl, rfl⟩
            refine W_q rfl rfl rfl rfl (t_cat (a := [116, 120]) (b := (nDg (g.o / 10))) (r := 116 :: 120 :: (nDg (g.o / 10))) rfl rfl (by simp only [List.length_cons, List.length_nil, List.length_append]; omega) (by simp only [List.cons_append, List.nil_append, List.append_assoc])) ?_
            refine W_q rfl rfl rfl rfl (t_cat (a := (116 :: 120 :: (nDg (g.o / 10)))) (b := [47]) (r := 116 :: 120 :: ((nDg (g.o / 10)) ++ [47])) rfl rfl (by simp only [List.length_cons, List.length_nil, List.length_append]; omega) (by simp only [List.cons_append, List.nil_append, List.append_assoc])) ?_
            refine W_lo rfl rfl rfl rfl (lo_callCQ stQ hQ (tb.en_ok _ (lkT_mem (rfl : lkT tb.en 108 = some ()))) rfl rfl (ct_ItoaQ (g.h / 10) (by omega)) no_ps isV_sinks) ?_
            rintro _ _ ⟨rfl, rfl⟩
            refine W_q rfl rfl rfl rfl (t_cat (a := (116 :: 120 :: ((nDg (g.o / 10)) ++ [47]))) (b := (nDg (g.h / 10))) (r := 116 :: 120 :: ((nDg (g.o / 10)) ++ 47 :: (nDg (g.h / 10)))) rfl rfl (by simp only [List.length_cons, List.length_nil, List.length_append]; omega) (by simp only [List.cons_append, List.nil_append, List.append_assoc])) ?_
            refine W_nil ?_
            refine L_q rfl rfl rfl (q_assign rfl) ?_
            refine L_then ?_
            refine C_ret ?_
            rw [nm_tx h5 h8 h11 (by omega) (by omega)]
            exact ret_of (res1 rfl rfl) sub_nil (by intro r hr; cases hr) ⟨rfl, rfl⟩
          · -- t33 False
            refine C_skip_blk ?_
            refine C_seq ?_
            refine C_draw (n := 11) [(0, false), (1, false), (2, false), (6, false), (7, false), (8, false), (3, true), (4, false), (5, false), (9, true), (10, false)] mixed (by kernel_rfl) ?_
            refine W_q rfl rfl rfl rfl (q_move rfl) ?_
            refine W_q rfl rfl rfl rfl (q_field tb rfl rfl rfl) ?_
            refine W_q rfl rfl rfl rfl (q_load tb rfl rfl bxo rfl) ?_
            refine W_q rfl rfl rfl rfl (q_move rfl) ?_
            refine W_q rfl rfl rfl rfl (q_field tb rfl rfl rfl) ?_
            refine W_q rfl rfl rfl rfl (q_load tb rfl rfl bxo rfl) ?_
            refine W_lo rfl rfl rfl rfl (lo_callCQ stQ hQ (tb.en_ok _ (lkT_mem (rfl : lkT tb.en 108 = some ()))) rfl rfl (ct_ItoaQ g.o (by omega)) no_ps isV_sinks) ?_
            rintro _ _ ⟨rfl, rfl⟩
            refine W_q rfl rfl rfl rfl (t_cat (a := [103, 97, 115]) (b := (nDg g.o)) (r := 103 :: 97 :: 115 :: (nDg g.o)) rfl rfl (by simp only [List.length_cons, List.length_nil, List.length_append]; omega) (by simp only [List.cons_append, List.nil_append, List.append_assoc])) ?_
            refine W_q rfl rfl rfl rfl (t_cat (a := (103 :: 97 :: 115 :: (nDg g.o))) (b := [47]) (r := 103 :: 97 :: 115 :: ((nDg g.o) ++ [47])) rfl rfl (by simp only [List.length_cons, List.length_nil, List.length_append]; omega) (by simp only [List.cons_append, List.nil_append, List.append_assoc])) ?_
            refine W_lo rfl rfl rfl rfl (lo_callCQ stQ hQ (tb.en_ok _ (lkT_mem (rfl : lkT tb.en 108 = some ()))) rfl rfl (ct_ItoaQ g.h (by omega)) no_ps isV_sinks) ?_
            rintro _ _ ⟨rfl, rfl⟩
            refine W_q rfl rfl rfl rfl (t_cat (a := (103 :: 97 :: 115 :: ((nDg g.o) ++ [47]))) (b := (nDg g.h)) (r := 103 :: 97 :: 115 :: ((nDg g.o) ++ 47 :: (nDg g.h))) rfl rfl (by simp only [List.length_cons, List.length_nil, List.length_append]; omega) (by simp only [List.cons_append, List.nil_append, List.append_assoc])) ?_
            refine W_nil ?_
            refine L_q rfl rfl rfl (q_assign rfl) ?_
            refine L_then ?_
            refine C_ret ?_
            rw [nm_gs h5 h8 h11 (by omega) (by omega)]
            exact ret_of (res1 rfl rfl) sub_nil (by intro r hr; cases hr) ⟨rfl, rfl⟩
        · -- t38 False
          refine L_skip rfl rfl rfl rfl rfl rfl rfl ?_
          refine L_skip rfl rfl rfl rfl rfl rfl rfl ?_
          refine L_skip rfl rfl rfl rfl rfl rfl rfl ?_
          refine L_skip rfl rfl rfl rfl rfl rfl rfl ?_
          refine L_q rfl rfl rfl (by first | exact q_pickT rfl rfl | exact q_pickF rfl rfl) ?_
          refine L_q rfl rfl rfl (q_assign rfl) ?_
          refine L_then ?_
          refine C_false rfl ?_
          refine C_skip_blk ?_
          refine C_seq ?_
          refine C_draw (n := 11) [(0, false), (1, false), (2, false), (6, false), (7, false), (8, false), (3, true), (4, false), (5, false), (9, true), (10, false)] mixed (by kernel_rfl) ?_
          refine W_q rfl rfl rfl rfl (q_move rfl) ?_
          refine W_q rfl rfl rfl rfl (q_field tb rfl rfl rfl) ?_
          refine W_q rfl rfl rfl rfl (q_load tb rfl rfl bxo rfl) ?_
          refine W_q rfl rfl rfl rfl (q_move rfl) ?_
          refine W_q rfl rfl rfl rfl (q_field tb rfl rfl rfl) ?_
          refine W_q rfl rfl rfl rfl (q_load tb rfl rfl bxo rfl) ?_
          refine W_lo rfl rfl rfl rfl (lo_callCQ stQ hQ (tb.en_ok _ (lkT_mem (rfl : lkT tb.en 108 = some ()))) rfl rfl (ct_ItoaQ g.o (by omega)) no_ps isV_sinks) ?_
          rintro _ _ ⟨rfl, rfl⟩
          refine W_q rfl rfl rfl rfl (t_cat (a := [103, 97, 115]) (b := (nDg g.o)) (r := 103 :: 97 :: 115 :: (nDg g.o)) rfl rfl (by simp only [List.length_cons, List.length_nil, List.length_append]; omega) (by simp only [List.cons_append, List.nil_append, List.append_assoc])) ?_
          refine W_q rfl rfl rfl rfl (t_cat (a := (103 :: 97 :: 115 :: (nDg g.o))) (b := [47]) (r := 103 :: 97 :: 115 :: ((nDg g.o) ++ [47])) rfl rfl (by simp only [List.length_cons, List.length_nil, List.length_append]; omega) (by simp only [List.cons_append, List.nil_append, List.append_assoc])) ?_
          refine W_lo rfl rfl rfl rfl (lo_callCQ stQ hQ (tb.en_ok _ (lkT_mem (rfl : lkT tb.en 108 = some ()))) rfl rfl (ct_ItoaQ g.h (by omega)) no_ps isV_sinks) ?_
          rintro _ _ ⟨rfl, rfl⟩
          refine W_q rfl rfl rfl rfl (t_cat (a := (103 :: 97 :: 115 :: ((nDg g.o) ++ [47]))) (b := (nDg g.h)) (r := 103 :: 97 :: 115 :: ((nDg g.o) ++ 47 :: (nDg g.h))) rfl rfl (by simp only [List.length_cons, List.length_nil, List.length_append]; omega) (by simp only [List.cons_append, List.nil_append, List.append_assoc])) ?_
          refine W_nil ?_
          refine L_q rfl rfl rfl (q_assign rfl) ?_
          refine L_then ?_
          refine C_ret ?_
          rw [nm_gs h5 h8 h11 (by omega) (by omega)]
          exact ret_of (res1 rfl rfl) sub_nil (by intro r hr; cases hr) ⟨rfl, rfl⟩
    · -- t21 False
      refine L_skip rfl rfl rfl rfl rfl rfl rfl ?_
      refine L_skip rfl rfl rfl rfl rfl rfl rfl ?_
      refine L_skip rfl rfl rfl rfl rfl rfl rfl ?_
      refine L_skip rfl rfl rfl rfl rfl rfl rfl ?_
      refine L_q rfl rfl rfl (by first | exact q_pickT rfl rfl | exact q_pickF rfl rfl) ?_
      refine L_q rfl rfl rfl (q_assign rfl) ?_
      refine L_then ?_
      refine C_false rfl ?_
      refine C_seq ?_
      refine C_region ?_
      refine L_q rfl rfl rfl (q_field tb rfl rfl rfl) ?_
      refine L_q rfl rfl rfl (q_load tb rfl rfl bxo rfl) ?_
      refine L_q rfl rfl rfl (q_rem (e := g.h % 10) rfl rfl (by omega) (Int.tmod_eq_emod_of_nonneg (by omega))) ?_
      refine L_q rfl rfl rfl (q_eql rfl rfl) ?_
      refine L_q rfl rfl rfl (q_move rfl) ?_
      refine L_dec (d := 38) rfl (fun h38 => ?_) (fun h38 => ?_)
      · -- t38 True
        refine L_qg rfl rfl rfl rfl rfl rfl rfl (q_field tb rfl rfl rfl) ?_
        refine L_qg rfl rfl rfl rfl rfl rfl rfl (q_load tb rfl rfl bxo rfl) ?_
        refine L_qg rfl rfl rfl rfl rfl rfl rfl (q_rem (e := g.o % 10) rfl rfl (by omega) (Int.tmod_eq_emod_of_nonneg (by omega))) ?_
        refine L_qg rfl rfl rfl rfl rfl rfl rfl (q_eql rfl rfl) ?_
        refine L_q rfl rfl rfl (by first | exact q_pickT rfl rfl | exact q_pickF rfl rfl) ?_
        refine L_q rfl rfl rfl (q_assign rfl) ?_
        refine L_then ?_
        refine C_dec rfl (fun h33 => ?_) (fun h33 => ?_)
        · -- t33 True
          refine C_seq ?_
          refine C_draw (n := 13) [(0, false), (1, false), (2, false), (3, false), (7, false), (8, false), (9, false), (10, false), (4, true), (5, false), (6, false), (11, true), (12, false)] mixed (by kernel_rfl) ?_
          refine W_q rfl rfl rfl rfl (q_move rfl) ?_
          refine W_q rfl rfl rfl rfl (q_field tb rfl rfl rfl) ?_
          refine W_q rfl rfl rfl rfl (q_load tb rfl rfl bxo rfl) ?_
          refine W_q rfl rfl rfl rfl (q_quo (e := g.o / 10) rfl rfl (by omega) (wr (Int.tdiv_eq_ediv_of_nonneg (by omega)) (by omega))) ?_
          refine W_q rfl rfl rfl rfl (q_move rfl) ?_
          refine W_q rfl rfl rfl rfl (q_field tb rfl rfl rfl) ?_
          refine W_q rfl rfl rfl rfl (q_load tb rfl rfl bxo rfl) ?_
          refine W_q rfl rfl rfl rfl (q_quo (e := g.h / 10) rfl rfl (by omega) (wr (Int.tdiv_eq_ediv_of_nonneg (by omega)) (by omega))) ?_
          refine W_lo rfl rfl rfl rfl (lo_callCQ stQ hQ (tb.en_ok _ (lkT_mem (rfl : lkT tb.en 108 = some ()))) rfl rfl (ct_ItoaQ (g.o / 10) (by omega)) no_ps isV_sinks) ?_
          rintro _ _ ⟨rfl, rfl⟩
          refine W_q rfl rfl rfl rfl (t_cat (a := [116, 120]) (b := (nDg (g.o / 10))) (r := 116 :: 120 :: (nDg (g.o / 10))) rfl rfl (by simp only [List.length_cons, List.length_nil, List.length_append]; omega) (by simp only [List.cons_append, List.nil_append, List.append_assoc])) ?_
          refine W_q rfl rfl rfl rfl (t_cat (a := (116 :: 120 :: (nDg (g.o / 10)))) (b := [47]) (r := 116 :: 120 :: ((nDg (g.o / 10)) ++ [47])) rfl rfl (by simp only [List.length_cons, List.length_nil, List.length_append]; omega) (by simp only [List.cons_append, List.nil_append, List.append_assoc])) ?_
          refine W_lo rfl rfl rfl rfl (lo_callCQ stQ hQ (tb.en_ok _ (lkT_mem (rfl : lkT tb.en 108 = some ()))) rfl rfl (ct_ItoaQ (g.h / 10) (by omega)) no_ps isV_sinks) ?_
          rintro _ _ ⟨rfl, rfl⟩
          refine W_q rfl rfl rfl rfl (t_cat (a := (116 :: 120 :: ((nDg (g.o / 10)) ++ [47]))) (b := (nDg (g.h / 10))) (r := 116 :: 120 :: ((nDg (g.o / 10)) ++ 47 :: (nDg (g.h / 10)))) rfl rfl (by simp only [List.length_cons, List.length_nil, List.length_append]; omega) (by simp only [List.cons_append, List.nil_append, List.append_assoc])) ?_
          refine W_nil ?_
          refine L_q rfl rfl rfl (q_assign rfl) ?_
          refine L_then ?_
          refine C_ret ?_
          rw [nm_tx h5 h8 h11 (by omega) (by omega)]
          exact ret_of (res1 rfl rfl) sub_nil (by intro r hr; cases hr) ⟨rfl, rfl⟩
        · -- t33 False
          refine C_skip_blk ?_
          refine C_seq ?_
          refine C_draw (n := 11) [(0, false), (1, false), (2, false), (6, false), (7, false), (8, false), (3, true), (4, false), (5, false), (9, true), (10, false)] mixed (by kernel_rfl) ?_
          refine W_q rfl rfl rfl rfl (q_move rfl) ?_
          refine W_q rfl rfl rfl rfl (q_field tb rfl rfl rfl) ?_
          refine W_q rfl rfl rfl rfl (q_load tb rfl rfl bxo rfl) ?_
          refine W_q rfl rfl rfl rfl (q_move rfl) ?_
          refine W_q rfl rfl rfl rfl (q_field tb rfl rfl rfl) ?_
          refine W_q rfl rfl rfl rfl (q_load tb rfl rfl bxo rfl) ?_
          refine W_lo rfl rfl rfl rfl (lo_callCQ stQ hQ (tb.en_ok _ (lkT_mem (rfl : lkT tb.en 108 = some ()))) rfl rfl (ct_ItoaQ g.o (by omega)) no_ps isV_sinks) ?_
          rintro _ _ ⟨rfl, rfl⟩
          refine W_q rfl rfl rfl rfl (t_cat (a := [103, 97, 115]) (b := (nDg g.o)) (r := 103 :: 97 :: 115 :: (nDg g.o)) rfl rfl (by simp only [List.length_cons, List.length_nil, List.length_append]; omega) (by simp only [List.cons_append, List.nil_append, List.append_assoc])) ?_
          refine W_q rfl rfl rfl rfl (t_cat (a := (103 :: 97 :: 115 :: (nDg g.o))) (b := [47]) (r := 103 :: 97 :: 115 :: ((nDg g.o) ++ [47])) rfl rfl (by simp only [List.length_cons, List.length_nil, List.length_append]; omega) (by simp only [List.cons_append, List.nil_append, List.append_assoc])) ?_
          refine W_lo rfl rfl rfl rfl (lo_callCQ stQ hQ (tb.en_ok _ (lkT_mem (rfl : lkT tb.en 108 = some ()))) rfl rfl (ct_ItoaQ g.h (by omega)) no_ps isV_sinks) ?_
          rintro _ _ ⟨rfl, rfl⟩
          refine W_q rfl rfl rfl rfl (t_cat (a := (103 :: 97 :: 115 :: ((nDg g.o) ++ [47]))) (b := (nDg g.h)) (r := 103 :: 97 :: 115 :: ((nDg g.o) ++ 47 :: (nDg g.h))) rfl rfl (by simp only [List.length_cons, List.length_nil, List.length_append]; omega) (by simp only [List.cons_append, List.nil_append, List.append_assoc])) ?_
          refine W_nil ?_
          refine L_q rfl rfl rfl (q_assign rfl) ?_
          refine L_then ?_
          refine C_ret ?_
          rw [nm_gs h5 h8 h11 (by omega) (by omega)]
          exact ret_of (res1 rfl rfl) sub_nil (by intro r hr; cases hr) ⟨rfl, rfl⟩
      · -- t38 False
        refine L_skip rfl rfl rfl rfl rfl rfl rfl ?_
        refine L_skip rfl rfl rfl rfl rfl rfl rfl ?_
        refine L_skip rfl rfl rfl rfl rfl rfl rfl ?_
        refine L_skip rfl rfl rfl rfl rfl rfl rfl ?_
        refine L_q rfl rfl rfl (by first | exact q_pickT rfl rfl | exact q_pickF rfl rfl) ?_
        refine L_q rfl rfl rfl (q_assign rfl) ?_
        refine L_then ?_
        refine C_false rfl ?_
        refine C_skip_blk ?_
        refine C_seq ?_
        refine C_draw (n := 11) [(0, false), (1, false), (2, false), (6, false), (7, false), (8, false), (3, true), (4, false), (5, false), (9, true), (10, false)] mixed (by kernel_rfl) ?_
        refine W_q rfl rfl rfl rfl (q_move rfl) ?_
        refine W_q rfl rfl rfl rfl (q_field tb rfl rfl rfl) ?_
        refine W_q rfl rfl rfl rfl (q_load tb rfl rfl bxo rfl) ?_
        refine W_q rfl rfl rfl rfl (q_move rfl) ?_
        refine W_q rfl rfl rfl rfl (q_field tb rfl rfl rfl) ?_
        refine W_q rfl rfl rfl rfl (q_load tb rfl rfl bxo rfl) ?_
        refine W_lo rfl rfl rfl rfl (lo_callCQ stQ hQ (tb.en_ok _ (lkT_mem (rfl : lkT tb.en 108 = some ()))) rfl rfl (ct_ItoaQ g.o (by omega)) no_ps isV_sinks) ?_
        rintro _ _ ⟨rfl, rfl⟩
        refine W_q rfl rfl rfl rfl (t_cat (a := [103, 97, 115]) (b := (nDg g.o)) (r := 103 :: 97 :: 115 :: (nDg g.o)) rfl rfl (by simp only [List.length_cons, List.length_nil, List.length_append]; omega) (by simp only [List.cons_append, List.nil_append, List.append_assoc])) ?_
        refine W_q rfl rfl rfl rfl (t_cat (a := (103 :: 97 :: 115 :: (nDg g.o))) (b := [47]) (r := 103 :: 97 :: 115 :: ((nDg g.o) ++ [47])) rfl rfl (by simp only [List.length_cons, List.length_nil, List.length_append]; omega) (by simp only [List.cons_append, List.nil_append, List.append_assoc])) ?_
        refine W_lo rfl rfl rfl rfl (lo_callCQ stQ hQ (tb.en_ok _ (lkT_mem (rfl : lkT tb.en 108 = some ()))) rfl rfl (ct_ItoaQ g.h (by omega)) no_ps isV_sinks) ?_
        rintro _ _ ⟨rfl, rfl⟩
        refine W_q rfl rfl rfl rfl (t_cat (a := (103 :: 97 :: 115 :: ((nDg g.o) ++ [47]))) (b := (nDg g.h)) (r := 103 :: 97 :: 115 :: ((nDg g.o) ++ 47 :: (nDg g.h))) rfl rfl (by simp only [List.length_cons, List.length_nil, List.length_append]; omega) (by simp only [List.cons_append, List.nil_append, List.append_assoc])) ?_
        refine W_nil ?_
        refine L_q rfl rfl rfl (q_assign rfl) ?_
        refine L_then ?_
        refine C_ret ?_
        rw [nm_gs h5 h8 h11 (by omega) (by omega)]
        exact ret_of (res1 rfl rfl) sub_nil (by intro r hr; cases hr) ⟨rfl, rfl⟩
  · -- next True
    obtain ⟨p9, hp9, hk9, hv9⟩ := hKB.en.sub e_ (left_mem he_)
    obtain ⟨o9, h9, hg9, hn9⟩ := knL_nm hp9
    refine L_q rfl rfl rfl (q_ext0 rfl) ?_
    refine L_then ?_
    refine C_seq ?_
    refine C_true rfl ?_
    refine C_skip_then ?_
    refine C_block ?_
    refine C_seq ?_
    refine C_region ?_
    refine L_q rfl rfl rfl (q_entry rfl hKB m0 (left_mem he_)) ?_
    rw [hk9, hv9, hg9]
    refine L_q rfl rfl rfl (q_ext0 rfl) ?_
    refine L_q rfl rfl rfl (q_ext1 rfl) ?_
    refine L_alloc tb rfl rfl fun g4 => ?_
    refine L_q rfl rfl rfl (q_assign rfl) ?_
    first | refine L_store tb rfl rfl rfl rfl rfl rfl rfl rfl ?_ | (refine L_front1 ?_; refine L_store tb rfl rfl rfl rfl rfl rfl rfl rfl ?_) | (refine L_front2 ?_; refine L_store tb rfl rfl rfl rfl rfl rfl rfl rfl ?_) | (refine L_front3 ?_; refine L_store tb rfl rfl rfl rfl rfl rfl rfl rfl ?_) | (refine L_front4 ?_; refine L_store tb rfl rfl rfl rfl rfl rfl rfl rfl ?_) | (refine L_front5 ?_; refine L_store tb rfl rfl rfl rfl rfl rfl rfl rfl ?_) | (refine L_front6 ?_; refine L_store tb rfl rfl rfl rfl rfl rfl rfl rfl ?_)
    refine L_then ?_
    refine C_seq ?_
    refine C_region ?_
    refine L_q rfl rfl rfl (q_loadA tb rfl rfl bxo rfl rfl) ?_
    refine L_q rfl rfl rfl (q_loadA tb rfl rfl bxo rfl rfl) ?_
    refine L_q rfl rfl rfl (q_eqI (p := o9 = g.o ∧ h9 = g.h) (xs := [o9, h9]) (ys := [g.o, g.h]) eq23 (by omega) eg23 rfl rfl rfl rfl (by simp)) ?_
    refine L_then ?_
    refine C_dec rfl (fun heq => ?_) (fun heq => ?_)
    · -- t15 True
      refine C_seq ?_
      refine C_region ?_
      refine L_q rfl rfl rfl (q_move rfl) ?_
      refine L_q rfl rfl rfl (q_assign rfl) ?_
      refine L_then ?_
      refine C_ret ?_
      rw [← hn9 g heq]
      exact ret_of (res1 rfl rfl) sub_nil (by intro r hr; cases hr) ⟨rfl, rfl⟩
    · -- t15 False
      refine C_skip ?_
      exact fun ac_ wo_ hs_ => ⟨(seen.push e_.born), (seen_s hKB.en hsn (left_mem he_) (hv9.trans hg9) heq), (left_less he_), hs_.weak ⟨rfl, rfl, trivial⟩ (fun h => h.pk (by repeat (first | with_reducible exact pk_nil | refine pk_box rfl ?_ | refine pk_rd rfl ?_ | refine pk_sl rfl ?_ | with_reducible refine pk_app ?_ | with_reducible refine pk_app0 ?_ | with_reducible refine pk_app0L ?_ | with_reducible exact pk_tl | refine pk_var ?_)))⟩
end Go.Proofs.YtibohfipgjljhaaDoor
