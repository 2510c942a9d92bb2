/-
  Walks: each function named returns what its model says. Conditions: those in front of each theorem.
-/
import Derived.Test.YtacndicgpkeobaaGreatDoorTA
import Derived.Test.YtacndicgpkeobaaGreatDoorRd5
namespace Go.Proofs.YtacndicgpkeobaaGreatDoor
open Go.RowKit

set_option maxRecDepth 100000 in
theorem ct_SizeT (n : Int) (h : -9000000000000000000 ≤ n ∧ n ≤ 9000000000000000000) : Ct Tryz.prog 144 [.int .i64 n] [] (isV (.int .i64 (max n (0 - n)))) := by
 refine Ct.of (N := 7) Tryz.func144 rfl rfl rfl fun w => ?_
 refine C_weak (E' := [(0, .int .i64 n)]) (rs' := []) ⟨rfl, trivial⟩ (fun _ h => h) ?_
 refine C_seq ?_
 refine C_region ?_
 refine Jq (q_assign rfl) ?_
 refine L_then ?_
 refine C_seq ?_
 refine C_region ?_
 refine Jq (q_move rfl) ?_
 refine Jq (q_move rfl) ?_
 refine Jq (q_neg rfl (by first | exact IntWalk.i64_in _ (by omega) | rfl)) ?_
 refine Jq (q_max rfl rfl) ?_
 refine Jq (q_assign rfl) ?_
 refine L_then ?_
 refine C_ret ?_
 exact ret_of (res1 rfl rfl) sub_nil (by intro r hr; cases hr) ⟨rfl, rfl⟩
theorem ct_SizeP (n : Int) (h : 0 ≤ n ∧ n ≤ 9) : Ct Tryz.prog 144 [.int .i64 n] [] (isV (.int .i64 n)) := by
 have h9 := ct_SizeT n (by omega)
 rw [show max n (0 - n) = n by omega] at h9
 exact h9

set_option maxRecDepth 100000 in
set_option maxHeartbeats 1000000 in
theorem ct_shotlinebase_Decimal (n : Nat) (h : n ≤ 1000000000000000000) : Ct Tryz.prog 80 [.int .i64 (n : Int)] [] (isV (.string (bs (Lib.decDigits n)))) := by
 refine Ct.of (N := 27) Tryz.func80 rfl rfl rfl fun w => ?_
 refine C_weak (E' := [(0, .int .i64 (n : Int))]) (rs' := []) ⟨rfl, trivial⟩ (fun _ h => h) ?_
 refine C_seq ?_
 refine C_region ?_
 refine Jq (q_assign rfl) ?_
 refine L_then ?_
 refine C_seq ?_
 refine C_seq ?_
 refine C_region ?_
 refine Jq (q_move rfl) ?_
 refine Jq (q_eql rfl rfl) ?_
 refine L_then ?_
 refine C_dec rfl (fun h0 => ?_) (fun h0 => ?_)
 refine C_seq ?_
 refine C_region ?_
 refine Jq (q_assign rfl) ?_
 refine L_then ?_
 refine C_ret ?_
 rw [show n = 0 by omega, dig_0]
 exact ret_of (res1 rfl rfl) sub_nil (by intro r hr; cases hr) ⟨rfl, rfl⟩
 refine C_skip_then ?_
 refine C_seq ?_
 refine C_region ?_
 refine Jq (q_assign rfl) ?_
 refine Jq (q_assign rfl) ?_
 refine L_then ?_
 refine C_seq ?_
 refine C_seq ?_
 refine C_region ?_
 refine Jq (q_move rfl) ?_
 refine Jq (q_lss rfl rfl) ?_
 refine L_then ?_
 refine C_dec rfl (fun h2 => ?_) (fun h2 => ?_)
 exfalso; omega
 refine C_skip_then ?_
 refine C_seq ?_
 refine C_block ?_
 refine C_loop (ι := Nat × Tx) (fun q => ([(0, .int .i64 (q.1 : Int)), (3, .string (bs q.2)), (4, .string (bs []))], [])) (fun q => (q.1 + q.2.length ≤ n) ∧ decJ q.1 q.2 = Lib.decDigits n) (fun q => q.1) (n, []) ⟨by simp, decJ_n (by omega)⟩ (fun a w hs => hs.weak ⟨rfl, rfl, rfl, trivial⟩ (fun h => h.pk (by repeat (first | with_reducible exact pk_nil | refine pk_box rfl ?_ | refine pk_rd rfl ?_ | refine pk_sl rfl ?_ | with_reducible refine pk_app ?_ | with_reducible refine pk_app0 ?_ | with_reducible refine pk_app0L ?_ | with_reducible exact pk_tl | refine pk_var ?_)))) ?_
 rintro q ⟨hq1, hq2⟩
 try dsimp only at hq1 hq2 ⊢
 refine C_seq ?_
 refine C_seq ?_
 refine C_region ?_
 refine Jq (q_move rfl) ?_
 refine Jq (q_neq rfl rfl) ?_
 refine L_then ?_
 refine C_dec rfl (fun hm => ?_) (fun hm => ?_)
 refine C_skip_then ?_
 refine C_block ?_
 refine C_seq ?_
 refine C_region ?_
 refine Jq (q_move rfl) ?_
 refine Jq (q_rem (e := (q.1 : Int) % 10) rfl rfl (by omega) (Int.tmod_eq_emod_of_nonneg (by omega))) ?_
 refine Jq (q_assign rfl) ?_
 refine L_then ?_
 refine C_seq ?_
 refine C_region ?_
 refine Jq (q_move rfl) ?_
 refine L_call tb rfl rfl (ct_SizeP ((q.1 : Int) % 10) (by omega)) no_ps rfl ?_
 refine Jq (q_add rfl rfl (by first | exact IntWalk.i64_in _ (by omega) | rfl)) ?_
 refine Jq (q_conv tb (e := ((dgU q.1).toNat : Int)) rfl rfl rfl (by rw [dgU_nat]; exact w8 (by omega))) ?_
 refine L_mk (lo_bslice tb rfl rfl rfl (xs := [cU (dgU q.1)]) rfl rfl (by simp [cU]) rfl (by omega) rfl) rfl rfl rfl fun v18 => ?_
 refine Jq (t_conv (l := [dgU q.1]) (by simp) Tryz.underlying136 Tryz.underlying5 Tryz.underlying9 rfl (by first | exact gs0 | exact gr0 | exact gvo | exact gv1 gs0 | exact gv1 gr0 | exact gv1 (gv1 gs0) | exact gv1 (gv1 gr0))) ?_
 refine Jq (q_move rfl) ?_
 refine Jq (t_cat (a := [dgU q.1]) (b := q.2) (r := dgU q.1 :: q.2) rfl rfl (by simp; omega) rfl) ?_
 refine Jq (q_assign rfl) ?_
 refine L_then ?_
 refine C_region ?_
 refine Jq (q_move rfl) ?_
 refine Jq (q_quo (e := ((q.1 / 10 : Nat) : Int)) rfl rfl (by omega) (wr (by rw [Int.tdiv_eq_ediv_of_nonneg (by omega)]; omega) (by omega))) ?_
 refine Jq (q_assign rfl) ?_
 refine L_end ?_
 exact fun ac_ wo_ hs_ => ⟨(q.1 / 10, dgU q.1 :: q.2), ⟨by simp only [List.length_cons]; omega, by rw [← hq2]; exact (decJ_s (by omega)).symm⟩, (by first | omega | (dsimp only; omega)), hs_.weak ⟨rfl, rfl, rfl, trivial⟩ (fun h => h.pk (by repeat (first | with_reducible exact pk_nil | refine pk_box rfl ?_ | refine pk_rd rfl ?_ | refine pk_sl rfl ?_ | with_reducible refine pk_app ?_ | with_reducible refine pk_app0 ?_ | with_reducible refine pk_app0L ?_ | with_reducible exact pk_tl | refine pk_var ?_)))⟩
 refine C_exit ?_
 change C Tryz.prog _ _ _ _ _ _ _
 refine C_seq ?_
 refine C_region ?_
 refine Jq (q_move rfl) ?_
 refine Jq (q_move rfl) ?_
 refine Jq (t_cat (a := []) (b := q.2) (r := q.2) rfl rfl (by simp; omega) rfl) ?_
 refine Jq (q_assign rfl) ?_
 refine L_then ?_
 refine C_ret ?_
 rw [← hq2, show q.1 = 0 by omega, decJ_0]
 exact ret_of (res1 rfl rfl) sub_nil (by intro r hr; cases hr) ⟨rfl, rfl⟩
set_option maxRecDepth 100000 in
set_option maxHeartbeats 1000000 in
theorem ct_shotlinebase_Number (l : Tx) (d : Nat) (hl : l.length ≤ 1000000) (hd : d ≤ 17) : Ct Tryz.prog 82 [.string (bs l), .int .i64 (d : Int)] [] (isV (.tuple #[.int .i64 ((numM l d).getD 0), .bool (numM l d).isSome])) := by
 refine Ct.of (N := 70) Tryz.func82 rfl rfl rfl fun w => ?_
 refine C_weak (E' := [(0, .string (bs l)), (1, .int .i64 (d : Int))]) (rs' := []) ⟨rfl, rfl, trivial⟩ (fun _ h => h) ?_
 refine C_seq ?_
 refine C_region ?_
 refine Jq (q_assign rfl) ?_
 refine Jq (q_assign rfl) ?_
 refine L_then ?_
 refine C_seq ?_
 refine C_region ?_
 refine Jq (q_assign rfl) ?_
 refine L_then ?_
 refine C_cut (ι := Unit) (fun _p => ([(0, .string (bs l)), (1, .int .i64 (d : Int)), (4, .int .i64 0), (5, .bool false), (6, .int .i64 (numA l : Int))], [])) (fun _p => True) ?_ ?_
 refine C_seq ?_
 refine C_region ?_
 refine Jq (q_move rfl) ?_
 refine Jq (t_len Tryz.underlying9 rfl) ?_
 refine Jq (q_gtr rfl rfl) ?_
 refine Jq (q_move rfl) ?_
 refine L_dec (d := 12) rfl (fun h12 => ?_) (fun h12 => ?_)
 obtain ⟨c0, hc0⟩ := get_some l (k := 0) (by omega)
 refine Jg (q_move rfl) ?_
 refine Jg (t_idx (i := 0) Tryz.underlying9 rfl rfl hc0) ?_
 refine Jg (q_eql rfl rfl) ?_
 refine Jq (q_pickT rfl rfl) ?_
 refine L_then ?_
 refine C_dec rfl (fun h16 => ?_) (fun h16 => ?_)
 refine C_region ?_
 refine Jq (q_assign rfl) ?_
 refine L_end ?_
 exact fun ac_ wo_ hs_ => ⟨(), trivial, hs_.weak ⟨rfl, rfl, rfl, rfl, en (by rw [numA_1 hc0 h16]; rfl), trivial⟩ (fun h => h.pk (by repeat (first | with_reducible exact pk_nil | refine pk_box rfl ?_ | refine pk_rd rfl ?_ | refine pk_sl rfl ?_ | with_reducible refine pk_app ?_ | with_reducible refine pk_app0 ?_ | with_reducible refine pk_app0L ?_ | with_reducible exact pk_tl | refine pk_var ?_)))⟩
 refine C_skip ?_
 exact fun ac_ wo_ hs_ => ⟨(), trivial, hs_.weak ⟨rfl, rfl, rfl, rfl, en (by rw [numA_0 hc0 h16]; rfl), trivial⟩ (fun h => h.pk (by repeat (first | with_reducible exact pk_nil | refine pk_box rfl ?_ | refine pk_rd rfl ?_ | refine pk_sl rfl ?_ | with_reducible refine pk_app ?_ | with_reducible refine pk_app0 ?_ | with_reducible refine pk_app0L ?_ | with_reducible exact pk_tl | refine pk_var ?_)))⟩
 iterate 3 refine Jk ?_
 refine Jq (q_pickF rfl rfl) ?_
 refine L_then ?_
 refine C_false rfl ?_
 refine C_skip ?_
 exact fun ac_ wo_ hs_ => ⟨(), trivial, hs_.weak ⟨rfl, rfl, rfl, rfl, en (by rw [numA_n (by omega)]; rfl), trivial⟩ (fun h => h.pk (by repeat (first | with_reducible exact pk_nil | refine pk_box rfl ?_ | refine pk_rd rfl ?_ | refine pk_sl rfl ?_ | with_reducible refine pk_app ?_ | with_reducible refine pk_app0 ?_ | with_reducible refine pk_app0L ?_ | with_reducible exact pk_tl | refine pk_var ?_)))⟩
 intro _ _
 obtain ⟨ha1, ha2⟩ := numA_le (l := l)
 refine C_seq ?_
 refine C_seq ?_
 refine C_region ?_
 refine Jq (q_move rfl) ?_
 refine Jq (t_len Tryz.underlying9 rfl) ?_
 refine Jq (q_move rfl) ?_
 refine Jq (q_eql rfl rfl) ?_
 refine Jq (q_move rfl) ?_
 refine L_dec (d := 21) rfl (fun h21 => ?_) (fun h21 => ?_)
 iterate 6 refine Jk ?_
 refine Jq (q_pickT rfl rfl) ?_
 refine Jq (q_move rfl) ?_
 iterate 5 refine Jk ?_
 iterate 3 refine Ju ?_
 refine Jk ?_
 refine Jq (q_pickT rfl rfl) ?_
 refine L_then ?_
 refine C_true rfl ?_
 refine C_seq ?_
 refine C_region ?_
 refine Jq (q_assign rfl) ?_
 refine Jq (q_assign rfl) ?_
 refine L_then ?_
 refine C_ret ?_
 rw [num_1 (l := l) (d := d) (by omega)]
 exact ret_of (res2 rfl rfl rfl) sub_nil (by intro r hr; cases hr) ⟨rfl, rfl⟩
 skip
 refine Jg (q_move rfl) ?_
 refine Jg (t_len Tryz.underlying9 rfl) ?_
 refine Jg (q_move rfl) ?_
 refine Jg (q_sub rfl rfl (by first | exact IntWalk.i64_in _ (by omega) | rfl)) ?_
 refine Jg (q_move rfl) ?_
 refine Jg (q_gtr rfl rfl) ?_
 refine Jq (q_pickF rfl rfl) ?_
 refine Jq (q_move rfl) ?_
 refine L_dec (d := 29) rfl (fun h29 => ?_) (fun h29 => ?_)
 iterate 5 refine Jk ?_
 iterate 3 refine Ju ?_
 refine Jk ?_
 refine Jq (q_pickT rfl rfl) ?_
 refine L_then ?_
 refine C_true rfl ?_
 refine C_seq ?_
 refine C_region ?_
 refine Jq (q_assign rfl) ?_
 refine Jq (q_assign rfl) ?_
 refine L_then ?_
 refine C_ret ?_
 rw [num_2 (l := l) (d := d) (by omega)]
 exact ret_of (res2 rfl rfl rfl) sub_nil (by intro r hr; cases hr) ⟨rfl, rfl⟩
 obtain ⟨ca, hca⟩ := get_some l (k := numA l) (by omega); have hau := UInt8.toNat_lt ca
 refine Jg (q_move rfl) ?_
 refine Jg (q_move rfl) ?_
 refine Jg (t_idx (i := numA l) Tryz.underlying9 rfl rfl hca) ?_
 refine Jg (q_eql rfl rfl) ?_
 refine Jg (q_move rfl) ?_
 refine L_dec (d := 34) rfl (fun h34 => ?_) (fun h34 => ?_)
 refine Jg (q_move rfl) ?_
 refine Jg (t_len Tryz.underlying9 rfl) ?_
 refine Jg (q_gtr rfl rfl) ?_
 refine Jg (q_pickT rfl rfl) ?_
 refine Jq (q_pickF rfl rfl) ?_
 refine L_then ?_
 refine C_dec rfl (fun h39 => ?_) (fun h39 => ?_)
 refine C_seq ?_
 refine C_region ?_
 refine Jq (q_assign rfl) ?_
 refine Jq (q_assign rfl) ?_
 refine L_then ?_
 refine C_ret ?_
 rw [num_3 (d := d) hca h34 (by omega)]
 exact ret_of (res2 rfl rfl rfl) sub_nil (by intro r hr; cases hr) ⟨rfl, rfl⟩
 have hnm := num_4 (d := d) (by omega) (by omega) hca (by omega)
 refine C_skip_then ?_
 refine C_seq ?_
 refine C_region ?_
 refine Jq (q_assign rfl) ?_
 refine L_then ?_
 refine C_seq ?_
 refine C_seq ?_
 refine C_region ?_
 refine Jq (q_move rfl) ?_
 refine Jq (q_assign rfl) ?_
 refine L_then ?_
 refine C_block ?_
 refine C_loop (ι := Nat × Int) (fun q => ([(0, .string (bs l)), (6, .int .i64 (numA l : Int)), (7, .int .i64 q.2), (8, .int .i64 (q.1 : Int))], [])) (fun q => (numA l ≤ q.1 ∧ q.1 ≤ l.length) ∧ numF (l.drop q.1) q.2 = numF (l.drop (numA l)) 0 ∧ 0 ≤ q.2 ∧ q.2 < 10 ^ (q.1 - numA l)) (fun q => l.length - q.1) (numA l, 0) ⟨⟨Nat.le_refl _, ha2⟩, rfl, Int.le_refl _, by show (0 : Int) < 10 ^ (numA l - numA l); rw [Nat.sub_self]; decide⟩ (fun a w hs => hs.weak ⟨rfl, rfl, rfl, rfl, trivial⟩ (fun h => h.pk (by repeat (first | with_reducible exact pk_nil | refine pk_box rfl ?_ | refine pk_rd rfl ?_ | refine pk_sl rfl ?_ | with_reducible refine pk_app ?_ | with_reducible refine pk_app0 ?_ | with_reducible refine pk_app0L ?_ | with_reducible exact pk_tl | refine pk_var ?_)))) ?_
 rintro q ⟨⟨hq0, hq1⟩, hqf, hq2, hq3⟩
 try dsimp only at hq0 hq1 hqf hq2 hq3 ⊢
 refine C_seq ?_
 refine C_seq ?_
 refine C_region ?_
 refine Jq (q_move rfl) ?_
 refine Jq (q_move rfl) ?_
 refine Jq (t_len Tryz.underlying9 rfl) ?_
 refine Jq (q_lss rfl rfl) ?_
 refine L_then ?_
 refine C_dec rfl (fun h10 => ?_) (fun h10 => ?_)
 obtain ⟨c, hc⟩ := get_some l (k := q.1) (by omega); have hcu := UInt8.toNat_lt c
 have hps := p10_s (k := q.1) (a := numA l) (by omega); have hpl := p10_le (k := q.1 - numA l) (by omega); have hpm := p10_le (k := q.1 + 1 - numA l) (by omega)
 refine C_skip_then ?_
 refine C_seq ?_
 refine C_block ?_
 refine C_seq ?_
 refine C_seq ?_
 refine C_region ?_
 refine Jq (q_move rfl) ?_
 refine Jq (q_move rfl) ?_
 refine Jq (t_idx (i := q.1) Tryz.underlying9 rfl rfl hc) ?_
 refine Jq (q_lss rfl rfl) ?_
 refine Jq (q_move rfl) ?_
 refine L_dec (d := 51) rfl (fun h51 => ?_) (fun h51 => ?_)
 iterate 4 refine Jk ?_
 refine Jq (q_pickT rfl rfl) ?_
 refine L_then ?_
 refine C_true rfl ?_
 refine C_seq ?_
 refine C_region ?_
 refine Jq (q_assign rfl) ?_
 refine Jq (q_assign rfl) ?_
 refine L_then ?_
 refine C_ret ?_
 rw [hnm, ← hqf, nf_bad hc (by omega)]
 exact ret_of (res2 rfl rfl rfl) sub_nil (by intro r hr; cases hr) ⟨rfl, rfl⟩
 refine Jg (q_move rfl) ?_
 refine Jg (q_move rfl) ?_
 refine Jg (t_idx (i := q.1) Tryz.underlying9 rfl rfl hc) ?_
 refine Jg (q_gtr rfl rfl) ?_
 refine Jq (q_pickF rfl rfl) ?_
 refine L_then ?_
 refine C_dec rfl (fun h56 => ?_) (fun h56 => ?_)
 refine C_seq ?_
 refine C_region ?_
 refine Jq (q_assign rfl) ?_
 refine Jq (q_assign rfl) ?_
 refine L_then ?_
 refine C_ret ?_
 rw [hnm, ← hqf, nf_bad hc (by omega)]
 exact ret_of (res2 rfl rfl rfl) sub_nil (by intro r hr; cases hr) ⟨rfl, rfl⟩
 refine C_skip_then ?_
 refine C_region ?_
 refine Jq (q_move rfl) ?_
 refine Jq (q_mul rfl rfl (by first | exact IntWalk.i64_in _ (by omega) | rfl)) ?_
 refine Jq (q_move rfl) ?_
 refine Jq (q_move rfl) ?_
 refine Jq (t_idx (i := q.1) Tryz.underlying9 rfl rfl hc) ?_
 refine Jq (q_sub (e := (c.toNat : Int) - 48) rfl rfl (w8 (by omega))) ?_
 refine Jq (q_conv tb (e := (c.toNat : Int) - 48) rfl rfl rfl (IntWalk.i64_in _ (by omega))) ?_
 refine Jq (q_add rfl rfl (by first | exact IntWalk.i64_in _ (by omega) | rfl)) ?_
 refine Jq (q_assign rfl) ?_
 refine L_blk ?_
 refine C_region ?_
 refine Jq (q_move rfl) ?_
 refine Jq (q_add rfl rfl (by first | exact IntWalk.i64_in _ (by omega) | rfl)) ?_
 refine Jq (q_assign rfl) ?_
 refine L_end ?_
 exact fun ac_ wo_ hs_ => ⟨(q.1 + 1, 10 * q.2 + ((c.toNat : Int) - 48)), ⟨⟨by dsimp only; omega, by dsimp only; omega⟩, by rw [← hqf]; exact (nf_ok hc h51 h56).symm, by dsimp only; omega, by dsimp only; rw [hps]; omega⟩, (by first | omega | (dsimp only; omega)), hs_.weak ⟨rfl, rfl, rfl, rfl, trivial⟩ (fun h => h.pk (by repeat (first | with_reducible exact pk_nil | refine pk_box rfl ?_ | refine pk_rd rfl ?_ | refine pk_sl rfl ?_ | with_reducible refine pk_app ?_ | with_reducible refine pk_app0 ?_ | with_reducible refine pk_app0L ?_ | with_reducible exact pk_tl | refine pk_var ?_)))⟩
 have hpl := p10_le (k := q.1 - numA l) (by omega)
 refine C_exit ?_
 change C Tryz.prog _ _ _ _ _ _ _
 refine C_seq ?_
 refine C_seq ?_
 refine C_region ?_
 refine Jq (q_move rfl) ?_
 refine Jq (q_eql rfl rfl) ?_
 refine L_then ?_
 refine C_dec rfl (fun h66 => ?_) (fun h66 => ?_)
 refine C_region ?_
 refine Jq (q_move rfl) ?_
 refine Jq (q_neg rfl (by first | exact IntWalk.i64_in _ (by omega) | rfl)) ?_
 refine Jq (q_assign rfl) ?_
 refine L_then ?_
 refine C_seq ?_
 refine C_region ?_
 refine Jq (q_move rfl) ?_
 refine Jq (q_assign rfl) ?_
 refine Jq (q_assign rfl) ?_
 refine L_then ?_
 refine C_ret ?_
 rw [hnm, ← hqf, nf_end (by omega), Option.map_some, if_pos (by omega)]
 rw [show (-q.2) = 0 - q.2 by omega]
 exact ret_of (res2 rfl rfl rfl) sub_nil (by intro r hr; cases hr) ⟨rfl, rfl⟩
 refine C_skip_then ?_
 refine C_seq ?_
 refine C_region ?_
 refine Jq (q_move rfl) ?_
 refine Jq (q_assign rfl) ?_
 refine Jq (q_assign rfl) ?_
 refine L_then ?_
 refine C_ret ?_
 rw [hnm, ← hqf, nf_end (by omega), Option.map_some, if_neg (by omega)]
 exact ret_of (res2 rfl rfl rfl) sub_nil (by intro r hr; cases hr) ⟨rfl, rfl⟩
 iterate 3 refine Jk ?_
 refine Jg (q_pickF rfl rfl) ?_
 refine Jq (q_pickF rfl rfl) ?_
 refine L_then ?_
 refine C_false rfl ?_
 have hnm := num_4 (d := d) (by omega) (by omega) hca (by omega)
 refine C_skip_then ?_
 refine C_seq ?_
 refine C_region ?_
 refine Jq (q_assign rfl) ?_
 refine L_then ?_
 refine C_seq ?_
 refine C_seq ?_
 refine C_region ?_
 refine Jq (q_move rfl) ?_
 refine Jq (q_assign rfl) ?_
 refine L_then ?_
 refine C_block ?_
 refine C_loop (ι := Nat × Int) (fun q => ([(0, .string (bs l)), (6, .int .i64 (numA l : Int)), (7, .int .i64 q.2), (8, .int .i64 (q.1 : Int))], [])) (fun q => (numA l ≤ q.1 ∧ q.1 ≤ l.length) ∧ numF (l.drop q.1) q.2 = numF (l.drop (numA l)) 0 ∧ 0 ≤ q.2 ∧ q.2 < 10 ^ (q.1 - numA l)) (fun q => l.length - q.1) (numA l, 0) ⟨⟨Nat.le_refl _, ha2⟩, rfl, Int.le_refl _, by show (0 : Int) < 10 ^ (numA l - numA l); rw [Nat.sub_self]; decide⟩ (fun a w hs => hs.weak ⟨rfl, rfl, rfl, rfl, trivial⟩ (fun h => h.pk (by repeat (first | with_reducible exact pk_nil | refine pk_box rfl ?_ | refine pk_rd rfl ?_ | refine pk_sl rfl ?_ | with_reducible refine pk_app ?_ | with_reducible refine pk_app0 ?_ | with_reducible refine pk_app0L ?_ | with_reducible exact pk_tl | refine pk_var ?_)))) ?_
 rintro q ⟨⟨hq0, hq1⟩, hqf, hq2, hq3⟩
 try dsimp only at hq0 hq1 hqf hq2 hq3 ⊢
 refine C_seq ?_
 refine C_seq ?_
 refine C_region ?_
 refine Jq (q_move rfl) ?_
 refine Jq (q_move rfl) ?_
 refine Jq (t_len Tryz.underlying9 rfl) ?_
 refine Jq (q_lss rfl rfl) ?_
 refine L_then ?_
 refine C_dec rfl (fun h16 => ?_) (fun h16 => ?_)
 obtain ⟨c, hc⟩ := get_some l (k := q.1) (by omega); have hcu := UInt8.toNat_lt c
 have hps := p10_s (k := q.1) (a := numA l) (by omega); have hpl := p10_le (k := q.1 - numA l) (by omega); have hpm := p10_le (k := q.1 + 1 - numA l) (by omega)
 refine C_skip_then ?_
 refine C_seq ?_
 refine C_block ?_
 refine C_seq ?_
 refine C_seq ?_
 refine C_region ?_
 refine Jq (q_move rfl) ?_
 refine Jq (q_move rfl) ?_
 refine Jq (t_idx (i := q.1) Tryz.underlying9 rfl rfl hc) ?_
 refine Jq (q_lss rfl rfl) ?_
 refine Jq (q_move rfl) ?_
 refine L_dec (d := 51) rfl (fun h51 => ?_) (fun h51 => ?_)
 iterate 4 refine Jk ?_
 refine Jq (q_pickT rfl rfl) ?_
 refine L_then ?_
 refine C_true rfl ?_
 refine C_seq ?_
 refine C_region ?_
 refine Jq (q_assign rfl) ?_
 refine Jq (q_assign rfl) ?_
 refine L_then ?_
 refine C_ret ?_
 rw [hnm, ← hqf, nf_bad hc (by omega)]
 exact ret_of (res2 rfl rfl rfl) sub_nil (by intro r hr; cases hr) ⟨rfl, rfl⟩
 refine Jg (q_move rfl) ?_
 refine Jg (q_move rfl) ?_
 refine Jg (t_idx (i := q.1) Tryz.underlying9 rfl rfl hc) ?_
 refine Jg (q_gtr rfl rfl) ?_
 refine Jq (q_pickF rfl rfl) ?_
 refine L_then ?_
 refine C_dec rfl (fun h56 => ?_) (fun h56 => ?_)
 refine C_seq ?_
 refine C_region ?_
 refine Jq (q_assign rfl) ?_
 refine Jq (q_assign rfl) ?_
 refine L_then ?_
 refine C_ret ?_
 rw [hnm, ← hqf, nf_bad hc (by omega)]
 exact ret_of (res2 rfl rfl rfl) sub_nil (by intro r hr; cases hr) ⟨rfl, rfl⟩
 refine C_skip_then ?_
 refine C_region ?_
 refine Jq (q_move rfl) ?_
 refine Jq (q_mul rfl rfl (by first | exact IntWalk.i64_in _ (by omega) | rfl)) ?_
 refine Jq (q_move rfl) ?_
 refine Jq (q_move rfl) ?_
 refine Jq (t_idx (i := q.1) Tryz.underlying9 rfl rfl hc) ?_
 refine Jq (q_sub (e := (c.toNat : Int) - 48) rfl rfl (w8 (by omega))) ?_
 refine Jq (q_conv tb (e := (c.toNat : Int) - 48) rfl rfl rfl (IntWalk.i64_in _ (by omega))) ?_
 refine Jq (q_add rfl rfl (by first | exact IntWalk.i64_in _ (by omega) | rfl)) ?_
 refine Jq (q_assign rfl) ?_
 refine L_blk ?_
 refine C_region ?_
 refine Jq (q_move rfl) ?_
 refine Jq (q_add rfl rfl (by first | exact IntWalk.i64_in _ (by omega) | rfl)) ?_
 refine Jq (q_assign rfl) ?_
 refine L_end ?_
 exact fun ac_ wo_ hs_ => ⟨(q.1 + 1, 10 * q.2 + ((c.toNat : Int) - 48)), ⟨⟨by dsimp only; omega, by dsimp only; omega⟩, by rw [← hqf]; exact (nf_ok hc h51 h56).symm, by dsimp only; omega, by dsimp only; rw [hps]; omega⟩, (by first | omega | (dsimp only; omega)), hs_.weak ⟨rfl, rfl, rfl, rfl, trivial⟩ (fun h => h.pk (by repeat (first | with_reducible exact pk_nil | refine pk_box rfl ?_ | refine pk_rd rfl ?_ | refine pk_sl rfl ?_ | with_reducible refine pk_app ?_ | with_reducible refine pk_app0 ?_ | with_reducible refine pk_app0L ?_ | with_reducible exact pk_tl | refine pk_var ?_)))⟩
 have hpl := p10_le (k := q.1 - numA l) (by omega)
 refine C_exit ?_
 change C Tryz.prog _ _ _ _ _ _ _
 refine C_seq ?_
 refine C_seq ?_
 refine C_region ?_
 refine Jq (q_move rfl) ?_
 refine Jq (q_eql rfl rfl) ?_
 refine L_then ?_
 refine C_dec rfl (fun h66 => ?_) (fun h66 => ?_)
 refine C_region ?_
 refine Jq (q_move rfl) ?_
 refine Jq (q_neg rfl (by first | exact IntWalk.i64_in _ (by omega) | rfl)) ?_
 refine Jq (q_assign rfl) ?_
 refine L_then ?_
 refine C_seq ?_
 refine C_region ?_
 refine Jq (q_move rfl) ?_
 refine Jq (q_assign rfl) ?_
 refine Jq (q_assign rfl) ?_
 refine L_then ?_
 refine C_ret ?_
 rw [hnm, ← hqf, nf_end (by omega), Option.map_some, if_pos (by omega)]
 rw [show (-q.2) = 0 - q.2 by omega]
 exact ret_of (res2 rfl rfl rfl) sub_nil (by intro r hr; cases hr) ⟨rfl, rfl⟩
 refine C_skip_then ?_
 refine C_seq ?_
 refine C_region ?_
 refine Jq (q_move rfl) ?_
 refine Jq (q_assign rfl) ?_
 refine Jq (q_assign rfl) ?_
 refine L_then ?_
 refine C_ret ?_
 rw [hnm, ← hqf, nf_end (by omega), Option.map_some, if_neg (by omega)]
 exact ret_of (res2 rfl rfl rfl) sub_nil (by intro r hr; cases hr) ⟨rfl, rfl⟩
set_option maxRecDepth 100000 in
set_option maxHeartbeats 1000000 in
theorem ct_shotlinebase_Cut (l : Tx) (m : UInt8) (hl : l.length ≤ 1000000) : Ct Tryz.prog 81 [.string (bs l), .int .u8 (m.toNat : Int)] [] (isSl 9 1 ((cutF m [] l).map cT)) := by
 refine Ct.of (N := 34) Tryz.func81 rfl rfl rfl fun w => ?_
 refine C_weak (E' := [(0, .string (bs l)), (1, .int .u8 (m.toNat : Int))]) (rs' := []) ⟨rfl, rfl, trivial⟩ (fun _ h => h) ?_
 refine C_seq ?_
 refine C_region ?_
 refine Jq (q_assign rfl) ?_
 refine L_then ?_
 refine C_seq ?_
 refine C_region ?_
 refine Jq (q_assign rfl) ?_
 refine L_then ?_
 refine C_seq ?_
 refine C_region ?_
 refine Jq (q_assign rfl) ?_
 refine L_then ?_
 refine C_seq ?_
 refine C_seq ?_
 refine C_region ?_
 refine Jq (q_assign rfl) ?_
 refine L_then ?_
 refine C_block ?_
 refine C_nil 9 1 ?_
 refine C_loop (ι := Nat × Nat × Value × List Tx) (fun q => ([(0, .string (bs l)), (1, .int .u8 (m.toNat : Int)), (5, q.2.2.1), (6, .int .i64 (q.2.1 : Int)), (7, .int .i64 (q.1 : Int))], [sl q.2.2.1 9 1 (q.2.2.2.map cT)])) (fun q => (q.2.1 ≤ q.1 ∧ q.1 ≤ l.length ∧ q.2.2.2.length ≤ q.1) ∧ q.2.2.2 ++ cutF m ((l.take q.1).drop q.2.1) (l.drop q.1) = cutF m [] l) (fun q => l.length - q.1) (0, 0, .slice none 0 0, []) ⟨⟨Nat.le_refl _, Nat.zero_le _, Nat.le_refl _⟩, rfl⟩ (fun a w hs => hs.weak ⟨rfl, rfl, rfl, rfl, rfl, trivial⟩ (fun h => h.pk (by repeat (first | with_reducible exact pk_nil | refine pk_box rfl ?_ | refine pk_rd rfl ?_ | refine pk_sl rfl ?_ | with_reducible refine pk_app ?_ | with_reducible refine pk_app0 ?_ | with_reducible refine pk_app0L ?_ | with_reducible exact pk_tl | refine pk_var ?_)))) ?_
 rintro q ⟨⟨hq0, hq1, hq2⟩, hqc⟩
 try dsimp only at hq0 hq1 hq2 hqc ⊢
 refine C_seq ?_
 refine C_seq ?_
 refine C_region ?_
 refine Jq (q_move rfl) ?_
 refine Jq (q_move rfl) ?_
 refine Jq (t_len Tryz.underlying9 rfl) ?_
 refine Jq (q_lss rfl rfl) ?_
 refine L_then ?_
 refine C_dec rfl (fun h1 => ?_) (fun h1 => ?_)
 obtain ⟨c, hc⟩ := get_some l (k := q.1) (by omega)
 refine C_skip_then ?_
 refine C_seq ?_
 refine C_block ?_
 refine C_seq ?_
 refine C_region ?_
 refine Jq (q_move rfl) ?_
 refine Jq (q_move rfl) ?_
 refine Jq (t_idx (i := q.1) Tryz.underlying9 rfl rfl hc) ?_
 refine Jq (q_move rfl) ?_
 refine Jq (q_eql rfl rfl) ?_
 refine L_then ?_
 refine C_dec rfl (fun hcm => ?_) (fun hcm => ?_)
 refine C_seq ?_
 refine C_region ?_
 refine Jq (q_move rfl) ?_
 refine Jq (q_move rfl) ?_
 refine Jq (q_move rfl) ?_
 refine Jq (q_move rfl) ?_
 refine Jq (t_mid (i := q.2.1) (j := q.1) Tryz.underlying9 rfl rfl rfl (by omega) (by omega) rfl) ?_
 refine L_mk (lo_bslice tb rfl rfl rfl (xs := [cT ((l.take q.1).drop q.2.1)]) rfl rfl (by simp [cT]) rfl (by omega) rfl) rfl rfl rfl fun v24 => ?_
 refine L_ap tb rfl rfl rfl rfl (by first | exact gvo | exact gvd gvo (by omega)) (by simp [Value.oneCell', cT]) (by simp [maxLen]; omega) (by simp; omega) fun v25 => ?_
 refine Jq (q_assign rfl) ?_
 refine L_then ?_
 refine C_region ?_
 refine Jq (q_move rfl) ?_
 refine Jq (q_add rfl rfl (by first | exact IntWalk.i64_in _ (by omega) | rfl)) ?_
 refine Jq (q_assign rfl) ?_
 refine L_blk ?_
 refine C_region ?_
 refine Jq (q_move rfl) ?_
 refine Jq (q_add rfl rfl (by first | exact IntWalk.i64_in _ (by omega) | rfl)) ?_
 refine Jq (q_assign rfl) ?_
 refine L_end ?_
 rw [show q.2.2.2.map cT ++ [cT ((l.take q.1).drop q.2.1)] = (q.2.2.2 ++ [((l.take q.1).drop q.2.1)]).map cT by rw [List.map_append]; rfl]
 exact fun ac_ wo_ hs_ => ⟨(q.1 + 1, q.1 + 1, v25, q.2.2.2 ++ [((l.take q.1).drop q.2.1)]), ⟨⟨Nat.le_refl _, by dsimp only; omega, by dsimp only; rw [List.length_append, List.length_singleton]; omega⟩, by dsimp only; rw [← hqc, cut_y hc hcm, cur_0, List.append_assoc]; rfl⟩, (by first | omega | (dsimp only; omega)), hs_.weak ⟨rfl, rfl, rfl, rfl, rfl, trivial⟩ (fun h => h.pk (by repeat (first | with_reducible exact pk_nil | refine pk_box rfl ?_ | refine pk_rd rfl ?_ | refine pk_sl rfl ?_ | with_reducible refine pk_app ?_ | with_reducible refine pk_app0 ?_ | with_reducible refine pk_app0L ?_ | with_reducible exact pk_tl | refine pk_var ?_)))⟩
 refine C_skip_blk ?_
 refine C_region ?_
 refine Jq (q_move rfl) ?_
 refine Jq (q_add rfl rfl (by first | exact IntWalk.i64_in _ (by omega) | rfl)) ?_
 refine Jq (q_assign rfl) ?_
 refine L_end ?_
 exact fun ac_ wo_ hs_ => ⟨(q.1 + 1, q.2.1, q.2.2.1, q.2.2.2), ⟨⟨by dsimp only; omega, by dsimp only; omega, by dsimp only; omega⟩, by dsimp only; rw [← hqc, cut_n hc hcm, cur_s hc (by omega)]⟩, (by first | omega | (dsimp only; omega)), hs_.weak ⟨rfl, rfl, rfl, rfl, rfl, trivial⟩ (fun h => h.pk (by repeat (first | with_reducible exact pk_nil | refine pk_box rfl ?_ | refine pk_rd rfl ?_ | refine pk_sl rfl ?_ | with_reducible refine pk_app ?_ | with_reducible refine pk_app0 ?_ | with_reducible refine pk_app0L ?_ | with_reducible exact pk_tl | refine pk_var ?_)))⟩
 have hce := hqc
 rw [cut_e (by omega), cur_e (by omega)] at hce
 refine C_exit ?_
 change C Tryz.prog _ _ _ _ _ _ _
 refine C_seq ?_
 refine C_region ?_
 refine Jq (q_move rfl) ?_
 refine Jq (q_move rfl) ?_
 refine Jq (q_move rfl) ?_
 refine Jq (t_from (j := q.2.1) Tryz.underlying9 rfl rfl (by omega) rfl) ?_
 refine L_mk (lo_bslice tb rfl rfl rfl (xs := [cT (l.drop q.2.1)]) rfl rfl (by simp [cT]) rfl (by omega) rfl) rfl rfl rfl fun v32 => ?_
 refine L_ap tb rfl rfl rfl rfl (by first | exact gvo | exact gvd gvo (by omega)) (by simp [Value.oneCell', cT]) (by simp [maxLen]; omega) (by simp; omega) fun v33 => ?_
 refine Jq (q_assign rfl) ?_
 refine L_then ?_
 refine C_ret ?_
 rw [← hce, List.map_append]
 exact ret_of (rs' := [sl v33 9 1 (q.2.2.2.map cT ++ [cT (l.drop q.2.1)])]) (res1 rfl rfl) (fun _ h => h.sub (by repeat (first | exact List.Sublist.refl _ | apply List.Sublist.cons_cons | apply List.Sublist.cons))) own1 rfl
theorem ct_DecT (n : Int) (h : 0 ≤ n ∧ n ≤ 1000000) : Ct Tryz.prog 80 [.int .i64 n] [] (isV (.string (bs (Lib.itoa n)))) := by
 obtain ⟨k, rfl⟩ := Int.eq_ofNat_of_zero_le h.1
 rw [itoa_n]
 exact ct_shotlinebase_Decimal k (by omega)

end Go.Proofs.YtacndicgpkeobaaGreatDoor
