/-
  Walks: each function named returns what its model says. Conditions: those in front of each theorem.
-/
import Derived.Test.YtacndicgpkeobaaGreatDoorAP
import Derived.Test.YtacndicgpkeobaaGreatDoorShLn
import Derived.Test.YtacndicgpkeobaaGreatDoorRd
import Derived.Test.YtacndicgpkeobaaGreatDoorShelfT
namespace Go.Proofs.YtacndicgpkeobaaGreatDoor
open Go.RowKit

theorem ct_AtoiT (l : Tx) (hl : l.length ≤ 1000000) : CtQ KQ Tryz.prog 142 [.string (bs l)] [] (AzP 313 l) := ctq_law fun w hk => by
 have hs : (bs l).size ≤ 1000000 := by rw [bs_size]; exact hl
 obtain ⟨e1, c1, i1⟩ := hk.2.1
 obtain ⟨e2, c2, i2⟩ := hk.2.2
 match h : Lib.atoiAll l with
 | .ok v => exact (Tryz.strconv_Atoi_ok (bs l) (by omega) v h w).mono fun e w' ⟨he, hw⟩ => ⟨⟨_, he, 0, by unfold azN azB errV; rw [h]; rfl, rfl⟩, by rcases hw with rfl | ⟨t, rfl⟩; exact Below.refl _ _; exact below_byT _ _ _⟩
 | .syntax => exact (Tryz.strconv_Atoi_syntax (bs l) (by omega) h e1 w c1 i1).mono fun e w' ⟨N, he, _, _, hw⟩ => ⟨⟨_, he, N, by unfold azN azB errV; rw [h]; rfl, rfl⟩, hw⟩
 | .range => exact (Tryz.strconv_Atoi_range (bs l) (by omega) h e2 w c2 i2).mono fun e w' ⟨N, he, _, _, hw⟩ => ⟨⟨_, he, N, by unfold azN azB errV; rw [h]; rfl, rfl⟩, hw⟩
theorem ct_TrimT (l : Tx) : Ct Tryz.prog 143 [.string (bs l), .string (bs [45])] [] (isV (.string (bs (Lib.trimPrefix l [45])))) := ct_law fun w => (Tryz.strings_TrimPrefix (bs l) (bs [45]) w).mono fun _ _ ⟨he, hw⟩ => ⟨he, hw ▸ Below.refl _ _⟩
theorem ct_CutT (l : Tx) (hl : l.length ≤ 1000000) : Ct Tryz.prog 140 [.string (bs l), .string (bs [10])] [] (isV (.tuple #[.string (bs (lnB l)), .bool (lnE l)])) := ct_law fun w => (Tryz.strings_CutSuffix (bs l) (bs [10]) w (by rw [bs_size]; omega)).mono fun _ _ ⟨he, hw⟩ => ⟨he, hw ▸ Below.refl _ _⟩
theorem ct_CountT (l : Tx) (m : UInt8) : Ct Tryz.prog 224 [.string (bs l), .string (bs [m])] [] (isV (.int .i64 (Lib.countByte l m : Int))) := ct_law fun w => (Tryz.strings_Count_one (bs l) m w).mono fun _ _ ⟨he, hw⟩ => ⟨he, hw ▸ Below.refl _ _⟩
theorem ct_IndexT (l : Tx) (m : UInt8) : Ct Tryz.prog 225 [.string (bs l), .string (bs [m])] [] (isV (.int .i64 (Lib.indexByte l m))) := ct_law fun w => (Tryz.strings_Index_one (bs l) m w).mono fun _ _ ⟨he, hw⟩ => ⟨he, hw ▸ Below.refl _ _⟩
theorem ct_IndexBT (l : Tx) : Ct Tryz.prog 139 [.string (bs l), .int .u8 10] [] (isV (.int .i64 (Lib.indexByte l 10))) := ct_law fun w => (Tryz.strings_IndexByte (bs l) 10 w).mono fun _ _ ⟨he, hw⟩ => ⟨he, hw ▸ Below.refl _ _⟩

set_option maxRecDepth 100000 in
set_option maxHeartbeats 1000000 in
theorem ct_strings_genSplit (l : Tx) (m : UInt8) (hl : l.length ≤ 1000000) : Ct Tryz.prog 187 [.string (bs l), .string (bs [m]), .int .i64 0, .int .i64 (-1)] [] (isSl 9 1 ((cutF m [] l).map cT)) := by
 refine Ct.of (N := 66) Tryz.func187 rfl rfl rfl fun w => ?_
 refine C_weak (E' := [(0, .string (bs l)), (1, .string (bs [m])), (2, .int .i64 0), (3, .int .i64 (-1))]) (rs' := []) ⟨rfl, rfl, rfl, rfl, trivial⟩ (fun _ h => h) ?_
 have hcn := cnt_le l m; have hcl := cutF_cnt (m := m) l []
 obtain ⟨N, hN⟩ : ∃ N, Lib.countByte l m = N := ⟨_, rfl⟩
 rw [hN] at hcn hcl
 refine C_seq ?_
 refine C_region ?_
 refine Jq (q_assign rfl) ?_
 refine L_then ?_
 refine C_seq ?_
 refine C_seq ?_
 refine C_region ?_
 refine Jq (q_move rfl) ?_
 refine Jq (q_false (q_eql rfl rfl) (by decide)) ?_
 refine L_then ?_
 refine C_false rfl ?_
 refine C_skip_then ?_
 refine C_seq ?_
 refine C_seq ?_
 refine C_region ?_
 refine Jq (q_move rfl) ?_
 refine Jq (q_false (t_eq (a := [m]) (b := []) rfl rfl) (decide_eq_false (by simp))) ?_
 refine L_then ?_
 refine C_false rfl ?_
 refine C_skip_then ?_
 refine C_seq ?_
 refine C_seq ?_
 refine C_region ?_
 refine Jq (q_move rfl) ?_
 refine Jq (q_true (q_lss rfl rfl) (by decide)) ?_
 refine L_then ?_
 refine C_true rfl ?_
 refine C_region ?_
 refine Jq (q_move rfl) ?_
 refine Jq (q_move rfl) ?_
 refine L_call tb rfl rfl (ct_CountT l m) no_ps rfl ?_
 rw [hN]
 refine Jq (q_add (e := ((N + 1 : Nat) : Int)) rfl rfl (wrT (by omega) (by omega))) ?_
 refine Jq (q_assign rfl) ?_
 refine L_then ?_
 refine C_seq ?_
 refine C_region ?_
 refine Jq (q_move rfl) ?_
 refine Jq (q_move rfl) ?_
 refine Jq (t_len Tryz.underlying9 rfl) ?_
 refine Jq (q_add rfl rfl (by first | exact IntWalk.i64_in _ (by omega) | rfl)) ?_
 refine Jq (q_min rfl rfl) ?_
 refine Jq (q_assign rfl) ?_
 refine L_then ?_
 refine C_seq ?_
 refine C_region ?_
 refine Jq (q_move rfl) ?_
 rw [show min ((N + 1 : Nat) : Int) ((l.length : Int) + 1) = ((N + 1 : Nat) : Int) by omega]
 refine L_mk (lo_make tb rfl rfl rfl (n := N + 1) rfl rfl (by omega) (by simp [maxLen]; omega)) rfl rfl rfl fun v31 => ?_
 refine Jq (q_assign rfl) ?_
 refine L_then ?_
 refine C_seq ?_
 refine C_region ?_
 refine Jq (q_move rfl) ?_
 refine Jq (q_sub (e := (N : Int)) rfl rfl (wrT (by omega) (by omega))) ?_
 refine Jq (q_assign rfl) ?_
 refine L_then ?_
 refine C_seq ?_
 refine C_region ?_
 refine Jq (q_assign rfl) ?_
 refine L_then ?_
 refine C_seq ?_
 refine C_block ?_
 rw [← hcl]
 refine C_res (rs' := [sl v31 9 1 (pcR (cutF m [] l) 0)]) (fun _ h_ => h_.pk (by repeat (first | with_reducible exact pk_nil | refine pk_box rfl ?_ | refine pk_rd rfl ?_ | refine pk_sl rfl ?_ | with_reducible refine pk_app ?_ | with_reducible refine pk_app0 ?_ | with_reducible refine pk_app0L ?_ | with_reducible exact pk_tl | refine pk_var ?_))) ?_
 refine C_loop (ι := Nat × Tx) (fun q => ([(0, .string (bs q.2)), (1, .string (bs [m])), (2, .int .i64 0), (3, .int .i64 ((N : Int))), (9, v31), (10, .int .i64 ((q.1 : Int)))], [sl v31 9 1 (pcR (cutF m [] l) q.1)])) (fun q => q.1 ≤ N ∧ q.2.length ≤ l.length ∧ cutF m [] q.2 = (cutF m [] l).drop q.1) (fun q => N - q.1) (0, l) ⟨Nat.zero_le _, Nat.le_refl _, rfl⟩ (fun a w hs => hs.weak ⟨rfl, rfl, rfl, rfl, rfl, rfl, trivial⟩ (fun h => h.pk (by repeat (first | with_reducible exact pk_nil | refine pk_box rfl ?_ | refine pk_rd rfl ?_ | refine pk_sl rfl ?_ | with_reducible refine pk_app ?_ | with_reducible refine pk_app0 ?_ | with_reducible refine pk_app0L ?_ | with_reducible exact pk_tl | refine pk_var ?_)))) ?_
 rintro q ⟨hq1, hq2, hqc⟩
 try dsimp only at hq1 hq2 hqc ⊢
 refine C_seq ?_
 refine C_seq ?_
 refine C_region ?_
 refine Jq (q_move rfl) ?_
 refine Jq (q_move rfl) ?_
 refine Jq (q_lss rfl rfl) ?_
 refine L_then ?_
 refine C_dec rfl (fun h4 => ?_) (fun h4 => ?_)
 refine C_skip_then ?_
 refine C_block ?_
 refine C_seq ?_
 refine C_region ?_
 refine Jq (q_move rfl) ?_
 refine Jq (q_move rfl) ?_
 refine L_call tb rfl rfl (ct_IndexT q.2 m) no_ps rfl ?_
 refine Jq (q_assign rfl) ?_
 refine L_then ?_
 refine C_seq ?_
 refine C_seq ?_
 refine C_region ?_
 refine Jq (q_move rfl) ?_
 refine Jq (q_lss rfl rfl) ?_
 refine L_then ?_
 refine C_dec rfl (fun h41 => ?_) (fun h41 => ?_)
 exfalso
 rw [cutF_i0 h41] at hqc
 have h9 := congrArg List.length hqc
 rw [List.length_drop, List.length_singleton] at h9
 omega
 obtain ⟨j, hj, hjl, _, _, hjc⟩ := cutF_ij (l := q.2) (m := m) (by omega)
 rw [hjc] at hqc
 obtain ⟨e1, e2, e3⟩ := pc_step hqc.symm
 have e9 := pcR_s hqc.symm
 have hpl := pcR_len (ps := cutF m [] l) (i := q.1) (by omega)
 rw [hj]
 refine C_skip_then ?_
 refine C_seq ?_
 refine C_region ?_
 refine Jq (q_move rfl) ?_
 refine Jq (q_move rfl) ?_
 refine Jq (q_move rfl) ?_
 refine Jq (q_move rfl) ?_
 refine Jq (q_move rfl) ?_
 refine Jq (q_add (e := (j : Int)) rfl rfl (wrT (by omega) (by omega))) ?_
 refine Jq (t_to (j := j) Tryz.underlying9 rfl rfl (by omega) rfl) ?_
 refine Jq (by first | exact q_index tb rfl rfl rfl rfl (by first | exact gvo | exact gvd gvo (by omega)) (by omega) (by first | omega | (simp; done) | (simp; omega)) | exact q_indexP tb rfl rfl rfl rfl (by omega) (by omega)) ?_
 first | refine L_storeEl tb rfl rfl rfl rfl rfl rfl (i := q.1) (by omega) (by omega) ?_ | (refine L_front1 ?_; refine L_storeEl tb rfl rfl rfl rfl rfl rfl (i := q.1) (by omega) (by omega) ?_) | (refine L_front2 ?_; refine L_storeEl tb rfl rfl rfl rfl rfl rfl (i := q.1) (by omega) (by omega) ?_) | (refine L_front3 ?_; refine L_storeEl tb rfl rfl rfl rfl rfl rfl (i := q.1) (by omega) (by omega) ?_) | (refine L_front4 ?_; refine L_storeEl tb rfl rfl rfl rfl rfl rfl (i := q.1) (by omega) (by omega) ?_) | (refine L_front5 ?_; refine L_storeEl tb rfl rfl rfl rfl rfl rfl (i := q.1) (by omega) (by omega) ?_) | (refine L_front6 ?_; refine L_storeEl tb rfl rfl rfl rfl rfl rfl (i := q.1) (by omega) (by omega) ?_)
 refine L_then ?_
 refine C_seq ?_
 refine C_region ?_
 refine Jq (q_move rfl) ?_
 refine Jq (q_move rfl) ?_
 refine Jq (q_move rfl) ?_
 refine Jq (t_len Tryz.underlying9 rfl) ?_
 refine Jq (q_add (e := ((j + 1 : Nat) : Int)) rfl rfl (wrT (by simp) (by omega))) ?_
 refine Jq (t_from (j := j + 1) Tryz.underlying9 rfl rfl (by omega) rfl) ?_
 refine Jq (q_assign rfl) ?_
 refine L_then ?_
 refine C_region ?_
 refine Jq (q_move rfl) ?_
 refine Jq (q_add rfl rfl (by first | exact IntWalk.i64_in _ (by omega) | rfl)) ?_
 refine Jq (q_assign rfl) ?_
 refine L_end ?_
 exact fun ac_ wo_ hs_ => ⟨(q.1 + 1, q.2.drop (j + 1)), ⟨by dsimp only; omega, by dsimp only; rw [List.length_drop]; omega, e2.symm⟩, (by dsimp only; omega), hs_.weak ⟨rfl, rfl, rfl, rfl, rfl, rfl, trivial⟩ (fun h_ => h_.pk (by repeat (first | with_reducible exact pk_nil | refine pk_box (by first | rfl | exact e9) ?_ | refine pk_rd rfl ?_ | refine pk_sl (by first | rfl | exact e9) ?_ | with_reducible refine pk_app ?_ | with_reducible refine pk_app0 ?_ | with_reducible refine pk_app0L ?_ | with_reducible exact pk_tl | refine pk_var ?_)))⟩
 obtain ⟨z, hz⟩ : ∃ z, cutF m [] q.2 = [z] := by
  have h9 := congrArg List.length hqc
  rw [List.length_drop] at h9
  match hc : cutF m [] q.2, h9 with
  | [z], _ => exact ⟨z, rfl⟩
  | [], h9 => simp at h9; omega
  | _ :: _ :: _, h9 => simp at h9; omega
 obtain rfl := cutF_one hz
 rw [hz] at hqc
 obtain ⟨e1, e2, e3⟩ := pc_step hqc.symm
 have e9 := pcR_s hqc.symm
 have hpl := pcR_len (ps := cutF m [] l) (i := q.1) (by omega)
 obtain rfl : q.1 = N := by omega
 refine C_form (v := v31) gvo (fun A31 c31 hv31 _ => ?_)
 rw [hpl, hcl] at hv31
 subst hv31
 refine C_exit ?_
 change C Tryz.prog _ _ _ _ _ _ _
 refine C_seq ?_
 refine C_region ?_
 refine Jq (q_move rfl) ?_
 refine Jq (q_move rfl) ?_
 refine Jq (q_move rfl) ?_
 refine Jq (by first | exact q_index tb rfl rfl rfl rfl (by first | exact gvo | exact gvd gvo (by omega)) (by omega) (by first | omega | (simp; done) | (simp; omega)) | exact q_indexP tb rfl rfl rfl rfl (by omega) (by omega)) ?_
 first | refine L_storeEl tb rfl rfl rfl rfl rfl rfl (i := q.1) (by omega) (by omega) ?_ | (refine L_front1 ?_; refine L_storeEl tb rfl rfl rfl rfl rfl rfl (i := q.1) (by omega) (by omega) ?_) | (refine L_front2 ?_; refine L_storeEl tb rfl rfl rfl rfl rfl rfl (i := q.1) (by omega) (by omega) ?_) | (refine L_front3 ?_; refine L_storeEl tb rfl rfl rfl rfl rfl rfl (i := q.1) (by omega) (by omega) ?_) | (refine L_front4 ?_; refine L_storeEl tb rfl rfl rfl rfl rfl rfl (i := q.1) (by omega) (by omega) ?_) | (refine L_front5 ?_; refine L_storeEl tb rfl rfl rfl rfl rfl rfl (i := q.1) (by omega) (by omega) ?_) | (refine L_front6 ?_; refine L_storeEl tb rfl rfl rfl rfl rfl rfl (i := q.1) (by omega) (by omega) ?_)
 refine L_then ?_
 refine C_seq ?_
 refine C_region ?_
 skip
 refine Jq (q_move rfl) ?_
 refine Jq (q_move rfl) ?_
 refine Jq (q_add rfl rfl (by first | exact IntWalk.i64_in _ (by omega) | rfl)) ?_
 refine Jq (q_to tb rfl rfl rfl rfl (by first | exact gvo | exact gvd gvo (by omega)) (by omega) (by first | omega | (simp; done) | (simp; omega))) ?_
 refine Jq (q_assign rfl) ?_
 refine L_then ?_
 refine C_ret ?_
 rw [show ((q.1 : Int) + 1).toNat = q.1 + 1 by omega]
 have e8 : (pcR (cutF m [] l) q.1).set q.1 (Value.string (bs q.2)).cells.toList = (cutF m [] l).map cT := e9.trans (by rw [← hcl, pcR_all])
 exact ret_of (rs' := [sl (.slice A31 (q.1 + 1) c31) 9 1 ((cutF m [] l).map cT)]) (res1 rfl rfl) (fun w_ h_ => h_.pk (by repeat (first | with_reducible exact pk_nil | refine pk_box (by first | rfl | exact e8) ?_ | refine pk_rd rfl ?_ | refine pk_sl (by first | rfl | exact e8) ?_ | with_reducible refine pk_app ?_ | with_reducible refine pk_app0 ?_ | with_reducible refine pk_app0L ?_ | with_reducible exact pk_tl | refine pk_var ?_))) own1 (by unfold isSl; rw [takeV_s])
set_option maxRecDepth 100000 in
theorem ct_strings_Split (l : Tx) (m : UInt8) (hl : l.length ≤ 1000000) : Ct Tryz.prog 141 [.string (bs l), .string (bs [m])] [] (isSl 9 1 ((cutF m [] l).map cT)) := by
 refine Ct.of (N := 8) Tryz.func141 rfl rfl rfl fun w => ?_
 refine C_weak (E' := [(0, .string (bs l)), (1, .string (bs [m]))]) (rs' := []) ⟨rfl, rfl, trivial⟩ (fun _ h => h) ?_
 refine C_seq ?_
 refine C_region ?_
 refine Jq (q_assign rfl) ?_
 refine L_then ?_
 refine C_seq ?_
 refine C_region ?_
 refine Jq (q_move rfl) ?_
 refine Jq (q_move rfl) ?_
 refine L_callS tb rfl rfl (ct_strings_genSplit l m hl) no_ps rfl fun v7 => ?_
 refine Jq (q_assign rfl) ?_
 refine L_then ?_
 refine C_ret ?_
 exact ret_of (rs' := [sl v7 9 1 ((cutF m [] l).map cT)]) (res1 rfl rfl) (fun _ h => h.sub (by repeat (first | exact List.Sublist.refl _ | apply List.Sublist.cons_cons | apply List.Sublist.cons))) own1 rfl
end Go.Proofs.YtacndicgpkeobaaGreatDoor
