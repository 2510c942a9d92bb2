/-
  Walks: each function named returns what its model says. Conditions: those in front of each theorem.
-/
import Derived.Test.YtibohfipgjljhaaDoorKW
import Derived.Test.YtibohfipgjljhaaDoorLawBetween
import Derived.Test.YtibohfipgjljhaaDoorKE
import Derived.Test.YtibohfipgjljhaaDoorGi
import Derived.Test.YtibohfipgjljhaaDoorShCopy
namespace Go.Proofs.YtibohfipgjljhaaDoor
open Go.RowKit

set_option maxRecDepth 100000 in
theorem ct_shotlinebase_Mod (n b : Int) (h : 1 ≤ b ∧ b ≤ 1000000) : Ct Tryd.prog 74 [.int .i64 n, .int .i64 b] [] (isV (.int .i64 (n % b))) := by
  refine Ct.of (N := 14) Tryd.func74 rfl rfl rfl fun w => ?_
  refine C_weak (E' := [(0, .int .i64 n), (1, .int .i64 b)]) (rs' := []) ⟨rfl, rfl, trivial⟩ (fun _ h => h) ?_
  have hb1 := Int.tmod_lt_of_pos n (show 0 < b by omega); have hb2 := Int.lt_tmod_of_pos n (show 0 < b by omega)
  refine C_seq ?_
  refine C_region ?_
  refine L_q rfl rfl rfl (q_assign rfl) ?_
  refine L_then ?_
  refine C_seq ?_
  refine C_region ?_
  refine L_q rfl rfl rfl (q_move rfl) ?_
  refine L_q rfl rfl rfl (q_move rfl) ?_
  refine L_q rfl rfl rfl (q_rem rfl rfl (by omega) (by first | exact IntWalk.rem_in _ _ (by omega) | rfl)) ?_
  refine L_q rfl rfl rfl (q_assign rfl) ?_
  refine L_then ?_
  refine C_seq ?_
  refine C_seq ?_
  refine C_region ?_
  refine L_q rfl rfl rfl (q_move rfl) ?_
  refine L_q rfl rfl rfl (q_lss rfl rfl) ?_
  refine L_then ?_
  refine C_dec rfl (fun h9 => ?_) (fun h9 => ?_)
  · -- t9 True
    refine C_region ?_
    refine L_q rfl rfl rfl (q_move rfl) ?_
    refine L_q rfl rfl rfl (q_move rfl) ?_
    refine L_q rfl rfl rfl (q_add rfl rfl (by first | exact IntWalk.i64_in _ (by omega) | rfl)) ?_
    refine L_q rfl rfl rfl (q_assign rfl) ?_
    refine L_then ?_
    refine C_seq ?_
    refine C_region ?_
    refine L_q rfl rfl rfl (q_move rfl) ?_
    refine L_q rfl rfl rfl (q_assign rfl) ?_
    refine L_then ?_
    refine C_ret ?_
    exact ret_of (res1 rfl rfl) sub_nil (by intro r hr; cases hr) ⟨(congrArg (Value.int .i64) (by exact mod_yes h.1 h9)), rfl⟩
  · -- t9 False
    refine C_skip_then ?_
    refine C_seq ?_
    refine C_region ?_
    refine L_q rfl rfl rfl (q_move rfl) ?_
    refine L_q rfl rfl rfl (q_assign rfl) ?_
    refine L_then ?_
    refine C_ret ?_
    exact ret_of (res1 rfl rfl) sub_nil (by intro r hr; cases hr) ⟨(congrArg (Value.int .i64) (by exact mod_no h.1 h9)), rfl⟩
set_option maxRecDepth 100000 in
set_option maxHeartbeats 4000000 in
theorem ct_shotlinetop_TopGasesAddUp (v : Value) (l : List Gp) (cut : Int) : CtQ KQ Tryd.prog 17 [v, .int .i64 cut] [(v, 3, l.map cGp)] (isV (.bool true)) := by
  refine CtQ.of (N := 309) Tryd.func17 rfl rfl rfl fun w hQ => ?_
  refine C_weak (E' := [(0, v), (1, .int .i64 cut)]) (rs' := [rd v 3 (l.map cGp)]) ⟨rfl, rfl, trivial⟩ (fun _ h => h) ?_
  have hl1 := len_map cGp l
  refine C_seq ?_
  refine C_region ?_
  refine L_q rfl rfl rfl (q_assign rfl) ?_
  refine L_then ?_
  refine C_seq ?_
  refine C_seq ?_
  refine C_region ?_
  refine L_call tb rfl rfl (ct_shotlinetop_breathing) no_ps rfl ?_
  refine L_q rfl rfl rfl (q_not rfl (by first | exact (rfl : (!true) = false) | exact (rfl : (!false) = true) | exact decide_not.symm | rfl)) ?_
  refine L_then ?_
  refine C_false rfl ?_
  refine C_skip_then ?_
  refine C_seq ?_
  refine C_seq ?_
  refine C_region ?_
  refine L_q rfl rfl rfl (q_move rfl) ?_
  refine L_q rfl rfl rfl (q_len tb rfl rfl (by first | exact gvo | exact gvd gvo (by omega))) ?_
  refine L_q rfl rfl rfl (q_gtr rfl rfl) ?_
  refine L_q rfl rfl rfl (q_move rfl) ?_
  refine L_dec (d := 35) rfl (fun h35 => ?_) (fun h35 => ?_)
  · -- t35 True
    refine L_skip rfl rfl rfl rfl rfl rfl rfl ?_
    refine L_skip rfl rfl rfl rfl rfl rfl rfl ?_
    refine L_skip rfl rfl rfl rfl rfl rfl rfl ?_
    refine L_q rfl rfl rfl (by first | exact q_pickT rfl rfl | exact q_pickF rfl rfl) ?_
    refine L_then ?_
    refine C_true rfl ?_
    refine C_seq ?_
    refine C_region ?_
    refine L_q rfl rfl rfl (q_assign rfl) ?_
    refine L_then ?_
    refine C_ret ?_
    exact ret_of (res1 rfl rfl) sub_nil (by intro r hr; cases hr) ⟨rfl, rfl⟩
  · -- t35 False
    refine L_qg rfl rfl rfl rfl rfl rfl rfl (q_move rfl) ?_
    refine L_callg tb rfl rfl rfl rfl rfl rfl (ct_shotlineref01_CheckParts v l (by omega)) (ps_cons (by first | exact gvo | exact gvd gvo (by omega)) no_ps) rfl ?_
    refine L_qg rfl rfl rfl rfl rfl rfl rfl (q_neq rfl rfl) ?_
    refine L_q rfl rfl rfl (by first | exact q_pickT rfl rfl | exact q_pickF rfl rfl) ?_
    refine L_then ?_
    refine C_dec rfl (fun h39 => ?_) (fun h39 => ?_)
    · -- t39 True
      refine C_seq ?_
      refine C_region ?_
      refine L_q rfl rfl rfl (q_assign rfl) ?_
      refine L_then ?_
      refine C_ret ?_
      exact ret_of (res1 rfl rfl) sub_nil (by intro r hr; cases hr) ⟨rfl, rfl⟩
    · -- t39 False
      have hz : ckPa l = 0 := by omega
      have H := pa_ok hz
      have hle9 := H.le
      refine C_skip_then ?_
      refine C_seq ?_
      refine C_region ?_
      refine L_q rfl rfl rfl (q_assign rfl) ?_
      refine L_q rfl rfl rfl (q_assign rfl) ?_
      refine L_q rfl rfl rfl (q_assign rfl) ?_
      refine L_then ?_
      refine C_seq ?_
      refine C_seq ?_
      refine C_region ?_
      refine L_q rfl rfl rfl (q_assign rfl) ?_
      refine L_then ?_
      refine C_block ?_
      refine C_loop (ι := Nat) (fun k => ([(0, v), (1, .int .i64 cut), (5, .int .i64 ((smA l k))), (6, .int .i64 ((smO l k))), (7, .int .i64 ((smH l k))), (8, .int .i64 (k : Int))], [rd v 3 (l.map cGp)])) (fun k => k ≤ l.length ∧ lowA l k) (fun k => l.length - k) 0 ⟨Nat.zero_le _, lowA_0 l⟩ (fun a w hs => hs.weak ⟨rfl, rfl, rfl, rfl, rfl, rfl, trivial⟩ (fun h => h.pk (by repeat (first | with_reducible exact pk_nil | refine pk_box rfl ?_ | refine pk_rd rfl ?_ | refine pk_sl rfl ?_ | with_reducible refine pk_app ?_ | with_reducible refine pk_app0 ?_ | with_reducible refine pk_app0L ?_ | with_reducible exact pk_tl | refine pk_var ?_)))) ?_
      rintro k ⟨hk, hlow⟩
      dsimp only at hk hlow ⊢
      refine C_seq ?_
      refine C_seq ?_
      refine C_region ?_
      refine L_q rfl rfl rfl (q_move rfl) ?_
      refine L_q rfl rfl rfl (q_move rfl) ?_
      refine L_q rfl rfl rfl (q_len tb rfl rfl (by first | exact gvo | exact gvd gvo (by omega))) ?_
      refine L_q rfl rfl rfl (q_lss rfl rfl) ?_
      refine L_then ?_
      refine C_dec rfl (fun h5 => ?_) (fun h5 => ?_)
      · -- t43 True
        obtain ⟨x, hx⟩ := get_some l (k := k) (by omega); have hel := map_get cGp hx; have hgx := gpAt_get hx; obtain ⟨hxg, hx0, hx1⟩ := H.ok x (List.mem_of_getElem? hx); have hxk := ckGas_ok hxg
        obtain ⟨hs1, hs2, hs3, hs4⟩ := sm_in H.ok k (by omega); obtain ⟨hu1, hu2, hu3, hu4⟩ := sm_in H.ok (k + 1) (by omega)
        have hp1 := mulB (a := x.o) (b := x.a) (A := 1000) (B := 1000000000) (by omega) (by omega); have hp2 := mulB (a := x.h) (b := x.a) (A := 1000) (B := 1000000000) (by omega) (by omega)
        have hea : smA l (k + 1) = smA l k + x.a := by show _ + (gpAt l k).a = _; rw [hgx]
        have heo : smO l (k + 1) = smO l k + x.o * x.a := by show _ + (gpAt l k).o * (gpAt l k).a = _; rw [hgx]
        have heh : smH l (k + 1) = smH l k + x.h * x.a := by show _ + (gpAt l k).h * (gpAt l k).a = _; rw [hgx]
        refine C_skip_then ?_
        refine C_seq ?_
        refine C_block ?_
        refine C_seq ?_
        refine C_seq ?_
        refine C_region ?_
        refine L_q rfl rfl rfl (q_move rfl) ?_
        refine L_q rfl rfl rfl (q_move rfl) ?_
        refine L_q rfl rfl rfl (by first | exact q_index tb rfl rfl rfl rfl (by first | exact gvo | exact gvd gvo (by omega)) (by omega) (by first | omega | (simp; done) | (simp; omega)) | exact q_indexP tb rfl rfl rfl rfl (by omega) (by omega)) ?_
        refine L_q rfl rfl rfl (q_fieldE tb rfl rfl rfl (by first | exact gvo | exact gvd gvo (by omega)) (by first | omega | (simp; done) | (simp; omega))) ?_
        refine L_q rfl rfl rfl (q_loadE tb rfl rfl (by first | exact gvo | exact gvd gvo (by omega)) (i := k) (o := 2) (by omega) hel rfl) ?_
        refine L_q rfl rfl rfl (q_gtr rfl rfl) ?_
        refine L_then ?_
        refine C_dec rfl (fun h51 => ?_) (fun h51 => ?_)
        · -- t51 True
          refine C_seq ?_
          refine C_region ?_
          refine L_q rfl rfl rfl (q_assign rfl) ?_
          refine L_then ?_
          refine C_ret ?_
          exact ret_of (res1 rfl rfl) sub_nil (by intro r hr; cases hr) ⟨rfl, rfl⟩
        · -- t51 False
          refine C_skip_then ?_
          refine C_draw (n := 38) [(0, false), (1, false), (2, false), (3, false), (4, false), (5, false), (6, false), (7, false), (8, false), (9, false), (10, false), (11, false), (12, false), (13, false), (14, false), (15, false), (16, false), (17, false), (18, false), (19, false), (20, false), (21, false), (22, false), (23, false), (24, false), (25, false), (26, false), (27, false), (28, false), (29, false), (30, false), (31, false), (32, false), (33, false), (34, false), (35, false), (36, false), (37, false)] mixed (by kernel_rfl) ?_
          refine W_q rfl rfl rfl rfl (q_move rfl) ?_
          refine W_q rfl rfl rfl rfl (q_move rfl) ?_
          refine W_q rfl rfl rfl rfl (q_move rfl) ?_
          refine W_q rfl rfl rfl rfl (by first | exact q_index tb rfl rfl rfl rfl (by first | exact gvo | exact gvd gvo (by omega)) (by omega) (by first | omega | (simp; done) | (simp; omega)) | exact q_indexP tb rfl rfl rfl rfl (by omega) (by omega)) ?_
          refine W_q rfl rfl rfl rfl (q_fieldE tb rfl rfl rfl (by first | exact gvo | exact gvd gvo (by omega)) (by first | omega | (simp; done) | (simp; omega))) ?_
          refine W_q rfl rfl rfl rfl (q_loadE tb rfl rfl (by first | exact gvo | exact gvd gvo (by omega)) (i := k) (o := 2) (by omega) hel rfl) ?_
          refine W_q rfl rfl rfl rfl (q_add rfl rfl (by first | exact IntWalk.i64_in _ (by omega) | rfl)) ?_
          refine W_q rfl rfl rfl rfl (q_move rfl) ?_
          refine W_q rfl rfl rfl rfl (q_move rfl) ?_
          refine W_q rfl rfl rfl rfl (q_move rfl) ?_
          refine W_q rfl rfl rfl rfl (by first | exact q_index tb rfl rfl rfl rfl (by first | exact gvo | exact gvd gvo (by omega)) (by omega) (by first | omega | (simp; done) | (simp; omega)) | exact q_indexP tb rfl rfl rfl rfl (by omega) (by omega)) ?_
          refine W_q rfl rfl rfl rfl (q_fieldE tb rfl rfl rfl (by first | exact gvo | exact gvd gvo (by omega)) (by first | omega | (simp; done) | (simp; omega))) ?_
          refine W_q rfl rfl rfl rfl (q_loadE tb rfl rfl (by first | exact gvo | exact gvd gvo (by omega)) (i := k) (o := 2) (by omega) hel rfl) ?_
          refine W_q rfl rfl rfl rfl (q_move rfl) ?_
          refine W_q rfl rfl rfl rfl (q_move rfl) ?_
          refine W_q rfl rfl rfl rfl (by first | exact q_index tb rfl rfl rfl rfl (by first | exact gvo | exact gvd gvo (by omega)) (by omega) (by first | omega | (simp; done) | (simp; omega)) | exact q_indexP tb rfl rfl rfl rfl (by omega) (by omega)) ?_
          refine W_q rfl rfl rfl rfl (q_fieldE tb rfl rfl rfl (by first | exact gvo | exact gvd gvo (by omega)) (by first | omega | (simp; done) | (simp; omega))) ?_
          refine W_q rfl rfl rfl rfl (q_fieldE tb rfl rfl rfl (by first | exact gvo | exact gvd gvo (by omega)) (by first | omega | (simp; done) | (simp; omega))) ?_
          refine W_q rfl rfl rfl rfl (q_loadE tb rfl rfl (by first | exact gvo | exact gvd gvo (by omega)) (i := k) (o := 0) (by omega) hel rfl) ?_
          refine W_q rfl rfl rfl rfl (q_mul (e := x.o * x.a) rfl rfl (wr (Int.mul_comm _ _) (by omega))) ?_
          refine W_q rfl rfl rfl rfl (q_add rfl rfl (by first | exact IntWalk.i64_in _ (by omega) | rfl)) ?_
          refine W_q rfl rfl rfl rfl (q_move rfl) ?_
          refine W_q rfl rfl rfl rfl (q_move rfl) ?_
          refine W_q rfl rfl rfl rfl (q_move rfl) ?_
          refine W_q rfl rfl rfl rfl (by first | exact q_index tb rfl rfl rfl rfl (by first | exact gvo | exact gvd gvo (by omega)) (by omega) (by first | omega | (simp; done) | (simp; omega)) | exact q_indexP tb rfl rfl rfl rfl (by omega) (by omega)) ?_
          refine W_q rfl rfl rfl rfl (q_fieldE tb rfl rfl rfl (by first | exact gvo | exact gvd gvo (by omega)) (by first | omega | (simp; done) | (simp; omega))) ?_
          refine W_q rfl rfl rfl rfl (q_loadE tb rfl rfl (by first | exact gvo | exact gvd gvo (by omega)) (i := k) (o := 2) (by omega) hel rfl) ?_
          refine W_q rfl rfl rfl rfl (q_move rfl) ?_
          refine W_q rfl rfl rfl rfl (q_move rfl) ?_
          refine W_q rfl rfl rfl rfl (by first | exact q_index tb rfl rfl rfl rfl (by first | exact gvo | exact gvd gvo (by omega)) (by omega) (by first | omega | (simp; done) | (simp; omega)) | exact q_indexP tb rfl rfl rfl rfl (by omega) (by omega)) ?_
          refine W_q rfl rfl rfl rfl (q_fieldE tb rfl rfl rfl (by first | exact gvo | exact gvd gvo (by omega)) (by first | omega | (simp; done) | (simp; omega))) ?_
          refine W_q rfl rfl rfl rfl (q_fieldE tb rfl rfl rfl (by first | exact gvo | exact gvd gvo (by omega)) (by first | omega | (simp; done) | (simp; omega))) ?_
          refine W_q rfl rfl rfl rfl (q_loadE tb rfl rfl (by first | exact gvo | exact gvd gvo (by omega)) (i := k) (o := 1) (by omega) hel rfl) ?_
          refine W_q rfl rfl rfl rfl (q_mul (e := x.h * x.a) rfl rfl (wr (Int.mul_comm _ _) (by omega))) ?_
          refine W_q rfl rfl rfl rfl (q_add rfl rfl (by first | exact IntWalk.i64_in _ (by omega) | rfl)) ?_
          refine W_q rfl rfl rfl rfl (q_assign rfl) ?_
          refine W_q rfl rfl rfl rfl (q_assign rfl) ?_
          refine W_q rfl rfl rfl rfl (q_assign rfl) ?_
          refine W_nil ?_
          refine L_blk ?_
          refine C_region ?_
          refine L_q rfl rfl rfl (q_move rfl) ?_
          refine L_q rfl rfl rfl (q_add rfl rfl (by first | exact IntWalk.i64_in _ (by omega) | rfl)) ?_
          refine L_q rfl rfl rfl (q_assign rfl) ?_
          refine L_end ?_
          exact fun ac_ wo_ hs_ => ⟨k + 1, ⟨by omega, lowA_s hlow hx h51⟩, (by first | omega | (dsimp only; omega)), hs_.weak ⟨rfl, rfl, en hea.symm, en heo.symm, en heh.symm, rfl, trivial⟩ (fun h => h.pk (by repeat (first | with_reducible exact pk_nil | refine pk_box rfl ?_ | refine pk_rd rfl ?_ | refine pk_sl rfl ?_ | with_reducible refine pk_app ?_ | with_reducible refine pk_app0 ?_ | with_reducible refine pk_app0L ?_ | with_reducible exact pk_tl | refine pk_var ?_)))⟩
      · -- t43 False
        obtain rfl : k = l.length := by omega
        have hsA : smA l l.length ≤ 600000 := by have := sm_low H.ok hlow l.length (Nat.le_refl _); omega
        have hall := all_low H hsA
        obtain ⟨hmc, hmv⟩ := mix_3 hz hall
        obtain ⟨b1, b2, b3, b4⟩ := mx_in H; have hal : alM l = 1000 * smA l l.length := rfl; have hsn := smN_eq l l.length; have ha0 := H.a0
        refine C_exit ?_
        change C Tryd.prog _ _ _ _ _ _ _
        refine C_seq ?_
        refine C_region ?_
        refine L_q rfl rfl rfl (q_move rfl) ?_
        refine L_call tb rfl rfl (ct_MixedE v l (by omega)) (ps_cons (by first | exact gvo | exact gvd gvo (by omega)) no_ps) rfl ?_
        refine L_q rfl rfl rfl (q_move rfl) ?_
        rw [hmc, hmv]
        refine L_q rfl rfl rfl (q_ext0 rfl) ?_
        refine L_q rfl rfl rfl (q_ext1 rfl) ?_
        refine L_alloc tb rfl rfl fun g9 => ?_
        first | refine L_store tb rfl rfl rfl rfl rfl rfl rfl rfl ?_ | (refine L_front1 ?_; refine L_store tb rfl rfl rfl rfl rfl rfl rfl rfl ?_) | (refine L_front2 ?_; refine L_store tb rfl rfl rfl rfl rfl rfl rfl rfl ?_) | (refine L_front3 ?_; refine L_store tb rfl rfl rfl rfl rfl rfl rfl rfl ?_) | (refine L_front4 ?_; refine L_store tb rfl rfl rfl rfl rfl rfl rfl rfl ?_) | (refine L_front5 ?_; refine L_store tb rfl rfl rfl rfl rfl rfl rfl rfl ?_) | (refine L_front6 ?_; refine L_store tb rfl rfl rfl rfl rfl rfl rfl rfl ?_)
        refine L_q rfl rfl rfl (q_assign rfl) ?_
        refine L_then ?_
        refine C_seq ?_
        refine C_seq ?_
        refine C_res (rs' := [box g9 51 [.int .i64 (mnI l 0), .int .i64 (mdI l 0), .int .i64 (mnI l 1), .int .i64 (mdI l 1), .int .i64 (mnI l 2), .int .i64 (mdI l 2)], rd v 3 (l.map cGp)]) (fun _ h => h.pk (by repeat (first | with_reducible exact pk_nil | refine pk_box rfl ?_ | refine pk_rd rfl ?_ | refine pk_sl rfl ?_ | with_reducible refine pk_app ?_ | with_reducible refine pk_app0 ?_ | with_reducible refine pk_app0L ?_ | with_reducible exact pk_tl | refine pk_var ?_))) ?_
        refine C_draw (n := 34) [(0, false), (1, false), (2, false), (3, false), (4, false), (5, false), (6, false), (7, false), (8, true), (9, false), (10, false), (11, false), (12, false), (13, false), (14, false), (15, false), (16, false), (17, true), (18, false), (19, false), (20, false), (21, false), (22, false), (23, false), (24, false), (25, false), (26, false), (27, false), (28, false), (29, false), (30, false), (31, true), (32, false), (33, false)] mixed (by kernel_rfl) ?_
        refine W_q rfl rfl rfl rfl (q_move rfl) ?_
        refine W_q rfl rfl rfl rfl (q_false (q_neq rfl rfl) (decide_eq_false (by omega))) ?_
        refine W_q rfl rfl rfl rfl (q_move rfl) ?_
        refine W_qg rfl rfl rfl rfl rfl rfl rfl rfl (by first | exact q_index tb rfl rfl rfl rfl (by first | exact gvo | exact gvd gvo (by omega)) (by omega) (by first | omega | (simp; done) | (simp; omega)) | exact q_indexP tb rfl rfl rfl rfl (by omega) (by omega)) ?_
        refine W_qg rfl rfl rfl rfl rfl rfl rfl rfl (by first | exact q_loadA tb rfl rfl bxo rfl rfl | exact q_loadEA tb rfl rfl (by first | exact gvo | exact gvd gvo (by omega)) (by omega) (by simp) rfl rfl) ?_
        refine W_qg rfl rfl rfl rfl rfl rfl rfl rfl (q_move rfl) ?_
        refine W_qg rfl rfl rfl rfl rfl rfl rfl rfl (q_move rfl) ?_
        refine W_qg rfl rfl rfl rfl rfl rfl rfl rfl (q_mul (e := alM l) rfl rfl (wr rfl (by omega))) ?_
        refine W_callg tb rfl rfl rfl rfl rfl rfl rfl rfl (ct_LowI l H 0) no_ps rfl ?_
        refine W_qg rfl rfl rfl rfl rfl rfl rfl rfl (q_false (q_neI (p := [mnI l 0, mdI l 0] = [mnI l 0, mdI l 0]) (xs := [mnI l 0, mdI l 0]) (ys := [mnI l 0, mdI l 0]) eq50 (by omega) eg50 rfl rfl rfl rfl Iff.rfl) (decide_eq_false (fun h => h rfl))) ?_
        refine W_q rfl rfl rfl rfl (by first | exact q_pickT rfl rfl | exact q_pickF rfl rfl) ?_
        refine W_q rfl rfl rfl rfl (q_move rfl) ?_
        refine W_qg rfl rfl rfl rfl rfl rfl rfl rfl (by first | exact q_index tb rfl rfl rfl rfl (by first | exact gvo | exact gvd gvo (by omega)) (by omega) (by first | omega | (simp; done) | (simp; omega)) | exact q_indexP tb rfl rfl rfl rfl (by omega) (by omega)) ?_
        refine W_qg rfl rfl rfl rfl rfl rfl rfl rfl (by first | exact q_loadA tb rfl rfl bxo rfl rfl | exact q_loadEA tb rfl rfl (by first | exact gvo | exact gvd gvo (by omega)) (by omega) (by simp) rfl rfl) ?_
        refine W_qg rfl rfl rfl rfl rfl rfl rfl rfl (q_move rfl) ?_
        refine W_qg rfl rfl rfl rfl rfl rfl rfl rfl (q_move rfl) ?_
        refine W_qg rfl rfl rfl rfl rfl rfl rfl rfl (q_mul (e := alM l) rfl rfl (wr rfl (by omega))) ?_
        refine W_callg tb rfl rfl rfl rfl rfl rfl rfl rfl (ct_LowI l H 1) no_ps rfl ?_
        refine W_qg rfl rfl rfl rfl rfl rfl rfl rfl (q_false (q_neI (p := [mnI l 1, mdI l 1] = [mnI l 1, mdI l 1]) (xs := [mnI l 1, mdI l 1]) (ys := [mnI l 1, mdI l 1]) eq50 (by omega) eg50 rfl rfl rfl rfl Iff.rfl) (decide_eq_false (fun h => h rfl))) ?_
        refine W_q rfl rfl rfl rfl (by first | exact q_pickT rfl rfl | exact q_pickF rfl rfl) ?_
        refine W_q rfl rfl rfl rfl (q_move rfl) ?_
        refine W_qg rfl rfl rfl rfl rfl rfl rfl rfl (by first | exact q_index tb rfl rfl rfl rfl (by first | exact gvo | exact gvd gvo (by omega)) (by omega) (by first | omega | (simp; done) | (simp; omega)) | exact q_indexP tb rfl rfl rfl rfl (by omega) (by omega)) ?_
        refine W_qg rfl rfl rfl rfl rfl rfl rfl rfl (by first | exact q_loadA tb rfl rfl bxo rfl rfl | exact q_loadEA tb rfl rfl (by first | exact gvo | exact gvd gvo (by omega)) (by omega) (by simp) rfl rfl) ?_
        refine W_qg rfl rfl rfl rfl rfl rfl rfl rfl (q_move rfl) ?_
        refine W_qg rfl rfl rfl rfl rfl rfl rfl rfl (q_mul (e := alM l) rfl rfl (wr rfl (by omega))) ?_
        refine W_qg rfl rfl rfl rfl rfl rfl rfl rfl (q_move rfl) ?_
        refine W_qg rfl rfl rfl rfl rfl rfl rfl rfl (q_sub rfl rfl (by first | exact IntWalk.i64_in _ (by omega) | rfl)) ?_
        refine W_qg rfl rfl rfl rfl rfl rfl rfl rfl (q_move rfl) ?_
        refine W_qg rfl rfl rfl rfl rfl rfl rfl rfl (q_sub (e := smN l l.length) rfl rfl (wr (by omega) (by omega))) ?_
        refine W_qg rfl rfl rfl rfl rfl rfl rfl rfl (q_move rfl) ?_
        refine W_qg rfl rfl rfl rfl rfl rfl rfl rfl (q_mul (e := alM l) rfl rfl (wr rfl (by omega))) ?_
        refine W_callg tb rfl rfl rfl rfl rfl rfl rfl rfl (ct_LowI l H 2) no_ps rfl ?_
        refine W_qg rfl rfl rfl rfl rfl rfl rfl rfl (q_false (q_neI (p := [mnI l 2, mdI l 2] = [mnI l 2, mdI l 2]) (xs := [mnI l 2, mdI l 2]) (ys := [mnI l 2, mdI l 2]) eq50 (by omega) eg50 rfl rfl rfl rfl Iff.rfl) (decide_eq_false (fun h => h rfl))) ?_
        refine W_q rfl rfl rfl rfl (by first | exact q_pickT rfl rfl | exact q_pickF rfl rfl) ?_
        refine W_nil ?_
        refine L_then ?_
        refine C_false rfl ?_
        refine C_skip_then ?_
        refine C_seq ?_
        refine C_region ?_
        refine L_q rfl rfl rfl (q_move rfl) ?_
        refine L_q rfl rfl rfl (q_move rfl) ?_
        refine L_q rfl rfl rfl (q_len tb rfl rfl (by first | exact gvo | exact gvd gvo (by omega))) ?_
        refine L_q rfl rfl rfl (q_add rfl rfl (by first | exact IntWalk.i64_in _ (by omega) | rfl)) ?_
        refine L_call tb rfl rfl (ct_shotlinebase_Mod cut (((l.map cGp).length : Int) + 1) (by omega)) no_ps rfl ?_
        refine L_q rfl rfl rfl (q_assign rfl) ?_
        refine L_then ?_
        refine C_cut (ι := Unit) (fun _p => ([(0, v), (5, .int .i64 ((smA l l.length))), (6, .int .i64 ((smO l l.length))), (7, .int .i64 ((smH l l.length)))], [rd v 3 (l.map cGp)])) (fun _p => True) ?_ ?_
        · -- ahead
          refine C_seq ?_
          refine C_region ?_
          obtain ⟨K, hKe⟩ := Int.eq_ofNat_of_zero_le (Int.emod_nonneg cut (show (((l.map cGp).length : Int) + 1) ≠ 0 by omega))
          have hKl := Int.emod_lt_of_pos cut (show 0 < ((l.map cGp).length : Int) + 1 by omega)
          have hK : K ≤ l.length := by omega
          rw [hKe]
          refine L_q rfl rfl rfl (q_move rfl) ?_
          refine L_q rfl rfl rfl (q_move rfl) ?_
          refine L_q rfl rfl rfl (q_to tb (k := (K : Int)) rfl rfl rfl rfl (by first | exact gvo | exact gs0 | exact gv1 gvo | exact gv1 (gv1 gvo) | exact gv1 (gv1 (gv1 gvo)) | exact gv1 gs0) (by omega) (by omega)) ?_
          refine L_call tb rfl rfl (ct_shotlineref01_CheckParts _ (l.take K) (by rw [List.length_take]; omega)) (ps_cons (by rw [List.map_take]; exact gvt (by first | exact gvo | exact gs0 | exact gv1 gvo | exact gv1 (gv1 gvo) | exact gv1 (gv1 (gv1 gvo)) | exact gv1 gs0) (by omega)) no_ps) rfl ?_
          refine L_q rfl rfl rfl (q_eql rfl rfl) ?_
          refine L_then ?_
          refine C_dec rfl (fun h135 => ?_) (fun h135 => ?_)
          · -- t135 True
            have hzk := h135
            have Hk := pa_ok hzk
            obtain ⟨n1, n2, n3⟩ := nr_in Hk; have n4 := ckGas_ok n3
            obtain ⟨d1, d2, d3⟩ := sm_tk (l := l) hK
            have hkA : smA l K ≤ 600000 := by have := sm_low H.ok hlow K hK; omega
            have hallk := all_low Hk (by omega)
            obtain ⟨kmc, kmv⟩ := mix_3 hzk hallk
            refine C_seq ?_
            refine C_region ?_
            refine L_q rfl rfl rfl (q_move rfl) ?_
            refine L_q rfl rfl rfl (q_move rfl) ?_
            refine L_q rfl rfl rfl (q_to tb (k := (K : Int)) rfl rfl rfl rfl (by first | exact gvo | exact gs0 | exact gv1 gvo | exact gv1 (gv1 gvo) | exact gv1 (gv1 (gv1 gvo)) | exact gv1 gs0) (by omega) (by omega)) ?_
            refine L_call tb rfl rfl (ct_shotlineref01_Nearest _ (l.take K) hzk) (ps_cons (by rw [List.map_take]; exact gvt (by first | exact gvo | exact gs0 | exact gv1 gvo | exact gv1 (gv1 gvo) | exact gv1 (gv1 (gv1 gvo)) | exact gv1 gs0) (by omega)) no_ps) rfl ?_
            refine L_alloc tb rfl rfl fun g12 => ?_
            first | refine L_store tb rfl rfl rfl rfl rfl rfl rfl rfl ?_ | (refine L_front1 ?_; refine L_store tb rfl rfl rfl rfl rfl rfl rfl rfl ?_) | (refine L_front2 ?_; refine L_store tb rfl rfl rfl rfl rfl rfl rfl rfl ?_) | (refine L_front3 ?_; refine L_store tb rfl rfl rfl rfl rfl rfl rfl rfl ?_) | (refine L_front4 ?_; refine L_store tb rfl rfl rfl rfl rfl rfl rfl rfl ?_) | (refine L_front5 ?_; refine L_store tb rfl rfl rfl rfl rfl rfl rfl rfl ?_) | (refine L_front6 ?_; refine L_store tb rfl rfl rfl rfl rfl rfl rfl rfl ?_)
            refine L_q rfl rfl rfl (q_assign rfl) ?_
            refine L_then ?_
            refine C_seq ?_
            refine C_seq ?_
            refine C_region ?_
            refine L_q rfl rfl rfl (q_assign rfl) ?_
            refine L_then ?_
            refine C_block ?_
            refine C_loop (ι := Nat) (fun k => ([(0, v), (5, .int .i64 ((smA l l.length))), (6, .int .i64 ((smO l l.length))), (7, .int .i64 ((smH l l.length))), (9, .pointer (some ⟨g9, 0, none⟩)), (11, .int .i64 (K : Int)), (12, .pointer (some ⟨g12, 0, none⟩)), (13, .int .i64 ((smA l k))), (14, .int .i64 (k : Int))], [box g12 23 [.int .i64 (nrO (l.take K)), .int .i64 (nrH (l.take K))], box g9 51 [.int .i64 (mnI l 0), .int .i64 (mdI l 0), .int .i64 (mnI l 1), .int .i64 (mdI l 1), .int .i64 (mnI l 2), .int .i64 (mdI l 2)], rd v 3 (l.map cGp)])) (fun k => k ≤ K) (fun k => K - k) 0 (Nat.zero_le _) (fun a w hs => hs.weak ⟨rfl, rfl, rfl, rfl, rfl, rfl, rfl, rfl, rfl, trivial⟩ (fun h => h.pk (by repeat (first | with_reducible exact pk_nil | refine pk_box rfl ?_ | refine pk_rd rfl ?_ | refine pk_sl rfl ?_ | with_reducible refine pk_app ?_ | with_reducible refine pk_app0 ?_ | with_reducible refine pk_app0L ?_ | with_reducible exact pk_tl | refine pk_var ?_)))) ?_
            intro k hk
            dsimp only at hk ⊢
            refine C_seq ?_
            refine C_seq ?_
            refine C_region ?_
            refine L_q rfl rfl rfl (q_move rfl) ?_
            refine L_q rfl rfl rfl (q_move rfl) ?_
            refine L_q rfl rfl rfl (q_lss rfl rfl) ?_
            refine L_then ?_
            refine C_dec rfl (fun h9 => ?_) (fun h9 => ?_)
            · -- t142 True
              obtain ⟨x, hx⟩ := get_some l (k := k) (by omega); have hel := map_get cGp hx; have hgx := gpAt_get hx; obtain ⟨hxg, hx0, hx1⟩ := H.ok x (List.mem_of_getElem? hx); have hxk := ckGas_ok hxg
              obtain ⟨hs1, _⟩ := sm_in H.ok k (by omega); obtain ⟨hu1, _⟩ := sm_in H.ok (k + 1) (by omega)
              have hea : smA l (k + 1) = smA l k + x.a := by show _ + (gpAt l k).a = _; rw [hgx]
              refine C_skip_then ?_
              refine C_seq ?_
              refine C_block ?_
              refine C_region ?_
              refine L_q rfl rfl rfl (q_move rfl) ?_
              refine L_q rfl rfl rfl (q_move rfl) ?_
              refine L_q rfl rfl rfl (q_move rfl) ?_
              refine L_q rfl rfl rfl (by first | exact q_index tb rfl rfl rfl rfl (by first | exact gvo | exact gvd gvo (by omega)) (by omega) (by first | omega | (simp; done) | (simp; omega)) | exact q_indexP tb rfl rfl rfl rfl (by omega) (by omega)) ?_
              refine L_q rfl rfl rfl (q_fieldE tb rfl rfl rfl (by first | exact gvo | exact gvd gvo (by omega)) (by first | omega | (simp; done) | (simp; omega))) ?_
              refine L_q rfl rfl rfl (q_loadE tb rfl rfl (by first | exact gvo | exact gvd gvo (by omega)) (i := k) (o := 2) (by omega) hel rfl) ?_
              refine L_q rfl rfl rfl (q_add rfl rfl (by first | exact IntWalk.i64_in _ (by omega) | rfl)) ?_
              refine L_q rfl rfl rfl (q_assign rfl) ?_
              refine L_blk ?_
              refine C_region ?_
              refine L_q rfl rfl rfl (q_move rfl) ?_
              refine L_q rfl rfl rfl (q_add rfl rfl (by first | exact IntWalk.i64_in _ (by omega) | rfl)) ?_
              refine L_q rfl rfl rfl (q_assign rfl) ?_
              refine L_end ?_
              exact fun ac_ wo_ hs_ => ⟨k + 1, (by omega), (by first | omega | (dsimp only; omega)), hs_.weak ⟨rfl, rfl, rfl, rfl, rfl, rfl, rfl, en hea.symm, rfl, trivial⟩ (fun h => h.pk (by repeat (first | with_reducible exact pk_nil | refine pk_box rfl ?_ | refine pk_rd rfl ?_ | refine pk_sl rfl ?_ | with_reducible refine pk_app ?_ | with_reducible refine pk_app0 ?_ | with_reducible refine pk_app0L ?_ | with_reducible exact pk_tl | refine pk_var ?_)))⟩
            · -- t142 False
              obtain rfl : K = k := by omega
              refine C_exit ?_
              change C Tryd.prog _ _ _ _ _ _ _
              refine C_seq ?_
              refine C_region ?_
              refine L_q rfl rfl rfl (q_move rfl) ?_
              refine L_q rfl rfl rfl (q_move rfl) ?_
              refine L_q rfl rfl rfl (q_to tb (k := (K : Int)) rfl rfl rfl rfl (by first | exact gvo | exact gs0 | exact gv1 gvo | exact gv1 (gv1 gvo) | exact gv1 (gv1 (gv1 gvo)) | exact gv1 gs0) (by omega) (by omega)) ?_
              refine L_call tb rfl rfl (ct_MixedE _ (l.take K) (by rw [List.length_take]; omega)) (ps_cons (by rw [List.map_take]; exact gvt (by first | exact gvo | exact gs0 | exact gv1 gvo | exact gv1 (gv1 gvo) | exact gv1 (gv1 (gv1 gvo)) | exact gv1 gs0) (by omega)) no_ps) rfl ?_
              refine L_q rfl rfl rfl (q_move rfl) ?_
              rw [kmc, kmv]
              refine L_q rfl rfl rfl (q_ext0 rfl) ?_
              refine L_q rfl rfl rfl (q_ext1 rfl) ?_
              refine L_alloc tb rfl rfl fun g15 => ?_
              first | refine L_store tb rfl rfl rfl rfl rfl rfl rfl rfl ?_ | (refine L_front1 ?_; refine L_store tb rfl rfl rfl rfl rfl rfl rfl rfl ?_) | (refine L_front2 ?_; refine L_store tb rfl rfl rfl rfl rfl rfl rfl rfl ?_) | (refine L_front3 ?_; refine L_store tb rfl rfl rfl rfl rfl rfl rfl rfl ?_) | (refine L_front4 ?_; refine L_store tb rfl rfl rfl rfl rfl rfl rfl rfl ?_) | (refine L_front5 ?_; refine L_store tb rfl rfl rfl rfl rfl rfl rfl rfl ?_) | (refine L_front6 ?_; refine L_store tb rfl rfl rfl rfl rfl rfl rfl rfl ?_)
              refine L_q rfl rfl rfl (q_assign rfl) ?_
              refine L_then ?_
              refine C_seq ?_
              refine C_seq ?_
              refine C_region ?_
              refine L_q rfl rfl rfl (q_move rfl) ?_
              refine L_q rfl rfl rfl (q_false (q_neq rfl rfl) (decide_eq_false (by omega))) ?_
              refine L_then ?_
              refine C_false rfl ?_
              refine C_skip_then ?_
              refine C_seq ?_
              refine C_draw (n := 14) [(0, false), (1, false), (2, false), (3, false), (4, true), (5, false), (6, false), (7, false), (8, false), (9, false), (10, false), (11, true), (12, false), (13, false)] mixed (by kernel_rfl) ?_
              refine W_q rfl rfl rfl rfl (by first | exact q_index tb rfl rfl rfl rfl (by first | exact gvo | exact gvd gvo (by omega)) (by omega) (by first | omega | (simp; done) | (simp; omega)) | exact q_indexP tb rfl rfl rfl rfl (by omega) (by omega)) ?_
              refine W_q rfl rfl rfl rfl (by first | exact q_loadA tb rfl rfl bxo rfl rfl | exact q_loadEA tb rfl rfl (by first | exact gvo | exact gvd gvo (by omega)) (by omega) (by simp) rfl rfl) ?_
              refine W_q rfl rfl rfl rfl (q_field tb rfl rfl rfl) ?_
              refine W_q rfl rfl rfl rfl (q_load tb rfl rfl bxo rfl) ?_
              refine W_call tb rfl rfl rfl rfl (ct_shotlinebase_Lowest (nrO (l.take K)) 1000 (by omega) (by omega)) no_ps rfl ?_
              refine W_q rfl rfl rfl rfl (q_eqI (p := [mnI (l.take K) 0, mdI (l.take K) 0] = [lwN (nrO (l.take K)) 1000, lwD (nrO (l.take K)) 1000]) (xs := [mnI (l.take K) 0, mdI (l.take K) 0]) (ys := [lwN (nrO (l.take K)) 1000, lwD (nrO (l.take K)) 1000]) eq50 (by omega) eg50 rfl rfl rfl rfl Iff.rfl) ?_
              refine W_q rfl rfl rfl rfl (q_move rfl) ?_
              refine W_dec (d := 167) rfl (fun h167 => ?_) (fun h167 => ?_)
              · -- t167 True
                refine W_qg rfl rfl rfl rfl rfl rfl rfl rfl (by first | exact q_index tb rfl rfl rfl rfl (by first | exact gvo | exact gvd gvo (by omega)) (by omega) (by first | omega | (simp; done) | (simp; omega)) | exact q_indexP tb rfl rfl rfl rfl (by omega) (by omega)) ?_
                refine W_qg rfl rfl rfl rfl rfl rfl rfl rfl (by first | exact q_loadA tb rfl rfl bxo rfl rfl | exact q_loadEA tb rfl rfl (by first | exact gvo | exact gvd gvo (by omega)) (by omega) (by simp) rfl rfl) ?_
                refine W_qg rfl rfl rfl rfl rfl rfl rfl rfl (q_field tb rfl rfl rfl) ?_
                refine W_qg rfl rfl rfl rfl rfl rfl rfl rfl (q_load tb rfl rfl bxo rfl) ?_
                refine W_callg tb rfl rfl rfl rfl rfl rfl rfl rfl (ct_shotlinebase_Lowest (nrH (l.take K)) 1000 (by omega) (by omega)) no_ps rfl ?_
                refine W_qg rfl rfl rfl rfl rfl rfl rfl rfl (q_eqI (p := [mnI (l.take K) 1, mdI (l.take K) 1] = [lwN (nrH (l.take K)) 1000, lwD (nrH (l.take K)) 1000]) (xs := [mnI (l.take K) 1, mdI (l.take K) 1]) (ys := [lwN (nrH (l.take K)) 1000, lwD (nrH (l.take K)) 1000]) eq50 (by omega) eg50 rfl rfl rfl rfl Iff.rfl) ?_
                refine W_q rfl rfl rfl rfl (by first | exact q_pickT rfl rfl | exact q_pickF rfl rfl) ?_
                refine W_nil ?_
                refine L_then ?_
                refine C_dec rfl (fun h174 => ?_) (fun h174 => ?_)
                · -- t174 True
                  have hom := one_mix H Hk hK (by omega) hsA hkA h167 h174
                  refine C_seq ?_
                  refine Kp.C_treeO0 (ι := Nat) (.q 0 (.q 1 (.q 2 (.q 4 (.q 5 (.q 6 (.s2 3 12 (.s2 7 12 (.s2 8 12 (.q 9 (.q 10 (.q 11 (.s 12 (.s 13 (.s 14 .nil)))))) (.s 8 (.q 9 (.q 10 (.q 11 (.s 13 (.s 14 .nil))))))) (.s 7 (.s 8 (.q 9 (.q 10 (.q 11 (.s 13 (.s 14 .nil)))))))) (.s 3 (.s 7 (.s 8 (.q 9 (.q 10 (.q 11 (.s 13 (.s 14 .nil))))))))))))))) (fun q => ([(0, v), (5, .int .i64 ((smA l l.length))), (6, .int .i64 ((smO l l.length))), (7, .int .i64 ((smH l l.length))), (9, .pointer (some ⟨g9, 0, none⟩)), (17, .pointer (some ⟨q, 0, none⟩)), (18, .int .i64 0)], [box q 51 [.int .i64 (mnI l 0), .int .i64 (mdI l 0), .int .i64 (mnI l 1), .int .i64 (mdI l 1), .int .i64 (mnI l 2), .int .i64 (mdI l 2)], box g9 51 [.int .i64 (mnI l 0), .int .i64 (mdI l 0), .int .i64 (mnI l 1), .int .i64 (mdI l 1), .int .i64 (mnI l 2), .int .i64 (mdI l 2)], rd v 3 (l.map cGp)])) mixed (by kernel_rfl) rfl (by kernel_rfl) ?_ ?_
                  · skip
                    refine Kp.Z_q rfl rfl rfl rfl (q_loadA tb rfl rfl bxo rfl rfl) ?_
                    refine Kp.Z_q rfl rfl rfl rfl (q_move rfl) ?_
                    refine Kp.Z_q rfl rfl rfl rfl (by first | exact q_build tb rfl rfl rfl rfl | exact q_buildArr tb rfl rfl rfl rfl rfl) ?_
                    refine Kp.Z_q rfl rfl rfl rfl (q_move rfl) ?_
                    refine Kp.Z_q rfl rfl rfl rfl (q_move rfl) ?_
                    refine Kp.Z_q rfl rfl rfl rfl (q_from tb (k := (K : Int)) rfl rfl rfl rfl (by first | exact gvo | exact gs0 | exact gv1 gvo | exact gv1 (gv1 gvo) | exact gv1 (gv1 (gv1 gvo)) | exact gv1 gs0) (by omega) (by omega)) ?_
                    refine Kp.Z_s2 ?_ ?_
                    · skip
                      refine Kp.St_mk rfl rfl rfl rfl (lo_bslice tb rfl rfl rfl (xs := [cGp ⟨nrO (l.take K), nrH (l.take K), smA l K⟩]) rfl rfl (by simp [cGp]) rfl (by omega) rfl) fun v179 => ?_
                      refine Kp.Z_s2 ?_ ?_
                      · skip
                        first | refine Kp.St_append tb rfl rfl rfl (List.Perm.refl _) rfl rfl rfl (by omega) rfl rfl (l2 := (l.map cGp).drop K) (gvd (by first | exact gvo | exact gs0 | exact gv1 gvo | exact gv1 (gv1 gvo) | exact gv1 (gv1 (gv1 gvo)) | exact gv1 gs0) (by omega)) (by rw [← List.map_drop]; exact one_gp _) (by simp [maxLen]; omega) (by simp; omega) fun v183 => ?_ | refine Kp.St_append tb rfl rfl rfl perm1 rfl rfl rfl (by omega) rfl rfl (l2 := (l.map cGp).drop K) (gvd (by first | exact gvo | exact gs0 | exact gv1 gvo | exact gv1 (gv1 gvo) | exact gv1 (gv1 (gv1 gvo)) | exact gv1 gs0) (by omega)) (by rw [← List.map_drop]; exact one_gp _) (by simp [maxLen]; omega) (by simp; omega) fun v183 => ?_ | refine Kp.St_append tb rfl rfl rfl Kp.perm2 rfl rfl rfl (by omega) rfl rfl (l2 := (l.map cGp).drop K) (gvd (by first | exact gvo | exact gs0 | exact gv1 gvo | exact gv1 (gv1 gvo) | exact gv1 (gv1 (gv1 gvo)) | exact gv1 gs0) (by omega)) (by rw [← List.map_drop]; exact one_gp _) (by simp [maxLen]; omega) (by simp; omega) fun v183 => ?_ | refine Kp.St_append tb rfl rfl rfl Kp.perm3 rfl rfl rfl (by omega) rfl rfl (l2 := (l.map cGp).drop K) (gvd (by first | exact gvo | exact gs0 | exact gv1 gvo | exact gv1 (gv1 gvo) | exact gv1 (gv1 (gv1 gvo)) | exact gv1 gs0) (by omega)) (by rw [← List.map_drop]; exact one_gp _) (by simp [maxLen]; omega) (by simp; omega) fun v183 => ?_ | refine Kp.St_append tb rfl rfl rfl (perm_front (pre := [_, _])) rfl rfl rfl (by omega) rfl rfl (l2 := (l.map cGp).drop K) (gvd (by first | exact gvo | exact gs0 | exact gv1 gvo | exact gv1 (gv1 gvo) | exact gv1 (gv1 (gv1 gvo)) | exact gv1 gs0) (by omega)) (by rw [← List.map_drop]; exact one_gp _) (by simp [maxLen]; omega) (by simp; omega) fun v183 => ?_ | refine Kp.St_append tb rfl rfl rfl (perm_front (pre := [_, _, _])) rfl rfl rfl (by omega) rfl rfl (l2 := (l.map cGp).drop K) (gvd (by first | exact gvo | exact gs0 | exact gv1 gvo | exact gv1 (gv1 gvo) | exact gv1 (gv1 (gv1 gvo)) | exact gv1 gs0) (by omega)) (by rw [← List.map_drop]; exact one_gp _) (by simp [maxLen]; omega) (by simp; omega) fun v183 => ?_ | refine Kp.St_append tb rfl rfl rfl (perm_front (pre := [_, _, _, _])) rfl rfl rfl (by omega) rfl rfl (l2 := (l.map cGp).drop K) (gvd (by first | exact gvo | exact gs0 | exact gv1 gvo | exact gv1 (gv1 gvo) | exact gv1 (gv1 (gv1 gvo)) | exact gv1 gs0) (by omega)) (by rw [← List.map_drop]; exact one_gp _) (by simp [maxLen]; omega) (by simp; omega) fun v183 => ?_
                        refine Kp.Z_s2 ?_ ?_
                        · skip
                          refine Kp.St_call tb rfl rfl rfl rfl (ct_MixedE _ (asOne l K) (by rw [one_len hK]; omega)) (ps_cons (by rw [← List.map_drop]; exact (by first | exact gvo | exact gs0 | exact gv1 gvo | exact gv1 (gv1 gvo) | exact gv1 (gv1 (gv1 gvo)) | exact gv1 gs0)) no_ps) rfl ?_
                          refine Kp.Z_q rfl rfl rfl rfl (q_move rfl) ?_
                          rw [hom.1, hom.2, hmv]
                          refine Kp.Z_q rfl rfl rfl rfl (q_ext0 rfl) ?_
                          refine Kp.Z_q rfl rfl rfl rfl (q_ext1 rfl) ?_
                          refine Kp.Z_s ?_
                          refine Kp.St_alloc tb rfl rfl rfl rfl fun g17 => ?_
                          refine Kp.Z_s ?_
                          first | refine Kp.St_store tb rfl rfl (List.Perm.refl _) rfl rfl rfl rfl rfl rfl rfl rfl ?_ | refine Kp.St_store tb rfl rfl perm1 rfl rfl rfl rfl rfl rfl rfl rfl ?_ | refine Kp.St_store tb rfl rfl Kp.perm2 rfl rfl rfl rfl rfl rfl rfl rfl ?_ | refine Kp.St_store tb rfl rfl Kp.perm3 rfl rfl rfl rfl rfl rfl rfl rfl ?_ | refine Kp.St_store tb rfl rfl (perm_front (pre := [_, _])) rfl rfl rfl rfl rfl rfl rfl rfl ?_ | refine Kp.St_store tb rfl rfl (perm_front (pre := [_, _, _])) rfl rfl rfl rfl rfl rfl rfl rfl ?_ | refine Kp.St_store tb rfl rfl (perm_front (pre := [_, _, _, _])) rfl rfl rfl rfl rfl rfl rfl rfl ?_
                          refine Kp.Z_s ?_
                          refine Kp.St_q rfl rfl rfl rfl (q_assign rfl) ?_
                          refine Kp.Z_nil ?_
                          try dsimp only [List.append, List.cons_append, List.nil_append]
                          exact ⟨g17, fun a_ w_ hs_ => hs_.weak ⟨rfl, rfl, rfl, rfl, rfl, rfl, rfl, trivial⟩ (fun h => h.pk (by repeat (first | with_reducible exact pk_nil | refine pk_box rfl ?_ | refine pk_rd rfl ?_ | refine pk_sl rfl ?_ | with_reducible refine pk_app ?_ | with_reducible refine pk_app0 ?_ | with_reducible refine pk_app0L ?_ | with_reducible exact pk_tl | refine pk_var ?_)))⟩
                        · skip
                          refine Kp.St_alloc tb rfl rfl rfl rfl fun g17 => ?_
                          refine Kp.Z_s ?_
                          refine Kp.St_call tb rfl rfl rfl rfl (ct_MixedE _ (asOne l K) (by rw [one_len hK]; omega)) (ps_cons (by rw [← List.map_drop]; exact (by first | exact gvo | exact gs0 | exact gv1 gvo | exact gv1 (gv1 gvo) | exact gv1 (gv1 (gv1 gvo)) | exact gv1 gs0)) no_ps) rfl ?_
                          refine Kp.Z_q rfl rfl rfl rfl (q_move rfl) ?_
                          rw [hom.1, hom.2, hmv]
                          refine Kp.Z_q rfl rfl rfl rfl (q_ext0 rfl) ?_
                          refine Kp.Z_q rfl rfl rfl rfl (q_ext1 rfl) ?_
                          refine Kp.Z_s ?_
                          first | refine Kp.St_store tb rfl rfl (List.Perm.refl _) rfl rfl rfl rfl rfl rfl rfl rfl ?_ | refine Kp.St_store tb rfl rfl perm1 rfl rfl rfl rfl rfl rfl rfl rfl ?_ | refine Kp.St_store tb rfl rfl Kp.perm2 rfl rfl rfl rfl rfl rfl rfl rfl ?_ | refine Kp.St_store tb rfl rfl Kp.perm3 rfl rfl rfl rfl rfl rfl rfl rfl ?_ | refine Kp.St_store tb rfl rfl (perm_front (pre := [_, _])) rfl rfl rfl rfl rfl rfl rfl rfl ?_ | refine Kp.St_store tb rfl rfl (perm_front (pre := [_, _, _])) rfl rfl rfl rfl rfl rfl rfl rfl ?_ | refine Kp.St_store tb rfl rfl (perm_front (pre := [_, _, _, _])) rfl rfl rfl rfl rfl rfl rfl rfl ?_
                          refine Kp.Z_s ?_
                          refine Kp.St_q rfl rfl rfl rfl (q_assign rfl) ?_
                          refine Kp.Z_nil ?_
                          try dsimp only [List.append, List.cons_append, List.nil_append]
                          exact ⟨g17, fun a_ w_ hs_ => hs_.weak ⟨rfl, rfl, rfl, rfl, rfl, rfl, rfl, trivial⟩ (fun h => h.pk (by repeat (first | with_reducible exact pk_nil | refine pk_box rfl ?_ | refine pk_rd rfl ?_ | refine pk_sl rfl ?_ | with_reducible refine pk_app ?_ | with_reducible refine pk_app0 ?_ | with_reducible refine pk_app0L ?_ | with_reducible exact pk_tl | refine pk_var ?_)))⟩
                      · skip
                        refine Kp.St_alloc tb rfl rfl rfl rfl fun g17 => ?_
                        refine Kp.Z_s ?_
                        first | refine Kp.St_append tb rfl rfl rfl (List.Perm.refl _) rfl rfl rfl (by omega) rfl rfl (l2 := (l.map cGp).drop K) (gvd (by first | exact gvo | exact gs0 | exact gv1 gvo | exact gv1 (gv1 gvo) | exact gv1 (gv1 (gv1 gvo)) | exact gv1 gs0) (by omega)) (by rw [← List.map_drop]; exact one_gp _) (by simp [maxLen]; omega) (by simp; omega) fun v183 => ?_ | refine Kp.St_append tb rfl rfl rfl perm1 rfl rfl rfl (by omega) rfl rfl (l2 := (l.map cGp).drop K) (gvd (by first | exact gvo | exact gs0 | exact gv1 gvo | exact gv1 (gv1 gvo) | exact gv1 (gv1 (gv1 gvo)) | exact gv1 gs0) (by omega)) (by rw [← List.map_drop]; exact one_gp _) (by simp [maxLen]; omega) (by simp; omega) fun v183 => ?_ | refine Kp.St_append tb rfl rfl rfl Kp.perm2 rfl rfl rfl (by omega) rfl rfl (l2 := (l.map cGp).drop K) (gvd (by first | exact gvo | exact gs0 | exact gv1 gvo | exact gv1 (gv1 gvo) | exact gv1 (gv1 (gv1 gvo)) | exact gv1 gs0) (by omega)) (by rw [← List.map_drop]; exact one_gp _) (by simp [maxLen]; omega) (by simp; omega) fun v183 => ?_ | refine Kp.St_append tb rfl rfl rfl Kp.perm3 rfl rfl rfl (by omega) rfl rfl (l2 := (l.map cGp).drop K) (gvd (by first | exact gvo | exact gs0 | exact gv1 gvo | exact gv1 (gv1 gvo) | exact gv1 (gv1 (gv1 gvo)) | exact gv1 gs0) (by omega)) (by rw [← List.map_drop]; exact one_gp _) (by simp [maxLen]; omega) (by simp; omega) fun v183 => ?_ | refine Kp.St_append tb rfl rfl rfl (perm_front (pre := [_, _])) rfl rfl rfl (by omega) rfl rfl (l2 := (l.map cGp).drop K) (gvd (by first | exact gvo | exact gs0 | exact gv1 gvo | exact gv1 (gv1 gvo) | exact gv1 (gv1 (gv1 gvo)) | exact gv1 gs0) (by omega)) (by rw [← List.map_drop]; exact one_gp _) (by simp [maxLen]; omega) (by simp; omega) fun v183 => ?_ | refine Kp.St_append tb rfl rfl rfl (perm_front (pre := [_, _, _])) rfl rfl rfl (by omega) rfl rfl (l2 := (l.map cGp).drop K) (gvd (by first | exact gvo | exact gs0 | exact gv1 gvo | exact gv1 (gv1 gvo) | exact gv1 (gv1 (gv1 gvo)) | exact gv1 gs0) (by omega)) (by rw [← List.map_drop]; exact one_gp _) (by simp [maxLen]; omega) (by simp; omega) fun v183 => ?_ | refine Kp.St_append tb rfl rfl rfl (perm_front (pre := [_, _, _, _])) rfl rfl rfl (by omega) rfl rfl (l2 := (l.map cGp).drop K) (gvd (by first | exact gvo | exact gs0 | exact gv1 gvo | exact gv1 (gv1 gvo) | exact gv1 (gv1 (gv1 gvo)) | exact gv1 gs0) (by omega)) (by rw [← List.map_drop]; exact one_gp _) (by simp [maxLen]; omega) (by simp; omega) fun v183 => ?_
                        refine Kp.Z_s ?_
                        refine Kp.St_call tb rfl rfl rfl rfl (ct_MixedE _ (asOne l K) (by rw [one_len hK]; omega)) (ps_cons (by rw [← List.map_drop]; exact (by first | exact gvo | exact gs0 | exact gv1 gvo | exact gv1 (gv1 gvo) | exact gv1 (gv1 (gv1 gvo)) | exact gv1 gs0)) no_ps) rfl ?_
                        refine Kp.Z_q rfl rfl rfl rfl (q_move rfl) ?_
                        rw [hom.1, hom.2, hmv]
                        refine Kp.Z_q rfl rfl rfl rfl (q_ext0 rfl) ?_
                        refine Kp.Z_q rfl rfl rfl rfl (q_ext1 rfl) ?_
                        refine Kp.Z_s ?_
                        first | refine Kp.St_store tb rfl rfl (List.Perm.refl _) rfl rfl rfl rfl rfl rfl rfl rfl ?_ | refine Kp.St_store tb rfl rfl perm1 rfl rfl rfl rfl rfl rfl rfl rfl ?_ | refine Kp.St_store tb rfl rfl Kp.perm2 rfl rfl rfl rfl rfl rfl rfl rfl ?_ | refine Kp.St_store tb rfl rfl Kp.perm3 rfl rfl rfl rfl rfl rfl rfl rfl ?_ | refine Kp.St_store tb rfl rfl (perm_front (pre := [_, _])) rfl rfl rfl rfl rfl rfl rfl rfl ?_ | refine Kp.St_store tb rfl rfl (perm_front (pre := [_, _, _])) rfl rfl rfl rfl rfl rfl rfl rfl ?_ | refine Kp.St_store tb rfl rfl (perm_front (pre := [_, _, _, _])) rfl rfl rfl rfl rfl rfl rfl rfl ?_
                        refine Kp.Z_s ?_
                        refine Kp.St_q rfl rfl rfl rfl (q_assign rfl) ?_
                        refine Kp.Z_nil ?_
                        try dsimp only [List.append, List.cons_append, List.nil_append]
                        exact ⟨g17, fun a_ w_ hs_ => hs_.weak ⟨rfl, rfl, rfl, rfl, rfl, rfl, rfl, trivial⟩ (fun h => h.pk (by repeat (first | with_reducible exact pk_nil | refine pk_box rfl ?_ | refine pk_rd rfl ?_ | refine pk_sl rfl ?_ | with_reducible refine pk_app ?_ | with_reducible refine pk_app0 ?_ | with_reducible refine pk_app0L ?_ | with_reducible exact pk_tl | refine pk_var ?_)))⟩
                    · skip
                      refine Kp.St_alloc tb rfl rfl rfl rfl fun g17 => ?_
                      refine Kp.Z_s ?_
                      refine Kp.St_mk rfl rfl rfl rfl (lo_bslice tb rfl rfl rfl (xs := [cGp ⟨nrO (l.take K), nrH (l.take K), smA l K⟩]) rfl rfl (by simp [cGp]) rfl (by omega) rfl) fun v179 => ?_
                      refine Kp.Z_s ?_
                      first | refine Kp.St_append tb rfl rfl rfl (List.Perm.refl _) rfl rfl rfl (by omega) rfl rfl (l2 := (l.map cGp).drop K) (gvd (by first | exact gvo | exact gs0 | exact gv1 gvo | exact gv1 (gv1 gvo) | exact gv1 (gv1 (gv1 gvo)) | exact gv1 gs0) (by omega)) (by rw [← List.map_drop]; exact one_gp _) (by simp [maxLen]; omega) (by simp; omega) fun v183 => ?_ | refine Kp.St_append tb rfl rfl rfl perm1 rfl rfl rfl (by omega) rfl rfl (l2 := (l.map cGp).drop K) (gvd (by first | exact gvo | exact gs0 | exact gv1 gvo | exact gv1 (gv1 gvo) | exact gv1 (gv1 (gv1 gvo)) | exact gv1 gs0) (by omega)) (by rw [← List.map_drop]; exact one_gp _) (by simp [maxLen]; omega) (by simp; omega) fun v183 => ?_ | refine Kp.St_append tb rfl rfl rfl Kp.perm2 rfl rfl rfl (by omega) rfl rfl (l2 := (l.map cGp).drop K) (gvd (by first | exact gvo | exact gs0 | exact gv1 gvo | exact gv1 (gv1 gvo) | exact gv1 (gv1 (gv1 gvo)) | exact gv1 gs0) (by omega)) (by rw [← List.map_drop]; exact one_gp _) (by simp [maxLen]; omega) (by simp; omega) fun v183 => ?_ | refine Kp.St_append tb rfl rfl rfl Kp.perm3 rfl rfl rfl (by omega) rfl rfl (l2 := (l.map cGp).drop K) (gvd (by first | exact gvo | exact gs0 | exact gv1 gvo | exact gv1 (gv1 gvo) | exact gv1 (gv1 (gv1 gvo)) | exact gv1 gs0) (by omega)) (by rw [← List.map_drop]; exact one_gp _) (by simp [maxLen]; omega) (by simp; omega) fun v183 => ?_ | refine Kp.St_append tb rfl rfl rfl (perm_front (pre := [_, _])) rfl rfl rfl (by omega) rfl rfl (l2 := (l.map cGp).drop K) (gvd (by first | exact gvo | exact gs0 | exact gv1 gvo | exact gv1 (gv1 gvo) | exact gv1 (gv1 (gv1 gvo)) | exact gv1 gs0) (by omega)) (by rw [← List.map_drop]; exact one_gp _) (by simp [maxLen]; omega) (by simp; omega) fun v183 => ?_ | refine Kp.St_append tb rfl rfl rfl (perm_front (pre := [_, _, _])) rfl rfl rfl (by omega) rfl rfl (l2 := (l.map cGp).drop K) (gvd (by first | exact gvo | exact gs0 | exact gv1 gvo | exact gv1 (gv1 gvo) | exact gv1 (gv1 (gv1 gvo)) | exact gv1 gs0) (by omega)) (by rw [← List.map_drop]; exact one_gp _) (by simp [maxLen]; omega) (by simp; omega) fun v183 => ?_ | refine Kp.St_append tb rfl rfl rfl (perm_front (pre := [_, _, _, _])) rfl rfl rfl (by omega) rfl rfl (l2 := (l.map cGp).drop K) (gvd (by first | exact gvo | exact gs0 | exact gv1 gvo | exact gv1 (gv1 gvo) | exact gv1 (gv1 (gv1 gvo)) | exact gv1 gs0) (by omega)) (by rw [← List.map_drop]; exact one_gp _) (by simp [maxLen]; omega) (by simp; omega) fun v183 => ?_
                      refine Kp.Z_s ?_
                      refine Kp.St_call tb rfl rfl rfl rfl (ct_MixedE _ (asOne l K) (by rw [one_len hK]; omega)) (ps_cons (by rw [← List.map_drop]; exact (by first | exact gvo | exact gs0 | exact gv1 gvo | exact gv1 (gv1 gvo) | exact gv1 (gv1 (gv1 gvo)) | exact gv1 gs0)) no_ps) rfl ?_
                      refine Kp.Z_q rfl rfl rfl rfl (q_move rfl) ?_
                      rw [hom.1, hom.2, hmv]
                      refine Kp.Z_q rfl rfl rfl rfl (q_ext0 rfl) ?_
                      refine Kp.Z_q rfl rfl rfl rfl (q_ext1 rfl) ?_
                      refine Kp.Z_s ?_
                      first | refine Kp.St_store tb rfl rfl (List.Perm.refl _) rfl rfl rfl rfl rfl rfl rfl rfl ?_ | refine Kp.St_store tb rfl rfl perm1 rfl rfl rfl rfl rfl rfl rfl rfl ?_ | refine Kp.St_store tb rfl rfl Kp.perm2 rfl rfl rfl rfl rfl rfl rfl rfl ?_ | refine Kp.St_store tb rfl rfl Kp.perm3 rfl rfl rfl rfl rfl rfl rfl rfl ?_ | refine Kp.St_store tb rfl rfl (perm_front (pre := [_, _])) rfl rfl rfl rfl rfl rfl rfl rfl ?_ | refine Kp.St_store tb rfl rfl (perm_front (pre := [_, _, _])) rfl rfl rfl rfl rfl rfl rfl rfl ?_ | refine Kp.St_store tb rfl rfl (perm_front (pre := [_, _, _, _])) rfl rfl rfl rfl rfl rfl rfl rfl ?_
                      refine Kp.Z_s ?_
                      refine Kp.St_q rfl rfl rfl rfl (q_assign rfl) ?_
                      refine Kp.Z_nil ?_
                      try dsimp only [List.append, List.cons_append, List.nil_append]
                      exact ⟨g17, fun a_ w_ hs_ => hs_.weak ⟨rfl, rfl, rfl, rfl, rfl, rfl, rfl, trivial⟩ (fun h => h.pk (by repeat (first | with_reducible exact pk_nil | refine pk_box rfl ?_ | refine pk_rd rfl ?_ | refine pk_sl rfl ?_ | with_reducible refine pk_app ?_ | with_reducible refine pk_app0 ?_ | with_reducible refine pk_app0L ?_ | with_reducible exact pk_tl | refine pk_var ?_)))⟩
                  · skip
                    intro g17
                    refine L_then ?_
                    refine C_seq ?_
                    refine C_region ?_
                    refine L_q rfl rfl rfl (q_move rfl) ?_
                    refine L_q rfl rfl rfl (q_false (q_neq rfl rfl) (decide_eq_false (by omega))) ?_
                    refine L_q rfl rfl rfl (q_move rfl) ?_
                    refine L_qg rfl rfl rfl rfl rfl rfl rfl (q_loadA tb rfl rfl bxo rfl rfl) ?_
                    refine L_qg rfl rfl rfl rfl rfl rfl rfl (q_loadA tb rfl rfl bxo rfl rfl) ?_
                    refine L_qg rfl rfl rfl rfl rfl rfl rfl (q_false (q_neI (p := [mnI l 0, mdI l 0, mnI l 1, mdI l 1, mnI l 2, mdI l 2] = [mnI l 0, mdI l 0, mnI l 1, mdI l 1, mnI l 2, mdI l 2]) (xs := [mnI l 0, mdI l 0, mnI l 1, mdI l 1, mnI l 2, mdI l 2]) (ys := [mnI l 0, mdI l 0, mnI l 1, mdI l 1, mnI l 2, mdI l 2]) eq51 (by omega) eg51 rfl rfl rfl rfl Iff.rfl) (decide_eq_false (fun h => h rfl))) ?_
                    refine L_q rfl rfl rfl (by first | exact q_pickT rfl rfl | exact q_pickF rfl rfl) ?_
                    refine L_then ?_
                    refine C_false rfl ?_
                    refine C_skip ?_
                    exact fun ac_ wo_ hs_ => ⟨(), trivial, hs_.weak ⟨rfl, rfl, rfl, rfl, trivial⟩ (fun h => h.pk (by repeat (first | with_reducible exact pk_nil | refine pk_box rfl ?_ | refine pk_rd rfl ?_ | refine pk_sl rfl ?_ | with_reducible refine pk_app ?_ | with_reducible refine pk_app0 ?_ | with_reducible refine pk_app0L ?_ | with_reducible exact pk_tl | refine pk_var ?_)))⟩
                · -- t174 False
                  refine C_skip ?_
                  exact fun ac_ wo_ hs_ => ⟨(), trivial, hs_.weak ⟨rfl, rfl, rfl, rfl, trivial⟩ (fun h => h.pk (by repeat (first | with_reducible exact pk_nil | refine pk_box rfl ?_ | refine pk_rd rfl ?_ | refine pk_sl rfl ?_ | with_reducible refine pk_app ?_ | with_reducible refine pk_app0 ?_ | with_reducible refine pk_app0L ?_ | with_reducible exact pk_tl | refine pk_var ?_)))⟩
              · -- t167 False
                refine W_skip rfl rfl rfl rfl rfl rfl rfl rfl ?_
                refine W_skip rfl rfl rfl rfl rfl rfl rfl rfl ?_
                refine W_skip rfl rfl rfl rfl rfl rfl rfl rfl ?_
                refine W_skip rfl rfl rfl rfl rfl rfl rfl rfl ?_
                refine W_skipl rfl rfl rfl rfl rfl rfl rfl rfl ?_
                refine W_skip rfl rfl rfl rfl rfl rfl rfl rfl ?_
                refine W_q rfl rfl rfl rfl (by first | exact q_pickT rfl rfl | exact q_pickF rfl rfl) ?_
                refine W_nil ?_
                refine L_then ?_
                refine C_false rfl ?_
                refine C_skip ?_
                exact fun ac_ wo_ hs_ => ⟨(), trivial, hs_.weak ⟨rfl, rfl, rfl, rfl, trivial⟩ (fun h => h.pk (by repeat (first | with_reducible exact pk_nil | refine pk_box rfl ?_ | refine pk_rd rfl ?_ | refine pk_sl rfl ?_ | with_reducible refine pk_app ?_ | with_reducible refine pk_app0 ?_ | with_reducible refine pk_app0L ?_ | with_reducible exact pk_tl | refine pk_var ?_)))⟩
          · -- t135 False
            refine C_skip ?_
            exact fun ac_ wo_ hs_ => ⟨(), trivial, hs_.weak ⟨rfl, rfl, rfl, rfl, trivial⟩ (fun h => h.pk (by repeat (first | with_reducible exact pk_nil | refine pk_box rfl ?_ | refine pk_rd rfl ?_ | refine pk_sl rfl ?_ | with_reducible refine pk_app ?_ | with_reducible refine pk_app0 ?_ | with_reducible refine pk_app0L ?_ | with_reducible exact pk_tl | refine pk_var ?_)))⟩
        · -- behind
          intro _ _
          refine C_seq ?_
          refine C_region ?_
          refine L_q rfl rfl rfl (q_move rfl) ?_
          refine L_call tb rfl rfl (ct_NearestE v l (by omega)) (ps_cons (by first | exact gvo | exact gvd gvo (by omega)) no_ps) rfl ?_
          refine L_q rfl rfl rfl (q_move rfl) ?_
          rw [nrV_2 hz, hz]
          obtain ⟨r1, r2, r3⟩ := nr_in H; have hgk := ckGas_ok r3; have hnl := nm_len (g := ⟨nrO l, nrH l⟩) r3
          obtain ⟨rh1, rh2, rh3⟩ := nr_half H
          refine L_q rfl rfl rfl (q_ext0 rfl) ?_
          refine L_q rfl rfl rfl (q_ext1 rfl) ?_
          refine L_alloc tb rfl rfl fun g19 => ?_
          first | refine L_store tb rfl rfl rfl rfl rfl rfl rfl rfl ?_ | (refine L_front1 ?_; refine L_store tb rfl rfl rfl rfl rfl rfl rfl rfl ?_) | (refine L_front2 ?_; refine L_store tb rfl rfl rfl rfl rfl rfl rfl rfl ?_) | (refine L_front3 ?_; refine L_store tb rfl rfl rfl rfl rfl rfl rfl rfl ?_) | (refine L_front4 ?_; refine L_store tb rfl rfl rfl rfl rfl rfl rfl rfl ?_) | (refine L_front5 ?_; refine L_store tb rfl rfl rfl rfl rfl rfl rfl rfl ?_) | (refine L_front6 ?_; refine L_store tb rfl rfl rfl rfl rfl rfl rfl rfl ?_)
          refine L_q rfl rfl rfl (q_assign rfl) ?_
          refine L_then ?_
          refine C_seq ?_
          refine C_region ?_
          refine L_q rfl rfl rfl (q_loadA tb rfl rfl bxo rfl rfl) ?_
          refine L_lo rfl rfl rfl (lo_callQ tb stQ hQ rfl rfl (ct_FormatQ ⟨nrO l, nrH l⟩) no_ps isV_sinks) ?_
          rintro _ _ ⟨rfl, rfl⟩
          refine L_q rfl rfl rfl (q_move rfl) ?_
          rw [if_pos (show ckGas (⟨nrO l, nrH l⟩ : Gs).o (⟨nrO l, nrH l⟩ : Gs).h = 0 from r3), show ckGas (⟨nrO l, nrH l⟩ : Gs).o (⟨nrO l, nrH l⟩ : Gs).h = 0 from r3]
          refine L_q rfl rfl rfl (q_ext0 rfl) ?_
          refine L_q rfl rfl rfl (q_ext1 rfl) ?_
          refine L_q rfl rfl rfl (q_assign rfl) ?_
          refine L_q rfl rfl rfl (q_assign rfl) ?_
          refine L_then ?_
          refine C_seq ?_
          refine C_region ?_
          refine L_q rfl rfl rfl (q_move rfl) ?_
          refine L_lo rfl rfl rfl (lo_callQ tb stQ hQ rfl rfl (ct_ParseQ (nmL ⟨nrO l, nrH l⟩) (by omega)) no_ps isV_sinks) ?_
          rintro _ _ ⟨rfl, rfl⟩
          refine L_q rfl rfl rfl (q_move rfl) ?_
          rw [pr_name (g := ⟨nrO l, nrH l⟩) r3]; dsimp only
          refine L_q rfl rfl rfl (q_ext0 rfl) ?_
          refine L_q rfl rfl rfl (q_ext1 rfl) ?_
          refine L_alloc tb rfl rfl fun g22 => ?_
          first | refine L_store tb rfl rfl rfl rfl rfl rfl rfl rfl ?_ | (refine L_front1 ?_; refine L_store tb rfl rfl rfl rfl rfl rfl rfl rfl ?_) | (refine L_front2 ?_; refine L_store tb rfl rfl rfl rfl rfl rfl rfl rfl ?_) | (refine L_front3 ?_; refine L_store tb rfl rfl rfl rfl rfl rfl rfl rfl ?_) | (refine L_front4 ?_; refine L_store tb rfl rfl rfl rfl rfl rfl rfl rfl ?_) | (refine L_front5 ?_; refine L_store tb rfl rfl rfl rfl rfl rfl rfl rfl ?_) | (refine L_front6 ?_; refine L_store tb rfl rfl rfl rfl rfl rfl rfl rfl ?_)
          refine L_q rfl rfl rfl (q_assign rfl) ?_
          refine L_then ?_
          refine C_seq ?_
          refine C_seq ?_
          refine C_region ?_
          refine L_q rfl rfl rfl (q_move rfl) ?_
          refine L_q rfl rfl rfl (q_false (q_neq rfl rfl) (decide_eq_false (by omega))) ?_
          refine L_q rfl rfl rfl (q_move rfl) ?_
          refine L_qg rfl rfl rfl rfl rfl rfl rfl (q_move rfl) ?_
          refine L_qg rfl rfl rfl rfl rfl rfl rfl (q_false (q_neq rfl rfl) (decide_eq_false (by omega))) ?_
          refine L_q rfl rfl rfl (by first | exact q_pickT rfl rfl | exact q_pickF rfl rfl) ?_
          refine L_q rfl rfl rfl (q_move rfl) ?_
          refine L_qg rfl rfl rfl rfl rfl rfl rfl (q_move rfl) ?_
          refine L_qg rfl rfl rfl rfl rfl rfl rfl (q_false (q_neq rfl rfl) (decide_eq_false (by omega))) ?_
          refine L_q rfl rfl rfl (by first | exact q_pickT rfl rfl | exact q_pickF rfl rfl) ?_
          refine L_q rfl rfl rfl (q_move rfl) ?_
          refine L_qg rfl rfl rfl rfl rfl rfl rfl (q_loadA tb rfl rfl bxo rfl rfl) ?_
          refine L_qg rfl rfl rfl rfl rfl rfl rfl (q_loadA tb rfl rfl bxo rfl rfl) ?_
          refine L_qg rfl rfl rfl rfl rfl rfl rfl (q_false (q_neI (p := [nrO l, nrH l] = [nrO l, nrH l]) (xs := [nrO l, nrH l]) (ys := [nrO l, nrH l]) eq23 (by omega) eg23 rfl rfl rfl rfl Iff.rfl) (decide_eq_false (fun h => h rfl))) ?_
          refine L_q rfl rfl rfl (by first | exact q_pickT rfl rfl | exact q_pickF rfl rfl) ?_
          refine L_q rfl rfl rfl (q_move rfl) ?_
          refine L_qg rfl rfl rfl rfl rfl rfl rfl (q_loadA tb rfl rfl bxo rfl rfl) ?_
          refine L_callg tb rfl rfl rfl rfl rfl rfl (ct_shotlineref01_CheckGas (nrO l) (nrH l)) no_ps rfl ?_
          refine L_qg rfl rfl rfl rfl rfl rfl rfl (q_false (q_neq rfl rfl) (decide_eq_false (fun h => h r3))) ?_
          refine L_q rfl rfl rfl (by first | exact q_pickT rfl rfl | exact q_pickF rfl rfl) ?_
          refine L_q rfl rfl rfl (q_move rfl) ?_
          refine L_qg rfl rfl rfl rfl rfl rfl rfl (q_field tb rfl rfl rfl) ?_
          refine L_qg rfl rfl rfl rfl rfl rfl rfl (q_load tb rfl rfl bxo rfl) ?_
          refine L_qg rfl rfl rfl rfl rfl rfl rfl (q_move rfl) ?_
          refine L_qg rfl rfl rfl rfl rfl rfl rfl (q_mul rfl rfl (by first | exact IntWalk.i64_in _ (by omega) | rfl)) ?_
          refine L_qg rfl rfl rfl rfl rfl rfl rfl (q_move rfl) ?_
          refine L_qg rfl rfl rfl rfl rfl rfl rfl (q_sub rfl rfl (by first | exact IntWalk.i64_in _ (by omega) | rfl)) ?_
          refine L_qg rfl rfl rfl rfl rfl rfl rfl (q_mul rfl rfl (by first | exact IntWalk.i64_in _ (by omega) | rfl)) ?_
          refine L_callg tb rfl rfl rfl rfl rfl rfl (ct_SizeT (2 * (nrO l * smA l l.length - smO l l.length)) (by omega)) no_ps rfl ?_
          refine L_qg rfl rfl rfl rfl rfl rfl rfl (q_move rfl) ?_
          refine L_qg rfl rfl rfl rfl rfl rfl rfl (q_false (q_gtr rfl rfl) (decide_eq_false (by omega))) ?_
          refine L_q rfl rfl rfl (by first | exact q_pickT rfl rfl | exact q_pickF rfl rfl) ?_
          refine L_then ?_
          refine C_false rfl ?_
          refine C_skip_then ?_
          refine C_seq ?_
          refine C_region ?_
          refine L_q rfl rfl rfl (q_assign rfl) ?_
          refine L_q rfl rfl rfl (q_assign rfl) ?_
          refine L_then ?_
          refine C_seq ?_
          refine C_seq ?_
          refine C_region ?_
          refine L_q rfl rfl rfl (q_assign rfl) ?_
          refine L_then ?_
          refine C_block ?_
          refine C_loop (ι := Nat) (fun k => ([(0, v), (5, .int .i64 ((smA l l.length))), (6, .int .i64 ((smO l l.length))), (7, .int .i64 ((smH l l.length))), (24, .int .i64 ((lwS l k))), (25, .int .i64 ((hwS l k))), (26, .int .i64 (k : Int))], [rd v 3 (l.map cGp)])) (fun k => k ≤ l.length) (fun k => l.length - k) 0 (Nat.zero_le _) (fun a w hs => hs.weak ⟨rfl, rfl, rfl, rfl, rfl, rfl, rfl, trivial⟩ (fun h => h.pk (by repeat (first | with_reducible exact pk_nil | refine pk_box rfl ?_ | refine pk_rd rfl ?_ | refine pk_sl rfl ?_ | with_reducible refine pk_app ?_ | with_reducible refine pk_app0 ?_ | with_reducible refine pk_app0L ?_ | with_reducible exact pk_tl | refine pk_var ?_)))) ?_
          intro k hk
          dsimp only at hk ⊢
          refine C_seq ?_
          refine C_seq ?_
          refine C_region ?_
          refine L_q rfl rfl rfl (q_move rfl) ?_
          refine L_q rfl rfl rfl (q_move rfl) ?_
          refine L_q rfl rfl rfl (q_len tb rfl rfl (by first | exact gvo | exact gvd gvo (by omega))) ?_
          refine L_q rfl rfl rfl (q_lss rfl rfl) ?_
          refine L_then ?_
          refine C_dec rfl (fun h16 => ?_) (fun h16 => ?_)
          · -- t244 True
            obtain ⟨x, hx⟩ := get_some l (k := k) (by omega); have hel := map_get cGp hx; have hgx := gpAt_get hx; obtain ⟨hxg, hx0, hx1⟩ := H.ok x (List.mem_of_getElem? hx); have hxk := ckGas_ok hxg
            have hla := hlow k (by omega)
            rw [hgx] at hla
            obtain ⟨w1, w2, w3, w4⟩ := w_in hxg ⟨hx0, hla⟩
            obtain ⟨z1, z2, _⟩ := ws_in H.ok hlow k (by omega)
            have hwe : wHi x = upZ (wgM ⟨x.o, x.h⟩ * x.a) 1013000 := rfl; have hwl : wLo x = wgM ⟨x.o, x.h⟩ * x.a / 1013000 := rfl
            have hwc : wgtC ⟨x.o, x.h⟩ x.a 1000000000 = 0 := by unfold wgtC; rw [if_pos hxg, if_pos (by omega)]
            refine C_skip_then ?_
            refine C_seq ?_
            refine C_block ?_
            refine C_seq ?_
            refine C_wideF1 tb (k := 14) [(0, false), (1, false), (2, false), (3, false), (4, false), (5, false), (6, false), (7, false), (8, false), (9, false), (10, true), (11, false), (12, false), (13, false)] [.s 15, .q 16] mixed (by kernel_rfl) rfl rfl rfl rfl (by kernel_rfl) rfl ?_
            refine X1_q rfl rfl rfl rfl (q_move rfl) ?_
            refine X1_q rfl rfl rfl rfl (q_move rfl) ?_
            refine X1_q rfl rfl rfl rfl (by first | exact q_index tb rfl rfl rfl rfl (by first | exact gvo | exact gvd gvo (by omega)) (by omega) (by first | omega | (simp; done) | (simp; omega)) | exact q_indexP tb rfl rfl rfl rfl (by omega) (by omega)) ?_
            refine X1_q rfl rfl rfl rfl (q_fieldE tb rfl rfl rfl (by first | exact gvo | exact gvd gvo (by omega)) (by first | omega | (simp; done) | (simp; omega))) ?_
            refine X1_q rfl rfl rfl rfl (q_loadEA tb rfl rfl (by first | exact gvo | exact gvd gvo (by omega)) (i := k) (o := 0) (by omega) hel rfl rfl) ?_
            refine X1_q rfl rfl rfl rfl (q_move rfl) ?_
            refine X1_q rfl rfl rfl rfl (q_move rfl) ?_
            refine X1_q rfl rfl rfl rfl (by first | exact q_index tb rfl rfl rfl rfl (by first | exact gvo | exact gvd gvo (by omega)) (by omega) (by first | omega | (simp; done) | (simp; omega)) | exact q_indexP tb rfl rfl rfl rfl (by omega) (by omega)) ?_
            refine X1_q rfl rfl rfl rfl (q_fieldE tb rfl rfl rfl (by first | exact gvo | exact gvd gvo (by omega)) (by first | omega | (simp; done) | (simp; omega))) ?_
            refine X1_q rfl rfl rfl rfl (q_loadE tb rfl rfl (by first | exact gvo | exact gvd gvo (by omega)) (i := k) (o := 2) (by omega) hel rfl) ?_
            refine X1_v rfl rfl rfl rfl (lo_call tb rfl rfl (ct_gas_WeightOf ⟨x.o, x.h⟩ x.a) no_ps isV_sinks) ?_
            refine X1_q rfl rfl rfl rfl (q_move rfl) ?_
            rw [denV_ok hwc, hwc]
            refine X1_q rfl rfl rfl rfl (q_ext0 rfl) ?_
            refine X1_q rfl rfl rfl rfl (q_ext1 rfl) ?_
            refine X1_nil ?_
            intro g27
            try dsimp only [List.cons_append, List.nil_append]
            first | refine X_store tb rfl rfl (List.Perm.refl _) rfl rfl rfl rfl rfl rfl rfl rfl ?_ | refine X_store tb rfl rfl perm1 rfl rfl rfl rfl rfl rfl rfl rfl ?_ | refine X_store tb rfl rfl (perm_front (pre := [_, _])) rfl rfl rfl rfl rfl rfl rfl rfl ?_ | refine X_store tb rfl rfl (perm_front (pre := [_, _, _])) rfl rfl rfl rfl rfl rfl rfl rfl ?_
            refine X_q rfl rfl rfl rfl (q_assign rfl) ?_
            refine X_nil ?_
            dsimp only [List.cons_append, List.nil_append]
            refine L_then ?_
            refine C_seq ?_
            refine C_seq ?_
            refine C_region ?_
            refine L_q rfl rfl rfl (q_move rfl) ?_
            refine L_q rfl rfl rfl (q_false (q_neq rfl rfl) (decide_eq_false (by omega))) ?_
            refine L_q rfl rfl rfl (q_move rfl) ?_
            refine L_qg rfl rfl rfl rfl rfl rfl rfl (q_field tb rfl rfl rfl) ?_
            refine L_qg rfl rfl rfl rfl rfl rfl rfl (q_load tb rfl rfl bxo rfl) ?_
            refine L_qg rfl rfl rfl rfl rfl rfl rfl (q_field tb rfl rfl rfl) ?_
            refine L_qg rfl rfl rfl rfl rfl rfl rfl (q_load tb rfl rfl bxo rfl) ?_
            refine L_callg tb rfl rfl rfl rfl rfl rfl ((ct_withinM (wLo x) 0 (wHi x) (by omega))) no_ps rfl ?_
            refine L_qg rfl rfl rfl rfl rfl rfl rfl (q_not rfl (by first | exact (rfl : (!true) = false) | exact (rfl : (!false) = true) | exact decide_not.symm | rfl)) ?_
            refine L_q rfl rfl rfl (by first | exact q_pickT rfl rfl | exact q_pickF rfl rfl) ?_
            refine L_q rfl rfl rfl (q_move rfl) ?_
            refine L_qg rfl rfl rfl rfl rfl rfl rfl (q_field tb rfl rfl rfl) ?_
            refine L_qg rfl rfl rfl rfl rfl rfl rfl (q_load tb rfl rfl bxo rfl) ?_
            refine L_qg rfl rfl rfl rfl rfl rfl rfl (q_false (q_gtr rfl rfl) (decide_eq_false (by omega))) ?_
            refine L_q rfl rfl rfl (by first | exact q_pickT rfl rfl | exact q_pickF rfl rfl) ?_
            refine L_then ?_
            refine C_false rfl ?_
            refine C_skip_then ?_
            refine C_draw (n := 10) [(0, false), (1, false), (2, false), (3, false), (4, false), (5, false), (6, false), (7, false), (8, false), (9, false)] mixed (by kernel_rfl) ?_
            refine W_q rfl rfl rfl rfl (q_move rfl) ?_
            refine W_q rfl rfl rfl rfl (q_field tb rfl rfl rfl) ?_
            refine W_q rfl rfl rfl rfl (q_load tb rfl rfl bxo rfl) ?_
            refine W_q rfl rfl rfl rfl (q_add rfl rfl (by first | exact IntWalk.i64_in _ (by omega) | rfl)) ?_
            refine W_q rfl rfl rfl rfl (q_move rfl) ?_
            refine W_q rfl rfl rfl rfl (q_field tb rfl rfl rfl) ?_
            refine W_q rfl rfl rfl rfl (q_load tb rfl rfl bxo rfl) ?_
            refine W_q rfl rfl rfl rfl (q_add rfl rfl (by first | exact IntWalk.i64_in _ (by omega) | rfl)) ?_
            refine W_q rfl rfl rfl rfl (q_assign rfl) ?_
            refine W_q rfl rfl rfl rfl (q_assign rfl) ?_
            refine W_nil ?_
            refine L_blk ?_
            refine C_region ?_
            refine L_q rfl rfl rfl (q_move rfl) ?_
            refine L_q rfl rfl rfl (q_add rfl rfl (by first | exact IntWalk.i64_in _ (by omega) | rfl)) ?_
            refine L_q rfl rfl rfl (q_assign rfl) ?_
            refine L_end ?_
            exact fun ac_ wo_ hs_ => ⟨k + 1, (by omega), (by first | omega | (dsimp only; omega)), hs_.weak ⟨rfl, rfl, rfl, rfl, en (by show _ = lwS l k + wLo (gpAt l k); rw [hgx]; rfl), en (by show _ = hwS l k + wHi (gpAt l k); rw [hgx]; rfl), rfl, trivial⟩ (fun h => h.pk (by repeat (first | with_reducible exact pk_nil | refine pk_box rfl ?_ | refine pk_rd rfl ?_ | refine pk_sl rfl ?_ | with_reducible refine pk_app ?_ | with_reducible refine pk_app0 ?_ | with_reducible refine pk_app0L ?_ | with_reducible exact pk_tl | refine pk_var ?_)))⟩
          · -- t244 False
            obtain rfl : k = l.length := by omega
            obtain ⟨z1, z2, z3, z4⟩ := ws_in H.ok hlow l.length (Nat.le_refl _)
            refine C_exit ?_
            change C Tryd.prog _ _ _ _ _ _ _
            refine C_seq ?_
            refine C_region ?_
            refine L_q rfl rfl rfl (q_move rfl) ?_
            refine L_q rfl rfl rfl (q_mul rfl rfl (by first | exact IntWalk.i64_in _ (by omega) | rfl)) ?_
            refine L_q rfl rfl rfl (q_move rfl) ?_
            refine L_q rfl rfl rfl (q_mul rfl rfl (by first | exact IntWalk.i64_in _ (by omega) | rfl)) ?_
            refine L_q rfl rfl rfl (q_add rfl rfl (by first | exact IntWalk.i64_in _ (by omega) | rfl)) ?_
            refine L_q rfl rfl rfl (q_move rfl) ?_
            refine L_q rfl rfl rfl (q_mul rfl rfl (by first | exact IntWalk.i64_in _ (by omega) | rfl)) ?_
            refine L_q rfl rfl rfl (q_move rfl) ?_
            refine L_q rfl rfl rfl (q_sub rfl rfl (by first | exact IntWalk.i64_in _ (by omega) | rfl)) ?_
            refine L_q rfl rfl rfl (q_move rfl) ?_
            refine L_q rfl rfl rfl (q_sub rfl rfl (by first | exact IntWalk.i64_in _ (by omega) | rfl)) ?_
            refine L_q rfl rfl rfl (q_mul rfl rfl (by first | exact IntWalk.i64_in _ (by omega) | rfl)) ?_
            refine L_q rfl rfl rfl (q_add rfl rfl (by first | exact IntWalk.i64_in _ (by omega) | rfl)) ?_
            refine L_q rfl rfl rfl (q_assign rfl) ?_
            refine L_then ?_
            refine C_seq ?_
            refine C_region ?_
            refine L_q rfl rfl rfl (q_move rfl) ?_
            refine L_q rfl rfl rfl (q_mul rfl rfl (by first | exact IntWalk.i64_in _ (by omega) | rfl)) ?_
            refine L_q rfl rfl rfl (q_mul rfl rfl (by first | exact IntWalk.i64_in _ (by omega) | rfl)) ?_
            refine L_q rfl rfl rfl (q_move rfl) ?_
            refine L_q rfl rfl rfl (q_true (q_leq rfl rfl) (decide_eq_true (by omega))) ?_
            refine L_q rfl rfl rfl (q_move rfl) ?_
            refine L_qg rfl rfl rfl rfl rfl rfl rfl (q_move rfl) ?_
            refine L_qg rfl rfl rfl rfl rfl rfl rfl (q_move rfl) ?_
            refine L_qg rfl rfl rfl rfl rfl rfl rfl (q_mul rfl rfl (by first | exact IntWalk.i64_in _ (by omega) | rfl)) ?_
            refine L_qg rfl rfl rfl rfl rfl rfl rfl (q_mul rfl rfl (by first | exact IntWalk.i64_in _ (by omega) | rfl)) ?_
            refine L_qg rfl rfl rfl rfl rfl rfl rfl (q_true (q_leq rfl rfl) (decide_eq_true (by omega))) ?_
            refine L_q rfl rfl rfl (by first | exact q_pickT rfl rfl | exact q_pickF rfl rfl) ?_
            refine L_q rfl rfl rfl (q_assign rfl) ?_
            refine L_then ?_
            refine C_ret ?_
            exact ret_of (res1 rfl rfl) sub_nil (by intro r hr; cases hr) ⟨rfl, rfl⟩
end Go.Proofs.YtibohfipgjljhaaDoor
