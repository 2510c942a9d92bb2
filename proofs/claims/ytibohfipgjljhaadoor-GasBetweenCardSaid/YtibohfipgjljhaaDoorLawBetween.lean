/-
  Walks: each function named returns what its model says. Conditions: those in front of each theorem.
-/
import Derived.Test.YtibohfipgjljhaaDoorLawMixes
import Derived.Test.YtibohfipgjljhaaDoorGf
namespace Go.Proofs.YtibohfipgjljhaaDoor
open Go.RowKit

theorem ct_withinM (n lo hi : Int) (h : lo ≤ n ∧ n ≤ hi) : Ct Tryd.prog 33 [.int .i64 n, .int .i64 lo, .int .i64 hi] [] (isV (.bool true)) := (decide_eq_true h) ▸ ct_shotlinebase_Within n lo hi
theorem ct_SmT (n d : Int) (h : (-1000000000 ≤ n ∧ n ≤ 1000000000) ∧ (1 ≤ d ∧ d ≤ 1000000000)) : Ct Tryd.prog 31 [.agg #[.int .i64 n, .int .i64 d]] [] (isV (.bool true)) := (decide_eq_true h) ▸ ct_shotlinebase_IsSmall n d
theorem ct_gcdBt (l : List Gp) (B : btP l) : Ct Tryd.prog 34 [.int .i64 (mdI l 0), .int .i64 (mdI l 1)] [] (isV (.int .i64 (btG l))) := ct_shotlinebase_Gcd (mdI l 0) (mdI l 1) (by have := B.d0; omega) (by have := B.d1; omega)

set_option maxRecDepth 100000 in
set_option maxHeartbeats 4000000 in
theorem ct_shotlinelaw01_GasBetween (v : Value) (l : List Gp) : CtK Tryd.prog 0 136 knL knZ 5 [v] [(v, 3, l.map cGp)] (isV (.bool true)) := by
  refine CtK.of (N := 225) Tryd.func5 rfl rfl rfl fun w hK => ?_
  refine C_weak (E' := [(0, v)]) (rs' := [rd v 3 (l.map cGp)]) ⟨rfl, trivial⟩ (fun _ h => h) ?_
  have hl1 := len_map cGp l
  refine C_seq ?_
  refine C_region ?_
  refine L_q rfl rfl rfl (q_assign rfl) ?_
  refine L_then ?_
  refine C_seq ?_
  refine C_seq ?_
  refine C_region ?_
  refine L_lo rfl rfl rfl (lo_callK tb hK rfl rfl (ct_shotlinelaw01_awake) no_ps isV_sinks) ?_
  rintro _ _ ⟨rfl, rfl⟩
  refine L_q rfl rfl rfl (q_not rfl (by first | exact (rfl : (!true) = false) | exact (rfl : (!false) = true) | exact decide_not.symm | rfl)) ?_
  refine L_then ?_
  refine C_false rfl ?_
  refine C_skip_then ?_
  refine C_seq ?_
  refine C_seq ?_
  refine C_region ?_
  refine L_q rfl rfl rfl (q_move rfl) ?_
  refine L_call tb rfl rfl (ct_short v l) (ps_cons (by first | exact gvo | exact gvd gvo (by omega)) no_ps) rfl ?_
  refine L_q rfl rfl rfl (q_not rfl (by first | exact (rfl : (!true) = false) | exact (rfl : (!false) = true) | exact decide_not.symm | rfl)) ?_
  refine L_q rfl rfl rfl (q_move rfl) ?_
  refine L_dec (d := 20) rfl (fun hsh => ?_) (fun hsh => ?_)
  · -- t20 True
    refine L_skip rfl rfl rfl rfl rfl rfl rfl ?_
    refine L_skip rfl rfl rfl rfl rfl rfl rfl ?_
    refine L_skip rfl rfl rfl rfl rfl rfl rfl ?_
    refine L_q rfl rfl rfl (by first | exact q_pickT rfl rfl | exact q_pickF rfl rfl) ?_
    refine L_then ?_
    refine C_true rfl ?_
    refine C_seq ?_
    refine C_region ?_
    refine L_q rfl rfl rfl (q_assign rfl) ?_
    refine L_then ?_
    refine C_ret ?_
    exact ret_of (res1 rfl rfl) sub_nil (by intro r hr; cases hr) ⟨rfl, rfl⟩
  · -- t20 False
    refine L_qg rfl rfl rfl rfl rfl rfl rfl (q_move rfl) ?_
    refine L_callg tb rfl rfl rfl rfl rfl rfl (ct_shotlineref01_CheckParts v l (by omega)) (ps_cons (by first | exact gvo | exact gvd gvo (by omega)) no_ps) rfl ?_
    refine L_qg rfl rfl rfl rfl rfl rfl rfl (q_neq rfl rfl) ?_
    refine L_q rfl rfl rfl (by first | exact q_pickT rfl rfl | exact q_pickF rfl rfl) ?_
    refine L_then ?_
    refine C_dec rfl (fun h24 => ?_) (fun h24 => ?_)
    · -- t24 True
      refine C_seq ?_
      refine C_region ?_
      refine L_q rfl rfl rfl (q_assign rfl) ?_
      refine L_then ?_
      refine C_ret ?_
      exact ret_of (res1 rfl rfl) sub_nil (by intro r hr; cases hr) ⟨rfl, rfl⟩
    · -- t24 False
      have hz : ckPa l = 0 := by omega
      have H := pa_ok hz
      have hmr := mix_rev hz
      have hle9 := H.le
      refine C_skip_then ?_
      refine C_seq ?_
      refine C_region ?_
      refine L_q rfl rfl rfl (q_move rfl) ?_
      refine L_callS tb rfl rfl (ct_shotlinelaw01_parts v l (by omega)) (ps_cons (by first | exact gvo | exact gvd gvo (by omega)) no_ps) rfl fun v27 => ?_
      refine L_call tb rfl rfl (ct_MixedE v27 l (by omega)) (ps_cons (by first | exact gvo | exact gvd gvo (by omega)) no_ps) rfl ?_
      refine L_q rfl rfl rfl (q_move rfl) ?_
      refine L_q rfl rfl rfl (q_ext0 rfl) ?_
      refine L_q rfl rfl rfl (q_ext1 rfl) ?_
      refine L_alloc tb rfl rfl fun g3 => ?_
      first | refine L_store tb rfl rfl rfl rfl rfl rfl rfl rfl ?_ | (refine L_front1 ?_; refine L_store tb rfl rfl rfl rfl rfl rfl rfl rfl ?_) | (refine L_front2 ?_; refine L_store tb rfl rfl rfl rfl rfl rfl rfl rfl ?_) | (refine L_front3 ?_; refine L_store tb rfl rfl rfl rfl rfl rfl rfl rfl ?_) | (refine L_front4 ?_; refine L_store tb rfl rfl rfl rfl rfl rfl rfl rfl ?_) | (refine L_front5 ?_; refine L_store tb rfl rfl rfl rfl rfl rfl rfl rfl ?_) | (refine L_front6 ?_; refine L_store tb rfl rfl rfl rfl rfl rfl rfl rfl ?_)
      refine L_q rfl rfl rfl (q_assign rfl) ?_
      refine L_then ?_
      refine C_seq ?_
      refine C_region ?_
      refine L_q rfl rfl rfl (q_assign rfl) ?_
      refine L_then ?_
      refine C_seq ?_
      refine C_region ?_
      refine L_q rfl rfl rfl (by first | exact q_build tb rfl rfl rfl rfl | exact q_buildArr tb rfl rfl rfl rfl rfl) ?_
      refine L_q rfl rfl rfl (by first | exact q_build tb rfl rfl rfl rfl | exact q_buildArr tb rfl rfl rfl rfl rfl) ?_
      refine L_alloc tb rfl rfl fun g6 => ?_
      refine L_alloc tb rfl rfl fun g7 => ?_
      first | refine L_store tb rfl rfl rfl rfl rfl rfl rfl rfl ?_ | (refine L_front1 ?_; refine L_store tb rfl rfl rfl rfl rfl rfl rfl rfl ?_) | (refine L_front2 ?_; refine L_store tb rfl rfl rfl rfl rfl rfl rfl rfl ?_) | (refine L_front3 ?_; refine L_store tb rfl rfl rfl rfl rfl rfl rfl rfl ?_) | (refine L_front4 ?_; refine L_store tb rfl rfl rfl rfl rfl rfl rfl rfl ?_) | (refine L_front5 ?_; refine L_store tb rfl rfl rfl rfl rfl rfl rfl rfl ?_) | (refine L_front6 ?_; refine L_store tb rfl rfl rfl rfl rfl rfl rfl rfl ?_)
      first | refine L_store tb rfl rfl rfl rfl rfl rfl rfl rfl ?_ | (refine L_front1 ?_; refine L_store tb rfl rfl rfl rfl rfl rfl rfl rfl ?_) | (refine L_front2 ?_; refine L_store tb rfl rfl rfl rfl rfl rfl rfl rfl ?_) | (refine L_front3 ?_; refine L_store tb rfl rfl rfl rfl rfl rfl rfl rfl ?_) | (refine L_front4 ?_; refine L_store tb rfl rfl rfl rfl rfl rfl rfl rfl ?_) | (refine L_front5 ?_; refine L_store tb rfl rfl rfl rfl rfl rfl rfl rfl ?_) | (refine L_front6 ?_; refine L_store tb rfl rfl rfl rfl rfl rfl rfl rfl ?_)
      refine L_then ?_
      refine C_seq ?_
      refine C_seq ?_
      refine C_region ?_
      refine L_q rfl rfl rfl (q_move rfl) ?_
      refine L_q rfl rfl rfl (q_len tb rfl rfl (by first | exact gvo | exact gvd gvo (by omega))) ?_
      refine L_q rfl rfl rfl (q_sub rfl rfl (by first | exact IntWalk.i64_in _ (by omega) | rfl)) ?_
      refine L_q rfl rfl rfl (q_assign rfl) ?_
      refine L_then ?_
      refine C_block ?_
      refine C_nil 57 3 ?_
      refine C_loop (ι := Nat × Value) (fun q => ([(0, v), (3, .pointer (some ⟨g3, 0, none⟩)), (4, .int .i64 ((mixC l))), (5, q.2), (6, .pointer (some ⟨g6, 0, none⟩)), (7, .pointer (some ⟨g7, 0, none⟩)), (8, .int .i64 (((l.length : Int) - 1 - (q.1 : Int))))], [sl q.2 57 3 ((l.reverse.take q.1).map cGp), box g6 55 [.int .i64 (loO l q.1), .int .i64 (loH l q.1)], box g7 55 [.int .i64 (hiO l q.1), .int .i64 (hiH l q.1)], box g3 51 ((mixV l).map iV), rd v 3 (l.map cGp)])) (fun q => q.1 ≤ l.length) (fun q => l.length - q.1) (0, .slice none 0 0) (Nat.zero_le _) (fun a w hs => hs.weak ⟨rfl, rfl, rfl, rfl, rfl, rfl, en (by dsimp only; omega), trivial⟩ (fun h => h.pk (by repeat (first | with_reducible exact pk_nil | refine pk_box rfl ?_ | refine pk_rd rfl ?_ | refine pk_sl rfl ?_ | with_reducible refine pk_app ?_ | with_reducible refine pk_app0 ?_ | with_reducible refine pk_app0L ?_ | with_reducible exact pk_tl | refine pk_var ?_)))) ?_
      rintro ⟨j, y⟩ hj
      dsimp only at hj ⊢
      have hlt : (l.reverse.take j).length = j := by rw [List.length_take, List.length_reverse]; omega
      refine C_seq ?_
      refine C_seq ?_
      refine C_region ?_
      refine L_q rfl rfl rfl (q_move rfl) ?_
      refine L_q rfl rfl rfl (q_geq rfl rfl) ?_
      refine L_then ?_
      refine C_dec rfl (fun h5 => ?_) (fun h5 => ?_)
      · -- t37 True
        obtain ⟨i, hi⟩ := Int.eq_ofNat_of_zero_le (show 0 ≤ (l.length : Int) - 1 - (j : Int) by omega)
        obtain ⟨x, he⟩ := get_some l (k := i) (by omega); have hel := map_get cGp he; have her := rv_at (by omega) hi he
        rw [hi]
        refine C_skip_then ?_
        refine C_seq ?_
        refine C_block ?_
        refine C_seq ?_
        refine C_region ?_
        refine L_q rfl rfl rfl (q_move rfl) ?_
        refine L_q rfl rfl rfl (q_move rfl) ?_
        refine L_q rfl rfl rfl (q_move rfl) ?_
        refine L_q rfl rfl rfl (by first | exact q_index tb rfl rfl rfl rfl (by first | exact gvo | exact gvd gvo (by omega)) (by omega) (by first | omega | (simp; done) | (simp; omega)) | exact q_indexP tb rfl rfl rfl rfl (by omega) (by omega)) ?_
        refine L_q rfl rfl rfl (q_loadEA tb rfl rfl (by first | exact gvo | exact gvd gvo (by omega)) (i := i) (o := 0) (by omega) hel rfl rfl) ?_
        refine L_mk (lo_bslice tb rfl rfl rfl (xs := [cGp x]) rfl rfl (by simp [cGp]) rfl (by omega) rfl) rfl rfl rfl fun v45 => ?_
        first | (refine L_front1 ?_; refine L_append tb rfl rfl rfl (by omega) rfl rfl (by first | exact gvo | exact gvd gvo (by omega)) (by simp [Value.oneCell', cGp]) (by simp [maxLen]; omega) (by simp; omega) rfl fun v46 => ?_) | (refine L_front2 ?_; refine L_append tb rfl rfl rfl (by omega) rfl rfl (by first | exact gvo | exact gvd gvo (by omega)) (by simp [Value.oneCell', cGp]) (by simp [maxLen]; omega) (by simp; omega) rfl fun v46 => ?_) | (refine L_front3 ?_; refine L_append tb rfl rfl rfl (by omega) rfl rfl (by first | exact gvo | exact gvd gvo (by omega)) (by simp [Value.oneCell', cGp]) (by simp [maxLen]; omega) (by simp; omega) rfl fun v46 => ?_) | (refine L_front4 ?_; refine L_append tb rfl rfl rfl (by omega) rfl rfl (by first | exact gvo | exact gvd gvo (by omega)) (by simp [Value.oneCell', cGp]) (by simp [maxLen]; omega) (by simp; omega) rfl fun v46 => ?_) | (refine L_front5 ?_; refine L_append tb rfl rfl rfl (by omega) rfl rfl (by first | exact gvo | exact gvd gvo (by omega)) (by simp [Value.oneCell', cGp]) (by simp [maxLen]; omega) (by simp; omega) rfl fun v46 => ?_) | (refine L_front6 ?_; refine L_append tb rfl rfl rfl (by omega) rfl rfl (by first | exact gvo | exact gvd gvo (by omega)) (by simp [Value.oneCell', cGp]) (by simp [maxLen]; omega) (by simp; omega) rfl fun v46 => ?_) | (refine L_append tb rfl rfl rfl (by omega) rfl rfl (by first | exact gvo | exact gvd gvo (by omega)) (by simp [Value.oneCell', cGp]) (by simp [maxLen]; omega) (by simp; omega) rfl fun v46 => ?_)
        refine L_q rfl rfl rfl (q_assign rfl) ?_
        refine L_then ?_
        refine C_seq ?_
        refine C_draw (n := 19) [(0, false), (1, false), (2, false), (3, false), (4, false), (5, false), (6, false), (7, false), (8, false), (9, false), (10, false), (11, false), (12, false), (13, false), (14, false), (15, false), (16, false), (17, false), (18, false)] mixed (by kernel_rfl) ?_
        refine W_q rfl rfl rfl rfl (by first | exact q_index tb rfl rfl rfl rfl (by first | exact gvo | exact gvd gvo (by omega)) (by omega) (by first | omega | (simp; done) | (simp; omega)) | exact q_indexP tb rfl rfl rfl rfl (by omega) (by omega)) ?_
        refine W_q rfl rfl rfl rfl (by first | exact q_load tb rfl rfl bxo rfl | exact q_loadE tb rfl rfl (by first | exact gvo | exact gvd gvo (by omega)) (by omega) (by simp) rfl) ?_
        refine W_q rfl rfl rfl rfl (q_move rfl) ?_
        refine W_q rfl rfl rfl rfl (q_move rfl) ?_
        refine W_q rfl rfl rfl rfl (by first | exact q_index tb rfl rfl rfl rfl (by first | exact gvo | exact gvd gvo (by omega)) (by omega) (by first | omega | (simp; done) | (simp; omega)) | exact q_indexP tb rfl rfl rfl rfl (by omega) (by omega)) ?_
        refine W_q rfl rfl rfl rfl (q_fieldE tb rfl rfl rfl (by first | exact gvo | exact gvd gvo (by omega)) (by first | omega | (simp; done) | (simp; omega))) ?_
        refine W_q rfl rfl rfl rfl (q_fieldE tb rfl rfl rfl (by first | exact gvo | exact gvd gvo (by omega)) (by first | omega | (simp; done) | (simp; omega))) ?_
        refine W_q rfl rfl rfl rfl (q_loadE tb rfl rfl (by first | exact gvo | exact gvd gvo (by omega)) (i := i) (o := 0) (by omega) hel rfl) ?_
        refine W_q rfl rfl rfl rfl (q_min rfl rfl) ?_
        refine W_q rfl rfl rfl rfl (by first | exact q_index tb rfl rfl rfl rfl (by first | exact gvo | exact gvd gvo (by omega)) (by omega) (by first | omega | (simp; done) | (simp; omega)) | exact q_indexP tb rfl rfl rfl rfl (by omega) (by omega)) ?_
        refine W_q rfl rfl rfl rfl (by first | exact q_load tb rfl rfl bxo rfl | exact q_loadE tb rfl rfl (by first | exact gvo | exact gvd gvo (by omega)) (by omega) (by simp) rfl) ?_
        refine W_q rfl rfl rfl rfl (q_move rfl) ?_
        refine W_q rfl rfl rfl rfl (q_move rfl) ?_
        refine W_q rfl rfl rfl rfl (by first | exact q_index tb rfl rfl rfl rfl (by first | exact gvo | exact gvd gvo (by omega)) (by omega) (by first | omega | (simp; done) | (simp; omega)) | exact q_indexP tb rfl rfl rfl rfl (by omega) (by omega)) ?_
        refine W_q rfl rfl rfl rfl (q_fieldE tb rfl rfl rfl (by first | exact gvo | exact gvd gvo (by omega)) (by first | omega | (simp; done) | (simp; omega))) ?_
        refine W_q rfl rfl rfl rfl (q_fieldE tb rfl rfl rfl (by first | exact gvo | exact gvd gvo (by omega)) (by first | omega | (simp; done) | (simp; omega))) ?_
        refine W_q rfl rfl rfl rfl (q_loadE tb rfl rfl (by first | exact gvo | exact gvd gvo (by omega)) (i := i) (o := 1) (by omega) hel rfl) ?_
        refine W_q rfl rfl rfl rfl (q_min rfl rfl) ?_
        refine W_q rfl rfl rfl rfl (by first | exact q_build tb rfl rfl rfl rfl | exact q_buildArr tb rfl rfl rfl rfl rfl) ?_
        refine W_nil ?_
        first | refine L_store tb rfl rfl rfl rfl rfl rfl rfl rfl ?_ | (refine L_front1 ?_; refine L_store tb rfl rfl rfl rfl rfl rfl rfl rfl ?_) | (refine L_front2 ?_; refine L_store tb rfl rfl rfl rfl rfl rfl rfl rfl ?_) | (refine L_front3 ?_; refine L_store tb rfl rfl rfl rfl rfl rfl rfl rfl ?_) | (refine L_front4 ?_; refine L_store tb rfl rfl rfl rfl rfl rfl rfl rfl ?_) | (refine L_front5 ?_; refine L_store tb rfl rfl rfl rfl rfl rfl rfl rfl ?_) | (refine L_front6 ?_; refine L_store tb rfl rfl rfl rfl rfl rfl rfl rfl ?_)
        refine L_then ?_
        refine C_draw (n := 19) [(0, false), (1, false), (2, false), (3, false), (4, false), (5, false), (6, false), (7, false), (8, false), (9, false), (10, false), (11, false), (12, false), (13, false), (14, false), (15, false), (16, false), (17, false), (18, false)] mixed (by kernel_rfl) ?_
        refine W_q rfl rfl rfl rfl (by first | exact q_index tb rfl rfl rfl rfl (by first | exact gvo | exact gvd gvo (by omega)) (by omega) (by first | omega | (simp; done) | (simp; omega)) | exact q_indexP tb rfl rfl rfl rfl (by omega) (by omega)) ?_
        refine W_q rfl rfl rfl rfl (by first | exact q_load tb rfl rfl bxo rfl | exact q_loadE tb rfl rfl (by first | exact gvo | exact gvd gvo (by omega)) (by omega) (by simp) rfl) ?_
        refine W_q rfl rfl rfl rfl (q_move rfl) ?_
        refine W_q rfl rfl rfl rfl (q_move rfl) ?_
        refine W_q rfl rfl rfl rfl (by first | exact q_index tb rfl rfl rfl rfl (by first | exact gvo | exact gvd gvo (by omega)) (by omega) (by first | omega | (simp; done) | (simp; omega)) | exact q_indexP tb rfl rfl rfl rfl (by omega) (by omega)) ?_
        refine W_q rfl rfl rfl rfl (q_fieldE tb rfl rfl rfl (by first | exact gvo | exact gvd gvo (by omega)) (by first | omega | (simp; done) | (simp; omega))) ?_
        refine W_q rfl rfl rfl rfl (q_fieldE tb rfl rfl rfl (by first | exact gvo | exact gvd gvo (by omega)) (by first | omega | (simp; done) | (simp; omega))) ?_
        refine W_q rfl rfl rfl rfl (q_loadE tb rfl rfl (by first | exact gvo | exact gvd gvo (by omega)) (i := i) (o := 0) (by omega) hel rfl) ?_
        refine W_q rfl rfl rfl rfl (q_max rfl rfl) ?_
        refine W_q rfl rfl rfl rfl (by first | exact q_index tb rfl rfl rfl rfl (by first | exact gvo | exact gvd gvo (by omega)) (by omega) (by first | omega | (simp; done) | (simp; omega)) | exact q_indexP tb rfl rfl rfl rfl (by omega) (by omega)) ?_
        refine W_q rfl rfl rfl rfl (by first | exact q_load tb rfl rfl bxo rfl | exact q_loadE tb rfl rfl (by first | exact gvo | exact gvd gvo (by omega)) (by omega) (by simp) rfl) ?_
        refine W_q rfl rfl rfl rfl (q_move rfl) ?_
        refine W_q rfl rfl rfl rfl (q_move rfl) ?_
        refine W_q rfl rfl rfl rfl (by first | exact q_index tb rfl rfl rfl rfl (by first | exact gvo | exact gvd gvo (by omega)) (by omega) (by first | omega | (simp; done) | (simp; omega)) | exact q_indexP tb rfl rfl rfl rfl (by omega) (by omega)) ?_
        refine W_q rfl rfl rfl rfl (q_fieldE tb rfl rfl rfl (by first | exact gvo | exact gvd gvo (by omega)) (by first | omega | (simp; done) | (simp; omega))) ?_
        refine W_q rfl rfl rfl rfl (q_fieldE tb rfl rfl rfl (by first | exact gvo | exact gvd gvo (by omega)) (by first | omega | (simp; done) | (simp; omega))) ?_
        refine W_q rfl rfl rfl rfl (q_loadE tb rfl rfl (by first | exact gvo | exact gvd gvo (by omega)) (i := i) (o := 1) (by omega) hel rfl) ?_
        refine W_q rfl rfl rfl rfl (q_max rfl rfl) ?_
        refine W_q rfl rfl rfl rfl (by first | exact q_build tb rfl rfl rfl rfl | exact q_buildArr tb rfl rfl rfl rfl rfl) ?_
        refine W_nil ?_
        first | refine L_store tb rfl rfl rfl rfl rfl rfl rfl rfl ?_ | (refine L_front1 ?_; refine L_store tb rfl rfl rfl rfl rfl rfl rfl rfl ?_) | (refine L_front2 ?_; refine L_store tb rfl rfl rfl rfl rfl rfl rfl rfl ?_) | (refine L_front3 ?_; refine L_store tb rfl rfl rfl rfl rfl rfl rfl rfl ?_) | (refine L_front4 ?_; refine L_store tb rfl rfl rfl rfl rfl rfl rfl rfl ?_) | (refine L_front5 ?_; refine L_store tb rfl rfl rfl rfl rfl rfl rfl rfl ?_) | (refine L_front6 ?_; refine L_store tb rfl rfl rfl rfl rfl rfl rfl rfl ?_)
        refine L_blk ?_
        refine C_region ?_
        refine L_q rfl rfl rfl (q_move rfl) ?_
        refine L_q rfl rfl rfl (q_sub rfl rfl (by first | exact IntWalk.i64_in _ (by omega) | rfl)) ?_
        refine L_q rfl rfl rfl (q_assign rfl) ?_
        refine L_end ?_
        rw [rv_s her, loO_s her, loH_s her, hiO_s her, hiH_s her]
        exact fun ac_ wo_ hs_ => ⟨(j + 1, v46), (by first | omega | (dsimp only; omega)), (by first | omega | (dsimp only; omega)), hs_.weak ⟨rfl, rfl, rfl, rfl, rfl, rfl, en (by dsimp only; omega), trivial⟩ (fun h => h.pk (by repeat (first | with_reducible exact pk_nil | refine pk_box rfl ?_ | refine pk_rd rfl ?_ | refine pk_sl rfl ?_ | with_reducible refine pk_app ?_ | with_reducible refine pk_app0 ?_ | with_reducible refine pk_app0L ?_ | with_reducible exact pk_tl | refine pk_var ?_)))⟩
      · -- t37 False
        obtain rfl : j = l.length := by omega
        rw [rv_all (Nat.le_refl _)]
        refine C_exit ?_
        change C Tryd.prog _ _ _ _ _ _ _
        refine C_seq ?_
        refine C_region ?_
        refine L_q rfl rfl rfl (q_move rfl) ?_
        refine L_call tb rfl rfl (ct_MixedE y l.reverse (by rw [List.length_reverse]; omega)) (ps_cons (by first | exact gvo | exact gvd gvo (by omega)) no_ps) rfl ?_
        refine L_q rfl rfl rfl (q_move rfl) ?_
        rw [hmr.1, hmr.2]
        refine L_q rfl rfl rfl (q_ext0 rfl) ?_
        refine L_q rfl rfl rfl (q_ext1 rfl) ?_
        refine L_alloc tb rfl rfl fun g9 => ?_
        first | refine L_store tb rfl rfl rfl rfl rfl rfl rfl rfl ?_ | (refine L_front1 ?_; refine L_store tb rfl rfl rfl rfl rfl rfl rfl rfl ?_) | (refine L_front2 ?_; refine L_store tb rfl rfl rfl rfl rfl rfl rfl rfl ?_) | (refine L_front3 ?_; refine L_store tb rfl rfl rfl rfl rfl rfl rfl rfl ?_) | (refine L_front4 ?_; refine L_store tb rfl rfl rfl rfl rfl rfl rfl rfl ?_) | (refine L_front5 ?_; refine L_store tb rfl rfl rfl rfl rfl rfl rfl rfl ?_) | (refine L_front6 ?_; refine L_store tb rfl rfl rfl rfl rfl rfl rfl rfl ?_)
        refine L_q rfl rfl rfl (q_assign rfl) ?_
        refine L_then ?_
        refine C_seq ?_
        refine C_seq ?_
        refine C_region ?_
        refine L_q rfl rfl rfl (q_move rfl) ?_
        refine L_q rfl rfl rfl (q_move rfl) ?_
        refine L_q rfl rfl rfl (q_false (q_neq rfl rfl) (decide_eq_false (fun h => h rfl))) ?_
        refine L_q rfl rfl rfl (q_move rfl) ?_
        refine L_qg rfl rfl rfl rfl rfl rfl rfl (q_loadA tb rfl rfl bxo rfl rfl) ?_
        refine L_qg rfl rfl rfl rfl rfl rfl rfl (q_loadA tb rfl rfl bxo rfl rfl) ?_
        refine L_qg rfl rfl rfl rfl rfl rfl rfl (q_false (q_neI (p := (mixV l) = (mixV l)) (xs := (mixV l)) (ys := (mixV l)) eq51 (by omega) eg51 rfl rfl rfl rfl Iff.rfl) (decide_eq_false (fun h => h rfl))) ?_
        refine L_q rfl rfl rfl (by first | exact q_pickT rfl rfl | exact q_pickF rfl rfl) ?_
        refine L_then ?_
        refine C_false rfl ?_
        refine C_skip_then ?_
        refine C_seq ?_
        refine C_seq ?_
        refine C_region ?_
        refine L_q rfl rfl rfl (q_move rfl) ?_
        refine L_q rfl rfl rfl (q_neq rfl rfl) ?_
        refine L_then ?_
        refine C_dec rfl (fun hm => ?_) (fun hm => ?_)
        · -- t99 True
          have hnm : ¬ mall l := fun h9 => hm (mix_3 hz h9).1
          rw [(mix_2 hz hnm).1]
          refine C_seq ?_
          refine C_region ?_
          refine L_q rfl rfl rfl (q_move rfl) ?_
          refine L_q rfl rfl rfl (q_true (q_eql rfl rfl) (by decide)) ?_
          refine L_q rfl rfl rfl (q_assign rfl) ?_
          refine L_then ?_
          refine C_ret ?_
          exact ret_of (res1 rfl rfl) sub_nil (by intro r hr; cases hr) ⟨rfl, rfl⟩
        · -- t99 False
          have hmm := Decidable.not_not.1 hm
          have hall : mall l := by
            by_cases h9 : mall l
            · exact h9
            · exact absurd ((mix_2 hz h9).1.symm.trans hmm) (by decide)
          obtain ⟨hmc, hmv⟩ := mix_3 hz hall
          obtain ⟨⟨w1, w2⟩, w3, w4⟩ := btw H
          obtain ⟨b1, b2, b3, b4, b5⟩ := bd_all H l.length
          obtain ⟨hg, hn0, hn1, hn2, hd0, hd1, hd2, hee, hff, hx1, hx2, hyy, heq⟩ := bt_ok H hall
          have hd0b : 0 ≤ mdI l 0 ∧ mdI l 0 ≤ 1000000000 := by omega
          have hd1b : 0 ≤ mdI l 1 ∧ mdI l 1 ≤ 1000000000 := by omega
          have q1 := mulB b1 hd0b; have q2 := mulB b2 hd1b; have q3 := mulB b3 hd0b; have q4 := mulB b4 hd1b
          rw [hmv]
          have hbt := bt_ok H hall
          refine C_skip_then ?_
          refine C_seq ?_
          refine C_seq ?_
          refine C_res (rs' := [box g3 51 [.int .i64 (mnI l 0), .int .i64 (mdI l 0), .int .i64 (mnI l 1), .int .i64 (mdI l 1), .int .i64 (mnI l 2), .int .i64 (mdI l 2)], box g6 55 [.int .i64 (loO l l.length), .int .i64 (loH l l.length)], box g7 55 [.int .i64 (hiO l l.length), .int .i64 (hiH l l.length)]]) (fun _ h => h.pk (by repeat (first | with_reducible exact pk_nil | refine pk_box rfl ?_ | refine pk_rd rfl ?_ | refine pk_sl rfl ?_ | with_reducible refine pk_app ?_ | with_reducible refine pk_app0 ?_ | with_reducible refine pk_app0L ?_ | with_reducible exact pk_tl | refine pk_var ?_))) ?_
          refine C_region ?_
          refine L_q rfl rfl rfl (q_assign rfl) ?_
          refine L_then ?_
          refine C_block ?_
          refine C_loop (ι := Nat) (fun k => ([(3, .pointer (some ⟨g3, 0, none⟩)), (6, .pointer (some ⟨g6, 0, none⟩)), (7, .pointer (some ⟨g7, 0, none⟩)), (11, .int .i64 (k : Int))], [box g3 51 [.int .i64 (mnI l 0), .int .i64 (mdI l 0), .int .i64 (mnI l 1), .int .i64 (mdI l 1), .int .i64 (mnI l 2), .int .i64 (mdI l 2)], box g6 55 [.int .i64 (loO l l.length), .int .i64 (loH l l.length)], box g7 55 [.int .i64 (hiO l l.length), .int .i64 (hiH l l.length)]])) (fun k => k ≤ 3) (fun k => 3 - k) 0 (Nat.zero_le _) (fun a w hs => hs.weak ⟨rfl, rfl, rfl, rfl, trivial⟩ (fun h => h.pk (by repeat (first | with_reducible exact pk_nil | refine pk_box rfl ?_ | refine pk_rd rfl ?_ | refine pk_sl rfl ?_ | with_reducible refine pk_app ?_ | with_reducible refine pk_app0 ?_ | with_reducible refine pk_app0L ?_ | with_reducible exact pk_tl | refine pk_var ?_)))) ?_
          intro k hk
          dsimp only at hk ⊢
          refine C_seq ?_
          refine C_seq ?_
          refine C_region ?_
          refine L_q rfl rfl rfl (q_move rfl) ?_
          refine L_q rfl rfl rfl (q_lss rfl rfl) ?_
          refine L_then ?_
          refine C_dec rfl (fun h8 => ?_) (fun h8 => ?_)
          · -- t103 True
            obtain rfl | rfl | rfl : k = 0 ∨ k = 1 ∨ k = 2 := by omega
            · -- case 0
              refine C_skip_then ?_
              refine C_seq ?_
              refine C_block ?_
              refine C_seq ?_
              refine C_region ?_
              refine L_q rfl rfl rfl (q_move rfl) ?_
              refine L_q rfl rfl rfl (by first | exact q_index tb rfl rfl rfl rfl (by first | exact gvo | exact gvd gvo (by omega)) (by omega) (by first | omega | (simp; done) | (simp; omega)) | exact q_indexP tb rfl rfl rfl rfl (by omega) (by omega)) ?_
              have hs9 : (-1000000000 ≤ mnI l 0 ∧ mnI l 0 ≤ 1000000000) ∧ (1 ≤ mdI l 0 ∧ mdI l 0 ≤ 1000000000) := by omega
              refine L_q rfl rfl rfl (by first | exact q_loadA tb rfl rfl bxo rfl rfl | exact q_loadEA tb rfl rfl (by first | exact gvo | exact gvd gvo (by omega)) (by omega) (by simp) rfl rfl) ?_
              refine L_call tb rfl rfl (ct_SmT (mnI l 0) (mdI l 0) hs9) no_ps rfl ?_
              refine L_q rfl rfl rfl (q_not rfl (by first | exact (rfl : (!true) = false) | exact (rfl : (!false) = true) | exact decide_not.symm | rfl)) ?_
              refine L_q rfl rfl rfl (q_move rfl) ?_
              refine L_qg rfl rfl rfl rfl rfl rfl rfl (q_move rfl) ?_
              refine L_qg rfl rfl rfl rfl rfl rfl rfl (by first | exact q_index tb rfl rfl rfl rfl (by first | exact gvo | exact gvd gvo (by omega)) (by omega) (by first | omega | (simp; done) | (simp; omega)) | exact q_indexP tb rfl rfl rfl rfl (by omega) (by omega)) ?_
              refine L_qg rfl rfl rfl rfl rfl rfl rfl (by first | exact q_field tb rfl rfl rfl | exact q_fieldE tb rfl rfl rfl (by first | exact gvo | exact gvd gvo (by omega)) (by first | omega | (simp; done) | (simp; omega))) ?_
              refine L_qg rfl rfl rfl rfl rfl rfl rfl (by first | exact q_load tb rfl rfl bxo rfl | exact q_loadE tb rfl rfl (by first | exact gvo | exact gvd gvo (by omega)) (by omega) (by simp) rfl) ?_
              refine L_qg rfl rfl rfl rfl rfl rfl rfl (q_false (q_lss rfl rfl) (decide_eq_false (by omega))) ?_
              refine L_q rfl rfl rfl (by first | exact q_pickT rfl rfl | exact q_pickF rfl rfl) ?_
              refine L_then ?_
              refine C_false rfl ?_
              refine C_skip_blk ?_
              refine C_region ?_
              refine L_q rfl rfl rfl (q_move rfl) ?_
              refine L_q rfl rfl rfl (q_add rfl rfl (by first | exact IntWalk.i64_in _ (by omega) | rfl)) ?_
              refine L_q rfl rfl rfl (q_assign rfl) ?_
              refine L_end ?_
              exact fun ac_ wo_ hs_ => ⟨1, (by decide), (by decide), hs_.weak ⟨rfl, rfl, rfl, rfl, trivial⟩ (fun h => h.pk (by repeat (first | with_reducible exact pk_nil | refine pk_box rfl ?_ | refine pk_rd rfl ?_ | refine pk_sl rfl ?_ | with_reducible refine pk_app ?_ | with_reducible refine pk_app0 ?_ | with_reducible refine pk_app0L ?_ | with_reducible exact pk_tl | refine pk_var ?_)))⟩
            · -- case 1
              refine C_skip_then ?_
              refine C_seq ?_
              refine C_block ?_
              refine C_seq ?_
              refine C_region ?_
              refine L_q rfl rfl rfl (q_move rfl) ?_
              refine L_q rfl rfl rfl (by first | exact q_index tb rfl rfl rfl rfl (by first | exact gvo | exact gvd gvo (by omega)) (by omega) (by first | omega | (simp; done) | (simp; omega)) | exact q_indexP tb rfl rfl rfl rfl (by omega) (by omega)) ?_
              have hs9 : (-1000000000 ≤ mnI l 1 ∧ mnI l 1 ≤ 1000000000) ∧ (1 ≤ mdI l 1 ∧ mdI l 1 ≤ 1000000000) := by omega
              refine L_q rfl rfl rfl (by first | exact q_loadA tb rfl rfl bxo rfl rfl | exact q_loadEA tb rfl rfl (by first | exact gvo | exact gvd gvo (by omega)) (by omega) (by simp) rfl rfl) ?_
              refine L_call tb rfl rfl (ct_SmT (mnI l 1) (mdI l 1) hs9) no_ps rfl ?_
              refine L_q rfl rfl rfl (q_not rfl (by first | exact (rfl : (!true) = false) | exact (rfl : (!false) = true) | exact decide_not.symm | rfl)) ?_
              refine L_q rfl rfl rfl (q_move rfl) ?_
              refine L_qg rfl rfl rfl rfl rfl rfl rfl (q_move rfl) ?_
              refine L_qg rfl rfl rfl rfl rfl rfl rfl (by first | exact q_index tb rfl rfl rfl rfl (by first | exact gvo | exact gvd gvo (by omega)) (by omega) (by first | omega | (simp; done) | (simp; omega)) | exact q_indexP tb rfl rfl rfl rfl (by omega) (by omega)) ?_
              refine L_qg rfl rfl rfl rfl rfl rfl rfl (by first | exact q_field tb rfl rfl rfl | exact q_fieldE tb rfl rfl rfl (by first | exact gvo | exact gvd gvo (by omega)) (by first | omega | (simp; done) | (simp; omega))) ?_
              refine L_qg rfl rfl rfl rfl rfl rfl rfl (by first | exact q_load tb rfl rfl bxo rfl | exact q_loadE tb rfl rfl (by first | exact gvo | exact gvd gvo (by omega)) (by omega) (by simp) rfl) ?_
              refine L_qg rfl rfl rfl rfl rfl rfl rfl (q_false (q_lss rfl rfl) (decide_eq_false (by omega))) ?_
              refine L_q rfl rfl rfl (by first | exact q_pickT rfl rfl | exact q_pickF rfl rfl) ?_
              refine L_then ?_
              refine C_false rfl ?_
              refine C_skip_blk ?_
              refine C_region ?_
              refine L_q rfl rfl rfl (q_move rfl) ?_
              refine L_q rfl rfl rfl (q_add rfl rfl (by first | exact IntWalk.i64_in _ (by omega) | rfl)) ?_
              refine L_q rfl rfl rfl (q_assign rfl) ?_
              refine L_end ?_
              exact fun ac_ wo_ hs_ => ⟨2, (by decide), (by decide), hs_.weak ⟨rfl, rfl, rfl, rfl, trivial⟩ (fun h => h.pk (by repeat (first | with_reducible exact pk_nil | refine pk_box rfl ?_ | refine pk_rd rfl ?_ | refine pk_sl rfl ?_ | with_reducible refine pk_app ?_ | with_reducible refine pk_app0 ?_ | with_reducible refine pk_app0L ?_ | with_reducible exact pk_tl | refine pk_var ?_)))⟩
            · -- case 2
              refine C_skip_then ?_
              refine C_seq ?_
              refine C_block ?_
              refine C_seq ?_
              refine C_region ?_
              refine L_q rfl rfl rfl (q_move rfl) ?_
              refine L_q rfl rfl rfl (by first | exact q_index tb rfl rfl rfl rfl (by first | exact gvo | exact gvd gvo (by omega)) (by omega) (by first | omega | (simp; done) | (simp; omega)) | exact q_indexP tb rfl rfl rfl rfl (by omega) (by omega)) ?_
              have hs9 : (-1000000000 ≤ mnI l 2 ∧ mnI l 2 ≤ 1000000000) ∧ (1 ≤ mdI l 2 ∧ mdI l 2 ≤ 1000000000) := by omega
              refine L_q rfl rfl rfl (by first | exact q_loadA tb rfl rfl bxo rfl rfl | exact q_loadEA tb rfl rfl (by first | exact gvo | exact gvd gvo (by omega)) (by omega) (by simp) rfl rfl) ?_
              refine L_call tb rfl rfl (ct_SmT (mnI l 2) (mdI l 2) hs9) no_ps rfl ?_
              refine L_q rfl rfl rfl (q_not rfl (by first | exact (rfl : (!true) = false) | exact (rfl : (!false) = true) | exact decide_not.symm | rfl)) ?_
              refine L_q rfl rfl rfl (q_move rfl) ?_
              refine L_qg rfl rfl rfl rfl rfl rfl rfl (q_move rfl) ?_
              refine L_qg rfl rfl rfl rfl rfl rfl rfl (by first | exact q_index tb rfl rfl rfl rfl (by first | exact gvo | exact gvd gvo (by omega)) (by omega) (by first | omega | (simp; done) | (simp; omega)) | exact q_indexP tb rfl rfl rfl rfl (by omega) (by omega)) ?_
              refine L_qg rfl rfl rfl rfl rfl rfl rfl (by first | exact q_field tb rfl rfl rfl | exact q_fieldE tb rfl rfl rfl (by first | exact gvo | exact gvd gvo (by omega)) (by first | omega | (simp; done) | (simp; omega))) ?_
              refine L_qg rfl rfl rfl rfl rfl rfl rfl (by first | exact q_load tb rfl rfl bxo rfl | exact q_loadE tb rfl rfl (by first | exact gvo | exact gvd gvo (by omega)) (by omega) (by simp) rfl) ?_
              refine L_qg rfl rfl rfl rfl rfl rfl rfl (q_false (q_lss rfl rfl) (decide_eq_false (by omega))) ?_
              refine L_q rfl rfl rfl (by first | exact q_pickT rfl rfl | exact q_pickF rfl rfl) ?_
              refine L_then ?_
              refine C_false rfl ?_
              refine C_skip_blk ?_
              refine C_region ?_
              refine L_q rfl rfl rfl (q_move rfl) ?_
              refine L_q rfl rfl rfl (q_add rfl rfl (by first | exact IntWalk.i64_in _ (by omega) | rfl)) ?_
              refine L_q rfl rfl rfl (q_assign rfl) ?_
              refine L_end ?_
              exact fun ac_ wo_ hs_ => ⟨3, (by decide), (by decide), hs_.weak ⟨rfl, rfl, rfl, rfl, trivial⟩ (fun h => h.pk (by repeat (first | with_reducible exact pk_nil | refine pk_box rfl ?_ | refine pk_rd rfl ?_ | refine pk_sl rfl ?_ | with_reducible refine pk_app ?_ | with_reducible refine pk_app0 ?_ | with_reducible refine pk_app0L ?_ | with_reducible exact pk_tl | refine pk_var ?_)))⟩
          · -- t103 False
            obtain rfl : k = 3 := by omega
            refine C_exit ?_
            change C Tryd.prog _ _ _ _ _ _ _
            refine C_seq ?_
            refine C_seq ?_
            refine C_region ?_
            refine L_q rfl rfl rfl (q_assign rfl) ?_
            refine L_then ?_
            refine C_block ?_
            refine C_loop (ι := Nat) (fun k => ([(3, .pointer (some ⟨g3, 0, none⟩)), (6, .pointer (some ⟨g6, 0, none⟩)), (7, .pointer (some ⟨g7, 0, none⟩)), (12, .int .i64 (k : Int))], [box g3 51 [.int .i64 (mnI l 0), .int .i64 (mdI l 0), .int .i64 (mnI l 1), .int .i64 (mdI l 1), .int .i64 (mnI l 2), .int .i64 (mdI l 2)], box g6 55 [.int .i64 (loO l l.length), .int .i64 (loH l l.length)], box g7 55 [.int .i64 (hiO l l.length), .int .i64 (hiH l l.length)]])) (fun k => k ≤ 2) (fun k => 2 - k) 0 (Nat.zero_le _) (fun a w hs => hs.weak ⟨rfl, rfl, rfl, rfl, trivial⟩ (fun h => h.pk (by repeat (first | with_reducible exact pk_nil | refine pk_box rfl ?_ | refine pk_rd rfl ?_ | refine pk_sl rfl ?_ | with_reducible refine pk_app ?_ | with_reducible refine pk_app0 ?_ | with_reducible refine pk_app0L ?_ | with_reducible exact pk_tl | refine pk_var ?_)))) ?_
            intro k hk
            dsimp only at hk ⊢
            refine C_seq ?_
            refine C_seq ?_
            refine C_region ?_
            refine L_q rfl rfl rfl (q_move rfl) ?_
            refine L_q rfl rfl rfl (q_lss rfl rfl) ?_
            refine L_then ?_
            refine C_dec rfl (fun h12 => ?_) (fun h12 => ?_)
            · -- t119 True
              obtain rfl | rfl : k = 0 ∨ k = 1 := by omega
              · -- case 0
                refine C_skip_then ?_
                refine C_seq ?_
                refine C_block ?_
                refine C_seq ?_
                refine C_draw (n := 30) [(0, false), (1, false), (2, false), (3, false), (4, false), (5, false), (6, false), (7, false), (8, false), (9, false), (10, false), (11, false), (12, false), (13, false), (14, false), (15, false), (16, false), (17, false), (18, false), (19, false), (20, false), (21, false), (22, false), (23, false), (24, false), (25, false), (26, false), (27, false), (28, false), (29, false)] mixed (by kernel_rfl) ?_
                refine W_q rfl rfl rfl rfl (q_move rfl) ?_
                refine W_q rfl rfl rfl rfl (by first | exact q_index tb rfl rfl rfl rfl (by first | exact gvo | exact gvd gvo (by omega)) (by omega) (by first | omega | (simp; done) | (simp; omega)) | exact q_indexP tb rfl rfl rfl rfl (by omega) (by omega)) ?_
                refine W_q rfl rfl rfl rfl (by first | exact q_load tb rfl rfl bxo rfl | exact q_loadE tb rfl rfl (by first | exact gvo | exact gvd gvo (by omega)) (by omega) (by simp) rfl) ?_
                refine W_q rfl rfl rfl rfl (q_move rfl) ?_
                refine W_q rfl rfl rfl rfl (by first | exact q_index tb rfl rfl rfl rfl (by first | exact gvo | exact gvd gvo (by omega)) (by omega) (by first | omega | (simp; done) | (simp; omega)) | exact q_indexP tb rfl rfl rfl rfl (by omega) (by omega)) ?_
                refine W_q rfl rfl rfl rfl (by first | exact q_field tb rfl rfl rfl | exact q_fieldE tb rfl rfl rfl (by first | exact gvo | exact gvd gvo (by omega)) (by first | omega | (simp; done) | (simp; omega))) ?_
                refine W_q rfl rfl rfl rfl (by first | exact q_load tb rfl rfl bxo rfl | exact q_loadE tb rfl rfl (by first | exact gvo | exact gvd gvo (by omega)) (by omega) (by simp) rfl) ?_
                refine W_q rfl rfl rfl rfl (q_mul rfl rfl (by first | exact IntWalk.i64_in _ (by omega) | rfl)) ?_
                refine W_q rfl rfl rfl rfl (q_move rfl) ?_
                refine W_q rfl rfl rfl rfl (by first | exact q_index tb rfl rfl rfl rfl (by first | exact gvo | exact gvd gvo (by omega)) (by omega) (by first | omega | (simp; done) | (simp; omega)) | exact q_indexP tb rfl rfl rfl rfl (by omega) (by omega)) ?_
                refine W_q rfl rfl rfl rfl (by first | exact q_field tb rfl rfl rfl | exact q_fieldE tb rfl rfl rfl (by first | exact gvo | exact gvd gvo (by omega)) (by first | omega | (simp; done) | (simp; omega))) ?_
                refine W_q rfl rfl rfl rfl (by first | exact q_load tb rfl rfl bxo rfl | exact q_loadE tb rfl rfl (by first | exact gvo | exact gvd gvo (by omega)) (by omega) (by simp) rfl) ?_
                refine W_q rfl rfl rfl rfl (q_mul rfl rfl (by first | exact IntWalk.i64_in _ (by omega) | rfl)) ?_
                refine W_q rfl rfl rfl rfl (q_false (q_gtr rfl rfl) (decide_eq_false (by omega))) ?_
                refine W_q rfl rfl rfl rfl (q_move rfl) ?_
                refine W_qg rfl rfl rfl rfl rfl rfl rfl rfl (q_move rfl) ?_
                refine W_qg rfl rfl rfl rfl rfl rfl rfl rfl (by first | exact q_index tb rfl rfl rfl rfl (by first | exact gvo | exact gvd gvo (by omega)) (by omega) (by first | omega | (simp; done) | (simp; omega)) | exact q_indexP tb rfl rfl rfl rfl (by omega) (by omega)) ?_
                refine W_qg rfl rfl rfl rfl rfl rfl rfl rfl (by first | exact q_field tb rfl rfl rfl | exact q_fieldE tb rfl rfl rfl (by first | exact gvo | exact gvd gvo (by omega)) (by first | omega | (simp; done) | (simp; omega))) ?_
                refine W_qg rfl rfl rfl rfl rfl rfl rfl rfl (by first | exact q_load tb rfl rfl bxo rfl | exact q_loadE tb rfl rfl (by first | exact gvo | exact gvd gvo (by omega)) (by omega) (by simp) rfl) ?_
                refine W_qg rfl rfl rfl rfl rfl rfl rfl rfl (q_mul rfl rfl (by first | exact IntWalk.i64_in _ (by omega) | rfl)) ?_
                refine W_qg rfl rfl rfl rfl rfl rfl rfl rfl (q_move rfl) ?_
                refine W_qg rfl rfl rfl rfl rfl rfl rfl rfl (by first | exact q_index tb rfl rfl rfl rfl (by first | exact gvo | exact gvd gvo (by omega)) (by omega) (by first | omega | (simp; done) | (simp; omega)) | exact q_indexP tb rfl rfl rfl rfl (by omega) (by omega)) ?_
                refine W_qg rfl rfl rfl rfl rfl rfl rfl rfl (by first | exact q_load tb rfl rfl bxo rfl | exact q_loadE tb rfl rfl (by first | exact gvo | exact gvd gvo (by omega)) (by omega) (by simp) rfl) ?_
                refine W_qg rfl rfl rfl rfl rfl rfl rfl rfl (q_move rfl) ?_
                refine W_qg rfl rfl rfl rfl rfl rfl rfl rfl (by first | exact q_index tb rfl rfl rfl rfl (by first | exact gvo | exact gvd gvo (by omega)) (by omega) (by first | omega | (simp; done) | (simp; omega)) | exact q_indexP tb rfl rfl rfl rfl (by omega) (by omega)) ?_
                refine W_qg rfl rfl rfl rfl rfl rfl rfl rfl (by first | exact q_field tb rfl rfl rfl | exact q_fieldE tb rfl rfl rfl (by first | exact gvo | exact gvd gvo (by omega)) (by first | omega | (simp; done) | (simp; omega))) ?_
                refine W_qg rfl rfl rfl rfl rfl rfl rfl rfl (by first | exact q_load tb rfl rfl bxo rfl | exact q_loadE tb rfl rfl (by first | exact gvo | exact gvd gvo (by omega)) (by omega) (by simp) rfl) ?_
                refine W_qg rfl rfl rfl rfl rfl rfl rfl rfl (q_mul rfl rfl (by first | exact IntWalk.i64_in _ (by omega) | rfl)) ?_
                refine W_qg rfl rfl rfl rfl rfl rfl rfl rfl (q_false (q_gtr rfl rfl) (decide_eq_false (by omega))) ?_
                refine W_q rfl rfl rfl rfl (by first | exact q_pickT rfl rfl | exact q_pickF rfl rfl) ?_
                refine W_nil ?_
                refine L_then ?_
                refine C_false rfl ?_
                refine C_skip_blk ?_
                refine C_region ?_
                refine L_q rfl rfl rfl (q_move rfl) ?_
                refine L_q rfl rfl rfl (q_add rfl rfl (by first | exact IntWalk.i64_in _ (by omega) | rfl)) ?_
                refine L_q rfl rfl rfl (q_assign rfl) ?_
                refine L_end ?_
                exact fun ac_ wo_ hs_ => ⟨1, (by decide), (by decide), hs_.weak ⟨rfl, rfl, rfl, rfl, trivial⟩ (fun h => h.pk (by repeat (first | with_reducible exact pk_nil | refine pk_box rfl ?_ | refine pk_rd rfl ?_ | refine pk_sl rfl ?_ | with_reducible refine pk_app ?_ | with_reducible refine pk_app0 ?_ | with_reducible refine pk_app0L ?_ | with_reducible exact pk_tl | refine pk_var ?_)))⟩
              · -- case 1
                refine C_skip_then ?_
                refine C_seq ?_
                refine C_block ?_
                refine C_seq ?_
                refine C_draw (n := 30) [(0, false), (1, false), (2, false), (3, false), (4, false), (5, false), (6, false), (7, false), (8, false), (9, false), (10, false), (11, false), (12, false), (13, false), (14, false), (15, false), (16, false), (17, false), (18, false), (19, false), (20, false), (21, false), (22, false), (23, false), (24, false), (25, false), (26, false), (27, false), (28, false), (29, false)] mixed (by kernel_rfl) ?_
                refine W_q rfl rfl rfl rfl (q_move rfl) ?_
                refine W_q rfl rfl rfl rfl (by first | exact q_index tb rfl rfl rfl rfl (by first | exact gvo | exact gvd gvo (by omega)) (by omega) (by first | omega | (simp; done) | (simp; omega)) | exact q_indexP tb rfl rfl rfl rfl (by omega) (by omega)) ?_
                refine W_q rfl rfl rfl rfl (by first | exact q_load tb rfl rfl bxo rfl | exact q_loadE tb rfl rfl (by first | exact gvo | exact gvd gvo (by omega)) (by omega) (by simp) rfl) ?_
                refine W_q rfl rfl rfl rfl (q_move rfl) ?_
                refine W_q rfl rfl rfl rfl (by first | exact q_index tb rfl rfl rfl rfl (by first | exact gvo | exact gvd gvo (by omega)) (by omega) (by first | omega | (simp; done) | (simp; omega)) | exact q_indexP tb rfl rfl rfl rfl (by omega) (by omega)) ?_
                refine W_q rfl rfl rfl rfl (by first | exact q_field tb rfl rfl rfl | exact q_fieldE tb rfl rfl rfl (by first | exact gvo | exact gvd gvo (by omega)) (by first | omega | (simp; done) | (simp; omega))) ?_
                refine W_q rfl rfl rfl rfl (by first | exact q_load tb rfl rfl bxo rfl | exact q_loadE tb rfl rfl (by first | exact gvo | exact gvd gvo (by omega)) (by omega) (by simp) rfl) ?_
                refine W_q rfl rfl rfl rfl (q_mul rfl rfl (by first | exact IntWalk.i64_in _ (by omega) | rfl)) ?_
                refine W_q rfl rfl rfl rfl (q_move rfl) ?_
                refine W_q rfl rfl rfl rfl (by first | exact q_index tb rfl rfl rfl rfl (by first | exact gvo | exact gvd gvo (by omega)) (by omega) (by first | omega | (simp; done) | (simp; omega)) | exact q_indexP tb rfl rfl rfl rfl (by omega) (by omega)) ?_
                refine W_q rfl rfl rfl rfl (by first | exact q_field tb rfl rfl rfl | exact q_fieldE tb rfl rfl rfl (by first | exact gvo | exact gvd gvo (by omega)) (by first | omega | (simp; done) | (simp; omega))) ?_
                refine W_q rfl rfl rfl rfl (by first | exact q_load tb rfl rfl bxo rfl | exact q_loadE tb rfl rfl (by first | exact gvo | exact gvd gvo (by omega)) (by omega) (by simp) rfl) ?_
                refine W_q rfl rfl rfl rfl (q_mul rfl rfl (by first | exact IntWalk.i64_in _ (by omega) | rfl)) ?_
                refine W_q rfl rfl rfl rfl (q_false (q_gtr rfl rfl) (decide_eq_false (by omega))) ?_
                refine W_q rfl rfl rfl rfl (q_move rfl) ?_
                refine W_qg rfl rfl rfl rfl rfl rfl rfl rfl (q_move rfl) ?_
                refine W_qg rfl rfl rfl rfl rfl rfl rfl rfl (by first | exact q_index tb rfl rfl rfl rfl (by first | exact gvo | exact gvd gvo (by omega)) (by omega) (by first | omega | (simp; done) | (simp; omega)) | exact q_indexP tb rfl rfl rfl rfl (by omega) (by omega)) ?_
                refine W_qg rfl rfl rfl rfl rfl rfl rfl rfl (by first | exact q_field tb rfl rfl rfl | exact q_fieldE tb rfl rfl rfl (by first | exact gvo | exact gvd gvo (by omega)) (by first | omega | (simp; done) | (simp; omega))) ?_
                refine W_qg rfl rfl rfl rfl rfl rfl rfl rfl (by first | exact q_load tb rfl rfl bxo rfl | exact q_loadE tb rfl rfl (by first | exact gvo | exact gvd gvo (by omega)) (by omega) (by simp) rfl) ?_
                refine W_qg rfl rfl rfl rfl rfl rfl rfl rfl (q_mul rfl rfl (by first | exact IntWalk.i64_in _ (by omega) | rfl)) ?_
                refine W_qg rfl rfl rfl rfl rfl rfl rfl rfl (q_move rfl) ?_
                refine W_qg rfl rfl rfl rfl rfl rfl rfl rfl (by first | exact q_index tb rfl rfl rfl rfl (by first | exact gvo | exact gvd gvo (by omega)) (by omega) (by first | omega | (simp; done) | (simp; omega)) | exact q_indexP tb rfl rfl rfl rfl (by omega) (by omega)) ?_
                refine W_qg rfl rfl rfl rfl rfl rfl rfl rfl (by first | exact q_load tb rfl rfl bxo rfl | exact q_loadE tb rfl rfl (by first | exact gvo | exact gvd gvo (by omega)) (by omega) (by simp) rfl) ?_
                refine W_qg rfl rfl rfl rfl rfl rfl rfl rfl (q_move rfl) ?_
                refine W_qg rfl rfl rfl rfl rfl rfl rfl rfl (by first | exact q_index tb rfl rfl rfl rfl (by first | exact gvo | exact gvd gvo (by omega)) (by omega) (by first | omega | (simp; done) | (simp; omega)) | exact q_indexP tb rfl rfl rfl rfl (by omega) (by omega)) ?_
                refine W_qg rfl rfl rfl rfl rfl rfl rfl rfl (by first | exact q_field tb rfl rfl rfl | exact q_fieldE tb rfl rfl rfl (by first | exact gvo | exact gvd gvo (by omega)) (by first | omega | (simp; done) | (simp; omega))) ?_
                refine W_qg rfl rfl rfl rfl rfl rfl rfl rfl (by first | exact q_load tb rfl rfl bxo rfl | exact q_loadE tb rfl rfl (by first | exact gvo | exact gvd gvo (by omega)) (by omega) (by simp) rfl) ?_
                refine W_qg rfl rfl rfl rfl rfl rfl rfl rfl (q_mul rfl rfl (by first | exact IntWalk.i64_in _ (by omega) | rfl)) ?_
                refine W_qg rfl rfl rfl rfl rfl rfl rfl rfl (q_false (q_gtr rfl rfl) (decide_eq_false (by omega))) ?_
                refine W_q rfl rfl rfl rfl (by first | exact q_pickT rfl rfl | exact q_pickF rfl rfl) ?_
                refine W_nil ?_
                refine L_then ?_
                refine C_false rfl ?_
                refine C_skip_blk ?_
                refine C_region ?_
                refine L_q rfl rfl rfl (q_move rfl) ?_
                refine L_q rfl rfl rfl (q_add rfl rfl (by first | exact IntWalk.i64_in _ (by omega) | rfl)) ?_
                refine L_q rfl rfl rfl (q_assign rfl) ?_
                refine L_end ?_
                exact fun ac_ wo_ hs_ => ⟨2, (by decide), (by decide), hs_.weak ⟨rfl, rfl, rfl, rfl, trivial⟩ (fun h => h.pk (by repeat (first | with_reducible exact pk_nil | refine pk_box rfl ?_ | refine pk_rd rfl ?_ | refine pk_sl rfl ?_ | with_reducible refine pk_app ?_ | with_reducible refine pk_app0 ?_ | with_reducible refine pk_app0L ?_ | with_reducible exact pk_tl | refine pk_var ?_)))⟩
            · -- t119 False
              obtain rfl : k = 2 := by omega
              refine C_exit ?_
              change C Tryd.prog _ _ _ _ _ _ _
              refine C_seq ?_
              refine C_region ?_
              refine L_q rfl rfl rfl (by first | exact q_index tb rfl rfl rfl rfl (by first | exact gvo | exact gvd gvo (by omega)) (by omega) (by first | omega | (simp; done) | (simp; omega)) | exact q_indexP tb rfl rfl rfl rfl (by omega) (by omega)) ?_
              refine L_q rfl rfl rfl (by first | exact q_field tb rfl rfl rfl | exact q_fieldE tb rfl rfl rfl (by first | exact gvo | exact gvd gvo (by omega)) (by first | omega | (simp; done) | (simp; omega))) ?_
              refine L_q rfl rfl rfl (by first | exact q_load tb rfl rfl bxo rfl | exact q_loadE tb rfl rfl (by first | exact gvo | exact gvd gvo (by omega)) (by omega) (by simp) rfl) ?_
              refine L_q rfl rfl rfl (by first | exact q_index tb rfl rfl rfl rfl (by first | exact gvo | exact gvd gvo (by omega)) (by omega) (by first | omega | (simp; done) | (simp; omega)) | exact q_indexP tb rfl rfl rfl rfl (by omega) (by omega)) ?_
              refine L_q rfl rfl rfl (by first | exact q_field tb rfl rfl rfl | exact q_fieldE tb rfl rfl rfl (by first | exact gvo | exact gvd gvo (by omega)) (by first | omega | (simp; done) | (simp; omega))) ?_
              refine L_q rfl rfl rfl (by first | exact q_load tb rfl rfl bxo rfl | exact q_loadE tb rfl rfl (by first | exact gvo | exact gvd gvo (by omega)) (by omega) (by simp) rfl) ?_
              refine L_q rfl rfl rfl (q_sub rfl rfl (by first | exact IntWalk.i64_in _ (by omega) | rfl)) ?_
              refine L_q rfl rfl rfl (by first | exact q_index tb rfl rfl rfl rfl (by first | exact gvo | exact gvd gvo (by omega)) (by omega) (by first | omega | (simp; done) | (simp; omega)) | exact q_indexP tb rfl rfl rfl rfl (by omega) (by omega)) ?_
              refine L_q rfl rfl rfl (by first | exact q_field tb rfl rfl rfl | exact q_fieldE tb rfl rfl rfl (by first | exact gvo | exact gvd gvo (by omega)) (by first | omega | (simp; done) | (simp; omega))) ?_
              refine L_q rfl rfl rfl (by first | exact q_load tb rfl rfl bxo rfl | exact q_loadE tb rfl rfl (by first | exact gvo | exact gvd gvo (by omega)) (by omega) (by simp) rfl) ?_
              refine L_call tb rfl rfl (ct_shotlinebase_Lowest (mdI l 2 - mnI l 2) (mdI l 2) (by omega) (by omega)) no_ps rfl ?_
              refine L_alloc tb rfl rfl fun g13 => ?_
              first | refine L_store tb rfl rfl rfl rfl rfl rfl rfl rfl ?_ | (refine L_front1 ?_; refine L_store tb rfl rfl rfl rfl rfl rfl rfl rfl ?_) | (refine L_front2 ?_; refine L_store tb rfl rfl rfl rfl rfl rfl rfl rfl ?_) | (refine L_front3 ?_; refine L_store tb rfl rfl rfl rfl rfl rfl rfl rfl ?_) | (refine L_front4 ?_; refine L_store tb rfl rfl rfl rfl rfl rfl rfl rfl ?_) | (refine L_front5 ?_; refine L_store tb rfl rfl rfl rfl rfl rfl rfl rfl ?_) | (refine L_front6 ?_; refine L_store tb rfl rfl rfl rfl rfl rfl rfl rfl ?_)
              refine L_then ?_
              refine C_seq ?_
              refine C_seq ?_
              refine C_region ?_
              refine L_q rfl rfl rfl (by first | exact q_index tb rfl rfl rfl rfl (by first | exact gvo | exact gvd gvo (by omega)) (by omega) (by first | omega | (simp; done) | (simp; omega)) | exact q_indexP tb rfl rfl rfl rfl (by omega) (by omega)) ?_
              refine L_q rfl rfl rfl (by first | exact q_field tb rfl rfl rfl | exact q_fieldE tb rfl rfl rfl (by first | exact gvo | exact gvd gvo (by omega)) (by first | omega | (simp; done) | (simp; omega))) ?_
              refine L_q rfl rfl rfl (by first | exact q_load tb rfl rfl bxo rfl | exact q_loadE tb rfl rfl (by first | exact gvo | exact gvd gvo (by omega)) (by omega) (by simp) rfl) ?_
              refine L_call tb rfl rfl ((ct_withinM (mdI l 0) 1 1000000000 hd0)) no_ps rfl ?_
              refine L_q rfl rfl rfl (q_not rfl (by first | exact (rfl : (!true) = false) | exact (rfl : (!false) = true) | exact decide_not.symm | rfl)) ?_
              refine L_q rfl rfl rfl (q_move rfl) ?_
              refine L_qg rfl rfl rfl rfl rfl rfl rfl (by first | exact q_index tb rfl rfl rfl rfl (by first | exact gvo | exact gvd gvo (by omega)) (by omega) (by first | omega | (simp; done) | (simp; omega)) | exact q_indexP tb rfl rfl rfl rfl (by omega) (by omega)) ?_
              refine L_qg rfl rfl rfl rfl rfl rfl rfl (by first | exact q_field tb rfl rfl rfl | exact q_fieldE tb rfl rfl rfl (by first | exact gvo | exact gvd gvo (by omega)) (by first | omega | (simp; done) | (simp; omega))) ?_
              refine L_qg rfl rfl rfl rfl rfl rfl rfl (by first | exact q_load tb rfl rfl bxo rfl | exact q_loadE tb rfl rfl (by first | exact gvo | exact gvd gvo (by omega)) (by omega) (by simp) rfl) ?_
              refine L_callg tb rfl rfl rfl rfl rfl rfl ((ct_withinM (mdI l 1) 1 1000000000 hd1)) no_ps rfl ?_
              refine L_qg rfl rfl rfl rfl rfl rfl rfl (q_not rfl (by first | exact (rfl : (!true) = false) | exact (rfl : (!false) = true) | exact decide_not.symm | rfl)) ?_
              refine L_q rfl rfl rfl (by first | exact q_pickT rfl rfl | exact q_pickF rfl rfl) ?_
              refine L_then ?_
              refine C_false rfl ?_
              refine C_skip_then ?_
              refine C_seq ?_
              refine C_drawA1 tb (n := 48) (k := 47) [(0, false), (1, false), (2, false), (3, false), (4, false), (5, false), (6, false), (7, false), (8, false), (9, false), (10, false), (11, false), (15, false), (16, false), (17, false), (18, false), (19, false), (20, false), (21, false), (22, false), (23, false), (24, false), (25, false), (26, false), (31, false), (32, false), (33, false), (34, false), (35, false), (36, false), (37, false), (38, false), (39, false), (42, false), (43, false), (44, false), (12, true), (13, false), (14, false), (27, true), (28, false), (29, false), (30, false), (40, true), (41, false), (45, false), (46, true)] mixed rfl rfl rfl (by kernel_rfl) rfl ?_
              refine W_q rfl rfl rfl rfl (by first | exact q_index tb rfl rfl rfl rfl (by first | exact gvo | exact gvd gvo (by omega)) (by omega) (by first | omega | (simp; done) | (simp; omega)) | exact q_indexP tb rfl rfl rfl rfl (by omega) (by omega)) ?_
              refine W_q rfl rfl rfl rfl (by first | exact q_field tb rfl rfl rfl | exact q_fieldE tb rfl rfl rfl (by first | exact gvo | exact gvd gvo (by omega)) (by first | omega | (simp; done) | (simp; omega))) ?_
              refine W_q rfl rfl rfl rfl (by first | exact q_load tb rfl rfl bxo rfl | exact q_loadE tb rfl rfl (by first | exact gvo | exact gvd gvo (by omega)) (by omega) (by simp) rfl) ?_
              refine W_q rfl rfl rfl rfl (by first | exact q_index tb rfl rfl rfl rfl (by first | exact gvo | exact gvd gvo (by omega)) (by omega) (by first | omega | (simp; done) | (simp; omega)) | exact q_indexP tb rfl rfl rfl rfl (by omega) (by omega)) ?_
              refine W_q rfl rfl rfl rfl (by first | exact q_field tb rfl rfl rfl | exact q_fieldE tb rfl rfl rfl (by first | exact gvo | exact gvd gvo (by omega)) (by first | omega | (simp; done) | (simp; omega))) ?_
              refine W_q rfl rfl rfl rfl (by first | exact q_load tb rfl rfl bxo rfl | exact q_loadE tb rfl rfl (by first | exact gvo | exact gvd gvo (by omega)) (by omega) (by simp) rfl) ?_
              refine W_q rfl rfl rfl rfl (by first | exact q_index tb rfl rfl rfl rfl (by first | exact gvo | exact gvd gvo (by omega)) (by omega) (by first | omega | (simp; done) | (simp; omega)) | exact q_indexP tb rfl rfl rfl rfl (by omega) (by omega)) ?_
              refine W_q rfl rfl rfl rfl (by first | exact q_field tb rfl rfl rfl | exact q_fieldE tb rfl rfl rfl (by first | exact gvo | exact gvd gvo (by omega)) (by first | omega | (simp; done) | (simp; omega))) ?_
              refine W_q rfl rfl rfl rfl (by first | exact q_load tb rfl rfl bxo rfl | exact q_loadE tb rfl rfl (by first | exact gvo | exact gvd gvo (by omega)) (by omega) (by simp) rfl) ?_
              refine W_q rfl rfl rfl rfl (by first | exact q_index tb rfl rfl rfl rfl (by first | exact gvo | exact gvd gvo (by omega)) (by omega) (by first | omega | (simp; done) | (simp; omega)) | exact q_indexP tb rfl rfl rfl rfl (by omega) (by omega)) ?_
              refine W_q rfl rfl rfl rfl (by first | exact q_field tb rfl rfl rfl | exact q_fieldE tb rfl rfl rfl (by first | exact gvo | exact gvd gvo (by omega)) (by first | omega | (simp; done) | (simp; omega))) ?_
              refine W_q rfl rfl rfl rfl (by first | exact q_load tb rfl rfl bxo rfl | exact q_loadE tb rfl rfl (by first | exact gvo | exact gvd gvo (by omega)) (by omega) (by simp) rfl) ?_
              refine W_q rfl rfl rfl rfl (by first | exact q_index tb rfl rfl rfl rfl (by first | exact gvo | exact gvd gvo (by omega)) (by omega) (by first | omega | (simp; done) | (simp; omega)) | exact q_indexP tb rfl rfl rfl rfl (by omega) (by omega)) ?_
              refine W_q rfl rfl rfl rfl (by first | exact q_field tb rfl rfl rfl | exact q_fieldE tb rfl rfl rfl (by first | exact gvo | exact gvd gvo (by omega)) (by first | omega | (simp; done) | (simp; omega))) ?_
              refine W_q rfl rfl rfl rfl (by first | exact q_load tb rfl rfl bxo rfl | exact q_loadE tb rfl rfl (by first | exact gvo | exact gvd gvo (by omega)) (by omega) (by simp) rfl) ?_
              refine W_q rfl rfl rfl rfl (by first | exact q_index tb rfl rfl rfl rfl (by first | exact gvo | exact gvd gvo (by omega)) (by omega) (by first | omega | (simp; done) | (simp; omega)) | exact q_indexP tb rfl rfl rfl rfl (by omega) (by omega)) ?_
              refine W_q rfl rfl rfl rfl (by first | exact q_field tb rfl rfl rfl | exact q_fieldE tb rfl rfl rfl (by first | exact gvo | exact gvd gvo (by omega)) (by first | omega | (simp; done) | (simp; omega))) ?_
              refine W_q rfl rfl rfl rfl (by first | exact q_load tb rfl rfl bxo rfl | exact q_loadE tb rfl rfl (by first | exact gvo | exact gvd gvo (by omega)) (by omega) (by simp) rfl) ?_
              refine W_q rfl rfl rfl rfl (by first | exact q_index tb rfl rfl rfl rfl (by first | exact gvo | exact gvd gvo (by omega)) (by omega) (by first | omega | (simp; done) | (simp; omega)) | exact q_indexP tb rfl rfl rfl rfl (by omega) (by omega)) ?_
              refine W_q rfl rfl rfl rfl (by first | exact q_field tb rfl rfl rfl | exact q_fieldE tb rfl rfl rfl (by first | exact gvo | exact gvd gvo (by omega)) (by first | omega | (simp; done) | (simp; omega))) ?_
              refine W_q rfl rfl rfl rfl (by first | exact q_load tb rfl rfl bxo rfl | exact q_loadE tb rfl rfl (by first | exact gvo | exact gvd gvo (by omega)) (by omega) (by simp) rfl) ?_
              refine W_q rfl rfl rfl rfl (by first | exact q_index tb rfl rfl rfl rfl (by first | exact gvo | exact gvd gvo (by omega)) (by omega) (by first | omega | (simp; done) | (simp; omega)) | exact q_indexP tb rfl rfl rfl rfl (by omega) (by omega)) ?_
              refine W_q rfl rfl rfl rfl (by first | exact q_field tb rfl rfl rfl | exact q_fieldE tb rfl rfl rfl (by first | exact gvo | exact gvd gvo (by omega)) (by first | omega | (simp; done) | (simp; omega))) ?_
              refine W_q rfl rfl rfl rfl (by first | exact q_load tb rfl rfl bxo rfl | exact q_loadE tb rfl rfl (by first | exact gvo | exact gvd gvo (by omega)) (by omega) (by simp) rfl) ?_
              refine W_q rfl rfl rfl rfl (by first | exact q_index tb rfl rfl rfl rfl (by first | exact gvo | exact gvd gvo (by omega)) (by omega) (by first | omega | (simp; done) | (simp; omega)) | exact q_indexP tb rfl rfl rfl rfl (by omega) (by omega)) ?_
              refine W_q rfl rfl rfl rfl (by first | exact q_field tb rfl rfl rfl | exact q_fieldE tb rfl rfl rfl (by first | exact gvo | exact gvd gvo (by omega)) (by first | omega | (simp; done) | (simp; omega))) ?_
              refine W_q rfl rfl rfl rfl (by first | exact q_load tb rfl rfl bxo rfl | exact q_loadE tb rfl rfl (by first | exact gvo | exact gvd gvo (by omega)) (by omega) (by simp) rfl) ?_
              refine W_q rfl rfl rfl rfl (by first | exact q_index tb rfl rfl rfl rfl (by first | exact gvo | exact gvd gvo (by omega)) (by omega) (by first | omega | (simp; done) | (simp; omega)) | exact q_indexP tb rfl rfl rfl rfl (by omega) (by omega)) ?_
              refine W_q rfl rfl rfl rfl (by first | exact q_field tb rfl rfl rfl | exact q_fieldE tb rfl rfl rfl (by first | exact gvo | exact gvd gvo (by omega)) (by first | omega | (simp; done) | (simp; omega))) ?_
              refine W_q rfl rfl rfl rfl (by first | exact q_load tb rfl rfl bxo rfl | exact q_loadE tb rfl rfl (by first | exact gvo | exact gvd gvo (by omega)) (by omega) (by simp) rfl) ?_
              refine W_q rfl rfl rfl rfl (by first | exact q_index tb rfl rfl rfl rfl (by first | exact gvo | exact gvd gvo (by omega)) (by omega) (by first | omega | (simp; done) | (simp; omega)) | exact q_indexP tb rfl rfl rfl rfl (by omega) (by omega)) ?_
              refine W_q rfl rfl rfl rfl (by first | exact q_field tb rfl rfl rfl | exact q_fieldE tb rfl rfl rfl (by first | exact gvo | exact gvd gvo (by omega)) (by first | omega | (simp; done) | (simp; omega))) ?_
              refine W_q rfl rfl rfl rfl (by first | exact q_load tb rfl rfl bxo rfl | exact q_loadE tb rfl rfl (by first | exact gvo | exact gvd gvo (by omega)) (by omega) (by simp) rfl) ?_
              refine W_q rfl rfl rfl rfl (by first | exact q_index tb rfl rfl rfl rfl (by first | exact gvo | exact gvd gvo (by omega)) (by omega) (by first | omega | (simp; done) | (simp; omega)) | exact q_indexP tb rfl rfl rfl rfl (by omega) (by omega)) ?_
              refine W_q rfl rfl rfl rfl (by first | exact q_field tb rfl rfl rfl | exact q_fieldE tb rfl rfl rfl (by first | exact gvo | exact gvd gvo (by omega)) (by first | omega | (simp; done) | (simp; omega))) ?_
              refine W_q rfl rfl rfl rfl (by first | exact q_load tb rfl rfl bxo rfl | exact q_loadE tb rfl rfl (by first | exact gvo | exact gvd gvo (by omega)) (by omega) (by simp) rfl) ?_
              refine W_call tb rfl rfl rfl rfl (ct_gcdBt l hbt) no_ps rfl ?_
              refine W_q rfl rfl rfl rfl (q_quo (e := btF l) rfl rfl (by omega) (wr (b := btF l) (Int.tdiv_eq_ediv_of_nonneg (by omega)) (by omega))) ?_
              refine W_q rfl rfl rfl rfl (q_mul rfl rfl (by first | exact IntWalk.i64_in _ (by omega) | rfl)) ?_
              refine W_call tb rfl rfl rfl rfl (ct_gcdBt l hbt) no_ps rfl ?_
              refine W_q rfl rfl rfl rfl (q_quo (e := btE l) rfl rfl (by omega) (wr (b := btE l) (Int.tdiv_eq_ediv_of_nonneg (by omega)) (by omega))) ?_
              refine W_q rfl rfl rfl rfl (q_mul rfl rfl (by first | exact IntWalk.i64_in _ (by omega) | rfl)) ?_
              refine W_q rfl rfl rfl rfl (q_add (e := btX l) rfl rfl (wr rfl (by unfold btX; omega))) ?_
              refine W_call tb rfl rfl rfl rfl (ct_gcdBt l hbt) no_ps rfl ?_
              refine W_q rfl rfl rfl rfl (q_quo (e := btE l) rfl rfl (by omega) (wr (b := btE l) (Int.tdiv_eq_ediv_of_nonneg (by omega)) (by omega))) ?_
              refine W_q rfl rfl rfl rfl (q_mul (e := btY l) rfl rfl (wr rfl (by omega))) ?_
              refine W_call tb rfl rfl rfl rfl (ct_shotlinebase_Lowest (btX l) (btY l) (by unfold btX; omega) (by omega)) no_ps rfl ?_
              refine W_nil ?_
              intro g14
              first | refine L_store tb rfl rfl rfl rfl rfl rfl rfl rfl ?_ | (refine L_front1 ?_; refine L_store tb rfl rfl rfl rfl rfl rfl rfl rfl ?_) | (refine L_front2 ?_; refine L_store tb rfl rfl rfl rfl rfl rfl rfl rfl ?_) | (refine L_front3 ?_; refine L_store tb rfl rfl rfl rfl rfl rfl rfl rfl ?_) | (refine L_front4 ?_; refine L_store tb rfl rfl rfl rfl rfl rfl rfl rfl ?_) | (refine L_front5 ?_; refine L_store tb rfl rfl rfl rfl rfl rfl rfl rfl ?_) | (refine L_front6 ?_; refine L_store tb rfl rfl rfl rfl rfl rfl rfl rfl ?_)
              refine L_then ?_
              refine C_seq ?_
              refine C_region ?_
              refine L_q rfl rfl rfl (q_loadA tb rfl rfl bxo rfl rfl) ?_
              refine L_q rfl rfl rfl (q_loadA tb rfl rfl bxo rfl rfl) ?_
              refine L_q rfl rfl rfl (q_true (q_eqI (p := [lwN (btX l) (btY l), lwD (btX l) (btY l)] = [lwN (mdI l 2 - mnI l 2) (mdI l 2), lwD (mdI l 2 - mnI l 2) (mdI l 2)]) (xs := [lwN (btX l) (btY l), lwD (btX l) (btY l)]) (ys := [lwN (mdI l 2 - mnI l 2) (mdI l 2), lwD (mdI l 2 - mnI l 2) (mdI l 2)]) eq50 (by omega) eg50 rfl rfl rfl rfl Iff.rfl) (decide_eq_true heq)) ?_
              refine L_q rfl rfl rfl (q_assign rfl) ?_
              refine L_then ?_
              refine C_ret ?_
              exact ret_of (res1 rfl rfl) sub_nil (by intro r hr; cases hr) ⟨rfl, rfl⟩
end Go.Proofs.YtibohfipgjljhaaDoor
