/-
  Walks: each function named returns what its model says. Conditions: those in front of each theorem.
-/
import Derived.Test.YtolnohjbpllmhaaXL
import Derived.Test.YtolnohjbpllmhaaEncU
import Derived.Test.YtolnohjbpllmhaaShTreeP
import Derived.Test.YtolnohjbpllmhaaShCopy
namespace Go.Proofs.Ytolnohjbpllmhaa
open Go.RowKit

set_option maxRecDepth 100000 in
theorem ct_mod2 (n b : Int) (h : 1 ≤ b ∧ b ≤ 1000000) : Ct Try.prog 69 [.int .i64 n, .int .i64 b] [] (isV (.int .i64 (n % b))) := by
  refine Ct.of (N := 14) Try.func69 rfl rfl rfl fun w => ?_
  refine C_weak (E' := [(0, .int .i64 n), (1, .int .i64 b)]) (rs' := []) ⟨rfl, rfl, trivial⟩ (fun _ h => h) ?_
  have hb1 := Int.tmod_lt_of_pos n (show 0 < b by omega); have hb2 := Int.lt_tmod_of_pos n (show 0 < b by omega)
  refine C_seq ?_
  refine C_region ?_
  refine L_q rfl rfl rfl (q_assign rfl) ?_
  refine L_then ?_
  refine C_seq ?_
  refine C_region ?_
  refine L_q rfl rfl rfl (q_move rfl) ?_
  refine L_q rfl rfl rfl (q_move rfl) ?_
  refine L_q rfl rfl rfl (q_rem rfl rfl (by omega) (by first | exact IntWalk.rem_in _ _ (by omega) | rfl)) ?_
  refine L_q rfl rfl rfl (q_assign rfl) ?_
  refine L_then ?_
  refine C_seq ?_
  refine C_seq ?_
  refine C_region ?_
  refine L_q rfl rfl rfl (q_move rfl) ?_
  refine L_q rfl rfl rfl (q_lss rfl rfl) ?_
  refine L_then ?_
  refine C_dec rfl (fun h9 => ?_) (fun h9 => ?_)
  · -- t9 True
    refine C_region ?_
    refine L_q rfl rfl rfl (q_move rfl) ?_
    refine L_q rfl rfl rfl (q_move rfl) ?_
    refine L_q rfl rfl rfl (q_add rfl rfl (by first | exact IntWalk.i64_in _ (by omega) | rfl)) ?_
    refine L_q rfl rfl rfl (q_assign rfl) ?_
    refine L_then ?_
    refine C_seq ?_
    refine C_region ?_
    refine L_q rfl rfl rfl (q_move rfl) ?_
    refine L_q rfl rfl rfl (q_assign rfl) ?_
    refine L_then ?_
    refine C_ret ?_
    exact ret_of (res1 rfl rfl) sub_nil (by intro r hr; cases hr) ⟨(congrArg (Value.int .i64) (by exact mod_yes h.1 h9)), rfl⟩
  · -- t9 False
    refine C_skip_then ?_
    refine C_seq ?_
    refine C_region ?_
    refine L_q rfl rfl rfl (q_move rfl) ?_
    refine L_q rfl rfl rfl (q_assign rfl) ?_
    refine L_then ?_
    refine C_ret ?_
    exact ret_of (res1 rfl rfl) sub_nil (by intro r hr; cases hr) ⟨(congrArg (Value.int .i64) (by exact mod_no h.1 h9)), rfl⟩
set_option maxRecDepth 100000 in
set_option maxHeartbeats 1000000 in
theorem ct_divided_no (nm : ByteArray) (sf : Int) (v u : Value) (gs : List Gs) (ls : List Dl) (H : okPl sf gs ls) (k : Nat) (hk : k < ls.length) (c : Int) (hc : 0 ≤ c ∧ c ≤ 1000000) (hdv : ¬ dvP ls k c) : Ct Try.prog 50 [.agg (cPl nm sf v u).toArray, .int .i64 (k : Int), .int .i64 c] [(v, 2, gs.map cGs), (u, 3, ls.map cDl)] (isV (.tuple #[.agg (cPl nm sf v u).toArray, .bool false])) := by
  refine Ct.of (N := 88) Try.func50 rfl rfl rfl fun w => ?_
  refine C_weak (E' := [(0, .agg (cPl nm sf v u).toArray), (1, .int .i64 (k : Int)), (2, .int .i64 c)]) (rs' := [rd v 2 (gs.map cGs), rd u 3 (ls.map cDl)]) ⟨rfl, rfl, rfl, trivial⟩ (fun _ h => h) ?_
  refine C_form (v := v) gvo (fun Av cv hv _ => ?_)
  subst hv
  refine C_form (v := u) gvo (fun Au cu hu _ => ?_)
  subst hu
  have hl1 := len_map cGs gs
  have hl2 := len_map cDl ls
  have hgl := H.gl; have hll := H.ll; have hds := (H.at hk).s; have hdd := (H.at hk).d; have hdep := H.dep (k := k) (by omega); have hdg := (H.at hk).g; have hmv := dv_mv H hk hc
  have elk := dl_cell hk
  refine C_seq ?_
  refine C_region ?_
  refine L_box rfl rfl rfl fun g3 => ?_
  refine L_alloc tb rfl rfl fun g6 => ?_
  refine L_q rfl rfl rfl (q_assign rfl) ?_
  refine L_then ?_
  refine C_seq ?_
  refine C_region ?_
  refine L_q rfl rfl rfl (q_assign rfl) ?_
  refine L_then ?_
  refine C_cut (ι := Unit) (fun _p => ([(1, .int .i64 (k : Int)), (2, .int .i64 c), (3, .pointer (some ⟨g3, 0, none⟩)), (6, .pointer (some ⟨g6, 0, none⟩)), (7, .bool false), (8, .int .i64 ((depAt ls k)))], [box g6 44 [.string "".toUTF8, .int .i64 0, .slice none 0 0, .slice none 0 0], box g3 44 (cPl nm sf (.slice Av (gs.map cGs).length cv) (.slice Au (ls.map cDl).length cu)), rd (.slice Av (gs.map cGs).length cv) 2 (gs.map cGs), rd (.slice Au (ls.map cDl).length cu) 3 (ls.map cDl)])) (fun _p => True) ?_ ?_
  · -- ahead
    refine C_seq ?_
    refine C_region ?_
    refine L_q rfl rfl rfl (q_move rfl) ?_
    refine L_q rfl rfl rfl (q_gtr rfl rfl) ?_
    refine L_then ?_
    refine C_dec rfl (fun h0 => ?_) (fun h0 => ?_)
    · -- t14 True
      have el0 := dl_cell (ls := ls) (k := k - 1) (by omega)
      refine C_region ?_
      refine L_q rfl rfl rfl (q_field tb rfl rfl rfl) ?_
      refine L_q rfl rfl rfl (q_load tb rfl rfl bxo rfl) ?_
      refine L_q rfl rfl rfl (q_move rfl) ?_
      refine L_q rfl rfl rfl (q_sub rfl rfl (by first | exact IntWalk.i64_in _ (by omega) | rfl)) ?_
      refine L_q rfl rfl rfl (by first | exact q_index tb rfl rfl rfl rfl (by first | exact gvo | exact gvd gvo (by omega)) (by omega) (by first | omega | (simp; done) | (simp; omega)) | exact q_indexP tb rfl rfl rfl rfl (by omega) (by omega)) ?_
      refine L_q rfl rfl rfl (q_fieldE tb rfl rfl rfl (by first | exact gvo | exact gvd gvo (by omega)) (by first | omega | (simp; done) | (simp; omega))) ?_
      refine L_q rfl rfl rfl (q_loadE tb rfl rfl (by first | exact gvo | exact gvd gvo (by omega)) (i := k - 1) (o := 1) (by omega) el0 rfl) ?_
      refine L_q rfl rfl rfl (q_assign rfl) ?_
      refine L_end ?_
      exact fun ac_ wo_ hs_ => ⟨(), trivial, hs_.weak ⟨rfl, rfl, rfl, rfl, rfl, en (depAt_pos (by omega)).symm, trivial⟩ (fun h => h.pk (by repeat (first | with_reducible exact pk_nil | refine pk_box rfl ?_ | refine pk_rd rfl ?_ | refine pk_sl rfl ?_ | with_reducible refine pk_app ?_ | with_reducible refine pk_app0 ?_ | with_reducible refine pk_app0L ?_ | with_reducible exact pk_tl | refine pk_var ?_)))⟩
    · -- t14 False
      refine C_skip ?_
      exact fun ac_ wo_ hs_ => ⟨(), trivial, hs_.weak ⟨rfl, rfl, rfl, rfl, rfl, en (by have e0 : k = 0 := (by omega); subst e0; rfl), trivial⟩ (fun h => h.pk (by repeat (first | with_reducible exact pk_nil | refine pk_box rfl ?_ | refine pk_rd rfl ?_ | refine pk_sl rfl ?_ | with_reducible refine pk_app ?_ | with_reducible refine pk_app0 ?_ | with_reducible refine pk_app0L ?_ | with_reducible exact pk_tl | refine pk_var ?_)))⟩
  · -- behind
    intro _ _
    dsimp only
    refine C_seq ?_
    refine C_region ?_
    refine L_q rfl rfl rfl (q_field tb rfl rfl rfl) ?_
    refine L_q rfl rfl rfl (q_load tb rfl rfl bxo rfl) ?_
    refine L_q rfl rfl rfl (q_move rfl) ?_
    refine L_q rfl rfl rfl (by first | exact q_index tb rfl rfl rfl rfl (by first | exact gvo | exact gvd gvo (by omega)) (by omega) (by first | omega | (simp; done) | (simp; omega)) | exact q_indexP tb rfl rfl rfl rfl (by omega) (by omega)) ?_
    refine L_q rfl rfl rfl (q_loadEA tb rfl rfl (by first | exact gvo | exact gvd gvo (by omega)) (i := k) (o := 0) (by omega) elk rfl rfl) ?_
    refine L_alloc tb rfl rfl fun g9 => ?_
    first | refine L_store tb rfl rfl rfl rfl rfl rfl rfl rfl ?_ | (refine L_front1 ?_; refine L_store tb rfl rfl rfl rfl rfl rfl rfl rfl ?_) | (refine L_front2 ?_; refine L_store tb rfl rfl rfl rfl rfl rfl rfl rfl ?_) | (refine L_front3 ?_; refine L_store tb rfl rfl rfl rfl rfl rfl rfl rfl ?_) | (refine L_front4 ?_; refine L_store tb rfl rfl rfl rfl rfl rfl rfl rfl ?_) | (refine L_front5 ?_; refine L_store tb rfl rfl rfl rfl rfl rfl rfl rfl ?_) | (refine L_front6 ?_; refine L_store tb rfl rfl rfl rfl rfl rfl rfl rfl ?_)
    refine L_then ?_
    refine C_seq ?_
    refine C_region ?_
    refine L_q rfl rfl rfl (q_field tb rfl rfl rfl) ?_
    refine L_q rfl rfl rfl (q_load tb rfl rfl bxo rfl) ?_
    refine L_q rfl rfl rfl (q_move rfl) ?_
    refine L_q rfl rfl rfl (q_sub rfl rfl (by first | exact IntWalk.i64_in _ (by omega) | rfl)) ?_
    refine L_q rfl rfl rfl (q_move rfl) ?_
    refine L_q rfl rfl rfl (q_mul rfl rfl (by first | exact IntWalk.i64_in _ (by omega) | rfl)) ?_
    refine L_q rfl rfl rfl (q_assign rfl) ?_
    refine L_then ?_
    refine C_seq ?_
    refine C_seq ?_
    refine C_region ?_
    refine L_q rfl rfl rfl (q_move rfl) ?_
    refine L_q rfl rfl rfl (q_leq rfl rfl) ?_
    refine L_q rfl rfl rfl (q_move rfl) ?_
    refine L_dec (d := 35) rfl (fun h35 => ?_) (fun h35 => ?_)
    · -- t35 True
      refine L_skip rfl rfl rfl rfl rfl rfl rfl ?_
      refine L_skip rfl rfl rfl rfl rfl rfl rfl ?_
      refine L_skip rfl rfl rfl rfl rfl rfl rfl ?_
      refine L_skip rfl rfl rfl rfl rfl rfl rfl ?_
      refine L_q rfl rfl rfl (by first | exact q_pickT rfl rfl | exact q_pickF rfl rfl) ?_
      refine L_q rfl rfl rfl (q_move rfl) ?_
      refine L_skip rfl rfl rfl rfl rfl rfl rfl ?_
      refine L_skip rfl rfl rfl rfl rfl rfl rfl ?_
      refine L_skip rfl rfl rfl rfl rfl rfl rfl ?_
      refine L_skip rfl rfl rfl rfl rfl rfl rfl ?_
      refine L_skip rfl rfl rfl rfl rfl rfl rfl ?_
      refine L_q rfl rfl rfl (by first | exact q_pickT rfl rfl | exact q_pickF rfl rfl) ?_
      refine L_then ?_
      refine C_true rfl ?_
      refine C_seq ?_
      refine C_region ?_
      refine L_q rfl rfl rfl (q_loadA tb rfl rfl bxo rfl rfl) ?_
      first | refine L_store tb rfl rfl rfl rfl rfl rfl rfl rfl ?_ | (refine L_front1 ?_; refine L_store tb rfl rfl rfl rfl rfl rfl rfl rfl ?_) | (refine L_front2 ?_; refine L_store tb rfl rfl rfl rfl rfl rfl rfl rfl ?_) | (refine L_front3 ?_; refine L_store tb rfl rfl rfl rfl rfl rfl rfl rfl ?_) | (refine L_front4 ?_; refine L_store tb rfl rfl rfl rfl rfl rfl rfl rfl ?_) | (refine L_front5 ?_; refine L_store tb rfl rfl rfl rfl rfl rfl rfl rfl ?_) | (refine L_front6 ?_; refine L_store tb rfl rfl rfl rfl rfl rfl rfl rfl ?_)
      refine L_q rfl rfl rfl (q_assign rfl) ?_
      refine L_then ?_
      refine C_ret ?_
      exact ret_of (rs' := []) (resCT tb rfl rfl rfl rfl bxo rfl) sub_nil (by intro r hr; cases hr) ⟨rfl, rfl⟩
    · -- t35 False
      refine L_qg rfl rfl rfl rfl rfl rfl rfl (q_move rfl) ?_
      refine L_qg rfl rfl rfl rfl rfl rfl rfl (q_field tb rfl rfl rfl) ?_
      refine L_qg rfl rfl rfl rfl rfl rfl rfl (q_load tb rfl rfl bxo rfl) ?_
      refine L_qg rfl rfl rfl rfl rfl rfl rfl (q_geq rfl rfl) ?_
      refine L_q rfl rfl rfl (by first | exact q_pickT rfl rfl | exact q_pickF rfl rfl) ?_
      refine L_q rfl rfl rfl (q_move rfl) ?_
      refine L_dec (d := 41) rfl (fun h41 => ?_) (fun h41 => ?_)
      · -- t41 True
        refine L_skip rfl rfl rfl rfl rfl rfl rfl ?_
        refine L_skip rfl rfl rfl rfl rfl rfl rfl ?_
        refine L_skip rfl rfl rfl rfl rfl rfl rfl ?_
        refine L_skip rfl rfl rfl rfl rfl rfl rfl ?_
        refine L_skip rfl rfl rfl rfl rfl rfl rfl ?_
        refine L_q rfl rfl rfl (by first | exact q_pickT rfl rfl | exact q_pickF rfl rfl) ?_
        refine L_then ?_
        refine C_true rfl ?_
        refine C_seq ?_
        refine C_region ?_
        refine L_q rfl rfl rfl (q_loadA tb rfl rfl bxo rfl rfl) ?_
        first | refine L_store tb rfl rfl rfl rfl rfl rfl rfl rfl ?_ | (refine L_front1 ?_; refine L_store tb rfl rfl rfl rfl rfl rfl rfl rfl ?_) | (refine L_front2 ?_; refine L_store tb rfl rfl rfl rfl rfl rfl rfl rfl ?_) | (refine L_front3 ?_; refine L_store tb rfl rfl rfl rfl rfl rfl rfl rfl ?_) | (refine L_front4 ?_; refine L_store tb rfl rfl rfl rfl rfl rfl rfl rfl ?_) | (refine L_front5 ?_; refine L_store tb rfl rfl rfl rfl rfl rfl rfl rfl ?_) | (refine L_front6 ?_; refine L_store tb rfl rfl rfl rfl rfl rfl rfl rfl ?_)
        refine L_q rfl rfl rfl (q_assign rfl) ?_
        refine L_then ?_
        refine C_ret ?_
        exact ret_of (rs' := []) (resCT tb rfl rfl rfl rfl bxo rfl) sub_nil (by intro r hr; cases hr) ⟨rfl, rfl⟩
      · -- t41 False
        refine L_qg rfl rfl rfl rfl rfl rfl rfl (q_move rfl) ?_
        refine L_qg rfl rfl rfl rfl rfl rfl rfl (q_field tb rfl rfl rfl) ?_
        refine L_qg rfl rfl rfl rfl rfl rfl rfl (q_load tb rfl rfl bxo rfl) ?_
        refine L_callg tb rfl rfl rfl rfl rfl rfl (ct_mod2 (((dlAt ls k).d - depAt ls k) * c) (dlAt ls k).s (by omega)) no_ps rfl ?_
        refine L_qg rfl rfl rfl rfl rfl rfl rfl (q_neq rfl rfl) ?_
        refine L_q rfl rfl rfl (by first | exact q_pickT rfl rfl | exact q_pickF rfl rfl) ?_
        refine L_then ?_
        refine C_dec rfl (fun h47 => ?_) (fun h47 => ?_)
        · -- t47 True
          refine C_seq ?_
          refine C_region ?_
          refine L_q rfl rfl rfl (q_loadA tb rfl rfl bxo rfl rfl) ?_
          first | refine L_store tb rfl rfl rfl rfl rfl rfl rfl rfl ?_ | (refine L_front1 ?_; refine L_store tb rfl rfl rfl rfl rfl rfl rfl rfl ?_) | (refine L_front2 ?_; refine L_store tb rfl rfl rfl rfl rfl rfl rfl rfl ?_) | (refine L_front3 ?_; refine L_store tb rfl rfl rfl rfl rfl rfl rfl rfl ?_) | (refine L_front4 ?_; refine L_store tb rfl rfl rfl rfl rfl rfl rfl rfl ?_) | (refine L_front5 ?_; refine L_store tb rfl rfl rfl rfl rfl rfl rfl rfl ?_) | (refine L_front6 ?_; refine L_store tb rfl rfl rfl rfl rfl rfl rfl rfl ?_)
          refine L_q rfl rfl rfl (q_assign rfl) ?_
          refine L_then ?_
          refine C_ret ?_
          exact ret_of (rs' := []) (resCT tb rfl rfl rfl rfl bxo rfl) sub_nil (by intro r hr; cases hr) ⟨rfl, rfl⟩
        · -- t47 False
          exfalso; exact hdv ⟨by omega, by omega, by omega⟩
set_option maxRecDepth 100000 in
set_option maxHeartbeats 1000000 in
theorem ct_divided_yes (nm : ByteArray) (sf : Int) (v u : Value) (gs : List Gs) (ls : List Dl) (H : okPl sf gs ls) (k : Nat) (hk : k < ls.length) (c : Int) (hc : 0 ≤ c ∧ c ≤ 1000000) (hdv : dvP ls k c) : Ct Try.prog 50 [.agg (cPl nm sf v u).toArray, .int .i64 (k : Int), .int .i64 c] [(v, 2, gs.map cGs), (u, 3, ls.map cDl)] (fun y rs => ∃ a b, y = .tuple #[.agg (cPl nm sf a b).toArray, .bool (decide ((((dvL ls k c).map cDl).length : Int) ≤ 60))] ∧ rs = [sl b 95 3 ((dvL ls k c).map cDl), sl a 23 2 (gs.map cGs)]) := by
  refine Ct.of (N := 88) Try.func50 rfl rfl rfl fun w => ?_
  refine C_weak (E' := [(0, .agg (cPl nm sf v u).toArray), (1, .int .i64 (k : Int)), (2, .int .i64 c)]) (rs' := [rd v 2 (gs.map cGs), rd u 3 (ls.map cDl)]) ⟨rfl, rfl, rfl, trivial⟩ (fun _ h => h) ?_
  refine C_form (v := v) gvo (fun Av cv hv _ => ?_)
  subst hv
  refine C_form (v := u) gvo (fun Au cu hu _ => ?_)
  subst hu
  have hl1 := len_map cGs gs
  have hl2 := len_map cDl ls
  have hgl := H.gl; have hll := H.ll; have hds := (H.at hk).s; have hdd := (H.at hk).d; have hdep := H.dep (k := k) (by omega); have hdg := (H.at hk).g; have hmv := dv_mv H hk hc
  have elk := dl_cell hk
  have hdm := (dv_mid H hk hdv).2; have hd3 : -9000000 ≤ depAt ls k + (((dlAt ls k).d - depAt ls k) * c) / (dlAt ls k).s ∧ depAt ls k + (((dlAt ls k).d - depAt ls k) * c) / (dlAt ls k).s ≤ 9000000 := by unfold dvM at hdm; omega
  obtain ⟨hd0, hd1, hd2⟩ := hdv
  refine C_seq ?_
  refine C_region ?_
  refine L_box rfl rfl rfl fun g3 => ?_
  refine L_alloc tb rfl rfl fun g6 => ?_
  refine L_q rfl rfl rfl (q_assign rfl) ?_
  refine L_then ?_
  refine C_seq ?_
  refine C_region ?_
  refine L_q rfl rfl rfl (q_assign rfl) ?_
  refine L_then ?_
  refine C_cut (ι := Unit) (fun _p => ([(1, .int .i64 (k : Int)), (2, .int .i64 c), (3, .pointer (some ⟨g3, 0, none⟩)), (6, .pointer (some ⟨g6, 0, none⟩)), (7, .bool false), (8, .int .i64 ((depAt ls k)))], [box g6 44 [.string "".toUTF8, .int .i64 0, .slice none 0 0, .slice none 0 0], box g3 44 (cPl nm sf (.slice Av (gs.map cGs).length cv) (.slice Au (ls.map cDl).length cu)), rd (.slice Av (gs.map cGs).length cv) 2 (gs.map cGs), rd (.slice Au (ls.map cDl).length cu) 3 (ls.map cDl)])) (fun _p => True) ?_ ?_
  · -- ahead
    refine C_seq ?_
    refine C_region ?_
    refine L_q rfl rfl rfl (q_move rfl) ?_
    refine L_q rfl rfl rfl (q_gtr rfl rfl) ?_
    refine L_then ?_
    refine C_dec rfl (fun h0 => ?_) (fun h0 => ?_)
    · -- t14 True
      have el0 := dl_cell (ls := ls) (k := k - 1) (by omega)
      refine C_region ?_
      refine L_q rfl rfl rfl (q_field tb rfl rfl rfl) ?_
      refine L_q rfl rfl rfl (q_load tb rfl rfl bxo rfl) ?_
      refine L_q rfl rfl rfl (q_move rfl) ?_
      refine L_q rfl rfl rfl (q_sub rfl rfl (by first | exact IntWalk.i64_in _ (by omega) | rfl)) ?_
      refine L_q rfl rfl rfl (by first | exact q_index tb rfl rfl rfl rfl (by first | exact gvo | exact gvd gvo (by omega)) (by omega) (by first | omega | (simp; done) | (simp; omega)) | exact q_indexP tb rfl rfl rfl rfl (by omega) (by omega)) ?_
      refine L_q rfl rfl rfl (q_fieldE tb rfl rfl rfl (by first | exact gvo | exact gvd gvo (by omega)) (by first | omega | (simp; done) | (simp; omega))) ?_
      refine L_q rfl rfl rfl (q_loadE tb rfl rfl (by first | exact gvo | exact gvd gvo (by omega)) (i := k - 1) (o := 1) (by omega) el0 rfl) ?_
      refine L_q rfl rfl rfl (q_assign rfl) ?_
      refine L_end ?_
      exact fun ac_ wo_ hs_ => ⟨(), trivial, hs_.weak ⟨rfl, rfl, rfl, rfl, rfl, en (depAt_pos (by omega)).symm, trivial⟩ (fun h => h.pk (by repeat (first | with_reducible exact pk_nil | refine pk_box rfl ?_ | refine pk_rd rfl ?_ | refine pk_sl rfl ?_ | with_reducible refine pk_app ?_ | with_reducible refine pk_app0 ?_ | with_reducible refine pk_app0L ?_ | with_reducible exact pk_tl | refine pk_var ?_)))⟩
    · -- t14 False
      refine C_skip ?_
      exact fun ac_ wo_ hs_ => ⟨(), trivial, hs_.weak ⟨rfl, rfl, rfl, rfl, rfl, en (by have e0 : k = 0 := (by omega); subst e0; rfl), trivial⟩ (fun h => h.pk (by repeat (first | with_reducible exact pk_nil | refine pk_box rfl ?_ | refine pk_rd rfl ?_ | refine pk_sl rfl ?_ | with_reducible refine pk_app ?_ | with_reducible refine pk_app0 ?_ | with_reducible refine pk_app0L ?_ | with_reducible exact pk_tl | refine pk_var ?_)))⟩
  · -- behind
    intro _ _
    dsimp only
    refine C_seq ?_
    refine C_region ?_
    refine L_q rfl rfl rfl (q_field tb rfl rfl rfl) ?_
    refine L_q rfl rfl rfl (q_load tb rfl rfl bxo rfl) ?_
    refine L_q rfl rfl rfl (q_move rfl) ?_
    refine L_q rfl rfl rfl (by first | exact q_index tb rfl rfl rfl rfl (by first | exact gvo | exact gvd gvo (by omega)) (by omega) (by first | omega | (simp; done) | (simp; omega)) | exact q_indexP tb rfl rfl rfl rfl (by omega) (by omega)) ?_
    refine L_q rfl rfl rfl (q_loadEA tb rfl rfl (by first | exact gvo | exact gvd gvo (by omega)) (i := k) (o := 0) (by omega) elk rfl rfl) ?_
    refine L_alloc tb rfl rfl fun g9 => ?_
    first | refine L_store tb rfl rfl rfl rfl rfl rfl rfl rfl ?_ | (refine L_front1 ?_; refine L_store tb rfl rfl rfl rfl rfl rfl rfl rfl ?_) | (refine L_front2 ?_; refine L_store tb rfl rfl rfl rfl rfl rfl rfl rfl ?_) | (refine L_front3 ?_; refine L_store tb rfl rfl rfl rfl rfl rfl rfl rfl ?_) | (refine L_front4 ?_; refine L_store tb rfl rfl rfl rfl rfl rfl rfl rfl ?_) | (refine L_front5 ?_; refine L_store tb rfl rfl rfl rfl rfl rfl rfl rfl ?_) | (refine L_front6 ?_; refine L_store tb rfl rfl rfl rfl rfl rfl rfl rfl ?_)
    refine L_then ?_
    refine C_seq ?_
    refine C_region ?_
    refine L_q rfl rfl rfl (q_field tb rfl rfl rfl) ?_
    refine L_q rfl rfl rfl (q_load tb rfl rfl bxo rfl) ?_
    refine L_q rfl rfl rfl (q_move rfl) ?_
    refine L_q rfl rfl rfl (q_sub rfl rfl (by first | exact IntWalk.i64_in _ (by omega) | rfl)) ?_
    refine L_q rfl rfl rfl (q_move rfl) ?_
    refine L_q rfl rfl rfl (q_mul rfl rfl (by first | exact IntWalk.i64_in _ (by omega) | rfl)) ?_
    refine L_q rfl rfl rfl (q_assign rfl) ?_
    refine L_then ?_
    refine C_seq ?_
    refine C_seq ?_
    refine C_region ?_
    refine L_q rfl rfl rfl (q_move rfl) ?_
    refine L_q rfl rfl rfl (q_leq rfl rfl) ?_
    refine L_q rfl rfl rfl (q_move rfl) ?_
    refine L_dec (d := 35) rfl (fun h35 => ?_) (fun h35 => ?_)
    · -- t35 True
      exfalso; omega
    · -- t35 False
      refine L_qg rfl rfl rfl rfl rfl rfl rfl (q_move rfl) ?_
      refine L_qg rfl rfl rfl rfl rfl rfl rfl (q_field tb rfl rfl rfl) ?_
      refine L_qg rfl rfl rfl rfl rfl rfl rfl (q_load tb rfl rfl bxo rfl) ?_
      refine L_qg rfl rfl rfl rfl rfl rfl rfl (q_geq rfl rfl) ?_
      refine L_q rfl rfl rfl (by first | exact q_pickT rfl rfl | exact q_pickF rfl rfl) ?_
      refine L_q rfl rfl rfl (q_move rfl) ?_
      refine L_dec (d := 41) rfl (fun h41 => ?_) (fun h41 => ?_)
      · -- t41 True
        exfalso; omega
      · -- t41 False
        refine L_qg rfl rfl rfl rfl rfl rfl rfl (q_move rfl) ?_
        refine L_qg rfl rfl rfl rfl rfl rfl rfl (q_field tb rfl rfl rfl) ?_
        refine L_qg rfl rfl rfl rfl rfl rfl rfl (q_load tb rfl rfl bxo rfl) ?_
        refine L_callg tb rfl rfl rfl rfl rfl rfl (ct_mod2 (((dlAt ls k).d - depAt ls k) * c) (dlAt ls k).s (by omega)) no_ps rfl ?_
        refine L_qg rfl rfl rfl rfl rfl rfl rfl (q_neq rfl rfl) ?_
        refine L_q rfl rfl rfl (by first | exact q_pickT rfl rfl | exact q_pickF rfl rfl) ?_
        refine L_then ?_
        refine C_dec rfl (fun h47 => ?_) (fun h47 => ?_)
        · -- t47 True
          exfalso; omega
        · -- t47 False
          refine C_skip_then ?_
          refine C_seq ?_
          refine C_region ?_
          refine L_q rfl rfl rfl (q_loadA tb rfl rfl bxo rfl rfl) ?_
          refine L_lo rfl rfl rfl (lo_call tb rfl rfl (ct_shotlinebase_CopyPlan nm sf (.slice Av (gs.map cGs).length cv) (.slice Au (ls.map cDl).length cu) gs ls (by omega) (by omega)) (ps_cons (by first | exact gvo | exact gvd gvo (by omega)) (ps_cons (by first | exact gvo | exact gvd gvo (by omega)) no_ps)) (by rintro y rs ⟨a, b, _, rfl⟩ r hr; simp only [List.mem_cons, List.not_mem_nil, or_false] at hr; rcases hr with rfl | rfl <;> exact sl_sinks _ _ _ _)) ?_
          rintro _ _ ⟨a50, b50, rfl, rfl⟩
          refine L_form (v := a50) gvo (fun A50 c50 hv50 _ => ?_)
          subst hv50
          refine L_form (v := b50) gvo (fun B50 d50 hw50 _ => ?_)
          subst hw50
          refine L_alloc tb rfl rfl fun g11 => ?_
          first | refine L_store tb rfl rfl rfl rfl rfl rfl rfl rfl ?_ | (refine L_front1 ?_; refine L_store tb rfl rfl rfl rfl rfl rfl rfl rfl ?_) | (refine L_front2 ?_; refine L_store tb rfl rfl rfl rfl rfl rfl rfl rfl ?_) | (refine L_front3 ?_; refine L_store tb rfl rfl rfl rfl rfl rfl rfl rfl ?_) | (refine L_front4 ?_; refine L_store tb rfl rfl rfl rfl rfl rfl rfl rfl ?_) | (refine L_front5 ?_; refine L_store tb rfl rfl rfl rfl rfl rfl rfl rfl ?_) | (refine L_front6 ?_; refine L_store tb rfl rfl rfl rfl rfl rfl rfl rfl ?_)
          refine L_then ?_
          refine C_seq ?_
          refine C_drawA1 tb (n := 11) (k := 10) [(0, false), (1, false), (2, false), (3, false), (4, false), (7, false), (8, false), (5, true), (6, false), (9, false)] mixed rfl rfl rfl (by kernel_rfl) rfl ?_
          refine W_q rfl rfl rfl rfl (q_move rfl) ?_
          refine W_q rfl rfl rfl rfl (q_move rfl) ?_
          refine W_q rfl rfl rfl rfl (q_move rfl) ?_
          refine W_q rfl rfl rfl rfl (q_field tb rfl rfl rfl) ?_
          refine W_q rfl rfl rfl rfl (q_load tb rfl rfl bxo rfl) ?_
          refine W_q rfl rfl rfl rfl (q_field tb rfl rfl rfl) ?_
          refine W_q rfl rfl rfl rfl (q_load tb rfl rfl bxo rfl) ?_
          refine W_call tb rfl rfl rfl rfl (ct_shotlinebase_Floor (((dlAt ls k).d - depAt ls k) * c) (dlAt ls k).s (by omega)) no_ps rfl ?_
          refine W_q rfl rfl rfl rfl (q_add rfl rfl (by first | exact IntWalk.i64_in _ (by omega) | rfl)) ?_
          refine W_q rfl rfl rfl rfl (by first | exact q_build tb rfl rfl rfl rfl | exact q_buildArr tb rfl rfl rfl rfl rfl) ?_
          refine W_nil ?_
          intro g12
          first | refine L_store tb rfl rfl rfl rfl rfl rfl rfl rfl ?_ | (refine L_front1 ?_; refine L_store tb rfl rfl rfl rfl rfl rfl rfl rfl ?_) | (refine L_front2 ?_; refine L_store tb rfl rfl rfl rfl rfl rfl rfl rfl ?_) | (refine L_front3 ?_; refine L_store tb rfl rfl rfl rfl rfl rfl rfl rfl ?_) | (refine L_front4 ?_; refine L_store tb rfl rfl rfl rfl rfl rfl rfl rfl ?_) | (refine L_front5 ?_; refine L_store tb rfl rfl rfl rfl rfl rfl rfl rfl ?_) | (refine L_front6 ?_; refine L_store tb rfl rfl rfl rfl rfl rfl rfl rfl ?_)
          refine L_then ?_
          refine C_seq ?_
          refine C_region ?_
          refine L_q rfl rfl rfl (q_field tb rfl rfl rfl) ?_
          refine L_q rfl rfl rfl (q_load tb rfl rfl bxo rfl) ?_
          refine L_q rfl rfl rfl (q_move rfl) ?_
          refine L_q rfl rfl rfl (q_sub rfl rfl (by first | exact IntWalk.i64_in _ (by omega) | rfl)) ?_
          refine L_q rfl rfl rfl (q_field tb rfl rfl rfl) ?_
          first | refine L_store tb rfl rfl rfl rfl rfl rfl rfl rfl ?_ | (refine L_front1 ?_; refine L_store tb rfl rfl rfl rfl rfl rfl rfl rfl ?_) | (refine L_front2 ?_; refine L_store tb rfl rfl rfl rfl rfl rfl rfl rfl ?_) | (refine L_front3 ?_; refine L_store tb rfl rfl rfl rfl rfl rfl rfl rfl ?_) | (refine L_front4 ?_; refine L_store tb rfl rfl rfl rfl rfl rfl rfl rfl ?_) | (refine L_front5 ?_; refine L_store tb rfl rfl rfl rfl rfl rfl rfl rfl ?_) | (refine L_front6 ?_; refine L_store tb rfl rfl rfl rfl rfl rfl rfl rfl ?_)
          refine L_then ?_
          refine C_seq ?_
          refine C_res (rs' := [box g11 44 (cPl nm sf (.slice A50 (gs.map cGs).length c50) (.slice B50 (ls.map cDl).length d50)), box g12 95 (cDl (dvA ls k c)), box g9 95 (cDl (dvB ls k c)), box g3 44 (cPl nm sf (.slice Av (gs.map cGs).length cv) (.slice Au (ls.map cDl).length cu)), box g6 44 [.string "".toUTF8, .int .i64 0, .slice none 0 0, .slice none 0 0], sl (.slice A50 (gs.map cGs).length c50) 23 2 (gs.map cGs), rd (.slice Av (gs.map cGs).length cv) 2 (gs.map cGs), rd (.slice Au (ls.map cDl).length cu) 3 (ls.map cDl)]) (fun _ h => h.pk (by repeat (first | with_reducible exact pk_nil | refine pk_box rfl ?_ | refine pk_rd rfl ?_ | refine pk_sl rfl ?_ | with_reducible refine pk_app ?_ | with_reducible refine pk_app0 ?_ | with_reducible refine pk_app0L ?_ | with_reducible exact pk_tl | refine pk_var ?_))) ?_
          refine Kp.C_treeO1 (ι := Value) (.q 1 (.q 2 (.q 3 (.q 4 (.q 6 (.q 7 (.q 10 (.q 11 (.q 12 (.q 13 (.q 14 (.s2 0 8 (.s2 5 8 (.s 8 (.s 9 (.s 15 (.q 16 (.s 17 .nil))))) (.s 5 (.s 9 (.s 15 (.q 16 (.s 17 .nil)))))) (.s 0 (.s 5 (.s 9 (.s 15 (.q 16 (.s 17 .nil)))))))))))))))))) (fun q => ([(6, .pointer (some ⟨g6, 0, none⟩)), (7, .bool false), (11, .pointer (some ⟨g11, 0, none⟩))], [box g6 44 [.string "".toUTF8, .int .i64 0, .slice none 0 0, .slice none 0 0], box g11 44 (cPl nm sf (.slice A50 (gs.map cGs).length c50) q), sl q 95 3 ((dvL ls k c).map cDl), sl (.slice A50 (gs.map cGs).length c50) 23 2 (gs.map cGs)])) mixed (by kernel_rfl) rfl (by kernel_rfl) ?_ ?_
          · skip
            refine Kp.Z_q rfl rfl rfl rfl (q_field tb rfl rfl rfl) ?_
            refine Kp.Z_q rfl rfl rfl rfl (q_load tb rfl rfl bxo rfl) ?_
            refine Kp.Z_q rfl rfl rfl rfl (q_move rfl) ?_
            refine Kp.Z_q rfl rfl rfl rfl (q_to tb rfl rfl rfl rfl (by first | exact gvo | exact gvd gvo (by omega)) (by omega) (by first | omega | (simp; done) | (simp; omega))) ?_
            refine Kp.Z_q rfl rfl rfl rfl (q_loadA tb rfl rfl bxo rfl rfl) ?_
            refine Kp.Z_q rfl rfl rfl rfl (q_loadA tb rfl rfl bxo rfl rfl) ?_
            refine Kp.Z_q rfl rfl rfl rfl (q_field tb rfl rfl rfl) ?_
            refine Kp.Z_q rfl rfl rfl rfl (q_load tb rfl rfl bxo rfl) ?_
            refine Kp.Z_q rfl rfl rfl rfl (q_move rfl) ?_
            refine Kp.Z_q rfl rfl rfl rfl (q_add rfl rfl (by first | exact IntWalk.i64_in _ (by omega) | rfl)) ?_
            refine Kp.Z_q rfl rfl rfl rfl (q_from tb rfl rfl rfl rfl (by first | exact gvo | exact gvd gvo (by omega)) (by omega) (by first | omega | (simp; done) | (simp; omega))) ?_
            refine Kp.Z_s2 ?_ ?_
            · skip
              refine Kp.St_mk rfl rfl rfl rfl (lo_bslice tb rfl rfl rfl (xs := []) rfl rfl (by simp) rfl (by omega) rfl) fun v66 => ?_
              refine Kp.Z_s2 ?_ ?_
              · skip
                first | refine Kp.St_append tb rfl rfl rfl (List.Perm.refl _) rfl rfl rfl (by omega) rfl rfl (l2 := (ls.map cDl).take k) (gvt gvo (by omega)) (by rw [← List.map_take]; exact oneDl _) (by simp [maxLen]; omega) (by simp; omega) fun v71 => ?_ | refine Kp.St_append tb rfl rfl rfl perm1 rfl rfl rfl (by omega) rfl rfl (l2 := (ls.map cDl).take k) (gvt gvo (by omega)) (by rw [← List.map_take]; exact oneDl _) (by simp [maxLen]; omega) (by simp; omega) fun v71 => ?_ | refine Kp.St_append tb rfl rfl rfl (perm_front (pre := [_, _])) rfl rfl rfl (by omega) rfl rfl (l2 := (ls.map cDl).take k) (gvt gvo (by omega)) (by rw [← List.map_take]; exact oneDl _) (by simp [maxLen]; omega) (by simp; omega) fun v71 => ?_ | refine Kp.St_append tb rfl rfl rfl (perm_front (pre := [_, _, _])) rfl rfl rfl (by omega) rfl rfl (l2 := (ls.map cDl).take k) (gvt gvo (by omega)) (by rw [← List.map_take]; exact oneDl _) (by simp [maxLen]; omega) (by simp; omega) fun v71 => ?_ | refine Kp.St_append tb rfl rfl rfl (perm_front (pre := [_, _, _, _])) rfl rfl rfl (by omega) rfl rfl (l2 := (ls.map cDl).take k) (gvt gvo (by omega)) (by rw [← List.map_take]; exact oneDl _) (by simp [maxLen]; omega) (by simp; omega) fun v71 => ?_
                refine Kp.Z_s ?_
                refine Kp.St_mk rfl rfl rfl rfl (lo_bslice tb rfl rfl rfl (xs := [cDl (dvA ls k c), cDl (dvB ls k c)]) rfl rfl (by simp [cDl]) rfl (by omega) rfl) fun v74 => ?_
                refine Kp.Z_s ?_
                first | refine Kp.St_append tb rfl rfl rfl (List.Perm.refl _) rfl rfl rfl (by omega) rfl rfl (l2 := [cDl (dvA ls k c), cDl (dvB ls k c)]) (by first | exact gs0 | exact gv1 gs0) (by simp [Value.oneCell', cDl]) (by simp [maxLen]; omega) (by simp; omega) fun v75 => ?_ | refine Kp.St_append tb rfl rfl rfl perm1 rfl rfl rfl (by omega) rfl rfl (l2 := [cDl (dvA ls k c), cDl (dvB ls k c)]) (by first | exact gs0 | exact gv1 gs0) (by simp [Value.oneCell', cDl]) (by simp [maxLen]; omega) (by simp; omega) fun v75 => ?_ | refine Kp.St_append tb rfl rfl rfl (perm_front (pre := [_, _])) rfl rfl rfl (by omega) rfl rfl (l2 := [cDl (dvA ls k c), cDl (dvB ls k c)]) (by first | exact gs0 | exact gv1 gs0) (by simp [Value.oneCell', cDl]) (by simp [maxLen]; omega) (by simp; omega) fun v75 => ?_ | refine Kp.St_append tb rfl rfl rfl (perm_front (pre := [_, _, _])) rfl rfl rfl (by omega) rfl rfl (l2 := [cDl (dvA ls k c), cDl (dvB ls k c)]) (by first | exact gs0 | exact gv1 gs0) (by simp [Value.oneCell', cDl]) (by simp [maxLen]; omega) (by simp; omega) fun v75 => ?_ | refine Kp.St_append tb rfl rfl rfl (perm_front (pre := [_, _, _, _])) rfl rfl rfl (by omega) rfl rfl (l2 := [cDl (dvA ls k c), cDl (dvB ls k c)]) (by first | exact gs0 | exact gv1 gs0) (by simp [Value.oneCell', cDl]) (by simp [maxLen]; omega) (by simp; omega) fun v75 => ?_
                refine Kp.Z_s ?_
                first | refine Kp.St_append tb rfl rfl rfl (List.Perm.refl _) rfl rfl rfl (by omega) rfl rfl (l2 := (ls.map cDl).drop (k + 1)) (gvd gvo (by omega)) (by rw [← List.map_drop]; exact oneDl _) (by simp [maxLen]; omega) (by simp; omega) fun v81 => ?_ | refine Kp.St_append tb rfl rfl rfl perm1 rfl rfl rfl (by omega) rfl rfl (l2 := (ls.map cDl).drop (k + 1)) (gvd gvo (by omega)) (by rw [← List.map_drop]; exact oneDl _) (by simp [maxLen]; omega) (by simp; omega) fun v81 => ?_ | refine Kp.St_append tb rfl rfl rfl (perm_front (pre := [_, _])) rfl rfl rfl (by omega) rfl rfl (l2 := (ls.map cDl).drop (k + 1)) (gvd gvo (by omega)) (by rw [← List.map_drop]; exact oneDl _) (by simp [maxLen]; omega) (by simp; omega) fun v81 => ?_ | refine Kp.St_append tb rfl rfl rfl (perm_front (pre := [_, _, _])) rfl rfl rfl (by omega) rfl rfl (l2 := (ls.map cDl).drop (k + 1)) (gvd gvo (by omega)) (by rw [← List.map_drop]; exact oneDl _) (by simp [maxLen]; omega) (by simp; omega) fun v81 => ?_ | refine Kp.St_append tb rfl rfl rfl (perm_front (pre := [_, _, _, _])) rfl rfl rfl (by omega) rfl rfl (l2 := (ls.map cDl).drop (k + 1)) (gvd gvo (by omega)) (by rw [← List.map_drop]; exact oneDl _) (by simp [maxLen]; omega) (by simp; omega) fun v81 => ?_
                refine Kp.Z_q rfl rfl rfl rfl (q_field tb rfl rfl rfl) ?_
                refine Kp.Z_s ?_
                first | refine Kp.St_storeV tb rfl rfl (List.Perm.refl _) rfl rfl rfl gvo rfl rfl ?_ | refine Kp.St_storeV tb rfl rfl perm1 rfl rfl rfl gvo rfl rfl ?_ | refine Kp.St_storeV tb rfl rfl (perm_front (pre := [_, _])) rfl rfl rfl gvo rfl rfl ?_ | refine Kp.St_storeV tb rfl rfl (perm_front (pre := [_, _, _])) rfl rfl rfl gvo rfl rfl ?_ | refine Kp.St_storeV tb rfl rfl (perm_front (pre := [_, _, _, _])) rfl rfl rfl gvo rfl rfl ?_
                refine Kp.Z_nil ?_
                try dsimp only [List.append, List.cons_append, List.nil_append]
                exact ⟨v81, fun a_ w_ hs_ => hs_.weak ⟨rfl, rfl, rfl, trivial⟩ (fun h => h.pk (by repeat (first | with_reducible exact pk_nil | refine pk_box (by first | rfl | exact (dv_cells _ _ _)) ?_ | refine pk_rd rfl ?_ | refine pk_sl (by first | rfl | exact (dv_cells _ _ _)) ?_ | with_reducible refine pk_app ?_ | with_reducible refine pk_app0 ?_ | with_reducible refine pk_app0L ?_ | with_reducible exact pk_tl | refine pk_var ?_)))⟩
              · skip
                refine Kp.St_mk rfl rfl rfl rfl (lo_bslice tb rfl rfl rfl (xs := [cDl (dvA ls k c), cDl (dvB ls k c)]) rfl rfl (by simp [cDl]) rfl (by omega) rfl) fun v74 => ?_
                refine Kp.Z_s ?_
                first | refine Kp.St_append tb rfl rfl rfl (List.Perm.refl _) rfl rfl rfl (by omega) rfl rfl (l2 := (ls.map cDl).take k) (gvt gvo (by omega)) (by rw [← List.map_take]; exact oneDl _) (by simp [maxLen]; omega) (by simp; omega) fun v71 => ?_ | refine Kp.St_append tb rfl rfl rfl perm1 rfl rfl rfl (by omega) rfl rfl (l2 := (ls.map cDl).take k) (gvt gvo (by omega)) (by rw [← List.map_take]; exact oneDl _) (by simp [maxLen]; omega) (by simp; omega) fun v71 => ?_ | refine Kp.St_append tb rfl rfl rfl (perm_front (pre := [_, _])) rfl rfl rfl (by omega) rfl rfl (l2 := (ls.map cDl).take k) (gvt gvo (by omega)) (by rw [← List.map_take]; exact oneDl _) (by simp [maxLen]; omega) (by simp; omega) fun v71 => ?_ | refine Kp.St_append tb rfl rfl rfl (perm_front (pre := [_, _, _])) rfl rfl rfl (by omega) rfl rfl (l2 := (ls.map cDl).take k) (gvt gvo (by omega)) (by rw [← List.map_take]; exact oneDl _) (by simp [maxLen]; omega) (by simp; omega) fun v71 => ?_ | refine Kp.St_append tb rfl rfl rfl (perm_front (pre := [_, _, _, _])) rfl rfl rfl (by omega) rfl rfl (l2 := (ls.map cDl).take k) (gvt gvo (by omega)) (by rw [← List.map_take]; exact oneDl _) (by simp [maxLen]; omega) (by simp; omega) fun v71 => ?_
                refine Kp.Z_s ?_
                first | refine Kp.St_append tb rfl rfl rfl (List.Perm.refl _) rfl rfl rfl (by omega) rfl rfl (l2 := [cDl (dvA ls k c), cDl (dvB ls k c)]) (by first | exact gs0 | exact gv1 gs0) (by simp [Value.oneCell', cDl]) (by simp [maxLen]; omega) (by simp; omega) fun v75 => ?_ | refine Kp.St_append tb rfl rfl rfl perm1 rfl rfl rfl (by omega) rfl rfl (l2 := [cDl (dvA ls k c), cDl (dvB ls k c)]) (by first | exact gs0 | exact gv1 gs0) (by simp [Value.oneCell', cDl]) (by simp [maxLen]; omega) (by simp; omega) fun v75 => ?_ | refine Kp.St_append tb rfl rfl rfl (perm_front (pre := [_, _])) rfl rfl rfl (by omega) rfl rfl (l2 := [cDl (dvA ls k c), cDl (dvB ls k c)]) (by first | exact gs0 | exact gv1 gs0) (by simp [Value.oneCell', cDl]) (by simp [maxLen]; omega) (by simp; omega) fun v75 => ?_ | refine Kp.St_append tb rfl rfl rfl (perm_front (pre := [_, _, _])) rfl rfl rfl (by omega) rfl rfl (l2 := [cDl (dvA ls k c), cDl (dvB ls k c)]) (by first | exact gs0 | exact gv1 gs0) (by simp [Value.oneCell', cDl]) (by simp [maxLen]; omega) (by simp; omega) fun v75 => ?_ | refine Kp.St_append tb rfl rfl rfl (perm_front (pre := [_, _, _, _])) rfl rfl rfl (by omega) rfl rfl (l2 := [cDl (dvA ls k c), cDl (dvB ls k c)]) (by first | exact gs0 | exact gv1 gs0) (by simp [Value.oneCell', cDl]) (by simp [maxLen]; omega) (by simp; omega) fun v75 => ?_
                refine Kp.Z_s ?_
                first | refine Kp.St_append tb rfl rfl rfl (List.Perm.refl _) rfl rfl rfl (by omega) rfl rfl (l2 := (ls.map cDl).drop (k + 1)) (gvd gvo (by omega)) (by rw [← List.map_drop]; exact oneDl _) (by simp [maxLen]; omega) (by simp; omega) fun v81 => ?_ | refine Kp.St_append tb rfl rfl rfl perm1 rfl rfl rfl (by omega) rfl rfl (l2 := (ls.map cDl).drop (k + 1)) (gvd gvo (by omega)) (by rw [← List.map_drop]; exact oneDl _) (by simp [maxLen]; omega) (by simp; omega) fun v81 => ?_ | refine Kp.St_append tb rfl rfl rfl (perm_front (pre := [_, _])) rfl rfl rfl (by omega) rfl rfl (l2 := (ls.map cDl).drop (k + 1)) (gvd gvo (by omega)) (by rw [← List.map_drop]; exact oneDl _) (by simp [maxLen]; omega) (by simp; omega) fun v81 => ?_ | refine Kp.St_append tb rfl rfl rfl (perm_front (pre := [_, _, _])) rfl rfl rfl (by omega) rfl rfl (l2 := (ls.map cDl).drop (k + 1)) (gvd gvo (by omega)) (by rw [← List.map_drop]; exact oneDl _) (by simp [maxLen]; omega) (by simp; omega) fun v81 => ?_ | refine Kp.St_append tb rfl rfl rfl (perm_front (pre := [_, _, _, _])) rfl rfl rfl (by omega) rfl rfl (l2 := (ls.map cDl).drop (k + 1)) (gvd gvo (by omega)) (by rw [← List.map_drop]; exact oneDl _) (by simp [maxLen]; omega) (by simp; omega) fun v81 => ?_
                refine Kp.Z_q rfl rfl rfl rfl (q_field tb rfl rfl rfl) ?_
                refine Kp.Z_s ?_
                first | refine Kp.St_storeV tb rfl rfl (List.Perm.refl _) rfl rfl rfl gvo rfl rfl ?_ | refine Kp.St_storeV tb rfl rfl perm1 rfl rfl rfl gvo rfl rfl ?_ | refine Kp.St_storeV tb rfl rfl (perm_front (pre := [_, _])) rfl rfl rfl gvo rfl rfl ?_ | refine Kp.St_storeV tb rfl rfl (perm_front (pre := [_, _, _])) rfl rfl rfl gvo rfl rfl ?_ | refine Kp.St_storeV tb rfl rfl (perm_front (pre := [_, _, _, _])) rfl rfl rfl gvo rfl rfl ?_
                refine Kp.Z_nil ?_
                try dsimp only [List.append, List.cons_append, List.nil_append]
                exact ⟨v81, fun a_ w_ hs_ => hs_.weak ⟨rfl, rfl, rfl, trivial⟩ (fun h => h.pk (by repeat (first | with_reducible exact pk_nil | refine pk_box (by first | rfl | exact (dv_cells _ _ _)) ?_ | refine pk_rd rfl ?_ | refine pk_sl (by first | rfl | exact (dv_cells _ _ _)) ?_ | with_reducible refine pk_app ?_ | with_reducible refine pk_app0 ?_ | with_reducible refine pk_app0L ?_ | with_reducible exact pk_tl | refine pk_var ?_)))⟩
            · skip
              refine Kp.St_mk rfl rfl rfl rfl (lo_bslice tb rfl rfl rfl (xs := [cDl (dvA ls k c), cDl (dvB ls k c)]) rfl rfl (by simp [cDl]) rfl (by omega) rfl) fun v74 => ?_
              refine Kp.Z_s ?_
              refine Kp.St_mk rfl rfl rfl rfl (lo_bslice tb rfl rfl rfl (xs := []) rfl rfl (by simp) rfl (by omega) rfl) fun v66 => ?_
              refine Kp.Z_s ?_
              first | refine Kp.St_append tb rfl rfl rfl (List.Perm.refl _) rfl rfl rfl (by omega) rfl rfl (l2 := (ls.map cDl).take k) (gvt gvo (by omega)) (by rw [← List.map_take]; exact oneDl _) (by simp [maxLen]; omega) (by simp; omega) fun v71 => ?_ | refine Kp.St_append tb rfl rfl rfl perm1 rfl rfl rfl (by omega) rfl rfl (l2 := (ls.map cDl).take k) (gvt gvo (by omega)) (by rw [← List.map_take]; exact oneDl _) (by simp [maxLen]; omega) (by simp; omega) fun v71 => ?_ | refine Kp.St_append tb rfl rfl rfl (perm_front (pre := [_, _])) rfl rfl rfl (by omega) rfl rfl (l2 := (ls.map cDl).take k) (gvt gvo (by omega)) (by rw [← List.map_take]; exact oneDl _) (by simp [maxLen]; omega) (by simp; omega) fun v71 => ?_ | refine Kp.St_append tb rfl rfl rfl (perm_front (pre := [_, _, _])) rfl rfl rfl (by omega) rfl rfl (l2 := (ls.map cDl).take k) (gvt gvo (by omega)) (by rw [← List.map_take]; exact oneDl _) (by simp [maxLen]; omega) (by simp; omega) fun v71 => ?_ | refine Kp.St_append tb rfl rfl rfl (perm_front (pre := [_, _, _, _])) rfl rfl rfl (by omega) rfl rfl (l2 := (ls.map cDl).take k) (gvt gvo (by omega)) (by rw [← List.map_take]; exact oneDl _) (by simp [maxLen]; omega) (by simp; omega) fun v71 => ?_
              refine Kp.Z_s ?_
              first | refine Kp.St_append tb rfl rfl rfl (List.Perm.refl _) rfl rfl rfl (by omega) rfl rfl (l2 := [cDl (dvA ls k c), cDl (dvB ls k c)]) (by first | exact gs0 | exact gv1 gs0) (by simp [Value.oneCell', cDl]) (by simp [maxLen]; omega) (by simp; omega) fun v75 => ?_ | refine Kp.St_append tb rfl rfl rfl perm1 rfl rfl rfl (by omega) rfl rfl (l2 := [cDl (dvA ls k c), cDl (dvB ls k c)]) (by first | exact gs0 | exact gv1 gs0) (by simp [Value.oneCell', cDl]) (by simp [maxLen]; omega) (by simp; omega) fun v75 => ?_ | refine Kp.St_append tb rfl rfl rfl (perm_front (pre := [_, _])) rfl rfl rfl (by omega) rfl rfl (l2 := [cDl (dvA ls k c), cDl (dvB ls k c)]) (by first | exact gs0 | exact gv1 gs0) (by simp [Value.oneCell', cDl]) (by simp [maxLen]; omega) (by simp; omega) fun v75 => ?_ | refine Kp.St_append tb rfl rfl rfl (perm_front (pre := [_, _, _])) rfl rfl rfl (by omega) rfl rfl (l2 := [cDl (dvA ls k c), cDl (dvB ls k c)]) (by first | exact gs0 | exact gv1 gs0) (by simp [Value.oneCell', cDl]) (by simp [maxLen]; omega) (by simp; omega) fun v75 => ?_ | refine Kp.St_append tb rfl rfl rfl (perm_front (pre := [_, _, _, _])) rfl rfl rfl (by omega) rfl rfl (l2 := [cDl (dvA ls k c), cDl (dvB ls k c)]) (by first | exact gs0 | exact gv1 gs0) (by simp [Value.oneCell', cDl]) (by simp [maxLen]; omega) (by simp; omega) fun v75 => ?_
              refine Kp.Z_s ?_
              first | refine Kp.St_append tb rfl rfl rfl (List.Perm.refl _) rfl rfl rfl (by omega) rfl rfl (l2 := (ls.map cDl).drop (k + 1)) (gvd gvo (by omega)) (by rw [← List.map_drop]; exact oneDl _) (by simp [maxLen]; omega) (by simp; omega) fun v81 => ?_ | refine Kp.St_append tb rfl rfl rfl perm1 rfl rfl rfl (by omega) rfl rfl (l2 := (ls.map cDl).drop (k + 1)) (gvd gvo (by omega)) (by rw [← List.map_drop]; exact oneDl _) (by simp [maxLen]; omega) (by simp; omega) fun v81 => ?_ | refine Kp.St_append tb rfl rfl rfl (perm_front (pre := [_, _])) rfl rfl rfl (by omega) rfl rfl (l2 := (ls.map cDl).drop (k + 1)) (gvd gvo (by omega)) (by rw [← List.map_drop]; exact oneDl _) (by simp [maxLen]; omega) (by simp; omega) fun v81 => ?_ | refine Kp.St_append tb rfl rfl rfl (perm_front (pre := [_, _, _])) rfl rfl rfl (by omega) rfl rfl (l2 := (ls.map cDl).drop (k + 1)) (gvd gvo (by omega)) (by rw [← List.map_drop]; exact oneDl _) (by simp [maxLen]; omega) (by simp; omega) fun v81 => ?_ | refine Kp.St_append tb rfl rfl rfl (perm_front (pre := [_, _, _, _])) rfl rfl rfl (by omega) rfl rfl (l2 := (ls.map cDl).drop (k + 1)) (gvd gvo (by omega)) (by rw [← List.map_drop]; exact oneDl _) (by simp [maxLen]; omega) (by simp; omega) fun v81 => ?_
              refine Kp.Z_q rfl rfl rfl rfl (q_field tb rfl rfl rfl) ?_
              refine Kp.Z_s ?_
              first | refine Kp.St_storeV tb rfl rfl (List.Perm.refl _) rfl rfl rfl gvo rfl rfl ?_ | refine Kp.St_storeV tb rfl rfl perm1 rfl rfl rfl gvo rfl rfl ?_ | refine Kp.St_storeV tb rfl rfl (perm_front (pre := [_, _])) rfl rfl rfl gvo rfl rfl ?_ | refine Kp.St_storeV tb rfl rfl (perm_front (pre := [_, _, _])) rfl rfl rfl gvo rfl rfl ?_ | refine Kp.St_storeV tb rfl rfl (perm_front (pre := [_, _, _, _])) rfl rfl rfl gvo rfl rfl ?_
              refine Kp.Z_nil ?_
              try dsimp only [List.append, List.cons_append, List.nil_append]
              exact ⟨v81, fun a_ w_ hs_ => hs_.weak ⟨rfl, rfl, rfl, trivial⟩ (fun h => h.pk (by repeat (first | with_reducible exact pk_nil | refine pk_box (by first | rfl | exact (dv_cells _ _ _)) ?_ | refine pk_rd rfl ?_ | refine pk_sl (by first | rfl | exact (dv_cells _ _ _)) ?_ | with_reducible refine pk_app ?_ | with_reducible refine pk_app0 ?_ | with_reducible refine pk_app0L ?_ | with_reducible exact pk_tl | refine pk_var ?_)))⟩
          · skip
            (intro w9; dsimp only; have hl9 := dvL_len (c := c) hk; refine L_form (v := w9) gvo (fun A9 c9 hv9 _ => ?_); subst hv9)
            refine L_then ?_
            refine C_seq ?_
            refine Kp.C_own1 [.q 0, .q 1, .q 2, .q 3, .q 4, .s 5, .q 6] mixed (by kernel_rfl) rfl (by kernel_rfl) ?_
            refine Kp.X_q rfl rfl rfl rfl (q_loadA tb rfl rfl bxo rfl rfl) ?_
            refine Kp.X_q rfl rfl rfl rfl (q_field tb rfl rfl rfl) ?_
            refine Kp.X_q rfl rfl rfl rfl (q_load tb rfl rfl bxo rfl) ?_
            refine Kp.X_q rfl rfl rfl rfl (q_len tb rfl rfl (by first | exact gvo | exact gvd gvo (by omega))) ?_
            refine Kp.X_q rfl rfl rfl rfl (q_leq rfl rfl) ?_
            first | refine Kp.X_store tb rfl rfl (List.Perm.refl _) rfl rfl rfl rfl rfl rfl rfl rfl ?_ | refine Kp.X_store tb rfl rfl perm1 rfl rfl rfl rfl rfl rfl rfl rfl ?_ | refine Kp.X_store tb rfl rfl (perm_front (pre := [_, _])) rfl rfl rfl rfl rfl rfl rfl rfl ?_ | refine Kp.X_store tb rfl rfl (perm_front (pre := [_, _, _])) rfl rfl rfl rfl rfl rfl rfl rfl ?_
            refine Kp.X_q rfl rfl rfl rfl (q_assign rfl) ?_
            refine Kp.X_nil ?_
            dsimp only [List.cons_append, List.nil_append]
            refine L_then ?_
            refine C_ret ?_
            exact ret_of (rs' := [sl (.slice A9 ((dvL ls k c).map cDl).length c9) 95 3 ((dvL ls k c).map cDl), sl (.slice A50 (gs.map cGs).length c50) 23 2 (gs.map cGs)]) (resCT tb rfl rfl rfl rfl bxo rfl) (fun w_ h_ => h_.pk (by repeat (first | with_reducible exact pk_nil | refine pk_box rfl ?_ | refine pk_rd rfl ?_ | refine pk_sl rfl ?_ | with_reducible refine pk_app ?_ | with_reducible refine pk_app0 ?_ | with_reducible refine pk_app0L ?_ | with_reducible exact pk_tl | refine pk_var ?_))) (by intro r hr; simp only [List.mem_cons, List.not_mem_nil, or_false] at hr; rcases hr with rfl | rfl <;> exact sl_own _ _ _ _) ⟨_, _, rfl, rfl⟩
end Go.Proofs.Ytolnohjbpllmhaa
