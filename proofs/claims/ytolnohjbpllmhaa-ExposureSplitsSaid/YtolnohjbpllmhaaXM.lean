/-
  Walks: each function named returns what its model says. Conditions: those in front of each theorem.
-/
import Derived.Test.YtolnohjbpllmhaaXL
import Derived.Test.YtolnohjbpllmhaaEncU
namespace Go.Proofs.Ytolnohjbpllmhaa
open Go.RowKit

set_option maxRecDepth 100000 in
theorem ct_shotlineref05_Ends (nm : ByteArray) (sf : Int) (v u : Value) (gs : List Gs) (ls : List Dl) (H : okPl sf gs ls) (k : Nat) (hk : k < ls.length) : Ct Try.prog 113 [.agg (cPl nm sf v u).toArray, .int .i64 (k : Int)] [(v, 2, gs.map cGs), (u, 3, ls.map cDl)] (isV (.tuple #[.int .i64 (sf + depAt ls k), .int .i64 (sf + (dlAt ls k).d), .agg (cGs (gasAt gs (dlAt ls k).g)).toArray])) := by
  refine Ct.of (N := 40) Try.func113 rfl rfl rfl fun w => ?_
  refine C_weak (E' := [(0, .agg (cPl nm sf v u).toArray), (1, .int .i64 (k : Int))]) (rs' := [rd v 2 (gs.map cGs), rd u 3 (ls.map cDl)]) ⟨rfl, rfl, trivial⟩ (fun _ h => h) ?_
  have hl1 := len_map cGs gs
  have hl2 := len_map cDl ls
  have hsf := H.sf; have hll := H.ll; have hgl := H.gl
  have hat := H.at (k := k) (by omega); have ha1 := hat.s; have ha2 := hat.d; have ha3 := hat.g; have hdep := H.dep (k := k) (by omega); have hse := H.e k (by omega); have hse2 := H.e (k + 1) (by omega); have hsec : secAt ls (k + 1) = secAt ls k + (dlAt ls k).s := rfl; have hel := dl_cell (show k < ls.length by omega); have helg := gas_cell (gs := gs) ha3.1 ha3.2
  have hle := H.le hk
  refine C_seq ?_
  refine C_region ?_
  refine L_box rfl rfl rfl fun g2 => ?_
  refine L_q rfl rfl rfl (q_assign rfl) ?_
  refine L_q rfl rfl rfl (q_assign rfl) ?_
  refine L_alloc tb rfl rfl fun g6 => ?_
  refine L_then ?_
  refine C_seq ?_
  refine C_region ?_
  refine L_q rfl rfl rfl (q_assign rfl) ?_
  refine L_then ?_
  refine C_seq ?_
  refine C_seq ?_
  refine C_region ?_
  refine L_q rfl rfl rfl (q_move rfl) ?_
  refine L_q rfl rfl rfl (q_gtr rfl rfl) ?_
  refine L_then ?_
  refine C_dec rfl (fun h1 => ?_) (fun h1 => ?_)
  · -- t9 True
    have hd9 : depAt ls k = (dlAt ls (k - 1)).d := depAt_pos (by omega); have hel0 := dl_cell (show k - 1 < ls.length by omega)
    refine C_region ?_
    refine L_q rfl rfl rfl (q_field tb rfl rfl rfl) ?_
    refine L_q rfl rfl rfl (q_load tb rfl rfl bxo rfl) ?_
    refine L_q rfl rfl rfl (q_move rfl) ?_
    refine L_q rfl rfl rfl (q_sub rfl rfl (by first | exact IntWalk.i64_in _ (by omega) | rfl)) ?_
    refine L_q rfl rfl rfl (by first | exact q_index tb rfl rfl rfl rfl (by first | exact gvo | exact gvd gvo (by omega)) (by omega) (by first | omega | (simp; done) | (simp; omega)) | exact q_indexP tb rfl rfl rfl rfl (by omega) (by omega)) ?_
    refine L_q rfl rfl rfl (q_fieldE tb rfl rfl rfl (by first | exact gvo | exact gvd gvo (by omega)) (by first | omega | (simp; done) | (simp; omega))) ?_
    refine L_q rfl rfl rfl (q_loadE tb rfl rfl (by first | exact gvo | exact gvd gvo (by omega)) (i := k - 1) (o := 1) (by omega) hel0 rfl) ?_
    refine L_q rfl rfl rfl (q_assign rfl) ?_
    refine L_then ?_
    refine C_seq ?_
    refine C_res (rs' := [box g6 23 [.int .i64 0, .int .i64 0], box g2 44 (cPl nm sf v u), rd v 2 (gs.map cGs), rd u 3 (ls.map cDl)]) (fun _ h => h.pk (by repeat (first | with_reducible exact pk_nil | refine pk_box rfl ?_ | refine pk_rd rfl ?_ | refine pk_sl rfl ?_ | with_reducible refine pk_app ?_ | with_reducible refine pk_app0 ?_ | with_reducible refine pk_app0L ?_ | with_reducible exact pk_tl | refine pk_var ?_))) ?_
    refine Kp.C_own1 [.q 0, .q 1, .q 2, .q 3, .q 4, .q 5, .q 6, .q 7, .q 8, .q 9, .q 10, .q 11, .q 12, .q 13, .q 14, .q 15, .q 16, .q 17, .q 18, .q 19, .q 20, .q 21, .q 22, .q 23, .q 24, .s 25] mixed (by kernel_rfl) rfl (by kernel_rfl) ?_
    refine Kp.X_q rfl rfl rfl rfl (q_field tb rfl rfl rfl) ?_
    refine Kp.X_q rfl rfl rfl rfl (q_load tb rfl rfl bxo rfl) ?_
    refine Kp.X_q rfl rfl rfl rfl (q_move rfl) ?_
    refine Kp.X_q rfl rfl rfl rfl (q_add rfl rfl (by first | exact IntWalk.i64_in _ (by omega) | rfl)) ?_
    refine Kp.X_q rfl rfl rfl rfl (q_field tb rfl rfl rfl) ?_
    refine Kp.X_q rfl rfl rfl rfl (q_load tb rfl rfl bxo rfl) ?_
    refine Kp.X_q rfl rfl rfl rfl (q_field tb rfl rfl rfl) ?_
    refine Kp.X_q rfl rfl rfl rfl (q_load tb rfl rfl bxo rfl) ?_
    refine Kp.X_q rfl rfl rfl rfl (q_move rfl) ?_
    refine Kp.X_q rfl rfl rfl rfl (by first | exact q_index tb rfl rfl rfl rfl (by first | exact gvo | exact gvd gvo (by omega)) (by omega) (by first | omega | (simp; done) | (simp; omega)) | exact q_indexP tb rfl rfl rfl rfl (by omega) (by omega)) ?_
    refine Kp.X_q rfl rfl rfl rfl (q_fieldE tb rfl rfl rfl (by first | exact gvo | exact gvd gvo (by omega)) (by first | omega | (simp; done) | (simp; omega))) ?_
    refine Kp.X_q rfl rfl rfl rfl (q_loadE tb rfl rfl (by first | exact gvo | exact gvd gvo (by omega)) (i := k) (o := 1) (by omega) hel rfl) ?_
    refine Kp.X_q rfl rfl rfl rfl (q_add rfl rfl (by first | exact IntWalk.i64_in _ (by omega) | rfl)) ?_
    refine Kp.X_q rfl rfl rfl rfl (q_field tb rfl rfl rfl) ?_
    refine Kp.X_q rfl rfl rfl rfl (q_load tb rfl rfl bxo rfl) ?_
    refine Kp.X_q rfl rfl rfl rfl (q_field tb rfl rfl rfl) ?_
    refine Kp.X_q rfl rfl rfl rfl (q_load tb rfl rfl bxo rfl) ?_
    refine Kp.X_q rfl rfl rfl rfl (q_move rfl) ?_
    refine Kp.X_q rfl rfl rfl rfl (by first | exact q_index tb rfl rfl rfl rfl (by first | exact gvo | exact gvd gvo (by omega)) (by omega) (by first | omega | (simp; done) | (simp; omega)) | exact q_indexP tb rfl rfl rfl rfl (by omega) (by omega)) ?_
    refine Kp.X_q rfl rfl rfl rfl (q_fieldE tb rfl rfl rfl (by first | exact gvo | exact gvd gvo (by omega)) (by first | omega | (simp; done) | (simp; omega))) ?_
    refine Kp.X_q rfl rfl rfl rfl (q_loadE tb rfl rfl (by first | exact gvo | exact gvd gvo (by omega)) (i := k) (o := 2) (by omega) hel rfl) ?_
    refine Kp.X_q rfl rfl rfl rfl (by first | exact q_index tb rfl rfl rfl rfl (by first | exact gvo | exact gvd gvo (by omega)) (by omega) (by first | omega | (simp; done) | (simp; omega)) | exact q_indexP tb rfl rfl rfl rfl (by omega) (by omega)) ?_
    refine Kp.X_q rfl rfl rfl rfl (q_loadEA tb rfl rfl (by first | exact gvo | exact gvd gvo (by omega)) (i := (dlAt ls k).g.toNat) (o := 0) (by omega) helg rfl rfl) ?_
    refine Kp.X_q rfl rfl rfl rfl (q_assign rfl) ?_
    refine Kp.X_q rfl rfl rfl rfl (q_assign rfl) ?_
    first | refine Kp.X_store tb rfl rfl (List.Perm.refl _) rfl rfl rfl rfl rfl rfl rfl rfl ?_ | refine Kp.X_store tb rfl rfl perm1 rfl rfl rfl rfl rfl rfl rfl rfl ?_ | refine Kp.X_store tb rfl rfl (perm_front (pre := [_, _])) rfl rfl rfl rfl rfl rfl rfl rfl ?_ | refine Kp.X_store tb rfl rfl (perm_front (pre := [_, _, _])) rfl rfl rfl rfl rfl rfl rfl rfl ?_
    refine Kp.X_nil ?_
    dsimp only [List.cons_append, List.nil_append]
    refine L_then ?_
    refine C_ret ?_
    rw [hd9]
    exact ret_of (resTTC tb rfl rfl rfl rfl rfl bxo rfl) sub_nil (by intro r hr; cases hr) ⟨rfl, rfl⟩
  · -- t9 False
    have hd9 : depAt ls k = 0 := by rw [show k = 0 by omega]; rfl
    refine C_skip_then ?_
    refine C_seq ?_
    refine C_res (rs' := [box g6 23 [.int .i64 0, .int .i64 0], box g2 44 (cPl nm sf v u), rd v 2 (gs.map cGs), rd u 3 (ls.map cDl)]) (fun _ h => h.pk (by repeat (first | with_reducible exact pk_nil | refine pk_box rfl ?_ | refine pk_rd rfl ?_ | refine pk_sl rfl ?_ | with_reducible refine pk_app ?_ | with_reducible refine pk_app0 ?_ | with_reducible refine pk_app0L ?_ | with_reducible exact pk_tl | refine pk_var ?_))) ?_
    refine Kp.C_own1 [.q 0, .q 1, .q 2, .q 3, .q 4, .q 5, .q 6, .q 7, .q 8, .q 9, .q 10, .q 11, .q 12, .q 13, .q 14, .q 15, .q 16, .q 17, .q 18, .q 19, .q 20, .q 21, .q 22, .q 23, .q 24, .s 25] mixed (by kernel_rfl) rfl (by kernel_rfl) ?_
    refine Kp.X_q rfl rfl rfl rfl (q_field tb rfl rfl rfl) ?_
    refine Kp.X_q rfl rfl rfl rfl (q_load tb rfl rfl bxo rfl) ?_
    refine Kp.X_q rfl rfl rfl rfl (q_move rfl) ?_
    refine Kp.X_q rfl rfl rfl rfl (q_add rfl rfl (by first | exact IntWalk.i64_in _ (by omega) | rfl)) ?_
    refine Kp.X_q rfl rfl rfl rfl (q_field tb rfl rfl rfl) ?_
    refine Kp.X_q rfl rfl rfl rfl (q_load tb rfl rfl bxo rfl) ?_
    refine Kp.X_q rfl rfl rfl rfl (q_field tb rfl rfl rfl) ?_
    refine Kp.X_q rfl rfl rfl rfl (q_load tb rfl rfl bxo rfl) ?_
    refine Kp.X_q rfl rfl rfl rfl (q_move rfl) ?_
    refine Kp.X_q rfl rfl rfl rfl (by first | exact q_index tb rfl rfl rfl rfl (by first | exact gvo | exact gvd gvo (by omega)) (by omega) (by first | omega | (simp; done) | (simp; omega)) | exact q_indexP tb rfl rfl rfl rfl (by omega) (by omega)) ?_
    refine Kp.X_q rfl rfl rfl rfl (q_fieldE tb rfl rfl rfl (by first | exact gvo | exact gvd gvo (by omega)) (by first | omega | (simp; done) | (simp; omega))) ?_
    refine Kp.X_q rfl rfl rfl rfl (q_loadE tb rfl rfl (by first | exact gvo | exact gvd gvo (by omega)) (i := k) (o := 1) (by omega) hel rfl) ?_
    refine Kp.X_q rfl rfl rfl rfl (q_add rfl rfl (by first | exact IntWalk.i64_in _ (by omega) | rfl)) ?_
    refine Kp.X_q rfl rfl rfl rfl (q_field tb rfl rfl rfl) ?_
    refine Kp.X_q rfl rfl rfl rfl (q_load tb rfl rfl bxo rfl) ?_
    refine Kp.X_q rfl rfl rfl rfl (q_field tb rfl rfl rfl) ?_
    refine Kp.X_q rfl rfl rfl rfl (q_load tb rfl rfl bxo rfl) ?_
    refine Kp.X_q rfl rfl rfl rfl (q_move rfl) ?_
    refine Kp.X_q rfl rfl rfl rfl (by first | exact q_index tb rfl rfl rfl rfl (by first | exact gvo | exact gvd gvo (by omega)) (by omega) (by first | omega | (simp; done) | (simp; omega)) | exact q_indexP tb rfl rfl rfl rfl (by omega) (by omega)) ?_
    refine Kp.X_q rfl rfl rfl rfl (q_fieldE tb rfl rfl rfl (by first | exact gvo | exact gvd gvo (by omega)) (by first | omega | (simp; done) | (simp; omega))) ?_
    refine Kp.X_q rfl rfl rfl rfl (q_loadE tb rfl rfl (by first | exact gvo | exact gvd gvo (by omega)) (i := k) (o := 2) (by omega) hel rfl) ?_
    refine Kp.X_q rfl rfl rfl rfl (by first | exact q_index tb rfl rfl rfl rfl (by first | exact gvo | exact gvd gvo (by omega)) (by omega) (by first | omega | (simp; done) | (simp; omega)) | exact q_indexP tb rfl rfl rfl rfl (by omega) (by omega)) ?_
    refine Kp.X_q rfl rfl rfl rfl (q_loadEA tb rfl rfl (by first | exact gvo | exact gvd gvo (by omega)) (i := (dlAt ls k).g.toNat) (o := 0) (by omega) helg rfl rfl) ?_
    refine Kp.X_q rfl rfl rfl rfl (q_assign rfl) ?_
    refine Kp.X_q rfl rfl rfl rfl (q_assign rfl) ?_
    first | refine Kp.X_store tb rfl rfl (List.Perm.refl _) rfl rfl rfl rfl rfl rfl rfl rfl ?_ | refine Kp.X_store tb rfl rfl perm1 rfl rfl rfl rfl rfl rfl rfl rfl ?_ | refine Kp.X_store tb rfl rfl (perm_front (pre := [_, _])) rfl rfl rfl rfl rfl rfl rfl rfl ?_ | refine Kp.X_store tb rfl rfl (perm_front (pre := [_, _, _])) rfl rfl rfl rfl rfl rfl rfl rfl ?_
    refine Kp.X_nil ?_
    dsimp only [List.cons_append, List.nil_append]
    refine L_then ?_
    refine C_ret ?_
    rw [hd9]
    exact ret_of (resTTC tb rfl rfl rfl rfl rfl bxo rfl) sub_nil (by intro r hr; cases hr) ⟨rfl, rfl⟩
set_option maxRecDepth 100000 in
theorem ct_shotlineref05_LegBreath (nm : ByteArray) (sf : Int) (v u : Value) (gs : List Gs) (ls : List Dl) (H : okPl sf gs ls) (k : Nat) (hk : k < ls.length) (b : Int) (hb : 1 ≤ b ∧ b ≤ 100000) : Ct Try.prog 54 [.agg (cPl nm sf v u).toArray, .int .i64 (k : Int), .int .i64 b] [(v, 2, gs.map cGs), (u, 3, ls.map cDl)] (isV (.int .i64 (brM b (dlAt ls k).s (legAt sf gs ls k)))) := by
  refine Ct.of (N := 30) Try.func54 rfl rfl rfl fun w => ?_
  refine C_weak (E' := [(0, .agg (cPl nm sf v u).toArray), (1, .int .i64 (k : Int)), (2, .int .i64 b)]) (rs' := [rd v 2 (gs.map cGs), rd u 3 (ls.map cDl)]) ⟨rfl, rfl, rfl, trivial⟩ (fun _ h => h) ?_
  have hl1 := len_map cGs gs
  have hl2 := len_map cDl ls
  have hsf := H.sf; have hll := H.ll; have hgl := H.gl
  have hat := H.at (k := k) (by omega); have ha1 := hat.s; have ha2 := hat.d; have ha3 := hat.g; have hdep := H.dep (k := k) (by omega); have hse := H.e k (by omega); have hse2 := H.e (k + 1) (by omega); have hsec : secAt ls (k + 1) = secAt ls k + (dlAt ls k).s := rfl; have hel := dl_cell (show k < ls.length by omega); have helg := gas_cell (gs := gs) ha3.1 ha3.2
  have hle := H.le hk
  have hbf : (0 ≤ b * ((sf + depAt ls k) + (sf + (dlAt ls k).d)) ∧ b * ((sf + depAt ls k) + (sf + (dlAt ls k).d)) ≤ 6220000000) ∧ (0 ≤ b * ((sf + depAt ls k) + (sf + (dlAt ls k).d)) * (dlAt ls k).s ∧ b * ((sf + depAt ls k) + (sf + (dlAt ls k).d)) * (dlAt ls k).s ≤ 6220000000000000) := br_fact hle hb (n := (dlAt ls k).s) (by show 0 ≤ (dlAt ls k).s ∧ (dlAt ls k).s ≤ (dlAt ls k).s; omega)
  refine C_seq ?_
  refine C_region ?_
  refine L_box rfl rfl rfl fun g3 => ?_
  refine L_q rfl rfl rfl (q_assign rfl) ?_
  refine L_then ?_
  refine C_seq ?_
  refine C_region ?_
  refine L_q rfl rfl rfl (q_loadA tb rfl rfl bxo rfl rfl) ?_
  refine L_q rfl rfl rfl (q_move rfl) ?_
  refine L_call tb rfl rfl (ct_shotlineref05_Ends nm sf v u gs ls H k (by omega)) (ps_cons (by first | exact gvo | exact gvd gvo (by omega)) (ps_cons (by first | exact gvo | exact gvd gvo (by omega)) no_ps)) rfl ?_
  refine L_q rfl rfl rfl (q_move rfl) ?_
  refine L_q rfl rfl rfl (q_ext0 rfl) ?_
  refine L_q rfl rfl rfl (q_ext1 rfl) ?_
  refine L_q rfl rfl rfl (q_ext2 rfl) ?_
  refine L_alloc tb rfl rfl fun g9 => ?_
  refine L_q rfl rfl rfl (q_assign rfl) ?_
  refine L_q rfl rfl rfl (q_assign rfl) ?_
  first | refine L_store tb rfl rfl rfl rfl rfl rfl rfl rfl ?_ | (refine L_front1 ?_; refine L_store tb rfl rfl rfl rfl rfl rfl rfl rfl ?_) | (refine L_front2 ?_; refine L_store tb rfl rfl rfl rfl rfl rfl rfl rfl ?_) | (refine L_front3 ?_; refine L_store tb rfl rfl rfl rfl rfl rfl rfl rfl ?_) | (refine L_front4 ?_; refine L_store tb rfl rfl rfl rfl rfl rfl rfl rfl ?_) | (refine L_front5 ?_; refine L_store tb rfl rfl rfl rfl rfl rfl rfl rfl ?_) | (refine L_front6 ?_; refine L_store tb rfl rfl rfl rfl rfl rfl rfl rfl ?_)
  refine L_then ?_
  refine C_seq ?_
  refine C_region ?_
  refine L_q rfl rfl rfl (q_move rfl) ?_
  refine L_q rfl rfl rfl (q_move rfl) ?_
  refine L_q rfl rfl rfl (q_move rfl) ?_
  refine L_q rfl rfl rfl (q_add rfl rfl (by first | exact IntWalk.i64_in _ (by omega) | rfl)) ?_
  refine L_q rfl rfl rfl (q_mul rfl rfl (by first | exact IntWalk.i64_in _ (by omega) | rfl)) ?_
  refine L_q rfl rfl rfl (q_field tb rfl rfl rfl) ?_
  refine L_q rfl rfl rfl (q_load tb rfl rfl bxo rfl) ?_
  refine L_q rfl rfl rfl (q_move rfl) ?_
  refine L_q rfl rfl rfl (by first | exact q_index tb rfl rfl rfl rfl (by first | exact gvo | exact gvd gvo (by omega)) (by omega) (by first | omega | (simp; done) | (simp; omega)) | exact q_indexP tb rfl rfl rfl rfl (by omega) (by omega)) ?_
  refine L_q rfl rfl rfl (q_fieldE tb rfl rfl rfl (by first | exact gvo | exact gvd gvo (by omega)) (by first | omega | (simp; done) | (simp; omega))) ?_
  refine L_q rfl rfl rfl (q_loadE tb rfl rfl (by first | exact gvo | exact gvd gvo (by omega)) (i := k) (o := 0) (by omega) hel rfl) ?_
  refine L_q rfl rfl rfl (q_mul rfl rfl (by first | exact IntWalk.i64_in _ (by omega) | rfl)) ?_
  refine L_call tb rfl rfl (ct_shotlinebase_Ceil (b * ((sf + depAt ls k) + (sf + (dlAt ls k).d)) * (dlAt ls k).s) 120000 (by omega)) no_ps rfl ?_
  refine L_q rfl rfl rfl (q_assign rfl) ?_
  refine L_then ?_
  refine C_ret ?_
  exact ret_of (res1 rfl rfl) sub_nil (by intro r hr; cases hr) ⟨(congrArg (Value.int .i64) (by unfold brM; exact (if_pos rfl).symm)), rfl⟩
set_option maxRecDepth 100000 in
theorem ct_shotlineref05_partly (nm : ByteArray) (sf : Int) (v u : Value) (gs : List Gs) (ls : List Dl) (H : okPl sf gs ls) (k : Nat) (hk : k < ls.length) (b n : Int) (hb : 1 ≤ b ∧ b ≤ 100000) (hn : 0 ≤ n ∧ n ≤ (dlAt ls k).s) (hs2 : (dlAt ls k).s ≤ 20000) : Ct Try.prog 117 [.agg (cPl nm sf v u).toArray, .int .i64 (k : Int), .int .i64 b, .int .i64 n] [(v, 2, gs.map cGs), (u, 3, ls.map cDl)] (isV (.int .i64 (brM b n (legAt sf gs ls k)))) := by
  refine Ct.of (N := 43) Try.func117 rfl rfl rfl fun w => ?_
  refine C_weak (E' := [(0, .agg (cPl nm sf v u).toArray), (1, .int .i64 (k : Int)), (2, .int .i64 b), (3, .int .i64 n)]) (rs' := [rd v 2 (gs.map cGs), rd u 3 (ls.map cDl)]) ⟨rfl, rfl, rfl, rfl, trivial⟩ (fun _ h => h) ?_
  have hl1 := len_map cGs gs
  have hl2 := len_map cDl ls
  have hsf := H.sf; have hll := H.ll; have hgl := H.gl
  have hat := H.at (k := k) (by omega); have ha1 := hat.s; have ha2 := hat.d; have ha3 := hat.g; have hdep := H.dep (k := k) (by omega); have hse := H.e k (by omega); have hse2 := H.e (k + 1) (by omega); have hsec : secAt ls (k + 1) = secAt ls k + (dlAt ls k).s := rfl; have hel := dl_cell (show k < ls.length by omega); have helg := gas_cell (gs := gs) ha3.1 ha3.2
  have hle := H.le hk
  have hbf : (0 ≤ b * n ∧ b * n ≤ 2000000000) ∧ (0 ≤ (sf + depAt ls k) * (dlAt ls k).s ∧ (sf + depAt ls k) * (dlAt ls k).s ≤ 622000000) ∧ (-622000000 ≤ ((sf + (dlAt ls k).d) - (sf + depAt ls k)) * n ∧ ((sf + (dlAt ls k).d) - (sf + depAt ls k)) * n ≤ 622000000) ∧ (0 ≤ 2 * (sf + depAt ls k) * (dlAt ls k).s + ((sf + (dlAt ls k).d) - (sf + depAt ls k)) * n ∧ 2 * (sf + depAt ls k) * (dlAt ls k).s + ((sf + (dlAt ls k).d) - (sf + depAt ls k)) * n ≤ 1244000000) ∧ (0 ≤ b * n * (2 * (sf + depAt ls k) * (dlAt ls k).s + ((sf + (dlAt ls k).d) - (sf + depAt ls k)) * n) ∧ b * n * (2 * (sf + depAt ls k) * (dlAt ls k).s + ((sf + (dlAt ls k).d) - (sf + depAt ls k)) * n) ≤ 2488000000000000000) ∧ (0 ≤ 2 * (sf + depAt ls k) * (dlAt ls k).s ∧ 2 * (sf + depAt ls k) * (dlAt ls k).s ≤ 1244000000) := br_fact2 hle hb hn hs2
  refine C_seq ?_
  refine C_region ?_
  refine L_box rfl rfl rfl fun g4 => ?_
  refine L_q rfl rfl rfl (q_assign rfl) ?_
  refine L_then ?_
  refine C_seq ?_
  refine C_region ?_
  refine L_q rfl rfl rfl (q_loadA tb rfl rfl bxo rfl rfl) ?_
  refine L_q rfl rfl rfl (q_move rfl) ?_
  refine L_call tb rfl rfl (ct_shotlineref05_Ends nm sf v u gs ls H k (by omega)) (ps_cons (by first | exact gvo | exact gvd gvo (by omega)) (ps_cons (by first | exact gvo | exact gvd gvo (by omega)) no_ps)) rfl ?_
  refine L_q rfl rfl rfl (q_move rfl) ?_
  refine L_q rfl rfl rfl (q_ext0 rfl) ?_
  refine L_q rfl rfl rfl (q_ext1 rfl) ?_
  refine L_q rfl rfl rfl (q_ext2 rfl) ?_
  refine L_alloc tb rfl rfl fun g11 => ?_
  refine L_q rfl rfl rfl (q_assign rfl) ?_
  refine L_q rfl rfl rfl (q_assign rfl) ?_
  first | refine L_store tb rfl rfl rfl rfl rfl rfl rfl rfl ?_ | (refine L_front1 ?_; refine L_store tb rfl rfl rfl rfl rfl rfl rfl rfl ?_) | (refine L_front2 ?_; refine L_store tb rfl rfl rfl rfl rfl rfl rfl rfl ?_) | (refine L_front3 ?_; refine L_store tb rfl rfl rfl rfl rfl rfl rfl rfl ?_) | (refine L_front4 ?_; refine L_store tb rfl rfl rfl rfl rfl rfl rfl rfl ?_) | (refine L_front5 ?_; refine L_store tb rfl rfl rfl rfl rfl rfl rfl rfl ?_) | (refine L_front6 ?_; refine L_store tb rfl rfl rfl rfl rfl rfl rfl rfl ?_)
  refine L_then ?_
  refine C_seq ?_
  refine C_region ?_
  refine L_q rfl rfl rfl (q_field tb rfl rfl rfl) ?_
  refine L_q rfl rfl rfl (q_load tb rfl rfl bxo rfl) ?_
  refine L_q rfl rfl rfl (q_move rfl) ?_
  refine L_q rfl rfl rfl (by first | exact q_index tb rfl rfl rfl rfl (by first | exact gvo | exact gvd gvo (by omega)) (by omega) (by first | omega | (simp; done) | (simp; omega)) | exact q_indexP tb rfl rfl rfl rfl (by omega) (by omega)) ?_
  refine L_q rfl rfl rfl (q_fieldE tb rfl rfl rfl (by first | exact gvo | exact gvd gvo (by omega)) (by first | omega | (simp; done) | (simp; omega))) ?_
  refine L_q rfl rfl rfl (q_loadE tb rfl rfl (by first | exact gvo | exact gvd gvo (by omega)) (i := k) (o := 0) (by omega) hel rfl) ?_
  refine L_q rfl rfl rfl (q_assign rfl) ?_
  refine L_then ?_
  refine C_seq ?_
  refine C_region ?_
  refine L_q rfl rfl rfl (q_move rfl) ?_
  refine L_q rfl rfl rfl (q_move rfl) ?_
  refine L_q rfl rfl rfl (q_mul rfl rfl (by first | exact IntWalk.i64_in _ (by omega) | rfl)) ?_
  refine L_q rfl rfl rfl (q_move rfl) ?_
  refine L_q rfl rfl rfl (q_mul rfl rfl (by first | exact IntWalk.i64_in _ (by omega) | rfl)) ?_
  refine L_q rfl rfl rfl (q_move rfl) ?_
  refine L_q rfl rfl rfl (q_mul rfl rfl (by first | exact IntWalk.i64_in _ (by omega) | rfl)) ?_
  refine L_q rfl rfl rfl (q_move rfl) ?_
  refine L_q rfl rfl rfl (q_move rfl) ?_
  refine L_q rfl rfl rfl (q_sub rfl rfl (by first | exact IntWalk.i64_in _ (by omega) | rfl)) ?_
  refine L_q rfl rfl rfl (q_move rfl) ?_
  refine L_q rfl rfl rfl (q_mul rfl rfl (by first | exact IntWalk.i64_in _ (by omega) | rfl)) ?_
  refine L_q rfl rfl rfl (q_add rfl rfl (by first | exact IntWalk.i64_in _ (by omega) | rfl)) ?_
  refine L_q rfl rfl rfl (q_mul rfl rfl (by first | exact IntWalk.i64_in _ (by omega) | rfl)) ?_
  refine L_q rfl rfl rfl (q_move rfl) ?_
  refine L_q rfl rfl rfl (q_mul rfl rfl (by first | exact IntWalk.i64_in _ (by omega) | rfl)) ?_
  refine L_call tb rfl rfl (ct_shotlinebase_Ceil (b * n * (2 * (sf + depAt ls k) * (dlAt ls k).s + ((sf + (dlAt ls k).d) - (sf + depAt ls k)) * n)) (120000 * (dlAt ls k).s) (by omega)) no_ps rfl ?_
  refine L_q rfl rfl rfl (q_assign rfl) ?_
  refine L_then ?_
  refine C_ret ?_
  exact ret_of (res1 rfl rfl) sub_nil (by intro r hr; cases hr) ⟨(congrArg (Value.int .i64) (by rw [← part_br hle]; unfold partM; dsimp only [legAt])), rfl⟩
set_option maxRecDepth 100000 in
theorem ct_shotlineref05_OxygenOn (nm : ByteArray) (sf : Int) (v u : Value) (gs : List Gs) (ls : List Dl) (H : okPl sf gs ls) (k : Nat) (hk : k < ls.length) : Ct Try.prog 47 [.agg (cPl nm sf v u).toArray, .int .i64 (k : Int)] [(v, 2, gs.map cGs), (u, 3, ls.map cDl)] (isV (.agg #[.int .i64 (oxLo (legAt sf gs ls k) / 1000), .int .i64 (upZ (oxHi (legAt sf gs ls k)) 1000)])) := by
  refine Ct.of (N := 30) Try.func47 rfl rfl rfl fun w => ?_
  refine C_weak (E' := [(0, .agg (cPl nm sf v u).toArray), (1, .int .i64 (k : Int))]) (rs' := [rd v 2 (gs.map cGs), rd u 3 (ls.map cDl)]) ⟨rfl, rfl, trivial⟩ (fun _ h => h) ?_
  have hl1 := len_map cGs gs
  have hl2 := len_map cDl ls
  have hsf := H.sf; have hll := H.ll; have hgl := H.gl
  have hat := H.at (k := k) (by omega); have ha1 := hat.s; have ha2 := hat.d; have ha3 := hat.g; have hdep := H.dep (k := k) (by omega); have hse := H.e k (by omega); have hse2 := H.e (k + 1) (by omega); have hsec : secAt ls (k + 1) = secAt ls k + (dlAt ls k).s := rfl; have hel := dl_cell (show k < ls.length by omega); have helg := gas_cell (gs := gs) ha3.1 ha3.2
  have hle := H.le hk
  have hox := ox_in hle; have ho1 : 0 ≤ (gasAt gs (dlAt ls k).g).o * min (sf + depAt ls k) (sf + (dlAt ls k).d) ∧ (gasAt gs (dlAt ls k).g).o * min (sf + depAt ls k) (sf + (dlAt ls k).d) ≤ (gasAt gs (dlAt ls k).g).o * max (sf + depAt ls k) (sf + (dlAt ls k).d) ∧ (gasAt gs (dlAt ls k).g).o * max (sf + depAt ls k) (sf + (dlAt ls k).d) ≤ 31100000 := hox; have hq1 := Int.ediv_nonneg ho1.1 (show (0 : Int) ≤ 1000 by omega)
  refine C_seq ?_
  refine C_region ?_
  refine L_box rfl rfl rfl fun g2 => ?_
  refine L_alloc tb rfl rfl fun g4 => ?_
  refine L_then ?_
  refine C_seq ?_
  refine C_region ?_
  refine L_q rfl rfl rfl (q_loadA tb rfl rfl bxo rfl rfl) ?_
  refine L_q rfl rfl rfl (q_move rfl) ?_
  refine L_call tb rfl rfl (ct_shotlineref05_Ends nm sf v u gs ls H k (by omega)) (ps_cons (by first | exact gvo | exact gvd gvo (by omega)) (ps_cons (by first | exact gvo | exact gvd gvo (by omega)) no_ps)) rfl ?_
  refine L_q rfl rfl rfl (q_move rfl) ?_
  refine L_q rfl rfl rfl (q_ext0 rfl) ?_
  refine L_q rfl rfl rfl (q_ext1 rfl) ?_
  refine L_q rfl rfl rfl (q_ext2 rfl) ?_
  refine L_alloc tb rfl rfl fun g7 => ?_
  refine L_q rfl rfl rfl (q_assign rfl) ?_
  refine L_q rfl rfl rfl (q_assign rfl) ?_
  first | refine L_store tb rfl rfl rfl rfl rfl rfl rfl rfl ?_ | (refine L_front1 ?_; refine L_store tb rfl rfl rfl rfl rfl rfl rfl rfl ?_) | (refine L_front2 ?_; refine L_store tb rfl rfl rfl rfl rfl rfl rfl rfl ?_) | (refine L_front3 ?_; refine L_store tb rfl rfl rfl rfl rfl rfl rfl rfl ?_) | (refine L_front4 ?_; refine L_store tb rfl rfl rfl rfl rfl rfl rfl rfl ?_) | (refine L_front5 ?_; refine L_store tb rfl rfl rfl rfl rfl rfl rfl rfl ?_) | (refine L_front6 ?_; refine L_store tb rfl rfl rfl rfl rfl rfl rfl rfl ?_)
  refine L_then ?_
  refine C_seq ?_
  refine C_res (rs' := [box g7 23 (cGs (gasAt gs (dlAt ls k).g)), box g4 32 [.int .i64 0, .int .i64 0], box g2 44 (cPl nm sf v u), rd v 2 (gs.map cGs), rd u 3 (ls.map cDl)]) (fun _ h => h.pk (by repeat (first | with_reducible exact pk_nil | refine pk_box rfl ?_ | refine pk_rd rfl ?_ | refine pk_sl rfl ?_ | with_reducible refine pk_app ?_ | with_reducible refine pk_app0 ?_ | with_reducible refine pk_app0L ?_ | with_reducible exact pk_tl | refine pk_var ?_))) ?_
  refine C_draw (n := 15) [(0, false), (1, false), (2, false), (3, false), (4, false), (5, false), (7, false), (8, false), (9, false), (10, false), (11, false), (12, false), (6, true), (13, true), (14, false)] mixed (by kernel_rfl) ?_
  refine W_q rfl rfl rfl rfl (q_field tb rfl rfl rfl) ?_
  refine W_q rfl rfl rfl rfl (q_load tb rfl rfl bxo rfl) ?_
  refine W_q rfl rfl rfl rfl (q_move rfl) ?_
  refine W_q rfl rfl rfl rfl (q_move rfl) ?_
  refine W_q rfl rfl rfl rfl (q_min rfl rfl) ?_
  refine W_q rfl rfl rfl rfl (q_mul rfl rfl (by first | exact IntWalk.i64_in _ (by omega) | rfl)) ?_
  refine W_q rfl rfl rfl rfl (q_field tb rfl rfl rfl) ?_
  refine W_q rfl rfl rfl rfl (q_load tb rfl rfl bxo rfl) ?_
  refine W_q rfl rfl rfl rfl (q_move rfl) ?_
  refine W_q rfl rfl rfl rfl (q_move rfl) ?_
  refine W_q rfl rfl rfl rfl (q_max rfl rfl) ?_
  refine W_q rfl rfl rfl rfl (q_mul rfl rfl (by first | exact IntWalk.i64_in _ (by omega) | rfl)) ?_
  refine W_call tb rfl rfl rfl rfl (ct_shotlinebase_Floor ((gasAt gs (dlAt ls k).g).o * min (sf + depAt ls k) (sf + (dlAt ls k).d)) 1000 (by first | omega | exact ⟨by omega, by omega, by omega⟩)) no_ps rfl ?_
  refine W_call tb rfl rfl rfl rfl (ct_shotlinebase_Ceil ((gasAt gs (dlAt ls k).g).o * max (sf + depAt ls k) (sf + (dlAt ls k).d)) 1000 (by omega)) no_ps rfl ?_
  refine W_q rfl rfl rfl rfl (by first | exact q_build tb rfl rfl rfl rfl | exact q_buildArr tb rfl rfl rfl rfl rfl) ?_
  refine W_nil ?_
  first | refine L_store tb rfl rfl rfl rfl rfl rfl rfl rfl ?_ | (refine L_front1 ?_; refine L_store tb rfl rfl rfl rfl rfl rfl rfl rfl ?_) | (refine L_front2 ?_; refine L_store tb rfl rfl rfl rfl rfl rfl rfl rfl ?_) | (refine L_front3 ?_; refine L_store tb rfl rfl rfl rfl rfl rfl rfl rfl ?_) | (refine L_front4 ?_; refine L_store tb rfl rfl rfl rfl rfl rfl rfl rfl ?_) | (refine L_front5 ?_; refine L_store tb rfl rfl rfl rfl rfl rfl rfl rfl ?_) | (refine L_front6 ?_; refine L_store tb rfl rfl rfl rfl rfl rfl rfl rfl ?_)
  refine L_then ?_
  refine C_ret ?_
  exact ret_of (resC tb rfl rfl rfl bxo rfl) sub_nil (by intro r hr; cases hr) ⟨rfl, rfl⟩
set_option maxRecDepth 100000 in
theorem ct_exposure_OxygenOn (nm : ByteArray) (sf : Int) (v u : Value) (gs : List Gs) (ls : List Dl) (hle : gs.length ≤ 100000) (hle2 : ls.length ≤ 100000) (hnm : nm.size ≤ 1000000000000) (n : Int) : Ct Try.prog 46 [.agg (cPl nm sf v u).toArray, .int .i64 n] [(v, 2, gs.map cGs), (u, 3, ls.map cDl)] (isV (.tuple #[.agg #[.int .i64 (oxgE nm sf gs ls n).1.lo, .int .i64 (oxgE nm sf gs ls n).1.hi], .int .i64 (oxgE nm sf gs ls n).2])) := by
  refine Ct.of (N := 28) Try.func46 rfl rfl rfl fun w => ?_
  refine C_weak (E' := [(0, .agg (cPl nm sf v u).toArray), (1, .int .i64 n)]) (rs' := [rd v 2 (gs.map cGs), rd u 3 (ls.map cDl)]) ⟨rfl, rfl, trivial⟩ (fun _ h => h) ?_
  have hl1 := len_map cGs gs
  have hl2 := len_map cDl ls
  refine C_seq ?_
  refine C_region ?_
  refine L_box rfl rfl rfl fun g2 => ?_
  refine L_alloc tb rfl rfl fun g4 => ?_
  refine L_q rfl rfl rfl (q_assign rfl) ?_
  refine L_then ?_
  refine C_seq ?_
  refine C_region ?_
  refine L_q rfl rfl rfl (q_loadA tb rfl rfl bxo rfl rfl) ?_
  refine L_q rfl rfl rfl (q_move rfl) ?_
  refine L_call tb rfl rfl (ct_exposure_legOf nm sf v u gs ls hle hle2 hnm n) (ps_cons (by first | exact gvo | exact gvd gvo (by omega)) (ps_cons (by first | exact gvo | exact gvd gvo (by omega)) no_ps)) rfl ?_
  refine L_q rfl rfl rfl (q_move rfl) ?_
  refine L_q rfl rfl rfl (q_ext0 rfl) ?_
  refine L_q rfl rfl rfl (q_ext1 rfl) ?_
  refine L_alloc tb rfl rfl fun g6 => ?_
  first | refine L_store tb rfl rfl rfl rfl rfl rfl rfl rfl ?_ | (refine L_front1 ?_; refine L_store tb rfl rfl rfl rfl rfl rfl rfl rfl ?_) | (refine L_front2 ?_; refine L_store tb rfl rfl rfl rfl rfl rfl rfl rfl ?_) | (refine L_front3 ?_; refine L_store tb rfl rfl rfl rfl rfl rfl rfl rfl ?_) | (refine L_front4 ?_; refine L_store tb rfl rfl rfl rfl rfl rfl rfl rfl ?_) | (refine L_front5 ?_; refine L_store tb rfl rfl rfl rfl rfl rfl rfl rfl ?_) | (refine L_front6 ?_; refine L_store tb rfl rfl rfl rfl rfl rfl rfl rfl ?_)
  refine L_q rfl rfl rfl (q_assign rfl) ?_
  refine L_then ?_
  refine C_seq ?_
  refine C_seq ?_
  refine C_region ?_
  refine L_q rfl rfl rfl (q_move rfl) ?_
  refine L_q rfl rfl rfl (q_neq rfl rfl) ?_
  refine L_then ?_
  refine C_dec rfl (fun h1 => ?_) (fun h1 => ?_)
  · -- t16 True
    refine C_seq ?_
    refine C_region ?_
    refine L_q rfl rfl rfl (by first | exact q_build tb rfl rfl rfl rfl | exact q_buildArr tb rfl rfl rfl rfl rfl) ?_
    refine L_q rfl rfl rfl (q_move rfl) ?_
    first | refine L_store tb rfl rfl rfl rfl rfl rfl rfl rfl ?_ | (refine L_front1 ?_; refine L_store tb rfl rfl rfl rfl rfl rfl rfl rfl ?_) | (refine L_front2 ?_; refine L_store tb rfl rfl rfl rfl rfl rfl rfl rfl ?_) | (refine L_front3 ?_; refine L_store tb rfl rfl rfl rfl rfl rfl rfl rfl ?_) | (refine L_front4 ?_; refine L_store tb rfl rfl rfl rfl rfl rfl rfl rfl ?_) | (refine L_front5 ?_; refine L_store tb rfl rfl rfl rfl rfl rfl rfl rfl ?_) | (refine L_front6 ?_; refine L_store tb rfl rfl rfl rfl rfl rfl rfl rfl ?_)
    refine L_q rfl rfl rfl (q_assign rfl) ?_
    refine L_then ?_
    refine C_ret ?_
    rw [oxgE_1 h1]
    exact ret_of (resCT tb rfl rfl rfl rfl bxo rfl) sub_nil (by intro r hr; cases hr) ⟨rfl, rfl⟩
  · -- t16 False
    obtain ⟨hz, k, rfl, hk, he9⟩ := legOfE_ok (Decidable.not_not.1 h1)
    rw [he9]
    have H := (ckPl_ok hz).2; have hox : 0 ≤ oxLo (legAt sf gs ls k) ∧ oxLo (legAt sf gs ls k) ≤ oxHi (legAt sf gs ls k) ∧ oxHi (legAt sf gs ls k) ≤ 31100000 := ox_in (H.le hk)
    have hq1 : (oxLo (legAt sf gs ls k)).tdiv 1000 = oxLo (legAt sf gs ls k) / 1000 := Int.tdiv_eq_ediv_of_nonneg hox.1; have hq2 := Int.ediv_nonneg hox.1 (show (0 : Int) ≤ 1000 by omega)
    refine C_skip_then ?_
    refine C_seq ?_
    refine C_region ?_
    refine L_q rfl rfl rfl (q_loadA tb rfl rfl bxo rfl rfl) ?_
    refine L_call tb rfl rfl (ct_exposure_leg_oxygen (legAt sf gs ls k) (H.le hk)) no_ps rfl ?_
    refine L_alloc tb rfl rfl fun g8 => ?_
    first | refine L_store tb rfl rfl rfl rfl rfl rfl rfl rfl ?_ | (refine L_front1 ?_; refine L_store tb rfl rfl rfl rfl rfl rfl rfl rfl ?_) | (refine L_front2 ?_; refine L_store tb rfl rfl rfl rfl rfl rfl rfl rfl ?_) | (refine L_front3 ?_; refine L_store tb rfl rfl rfl rfl rfl rfl rfl rfl ?_) | (refine L_front4 ?_; refine L_store tb rfl rfl rfl rfl rfl rfl rfl rfl ?_) | (refine L_front5 ?_; refine L_store tb rfl rfl rfl rfl rfl rfl rfl rfl ?_) | (refine L_front6 ?_; refine L_store tb rfl rfl rfl rfl rfl rfl rfl rfl ?_)
    refine L_then ?_
    refine C_seq ?_
    refine C_res (rs' := [box g8 32 [.int .i64 (oxLo (legAt sf gs ls k)), .int .i64 (oxHi (legAt sf gs ls k))], box g4 32 [.int .i64 0, .int .i64 0]]) (fun _ h => h.pk (by repeat (first | with_reducible exact pk_nil | refine pk_box rfl ?_ | refine pk_rd rfl ?_ | refine pk_sl rfl ?_ | with_reducible refine pk_app ?_ | with_reducible refine pk_app0 ?_ | with_reducible refine pk_app0L ?_ | with_reducible exact pk_tl | refine pk_var ?_))) ?_
    refine C_draw (n := 7) [(0, false), (1, false), (2, false), (3, false), (4, false), (5, true), (6, false)] mixed (by kernel_rfl) ?_
    refine W_q rfl rfl rfl rfl (q_field tb rfl rfl rfl) ?_
    refine W_q rfl rfl rfl rfl (q_load tb rfl rfl bxo rfl) ?_
    refine W_q rfl rfl rfl rfl (q_quo rfl rfl (by omega) (wr hq1 (by omega))) ?_
    refine W_q rfl rfl rfl rfl (q_field tb rfl rfl rfl) ?_
    refine W_q rfl rfl rfl rfl (q_load tb rfl rfl bxo rfl) ?_
    refine W_call tb rfl rfl rfl rfl (ct_exposure_up (oxHi (legAt sf gs ls k)) 1000 (by omega)) no_ps rfl ?_
    refine W_q rfl rfl rfl rfl (by first | exact q_build tb rfl rfl rfl rfl | exact q_buildArr tb rfl rfl rfl rfl rfl) ?_
    refine W_nil ?_
    first | refine L_store tb rfl rfl rfl rfl rfl rfl rfl rfl ?_ | (refine L_front1 ?_; refine L_store tb rfl rfl rfl rfl rfl rfl rfl rfl ?_) | (refine L_front2 ?_; refine L_store tb rfl rfl rfl rfl rfl rfl rfl rfl ?_) | (refine L_front3 ?_; refine L_store tb rfl rfl rfl rfl rfl rfl rfl rfl ?_) | (refine L_front4 ?_; refine L_store tb rfl rfl rfl rfl rfl rfl rfl rfl ?_) | (refine L_front5 ?_; refine L_store tb rfl rfl rfl rfl rfl rfl rfl rfl ?_) | (refine L_front6 ?_; refine L_store tb rfl rfl rfl rfl rfl rfl rfl rfl ?_)
    refine L_q rfl rfl rfl (q_assign rfl) ?_
    refine L_then ?_
    refine C_ret ?_
    rw [oxgE_2 he9]
    exact ret_of (resCT tb rfl rfl rfl rfl bxo rfl) sub_nil (by intro r hr; cases hr) ⟨rfl, rfl⟩
set_option maxRecDepth 100000 in
theorem ct_exposure_LegBreath (nm : ByteArray) (sf : Int) (v u : Value) (gs : List Gs) (ls : List Dl) (hle : gs.length ≤ 100000) (hle2 : ls.length ≤ 100000) (hnm : nm.size ≤ 1000000000000) (n b : Int) : Ct Try.prog 51 [.agg (cPl nm sf v u).toArray, .int .i64 n, .int .i64 b] [(v, 2, gs.map cGs), (u, 3, ls.map cDl)] (isV (.tuple #[.int .i64 (lbrE nm sf gs ls n b).1, .int .i64 (lbrE nm sf gs ls n b).2])) := by
  refine Ct.of (N := 30) Try.func51 rfl rfl rfl fun w => ?_
  refine C_weak (E' := [(0, .agg (cPl nm sf v u).toArray), (1, .int .i64 n), (2, .int .i64 b)]) (rs' := [rd v 2 (gs.map cGs), rd u 3 (ls.map cDl)]) ⟨rfl, rfl, rfl, trivial⟩ (fun _ h => h) ?_
  have hl1 := len_map cGs gs
  have hl2 := len_map cDl ls
  refine C_seq ?_
  refine C_region ?_
  refine L_box rfl rfl rfl fun g3 => ?_
  refine L_q rfl rfl rfl (q_assign rfl) ?_
  refine L_q rfl rfl rfl (q_assign rfl) ?_
  refine L_then ?_
  refine C_seq ?_
  refine C_region ?_
  refine L_q rfl rfl rfl (q_loadA tb rfl rfl bxo rfl rfl) ?_
  refine L_q rfl rfl rfl (q_move rfl) ?_
  refine L_call tb rfl rfl (ct_exposure_legOf nm sf v u gs ls hle hle2 hnm n) (ps_cons (by first | exact gvo | exact gvd gvo (by omega)) (ps_cons (by first | exact gvo | exact gvd gvo (by omega)) no_ps)) rfl ?_
  refine L_q rfl rfl rfl (q_move rfl) ?_
  refine L_q rfl rfl rfl (q_ext0 rfl) ?_
  refine L_q rfl rfl rfl (q_ext1 rfl) ?_
  refine L_alloc tb rfl rfl fun g8 => ?_
  first | refine L_store tb rfl rfl rfl rfl rfl rfl rfl rfl ?_ | (refine L_front1 ?_; refine L_store tb rfl rfl rfl rfl rfl rfl rfl rfl ?_) | (refine L_front2 ?_; refine L_store tb rfl rfl rfl rfl rfl rfl rfl rfl ?_) | (refine L_front3 ?_; refine L_store tb rfl rfl rfl rfl rfl rfl rfl rfl ?_) | (refine L_front4 ?_; refine L_store tb rfl rfl rfl rfl rfl rfl rfl rfl ?_) | (refine L_front5 ?_; refine L_store tb rfl rfl rfl rfl rfl rfl rfl rfl ?_) | (refine L_front6 ?_; refine L_store tb rfl rfl rfl rfl rfl rfl rfl rfl ?_)
  refine L_q rfl rfl rfl (q_assign rfl) ?_
  refine L_then ?_
  refine C_seq ?_
  refine C_block ?_
  refine C_seq ?_
  refine C_region ?_
  refine L_q rfl rfl rfl (q_move rfl) ?_
  refine L_q rfl rfl rfl (q_neq rfl rfl) ?_
  refine L_q rfl rfl rfl (q_assign rfl) ?_
  refine L_then ?_
  refine C_dec rfl (fun h1 => ?_) (fun h1 => ?_)
  · -- t16 True
    refine C_seq ?_
    refine C_region ?_
    refine L_q rfl rfl rfl (q_move rfl) ?_
    refine L_q rfl rfl rfl (q_assign rfl) ?_
    refine L_q rfl rfl rfl (q_assign rfl) ?_
    refine L_then ?_
    refine C_ret ?_
    rw [lbrE_1 h1]
    exact ret_of (res2 rfl rfl rfl) sub_nil (by intro r hr; cases hr) ⟨rfl, rfl⟩
  · -- t16 False
    refine C_seq ?_
    refine C_region ?_
    refine L_q rfl rfl rfl (q_move rfl) ?_
    refine L_call tb rfl rfl (ct_exposure_isBreath _) no_ps rfl ?_
    refine L_q rfl rfl rfl (q_not rfl (by first | exact (rfl : (!true) = false) | exact (rfl : (!false) = true) | exact decide_not.symm | rfl)) ?_
    refine L_q rfl rfl rfl (q_assign rfl) ?_
    refine L_then ?_
    refine C_dec rfl (fun h2 => ?_) (fun h2 => ?_)
    · -- t20 True
      refine C_seq ?_
      refine C_region ?_
      refine L_q rfl rfl rfl (q_assign rfl) ?_
      refine L_q rfl rfl rfl (q_assign rfl) ?_
      refine L_then ?_
      refine C_ret ?_
      rw [lbrE_2 (Decidable.not_not.1 h1) (by omega)]
      exact ret_of (res2 rfl rfl rfl) sub_nil (by intro r hr; cases hr) ⟨rfl, rfl⟩
    · -- t20 False
      obtain ⟨hz, k, rfl, hk, he9⟩ := legOfE_ok (Decidable.not_not.1 h1)
      rw [he9]
      have H := (ckPl_ok hz).2
      refine C_skip_blk ?_
      refine C_seq ?_
      refine C_res (rs' := [box g8 149 (cLe (legAt sf gs ls k))]) (fun _ h => h.pk (by repeat (first | with_reducible exact pk_nil | refine pk_box rfl ?_ | refine pk_rd rfl ?_ | refine pk_sl rfl ?_ | with_reducible refine pk_app ?_ | with_reducible refine pk_app0 ?_ | with_reducible refine pk_app0L ?_ | with_reducible exact pk_tl | refine pk_var ?_))) ?_
      refine C_region ?_
      refine L_q rfl rfl rfl (q_loadA tb rfl rfl bxo rfl rfl) ?_
      refine L_q rfl rfl rfl (q_move rfl) ?_
      refine L_q rfl rfl rfl (q_field tb rfl rfl rfl) ?_
      refine L_q rfl rfl rfl (q_field tb rfl rfl rfl) ?_
      refine L_q rfl rfl rfl (q_load tb rfl rfl bxo rfl) ?_
      refine L_call tb rfl rfl (ct_exposure_leg_breathes (legAt sf gs ls k) b (dlAt ls k).s (H.le hk) (by omega) (by have := (H.at hk).s; show 0 ≤ (dlAt ls k).s ∧ (dlAt ls k).s ≤ (dlAt ls k).s; omega) (.inl rfl)) no_ps rfl ?_
      refine L_q rfl rfl rfl (q_assign rfl) ?_
      refine L_q rfl rfl rfl (q_assign rfl) ?_
      refine L_then ?_
      refine C_ret ?_
      rw [lbrE_3 he9 (by omega)]
      exact ret_of (res2 rfl rfl rfl) sub_nil (by intro r hr; cases hr) ⟨rfl, rfl⟩
end Go.Proofs.Ytolnohjbpllmhaa
