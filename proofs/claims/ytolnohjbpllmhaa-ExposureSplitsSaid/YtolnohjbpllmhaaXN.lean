/-
  Walks: each function named returns what its model says. Conditions: those in front of each theorem.
-/
import Derived.Test.YtolnohjbpllmhaaXM
namespace Go.Proofs.Ytolnohjbpllmhaa
open Go.RowKit

set_option maxRecDepth 100000 in
set_option maxHeartbeats 1000000 in
theorem ct_shotlineref05_Clock (t : Value) (r : Ru) (nm : ByteArray) (sf : Int) (v u : Value) (gs : List Gs) (ls : List Dl) (H : okPl sf gs ls) (HR : okTb r.tb) (k9 : Nat) (hk9 : k9 < ls.length) : Ct Try.prog 49 [.agg (cPl nm sf v u).toArray, .agg (cRu t r).toArray, .int .i64 (k9 : Int)] [(v, 2, gs.map cGs), (u, 3, ls.map cDl), (t, 2, r.tb.map cOw)] (isV (.int .i64 ((clkM r.tb (legAt sf gs ls k9))))) := by
  refine Ct.of (N := 106) Try.func49 rfl rfl rfl fun w => ?_
  refine C_weak (E' := [(0, .agg (cPl nm sf v u).toArray), (1, .agg (cRu t r).toArray), (2, .int .i64 (k9 : Int))]) (rs' := [rd v 2 (gs.map cGs), rd u 3 (ls.map cDl), rd t 2 (r.tb.map cOw)]) ⟨rfl, rfl, rfl, trivial⟩ (fun _ h => h) ?_
  have hl1 := len_map cGs gs
  have hl2 := len_map cDl ls
  have hsf := H.sf; have hll := H.ll; have hgl := H.gl
  have hat := H.at (k := k9) (by omega); have ha1 := hat.s; have ha2 := hat.d; have ha3 := hat.g; have hdep := H.dep (k := k9) (by omega)
  have hel := dl_cell (show k9 < ls.length by omega)
  have hle := H.le hk9
  have hlt := len_map cOw r.tb; have hn9 := HR.n
  have HT := HR
  obtain ⟨lo, hlo⟩ : ∃ lo, lo = ((gasAt gs (dlAt ls k9).g).o * min (sf + depAt ls k9) (sf + (dlAt ls k9).d)) := ⟨_, rfl⟩
  obtain ⟨hi, hhi⟩ : ∃ hi, hi = ((gasAt gs (dlAt ls k9).g).o * max (sf + depAt ls k9) (sf + (dlAt ls k9).d)) := ⟨_, rfl⟩
  have hox : 0 ≤ lo ∧ lo ≤ hi ∧ hi ≤ 31100000 := by rw [hlo, hhi]; exact ox_in hle
  have hle2 := hox.2.1
  have ecl : clkM r.tb (legAt sf gs ls k9) = if lo = hi then (dlAt ls k9).s * rateM r.tb lo else upZ ((dlAt ls k9).s * sumK r.tb lo hi r.tb.length) (hi - lo) := by rw [hlo, hhi]; rfl
  have hrm := rateM_in HT lo; have hm1 := mulB (A := 1000000) (B := 100000) (show 0 ≤ (dlAt ls k9).s ∧ (dlAt ls k9).s ≤ 1000000 by omega) hrm
  refine C_seq ?_
  refine C_region ?_
  refine L_box rfl rfl rfl fun g3 => ?_
  refine L_box rfl rfl rfl fun g4 => ?_
  refine L_q rfl rfl rfl (q_assign rfl) ?_
  refine L_then ?_
  refine C_seq ?_
  refine C_region ?_
  refine L_q rfl rfl rfl (q_loadA tb rfl rfl bxo rfl rfl) ?_
  refine L_q rfl rfl rfl (q_move rfl) ?_
  refine L_call tb rfl rfl (ct_shotlineref05_Ends nm sf v u gs ls H k9 hk9) (ps_cons (by first | exact gvo | exact gvd gvo (by omega)) (ps_cons (by first | exact gvo | exact gvd gvo (by omega)) no_ps)) rfl ?_
  refine L_q rfl rfl rfl (q_move rfl) ?_
  refine L_q rfl rfl rfl (q_ext0 rfl) ?_
  refine L_q rfl rfl rfl (q_ext1 rfl) ?_
  refine L_q rfl rfl rfl (q_ext2 rfl) ?_
  refine L_alloc tb rfl rfl fun g9 => ?_
  refine L_q rfl rfl rfl (q_assign rfl) ?_
  refine L_q rfl rfl rfl (q_assign rfl) ?_
  first | refine L_store tb rfl rfl rfl rfl rfl rfl rfl rfl ?_ | (refine L_front1 ?_; refine L_store tb rfl rfl rfl rfl rfl rfl rfl rfl ?_) | (refine L_front2 ?_; refine L_store tb rfl rfl rfl rfl rfl rfl rfl rfl ?_) | (refine L_front3 ?_; refine L_store tb rfl rfl rfl rfl rfl rfl rfl rfl ?_) | (refine L_front4 ?_; refine L_store tb rfl rfl rfl rfl rfl rfl rfl rfl ?_) | (refine L_front5 ?_; refine L_store tb rfl rfl rfl rfl rfl rfl rfl rfl ?_) | (refine L_front6 ?_; refine L_store tb rfl rfl rfl rfl rfl rfl rfl rfl ?_)
  refine L_then ?_
  refine C_seq ?_
  refine C_res (rs' := [box g9 23 (cGs (gasAt gs (dlAt ls k9).g)), box g3 44 (cPl nm sf v u), box g4 28 (cRu t r), rd v 2 (gs.map cGs), rd u 3 (ls.map cDl), rd t 2 (r.tb.map cOw)]) (fun _ h => h.pk (by repeat (first | with_reducible exact pk_nil | refine pk_box rfl ?_ | refine pk_rd rfl ?_ | refine pk_sl rfl ?_ | with_reducible refine pk_app ?_ | with_reducible refine pk_app0 ?_ | with_reducible refine pk_app0L ?_ | with_reducible exact pk_tl | refine pk_var ?_))) ?_
  refine C_draw (n := 14) [(0, false), (1, false), (2, false), (3, false), (4, false), (5, false), (6, false), (7, false), (8, false), (9, false), (10, false), (11, false), (12, false), (13, false)] mixed (by kernel_rfl) ?_
  refine W_q rfl rfl rfl rfl (q_field tb rfl rfl rfl) ?_
  refine W_q rfl rfl rfl rfl (q_load tb rfl rfl bxo rfl) ?_
  refine W_q rfl rfl rfl rfl (q_move rfl) ?_
  refine W_q rfl rfl rfl rfl (q_move rfl) ?_
  refine W_q rfl rfl rfl rfl (q_min rfl rfl) ?_
  refine W_q rfl rfl rfl rfl (q_mul rfl rfl (by first | exact IntWalk.i64_in _ (by omega) | rfl)) ?_
  refine W_q rfl rfl rfl rfl (q_field tb rfl rfl rfl) ?_
  refine W_q rfl rfl rfl rfl (q_load tb rfl rfl bxo rfl) ?_
  refine W_q rfl rfl rfl rfl (q_move rfl) ?_
  refine W_q rfl rfl rfl rfl (q_move rfl) ?_
  refine W_q rfl rfl rfl rfl (q_max rfl rfl) ?_
  refine W_q rfl rfl rfl rfl (q_mul rfl rfl (by first | exact IntWalk.i64_in _ (by omega) | rfl)) ?_
  refine W_q rfl rfl rfl rfl (q_assign rfl) ?_
  refine W_q rfl rfl rfl rfl (q_assign rfl) ?_
  refine W_nil ?_
  refine L_then ?_
  refine C_seq ?_
  refine C_seq ?_
  refine C_region ?_
  rw [← hlo, ← hhi]
  refine L_q rfl rfl rfl (q_move rfl) ?_
  refine L_q rfl rfl rfl (q_move rfl) ?_
  refine L_q rfl rfl rfl (q_eql rfl rfl) ?_
  refine L_then ?_
  refine C_dec rfl (fun heq => ?_) (fun heq => ?_)
  · -- t37 True
    refine C_seq ?_
    refine C_draw (n := 10) [(0, false), (1, false), (2, false), (3, false), (4, false), (5, false), (6, false), (7, false), (8, true), (9, false)] mixed (by kernel_rfl) ?_
    refine W_q rfl rfl rfl rfl (q_field tb rfl rfl rfl) ?_
    refine W_q rfl rfl rfl rfl (q_load tb rfl rfl bxo rfl) ?_
    refine W_q rfl rfl rfl rfl (q_move rfl) ?_
    refine W_q rfl rfl rfl rfl (by first | exact q_index tb rfl rfl rfl rfl (by first | exact gvo | exact gvd gvo (by omega)) (by omega) (by first | omega | (simp; done) | (simp; omega)) | exact q_indexP tb rfl rfl rfl rfl (by omega) (by omega)) ?_
    refine W_q rfl rfl rfl rfl (q_fieldE tb rfl rfl rfl (by first | exact gvo | exact gvd gvo (by omega)) (by first | omega | (simp; done) | (simp; omega))) ?_
    refine W_q rfl rfl rfl rfl (q_loadE tb rfl rfl (by first | exact gvo | exact gvd gvo (by omega)) (i := k9) (o := 0) (by omega) hel rfl) ?_
    refine W_q rfl rfl rfl rfl (q_loadA tb rfl rfl bxo rfl rfl) ?_
    refine W_q rfl rfl rfl rfl (q_move rfl) ?_
    refine W_call tb rfl rfl rfl rfl (ct_shotlineref05_rate t r lo HT) (ps_cons (by first | exact gvo | exact gvd gvo (by omega)) no_ps) rfl ?_
    refine W_q rfl rfl rfl rfl (q_mul rfl rfl (by first | exact IntWalk.i64_in _ (by omega) | rfl)) ?_
    refine W_nil ?_
    refine L_q rfl rfl rfl (q_assign rfl) ?_
    refine L_then ?_
    refine C_ret ?_
    exact ret_of (res1 rfl rfl) sub_nil (by intro r hr; cases hr) ⟨(congrArg (Value.int .i64) (by rw [ecl, if_pos heq])), rfl⟩
  · -- t37 False
    refine C_skip_then ?_
    refine C_seq ?_
    refine C_region ?_
    refine L_q rfl rfl rfl (q_assign rfl) ?_
    refine L_then ?_
    refine C_seq ?_
    refine C_seq ?_
    refine C_region ?_
    refine L_q rfl rfl rfl (q_assign rfl) ?_
    refine L_then ?_
    refine C_block ?_
    refine C_loop (ι := Nat) (fun k => ([(2, .int .i64 (k9 : Int)), (3, .pointer (some ⟨g3, 0, none⟩)), (4, .pointer (some ⟨g4, 0, none⟩)), (10, .int .i64 lo), (11, .int .i64 hi), (12, .int .i64 (sumK r.tb lo hi k)), (13, .int .i64 (k : Int))], [box g3 44 (cPl nm sf v u), box g4 28 (cRu t r), rd v 2 (gs.map cGs), rd u 3 (ls.map cDl), rd t 2 (r.tb.map cOw)])) (fun k => k ≤ r.tb.length) (fun k => r.tb.length - k) 0 (Nat.zero_le _) (fun a w hs => hs.weak ⟨rfl, rfl, rfl, rfl, rfl, rfl, rfl, trivial⟩ (fun h => h.pk (by repeat (first | with_reducible exact pk_nil | refine pk_box rfl ?_ | refine pk_rd rfl ?_ | refine pk_sl rfl ?_ | with_reducible refine pk_app ?_ | with_reducible refine pk_app0 ?_ | with_reducible refine pk_app0L ?_ | with_reducible exact pk_tl | refine pk_var ?_)))) ?_
    intro k hk
    dsimp only at hk ⊢
    refine C_seq ?_
    refine C_seq ?_
    refine C_region ?_
    refine L_q rfl rfl rfl (q_move rfl) ?_
    refine L_q rfl rfl rfl (q_field tb rfl rfl rfl) ?_
    refine L_q rfl rfl rfl (q_load tb rfl rfl bxo rfl) ?_
    refine L_q rfl rfl rfl (q_len tb rfl rfl (by first | exact gvo | exact gvd gvo (by omega))) ?_
    refine L_q rfl rfl rfl (q_lss rfl rfl) ?_
    refine L_then ?_
    refine C_dec rfl (fun h2 => ?_) (fun h2 => ?_)
    · -- t52 True
      have hel := ow_cell (tb := r.tb) (k := k) (by omega); have hro := HT.r k (by omega); have hel1 : k + 1 < r.tb.length → (r.tb.map cOw)[k + 1]? = some (cOw (owAt r.tb (k + 1))) := fun h9 => ow_cell h9; have hro1 : k + 1 < r.tb.length → 0 ≤ (owAt r.tb (k + 1)).f ∧ (owAt r.tb (k + 1)).f ≤ 4000 := fun h9 => ⟨(HT.r _ h9).1, (HT.r _ h9).2.1⟩; have hs1 := sumK_in HT hle2 (k := k) (by omega); have hs2 := sumK_in HT hle2 (k := k + 1) (by omega)
      refine C_skip_then ?_
      refine C_seq ?_
      refine C_block ?_
      refine C_seq ?_
      refine C_region ?_
      refine L_q rfl rfl rfl (q_move rfl) ?_
      refine L_q rfl rfl rfl (q_field tb rfl rfl rfl) ?_
      refine L_q rfl rfl rfl (q_load tb rfl rfl bxo rfl) ?_
      refine L_q rfl rfl rfl (q_move rfl) ?_
      refine L_q rfl rfl rfl (by first | exact q_index tb rfl rfl rfl rfl (by first | exact gvo | exact gvd gvo (by omega)) (by omega) (by first | omega | (simp; done) | (simp; omega)) | exact q_indexP tb rfl rfl rfl rfl (by omega) (by omega)) ?_
      refine L_q rfl rfl rfl (q_fieldE tb rfl rfl rfl (by first | exact gvo | exact gvd gvo (by omega)) (by first | omega | (simp; done) | (simp; omega))) ?_
      refine L_q rfl rfl rfl (q_loadE tb rfl rfl (by first | exact gvo | exact gvd gvo (by omega)) (i := k) (o := 0) (by omega) hel rfl) ?_
      refine L_q rfl rfl rfl (q_mul rfl rfl (by first | exact IntWalk.i64_in _ (by omega) | rfl)) ?_
      refine L_q rfl rfl rfl (q_max rfl rfl) ?_
      refine L_q rfl rfl rfl (q_move rfl) ?_
      refine L_q rfl rfl rfl (q_assign rfl) ?_
      refine L_q rfl rfl rfl (q_assign rfl) ?_
      refine L_then ?_
      refine C_seq ?_
      refine C_seq ?_
      refine C_region ?_
      refine L_q rfl rfl rfl (q_move rfl) ?_
      refine L_q rfl rfl rfl (q_add rfl rfl (by first | exact IntWalk.i64_in _ (by omega) | rfl)) ?_
      refine L_q rfl rfl rfl (q_field tb rfl rfl rfl) ?_
      refine L_q rfl rfl rfl (q_load tb rfl rfl bxo rfl) ?_
      refine L_q rfl rfl rfl (q_len tb rfl rfl (by first | exact gvo | exact gvd gvo (by omega))) ?_
      refine L_q rfl rfl rfl (q_lss rfl rfl) ?_
      refine L_then ?_
      refine C_dec rfl (fun h3 => ?_) (fun h3 => ?_)
      · -- t70 True
        have hq9 : sumK r.tb lo hi (k + 1) = sumK r.tb lo hi k + (owAt r.tb k).r * max 0 (min hi (1000 * (owAt r.tb (k + 1)).f) - max lo (1000 * (owAt r.tb k).f)) := by show sumK r.tb _ _ k + (owAt r.tb k).r * max 0 (cutHi r.tb _ k - _) = _; unfold cutHi; rw [if_pos (by omega)]
        refine C_region ?_
        refine L_q rfl rfl rfl (q_move rfl) ?_
        refine L_q rfl rfl rfl (q_field tb rfl rfl rfl) ?_
        refine L_q rfl rfl rfl (q_load tb rfl rfl bxo rfl) ?_
        refine L_q rfl rfl rfl (q_move rfl) ?_
        refine L_q rfl rfl rfl (q_add rfl rfl (by first | exact IntWalk.i64_in _ (by omega) | rfl)) ?_
        refine L_q rfl rfl rfl (by first | exact q_index tb rfl rfl rfl rfl (by first | exact gvo | exact gvd gvo (by omega)) (by omega) (by first | omega | (simp; done) | (simp; omega)) | exact q_indexP tb rfl rfl rfl rfl (by omega) (by omega)) ?_
        refine L_q rfl rfl rfl (q_fieldE tb rfl rfl rfl (by first | exact gvo | exact gvd gvo (by omega)) (by first | omega | (simp; done) | (simp; omega))) ?_
        refine L_q rfl rfl rfl (q_loadE tb rfl rfl (by first | exact gvo | exact gvd gvo (by omega)) (i := k + 1) (o := 0) (by omega) (hel1 (by omega)) rfl) ?_
        refine L_q rfl rfl rfl (q_mul rfl rfl (by first | exact IntWalk.i64_in _ (by omega) | rfl)) ?_
        refine L_q rfl rfl rfl (q_min rfl rfl) ?_
        refine L_q rfl rfl rfl (q_assign rfl) ?_
        refine L_then ?_
        refine C_region ?_
        refine L_q rfl rfl rfl (q_move rfl) ?_
        refine L_q rfl rfl rfl (q_field tb rfl rfl rfl) ?_
        refine L_q rfl rfl rfl (q_load tb rfl rfl bxo rfl) ?_
        refine L_q rfl rfl rfl (q_move rfl) ?_
        refine L_q rfl rfl rfl (by first | exact q_index tb rfl rfl rfl rfl (by first | exact gvo | exact gvd gvo (by omega)) (by omega) (by first | omega | (simp; done) | (simp; omega)) | exact q_indexP tb rfl rfl rfl rfl (by omega) (by omega)) ?_
        refine L_q rfl rfl rfl (q_fieldE tb rfl rfl rfl (by first | exact gvo | exact gvd gvo (by omega)) (by first | omega | (simp; done) | (simp; omega))) ?_
        refine L_q rfl rfl rfl (q_loadE tb rfl rfl (by first | exact gvo | exact gvd gvo (by omega)) (i := k) (o := 1) (by omega) hel rfl) ?_
        refine L_q rfl rfl rfl (q_move rfl) ?_
        refine L_q rfl rfl rfl (q_move rfl) ?_
        refine L_q rfl rfl rfl (q_sub rfl rfl (by first | exact IntWalk.i64_in _ (by omega) | rfl)) ?_
        refine L_q rfl rfl rfl (q_max rfl rfl) ?_
        refine L_q rfl rfl rfl (q_mul rfl rfl (by first | exact IntWalk.i64_in _ (by omega) | rfl)) ?_
        refine L_q rfl rfl rfl (q_add rfl rfl (by first | exact IntWalk.i64_in _ (by omega) | rfl)) ?_
        refine L_q rfl rfl rfl (q_assign rfl) ?_
        refine L_blk ?_
        refine C_region ?_
        refine L_q rfl rfl rfl (q_move rfl) ?_
        refine L_q rfl rfl rfl (q_add rfl rfl (by first | exact IntWalk.i64_in _ (by omega) | rfl)) ?_
        refine L_q rfl rfl rfl (q_assign rfl) ?_
        refine L_end ?_
        exact fun ac_ wo_ hs_ => ⟨k + 1, (by dsimp only; omega), (by dsimp only; omega), hs_.weak ⟨rfl, rfl, rfl, rfl, rfl, en hq9.symm, rfl, trivial⟩ (fun h => h.pk (by repeat (first | with_reducible exact pk_nil | refine pk_box rfl ?_ | refine pk_rd rfl ?_ | refine pk_sl rfl ?_ | with_reducible refine pk_app ?_ | with_reducible refine pk_app0 ?_ | with_reducible refine pk_app0L ?_ | with_reducible exact pk_tl | refine pk_var ?_)))⟩
      · -- t70 False
        have hq9 : sumK r.tb lo hi (k + 1) = sumK r.tb lo hi k + (owAt r.tb k).r * max 0 (hi - max lo (1000 * (owAt r.tb k).f)) := by show sumK r.tb _ _ k + (owAt r.tb k).r * max 0 (cutHi r.tb _ k - _) = _; unfold cutHi; rw [if_neg (by omega)]
        refine C_skip_then ?_
        refine C_region ?_
        refine L_q rfl rfl rfl (q_move rfl) ?_
        refine L_q rfl rfl rfl (q_field tb rfl rfl rfl) ?_
        refine L_q rfl rfl rfl (q_load tb rfl rfl bxo rfl) ?_
        refine L_q rfl rfl rfl (q_move rfl) ?_
        refine L_q rfl rfl rfl (by first | exact q_index tb rfl rfl rfl rfl (by first | exact gvo | exact gvd gvo (by omega)) (by omega) (by first | omega | (simp; done) | (simp; omega)) | exact q_indexP tb rfl rfl rfl rfl (by omega) (by omega)) ?_
        refine L_q rfl rfl rfl (q_fieldE tb rfl rfl rfl (by first | exact gvo | exact gvd gvo (by omega)) (by first | omega | (simp; done) | (simp; omega))) ?_
        refine L_q rfl rfl rfl (q_loadE tb rfl rfl (by first | exact gvo | exact gvd gvo (by omega)) (i := k) (o := 1) (by omega) hel rfl) ?_
        refine L_q rfl rfl rfl (q_move rfl) ?_
        refine L_q rfl rfl rfl (q_move rfl) ?_
        refine L_q rfl rfl rfl (q_sub rfl rfl (by first | exact IntWalk.i64_in _ (by omega) | rfl)) ?_
        refine L_q rfl rfl rfl (q_max rfl rfl) ?_
        refine L_q rfl rfl rfl (q_mul rfl rfl (by first | exact IntWalk.i64_in _ (by omega) | rfl)) ?_
        refine L_q rfl rfl rfl (q_add rfl rfl (by first | exact IntWalk.i64_in _ (by omega) | rfl)) ?_
        refine L_q rfl rfl rfl (q_assign rfl) ?_
        refine L_blk ?_
        refine C_region ?_
        refine L_q rfl rfl rfl (q_move rfl) ?_
        refine L_q rfl rfl rfl (q_add rfl rfl (by first | exact IntWalk.i64_in _ (by omega) | rfl)) ?_
        refine L_q rfl rfl rfl (q_assign rfl) ?_
        refine L_end ?_
        exact fun ac_ wo_ hs_ => ⟨k + 1, (by dsimp only; omega), (by dsimp only; omega), hs_.weak ⟨rfl, rfl, rfl, rfl, rfl, en hq9.symm, rfl, trivial⟩ (fun h => h.pk (by repeat (first | with_reducible exact pk_nil | refine pk_box rfl ?_ | refine pk_rd rfl ?_ | refine pk_sl rfl ?_ | with_reducible refine pk_app ?_ | with_reducible refine pk_app0 ?_ | with_reducible refine pk_app0L ?_ | with_reducible exact pk_tl | refine pk_var ?_)))⟩
    · -- t52 False
      obtain rfl : k = r.tb.length := by omega
      have hs3 := sumK_in HT hle2 (Nat.le_refl r.tb.length); have hm3 := mulB (A := 1000000) (B := 100000 * (hi - lo)) (show 0 ≤ (dlAt ls k9).s ∧ (dlAt ls k9).s ≤ 1000000 by omega) hs3
      refine C_exit ?_
      change C Try.prog _ _ _ _ _ _ _
      refine C_seq ?_
      refine C_region ?_
      refine L_q rfl rfl rfl (q_field tb rfl rfl rfl) ?_
      refine L_q rfl rfl rfl (q_load tb rfl rfl bxo rfl) ?_
      refine L_q rfl rfl rfl (q_move rfl) ?_
      refine L_q rfl rfl rfl (by first | exact q_index tb rfl rfl rfl rfl (by first | exact gvo | exact gvd gvo (by omega)) (by omega) (by first | omega | (simp; done) | (simp; omega)) | exact q_indexP tb rfl rfl rfl rfl (by omega) (by omega)) ?_
      refine L_q rfl rfl rfl (q_fieldE tb rfl rfl rfl (by first | exact gvo | exact gvd gvo (by omega)) (by first | omega | (simp; done) | (simp; omega))) ?_
      refine L_q rfl rfl rfl (q_loadE tb rfl rfl (by first | exact gvo | exact gvd gvo (by omega)) (i := k9) (o := 0) (by omega) (dl_cell (show k9 < ls.length by omega)) rfl) ?_
      refine L_q rfl rfl rfl (q_move rfl) ?_
      refine L_q rfl rfl rfl (q_mul rfl rfl (by first | exact IntWalk.i64_in _ (by omega) | rfl)) ?_
      refine L_q rfl rfl rfl (q_move rfl) ?_
      refine L_q rfl rfl rfl (q_move rfl) ?_
      refine L_q rfl rfl rfl (q_sub rfl rfl (by first | exact IntWalk.i64_in _ (by omega) | rfl)) ?_
      refine L_call tb rfl rfl (ct_shotlinebase_Ceil ((dlAt ls k9).s * sumK r.tb lo hi r.tb.length) (hi - lo) (by omega)) no_ps rfl ?_
      refine L_q rfl rfl rfl (q_assign rfl) ?_
      refine L_then ?_
      refine C_ret ?_
      exact ret_of (res1 rfl rfl) sub_nil (by intro r hr; cases hr) ⟨(congrArg (Value.int .i64) (by rw [ecl, if_neg heq])), rfl⟩
set_option maxRecDepth 100000 in
set_option maxHeartbeats 1000000 in
theorem ct_shotlineref05_Consumed (nm : ByteArray) (sf : Int) (v u : Value) (gs : List Gs) (ls : List Dl) (H : okPl sf gs ls) (b : Int) (hb : 1 ≤ b ∧ b ≤ 100000) : Ct Try.prog 56 [.agg (cPl nm sf v u).toArray, .int .i64 b] [(v, 2, gs.map cGs), (u, 3, ls.map cDl)] (isSl 3 1 ((consK gs.length ls (amtS sf gs ls b) ls.length).map cI)) := by
  refine Ct.of (N := 41) Try.func56 rfl rfl rfl fun w => ?_
  refine C_weak (E' := [(0, .agg (cPl nm sf v u).toArray), (1, .int .i64 b)]) (rs' := [rd v 2 (gs.map cGs), rd u 3 (ls.map cDl)]) ⟨rfl, rfl, trivial⟩ (fun _ h => h) ?_
  have hl1 := len_map cGs gs
  have hl2 := len_map cDl ls
  have hll := H.ll; have hgl := H.gl
  refine C_seq ?_
  refine C_region ?_
  refine L_box rfl rfl rfl fun g2 => ?_
  refine L_q rfl rfl rfl (q_assign rfl) ?_
  refine L_then ?_
  refine C_seq ?_
  refine C_region ?_
  refine L_q rfl rfl rfl (q_field tb rfl rfl rfl) ?_
  refine L_q rfl rfl rfl (q_load tb rfl rfl bxo rfl) ?_
  refine L_q rfl rfl rfl (q_len tb rfl rfl (by first | exact gvo | exact gvd gvo (by omega))) ?_
  rw [hl1]
  refine L_mk (lo_make tb rfl rfl rfl (n := gs.length) rfl rfl (by omega) (by simp [maxLen]; omega)) rfl rfl rfl fun v10 => ?_
  refine L_q rfl rfl rfl (q_assign rfl) ?_
  refine L_then ?_
  refine C_seq ?_
  refine C_seq ?_
  refine C_res (rs' := [sl v10 3 1 ((consK gs.length ls (amtS sf gs ls b) 0).map cI), box g2 44 (cPl nm sf v u), rd v 2 (gs.map cGs), rd u 3 (ls.map cDl)]) (fun _ h => h.pk (by repeat (first | with_reducible exact pk_nil | refine pk_box (by first | rfl | exact (cons_zero _ _ _)) ?_ | refine pk_rd rfl ?_ | refine pk_sl (by first | rfl | exact (cons_zero _ _ _)) ?_ | with_reducible refine pk_app ?_ | with_reducible refine pk_app0 ?_ | with_reducible refine pk_app0L ?_ | with_reducible exact pk_tl | refine pk_var ?_))) ?_
  refine C_region ?_
  refine L_q rfl rfl rfl (q_assign rfl) ?_
  refine L_then ?_
  refine C_block ?_
  refine C_loop (ι := Nat) (fun k => ([(1, .int .i64 b), (2, .pointer (some ⟨g2, 0, none⟩)), (5, v10), (6, .int .i64 (k : Int))], [sl v10 3 1 ((consK gs.length ls (amtS sf gs ls b) k).map cI), box g2 44 (cPl nm sf v u), rd v 2 (gs.map cGs), rd u 3 (ls.map cDl)])) (fun k => k ≤ ls.length) (fun k => ls.length - k) 0 (Nat.zero_le _) (fun a w hs => hs.weak ⟨rfl, rfl, rfl, rfl, trivial⟩ (fun h => h.pk (by repeat (first | with_reducible exact pk_nil | refine pk_box rfl ?_ | refine pk_rd rfl ?_ | refine pk_sl rfl ?_ | with_reducible refine pk_app ?_ | with_reducible refine pk_app0 ?_ | with_reducible refine pk_app0L ?_ | with_reducible exact pk_tl | refine pk_var ?_)))) ?_
  intro k hk9
  dsimp only at hk9 ⊢
  refine C_seq ?_
  refine C_seq ?_
  refine C_region ?_
  refine L_q rfl rfl rfl (q_move rfl) ?_
  refine L_q rfl rfl rfl (q_field tb rfl rfl rfl) ?_
  refine L_q rfl rfl rfl (q_load tb rfl rfl bxo rfl) ?_
  refine L_q rfl rfl rfl (q_len tb rfl rfl (by first | exact gvo | exact gvd gvo (by omega))) ?_
  refine L_q rfl rfl rfl (q_lss rfl rfl) ?_
  refine L_then ?_
  refine C_dec rfl (fun h1 => ?_) (fun h1 => ?_)
  · -- t15 True
    have hel := dl_cell (show k < ls.length by omega)
    have hds := (H.at (k := k) (by omega)).s
    have hbr : 0 ≤ brM b (dlAt ls k).s (legAt sf gs ls k) ∧ brM b (dlAt ls k).s (legAt sf gs ls k) ≤ 51833333334 := amtS_in H hb (i := k) (by omega)
    obtain ⟨v0, hv0⟩ := get_some (consK gs.length ls (amtS sf gs ls b) k) (k := (dlAt ls k).g.toNat) (by rw [consK_len]; have := (H.at (k := k) (by omega)).g; omega)
    have helo := map_get cI hv0; have hg9 := (H.at (k := k) (by omega)).g; have hbd := consK_in (n := gs.length) (ls := ls) (amt := (amtS sf gs ls b)) (A := 51833333334) (by omega) k (fun i hi => amtS_in H hb (by omega)) _ _ hv0
    have hcl := consK_len gs.length ls (amtS sf gs ls b) k
    have hcm := len_map cI (consK gs.length ls (amtS sf gs ls b) k)
    refine C_skip_then ?_
    refine C_seq ?_
    refine C_block ?_
    refine C_draw (n := 22) [(0, false), (1, false), (2, false), (3, false), (4, false), (5, false), (6, false), (7, false), (8, false), (9, false), (10, false), (11, false), (12, false), (13, false), (14, false), (15, false), (16, false), (17, false), (18, false), (19, true), (20, false), (21, false)] mixed (by kernel_rfl) ?_
    refine W_q rfl rfl rfl rfl (q_move rfl) ?_
    refine W_q rfl rfl rfl rfl (q_field tb rfl rfl rfl) ?_
    refine W_q rfl rfl rfl rfl (q_load tb rfl rfl bxo rfl) ?_
    refine W_q rfl rfl rfl rfl (q_move rfl) ?_
    refine W_q rfl rfl rfl rfl (by first | exact q_index tb rfl rfl rfl rfl (by first | exact gvo | exact gvd gvo (by omega)) (by omega) (by first | omega | (simp; done) | (simp; omega)) | exact q_indexP tb rfl rfl rfl rfl (by omega) (by omega)) ?_
    refine W_q rfl rfl rfl rfl (q_fieldE tb rfl rfl rfl (by first | exact gvo | exact gvd gvo (by omega)) (by first | omega | (simp; done) | (simp; omega))) ?_
    refine W_q rfl rfl rfl rfl (q_loadE tb rfl rfl (by first | exact gvo | exact gvd gvo (by omega)) (i := k) (o := 2) (by omega) hel rfl) ?_
    refine W_q rfl rfl rfl rfl (q_move rfl) ?_
    refine W_q rfl rfl rfl rfl (q_field tb rfl rfl rfl) ?_
    refine W_q rfl rfl rfl rfl (q_load tb rfl rfl bxo rfl) ?_
    refine W_q rfl rfl rfl rfl (q_move rfl) ?_
    refine W_q rfl rfl rfl rfl (by first | exact q_index tb rfl rfl rfl rfl (by first | exact gvo | exact gvd gvo (by omega)) (by omega) (by first | omega | (simp; done) | (simp; omega)) | exact q_indexP tb rfl rfl rfl rfl (by omega) (by omega)) ?_
    refine W_q rfl rfl rfl rfl (q_fieldE tb rfl rfl rfl (by first | exact gvo | exact gvd gvo (by omega)) (by first | omega | (simp; done) | (simp; omega))) ?_
    refine W_q rfl rfl rfl rfl (q_loadE tb rfl rfl (by first | exact gvo | exact gvd gvo (by omega)) (i := k) (o := 2) (by omega) hel rfl) ?_
    refine W_q rfl rfl rfl rfl (by first | exact q_index tb rfl rfl rfl rfl (by first | exact gvo | exact gvd gvo (by omega)) (by omega) (by first | omega | (simp; done) | (simp; omega)) | exact q_indexP tb rfl rfl rfl rfl (by omega) (by omega)) ?_
    refine W_q rfl rfl rfl rfl (q_loadE tb rfl rfl (by first | exact gvo | exact gvd gvo (by omega)) (i := (dlAt ls k).g.toNat) (o := 0) (by omega) helo rfl) ?_
    refine W_q rfl rfl rfl rfl (q_loadA tb rfl rfl bxo rfl rfl) ?_
    refine W_q rfl rfl rfl rfl (q_move rfl) ?_
    refine W_q rfl rfl rfl rfl (q_move rfl) ?_
    refine W_call tb rfl rfl rfl rfl (ct_shotlineref05_LegBreath nm sf v u gs ls H k (by omega) b hb) (ps_cons (by first | exact gvo | exact gvd gvo (by omega)) (ps_cons (by first | exact gvo | exact gvd gvo (by omega)) no_ps)) rfl ?_
    refine W_q rfl rfl rfl rfl (q_add rfl rfl (by first | exact IntWalk.i64_in _ (by omega) | rfl)) ?_
    refine W_q rfl rfl rfl rfl (by first | exact q_index tb rfl rfl rfl rfl (by first | exact gvo | exact gvd gvo (by omega)) (by omega) (by first | omega | (simp; done) | (simp; omega)) | exact q_indexP tb rfl rfl rfl rfl (by omega) (by omega)) ?_
    refine W_nil ?_
    first | refine L_storeEl tb rfl rfl rfl rfl rfl rfl (i := (dlAt ls k).g.toNat) (by omega) (by omega) ?_ | (refine L_front1 ?_; refine L_storeEl tb rfl rfl rfl rfl rfl rfl (i := (dlAt ls k).g.toNat) (by omega) (by omega) ?_) | (refine L_front2 ?_; refine L_storeEl tb rfl rfl rfl rfl rfl rfl (i := (dlAt ls k).g.toNat) (by omega) (by omega) ?_) | (refine L_front3 ?_; refine L_storeEl tb rfl rfl rfl rfl rfl rfl (i := (dlAt ls k).g.toNat) (by omega) (by omega) ?_) | (refine L_front4 ?_; refine L_storeEl tb rfl rfl rfl rfl rfl rfl (i := (dlAt ls k).g.toNat) (by omega) (by omega) ?_) | (refine L_front5 ?_; refine L_storeEl tb rfl rfl rfl rfl rfl rfl (i := (dlAt ls k).g.toNat) (by omega) (by omega) ?_) | (refine L_front6 ?_; refine L_storeEl tb rfl rfl rfl rfl rfl rfl (i := (dlAt ls k).g.toNat) (by omega) (by omega) ?_)
    refine L_blk ?_
    refine C_region ?_
    refine L_q rfl rfl rfl (q_move rfl) ?_
    refine L_q rfl rfl rfl (q_add rfl rfl (by first | exact IntWalk.i64_in _ (by omega) | rfl)) ?_
    refine L_q rfl rfl rfl (q_assign rfl) ?_
    refine L_end ?_
    have e9 := cons_step (amt := (amtS sf gs ls b)) hv0
    exact fun ac_ wo_ hs_ => ⟨k + 1, (by dsimp only; omega), (by dsimp only; omega), hs_.weak ⟨rfl, rfl, rfl, rfl, trivial⟩ (fun h => h.pk (by repeat (first | with_reducible exact pk_nil | refine pk_box (by first | rfl | exact e9) ?_ | refine pk_rd rfl ?_ | refine pk_sl (by first | rfl | exact e9) ?_ | with_reducible refine pk_app ?_ | with_reducible refine pk_app0 ?_ | with_reducible refine pk_app0L ?_ | with_reducible exact pk_tl | refine pk_var ?_)))⟩
  · -- t15 False
    refine C_exit ?_
    change C Try.prog _ _ _ _ _ _ _
    refine C_seq ?_
    refine C_region ?_
    refine L_q rfl rfl rfl (q_move rfl) ?_
    refine L_q rfl rfl rfl (q_assign rfl) ?_
    refine L_then ?_
    refine C_ret ?_
    obtain rfl : k = ls.length := by omega
    exact ret_of (rs' := [sl v10 3 1 ((consK gs.length ls (amtS sf gs ls b) ls.length).map cI)]) (res1 rfl rfl) (fun w_ h_ => h_.pk (by repeat (first | with_reducible exact pk_nil | refine pk_box rfl ?_ | refine pk_rd rfl ?_ | refine pk_sl rfl ?_ | with_reducible refine pk_app ?_ | with_reducible refine pk_app0 ?_ | with_reducible refine pk_app0L ?_ | with_reducible exact pk_tl | refine pk_var ?_))) own1 rfl
set_option maxRecDepth 100000 in
set_option maxHeartbeats 1000000 in
theorem ct_shotlineref05_ConsumedAt (nm : ByteArray) (sf : Int) (v u : Value) (gs : List Gs) (ls : List Dl) (H : okPl sf gs ls) (b c : Int) (hb : 1 ≤ b ∧ b ≤ 100000) (hT : secAt ls ls.length ≤ 20000) (hc : 0 ≤ c ∧ c ≤ secAt ls ls.length) : Ct Try.prog 58 [.agg (cPl nm sf v u).toArray, .int .i64 b, .int .i64 c] [(v, 2, gs.map cGs), (u, 3, ls.map cDl)] (isSl 3 1 ((consK gs.length ls (amtT sf gs ls b c) ls.length).map cI)) := by
  refine Ct.of (N := 64) Try.func58 rfl rfl rfl fun w => ?_
  refine C_weak (E' := [(0, .agg (cPl nm sf v u).toArray), (1, .int .i64 b), (2, .int .i64 c)]) (rs' := [rd v 2 (gs.map cGs), rd u 3 (ls.map cDl)]) ⟨rfl, rfl, rfl, trivial⟩ (fun _ h => h) ?_
  have hl1 := len_map cGs gs
  have hl2 := len_map cDl ls
  have hll := H.ll; have hgl := H.gl
  refine C_seq ?_
  refine C_region ?_
  refine L_box rfl rfl rfl fun g3 => ?_
  refine L_q rfl rfl rfl (q_assign rfl) ?_
  refine L_then ?_
  refine C_seq ?_
  refine C_region ?_
  refine L_q rfl rfl rfl (q_field tb rfl rfl rfl) ?_
  refine L_q rfl rfl rfl (q_load tb rfl rfl bxo rfl) ?_
  refine L_q rfl rfl rfl (q_len tb rfl rfl (by first | exact gvo | exact gvd gvo (by omega))) ?_
  rw [hl1]
  refine L_mk (lo_make tb rfl rfl rfl (n := gs.length) rfl rfl (by omega) (by simp [maxLen]; omega)) rfl rfl rfl fun v14 => ?_
  refine L_q rfl rfl rfl (q_assign rfl) ?_
  refine L_then ?_
  refine C_seq ?_
  refine C_res (rs' := [sl v14 3 1 ((consK gs.length ls (amtT sf gs ls b c) 0).map cI), box g3 44 (cPl nm sf v u), rd v 2 (gs.map cGs), rd u 3 (ls.map cDl)]) (fun _ h => h.pk (by repeat (first | with_reducible exact pk_nil | refine pk_box (by first | rfl | exact (cons_zero _ _ _)) ?_ | refine pk_rd rfl ?_ | refine pk_sl (by first | rfl | exact (cons_zero _ _ _)) ?_ | with_reducible refine pk_app ?_ | with_reducible refine pk_app0 ?_ | with_reducible refine pk_app0L ?_ | with_reducible exact pk_tl | refine pk_var ?_))) ?_
  refine C_region ?_
  refine L_q rfl rfl rfl (q_assign rfl) ?_
  refine L_then ?_
  refine C_seq ?_
  refine C_seq ?_
  refine C_region ?_
  refine L_q rfl rfl rfl (q_assign rfl) ?_
  refine L_then ?_
  refine C_block ?_
  refine C_loop (ι := Nat) (fun k => ([(1, .int .i64 b), (2, .int .i64 c), (3, .pointer (some ⟨g3, 0, none⟩)), (7, v14), (8, .int .i64 (fromAt ls c k)), (9, .int .i64 (k : Int))], [sl v14 3 1 ((consK gs.length ls (amtT sf gs ls b c) k).map cI), box g3 44 (cPl nm sf v u), rd v 2 (gs.map cGs), rd u 3 (ls.map cDl)])) (fun k => k ≤ ls.length) (fun k => ls.length - k) 0 (Nat.zero_le _) (fun a w hs => hs.weak ⟨rfl, rfl, rfl, rfl, en (by show 0 = min 0 c; omega), rfl, trivial⟩ (fun h => h.pk (by repeat (first | with_reducible exact pk_nil | refine pk_box rfl ?_ | refine pk_rd rfl ?_ | refine pk_sl rfl ?_ | with_reducible refine pk_app ?_ | with_reducible refine pk_app0 ?_ | with_reducible refine pk_app0L ?_ | with_reducible exact pk_tl | refine pk_var ?_)))) ?_
  intro k hk9
  dsimp only at hk9 ⊢
  refine C_seq ?_
  refine C_seq ?_
  refine C_region ?_
  refine L_q rfl rfl rfl (q_move rfl) ?_
  refine L_q rfl rfl rfl (q_field tb rfl rfl rfl) ?_
  refine L_q rfl rfl rfl (q_load tb rfl rfl bxo rfl) ?_
  refine L_q rfl rfl rfl (q_len tb rfl rfl (by first | exact gvo | exact gvd gvo (by omega))) ?_
  refine L_q rfl rfl rfl (q_lss rfl rfl) ?_
  refine L_q rfl rfl rfl (q_move rfl) ?_
  refine L_dec (d := 20) rfl (fun hk0 => ?_) (fun hk0 => ?_)
  · -- t20 True
    refine L_qg rfl rfl rfl rfl rfl rfl rfl (q_move rfl) ?_
    refine L_qg rfl rfl rfl rfl rfl rfl rfl (q_move rfl) ?_
    refine L_qg rfl rfl rfl rfl rfl rfl rfl (q_lss rfl rfl) ?_
    refine L_q rfl rfl rfl (by first | exact q_pickT rfl rfl | exact q_pickF rfl rfl) ?_
    refine L_then ?_
    refine C_dec rfl (fun hfc => ?_) (fun hfc => ?_)
    · -- t24 True
      have hfr : fromAt ls c k = secAt ls k := by unfold fromAt at *; omega
      rw [hfr]
      have hlt : secAt ls k < c := by omega
      have hel := dl_cell (show k < ls.length by omega)
      have hds := (H.at (k := k) (by omega)).s; have hsl := sec_leg H (k := k) (by omega); have hse := H.e k (by omega)
      have hbr : 0 ≤ brM b (min (dlAt ls k).s (c - secAt ls k)) (legAt sf gs ls k) ∧ brM b (min (dlAt ls k).s (c - secAt ls k)) (legAt sf gs ls k) ≤ 51833333334 := brM_in (H.le (by omega)) hb (by show 0 ≤ min _ _ ∧ min _ _ ≤ (dlAt ls k).s; omega) (.inr (by show (dlAt ls k).s ≤ 20000; omega))
      obtain ⟨v0, hv0⟩ := get_some (consK gs.length ls (amtT sf gs ls b c) k) (k := (dlAt ls k).g.toNat) (by rw [consK_len]; have := (H.at (k := k) (by omega)).g; omega)
      have helo := map_get cI hv0; have hg9 := (H.at (k := k) (by omega)).g; have hbd := consK_in (n := gs.length) (ls := ls) (amt := (amtT sf gs ls b c)) (A := 51833333334) (by omega) k (fun i hi => amtT_in H hb (by omega) (by omega)) _ _ hv0
      have hcl := consK_len gs.length ls (amtT sf gs ls b c) k
      have hcm := len_map cI (consK gs.length ls (amtT sf gs ls b c) k)
      refine C_skip_then ?_
      refine C_seq ?_
      refine C_block ?_
      refine C_seq ?_
      refine C_region ?_
      refine L_q rfl rfl rfl (q_field tb rfl rfl rfl) ?_
      refine L_q rfl rfl rfl (q_load tb rfl rfl bxo rfl) ?_
      refine L_q rfl rfl rfl (q_move rfl) ?_
      refine L_q rfl rfl rfl (by first | exact q_index tb rfl rfl rfl rfl (by first | exact gvo | exact gvd gvo (by omega)) (by omega) (by first | omega | (simp; done) | (simp; omega)) | exact q_indexP tb rfl rfl rfl rfl (by omega) (by omega)) ?_
      refine L_q rfl rfl rfl (q_fieldE tb rfl rfl rfl (by first | exact gvo | exact gvd gvo (by omega)) (by first | omega | (simp; done) | (simp; omega))) ?_
      refine L_q rfl rfl rfl (q_loadE tb rfl rfl (by first | exact gvo | exact gvd gvo (by omega)) (i := k) (o := 0) (by omega) hel rfl) ?_
      refine L_q rfl rfl rfl (q_move rfl) ?_
      refine L_q rfl rfl rfl (q_move rfl) ?_
      refine L_q rfl rfl rfl (q_sub rfl rfl (by first | exact IntWalk.i64_in _ (by omega) | rfl)) ?_
      refine L_q rfl rfl rfl (q_min rfl rfl) ?_
      refine L_q rfl rfl rfl (q_assign rfl) ?_
      refine L_then ?_
      refine C_seq ?_
      refine C_draw (n := 23) [(0, false), (1, false), (2, false), (3, false), (4, false), (5, false), (6, false), (7, false), (8, false), (9, false), (10, false), (11, false), (12, false), (13, false), (14, false), (15, false), (16, false), (17, false), (18, false), (19, false), (20, true), (21, false), (22, false)] mixed (by kernel_rfl) ?_
      refine W_q rfl rfl rfl rfl (q_move rfl) ?_
      refine W_q rfl rfl rfl rfl (q_field tb rfl rfl rfl) ?_
      refine W_q rfl rfl rfl rfl (q_load tb rfl rfl bxo rfl) ?_
      refine W_q rfl rfl rfl rfl (q_move rfl) ?_
      refine W_q rfl rfl rfl rfl (by first | exact q_index tb rfl rfl rfl rfl (by first | exact gvo | exact gvd gvo (by omega)) (by omega) (by first | omega | (simp; done) | (simp; omega)) | exact q_indexP tb rfl rfl rfl rfl (by omega) (by omega)) ?_
      refine W_q rfl rfl rfl rfl (q_fieldE tb rfl rfl rfl (by first | exact gvo | exact gvd gvo (by omega)) (by first | omega | (simp; done) | (simp; omega))) ?_
      refine W_q rfl rfl rfl rfl (q_loadE tb rfl rfl (by first | exact gvo | exact gvd gvo (by omega)) (i := k) (o := 2) (by omega) hel rfl) ?_
      refine W_q rfl rfl rfl rfl (q_move rfl) ?_
      refine W_q rfl rfl rfl rfl (q_field tb rfl rfl rfl) ?_
      refine W_q rfl rfl rfl rfl (q_load tb rfl rfl bxo rfl) ?_
      refine W_q rfl rfl rfl rfl (q_move rfl) ?_
      refine W_q rfl rfl rfl rfl (by first | exact q_index tb rfl rfl rfl rfl (by first | exact gvo | exact gvd gvo (by omega)) (by omega) (by first | omega | (simp; done) | (simp; omega)) | exact q_indexP tb rfl rfl rfl rfl (by omega) (by omega)) ?_
      refine W_q rfl rfl rfl rfl (q_fieldE tb rfl rfl rfl (by first | exact gvo | exact gvd gvo (by omega)) (by first | omega | (simp; done) | (simp; omega))) ?_
      refine W_q rfl rfl rfl rfl (q_loadE tb rfl rfl (by first | exact gvo | exact gvd gvo (by omega)) (i := k) (o := 2) (by omega) hel rfl) ?_
      refine W_q rfl rfl rfl rfl (by first | exact q_index tb rfl rfl rfl rfl (by first | exact gvo | exact gvd gvo (by omega)) (by omega) (by first | omega | (simp; done) | (simp; omega)) | exact q_indexP tb rfl rfl rfl rfl (by omega) (by omega)) ?_
      refine W_q rfl rfl rfl rfl (q_loadE tb rfl rfl (by first | exact gvo | exact gvd gvo (by omega)) (i := (dlAt ls k).g.toNat) (o := 0) (by omega) helo rfl) ?_
      refine W_q rfl rfl rfl rfl (q_loadA tb rfl rfl bxo rfl rfl) ?_
      refine W_q rfl rfl rfl rfl (q_move rfl) ?_
      refine W_q rfl rfl rfl rfl (q_move rfl) ?_
      refine W_q rfl rfl rfl rfl (q_move rfl) ?_
      refine W_call tb rfl rfl rfl rfl (ct_shotlineref05_partly nm sf v u gs ls H k (by omega) b (min (dlAt ls k).s (c - secAt ls k)) hb (by omega) (by omega)) (ps_cons (by first | exact gvo | exact gvd gvo (by omega)) (ps_cons (by first | exact gvo | exact gvd gvo (by omega)) no_ps)) rfl ?_
      refine W_q rfl rfl rfl rfl (q_add rfl rfl (by first | exact IntWalk.i64_in _ (by omega) | rfl)) ?_
      refine W_q rfl rfl rfl rfl (by first | exact q_index tb rfl rfl rfl rfl (by first | exact gvo | exact gvd gvo (by omega)) (by omega) (by first | omega | (simp; done) | (simp; omega)) | exact q_indexP tb rfl rfl rfl rfl (by omega) (by omega)) ?_
      refine W_nil ?_
      first | refine L_storeEl tb rfl rfl rfl rfl rfl rfl (i := (dlAt ls k).g.toNat) (by omega) (by omega) ?_ | (refine L_front1 ?_; refine L_storeEl tb rfl rfl rfl rfl rfl rfl (i := (dlAt ls k).g.toNat) (by omega) (by omega) ?_) | (refine L_front2 ?_; refine L_storeEl tb rfl rfl rfl rfl rfl rfl (i := (dlAt ls k).g.toNat) (by omega) (by omega) ?_) | (refine L_front3 ?_; refine L_storeEl tb rfl rfl rfl rfl rfl rfl (i := (dlAt ls k).g.toNat) (by omega) (by omega) ?_) | (refine L_front4 ?_; refine L_storeEl tb rfl rfl rfl rfl rfl rfl (i := (dlAt ls k).g.toNat) (by omega) (by omega) ?_) | (refine L_front5 ?_; refine L_storeEl tb rfl rfl rfl rfl rfl rfl (i := (dlAt ls k).g.toNat) (by omega) (by omega) ?_) | (refine L_front6 ?_; refine L_storeEl tb rfl rfl rfl rfl rfl rfl (i := (dlAt ls k).g.toNat) (by omega) (by omega) ?_)
      refine L_then ?_
      refine C_region ?_
      refine L_q rfl rfl rfl (q_move rfl) ?_
      refine L_q rfl rfl rfl (q_move rfl) ?_
      refine L_q rfl rfl rfl (q_add rfl rfl (by first | exact IntWalk.i64_in _ (by omega) | rfl)) ?_
      refine L_q rfl rfl rfl (q_assign rfl) ?_
      refine L_blk ?_
      refine C_region ?_
      refine L_q rfl rfl rfl (q_move rfl) ?_
      refine L_q rfl rfl rfl (q_add rfl rfl (by first | exact IntWalk.i64_in _ (by omega) | rfl)) ?_
      refine L_q rfl rfl rfl (q_assign rfl) ?_
      refine L_end ?_
      have e9 := cons_step (amt := (amtT sf gs ls b c)) hv0
      rw [amtT_part hlt] at e9
      exact fun ac_ wo_ hs_ => ⟨k + 1, (by dsimp only; omega), (by dsimp only; omega), hs_.weak ⟨rfl, rfl, rfl, rfl, en (by unfold fromAt; rw [secAt_succ]; omega), rfl, trivial⟩ (fun h => h.pk (by repeat (first | with_reducible exact pk_nil | refine pk_box (by first | rfl | exact e9) ?_ | refine pk_rd rfl ?_ | refine pk_sl (by first | rfl | exact e9) ?_ | with_reducible refine pk_app ?_ | with_reducible refine pk_app0 ?_ | with_reducible refine pk_app0L ?_ | with_reducible exact pk_tl | refine pk_var ?_)))⟩
    · -- t24 False
      refine C_exit ?_
      change C Try.prog _ _ _ _ _ _ _
      refine C_seq ?_
      refine C_region ?_
      refine L_q rfl rfl rfl (q_move rfl) ?_
      refine L_q rfl rfl rfl (q_assign rfl) ?_
      refine L_then ?_
      refine C_ret ?_
      have e9 := consT_end (b := b) (c := c) H (k := k) hk9 (fun hh => by have hf9 : fromAt ls c k = min (secAt ls k) c := rfl; omega)
      rw [← e9]
      exact ret_of (rs' := [sl v14 3 1 ((consK gs.length ls (amtT sf gs ls b c) k).map cI)]) (res1 rfl rfl) (fun w_ h_ => h_.pk (by repeat (first | with_reducible exact pk_nil | refine pk_box rfl ?_ | refine pk_rd rfl ?_ | refine pk_sl rfl ?_ | with_reducible refine pk_app ?_ | with_reducible refine pk_app0 ?_ | with_reducible refine pk_app0L ?_ | with_reducible exact pk_tl | refine pk_var ?_))) own1 rfl
  · -- t20 False
    refine L_skip rfl rfl rfl rfl rfl rfl rfl ?_
    refine L_skip rfl rfl rfl rfl rfl rfl rfl ?_
    refine L_skip rfl rfl rfl rfl rfl rfl rfl ?_
    refine L_q rfl rfl rfl (by first | exact q_pickT rfl rfl | exact q_pickF rfl rfl) ?_
    refine L_then ?_
    refine C_false rfl ?_
    refine C_exit ?_
    change C Try.prog _ _ _ _ _ _ _
    refine C_seq ?_
    refine C_region ?_
    refine L_q rfl rfl rfl (q_move rfl) ?_
    refine L_q rfl rfl rfl (q_assign rfl) ?_
    refine L_then ?_
    refine C_ret ?_
    have e9 := consT_end (b := b) (c := c) H (k := k) hk9 (fun hh => by have hf9 : fromAt ls c k = min (secAt ls k) c := rfl; omega)
    rw [← e9]
    exact ret_of (rs' := [sl v14 3 1 ((consK gs.length ls (amtT sf gs ls b c) k).map cI)]) (res1 rfl rfl) (fun w_ h_ => h_.pk (by repeat (first | with_reducible exact pk_nil | refine pk_box rfl ?_ | refine pk_rd rfl ?_ | refine pk_sl rfl ?_ | with_reducible refine pk_app ?_ | with_reducible refine pk_app0 ?_ | with_reducible refine pk_app0L ?_ | with_reducible exact pk_tl | refine pk_var ?_))) own1 rfl
end Go.Proofs.Ytolnohjbpllmhaa
