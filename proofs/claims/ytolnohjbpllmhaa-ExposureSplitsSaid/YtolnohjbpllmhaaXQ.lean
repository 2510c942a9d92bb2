/-
  Walks: each function named returns what its model says. Conditions: those in front of each theorem.
-/
import Derived.Test.YtolnohjbpllmhaaXO
import Derived.Test.YtolnohjbpllmhaaXQa
namespace Go.Proofs.Ytolnohjbpllmhaa
open Go.RowKit

set_option maxRecDepth 100000 in
theorem ct_shotlinelaw05_Brief (nm : ByteArray) (sf : Int) (v u : Value) (gs : List Gs) (ls : List Dl) : Ct Try.prog 25 [.agg (cPl nm sf v u).toArray] [(v, 2, gs.map cGs), (u, 3, ls.map cDl)] (isV (.bool (decide (briefP nm sf gs ls)))) := by
  refine Ct.of (N := 18) Try.func25 rfl rfl rfl fun w => ?_
  refine C_weak (E' := [(0, .agg (cPl nm sf v u).toArray)]) (rs' := [rd v 2 (gs.map cGs), rd u 3 (ls.map cDl)]) ⟨rfl, trivial⟩ (fun _ h => h) ?_
  have hl1 := len_map cGs gs
  have hl2 := len_map cDl ls
  refine C_seq ?_
  refine C_region ?_
  refine L_box rfl rfl rfl fun g1 => ?_
  refine L_q rfl rfl rfl (q_assign rfl) ?_
  refine L_then ?_
  refine C_seq ?_
  refine C_seq ?_
  refine C_region ?_
  refine L_q rfl rfl rfl (q_loadA tb rfl rfl bxo rfl rfl) ?_
  refine L_call tb rfl rfl (ct_shotlinelaw05_Short nm sf v u gs ls) (ps_cons (by first | exact gvo | exact gvd gvo (by omega)) (ps_cons (by first | exact gvo | exact gvd gvo (by omega)) no_ps)) rfl ?_
  refine L_q rfl rfl rfl (q_not rfl (by first | exact (rfl : (!true) = false) | exact (rfl : (!false) = true) | exact decide_not.symm | rfl)) ?_
  refine L_then ?_
  refine C_dec rfl (fun h1 => ?_) (fun h1 => ?_)
  · -- t6 True
    refine C_seq ?_
    refine C_region ?_
    refine L_q rfl rfl rfl (q_assign rfl) ?_
    refine L_then ?_
    refine C_ret ?_
    exact ret_of (res1 rfl rfl) sub_nil (by intro r hr; cases hr) ⟨(congrArg Value.bool (decide_eq_false (p := briefP nm sf gs ls) (fun hh => h1 hh.1)).symm), rfl⟩
  · -- t6 False
    have hsh := Decidable.not_not.1 h1
    refine C_skip_then ?_
    refine C_seq ?_
    refine C_seq ?_
    refine C_region ?_
    refine L_q rfl rfl rfl (q_loadA tb rfl rfl bxo rfl rfl) ?_
    refine L_call tb rfl rfl (ct_shotlineref05_Err nm sf v u gs ls (by omega) (by omega)) (ps_cons (by first | exact gvo | exact gvd gvo (by omega)) (ps_cons (by first | exact gvo | exact gvd gvo (by omega)) no_ps)) rfl ?_
    refine L_q rfl rfl rfl (q_neq rfl rfl) ?_
    refine L_then ?_
    refine C_dec rfl (fun h2 => ?_) (fun h2 => ?_)
    · -- t9 True
      refine C_seq ?_
      refine C_region ?_
      refine L_q rfl rfl rfl (q_assign rfl) ?_
      refine L_then ?_
      refine C_ret ?_
      exact ret_of (res1 rfl rfl) sub_nil (by intro r hr; cases hr) ⟨(congrArg Value.bool (decide_eq_true (p := briefP nm sf gs ls) ⟨hsh, .inl h2⟩).symm), rfl⟩
    · -- t9 False
      have H := (ckPl_ok (Decidable.not_not.1 h2)).2
      refine C_skip_then ?_
      refine C_seq ?_
      refine C_region ?_
      refine L_q rfl rfl rfl (q_loadA tb rfl rfl bxo rfl rfl) ?_
      refine L_call tb rfl rfl (ct_shotlineref02_Seconds nm sf v u gs ls H) (ps_cons (by first | exact gvo | exact gvd gvo (by omega)) (ps_cons (by first | exact gvo | exact gvd gvo (by omega)) no_ps)) rfl ?_
      refine L_q rfl rfl rfl (q_assign rfl) ?_
      refine L_then ?_
      refine C_seq ?_
      refine C_region ?_
      refine L_q rfl rfl rfl (q_move rfl) ?_
      refine L_q rfl rfl rfl (q_leq rfl rfl) ?_
      refine L_q rfl rfl rfl (q_move rfl) ?_
      refine L_dec (d := 14) rfl (fun h3 => ?_) (fun h3 => ?_)
      · -- t14 True
        refine L_skip rfl rfl rfl rfl rfl rfl rfl ?_
        refine L_skip rfl rfl rfl rfl rfl rfl rfl ?_
        refine L_q rfl rfl rfl (by first | exact q_pickT rfl rfl | exact q_pickF rfl rfl) ?_
        refine L_q rfl rfl rfl (q_assign rfl) ?_
        refine L_then ?_
        refine C_ret ?_
        exact ret_of (res1 rfl rfl) sub_nil (by intro r hr; cases hr) ⟨(by first | exact congrArg Value.bool (decide_eq_true (p := briefP nm sf gs ls) ⟨hsh, by omega⟩).symm | exact congrArg Value.bool (decide_eq_decide.2 ⟨fun hh => ⟨hsh, by omega⟩, fun hh => by have h9 := hh.2; omega⟩)), rfl⟩
      · -- t14 False
        refine L_qg rfl rfl rfl rfl rfl rfl rfl (q_move rfl) ?_
        refine L_qg rfl rfl rfl rfl rfl rfl rfl (q_gtr rfl rfl) ?_
        refine L_q rfl rfl rfl (by first | exact q_pickT rfl rfl | exact q_pickF rfl rfl) ?_
        refine L_q rfl rfl rfl (q_assign rfl) ?_
        refine L_then ?_
        refine C_ret ?_
        exact ret_of (res1 rfl rfl) sub_nil (by intro r hr; cases hr) ⟨(by first | exact congrArg Value.bool (decide_eq_true (p := briefP nm sf gs ls) ⟨hsh, by omega⟩).symm | exact congrArg Value.bool (decide_eq_decide.2 ⟨fun hh => ⟨hsh, by omega⟩, fun hh => by have h9 := hh.2; omega⟩)), rfl⟩
set_option maxRecDepth 100000 in
theorem ct_shotlinelaw05_followed (t : Value) (r : Ru) (nm : ByteArray) (sf : Int) (v u : Value) (gs : List Gs) (ls : List Dl) (hle : gs.length ≤ 100000) (hle2 : ls.length ≤ 100000) (hlt : r.tb.length ≤ 100000) : Ct Try.prog 28 [.agg (cPl nm sf v u).toArray, .agg (cRu t r).toArray] [(v, 2, gs.map cGs), (u, 3, ls.map cDl), (t, 2, r.tb.map cOw)] (isV (.int .i64 (toldE nm sf gs ls r))) := by
  refine Ct.of (N := 15) Try.func28 rfl rfl rfl fun w => ?_
  refine C_weak (E' := [(0, .agg (cPl nm sf v u).toArray), (1, .agg (cRu t r).toArray)]) (rs' := [rd v 2 (gs.map cGs), rd u 3 (ls.map cDl), rd t 2 (r.tb.map cOw)]) ⟨rfl, rfl, trivial⟩ (fun _ h => h) ?_
  have hl1 := len_map cGs gs
  have hl2 := len_map cDl ls
  have hl1 := len_map cOw r.tb
  refine C_seq ?_
  refine C_region ?_
  refine L_box rfl rfl rfl fun g2 => ?_
  refine L_box rfl rfl rfl fun g3 => ?_
  refine L_q rfl rfl rfl (q_assign rfl) ?_
  refine L_then ?_
  refine C_seq ?_
  refine C_seq ?_
  refine C_region ?_
  refine L_q rfl rfl rfl (q_loadA tb rfl rfl bxo rfl rfl) ?_
  refine L_q rfl rfl rfl (q_loadA tb rfl rfl bxo rfl rfl) ?_
  refine L_call tb rfl rfl (ct_shotlineref05_Both t r nm sf v u gs ls hle hle2 hlt) (ps_cons (by first | exact gvo | exact gvd gvo (by omega)) (ps_cons (by first | exact gvo | exact gvd gvo (by omega)) (ps_cons (by first | exact gvo | exact gvd gvo (by omega)) no_ps))) rfl ?_
  refine L_q rfl rfl rfl (q_assign rfl) ?_
  refine L_then ?_
  refine C_seq ?_
  refine C_region ?_
  refine L_q rfl rfl rfl (q_move rfl) ?_
  refine L_q rfl rfl rfl (q_neq rfl rfl) ?_
  refine L_then ?_
  refine C_dec rfl (fun h1 => ?_) (fun h1 => ?_)
  · -- t10 True
    refine C_seq ?_
    refine C_region ?_
    refine L_q rfl rfl rfl (q_move rfl) ?_
    refine L_q rfl rfl rfl (q_assign rfl) ?_
    refine L_then ?_
    refine C_ret ?_
    rw [toldE_1 h1]
    exact ret_of (res1 rfl rfl) sub_nil (by intro r hr; cases hr) ⟨rfl, rfl⟩
  · -- t10 False
    have hz := Decidable.not_not.1 h1; obtain ⟨_, H, HR, _⟩ := bothE_ok hz
    refine C_skip_then ?_
    refine C_seq ?_
    refine C_seq ?_
    refine C_region ?_
    refine L_q rfl rfl rfl (q_loadA tb rfl rfl bxo rfl rfl) ?_
    refine L_call tb rfl rfl (ct_shotlineref02_Seconds nm sf v u gs ls H) (ps_cons (by first | exact gvo | exact gvd gvo (by omega)) (ps_cons (by first | exact gvo | exact gvd gvo (by omega)) no_ps)) rfl ?_
    refine L_q rfl rfl rfl (q_gtr rfl rfl) ?_
    refine L_then ?_
    refine C_dec rfl (fun h2 => ?_) (fun h2 => ?_)
    · -- t14 True
      refine C_seq ?_
      refine C_region ?_
      refine L_q rfl rfl rfl (q_assign rfl) ?_
      refine L_then ?_
      refine C_ret ?_
      rw [toldE_2 hz h2]
      exact ret_of (res1 rfl rfl) sub_nil (by intro r hr; cases hr) ⟨rfl, rfl⟩
    · -- t14 False
      refine C_skip_then ?_
      refine C_seq ?_
      refine C_region ?_
      refine L_q rfl rfl rfl (q_assign rfl) ?_
      refine L_then ?_
      refine C_ret ?_
      rw [toldE_3 hz h2]
      exact ret_of (res1 rfl rfl) sub_nil (by intro r hr; cases hr) ⟨rfl, rfl⟩
set_option maxRecDepth 100000 in
set_option maxHeartbeats 1000000 in
theorem ct_exposure_Switches (nm : ByteArray) (sf : Int) (v u : Value) (gs : List Gs) (ls : List Dl) (hle : gs.length ≤ 100000) (hle2 : ls.length ≤ 100000) (hnm : nm.size ≤ 1000000000000) : Ct Try.prog 42 [.agg (cPl nm sf v u).toArray] [(v, 2, gs.map cGs), (u, 3, ls.map cDl)] (isSlN 71 2 ((swE nm sf gs ls).1.map cSw) (.int .i64 (swE nm sf gs ls).2)) := by
  refine Ct.of (N := 52) Try.func42 rfl rfl rfl fun w => ?_
  refine C_weak (E' := [(0, .agg (cPl nm sf v u).toArray)]) (rs' := [rd v 2 (gs.map cGs), rd u 3 (ls.map cDl)]) ⟨rfl, trivial⟩ (fun _ h => h) ?_
  have hl1 := len_map cGs gs
  have hl2 := len_map cDl ls
  refine C_seq ?_
  refine C_region ?_
  refine L_box rfl rfl rfl fun g1 => ?_
  refine L_q rfl rfl rfl (q_assign rfl) ?_
  refine L_q rfl rfl rfl (q_assign rfl) ?_
  refine L_then ?_
  refine C_seq ?_
  refine C_seq ?_
  refine C_region ?_
  refine L_q rfl rfl rfl (q_loadA tb rfl rfl bxo rfl rfl) ?_
  refine L_call tb rfl rfl (ct_exposure_checkPlan nm sf v u gs ls hle hle2 hnm) (ps_cons (by first | exact gvo | exact gvd gvo (by omega)) (ps_cons (by first | exact gvo | exact gvd gvo (by omega)) no_ps)) rfl ?_
  refine L_q rfl rfl rfl (q_assign rfl) ?_
  refine L_then ?_
  refine C_seq ?_
  refine C_region ?_
  refine L_q rfl rfl rfl (q_move rfl) ?_
  refine L_q rfl rfl rfl (q_neq rfl rfl) ?_
  refine L_then ?_
  refine C_dec rfl (fun h1 => ?_) (fun h1 => ?_)
  · -- t11 True
    refine C_seq ?_
    refine C_region ?_
    refine L_q rfl rfl rfl (q_move rfl) ?_
    refine L_q rfl rfl rfl (q_assign rfl) ?_
    refine L_q rfl rfl rfl (q_assign rfl) ?_
    refine L_then ?_
    refine C_ret ?_
    rw [swE_1 h1]
    exact ret_of (rs' := [sl (.slice none 0 0) 71 2 []]) (res2 rfl rfl rfl) (fun w_ h_ => ws_nil (sub_nil w_ h_)) own1 ⟨_, rfl, rfl⟩
  · -- t11 False
    have hz := Decidable.not_not.1 h1; have H := (ckPl_ok hz).2; have hll := H.ll; have hgl := H.gl
    refine C_skip_then ?_
    refine C_seq ?_
    refine C_region ?_
    refine L_q rfl rfl rfl (q_assign rfl) ?_
    refine L_then ?_
    refine C_seq ?_
    refine C_seq ?_
    refine C_region ?_
    refine L_q rfl rfl rfl (q_field tb rfl rfl rfl) ?_
    refine L_q rfl rfl rfl (q_load tb rfl rfl bxo rfl) ?_
    refine L_q rfl rfl rfl (q_len tb rfl rfl (by first | exact gvo | exact gvd gvo (by omega))) ?_
    refine L_q rfl rfl rfl (q_move rfl) ?_
    refine L_then ?_
    refine C_block ?_
    refine C_nil 71 2 ?_
    refine C_loop (ι := Nat × Value) (fun q => ([(1, .pointer (some ⟨g1, 0, none⟩)), (5, q.2), (14, u), (15, .int .i64 (ls.map cDl).length), (16, .int .i64 (q.1 : Int))], [sl q.2 71 2 ((swK gs ls q.1).map cSw), box g1 44 (cPl nm sf v u), rd v 2 (gs.map cGs), rd u 3 (ls.map cDl)])) (fun q => q.1 ≤ ls.length) (fun q => ls.length - q.1) (0, .slice none 0 0) (Nat.zero_le _) (fun a w hs => hs.weak ⟨rfl, rfl, rfl, rfl, rfl, trivial⟩ (fun h => h.pk (by repeat (first | with_reducible exact pk_nil | refine pk_box rfl ?_ | refine pk_rd rfl ?_ | refine pk_sl rfl ?_ | with_reducible refine pk_app ?_ | with_reducible refine pk_app0 ?_ | with_reducible refine pk_app0L ?_ | with_reducible exact pk_tl | refine pk_var ?_)))) ?_
    rintro ⟨k, y⟩ hk9
    dsimp only at hk9 ⊢
    refine C_seq ?_
    refine C_region ?_
    refine L_q rfl rfl rfl (q_lss rfl rfl) ?_
    refine L_then ?_
    refine C_seq ?_
    refine C_dec rfl (fun h2 => ?_) (fun h2 => ?_)
    · -- t17 True
      have hel := dl_cell (show k < ls.length by omega)
      have ha3 := (H.at (k := k) (by omega)).g; have helg := gas_cell (gs := gs) ha3.1 ha3.2; have hsl := swK_len gs ls k
      refine C_skip_then ?_
      refine C_seq ?_
      refine C_block ?_
      refine C_seq ?_
      refine C_region ?_
      refine L_q rfl rfl rfl (q_move rfl) ?_
      refine L_q rfl rfl rfl (by first | exact q_index tb rfl rfl rfl rfl (by first | exact gvo | exact gvd gvo (by omega)) (by omega) (by first | omega | (simp; done) | (simp; omega)) | exact q_indexP tb rfl rfl rfl rfl (by omega) (by omega)) ?_
      refine L_q rfl rfl rfl (q_loadEA tb rfl rfl (by first | exact gvo | exact gvd gvo (by omega)) (i := k) (o := 0) (by omega) hel rfl rfl) ?_
      refine L_alloc tb rfl rfl fun g7 => ?_
      refine L_q rfl rfl rfl (q_assign rfl) ?_
      first | refine L_store tb rfl rfl rfl rfl rfl rfl rfl rfl ?_ | (refine L_front1 ?_; refine L_store tb rfl rfl rfl rfl rfl rfl rfl rfl ?_) | (refine L_front2 ?_; refine L_store tb rfl rfl rfl rfl rfl rfl rfl rfl ?_) | (refine L_front3 ?_; refine L_store tb rfl rfl rfl rfl rfl rfl rfl rfl ?_) | (refine L_front4 ?_; refine L_store tb rfl rfl rfl rfl rfl rfl rfl rfl ?_) | (refine L_front5 ?_; refine L_store tb rfl rfl rfl rfl rfl rfl rfl rfl ?_) | (refine L_front6 ?_; refine L_store tb rfl rfl rfl rfl rfl rfl rfl rfl ?_)
      refine L_then ?_
      refine C_seq ?_
      refine C_res (rs' := [box g7 95 ([.int .i64 (dlAt ls k).s, .int .i64 (dlAt ls k).d, .int .i64 (dlAt ls k).g]), sl y 71 2 ((swK gs ls k).map cSw), box g1 44 (cPl nm sf v u), rd v 2 (gs.map cGs), rd u 3 (ls.map cDl)]) (fun _ h => h.pk (by repeat (first | with_reducible exact pk_nil | refine pk_box rfl ?_ | refine pk_rd rfl ?_ | refine pk_sl rfl ?_ | with_reducible refine pk_app ?_ | with_reducible refine pk_app0 ?_ | with_reducible refine pk_app0L ?_ | with_reducible exact pk_tl | refine pk_var ?_))) ?_
      refine C_draw (n := 22) [(0, false), (1, false), (2, false), (3, false), (4, false), (5, false), (6, false), (7, false), (8, false), (9, false), (10, false), (11, false), (12, false), (13, false), (14, false), (15, false), (16, false), (17, false), (18, false), (19, false), (20, false), (21, false)] mixed (by kernel_rfl) ?_
      refine W_q rfl rfl rfl rfl (q_move rfl) ?_
      refine W_q rfl rfl rfl rfl (q_gtr rfl rfl) ?_
      refine W_q rfl rfl rfl rfl (q_move rfl) ?_
      refine W_dec (d := 23) rfl (fun hk0 => ?_) (fun hk0 => ?_)
      · -- t23 True
        have hel0 := dl_cell (show k - 1 < ls.length by omega); have ha4 := (H.at (k := k - 1) (by omega)).g; have helg0 := gas_cell (gs := gs) ha4.1 ha4.2
        refine W_qg rfl rfl rfl rfl rfl rfl rfl rfl (q_field tb rfl rfl rfl) ?_
        refine W_qg rfl rfl rfl rfl rfl rfl rfl rfl (q_load tb rfl rfl bxo rfl) ?_
        refine W_qg rfl rfl rfl rfl rfl rfl rfl rfl (q_field tb rfl rfl rfl) ?_
        refine W_qg rfl rfl rfl rfl rfl rfl rfl rfl (q_load tb rfl rfl bxo rfl) ?_
        refine W_qg rfl rfl rfl rfl rfl rfl rfl rfl (by first | exact q_index tb rfl rfl rfl rfl (by first | exact gvo | exact gvd gvo (by omega)) (by omega) (by first | omega | (simp; done) | (simp; omega)) | exact q_indexP tb rfl rfl rfl rfl (by omega) (by omega)) ?_
        refine W_qg rfl rfl rfl rfl rfl rfl rfl rfl (q_loadEA tb rfl rfl (by first | exact gvo | exact gvd gvo (by omega)) (i := (dlAt ls k).g.toNat) (o := 0) (by omega) helg rfl rfl) ?_
        refine W_qg rfl rfl rfl rfl rfl rfl rfl rfl (q_field tb rfl rfl rfl) ?_
        refine W_qg rfl rfl rfl rfl rfl rfl rfl rfl (q_load tb rfl rfl bxo rfl) ?_
        refine W_qg rfl rfl rfl rfl rfl rfl rfl rfl (q_field tb rfl rfl rfl) ?_
        refine W_qg rfl rfl rfl rfl rfl rfl rfl rfl (q_load tb rfl rfl bxo rfl) ?_
        refine W_qg rfl rfl rfl rfl rfl rfl rfl rfl (q_move rfl) ?_
        refine W_qg rfl rfl rfl rfl rfl rfl rfl rfl (q_sub rfl rfl (by first | exact IntWalk.i64_in _ (by omega) | rfl)) ?_
        refine W_qg rfl rfl rfl rfl rfl rfl rfl rfl (by first | exact q_index tb rfl rfl rfl rfl (by first | exact gvo | exact gvd gvo (by omega)) (by omega) (by first | omega | (simp; done) | (simp; omega)) | exact q_indexP tb rfl rfl rfl rfl (by omega) (by omega)) ?_
        refine W_qg rfl rfl rfl rfl rfl rfl rfl rfl (q_fieldE tb rfl rfl rfl (by first | exact gvo | exact gvd gvo (by omega)) (by first | omega | (simp; done) | (simp; omega))) ?_
        refine W_qg rfl rfl rfl rfl rfl rfl rfl rfl (q_loadE tb rfl rfl (by first | exact gvo | exact gvd gvo (by omega)) (i := k - 1) (o := 2) (by omega) hel0 rfl) ?_
        refine W_qg rfl rfl rfl rfl rfl rfl rfl rfl (by first | exact q_index tb rfl rfl rfl rfl (by first | exact gvo | exact gvd gvo (by omega)) (by omega) (by first | omega | (simp; done) | (simp; omega)) | exact q_indexP tb rfl rfl rfl rfl (by omega) (by omega)) ?_
        refine W_qg rfl rfl rfl rfl rfl rfl rfl rfl (q_loadEA tb rfl rfl (by first | exact gvo | exact gvd gvo (by omega)) (i := (dlAt ls (k - 1)).g.toNat) (o := 0) (by omega) helg0 rfl rfl) ?_
        refine W_qg rfl rfl rfl rfl rfl rfl rfl rfl (q_neI (p := sameG (gasAt gs (dlAt ls k).g) (gasAt gs (dlAt ls (k - 1)).g)) (xs := [(gasAt gs (dlAt ls k).g).o, (gasAt gs (dlAt ls k).g).h]) (ys := [(gasAt gs (dlAt ls (k - 1)).g).o, (gasAt gs (dlAt ls (k - 1)).g).h]) eq23 (by omega) eg23 rfl rfl rfl rfl (by simp)) ?_
        refine W_q rfl rfl rfl rfl (by first | exact q_pickT rfl rfl | exact q_pickF rfl rfl) ?_
        refine W_nil ?_
        refine L_then ?_
        refine C_dec rfl (fun hsw => ?_) (fun hsw => ?_)
        · -- t42 True
          refine C_res (rs' := [box g7 95 ([.int .i64 (dlAt ls k).s, .int .i64 (dlAt ls k).d, .int .i64 (dlAt ls k).g]), sl y 71 2 ((swK gs ls k).map cSw), box g1 44 (cPl nm sf v u), rd v 2 (gs.map cGs), rd u 3 (ls.map cDl)]) (fun _ h => h.pk (by repeat (first | with_reducible exact pk_nil | refine pk_box rfl ?_ | refine pk_rd rfl ?_ | refine pk_sl rfl ?_ | with_reducible refine pk_app ?_ | with_reducible refine pk_app0 ?_ | with_reducible refine pk_app0L ?_ | with_reducible exact pk_tl | refine pk_var ?_))) ?_
          refine C_region ?_
          refine L_q rfl rfl rfl (q_move rfl) ?_
          refine L_q rfl rfl rfl (q_move rfl) ?_
          refine L_q rfl rfl rfl (q_field tb rfl rfl rfl) ?_
          refine L_q rfl rfl rfl (q_load tb rfl rfl bxo rfl) ?_
          refine L_q rfl rfl rfl (by first | exact q_build tb rfl rfl rfl rfl | exact q_buildArr tb rfl rfl rfl rfl rfl) ?_
          refine L_mk (lo_bslice tb rfl rfl rfl (xs := [cSw ((k : Int), (dlAt ls k).g)]) rfl rfl (by simp [cSw]) rfl (by omega) rfl) rfl rfl rfl fun v48 => ?_
          first | (refine L_front1 ?_; refine L_append tb rfl rfl rfl (by omega) rfl rfl (by first | exact gvo | exact gvd gvo (by omega)) (by simp [Value.oneCell', cSw]) (by simp [maxLen, List.length_map]; omega) (by simp [List.length_map]; omega) rfl fun v49 => ?_) | (refine L_front2 ?_; refine L_append tb rfl rfl rfl (by omega) rfl rfl (by first | exact gvo | exact gvd gvo (by omega)) (by simp [Value.oneCell', cSw]) (by simp [maxLen, List.length_map]; omega) (by simp [List.length_map]; omega) rfl fun v49 => ?_) | (refine L_front3 ?_; refine L_append tb rfl rfl rfl (by omega) rfl rfl (by first | exact gvo | exact gvd gvo (by omega)) (by simp [Value.oneCell', cSw]) (by simp [maxLen, List.length_map]; omega) (by simp [List.length_map]; omega) rfl fun v49 => ?_) | (refine L_front4 ?_; refine L_append tb rfl rfl rfl (by omega) rfl rfl (by first | exact gvo | exact gvd gvo (by omega)) (by simp [Value.oneCell', cSw]) (by simp [maxLen, List.length_map]; omega) (by simp [List.length_map]; omega) rfl fun v49 => ?_) | (refine L_front5 ?_; refine L_append tb rfl rfl rfl (by omega) rfl rfl (by first | exact gvo | exact gvd gvo (by omega)) (by simp [Value.oneCell', cSw]) (by simp [maxLen, List.length_map]; omega) (by simp [List.length_map]; omega) rfl fun v49 => ?_) | (refine L_front6 ?_; refine L_append tb rfl rfl rfl (by omega) rfl rfl (by first | exact gvo | exact gvd gvo (by omega)) (by simp [Value.oneCell', cSw]) (by simp [maxLen, List.length_map]; omega) (by simp [List.length_map]; omega) rfl fun v49 => ?_) | (refine L_append tb rfl rfl rfl (by omega) rfl rfl (by first | exact gvo | exact gvd gvo (by omega)) (by simp [Value.oneCell', cSw]) (by simp [maxLen, List.length_map]; omega) (by simp [List.length_map]; omega) rfl fun v49 => ?_)
          refine L_q rfl rfl rfl (q_assign rfl) ?_
          refine L_blk ?_
          refine C_region ?_
          refine L_q rfl rfl rfl (q_add rfl rfl (by first | exact IntWalk.i64_in _ (by omega) | rfl)) ?_
          refine L_q rfl rfl rfl (q_move rfl) ?_
          refine L_end ?_
          have e9 := sw_yes (gs := gs) (ls := ls) (k := k) (by omega) hsw
          exact fun ac_ wo_ hs_ => ⟨(k + 1, v49), (by dsimp only; omega), (by dsimp only; omega), hs_.weak ⟨rfl, rfl, rfl, rfl, rfl, trivial⟩ (fun h => h.pk (by repeat (first | with_reducible exact pk_nil | refine pk_box (by first | rfl | exact e9) ?_ | refine pk_rd rfl ?_ | refine pk_sl (by first | rfl | exact e9) ?_ | with_reducible refine pk_app ?_ | with_reducible refine pk_app0 ?_ | with_reducible refine pk_app0L ?_ | with_reducible exact pk_tl | refine pk_var ?_)))⟩
        · -- t42 False
          refine C_skip_blk ?_
          refine C_region ?_
          refine L_q rfl rfl rfl (q_add rfl rfl (by first | exact IntWalk.i64_in _ (by omega) | rfl)) ?_
          refine L_q rfl rfl rfl (q_move rfl) ?_
          refine L_end ?_
          have e9 := sw_no (gs := gs) (ls := ls) (k := k) (fun hh => hsw hh.2)
          exact fun ac_ wo_ hs_ => ⟨(k + 1, y), (by dsimp only; omega), (by dsimp only; omega), hs_.weak ⟨rfl, rfl, rfl, rfl, rfl, trivial⟩ (fun h => h.pk (by repeat (first | with_reducible exact pk_nil | refine pk_box (by first | rfl | exact e9) ?_ | refine pk_rd rfl ?_ | refine pk_sl (by first | rfl | exact e9) ?_ | with_reducible refine pk_app ?_ | with_reducible refine pk_app0 ?_ | with_reducible refine pk_app0L ?_ | with_reducible exact pk_tl | refine pk_var ?_)))⟩
      · -- t23 False
        refine W_skip rfl rfl rfl rfl rfl rfl rfl rfl ?_
        refine W_skip rfl rfl rfl rfl rfl rfl rfl rfl ?_
        refine W_skip rfl rfl rfl rfl rfl rfl rfl rfl ?_
        refine W_skip rfl rfl rfl rfl rfl rfl rfl rfl ?_
        refine W_skip rfl rfl rfl rfl rfl rfl rfl rfl ?_
        refine W_skip rfl rfl rfl rfl rfl rfl rfl rfl ?_
        refine W_skip rfl rfl rfl rfl rfl rfl rfl rfl ?_
        refine W_skip rfl rfl rfl rfl rfl rfl rfl rfl ?_
        refine W_skip rfl rfl rfl rfl rfl rfl rfl rfl ?_
        refine W_skip rfl rfl rfl rfl rfl rfl rfl rfl ?_
        refine W_skip rfl rfl rfl rfl rfl rfl rfl rfl ?_
        refine W_skip rfl rfl rfl rfl rfl rfl rfl rfl ?_
        refine W_skip rfl rfl rfl rfl rfl rfl rfl rfl ?_
        refine W_skip rfl rfl rfl rfl rfl rfl rfl rfl ?_
        refine W_skip rfl rfl rfl rfl rfl rfl rfl rfl ?_
        refine W_skip rfl rfl rfl rfl rfl rfl rfl rfl ?_
        refine W_skip rfl rfl rfl rfl rfl rfl rfl rfl ?_
        refine W_skip rfl rfl rfl rfl rfl rfl rfl rfl ?_
        refine W_q rfl rfl rfl rfl (by first | exact q_pickT rfl rfl | exact q_pickF rfl rfl) ?_
        refine W_nil ?_
        refine L_then ?_
        refine C_false rfl ?_
        refine C_skip_blk ?_
        refine C_region ?_
        refine L_q rfl rfl rfl (q_add rfl rfl (by first | exact IntWalk.i64_in _ (by omega) | rfl)) ?_
        refine L_q rfl rfl rfl (q_move rfl) ?_
        refine L_end ?_
        have e9 := sw_no (gs := gs) (ls := ls) (k := k) (fun hh => by omega)
        exact fun ac_ wo_ hs_ => ⟨(k + 1, y), (by dsimp only; omega), (by dsimp only; omega), hs_.weak ⟨rfl, rfl, rfl, rfl, rfl, trivial⟩ (fun h => h.pk (by repeat (first | with_reducible exact pk_nil | refine pk_box (by first | rfl | exact e9) ?_ | refine pk_rd rfl ?_ | refine pk_sl (by first | rfl | exact e9) ?_ | with_reducible refine pk_app ?_ | with_reducible refine pk_app0 ?_ | with_reducible refine pk_app0L ?_ | with_reducible exact pk_tl | refine pk_var ?_)))⟩
    · -- t17 False
      refine C_exit ?_
      change C Try.prog _ _ _ _ _ _ _
      refine C_seq ?_
      refine C_region ?_
      refine L_q rfl rfl rfl (q_move rfl) ?_
      refine L_q rfl rfl rfl (q_assign rfl) ?_
      refine L_q rfl rfl rfl (q_assign rfl) ?_
      refine L_then ?_
      refine C_ret ?_
      obtain rfl : k = ls.length := by omega
      rw [swE_2 hz]
      exact ret_of (rs' := [sl y 71 2 ((swK gs ls ls.length).map cSw)]) (res2 rfl rfl rfl) (fun w_ h_ => h_.pk (by repeat (first | with_reducible exact pk_nil | refine pk_box rfl ?_ | refine pk_rd rfl ?_ | refine pk_sl rfl ?_ | with_reducible refine pk_app ?_ | with_reducible refine pk_app0 ?_ | with_reducible refine pk_app0L ?_ | with_reducible exact pk_tl | refine pk_var ?_))) own1 ⟨_, rfl, rfl⟩
set_option maxRecDepth 100000 in
set_option maxHeartbeats 1000000 in
theorem ct_shotlineref05_Switches (nm : ByteArray) (sf : Int) (v u : Value) (gs : List Gs) (ls : List Dl) (H : okPl sf gs ls) : Ct Try.prog 44 [.agg (cPl nm sf v u).toArray] [(v, 2, gs.map cGs), (u, 3, ls.map cDl)] (isSl 71 2 ((swK gs ls ls.length).map cSw)) := by
  refine Ct.of (N := 46) Try.func44 rfl rfl rfl fun w => ?_
  refine C_weak (E' := [(0, .agg (cPl nm sf v u).toArray)]) (rs' := [rd v 2 (gs.map cGs), rd u 3 (ls.map cDl)]) ⟨rfl, trivial⟩ (fun _ h => h) ?_
  have hl1 := len_map cGs gs
  have hl2 := len_map cDl ls
  have hll := H.ll; have hgl := H.gl
  refine C_seq ?_
  refine C_region ?_
  refine L_box rfl rfl rfl fun g1 => ?_
  refine L_q rfl rfl rfl (q_assign rfl) ?_
  refine L_then ?_
  refine C_seq ?_
  refine C_region ?_
  refine L_q rfl rfl rfl (q_assign rfl) ?_
  refine L_then ?_
  refine C_seq ?_
  refine C_seq ?_
  refine C_region ?_
  refine L_q rfl rfl rfl (q_assign rfl) ?_
  refine L_then ?_
  refine C_block ?_
  refine C_nil 71 2 ?_
  refine C_loop (ι := Nat × Value) (fun q => ([(1, .pointer (some ⟨g1, 0, none⟩)), (3, q.2), (4, .int .i64 (q.1 : Int))], [sl q.2 71 2 ((swK gs ls q.1).map cSw), box g1 44 (cPl nm sf v u), rd v 2 (gs.map cGs), rd u 3 (ls.map cDl)])) (fun q => 1 ≤ q.1 ∧ (q.1 ≤ ls.length ∨ q.1 = 1)) (fun q => ls.length - q.1) (1, .slice none 0 0) ⟨Nat.le_refl _, .inr rfl⟩ (fun a w hs => hs.weak ⟨rfl, rfl, rfl, trivial⟩ (fun h => h.pk (by repeat (first | with_reducible exact pk_nil | refine pk_box rfl ?_ | refine pk_rd rfl ?_ | refine pk_sl rfl ?_ | with_reducible refine pk_app ?_ | with_reducible refine pk_app0 ?_ | with_reducible refine pk_app0L ?_ | with_reducible exact pk_tl | refine pk_var ?_)))) ?_
  rintro ⟨k, y⟩ ⟨hk1, hk9⟩
  dsimp only at hk1 hk9 ⊢
  refine C_seq ?_
  refine C_seq ?_
  refine C_region ?_
  refine L_q rfl rfl rfl (q_move rfl) ?_
  refine L_q rfl rfl rfl (q_field tb rfl rfl rfl) ?_
  refine L_q rfl rfl rfl (q_load tb rfl rfl bxo rfl) ?_
  refine L_q rfl rfl rfl (q_len tb rfl rfl (by first | exact gvo | exact gvd gvo (by omega))) ?_
  refine L_q rfl rfl rfl (q_lss rfl rfl) ?_
  refine L_then ?_
  refine C_dec rfl (fun h1 => ?_) (fun h1 => ?_)
  · -- t9 True
    have hel := dl_cell (show k < ls.length by omega)
    have ha3 := (H.at (k := k) (by omega)).g; have helg := gas_cell (gs := gs) ha3.1 ha3.2; have hsl := swK_len gs ls k
    have hel0 := dl_cell (show k - 1 < ls.length by omega); have ha4 := (H.at (k := k - 1) (by omega)).g; have helg0 := gas_cell (gs := gs) ha4.1 ha4.2
    refine C_skip_then ?_
    refine C_seq ?_
    refine C_block ?_
    refine C_seq ?_
    refine C_draw (n := 22) [(0, false), (1, false), (2, false), (3, false), (4, false), (5, false), (6, false), (7, false), (8, false), (9, false), (10, false), (11, false), (12, false), (13, false), (14, false), (15, false), (16, false), (17, false), (18, false), (19, false), (20, false), (21, false)] mixed (by kernel_rfl) ?_
    refine W_q rfl rfl rfl rfl (q_field tb rfl rfl rfl) ?_
    refine W_q rfl rfl rfl rfl (q_load tb rfl rfl bxo rfl) ?_
    refine W_q rfl rfl rfl rfl (q_field tb rfl rfl rfl) ?_
    refine W_q rfl rfl rfl rfl (q_load tb rfl rfl bxo rfl) ?_
    refine W_q rfl rfl rfl rfl (q_move rfl) ?_
    refine W_q rfl rfl rfl rfl (by first | exact q_index tb rfl rfl rfl rfl (by first | exact gvo | exact gvd gvo (by omega)) (by omega) (by first | omega | (simp; done) | (simp; omega)) | exact q_indexP tb rfl rfl rfl rfl (by omega) (by omega)) ?_
    refine W_q rfl rfl rfl rfl (q_fieldE tb rfl rfl rfl (by first | exact gvo | exact gvd gvo (by omega)) (by first | omega | (simp; done) | (simp; omega))) ?_
    refine W_q rfl rfl rfl rfl (q_loadE tb rfl rfl (by first | exact gvo | exact gvd gvo (by omega)) (i := k) (o := 2) (by omega) hel rfl) ?_
    refine W_q rfl rfl rfl rfl (by first | exact q_index tb rfl rfl rfl rfl (by first | exact gvo | exact gvd gvo (by omega)) (by omega) (by first | omega | (simp; done) | (simp; omega)) | exact q_indexP tb rfl rfl rfl rfl (by omega) (by omega)) ?_
    refine W_q rfl rfl rfl rfl (q_loadEA tb rfl rfl (by first | exact gvo | exact gvd gvo (by omega)) (i := (dlAt ls k).g.toNat) (o := 0) (by omega) helg rfl rfl) ?_
    refine W_q rfl rfl rfl rfl (q_field tb rfl rfl rfl) ?_
    refine W_q rfl rfl rfl rfl (q_load tb rfl rfl bxo rfl) ?_
    refine W_q rfl rfl rfl rfl (q_field tb rfl rfl rfl) ?_
    refine W_q rfl rfl rfl rfl (q_load tb rfl rfl bxo rfl) ?_
    refine W_q rfl rfl rfl rfl (q_move rfl) ?_
    refine W_q rfl rfl rfl rfl (q_sub rfl rfl (by first | exact IntWalk.i64_in _ (by omega) | rfl)) ?_
    refine W_q rfl rfl rfl rfl (by first | exact q_index tb rfl rfl rfl rfl (by first | exact gvo | exact gvd gvo (by omega)) (by omega) (by first | omega | (simp; done) | (simp; omega)) | exact q_indexP tb rfl rfl rfl rfl (by omega) (by omega)) ?_
    refine W_q rfl rfl rfl rfl (q_fieldE tb rfl rfl rfl (by first | exact gvo | exact gvd gvo (by omega)) (by first | omega | (simp; done) | (simp; omega))) ?_
    refine W_q rfl rfl rfl rfl (q_loadE tb rfl rfl (by first | exact gvo | exact gvd gvo (by omega)) (i := k - 1) (o := 2) (by omega) hel0 rfl) ?_
    refine W_q rfl rfl rfl rfl (by first | exact q_index tb rfl rfl rfl rfl (by first | exact gvo | exact gvd gvo (by omega)) (by omega) (by first | omega | (simp; done) | (simp; omega)) | exact q_indexP tb rfl rfl rfl rfl (by omega) (by omega)) ?_
    refine W_q rfl rfl rfl rfl (q_loadEA tb rfl rfl (by first | exact gvo | exact gvd gvo (by omega)) (i := (dlAt ls (k - 1)).g.toNat) (o := 0) (by omega) helg0 rfl rfl) ?_
    refine W_q rfl rfl rfl rfl (q_neI (p := sameG (gasAt gs (dlAt ls k).g) (gasAt gs (dlAt ls (k - 1)).g)) (xs := [(gasAt gs (dlAt ls k).g).o, (gasAt gs (dlAt ls k).g).h]) (ys := [(gasAt gs (dlAt ls (k - 1)).g).o, (gasAt gs (dlAt ls (k - 1)).g).h]) eq23 (by omega) eg23 rfl rfl rfl rfl (by simp)) ?_
    refine W_nil ?_
    refine L_then ?_
    refine C_dec rfl (fun hsw => ?_) (fun hsw => ?_)
    · -- t33 True
      refine C_region ?_
      refine L_q rfl rfl rfl (q_move rfl) ?_
      refine L_q rfl rfl rfl (q_move rfl) ?_
      refine L_q rfl rfl rfl (q_field tb rfl rfl rfl) ?_
      refine L_q rfl rfl rfl (q_load tb rfl rfl bxo rfl) ?_
      refine L_q rfl rfl rfl (q_move rfl) ?_
      refine L_q rfl rfl rfl (by first | exact q_index tb rfl rfl rfl rfl (by first | exact gvo | exact gvd gvo (by omega)) (by omega) (by first | omega | (simp; done) | (simp; omega)) | exact q_indexP tb rfl rfl rfl rfl (by omega) (by omega)) ?_
      refine L_q rfl rfl rfl (q_fieldE tb rfl rfl rfl (by first | exact gvo | exact gvd gvo (by omega)) (by first | omega | (simp; done) | (simp; omega))) ?_
      refine L_q rfl rfl rfl (q_loadE tb rfl rfl (by first | exact gvo | exact gvd gvo (by omega)) (i := k) (o := 2) (by omega) hel rfl) ?_
      refine L_q rfl rfl rfl (by first | exact q_build tb rfl rfl rfl rfl | exact q_buildArr tb rfl rfl rfl rfl rfl) ?_
      refine L_mk (lo_bslice tb rfl rfl rfl (xs := [cSw ((k : Int), (dlAt ls k).g)]) rfl rfl (by simp [cSw]) rfl (by omega) rfl) rfl rfl rfl fun v43 => ?_
      first | (refine L_front1 ?_; refine L_append tb rfl rfl rfl (by omega) rfl rfl (by first | exact gvo | exact gvd gvo (by omega)) (by simp [Value.oneCell', cSw]) (by simp [maxLen, List.length_map]; omega) (by simp [List.length_map]; omega) rfl fun v44 => ?_) | (refine L_front2 ?_; refine L_append tb rfl rfl rfl (by omega) rfl rfl (by first | exact gvo | exact gvd gvo (by omega)) (by simp [Value.oneCell', cSw]) (by simp [maxLen, List.length_map]; omega) (by simp [List.length_map]; omega) rfl fun v44 => ?_) | (refine L_front3 ?_; refine L_append tb rfl rfl rfl (by omega) rfl rfl (by first | exact gvo | exact gvd gvo (by omega)) (by simp [Value.oneCell', cSw]) (by simp [maxLen, List.length_map]; omega) (by simp [List.length_map]; omega) rfl fun v44 => ?_) | (refine L_front4 ?_; refine L_append tb rfl rfl rfl (by omega) rfl rfl (by first | exact gvo | exact gvd gvo (by omega)) (by simp [Value.oneCell', cSw]) (by simp [maxLen, List.length_map]; omega) (by simp [List.length_map]; omega) rfl fun v44 => ?_) | (refine L_front5 ?_; refine L_append tb rfl rfl rfl (by omega) rfl rfl (by first | exact gvo | exact gvd gvo (by omega)) (by simp [Value.oneCell', cSw]) (by simp [maxLen, List.length_map]; omega) (by simp [List.length_map]; omega) rfl fun v44 => ?_) | (refine L_front6 ?_; refine L_append tb rfl rfl rfl (by omega) rfl rfl (by first | exact gvo | exact gvd gvo (by omega)) (by simp [Value.oneCell', cSw]) (by simp [maxLen, List.length_map]; omega) (by simp [List.length_map]; omega) rfl fun v44 => ?_) | (refine L_append tb rfl rfl rfl (by omega) rfl rfl (by first | exact gvo | exact gvd gvo (by omega)) (by simp [Value.oneCell', cSw]) (by simp [maxLen, List.length_map]; omega) (by simp [List.length_map]; omega) rfl fun v44 => ?_)
      refine L_q rfl rfl rfl (q_assign rfl) ?_
      refine L_blk ?_
      refine C_region ?_
      refine L_q rfl rfl rfl (q_move rfl) ?_
      refine L_q rfl rfl rfl (q_add rfl rfl (by first | exact IntWalk.i64_in _ (by omega) | rfl)) ?_
      refine L_q rfl rfl rfl (q_assign rfl) ?_
      refine L_end ?_
      have e9 := sw_yes (gs := gs) (ls := ls) (k := k) (by omega) hsw
      exact fun ac_ wo_ hs_ => ⟨(k + 1, v44), ⟨by dsimp only; omega, by dsimp only; omega⟩, (by dsimp only; omega), hs_.weak ⟨rfl, rfl, rfl, trivial⟩ (fun h => h.pk (by repeat (first | with_reducible exact pk_nil | refine pk_box (by first | rfl | exact e9) ?_ | refine pk_rd rfl ?_ | refine pk_sl (by first | rfl | exact e9) ?_ | with_reducible refine pk_app ?_ | with_reducible refine pk_app0 ?_ | with_reducible refine pk_app0L ?_ | with_reducible exact pk_tl | refine pk_var ?_)))⟩
    · -- t33 False
      refine C_skip_blk ?_
      refine C_region ?_
      refine L_q rfl rfl rfl (q_move rfl) ?_
      refine L_q rfl rfl rfl (q_add rfl rfl (by first | exact IntWalk.i64_in _ (by omega) | rfl)) ?_
      refine L_q rfl rfl rfl (q_assign rfl) ?_
      refine L_end ?_
      have e9 := sw_no (gs := gs) (ls := ls) (k := k) (fun hh => hsw hh.2)
      exact fun ac_ wo_ hs_ => ⟨(k + 1, y), ⟨by dsimp only; omega, by dsimp only; omega⟩, (by dsimp only; omega), hs_.weak ⟨rfl, rfl, rfl, trivial⟩ (fun h => h.pk (by repeat (first | with_reducible exact pk_nil | refine pk_box (by first | rfl | exact e9) ?_ | refine pk_rd rfl ?_ | refine pk_sl (by first | rfl | exact e9) ?_ | with_reducible refine pk_app ?_ | with_reducible refine pk_app0 ?_ | with_reducible refine pk_app0L ?_ | with_reducible exact pk_tl | refine pk_var ?_)))⟩
  · -- t9 False
    refine C_exit ?_
    change C Try.prog _ _ _ _ _ _ _
    refine C_seq ?_
    refine C_region ?_
    refine L_q rfl rfl rfl (q_move rfl) ?_
    refine L_q rfl rfl rfl (q_assign rfl) ?_
    refine L_then ?_
    refine C_ret ?_
    have ek : swK gs ls k = swK gs ls ls.length := by
      rcases Nat.lt_or_ge ls.length 1 with h9 | h9
      · have e1 : k = 1 := by omega
        have e2 : ls.length = 0 := by omega
        rw [e1, e2]; rfl
      · rw [show k = ls.length by omega]
    rw [← ek]
    exact ret_of (rs' := [sl y 71 2 ((swK gs ls k).map cSw)]) (res1 rfl rfl) (fun w_ h_ => h_.pk (by repeat (first | with_reducible exact pk_nil | refine pk_box rfl ?_ | refine pk_rd rfl ?_ | refine pk_sl rfl ?_ | with_reducible refine pk_app ?_ | with_reducible refine pk_app0 ?_ | with_reducible refine pk_app0L ?_ | with_reducible exact pk_tl | refine pk_var ?_))) own1 rfl
end Go.Proofs.Ytolnohjbpllmhaa
