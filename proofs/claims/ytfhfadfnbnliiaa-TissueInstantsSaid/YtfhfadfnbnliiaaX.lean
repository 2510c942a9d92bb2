/-
  Walks: each function named returns what its model says. Conditions: those in front of each theorem.
-/
import Derived.Test.YtfhfadfnbnliiaaW
namespace Go.Proofs.Ytfhfadfnbnliiaa
open Go.RowKit

set_option maxRecDepth 100000 in
theorem ct_shotlinebase_Ints (v u : Value) (a : List Int) (hle : a.length ≤ 100000) : Ct Try.prog 72 [v, u] [(v, 1, a.map cI), (u, 1, a.map cI)] (isV (.bool true)) := by
  refine Ct.of (N := 26) Try.func72 rfl rfl rfl fun w => ?_
  refine C_weak (E' := [(0, v), (1, u)]) (rs' := [rd v 1 (a.map cI), rd u 1 (a.map cI)]) ⟨rfl, rfl, trivial⟩ (fun _ h => h) ?_
  have hl := len_map cI a
  refine C_seq ?_
  refine C_region ?_
  refine L_q rfl rfl rfl (q_assign rfl) ?_
  refine L_then ?_
  refine C_seq ?_
  refine C_seq ?_
  refine C_region ?_
  refine L_q rfl rfl rfl (q_move rfl) ?_
  refine L_q rfl rfl rfl (q_len tb rfl rfl (by first | exact gvo | exact gvd gvo (by omega))) ?_
  refine L_q rfl rfl rfl (q_move rfl) ?_
  refine L_q rfl rfl rfl (q_len tb rfl rfl (by first | exact gvo | exact gvd gvo (by omega))) ?_
  refine L_q rfl rfl rfl (q_neq rfl rfl) ?_
  refine L_then ?_
  refine C_dec rfl (fun h1 => ?_) (fun h1 => ?_)
  · -- t10 True
    omega
  · -- t10 False
    refine C_skip_then ?_
    refine C_seq ?_
    refine C_seq ?_
    refine C_region ?_
    refine L_q rfl rfl rfl (q_assign rfl) ?_
    refine L_then ?_
    refine C_block ?_
    refine C_loop (ι := Nat) (fun k => ([(0, v), (1, u), (5, .int .i64 k)], [rd v 1 (a.map cI), rd u 1 (a.map cI)])) (fun k => k ≤ a.length) (fun k => a.length - k) 0 (Nat.zero_le _) (fun a w hs => hs.weak ⟨rfl, rfl, rfl, trivial⟩ (fun h => h.pk (by repeat (first | with_reducible exact pk_nil | refine pk_box rfl ?_ | refine pk_rd rfl ?_ | refine pk_sl rfl ?_ | with_reducible refine pk_app ?_ | with_reducible refine pk_app0 ?_ | with_reducible exact pk_tl | refine pk_var ?_)))) ?_
    intro k hk
    dsimp only at hk ⊢
    refine C_seq ?_
    refine C_seq ?_
    refine C_region ?_
    refine L_q rfl rfl rfl (q_move rfl) ?_
    refine L_q rfl rfl rfl (q_move rfl) ?_
    refine L_q rfl rfl rfl (q_len tb rfl rfl (by first | exact gvo | exact gvd gvo (by omega))) ?_
    refine L_q rfl rfl rfl (q_lss rfl rfl) ?_
    refine L_then ?_
    refine C_dec rfl (fun h2 => ?_) (fun h2 => ?_)
    · -- t14 True
      obtain ⟨z, he⟩ := get_some a (k := k) (by omega); have hel := map_get cI he
      refine C_skip_then ?_
      refine C_seq ?_
      refine C_block ?_
      refine C_seq ?_
      refine C_draw (n := 9) [(0, false), (1, false), (2, false), (3, false), (4, false), (5, false), (6, false), (7, false), (8, false)] mixed (by kernel_rfl) ?_
      refine W_q rfl rfl rfl rfl (q_move rfl) ?_
      refine W_q rfl rfl rfl rfl (q_move rfl) ?_
      refine W_q rfl rfl rfl rfl (by first | exact q_index tb rfl rfl rfl rfl (by first | exact gvo | exact gvd gvo (by omega)) (by omega) (by first | omega | (simp; done) | (simp; omega)) | exact q_indexP tb rfl rfl rfl rfl (by omega) (by omega)) ?_
      refine W_q rfl rfl rfl rfl (by first | exact q_load tb rfl rfl bxo rfl | exact q_loadE tb rfl rfl (by first | exact gvo | exact gvd gvo (by omega)) (i := k) (o := 0) (by omega) hel rfl) ?_
      refine W_q rfl rfl rfl rfl (q_move rfl) ?_
      refine W_q rfl rfl rfl rfl (q_move rfl) ?_
      refine W_q rfl rfl rfl rfl (by first | exact q_index tb rfl rfl rfl rfl (by first | exact gvo | exact gvd gvo (by omega)) (by omega) (by first | omega | (simp; done) | (simp; omega)) | exact q_indexP tb rfl rfl rfl rfl (by omega) (by omega)) ?_
      refine W_q rfl rfl rfl rfl (by first | exact q_load tb rfl rfl bxo rfl | exact q_loadE tb rfl rfl (by first | exact gvo | exact gvd gvo (by omega)) (i := k) (o := 0) (by omega) hel rfl) ?_
      refine W_q rfl rfl rfl rfl (q_false (q_neq rfl rfl) (by simp)) ?_
      refine W_nil ?_
      refine L_then ?_
      refine C_false rfl ?_
      refine C_skip_blk ?_
      refine C_region ?_
      refine L_q rfl rfl rfl (q_move rfl) ?_
      refine L_q rfl rfl rfl (q_add rfl rfl (by first | exact IntWalk.i64_in _ (by omega) | rfl)) ?_
      refine L_q rfl rfl rfl (q_assign rfl) ?_
      refine L_end ?_
      exact fun ac_ wo_ hs_ => ⟨k + 1, (by dsimp only; omega), (by dsimp only; omega), hs_.weak ⟨rfl, rfl, rfl, trivial⟩ (fun h => h.pk (by repeat (first | with_reducible exact pk_nil | refine pk_box rfl ?_ | refine pk_rd rfl ?_ | refine pk_sl rfl ?_ | with_reducible refine pk_app ?_ | with_reducible refine pk_app0 ?_ | with_reducible exact pk_tl | refine pk_var ?_)))⟩
    · -- t14 False
      refine C_exit ?_
      change C Try.prog _ _ _ _ _ _ _
      refine C_seq ?_
      refine C_region ?_
      refine L_q rfl rfl rfl (q_assign rfl) ?_
      refine L_then ?_
      refine C_ret ?_
      exact ret_of (res1 rfl rfl) sub_nil (by intro r hr; cases hr) ⟨rfl, rfl⟩
set_option maxRecDepth 100000 in
set_option maxHeartbeats 4000000 in
theorem ct_shotlineref03_Peaks (v u : Value) (x : Lg) (fa : Int) (f : Nat) (ts : List Cp) (ls : List Ld) (H : okTask ts ls x fa) (hf : f ≤ 6) : Ct Try.prog 73 [.agg (cDv v u x fa).toArray, .int .i64 (f : Int)] [(v, 4, ts.map cCp), (u, 4, ls.map cLd)] (isSl 3 1 ((peaksT ts ls x f).map cI)) := by
  refine Ct.of (N := 102) Try.func73 rfl rfl rfl fun w => ?_
  refine C_weak (E' := [(0, .agg (cDv v u x fa).toArray), (1, .int .i64 (f : Int))]) (rs' := [rd v 4 (ts.map cCp), rd u 4 (ls.map cLd)]) ⟨rfl, rfl, trivial⟩ (fun _ h => h) ?_
  obtain ⟨n, hn⟩ : ∃ n : Nat, n = 2 ^ f := ⟨_, rfl⟩
  have hT : onTask ts ls x fa f n := ⟨H, hf, hn⟩
  have h64 := two_f hf hn
  have hk := H.k; have hlen := hk.len; have htb := hk.b; have hfa := H.fa; have hx := H.xx; have hsx := hx.s; have hml := mks_len x n (rmk x n)
  have hl1 := len_map cCp ts; have hl2 := len_map cLd ls
  have hr00 := rmk_gt x n
  have hm00 := mk_in (j := ((0 : Nat) : Int)) hx (n := (n : Int)) (by omega) (by omega)
  refine C_seq ?_
  refine C_region ?_
  refine L_box rfl rfl rfl fun g2 => ?_
  refine L_q rfl rfl rfl (q_assign rfl) ?_
  refine L_then ?_
  refine C_seq ?_
  refine C_draw (n := 8) [(0, false), (1, false), (2, false), (4, false), (5, false), (6, false), (3, true), (7, true)] mixed (by kernel_rfl) ?_
  refine W_q rfl rfl rfl rfl (q_move rfl) ?_
  refine W_q rfl rfl rfl rfl (q_mul rfl rfl (wr (b := ((2 * f : Nat) : Int)) (by omega) (by omega))) ?_
  refine W_q rfl rfl rfl rfl (q_add rfl rfl (wr (b := ((8 + 2 * f : Nat) : Int)) (by omega) (by omega))) ?_
  refine W_q rfl rfl rfl rfl (by first | exact q_field tb rfl rfl rfl | exact q_fieldE tb rfl rfl rfl (by first | exact gvo | exact gvd gvo (by omega)) (by first | omega | (simp; done) | (simp; omega))) ?_
  refine W_q rfl rfl rfl rfl (by first | exact q_loadA tb rfl rfl bxo rfl rfl | exact q_loadEA tb rfl rfl (by first | exact gvo | exact gvd gvo (by omega)) (by omega) (by simp) rfl rfl) ?_
  refine W_q rfl rfl rfl rfl (q_move rfl) ?_
  refine W_callS tb rfl rfl rfl rfl (ct_shotlineref03_Roots (8 + 2 * f) (by omega)) no_ps rfl fun v16 => ?_
  refine W_callS tb rfl rfl rfl rfl (ct_shotlineref03_Marks x f n hf hn hx) no_ps rfl fun v20 => ?_
  refine W_nil ?_
  refine L_q rfl rfl rfl (q_assign rfl) ?_
  refine L_q rfl rfl rfl (q_assign rfl) ?_
  refine L_then ?_
  refine C_seq ?_
  refine C_region ?_
  refine L_q rfl rfl rfl (by first | exact q_field tb rfl rfl rfl | exact q_fieldE tb rfl rfl rfl (by first | exact gvo | exact gvd gvo (by omega)) (by first | omega | (simp; done) | (simp; omega))) ?_
  refine L_q rfl rfl rfl (by first | exact q_load tb rfl rfl bxo rfl | exact q_loadE tb rfl rfl (by first | exact gvo | exact gvd gvo (by omega)) (by omega) (by simp) rfl) ?_
  refine L_q rfl rfl rfl (q_assign rfl) ?_
  refine L_then ?_
  refine C_seq ?_
  refine C_region ?_
  refine L_q rfl rfl rfl (q_assign rfl) ?_
  refine L_then ?_
  refine C_seq ?_
  refine C_seq ?_
  refine C_region ?_
  refine L_q rfl rfl rfl (q_assign rfl) ?_
  refine L_then ?_
  refine C_block ?_
  refine C_nil 3 1 ?_
  refine C_loop (ι := Nat × Value) (fun p => ([(2, .pointer (some ⟨g2, 0, none⟩)), (5, v16), (6, v20), (7, u), (8, p.2), (9, .int .i64 (p.1 : Int))], [sl p.2 3 1 (((pkL ls ls).take p.1).map cI), rd u 4 (ls.map cLd), sl v20 132 3 ((mksL x n (rmk x n)).map cMk), sl v16 44 2 ((rts (8 + 2 * f)).map cRg), box g2 101 (cDv v u x fa), rd v 4 (ts.map cCp)])) (fun p => p.1 ≤ ts.length) (fun p => ts.length - p.1) (0, .slice none 0 0) (Nat.zero_le _) (fun a w hs => hs.weak ⟨rfl, rfl, rfl, rfl, rfl, rfl, trivial⟩ (fun h => h.pk (by repeat (first | with_reducible exact pk_nil | refine pk_box rfl ?_ | refine pk_rd rfl ?_ | refine pk_sl rfl ?_ | with_reducible refine pk_app ?_ | with_reducible refine pk_app0 ?_ | with_reducible exact pk_tl | refine pk_var ?_)))) ?_
  rintro ⟨k, y0⟩ hk0
  dsimp only at hk0 ⊢
  refine C_seq ?_
  refine C_seq ?_
  refine C_region ?_
  refine L_q rfl rfl rfl (q_move rfl) ?_
  refine L_q rfl rfl rfl (q_move rfl) ?_
  refine L_q rfl rfl rfl (q_len tb rfl rfl (by first | exact gvo | exact gvd gvo (by omega))) ?_
  refine L_q rfl rfl rfl (q_lss rfl rfl) ?_
  refine L_then ?_
  refine C_dec rfl (fun h1 => ?_) (fun h1 => ?_)
  · -- t26 True
    obtain ⟨y9, hey⟩ := get_some ls (k := k) (by omega); have hely := map_get cLd hey; have hyi := hk.x y9 (List.mem_of_getElem? hey)
    refine C_skip_then ?_
    refine C_seq ?_
    refine C_block ?_
    refine C_draw (n := 11) [(0, false), (1, false), (2, false), (3, false), (4, false), (5, false), (6, false), (7, false), (8, false), (9, true), (10, true)] mixed (by kernel_rfl) ?_
    refine W_q rfl rfl rfl rfl (q_move rfl) ?_
    refine W_q rfl rfl rfl rfl (q_move rfl) ?_
    refine W_q rfl rfl rfl rfl (q_move rfl) ?_
    refine W_q rfl rfl rfl rfl (by first | exact q_index tb rfl rfl rfl rfl (by first | exact gvo | exact gvd gvo (by omega)) (by omega) (by first | omega | (simp; done) | (simp; omega)) | exact q_indexP tb rfl rfl rfl rfl (by omega) (by omega)) ?_
    refine W_q rfl rfl rfl rfl (by first | exact q_loadA tb rfl rfl bxo rfl rfl | exact q_loadEA tb rfl rfl (by first | exact gvo | exact gvd gvo (by omega)) (i := k) (o := 0) (by omega) hely rfl rfl) ?_
    refine W_q rfl rfl rfl rfl (q_move rfl) ?_
    refine W_q rfl rfl rfl rfl (q_move rfl) ?_
    refine W_q rfl rfl rfl rfl (by first | exact q_index tb rfl rfl rfl rfl (by first | exact gvo | exact gvd gvo (by omega)) (by omega) (by first | omega | (simp; done) | (simp; omega)) | exact q_indexP tb rfl rfl rfl rfl (by omega) (by omega)) ?_
    refine W_q rfl rfl rfl rfl (by first | exact q_loadA tb rfl rfl bxo rfl rfl | exact q_loadEA tb rfl rfl (by first | exact gvo | exact gvd gvo (by omega)) (i := k) (o := 0) (by omega) hely rfl rfl) ?_
    refine W_call tb rfl rfl rfl rfl (ct_shotlineref03_peak y9 y9 hyi hyi) no_ps rfl ?_
    refine W_mk rfl (lo_bslice tb rfl rfl rfl (xs := [cI (peakL y9 y9)]) rfl rfl (by simp [cI]) rfl (by omega) rfl) rfl rfl rfl fun v39 => ?_
    refine W_nil ?_
    first | (refine L_front1 ?_; refine L_append tb rfl rfl rfl (by omega) rfl rfl (by first | exact gvo | exact gvd gvo (by omega)) (by simp [Value.oneCell', cI]) (by simp [maxLen, List.length_map]; omega) (by simp [List.length_map]; omega) rfl fun v40 => ?_) | (refine L_front2 ?_; refine L_append tb rfl rfl rfl (by omega) rfl rfl (by first | exact gvo | exact gvd gvo (by omega)) (by simp [Value.oneCell', cI]) (by simp [maxLen, List.length_map]; omega) (by simp [List.length_map]; omega) rfl fun v40 => ?_) | (refine L_front3 ?_; refine L_append tb rfl rfl rfl (by omega) rfl rfl (by first | exact gvo | exact gvd gvo (by omega)) (by simp [Value.oneCell', cI]) (by simp [maxLen, List.length_map]; omega) (by simp [List.length_map]; omega) rfl fun v40 => ?_) | (refine L_front4 ?_; refine L_append tb rfl rfl rfl (by omega) rfl rfl (by first | exact gvo | exact gvd gvo (by omega)) (by simp [Value.oneCell', cI]) (by simp [maxLen, List.length_map]; omega) (by simp [List.length_map]; omega) rfl fun v40 => ?_) | (refine L_front5 ?_; refine L_append tb rfl rfl rfl (by omega) rfl rfl (by first | exact gvo | exact gvd gvo (by omega)) (by simp [Value.oneCell', cI]) (by simp [maxLen, List.length_map]; omega) (by simp [List.length_map]; omega) rfl fun v40 => ?_) | (refine L_front6 ?_; refine L_append tb rfl rfl rfl (by omega) rfl rfl (by first | exact gvo | exact gvd gvo (by omega)) (by simp [Value.oneCell', cI]) (by simp [maxLen, List.length_map]; omega) (by simp [List.length_map]; omega) rfl fun v40 => ?_) | (refine L_append tb rfl rfl rfl (by omega) rfl rfl (by first | exact gvo | exact gvd gvo (by omega)) (by simp [Value.oneCell', cI]) (by simp [maxLen, List.length_map]; omega) (by simp [List.length_map]; omega) rfl fun v40 => ?_)
    refine L_q rfl rfl rfl (q_assign rfl) ?_
    refine L_blk ?_
    refine C_region ?_
    refine L_q rfl rfl rfl (q_move rfl) ?_
    refine L_q rfl rfl rfl (q_add rfl rfl (by first | exact IntWalk.i64_in _ (by omega) | rfl)) ?_
    refine L_q rfl rfl rfl (q_assign rfl) ?_
    refine L_end ?_
    exact fun ac_ wo_ hs_ => ⟨(k + 1, v40), (by dsimp only; omega), (by dsimp only; omega), hs_.weak ⟨rfl, rfl, rfl, rfl, rfl, rfl, trivial⟩ (fun h => h.pk (by repeat (first | with_reducible exact pk_nil | refine pk_box (by first | rfl | exact pk_cells hey hey) ?_ | refine pk_rd rfl ?_ | refine pk_sl (by first | rfl | exact pk_cells hey hey) ?_ | with_reducible refine pk_app ?_ | with_reducible refine pk_app0 ?_ | with_reducible exact pk_tl | refine pk_var ?_)))⟩
  · -- t26 False
    have e5 : ((pkL ls ls).take k).map cI = (peaksK f ts ls x n 1).map cI := by rw [peaks_one hlen hk.x, List.take_of_length_le (by unfold pkL; rw [List.length_zipWith]; omega)]
    refine C_exit ?_
    change C Try.prog _ _ _ _ _ _ _
    refine C_seq ?_
    refine C_seq ?_
    refine C_region ?_
    refine L_q rfl rfl rfl (q_assign rfl) ?_
    refine L_then ?_
    refine C_block ?_
    refine C_loop (ι := Nat × Value) (fun p => ([(2, .pointer (some ⟨g2, 0, none⟩)), (5, v16), (6, v20), (7, p.2), (8, y0), (10, .int .i64 ((p.1 : Int) + 1))], [rd p.2 4 ((stM f ts ls x n p.1).map cLd), sl y0 3 1 ((peaksK f ts ls x n (p.1 + 1)).map cI), sl v20 132 3 ((mksL x n (rmk x n)).map cMk), sl v16 44 2 ((rts (8 + 2 * f)).map cRg), box g2 101 (cDv v u x fa), rd v 4 (ts.map cCp)])) (fun p => p.1 < rmk x n) (fun p => rmk x n - p.1) (0, u) (rmk_gt x n) (fun a w hs => hs.weak ⟨rfl, rfl, rfl, rfl, rfl, rfl, trivial⟩ (fun h => h.pk (by repeat (first | with_reducible exact pk_nil | refine pk_box (by first | rfl | exact e5) ?_ | refine pk_rd rfl ?_ | refine pk_sl (by first | rfl | exact e5) ?_ | with_reducible refine pk_app ?_ | with_reducible refine pk_app0 ?_ | with_reducible exact pk_tl | refine pk_var ?_)))) ?_
    clear e5
    rintro ⟨k, y⟩ hk9
    dsimp only at hk9 ⊢
    refine C_seq ?_
    refine C_seq ?_
    refine C_region ?_
    refine L_q rfl rfl rfl (q_move rfl) ?_
    refine L_q rfl rfl rfl (q_move rfl) ?_
    refine L_q rfl rfl rfl (q_len tb rfl rfl (by first | exact gvo | exact gvd gvo (by omega))) ?_
    refine L_q rfl rfl rfl (q_lss rfl rfl) ?_
    refine L_then ?_
    refine C_dec rfl (fun h2 => ?_) (fun h2 => ?_)
    · -- t44 True
      have hs0 : x.s ≠ 0 := fun h => by have h9 := rmk_one (n := n) h; omega
      have hr1 := rmk_pos (n := n) hs0
      have hel0 : ((mksL x n (rmk x n)).map cMk)[k]? = some (cMk (mkM x n (k : Int))) := mks_cell (by omega)
      have hel1 : ((mksL x n (rmk x n)).map cMk)[k + 1]? = some (cMk (mkM x n ((k : Int) + 1))) := mks_cell (by omega)
      have hm0 := mk_in (j := (k : Int)) hx (n := (n : Int)) (by omega) (by omega); have hm1 := mk_in (j := (k : Int) + 1) hx (n := (n : Int)) (by omega) (by omega); have hmo := mk_mono hx h64.1 k
      have hsl := stM_len (f := f) (ts := ts) (x := x) (n := n) hlen k; have hsl1 := stM_len (f := f) (ts := ts) (x := x) (n := n) hlen (k + 1); have hl3 := len_map cLd (stM f ts ls x n k); have hl4 := len_map cLd (stM f ts ls x n (k + 1)); have hpk := peaksK_len (f := f) (x := x) (n := n) hlen (k + 1); have hpl9 := len_map cI (peaksK f ts ls x n (k + 1))
      refine C_skip_then ?_
      refine C_seq ?_
      refine C_block ?_
      refine C_seq ?_
      refine C_draw (n := 30) [(0, false), (1, false), (2, false), (3, false), (4, false), (5, false), (6, false), (7, false), (8, false), (9, false), (10, false), (11, false), (12, false), (13, false), (14, false), (15, false), (16, false), (17, false), (18, false), (19, false), (20, false), (21, false), (22, false), (23, false), (25, false), (26, false), (27, false), (28, false), (24, true), (29, true)] mixed (by kernel_rfl) ?_
      refine W_q rfl rfl rfl rfl (by first | exact q_field tb rfl rfl rfl | exact q_fieldE tb rfl rfl rfl (by first | exact gvo | exact gvd gvo (by omega)) (by first | omega | (simp; done) | (simp; omega))) ?_
      refine W_q rfl rfl rfl rfl (by first | exact q_load tb rfl rfl bxo rfl | exact q_loadE tb rfl rfl (by first | exact gvo | exact gvd gvo (by omega)) (by omega) (by simp) rfl) ?_
      refine W_q rfl rfl rfl rfl (q_move rfl) ?_
      refine W_q rfl rfl rfl rfl (q_move rfl) ?_
      refine W_q rfl rfl rfl rfl (q_move rfl) ?_
      refine W_q rfl rfl rfl rfl (by first | exact q_index tb rfl rfl rfl rfl (by first | exact gvo | exact gvd gvo (by omega)) (by omega) (by first | omega | (simp; done) | (simp; omega)) | exact q_indexP tb rfl rfl rfl rfl (by omega) (by omega)) ?_
      refine W_q rfl rfl rfl rfl (by first | exact q_field tb rfl rfl rfl | exact q_fieldE tb rfl rfl rfl (by first | exact gvo | exact gvd gvo (by omega)) (by first | omega | (simp; done) | (simp; omega))) ?_
      refine W_q rfl rfl rfl rfl (by first | exact q_load tb rfl rfl bxo rfl | exact q_loadE tb rfl rfl (by first | exact gvo | exact gvd gvo (by omega)) (i := k + 1) (o := 0) (by omega) hel1 rfl) ?_
      refine W_q rfl rfl rfl rfl (q_move rfl) ?_
      refine W_q rfl rfl rfl rfl (q_move rfl) ?_
      refine W_q rfl rfl rfl rfl (q_sub rfl rfl (by first | exact IntWalk.i64_in _ (by omega) | rfl)) ?_
      refine W_q rfl rfl rfl rfl (by first | exact q_index tb rfl rfl rfl rfl (by first | exact gvo | exact gvd gvo (by omega)) (by omega) (by first | omega | (simp; done) | (simp; omega)) | exact q_indexP tb rfl rfl rfl rfl (by omega) (by omega)) ?_
      refine W_q rfl rfl rfl rfl (by first | exact q_field tb rfl rfl rfl | exact q_fieldE tb rfl rfl rfl (by first | exact gvo | exact gvd gvo (by omega)) (by first | omega | (simp; done) | (simp; omega))) ?_
      refine W_q rfl rfl rfl rfl (by first | exact q_load tb rfl rfl bxo rfl | exact q_loadE tb rfl rfl (by first | exact gvo | exact gvd gvo (by omega)) (i := k) (o := 0) (by omega) hel0 rfl) ?_
      refine W_q rfl rfl rfl rfl (q_sub rfl rfl (by first | exact IntWalk.i64_in _ (by omega) | rfl)) ?_
      refine W_q rfl rfl rfl rfl (q_move rfl) ?_
      refine W_q rfl rfl rfl rfl (q_move rfl) ?_
      refine W_q rfl rfl rfl rfl (q_sub rfl rfl (by first | exact IntWalk.i64_in _ (by omega) | rfl)) ?_
      refine W_q rfl rfl rfl rfl (by first | exact q_index tb rfl rfl rfl rfl (by first | exact gvo | exact gvd gvo (by omega)) (by omega) (by first | omega | (simp; done) | (simp; omega)) | exact q_indexP tb rfl rfl rfl rfl (by omega) (by omega)) ?_
      refine W_q rfl rfl rfl rfl (by first | exact q_loadA tb rfl rfl bxo rfl rfl | exact q_loadEA tb rfl rfl (by first | exact gvo | exact gvd gvo (by omega)) (i := k) (o := 0) (by omega) hel0 rfl rfl) ?_
      refine W_q rfl rfl rfl rfl (q_move rfl) ?_
      refine W_q rfl rfl rfl rfl (q_move rfl) ?_
      refine W_q rfl rfl rfl rfl (by first | exact q_index tb rfl rfl rfl rfl (by first | exact gvo | exact gvd gvo (by omega)) (by omega) (by first | omega | (simp; done) | (simp; omega)) | exact q_indexP tb rfl rfl rfl rfl (by omega) (by omega)) ?_
      refine W_q rfl rfl rfl rfl (by first | exact q_loadA tb rfl rfl bxo rfl rfl | exact q_loadEA tb rfl rfl (by first | exact gvo | exact gvd gvo (by omega)) (i := k + 1) (o := 0) (by omega) hel1 rfl rfl) ?_
      refine W_q rfl rfl rfl rfl (by first | exact q_field tb rfl rfl rfl | exact q_fieldE tb rfl rfl rfl (by first | exact gvo | exact gvd gvo (by omega)) (by first | omega | (simp; done) | (simp; omega))) ?_
      refine W_q rfl rfl rfl rfl (by first | exact q_field tb rfl rfl rfl | exact q_fieldE tb rfl rfl rfl (by first | exact gvo | exact gvd gvo (by omega)) (by first | omega | (simp; done) | (simp; omega))) ?_
      refine W_q rfl rfl rfl rfl (by first | exact q_loadA tb rfl rfl bxo rfl rfl | exact q_loadEA tb rfl rfl (by first | exact gvo | exact gvd gvo (by omega)) (by omega) (by simp) rfl rfl) ?_
      refine W_q rfl rfl rfl rfl (q_move rfl) ?_
      refine W_call tb rfl rfl rfl rfl (ct_shotlineref03_around (mkM x n k) (mkM x n ((k : Int) + 1))) no_ps rfl ?_
      refine W_callS tb rfl rfl rfl rfl (ct_shotlineref03_Step _ _ _ ((mkM x n ((k : Int) + 1)).s - (mkM x n k).s) (min (mkM x n k).p.lo (mkM x n ((k : Int) + 1)).p.lo) (max (mkM x n k).p.hi (mkM x n ((k : Int) + 1)).p.hi) x.g (8 + 2 * f) ts (stM f ts ls x n k) (by omega) ⟨by omega, by omega, by omega, by omega⟩ hx.g (by omega) (stM_len hlen k) (by omega) hk.c (stM_in hx h64 hk.x k (by omega))) (ps_cons (by first | exact gvo | exact gvd gvo (by omega)) (ps_cons (by first | exact gvo | exact gvd gvo (by omega)) (ps_cons (by first | exact gvo | exact gvd gvo (by omega)) no_ps))) rfl fun v76 => ?_
      refine W_nil ?_
      refine L_q rfl rfl rfl (q_assign rfl) ?_
      refine L_then ?_
      refine C_seq ?_
      refine C_seq ?_
      refine C_region ?_
      refine L_q rfl rfl rfl (q_assign rfl) ?_
      refine L_then ?_
      refine C_block ?_
      refine C_loop (ι := Nat) (fun i => ([(2, .pointer (some ⟨g2, 0, none⟩)), (5, v16), (6, v20), (7, y), (8, y0), (10, .int .i64 ((k : Int) + 1)), (11, v76), (12, .int .i64 (i : Int))], [sl y0 3 1 ((mixL (peaksK f ts ls x n (k + 1 + 1)) (peaksK f ts ls x n (k + 1)) i).map cI), sl v76 62 4 ((stM f ts ls x n (k + 1)).map cLd), rd y 4 ((stM f ts ls x n k).map cLd), sl v20 132 3 ((mksL x n (rmk x n)).map cMk), sl v16 44 2 ((rts (8 + 2 * f)).map cRg), box g2 101 (cDv v u x fa), rd v 4 (ts.map cCp)])) (fun i => i ≤ ts.length) (fun i => ts.length - i) 0 (Nat.zero_le _) (fun a w hs => hs.weak ⟨rfl, rfl, rfl, rfl, rfl, rfl, rfl, rfl, trivial⟩ (fun h => h.pk (by repeat (first | with_reducible exact pk_nil | refine pk_box rfl ?_ | refine pk_rd rfl ?_ | refine pk_sl rfl ?_ | with_reducible refine pk_app ?_ | with_reducible refine pk_app0 ?_ | with_reducible exact pk_tl | refine pk_var ?_)))) ?_
      intro i hi9
      dsimp only at hi9 ⊢
      refine C_seq ?_
      refine C_seq ?_
      refine C_region ?_
      refine L_q rfl rfl rfl (q_move rfl) ?_
      refine L_q rfl rfl rfl (q_move rfl) ?_
      refine L_q rfl rfl rfl (q_len tb rfl rfl (by first | exact gvo | exact gvd gvo (by omega))) ?_
      refine L_q rfl rfl rfl (q_lss rfl rfl) ?_
      refine L_then ?_
      refine C_dec rfl (fun h3 => ?_) (fun h3 => ?_)
      · -- t80 True
        obtain ⟨z, hez⟩ := get_some (peaksK f ts ls x n (k + 1)) (k := i) (by omega); have hem : (mixL (peaksK f ts ls x n (k + 1 + 1)) (peaksK f ts ls x n (k + 1)) i)[i]? = some z := by rw [mix_get (peaksK_len hlen (k + 1 + 1)) (by omega)]; exact hez
        obtain ⟨a, hea⟩ := get_some (stM f ts ls x n k) (k := i) (by omega); obtain ⟨b9, heb⟩ := get_some (stM f ts ls x n (k + 1)) (k := i) (by omega); have helm := map_get cI hem; have hela := map_get cLd hea; have helb := map_get cLd heb; have hai := stM_in (f := f) (ts := ts) H.xx h64 hk.x k (by omega) a (List.mem_of_getElem? hea); have hbi := stM_in (f := f) (ts := ts) H.xx h64 hk.x (k + 1) (by omega) b9 (List.mem_of_getElem? heb); have e6 := mix_cells hlen (by omega) hez (show (prevM f ts ls x n (k + 1))[i]? = some a from hea) heb; have hml9 := len_map cI (mixL (peaksK f ts ls x n (k + 1 + 1)) (peaksK f ts ls x n (k + 1)) i); have hml8 := mix_len (i := i) (peaksK_len (f := f) (x := x) (n := n) hlen (k + 1 + 1)) (peaksK_len (f := f) (x := x) (n := n) hlen (k + 1))
        refine C_skip_then ?_
        refine C_seq ?_
        refine C_block ?_
        refine C_draw (n := 17) [(0, false), (1, false), (2, false), (3, false), (4, false), (5, false), (6, false), (7, false), (8, false), (9, false), (10, false), (11, false), (12, false), (13, false), (14, true), (15, false), (16, false)] mixed (by kernel_rfl) ?_
        refine W_q rfl rfl rfl rfl (q_move rfl) ?_
        refine W_q rfl rfl rfl rfl (q_move rfl) ?_
        refine W_q rfl rfl rfl rfl (q_move rfl) ?_
        refine W_q rfl rfl rfl rfl (q_move rfl) ?_
        refine W_q rfl rfl rfl rfl (by first | exact q_index tb rfl rfl rfl rfl (by first | exact gvo | exact gvd gvo (by omega)) (by omega) (by first | omega | (simp; done) | (simp; omega)) | exact q_indexP tb rfl rfl rfl rfl (by omega) (by omega)) ?_
        refine W_q rfl rfl rfl rfl (by first | exact q_load tb rfl rfl bxo rfl | exact q_loadE tb rfl rfl (by first | exact gvo | exact gvd gvo (by omega)) (i := i) (o := 0) (by omega) helm rfl) ?_
        refine W_q rfl rfl rfl rfl (q_move rfl) ?_
        refine W_q rfl rfl rfl rfl (q_move rfl) ?_
        refine W_q rfl rfl rfl rfl (by first | exact q_index tb rfl rfl rfl rfl (by first | exact gvo | exact gvd gvo (by omega)) (by omega) (by first | omega | (simp; done) | (simp; omega)) | exact q_indexP tb rfl rfl rfl rfl (by omega) (by omega)) ?_
        refine W_q rfl rfl rfl rfl (by first | exact q_loadA tb rfl rfl bxo rfl rfl | exact q_loadEA tb rfl rfl (by first | exact gvo | exact gvd gvo (by omega)) (i := i) (o := 0) (by omega) hela rfl rfl) ?_
        refine W_q rfl rfl rfl rfl (q_move rfl) ?_
        refine W_q rfl rfl rfl rfl (q_move rfl) ?_
        refine W_q rfl rfl rfl rfl (by first | exact q_index tb rfl rfl rfl rfl (by first | exact gvo | exact gvd gvo (by omega)) (by omega) (by first | omega | (simp; done) | (simp; omega)) | exact q_indexP tb rfl rfl rfl rfl (by omega) (by omega)) ?_
        refine W_q rfl rfl rfl rfl (by first | exact q_loadA tb rfl rfl bxo rfl rfl | exact q_loadEA tb rfl rfl (by first | exact gvo | exact gvd gvo (by omega)) (i := i) (o := 0) (by omega) helb rfl rfl) ?_
        refine W_call tb rfl rfl rfl rfl (ct_shotlineref03_peak a b9 hai hbi) no_ps rfl ?_
        refine W_q rfl rfl rfl rfl (q_max rfl rfl) ?_
        refine W_q rfl rfl rfl rfl (by first | exact q_index tb rfl rfl rfl rfl (by first | exact gvo | exact gvd gvo (by omega)) (by omega) (by first | omega | (simp; done) | (simp; omega)) | exact q_indexP tb rfl rfl rfl rfl (by omega) (by omega)) ?_
        refine W_nil ?_
        first | refine L_storeEl tb rfl rfl rfl rfl rfl rfl (i := i) (by omega) (by simp) ?_ | (refine L_front1 ?_; refine L_storeEl tb rfl rfl rfl rfl rfl rfl (i := i) (by omega) (by simp) ?_) | (refine L_front2 ?_; refine L_storeEl tb rfl rfl rfl rfl rfl rfl (i := i) (by omega) (by simp) ?_) | (refine L_front3 ?_; refine L_storeEl tb rfl rfl rfl rfl rfl rfl (i := i) (by omega) (by simp) ?_) | (refine L_front4 ?_; refine L_storeEl tb rfl rfl rfl rfl rfl rfl (i := i) (by omega) (by simp) ?_) | (refine L_front5 ?_; refine L_storeEl tb rfl rfl rfl rfl rfl rfl (i := i) (by omega) (by simp) ?_) | (refine L_front6 ?_; refine L_storeEl tb rfl rfl rfl rfl rfl rfl (i := i) (by omega) (by simp) ?_)
        refine L_blk ?_
        refine C_region ?_
        refine L_q rfl rfl rfl (q_move rfl) ?_
        refine L_q rfl rfl rfl (q_add rfl rfl (by first | exact IntWalk.i64_in _ (by omega) | rfl)) ?_
        refine L_q rfl rfl rfl (q_assign rfl) ?_
        refine L_end ?_
        exact fun ac_ wo_ hs_ => ⟨i + 1, (by dsimp only; omega), (by dsimp only; omega), hs_.weak ⟨rfl, rfl, rfl, rfl, rfl, rfl, rfl, rfl, trivial⟩ (fun h => h.pk (by repeat (first | with_reducible exact pk_nil | refine pk_box (by first | rfl | exact e6) ?_ | refine pk_rd rfl ?_ | refine pk_sl (by first | rfl | exact e6) ?_ | with_reducible refine pk_app ?_ | with_reducible refine pk_app0 ?_ | with_reducible exact pk_tl | refine pk_var ?_)))⟩
      · -- t80 False
        have e6 : (mixL (peaksK f ts ls x n (k + 1 + 1)) (peaksK f ts ls x n (k + 1)) i).map cI = (peaksK f ts ls x n (k + 1 + 1)).map cI := congrArg _ (mix_end (by rw [peaksK_len hlen]; omega) (by rw [peaksK_len hlen]; omega))
        refine C_exit ?_
        change C Try.prog _ _ _ _ _ _ _
        refine C_region ?_
        refine L_q rfl rfl rfl (q_move rfl) ?_
        refine L_q rfl rfl rfl (q_assign rfl) ?_
        refine L_blk ?_
        refine C_region ?_
        refine L_q rfl rfl rfl (q_move rfl) ?_
        refine L_q rfl rfl rfl (q_add rfl rfl (by first | exact IntWalk.i64_in _ (by omega) | rfl)) ?_
        refine L_q rfl rfl rfl (q_assign rfl) ?_
        refine L_end ?_
        exact fun ac_ wo_ hs_ => ⟨(k + 1, v76), (by dsimp only; omega), (by dsimp only; omega), hs_.weak ⟨rfl, rfl, rfl, rfl, rfl, rfl, trivial⟩ (fun h => sl_to_rd (e := 62) (h.pk (by repeat (first | with_reducible exact pk_nil | refine pk_box (by first | rfl | exact e6) ?_ | refine pk_rd rfl ?_ | refine pk_sl (by first | rfl | exact e6) ?_ | with_reducible refine pk_app ?_ | with_reducible refine pk_app0 ?_ | with_reducible exact pk_tl | refine pk_var ?_))))⟩
    · -- t44 False
      have hkr : k + 1 = rmk x n := by omega
      have e9 : peaksK f ts ls x n (k + 1) = peaksT ts ls x f := by unfold peaksT; rw [← hn, hkr]; rfl
      refine C_exit ?_
      change C Try.prog _ _ _ _ _ _ _
      refine C_seq ?_
      refine C_region ?_
      refine L_q rfl rfl rfl (q_move rfl) ?_
      refine L_q rfl rfl rfl (q_assign rfl) ?_
      refine L_then ?_
      refine C_ret ?_
      rw [← e9]
      exact ret_of (rs' := [sl y0 3 1 ((peaksK f ts ls x n (k + 1)).map cI)]) (res1 rfl rfl) (fun _ h => h.pk (by repeat (first | with_reducible exact pk_nil | refine pk_box rfl ?_ | refine pk_rd rfl ?_ | refine pk_sl rfl ?_ | with_reducible refine pk_app ?_ | with_reducible refine pk_app0 ?_ | with_reducible exact pk_tl | refine pk_var ?_))) own1 rfl
end Go.Proofs.Ytfhfadfnbnliiaa
