/-
  Walks: each function named returns what its model says. Conditions: those in front of each theorem.
-/
import Derived.Test.YtacndicgpkeobaaGreatDoorH
namespace Go.Proofs.YtacndicgpkeobaaGreatDoor
open Go.RowKit

set_option maxRecDepth 100000 in
theorem ct_tissue_states (v u : Value) (x : Lg) (f : Nat) (ts : List Cp) (ls : List Ld) : Ct Tryz.prog 182 [v, u, .agg (cLg x).toArray, .int .i64 (f : Int)] [(v, 4, ts.map cCp), (u, 4, ls.map cLd)] (fun y rs => ∃ g4 g5 g6 g7, y = .func (.func 214) #[] #[.pointer (some ⟨g7, 0, none⟩), .pointer (some ⟨g6, 0, none⟩), .pointer (some ⟨g5, 0, none⟩), .pointer (some ⟨g4, 0, none⟩)] ∧ rs = [box g7 3 [.int .i64 (f : Int)], box g6 130 (cLg x), box g5 23 [u], box g4 22 [v]]) := by
 refine Ct.of (N := 10) Tryz.func182 rfl rfl rfl fun w => ?_
 refine C_weak (E' := [(0, v), (1, u), (2, .agg (cLg x).toArray), (3, .int .i64 (f : Int))]) (rs' := [rd v 4 (ts.map cCp), rd u 4 (ls.map cLd)]) ⟨rfl, rfl, rfl, rfl, trivial⟩ (fun _ h => h) ?_
 refine C_form (v := v) gr0 (fun Av cv hv _ => ?_)
 subst hv
 refine C_form (v := u) (gv1 gr0) (fun Au cu hu _ => ?_)
 subst hu
 refine C_seq ?_
 refine C_region ?_
 refine L_box rfl rfl rfl fun g4 => ?_
 refine L_box rfl rfl rfl fun g5 => ?_
 refine L_box rfl rfl rfl fun g6 => ?_
 refine L_box rfl rfl rfl fun g7 => ?_
 refine Jq (q_assign rfl) ?_
 refine L_then ?_
 refine C_seq ?_
 refine C_region ?_
 refine Jq (q_makeFunc rfl rfl) ?_
 refine Jq (q_assign rfl) ?_
 refine L_then ?_
 refine C_ret ?_
 exact ret_of (rs' := [box g7 3 [.int .i64 (f : Int)], box g6 130 (cLg x), box g5 23 [_], box g4 22 [_]]) (res1 rfl rfl) (fun _ h => h.sub (by repeat (first | exact List.Sublist.refl _ | apply List.Sublist.cons_cons | apply List.Sublist.cons))) (by intro r hr; simp only [List.mem_cons, List.not_mem_nil, or_false] at hr; rcases hr with rfl | rfl | rfl | rfl <;> exact box_own _ _ _) ⟨g4, g5, g6, g7, rfl, rfl⟩
set_option maxRecDepth 100000 in
theorem it_states (B : Nat) (w0 : World) (l D : Nat) (r : Loop) (RC : Nat → Value → List Res) (v u : Value) (x : Lg) (f n : Nat) (ts : List Cp) (ls : List Ld) (g4 g5 g6 g7 : Nat) (hf : f ≤ 6) (hn : n = 2 ^ f) (hx : okLg x) (hlen : ls.length = ts.length) (htl : ts.length ≤ 1000)
    (hc : ∀ c ∈ ts, okCp c) (hl : ∀ y ∈ ls, inLd y) (hp1 : 1 = r.params.size) (hR : ∀ (k : Nat) (y y' : Value), k ≤ n → Rnd Tryz.prog B w0 l r [.agg (stC x n k y').toArray] [rd y' 4 ((stM f ts ls x n k).map cLd)] (RC k y) (RC (k + 1) y')) : It Tryz.prog 214 [.func (.yield l) #[] #[], .pointer (some ⟨g7, 0, none⟩), .pointer (some ⟨g6, 0, none⟩), .pointer (some ⟨g5, 0, none⟩), .pointer (some ⟨g4, 0, none⟩)] B w0 ([box g7 3 [.int .i64 (f : Int)], box g6 130 (cLg x), box g5 23 [u], box g4 22 [v], rd v 4 (ts.map cCp), rd u 4 (ls.map cLd), df D, lp l r] ++ RC 0 u) (fun w' => ∃ y, WS B w0 (lp l r :: df D :: (RC (rmk x n) y ++ [rd y 4 ((loadedM ts ls x f).map cLd)])) w') := by
  have h64 := two_f hf hn
  have hsx := hx.s
  have hl1 := len_map cCp ts; have hl2 := len_map cLd ls; have hml := mks_len x n (n + 1); have hmt := mks_tail_len x n
  refine It.of (N := 85) Tryz.func214 rfl rfl rfl ?_
  refine C_weak (E' := [(0, .func (.yield l) #[] #[]), (1, .pointer (some ⟨g7, 0, none⟩)), (2, .pointer (some ⟨g6, 0, none⟩)), (3, .pointer (some ⟨g5, 0, none⟩)), (4, .pointer (some ⟨g4, 0, none⟩))]) (rs' := [box g7 3 [.int .i64 (f : Int)], box g6 130 (cLg x), box g5 23 [u], box g4 22 [v], rd v 4 (ts.map cCp), rd u 4 (ls.map cLd), df D, lp l r] ++ RC 0 u) ⟨rfl, rfl, rfl, rfl, rfl, trivial⟩ (fun _ h => h) ?_
  refine C_form (v := v) (by first | exact gr0 | exact gv1 gr0 | exact gv1 (gv1 gr0) | exact gv1 (gv1 (gv1 gr0)) | exact gv1 (gv1 (gv1 (gv1 gr0))) | exact gv1 (gv1 (gv1 (gv1 (gv1 gr0)))) | exact gv1 (gv1 (gv1 (gv1 (gv1 (gv1 gr0)))))) (fun Av cv hv _ => ?_)
  subst hv
  refine C_form (v := u) (by first | exact gr0 | exact gv1 gr0 | exact gv1 (gv1 gr0) | exact gv1 (gv1 (gv1 gr0)) | exact gv1 (gv1 (gv1 (gv1 gr0))) | exact gv1 (gv1 (gv1 (gv1 (gv1 gr0)))) | exact gv1 (gv1 (gv1 (gv1 (gv1 (gv1 gr0)))))) (fun Au cu hu _ => ?_)
  subst hu
  refine C_seq ?_
  refine C_region ?_
  refine Jq (by first | exact q_load tb rfl rfl bxo rfl | exact q_loadE tb rfl rfl (by first | exact gvo | exact gvd gvo (by omega)) (by omega) (by simp) rfl) ?_
  refine Jq (q_mul rfl rfl (wr (b := ((2 * f : Nat) : Int)) (by omega) (by omega))) ?_
  refine Jq (q_add rfl rfl (wr (b := ((8 + 2 * f : Nat) : Int)) (by omega) (by omega))) ?_
  refine L_callS tb rfl rfl (ct_tissue_powersTo (8 + 2 * f) (by omega)) no_ps rfl fun v15 => ?_
  refine Jq (q_assign rfl) ?_
  refine L_then ?_
  refine C_seq ?_
  refine C_region ?_
  refine Jq (by first | exact q_loadA tb rfl rfl bxo rfl rfl | exact q_loadEA tb rfl rfl (by first | exact gvo | exact gvd gvo (by omega)) (by omega) (by simp) rfl rfl) ?_
  refine Jq (by first | exact q_load tb rfl rfl bxo rfl | exact q_loadE tb rfl rfl (by first | exact gvo | exact gvd gvo (by omega)) (by omega) (by simp) rfl) ?_
  refine L_callS tb rfl rfl (ct_tissue_marks x f n hf hn hx) no_ps rfl fun v18 => ?_
  refine Jq (q_assign rfl) ?_
  refine L_then ?_
  refine C_seq ?_
  refine C_draw (n := 11) [(0, false), (1, false), (2, false), (3, false), (4, false), (5, false), (6, false), (7, false), (8, false), (9, false), (10, true)] mixed (by kernel_rfl) ?_
  refine Yq rfl (q_move rfl) ?_
  refine Yq rfl (by first | exact q_index tb rfl rfl rfl rfl (by first | exact gvo | exact gvd gvo (by omega)) (by omega) (by first | omega | (simp; done) | (simp; omega)) | exact q_indexP tb rfl rfl rfl rfl (by omega) (by omega)) ?_
  refine Yq rfl (q_loadEA tb rfl rfl (by first | exact gvo | exact gvd gvo (by omega)) (i := 0) (o := 0) (by rfl) (mks_cell (Nat.succ_pos n)) rfl rfl) ?_
  refine Yq rfl (by first | exact q_load tb rfl rfl bxo rfl | exact q_loadE tb rfl rfl (by first | exact gvo | exact gvd gvo (by omega)) (by omega) (by simp) rfl) ?_
  refine Yq rfl (q_move rfl) ?_
  refine Yq rfl (by first | exact q_index tb rfl rfl rfl rfl (by first | exact gvo | exact gvd gvo (by omega)) (by omega) (by first | omega | (simp; done) | (simp; omega)) | exact q_indexP tb rfl rfl rfl rfl (by omega) (by omega)) ?_
  refine Yq rfl (q_fieldE tb rfl rfl rfl (by first | exact gvo | exact gvd gvo (by omega)) (by first | omega | (simp; done) | (simp; omega))) ?_
  refine Yq rfl (q_fieldE tb rfl rfl rfl (by first | exact gvo | exact gvd gvo (by omega)) (by first | omega | (simp; done) | (simp; omega))) ?_
  refine Yq rfl (q_loadE tb rfl rfl (by first | exact gvo | exact gvd gvo (by omega)) (i := 0) (o := 1) (by rfl) (mks_cell (Nat.succ_pos n)) rfl) ?_
  refine Yq rfl (by first | exact q_build tb rfl rfl rfl rfl | exact q_buildArr tb rfl rfl rfl rfl rfl) ?_
  refine W_alloc tb rfl rfl rfl rfl fun g8 => ?_
  refine W_nil ?_
  refine L_st tb rfl rfl ?_
  refine L_then ?_
  refine C_seq ?_
  refine C_seq ?_
  refine C_region ?_
  refine Jq (q_move rfl) ?_
  refine Jq (q_loadA tb rfl rfl bxo rfl rfl) ?_
  refine L_yield [_, _, _, _, _, _, _, _, _, _] rfl rfl hp1 (hR 0 _ _ (Nat.zero_le _)) (fun k hk => by simp only [List.mem_singleton] at hk; subst hk; exact ⟨by first | exact m0 | exact m1 | exact m2 | exact m3 | exact m4 | exact m5 | exact m6 | exact m7 | exact m8 | exact .tail _ m8, rd_own _ _ _⟩) rfl ?_
  refine Jq (q_not rfl rfl) ?_
  refine Jq (q_move rfl) ?_
  refine Jg (by first | exact q_field tb rfl rfl rfl | exact q_fieldE tb rfl rfl rfl (by first | exact gvo | exact gvd gvo (by omega)) (by first | omega | (simp; done) | (simp; omega))) ?_
  refine Jg (by first | exact q_load tb rfl rfl bxo rfl | exact q_loadE tb rfl rfl (by first | exact gvo | exact gvd gvo (by omega)) (by omega) (by simp) rfl) ?_
  refine Jg (q_eql rfl rfl) ?_
  refine Jq (q_pickF rfl rfl) ?_
  refine L_then ?_
  refine C_dec rfl (fun h0 => ?_) (fun h0 => ?_)
  · -- t37 True
    refine C_ret ?_
    rw [rmk_one h0, loadedM_zero h0]
    exact it_ret rfl (fun wf_ hw_ => ⟨_, fin_perm (hw_.sub (rs' := rd _ 4 (ls.map cLd) :: df D :: lp l r :: _) (by repeat (first | exact List.Sublist.refl _ | apply List.Sublist.cons_cons | apply List.Sublist.cons)))⟩)
  · -- t37 False
    refine C_skip_then ?_
    refine C_seq ?_
    refine C_region ?_
    refine Jq (q_move rfl) ?_
    refine Jq (q_from tb rfl rfl rfl rfl (by first | exact gvo | exact gvd gvo (by omega)) (by omega) (by first | omega | (simp; done) | (simp; omega))) ?_
    refine Jq (q_len tb rfl rfl (by first | exact gvo | exact gvd gvo (by omega))) ?_
    refine Jq (q_move rfl) ?_
    refine L_then ?_
    refine C_block ?_
    refine C_res (fun _ hw => hw.dup (k := rd (.slice Au (ls.map cLd).length cu) 4 (ls.map cLd)) (by first | exact m0 | exact m1 | exact m2 | exact m3 | exact m4 | exact m5 | exact m6 | exact m7 | exact m8) (rd_own _ _ _)) ?_
    refine C_loop (ι := Nat × Value) (fun p => ([(0, .func (.yield l) #[] #[]), (1, .pointer (some ⟨g7, 0, none⟩)), (2, .pointer (some ⟨g6, 0, none⟩)), (3, .pointer (some ⟨g5, 0, none⟩)), (4, .pointer (some ⟨g4, 0, none⟩)), (6, v15), (8, .pointer (some ⟨g8, 0, none⟩)), (39, dropV v18 (1 : Int).toNat 3), (40, .int .i64 (n : Int)), (41, .int .i64 (p.1 : Int))], [rd p.2 4 ((stM f ts ls x n p.1).map cLd), box g8 270 (stC x n p.1 p.2), sl v18 268 3 ((mksL x n (n + 1)).map cMk), sl v15 122 2 ((rts (8 + 2 * f)).map cRg), box g7 3 [.int .i64 (f : Int)], box g6 130 (cLg x), box g5 23 [.slice Au (ls.map cLd).length cu], box g4 22 [.slice Av (ts.map cCp).length cv], rd (.slice Av (ts.map cCp).length cv) 4 (ts.map cCp), rd (.slice Au (ls.map cLd).length cu) 4 (ls.map cLd), df D, lp l r] ++ RC (p.1 + 1) p.2)) (fun p => p.1 ≤ n) (fun p => n - p.1) (0, .slice Au (ls.map cLd).length cu) (Nat.zero_le _) (fun a w hs => hs.weak ⟨rfl, rfl, rfl, rfl, rfl, rfl, rfl, rfl, en (by rw [hmt]), rfl, trivial⟩ (fun h => h.sub (by repeat (first | exact List.Sublist.refl _ | apply List.Sublist.cons_cons | apply List.Sublist.cons)))) ?_
    rintro ⟨j, y⟩ hjn
    dsimp only at hjn ⊢
    refine C_form (v := y) gr0 (fun Ay cy hy _ => ?_)
    subst hy
    refine C_seq ?_
    refine C_region ?_
    refine Jq (q_lss rfl rfl) ?_
    refine L_then ?_
    refine C_seq ?_
    refine C_dec rfl (fun hj => ?_) (fun hj => ?_)
    · -- t42 True
      have hm0 := mk_in (j := (j : Int)) hx (n := (n : Int)) (by omega) (by omega); have hm1 := mk_in (j := (j : Int) + 1) hx (n := (n : Int)) (by omega) (by omega); have hmo := mk_mono hx h64.1 j
      refine C_skip_then ?_
      refine C_seq ?_
      refine C_block ?_
      refine C_seq ?_
      refine C_region ?_
      refine Jq (by first | exact q_index tb rfl rfl rfl rfl (by first | exact gvo | exact gvd gvo (by omega)) (by omega) (by first | omega | (simp; done) | (simp; omega)) | exact q_indexP tb rfl rfl rfl rfl (by omega) (by omega)) ?_
      refine Jq (q_loadEA tb rfl rfl (by first | exact gvo | exact gvd gvo (by omega)) (i := j) (o := 0) (by omega) (mks_tail_cell (by omega)) rfl rfl) ?_
      refine L_alloc tb rfl rfl fun g10 => ?_
      refine L_st tb rfl rfl ?_
      refine L_then ?_
      refine C_seq ?_
      refine C_region ?_
      refine Jq (q_field tb rfl rfl rfl) ?_
      refine Jq (q_load tb rfl rfl bxo rfl) ?_
      refine Jq (q_field tb rfl rfl rfl) ?_
      refine Jq (q_field tb rfl rfl rfl) ?_
      refine Jq (q_load tb rfl rfl bxo rfl) ?_
      refine Jq (q_sub rfl rfl (by first | exact IntWalk.i64_in _ (by omega) | rfl)) ?_
      refine Jq (q_field tb rfl rfl rfl) ?_
      refine Jq (q_field tb rfl rfl rfl) ?_
      refine Jq (q_field tb rfl rfl rfl) ?_
      refine Jq (q_load tb rfl rfl bxo rfl) ?_
      refine Jq (q_field tb rfl rfl rfl) ?_
      refine Jq (q_field tb rfl rfl rfl) ?_
      refine Jq (q_load tb rfl rfl bxo rfl) ?_
      refine Jq (q_min rfl rfl) ?_
      refine Jq (q_field tb rfl rfl rfl) ?_
      refine Jq (q_field tb rfl rfl rfl) ?_
      refine Jq (q_field tb rfl rfl rfl) ?_
      refine Jq (q_load tb rfl rfl bxo rfl) ?_
      refine Jq (q_field tb rfl rfl rfl) ?_
      refine Jq (q_field tb rfl rfl rfl) ?_
      refine Jq (q_load tb rfl rfl bxo rfl) ?_
      refine Jq (q_max rfl rfl) ?_
      refine Jq (by first | exact q_field tb rfl rfl rfl | exact q_fieldE tb rfl rfl rfl (by first | exact gvo | exact gvd gvo (by omega)) (by first | omega | (simp; done) | (simp; omega))) ?_
      refine Jq (by first | exact q_loadA tb rfl rfl bxo rfl rfl | exact q_loadEA tb rfl rfl (by first | exact gvo | exact gvd gvo (by omega)) (by omega) (by simp) rfl rfl) ?_
      refine Jq (by first | exact q_build tb rfl rfl rfl rfl | exact q_buildArr tb rfl rfl rfl rfl rfl) ?_
      refine L_alloc tb rfl rfl fun g11 => ?_
      refine L_st tb rfl rfl ?_
      refine L_then ?_
      refine C_seq ?_
      refine C_draw (n := 10) [(0, false), (1, false), (2, false), (3, false), (4, false), (5, false), (7, false), (8, false), (6, true), (9, false)] mixed (by kernel_rfl) ?_
      refine Yq rfl (q_loadA tb rfl rfl bxo rfl rfl) ?_
      refine Yq rfl (q_move rfl) ?_
      refine Yq rfl (by first | exact q_load tb rfl rfl bxo rfl | exact q_loadE tb rfl rfl (by first | exact gvo | exact gvd gvo (by omega)) (by omega) (by simp) rfl) ?_
      refine Yq rfl (q_field tb rfl rfl rfl) ?_
      refine Yq rfl (q_load tb rfl rfl bxo rfl) ?_
      refine Yq rfl (q_loadA tb rfl rfl bxo rfl rfl) ?_
      refine Yq rfl (q_field tb rfl rfl rfl) ?_
      refine Yq rfl (q_load tb rfl rfl bxo rfl) ?_
      refine W_callSF tb rfl rfl rfl rfl (ct_tissue_powers_behind _ _ _ ((mkM x n ((j : Int) + 1)).s - (mkM x n j).s) (min (mkM x n j).p.lo (mkM x n ((j : Int) + 1)).p.lo) (max (mkM x n j).p.hi (mkM x n ((j : Int) + 1)).p.hi) x.g (8 + 2 * f) ts (stM f ts ls x n j) (by omega) ⟨by omega, by omega, by omega, by omega⟩ hx.g (by omega) (stM_len hlen j) htl hc (stM_in hx h64 hl j (by omega))) (ps_cons (by first | exact gvo | exact gvd gvo (by omega)) (ps_cons (by first | exact gvo | exact gvd gvo (by omega)) (ps_cons (by first | exact gvo | exact gvd gvo (by omega)) no_ps))) rfl fun A76 n76 c76 => ?_
      refine Yq rfl (by first | exact q_build tb rfl rfl rfl rfl | exact q_buildArr tb rfl rfl rfl rfl rfl) ?_
      refine W_nil ?_
      refine L_st tb rfl rfl ?_
      refine L_then ?_
      refine C_seq ?_
      refine C_region ?_
      refine Jq (q_move rfl) ?_
      refine Jq (q_loadA tb rfl rfl bxo rfl rfl) ?_
      refine L_front1 ?_
      refine L_share ?_
      refine L_yield [_, _, _, _, _, _, _, _, _, _, _, _, _, _] rfl rfl hp1 (hR (j + 1) _ _ (by omega)) (fun k hk => by simp only [List.mem_singleton] at hk; subst hk; exact ⟨by first | exact m0 | exact m1 | exact m2 | exact m3 | exact m4 | exact m5 | exact m6 | exact m7 | exact m8 | exact .tail _ m8, rd_own _ _ _⟩) rfl ?_
      refine Jq (q_not rfl rfl) ?_
      refine L_then ?_
      refine C_false rfl ?_
      refine C_skip_blk ?_
      refine C_region ?_
      refine Jq (q_add rfl rfl (by first | exact IntWalk.i64_in _ (by omega) | rfl)) ?_
      refine Jq (q_move rfl) ?_
      refine L_end ?_
      exact fun ac_ wo_ hs_ => ⟨(j + 1, .slice A76 n76 c76), (by dsimp only; omega), (by dsimp only; omega), hs_.weak ⟨rfl, rfl, rfl, rfl, rfl, rfl, rfl, rfl, rfl, rfl, trivial⟩ (fun h => h.sub (by repeat (first | exact List.Sublist.refl _ | apply List.Sublist.cons_cons | apply List.Sublist.cons)))⟩
    · -- t42 False
      have hjn : j = n := by omega
      subst hjn
      refine C_exit ?_
      rw [rmk_pos h0, loadedM_pos h0 hn]
      exact it_end rfl (fun wf_ hw_ => ⟨_, fin_perm (hw_.sub (rs' := rd _ 4 ((stM f ts ls x j j).map cLd) :: df D :: lp l r :: _) (by repeat (first | exact List.Sublist.refl _ | apply List.Sublist.cons_cons | apply List.Sublist.cons)))⟩)
theorem it_statesR (B : Nat) (w0 : World) (l D : Nat) (r : Loop) (RC : Nat → Value → List Res) (v u : Value) (x : Lg) (f n : Nat) (ts : List Cp) (ls : List Ld) (g4 g5 g6 g7 : Nat) (hf : f ≤ 6) (hn : n = 2 ^ f) (hx : okLg x) (hlen : ls.length = ts.length) (htl : ts.length ≤ 1000)
    (hc : ∀ c ∈ ts, okCp c) (hl : ∀ y ∈ ls, inLd y) (hp1 : 1 = r.params.size) (hR : ∀ (k : Nat) (y y' : Value), k ≤ n → Rnd Tryz.prog B w0 l r [.agg (stC x n k y').toArray] [rd y' 4 ((stM f ts ls x n k).map cLd)] (RC k y) (RC (k + 1) y')) (rs : List Res) (Fin : List Res → Prop)
    (hs : ∀ w, WS B w0 (lp l r :: df D :: rs) w → WS B w0 ([box g7 3 [.int .i64 (f : Int)], box g6 130 (cLg x), box g5 23 [u], box g4 22 [v], rd v 4 (ts.map cCp), rd u 4 (ls.map cLd), df D, lp l r] ++ RC 0 u) w) (hF : ∀ y, Fin (RC (rmk x n) y ++ [rd y 4 ((loadedM ts ls x f).map cLd)])) :
    It Tryz.prog 214 [.func (.yield l) #[] #[], .pointer (some ⟨g7, 0, none⟩), .pointer (some ⟨g6, 0, none⟩), .pointer (some ⟨g5, 0, none⟩), .pointer (some ⟨g4, 0, none⟩)] B w0 (lp l r :: df D :: rs) (fun w' => ∃ rs', Fin rs' ∧ WS B w0 (lp l r :: df D :: rs') w') :=
  (it_states B w0 l D r RC v u x f n ts ls g4 g5 g6 g7 hf hn hx hlen htl hc hl hp1 hR).mono hs (fun _ ⟨y, h⟩ => ⟨_, hF y, h⟩)

set_option maxRecDepth 100000 in
theorem ct_CloneLoads (v : Value) (ls : List Ld) (hle : ls.length ≤ 100000) : Ct Tryz.prog 115 [v] [(v, 4, ls.map cLd)] (isSl 134 4 (ls.map cLd)) := by
 refine Ct.of (N := 8) Tryz.func115 rfl rfl rfl fun w => ?_
 refine C_weak (E' := [(0, v)]) (rs' := [rd v 4 (ls.map cLd)]) ⟨rfl, trivial⟩ (fun _ h => h) ?_
 have hl := len_map cLd ls
 refine C_form (v := v) gr0 (fun Av cv hv hnil => ?_)
 subst hv
 refine C_seq ?_
 refine C_region ?_
 refine Jq (q_assign rfl) ?_
 refine L_then ?_
 refine C_seq ?_
 refine C_seq ?_
 refine C_region ?_
 refine Jq (q_move rfl) ?_
 refine Jq (q_eqlNil tb rfl rfl) ?_
 refine L_then ?_
 refine C_bool rfl (fun h0 => ?_) (fun h0 => ?_)
 refine C_seq ?_
 refine C_region ?_
 refine Jq (q_assign rfl) ?_
 refine L_then ?_
 refine C_ret ?_
 exact ret_of (rs' := [sl (.slice none 0 0) 134 4 (ls.map cLd)]) (res1 rfl rfl) (fun w_ h_ => by rw [hnil (Option.isNone_iff_eq_none.1 h0)]; exact ws_nil (sub_nil w_ h_)) own1 rfl
 refine C_skip_then ?_
 refine C_seq ?_
 refine C_region ?_
 refine L_mk (lo_bslice tb rfl rfl rfl (xs := []) rfl rfl (by simp) rfl (by omega) rfl) rfl rfl rfl fun v5 => ?_
 refine Jq (q_move rfl) ?_
 refine L_ap tb rfl rfl rfl rfl gvo (oneLd ls) (by simp [maxLen]; omega) (by simp; omega) fun v7 => ?_
 refine Jq (q_assign rfl) ?_
 refine L_then ?_
 refine C_ret ?_
 exact ret_of (rs' := [sl v7 134 4 (ls.map cLd)]) (res1 rfl rfl) (fun _ h => h.sub (by repeat (first | exact List.Sublist.refl _ | apply List.Sublist.cons_cons | apply List.Sublist.cons))) own1 rfl
set_option maxRecDepth 100000 in
theorem ct_tissue_loaded (v u : Value) (x : Lg) (f : Nat) (ts : List Cp) (ls : List Ld) (hf : f ≤ 6) (hx : okLg x) (hlen : ls.length = ts.length) (htl : ts.length ≤ 1000) (hc : ∀ c ∈ ts, okCp c) (hl : ∀ y ∈ ls, inLd y) : Ct Tryz.prog 131 [v, u, .agg (cLg x).toArray, .int .i64 (f : Int)] [(v, 4, ts.map cCp), (u, 4, ls.map cLd)] (isSl 134 4 ((loadedM ts ls x f).map cLd)) := by
 refine Ct.ofM (N := 20) Tryz.func131 rfl rfl rfl fun w => ?_
 refine C_weak (E' := [(0, v), (1, u), (2, .agg (cLg x).toArray), (3, .int .i64 (f : Int))]) (rs' := [rd v 4 (ts.map cCp), rd u 4 (ls.map cLd)]) ⟨rfl, rfl, rfl, rfl, trivial⟩ (fun _ h => h) ?_
 obtain ⟨n, hn⟩ : ∃ n : Nat, n = 2 ^ f := ⟨_, rfl⟩
 have hll : (loadedM ts ls x f).length ≤ 100000 := by rw [loadedM_len hlen]; omega
 refine C_form (v := u) (gv1 gr0) (fun Au cu hu _ => ?_)
 subst hu
 refine C_seq ?_
 refine C_region ?_
 refine L_box rfl rfl rfl fun g5 => ?_
 refine L_box rfl rfl rfl fun g6 => ?_
 refine Jq (q_assign rfl) ?_
 refine L_then ?_
 refine C_seq ?_
 refine C_seq ?_
 refine C_region ?_
 refine Jq (q_move rfl) ?_
 refine Jq (q_load tb rfl rfl bxo rfl) ?_
 refine Jq (q_loadA tb rfl rfl bxo rfl rfl) ?_
 refine Jq (q_move rfl) ?_
 refine L_lo rfl rfl rfl (lo_call tb rfl rfl (ct_tissue_states v (.slice Au (ls.map cLd).length cu) x f ts ls) (ps_cons gvo (ps_cons gvo no_ps)) (by rintro y rs ⟨g4, g5, g6, g7, _, rfl⟩ r hr; simp only [List.mem_cons, List.not_mem_nil, or_false] at hr; rcases hr with rfl | rfl | rfl | rfl <;> exact box_sinks _ _ _)) ?_
 rintro _ _ ⟨s4, s5, s6, s7, rfl, rfl⟩
 refine L_then ?_
 refine C_block ?_
 refine C_range (fun rs_ => ∃ y : Value, rs_ = [box g5 23 [y], box g6 130 (cLg x), rd y 4 ((loadedM ts ls x f).map cLd)]) rfl (tb.en_ok _ (lkT_mem (rfl : lkT tb.en 214 = some ()))) (fun l D fn tm hts hE => ?_) ?_
 refine it_statesR _ _ l D _ (fun _ y => [box g5 23 [y], box g6 130 (cLg x)]) v (.slice Au (ls.map cLd).length cu) x f n ts ls s4 s5 s6 s7 hf hn hx hlen htl hc hl rfl ?hR _ _ (fun w_ h_ => h_.pick0 [2, 3, 4, 5, 8, 9, 1, 0, 7, 6] (by decide)) (fun y => ⟨y, rfl⟩)
 intro k y y' hk
 refine Rnd.of hts rfl hE (fun own => ?_)
 refine C_form (v := y') (gv1 gr0) (fun Ay cy hy _ => ?_)
 subst hy
 refine C_region ?_
 refine L_alloc tb rfl rfl fun g9 => ?_
 refine L_st tb rfl rfl ?_
 refine L_front1 ?_
 refine L_end ?_
 refine beginR ?_
 refine C_block ?_
 refine C_region ?_
 refine Jq (q_field tb rfl rfl rfl) ?_
 refine Jq (q_load tb rfl rfl bxo rfl) ?_
 refine L_st tb rfl rfl ?_
 refine L_end ?_
 refine endR (fun w_ h_ => WS.pickT [_, _, _, _, _] own h_ [1, 0, 4] (by decide))
 rintro D rs_ ⟨y, rfl⟩
 refine blk_end ?_
 refine C_seq ?_
 refine C_region ?_
 refine Jq (q_load tb rfl rfl bxo rfl) ?_
 refine L_callS tb rfl rfl (ct_CloneLoads y (loadedM ts ls x f) hll) (ps_cons gvo no_ps) rfl fun v19 => ?_
 refine Jq (q_assign rfl) ?_
 refine L_then ?_
 refine C_ret ?_
 exact ret_ofM (rs' := [sl v19 134 4 ((loadedM ts ls x f).map cLd)]) (res1M rfl rfl) (fun w_ h_ => h_.pick0 [1, 0] (by decide)) own1 rfl
end Go.Proofs.YtacndicgpkeobaaGreatDoor
