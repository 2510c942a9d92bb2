/-
  Walks: each function named returns what its model says. Conditions: those in front of each theorem.
-/
import Derived.Test.YthilaakeimfedaaGreatDoorAs12
import Derived.Test.YthilaakeimfedaaGreatDoorAT
import Derived.Test.YthilaakeimfedaaGreatDoorJ
import Derived.Test.YthilaakeimfedaaGreatDoorU
import Derived.Test.YthilaakeimfedaaGreatDoorW
import Derived.Test.YthilaakeimfedaaGreatDoorFo
namespace Go.Proofs.YthilaakeimfedaaGreatDoor
open Go.RowKit
/-! ### Legs of plans -/
theorem chain_lgs : ∀ {L : List Lg} {a : Int}, chain a L → ckLgs L = 0
  | [], _, _ => rfl
  | x :: t, a, h => by
    unfold ckLgs
    rw [if_neg (fun hh => hh h.2.1)]
    exact chain_lgs h.2.2
theorem legsF_len {sf : Int} {gs : List Gs} : ∀ (ls : List Dl) (d : Int) (acc : List Lg), (legsF sf gs d ls acc).2 = 0 → (legsF sf gs d ls acc).1.length = acc.length + ls.length
  | [], _, _, _ => rfl
  | x :: t, d, acc, h => by
    rw [legsF] at h ⊢
    by_cases hc : ckDl gs.length d x ≠ 0
    · rw [if_pos hc] at h
      exact absurd h hc
    · rw [if_neg hc] at h ⊢
      rw [legsF_len t x.d _ h, List.length_append, List.length_singleton, List.length_cons]
      omega
theorem legsE_len {sf : Int} {gs : List Gs} {ls : List Dl} (h : (legsE sf gs ls).2 = 0) : (legsE sf gs ls).1.length = ls.length ∧ ls.length ≤ 60 := by
  by_cases h1 : 400 ≤ sf ∧ sf ≤ 1100
  · by_cases h2 : gs.length > 8
    · rw [legsE_2 h1 h2] at h; cases h
    · by_cases h3 : ckGs gs = 0
      · by_cases h4 : ls.length > 60
        · rw [legsE_4 h1 h2 h3 h4] at h; cases h
        · rw [legsE_5 h1 h2 h3 h4] at h ⊢
          have := legsF_len ls 0 [] h
          rw [List.length_nil, Nat.zero_add] at this
          exact ⟨this, by omega⟩
      · rw [legsE_3 h1 h2 h3] at h; exact absurd h h3
  · rw [legsE_1 h1] at h; cases h
def dpK (d : Int) (ls : List Dl) (k : Nat) : Int := if k = 0 then d else (dlA ls (k - 1)).d
theorem dpK_s {d : Int} {ls : List Dl} {k : Nat} {y : Dl} (h : ls[k]? = some y) : y.d = dpK d ls (k + 1) := by
  unfold dpK
  rw [if_neg (Nat.succ_ne_zero k), Nat.add_sub_cancel, dlA_get h]
abbrev bgX (x : Asc) (sf : Int) (gs : List Gs) (ls : List Dl) (k : Nat) : Asc := withL x (folM x.ts x.ls (legsE sf gs ls).1 (fnA x) k) (dpK x.de ls k)
section
variable {x : Asc} {sf : Int} {gs : List Gs} {ls : List Dl} {s : Int}
theorem beg_1 (h : x.de ≠ 0) : begE x sf gs ls = 24 ∧ begA x sf gs ls = zAsc := by
  have e : begE x sf gs ls = 24 := if_pos h
  exact ⟨e, if_pos (by rw [e]; decide)⟩
theorem beg_2 (h : ¬ x.de ≠ 0) (h2 : sf ≠ x.su) : begE x sf gs ls = 13 ∧ begA x sf gs ls = zAsc := by
  have e : begE x sf gs ls = 13 := by unfold begE; rw [if_neg h, if_pos h2]
  exact ⟨e, if_pos (by rw [e]; decide)⟩
theorem beg_3 (h : ¬ x.de ≠ 0) (h2 : ¬ sf ≠ x.su) : begE x sf gs ls = (legsE sf gs ls).2 := by unfold begE; rw [if_neg h, if_neg h2]
theorem beg_4 (h : ¬ x.de ≠ 0) (h2 : ¬ sf ≠ x.su) (h3 : (legsE sf gs ls).2 ≠ 0) : begA x sf gs ls = zAsc := if_pos (by rw [beg_3 h h2]; exact h3)
theorem beg_5 (h : ¬ x.de ≠ 0) (h2 : ¬ sf ≠ x.su) (h3 : ¬ (legsE sf gs ls).2 ≠ 0) : begA x sf gs ls = bgX x sf gs ls ls.length := by
  have h4 := legsE_len (Decidable.not_not.1 h3)
  unfold begA
  rw [if_neg (by rw [beg_3 h h2]; exact h3), h4.1]
  rfl
theorem fol_c (H : okAsc x) : folC x.ts x.ls (legsE sf gs ls).1 x.r.fi = 0 := by
  have h1 := legsE_chain sf gs ls
  exact folC_0 (fun hh => hh (ckLoads_mk H.k)) (by omega) (fun hh => hh (chain_lgs h1.1)) H.r.fi
def bgE (x : Asc) (sf : Int) (gs : List Gs) (ls : List Dl) : Int := if ckAsc x ≠ 0 then ckAsc x else begE x sf gs ls
def bgA (x : Asc) (sf : Int) (gs : List Gs) (ls : List Dl) : Asc := if ckAsc x ≠ 0 then zAsc else begA x sf gs ls
theorem bg_1 (h : ckAsc x ≠ 0) : bgE x sf gs ls = ckAsc x ∧ bgA x sf gs ls = zAsc := ⟨if_pos h, if_pos h⟩
theorem bg_2 (h : ckAsc x = 0) : bgE x sf gs ls = begE x sf gs ls ∧ bgA x sf gs ls = begA x sf gs ls := ⟨if_neg (fun hh => hh h), if_neg (fun hh => hh h)⟩
def rsE (x : Asc) (s : Int) : Int := if ckAsc x ≠ 0 then ckAsc x else resE x s
def rsA (x : Asc) (s : Int) : Asc := if ckAsc x ≠ 0 then zAsc else resA x s
theorem rs_1 (h : ckAsc x ≠ 0) : rsE x s = ckAsc x ∧ rsA x s = zAsc := ⟨if_pos h, if_pos h⟩
theorem rs_2 (h : ckAsc x = 0) : rsE x s = resE x s ∧ rsA x s = resA x s := ⟨if_neg (fun hh => hh h), if_neg (fun hh => hh h)⟩
theorem res_1 (h : x.de ≠ 0) : resE x s = 24 ∧ resA x s = zAsc := by
  have e : resE x s = 24 := if_pos h
  exact ⟨e, if_pos (by rw [e]; decide)⟩
theorem res_2 (h : ¬ x.de ≠ 0) (h2 : ¬ (0 ≤ s ∧ s ≤ 1000000)) : resE x s = 2 ∧ resA x s = zAsc := by
  have e : resE x s = 2 := by unfold resE; rw [if_neg h, if_neg h2]
  exact ⟨e, if_pos (by rw [e]; decide)⟩
theorem res_3 (h : ¬ x.de ≠ 0) (h2 : 0 ≤ s ∧ s ≤ 1000000) : resE x s = 0 ∧ resA x s = withL x (restM x.ts x.ls x.su s) x.de := by
  have e : resE x s = 0 := by unfold resE; rw [if_neg h, if_pos h2]
  exact ⟨e, if_neg (fun hh => hh e)⟩
theorem rst_bad (H : okAsc x) (h : (restE x.ts x.ls x.su s).2 ≠ 0) : ¬ (0 ≤ s ∧ s ≤ 1000000) ∧ (restE x.ts x.ls x.su s).2 = 2 := by
  have h1 := H.su
  by_cases h2 : 0 ≤ s ∧ s ≤ 1000000
  · rw [restE_3 (fun hh => hh (ckLoads_mk H.k)) ⟨h1.1, h1.2, h2⟩] at h
    exact absurd rfl h
  · exact ⟨h2, by rw [restE_2 (fun hh => hh (ckLoads_mk H.k)) (by omega)]⟩
theorem rst_ok (H : okAsc x) (h : ¬ (restE x.ts x.ls x.su s).2 ≠ 0) : (0 ≤ s ∧ s ≤ 1000000) ∧ restE x.ts x.ls x.su s = (restM x.ts x.ls x.su s, 0) := by
  have h1 := H.su
  by_cases h2 : 0 ≤ s ∧ s ≤ 1000000
  · exact ⟨h2, restE_3 (fun hh => hh (ckLoads_mk H.k)) ⟨h1.1, h1.2, h2⟩⟩
  · rw [restE_2 (fun hh => hh (ckLoads_mk H.k)) (by omega)] at h
    exact absurd (by decide) h
end
theorem z_len : zAsc.ts.length ≤ 100000 ∧ zAsc.ls.length ≤ 100000 ∧ zAsc.gs.length ≤ 100000 := by decide
theorem beg_len {x : Asc} (H : okAsc x) (sf : Int) (gs : List Gs) (ls : List Dl) : (begA x sf gs ls).ts.length ≤ 100000 ∧ (begA x sf gs ls).ls.length ≤ 100000 ∧ (begA x sf gs ls).gs.length ≤ 100000 := by
  have hb := H.k.b; have h8 := H.g8
  by_cases h1 : x.de ≠ 0
  · rw [(beg_1 h1).2]; exact z_len
  by_cases h2 : sf ≠ x.su
  · rw [(beg_2 h1 h2).2]; exact z_len
  by_cases h3 : (legsE sf gs ls).2 ≠ 0
  · rw [beg_4 h1 h2 h3]; exact z_len
  · rw [beg_5 h1 h2 h3]
    have h5 := folM_ok H.k (chain_lgs (legsE_chain sf gs ls).1) (fnA_in H).2 ls.length
    have h6 := h5.len
    refine ⟨by show x.ts.length ≤ _; omega, ?_, by show x.gs.length ≤ _; omega⟩
    show (folM x.ts x.ls (legsE sf gs ls).1 (fnA x) ls.length).length ≤ _
    omega
theorem res_len {x : Asc} (H : okAsc x) (s : Int) : (resA x s).ts.length ≤ 100000 ∧ (resA x s).ls.length ≤ 100000 ∧ (resA x s).gs.length ≤ 100000 := by
  have hb := H.k.b; have h8 := H.g8; have hl := H.k.len
  by_cases h1 : x.de ≠ 0
  · rw [(res_1 h1).2]; exact z_len
  by_cases h2 : 0 ≤ s ∧ s ≤ 1000000
  · rw [(res_3 h1 h2).2]
    refine ⟨by show x.ts.length ≤ _; omega, ?_, by show x.gs.length ≤ _; omega⟩
    show (restM x.ts x.ls x.su s).length ≤ _
    rw [restM_len hl]
    omega
  · rw [(res_2 h1 h2).2]; exact z_len
theorem rev_last {v : Value} {t : List Value} {n : Nat} (h : t.length + 1 = n) : (((v :: t).map fun q => [q]).reverse)[n - 1]? = some [v] := by
  subst h
  rw [List.map_cons, List.reverse_cons, Nat.add_sub_cancel, List.getElem?_append_right (by rw [List.length_reverse, List.length_map]; exact Nat.le_refl _), List.length_reverse, List.length_map, Nat.sub_self]
  rfl
def isRf (v u w : Value) (x X : Asc) (e : Int) (y : Value) (rs : List Res) : Prop := ∃ A1 n1 c1 A2 n2 c2 A3 n3 c3, y = .tuple #[.agg (cAt (.slice A1 n1 c1) (.slice A2 n2 c2) (.slice A3 n3 c3) X).toArray, .int .i64 e] ∧ (∀ r ∈ rs, Sinks r) ∧
  ∀ R, GvR R v 4 (x.ts.map cCp) → GvR R u 4 (x.ls.map cLd) → GvR R w 3 (x.gs.map cAg) → GvR (rs ++ R) (.slice A1 n1 c1) 4 (X.ts.map cCp) ∧ GvR (rs ++ R) (.slice A2 n2 c2) 4 (X.ls.map cLd) ∧ GvR (rs ++ R) (.slice A3 n3 c3) 3 (X.gs.map cAg)
theorem isRf_sinks {v u w : Value} {x X : Asc} {e : Int} : ∀ y rs, isRf v u w x X e y rs → ∀ r ∈ rs, Sinks r := by
  rintro y rs ⟨_, _, _, _, _, _, _, _, _, _, h, _⟩
  exact h
theorem rf_nil {v u w : Value} {x : Asc} {e : Int} {tc tl tg : TypeId} : isRf v u w x zAsc e (.tuple #[.agg (cAt (.slice none 0 0) (.slice none 0 0) (.slice none 0 0) zAsc).toArray, .int .i64 e]) [sl (.slice none 0 0) tc 4 [], sl (.slice none 0 0) tl 4 [], sl (.slice none 0 0) tg 3 []] := by
  refine ⟨_, _, _, _, _, _, _, _, _, rfl, ?_, fun R _ _ _ => ⟨gs0, gv1 gs0, gv1 (gv1 gs0)⟩⟩
  intro r hr
  simp only [List.mem_cons, List.not_mem_nil, or_false] at hr
  rcases hr with rfl | rfl | rfl <;> exact sl_sinks _ _ _ _
theorem loaded_I {P : Program} {k : FuncId} {v u : Value} {y : Lg} {f : Int} {ts : List Cp} {ls : List Ld} {t : TypeId} (hf : 0 ≤ f ∧ f ≤ 6) (h : ∀ n : Nat, n ≤ 6 → Ct P k [v, u, .agg (cLg y).toArray, .int .i64 (n : Int)] [(v, 4, ts.map cCp), (u, 4, ls.map cLd)] (isSl t 4 ((loadedM ts ls y n).map cLd))) :
    Ct P k [v, u, .agg (cLg y).toArray, .int .i64 f] [(v, 4, ts.map cCp), (u, 4, ls.map cLd)] (isSl t 4 ((loadedM ts ls y f.toNat).map cLd)) := by
  obtain ⟨n, rfl⟩ := Int.eq_ofNat_of_zero_le hf.1
  exact h n (by omega)
end Go.Proofs.YthilaakeimfedaaGreatDoor
namespace Go.Proofs.YthilaakeimfedaaGreatDoor
open Go.RowKit

set_option maxRecDepth 100000 in
set_option maxHeartbeats 2000000 in
theorem ct_ascent_Rested (v u z : Value) (x : Asc) (hle1 : x.ts.length ≤ 100000) (hle2 : x.ls.length ≤ 100000) (hle3 : x.gs.length ≤ 100000) (s : Int) : Ct Tryz.prog 73 [.agg (cAt v u z x).toArray, .int .i64 s] [(v, 4, x.ts.map cCp), (u, 4, x.ls.map cLd), (z, 3, x.gs.map cAg)] (isTk 66 139 144 (rsA x s) (rsE x s)) := by
 refine Ct.of (N := 46) Tryz.func73 rfl rfl rfl fun w => ?_
 refine C_weak (E' := [(0, .agg (cAt v u z x).toArray), (1, .int .i64 s)]) (rs' := [rd v 4 (x.ts.map cCp), rd u 4 (x.ls.map cLd), rd z 3 (x.gs.map cAg)]) ⟨rfl, rfl, trivial⟩ (fun _ h => h) ?_
 have hl1 := len_map cCp x.ts
 have hl2 := len_map cLd x.ls
 have hl3 := len_map cAg x.gs
 refine C_seq ?_
 refine C_region ?_
 refine L_box rfl rfl rfl fun g2 => ?_
 refine L_alloc tb rfl rfl fun g4 => ?_
 refine Jq (q_assign rfl) ?_
 refine L_then ?_
 refine C_seq ?_
 refine C_region ?_
 refine Jq (q_loadA tb rfl rfl bxo rfl rfl) ?_
 refine L_lo rfl rfl rfl (lo_call tb rfl rfl (ct_ascent_open v u z x (by omega) (by omega) (by omega)) (ps_cons gvo (ps_cons gvo (ps_cons gvo no_ps))) isTk_sinks) ?_
 rintro _ _ ⟨A11, n11, c11, B11, m11, d11, C11, k11, e11, rfl, rfl⟩
 refine Jq (q_move rfl) ?_
 refine Jq (q_ext0 rfl) ?_
 refine Jq (q_ext1 rfl) ?_
 refine L_alloc tb rfl rfl fun g6 => ?_
 refine L_st tb rfl rfl ?_
 refine Jq (q_assign rfl) ?_
 refine L_then ?_
 refine C_seq ?_
 refine C_block ?_
 refine C_seq ?_
 refine C_region ?_
 refine Jq (q_move rfl) ?_
 refine Jq (q_neq rfl rfl) ?_
 refine Jq (q_assign rfl) ?_
 refine L_then ?_
 refine C_dec rfl (fun h1 => ?_) (fun h1 => ?_)
 refine C_seq ?_
 refine C_region ?_
 refine Jq (by first | exact q_build tb rfl rfl rfl rfl | exact q_buildArr tb rfl rfl rfl rfl rfl) ?_
 refine Jq (q_move rfl) ?_
 refine L_st tb rfl rfl ?_
 refine Jq (q_assign rfl) ?_
 refine L_then ?_
 refine C_ret ?_
 obtain ⟨r1, r2⟩ := rs_1 (x := x) (s := s) h1
 rw [r1, r2]
 exact ret_of (rs' := [sl (.slice none 0 0) 66 4 [], sl (.slice none 0 0) 139 4 [], sl (.slice none 0 0) 144 3 []]) (resCT tb rfl rfl rfl rfl bxo rfl) (fun w_ h_ => ws_nil (ws_nil (ws_nil (sub_nil w_ h_)))) own3 ⟨_, _, _, _, _, _, _, _, _, rfl, rfl⟩
 have hz := Decidable.not_not.1 h1
 rw [opA_2 hz]
 have H := ckAsc_ok hz
 have hbl := beh_len H; have hsu := H.su; have hde := H.de; have hrf := H.r.fi
 obtain ⟨r1, r2⟩ := rs_2 (x := x) (s := s) hz
 rw [r1, r2]
 refine C_seq ?_
 refine C_region ?_
 refine Jq (q_field tb rfl rfl rfl) ?_
 refine Jq (q_load tb rfl rfl bxo rfl) ?_
 refine Jq (q_neq rfl rfl) ?_
 refine Jq (q_assign rfl) ?_
 refine L_then ?_
 refine C_dec rfl (fun h2 => ?_) (fun h2 => ?_)
 refine C_seq ?_
 refine C_region ?_
 refine Jq (by first | exact q_build tb rfl rfl rfl rfl | exact q_buildArr tb rfl rfl rfl rfl rfl) ?_
 refine L_st tb rfl rfl ?_
 refine Jq (q_assign rfl) ?_
 refine L_then ?_
 refine C_ret ?_
 obtain ⟨e1, e2⟩ := res_1 (x := x) (s := s) h2
 rw [e1, e2]
 exact ret_of (rs' := [sl (.slice none 0 0) 66 4 [], sl (.slice none 0 0) 139 4 [], sl (.slice none 0 0) 144 3 []]) (resCT tb rfl rfl rfl rfl bxo rfl) (fun w_ h_ => ws_nil (ws_nil (ws_nil (sub_nil w_ h_)))) own3 ⟨_, _, _, _, _, _, _, _, _, rfl, rfl⟩
 refine C_skip_blk ?_
 refine C_seq ?_
 refine C_region ?_
 refine Jq (q_field tb rfl rfl rfl) ?_
 refine Jq (q_field tb rfl rfl rfl) ?_
 refine Jq (q_load tb rfl rfl bxo rfl) ?_
 refine Jq (q_field tb rfl rfl rfl) ?_
 refine Jq (q_field tb rfl rfl rfl) ?_
 refine Jq (q_load tb rfl rfl bxo rfl) ?_
 refine Jq (q_field tb rfl rfl rfl) ?_
 refine Jq (q_load tb rfl rfl bxo rfl) ?_
 refine Jq (q_move rfl) ?_
 refine L_callSN tb rfl rfl (ct_tissue_Rested _ _ x.su s x.ts x.ls (by omega) (by omega)) (ps_cons gvo (ps_cons gvo no_ps)) rfl fun v34 => ?_
 refine Jq (q_move rfl) ?_
 refine Jq (q_ext0 rfl) ?_
 refine Jq (q_ext1 rfl) ?_
 refine Jq (q_assign rfl) ?_
 refine Jq (q_assign rfl) ?_
 refine L_then ?_
 refine C_seq ?_
 refine C_seq ?_
 refine C_region ?_
 refine Jq (q_move rfl) ?_
 refine Jq (q_neq rfl rfl) ?_
 refine L_then ?_
 refine C_dec rfl (fun h3 => ?_) (fun h3 => ?_)
 refine C_seq ?_
 refine C_region ?_
 refine Jq (by first | exact q_build tb rfl rfl rfl rfl | exact q_buildArr tb rfl rfl rfl rfl rfl) ?_
 refine Jq (q_move rfl) ?_
 refine L_st tb rfl rfl ?_
 refine Jq (q_assign rfl) ?_
 refine L_then ?_
 refine C_ret ?_
 obtain ⟨h4, e3⟩ := rst_bad H h3
 obtain ⟨e1, e2⟩ := res_2 (x := x) (s := s) h2 h4
 rw [e1, e2, e3]
 exact ret_of (rs' := [sl (.slice none 0 0) 66 4 [], sl (.slice none 0 0) 139 4 [], sl (.slice none 0 0) 144 3 []]) (resCT tb rfl rfl rfl rfl bxo rfl) (fun w_ h_ => ws_nil (ws_nil (ws_nil (sub_nil w_ h_)))) own3 ⟨_, _, _, _, _, _, _, _, _, rfl, rfl⟩
 obtain ⟨h4, e3⟩ := rst_ok H h3
 rw [e3]
 dsimp only
 refine C_skip_then ?_
 refine C_seq ?_
 refine C_region ?_
 refine L_form (v := v34) gvo (fun A34 c34 hv34 _ => ?_)
 subst hv34
 refine Jq (q_move rfl) ?_
 refine Jq (q_field tb rfl rfl rfl) ?_
 refine Jq (q_field tb rfl rfl rfl) ?_
 refine L_st tb rfl rfl ?_
 refine L_then ?_
 refine C_seq ?_
 refine C_region ?_
 refine Jq (q_field tb rfl rfl rfl) ?_
 refine Jq (q_loadA tb rfl rfl bxo rfl rfl) ?_
 refine L_st tb rfl rfl ?_
 refine Jq (q_assign rfl) ?_
 refine L_then ?_
 refine C_ret ?_
 obtain ⟨e1, e2⟩ := res_3 (x := x) (s := s) h2 h4
 rw [e1, e2]
 exact ret_of (rs' := [sl _ 66 4 ((withL x (restM x.ts x.ls x.su s) x.de).ts.map cCp), sl _ 139 4 ((withL x (restM x.ts x.ls x.su s) x.de).ls.map cLd), sl _ 144 3 ((withL x (restM x.ts x.ls x.su s) x.de).gs.map cAg)]) (resCT tb rfl rfl rfl rfl bxo rfl) (fun w_ h_ => h_.pk (by repeat (first | with_reducible exact pk_nil | refine pk_box rfl ?_ | refine pk_rd rfl ?_ | refine pk_sl rfl ?_ | with_reducible refine pk_app ?_ | with_reducible refine pk_app0 ?_ | with_reducible refine pk_app0L ?_ | with_reducible exact pk_tl | refine pk_var ?_))) own3 ⟨_, _, _, _, _, _, _, _, _, rfl, rfl⟩
set_option maxRecDepth 100000 in
set_option maxHeartbeats 2000000 in
theorem ct_shotlineref04_Rested (v u z : Value) (x : Asc) (s : Int) (H : okAsc x) : Ct Tryz.prog 75 [.agg (cAt v u z x).toArray, .int .i64 s] [(v, 4, x.ts.map cCp), (u, 4, x.ls.map cLd), (z, 3, x.gs.map cAg)] (isRf v u z x (resA x s) (resE x s)) := by
 refine Ct.of (N := 24) Tryz.func75 rfl rfl rfl fun w => ?_
 refine C_weak (E' := [(0, .agg (cAt v u z x).toArray), (1, .int .i64 s)]) (rs' := [rd v 4 (x.ts.map cCp), rd u 4 (x.ls.map cLd), rd z 3 (x.gs.map cAg)]) ⟨rfl, rfl, trivial⟩ (fun _ h => h) ?_
 have hl1 := len_map cCp x.ts
 have hl2 := len_map cLd x.ls
 have hl3 := len_map cAg x.gs
 have hde := H.de; have hsu := H.su; have hbl := beh_len H; have hrs := H.r.st; have hrf := H.r.fi
 refine C_form (v := v) gvo (fun Av cv hv _ => ?_)
 subst hv
 refine C_form (v := u) gvo (fun Au cu hu _ => ?_)
 subst hu
 refine C_form (v := z) gvo (fun Az cz hz _ => ?_)
 subst hz
 refine C_seq ?_
 refine C_region ?_
 refine L_box rfl rfl rfl fun g2 => ?_
 refine L_alloc tb rfl rfl fun g4 => ?_
 refine Jq (q_assign rfl) ?_
 refine L_then ?_
 refine C_seq ?_
 refine C_seq ?_
 refine C_region ?_
 refine Jq (q_field tb rfl rfl rfl) ?_
 refine Jq (q_load tb rfl rfl bxo rfl) ?_
 refine Jq (q_neq rfl rfl) ?_
 refine L_then ?_
 refine C_dec rfl (fun h1 => ?_) (fun h1 => ?_)
 refine C_seq ?_
 refine C_region ?_
 refine Jq (by first | exact q_build tb rfl rfl rfl rfl | exact q_buildArr tb rfl rfl rfl rfl rfl) ?_
 refine L_st tb rfl rfl ?_
 refine Jq (q_assign rfl) ?_
 refine L_then ?_
 refine C_ret ?_
 obtain ⟨e1, e2⟩ := res_1 (x := x) (s := s) h1
 rw [e1, e2]
 exact ret_of (rs' := [sl (.slice none 0 0) 66 4 [], sl (.slice none 0 0) 139 4 [], sl (.slice none 0 0) 144 3 []]) (resCT tb rfl rfl rfl rfl bxo rfl) (fun w_ h_ => ws_nil (ws_nil (ws_nil (sub_nil w_ h_)))) own3 rf_nil
 refine C_skip_then ?_
 refine C_seq ?_
 refine C_seq ?_
 refine C_region ?_
 refine Jq (q_move rfl) ?_
 refine L_call tb rfl rfl (ct_shotlinebase_Within s 0 1000000) no_ps rfl ?_
 refine Jq (q_not rfl decide_not.symm) ?_
 refine L_then ?_
 refine C_dec rfl (fun h2 => ?_) (fun h2 => ?_)
 refine C_seq ?_
 refine C_region ?_
 refine Jq (by first | exact q_build tb rfl rfl rfl rfl | exact q_buildArr tb rfl rfl rfl rfl rfl) ?_
 refine L_st tb rfl rfl ?_
 refine Jq (q_assign rfl) ?_
 refine L_then ?_
 refine C_ret ?_
 obtain ⟨e1, e2⟩ := res_2 (x := x) (s := s) h1 h2
 rw [e1, e2]
 exact ret_of (rs' := [sl (.slice none 0 0) 66 4 [], sl (.slice none 0 0) 139 4 [], sl (.slice none 0 0) 144 3 []]) (resCT tb rfl rfl rfl rfl bxo rfl) (fun w_ h_ => ws_nil (ws_nil (ws_nil (sub_nil w_ h_)))) own3 rf_nil
 have h3 := Decidable.not_not.1 h2
 refine C_skip_then ?_
 refine C_seq ?_
 refine C_region ?_
 refine Jq (q_field tb rfl rfl rfl) ?_
 refine Jq (q_load tb rfl rfl bxo rfl) ?_
 refine Jq (q_field tb rfl rfl rfl) ?_
 refine Jq (q_load tb rfl rfl bxo rfl) ?_
 refine Jq (q_field tb rfl rfl rfl) ?_
 refine Jq (q_load tb rfl rfl bxo rfl) ?_
 refine Jq (q_move rfl) ?_
 refine L_callSF tb rfl rfl (ct_shotlineref03_Rested _ _ x.su s x.ts x.ls H.k ⟨by omega, by omega, by omega, by omega⟩) (ps_cons gvo (ps_cons gvo no_ps)) rfl fun A21 n21 c21 => ?_
 refine Jq (q_field tb rfl rfl rfl) ?_
 refine L_st tb rfl rfl ?_
 refine L_then ?_
 refine C_seq ?_
 refine C_region ?_
 refine Jq (q_loadA tb rfl rfl bxo rfl rfl) ?_
 refine L_st tb rfl rfl ?_
 refine Jq (q_assign rfl) ?_
 refine L_then ?_
 refine C_ret ?_
 obtain ⟨e1, e2⟩ := res_3 (x := x) (s := s) h1 h3
 rw [e1, e2]
 exact ret_of (rs' := [sl _ 139 4 ((restM x.ts x.ls x.su s).map cLd)]) (resCT tb rfl rfl rfl rfl bxo rfl) (fun w_ h_ => h_.pk (by repeat (first | with_reducible exact pk_nil | refine pk_box rfl ?_ | refine pk_rd rfl ?_ | refine pk_sl rfl ?_ | with_reducible refine pk_app ?_ | with_reducible refine pk_app0 ?_ | with_reducible refine pk_app0L ?_ | with_reducible exact pk_tl | refine pk_var ?_))) own1 ⟨_, _, _, _, _, _, _, _, _, rfl, (by intro r hr; rw [List.mem_singleton.1 hr]; exact sl_sinks _ _ _ _), fun R g1 _ g3 => ⟨gv1 g1, gs0, gv1 g3⟩⟩
theorem ct_LoadedI (v u : Value) (y : Lg) (f : Int) (ts : List Cp) (ls : List Ld) (hf : 0 ≤ f ∧ f ≤ 6) (hy : okLg y) (hk : okTL ts ls) : Ct Tryz.prog 115 [v, u, .agg (cLg y).toArray, .int .i64 f] [(v, 4, ts.map cCp), (u, 4, ls.map cLd)] (isSl 139 4 ((loadedM ts ls y f.toNat).map cLd)) := by
 have hb := hk.b
 exact loaded_I hf fun n hn => ct_shotlineref03_Loaded v u y n ts ls hn hy hk.len (by omega) hk.c hk.x

set_option maxRecDepth 100000 in
set_option maxHeartbeats 4000000 in
theorem ct_shotlineref04_Begun (v u z : Value) (x : Asc) (nm : ByteArray) (sf : Int) (pv pu : Value) (gs : List Gs) (ls : List Dl) (H : okAsc x) (hlg : gs.length ≤ 100000) (hll : ls.length ≤ 100000) : Ct Tryz.prog 74 [.agg (cAt v u z x).toArray, .agg (cPl nm sf pv pu).toArray] [(v, 4, x.ts.map cCp), (u, 4, x.ls.map cLd), (z, 3, x.gs.map cAg), (pv, 2, gs.map cGs), (pu, 3, ls.map cDl)] (isRf v u z x (begA x sf gs ls) (begE x sf gs ls)) := by
 refine Ct.of (N := 55) Tryz.func74 rfl rfl rfl fun w => ?_
 refine C_weak (E' := [(0, .agg (cAt v u z x).toArray), (1, .agg (cPl nm sf pv pu).toArray)]) (rs' := [rd v 4 (x.ts.map cCp), rd u 4 (x.ls.map cLd), rd z 3 (x.gs.map cAg), rd pv 2 (gs.map cGs), rd pu 3 (ls.map cDl)]) ⟨rfl, rfl, trivial⟩ (fun _ h => h) ?_
 have hl1 := len_map cCp x.ts
 have hl2 := len_map cLd x.ls
 have hl3 := len_map cAg x.gs
 have hde := H.de; have hsu := H.su; have hbl := beh_len H; have hrs := H.r.st; have hrf := H.r.fi
 refine C_form (v := v) gvo (fun Av cv hv _ => ?_)
 subst hv
 refine C_form (v := u) gvo (fun Au cu hu _ => ?_)
 subst hu
 refine C_form (v := z) gvo (fun Az cz hz _ => ?_)
 subst hz
 have hp1 := len_map cGs gs; have hp2 := len_map cDl ls
 refine C_seq ?_
 refine C_region ?_
 refine L_box rfl rfl rfl fun g2 => ?_
 refine L_box rfl rfl rfl fun g3 => ?_
 refine L_alloc tb rfl rfl fun g4 => ?_
 refine Jq (q_assign rfl) ?_
 refine L_then ?_
 refine C_seq ?_
 refine C_seq ?_
 refine C_region ?_
 refine Jq (q_field tb rfl rfl rfl) ?_
 refine Jq (q_load tb rfl rfl bxo rfl) ?_
 refine Jq (q_neq rfl rfl) ?_
 refine L_then ?_
 refine C_dec rfl (fun h1 => ?_) (fun h1 => ?_)
 refine C_seq ?_
 refine C_region ?_
 refine Jq (by first | exact q_build tb rfl rfl rfl rfl | exact q_buildArr tb rfl rfl rfl rfl rfl) ?_
 refine L_st tb rfl rfl ?_
 refine Jq (q_assign rfl) ?_
 refine L_then ?_
 refine C_ret ?_
 obtain ⟨e1, e2⟩ := beg_1 (x := x) (sf := sf) (gs := gs) (ls := ls) h1
 rw [e1, e2]
 exact ret_of (rs' := [sl (.slice none 0 0) 66 4 [], sl (.slice none 0 0) 139 4 [], sl (.slice none 0 0) 144 3 []]) (resCT tb rfl rfl rfl rfl bxo rfl) (fun w_ h_ => ws_nil (ws_nil (ws_nil (sub_nil w_ h_)))) own3 rf_nil
 refine C_skip_then ?_
 refine C_seq ?_
 refine C_seq ?_
 refine C_region ?_
 refine Jq (q_field tb rfl rfl rfl) ?_
 refine Jq (q_load tb rfl rfl bxo rfl) ?_
 refine Jq (q_field tb rfl rfl rfl) ?_
 refine Jq (q_load tb rfl rfl bxo rfl) ?_
 refine Jq (q_neq rfl rfl) ?_
 refine L_then ?_
 refine C_dec rfl (fun h2 => ?_) (fun h2 => ?_)
 refine C_seq ?_
 refine C_region ?_
 refine Jq (by first | exact q_build tb rfl rfl rfl rfl | exact q_buildArr tb rfl rfl rfl rfl rfl) ?_
 refine L_st tb rfl rfl ?_
 refine Jq (q_assign rfl) ?_
 refine L_then ?_
 refine C_ret ?_
 obtain ⟨e1, e2⟩ := beg_2 (x := x) (sf := sf) (gs := gs) (ls := ls) h1 h2
 rw [e1, e2]
 exact ret_of (rs' := [sl (.slice none 0 0) 66 4 [], sl (.slice none 0 0) 139 4 [], sl (.slice none 0 0) 144 3 []]) (resCT tb rfl rfl rfl rfl bxo rfl) (fun w_ h_ => ws_nil (ws_nil (ws_nil (sub_nil w_ h_)))) own3 rf_nil
 refine C_skip_then ?_
 refine C_seq ?_
 refine C_region ?_
 refine Jq (q_loadA tb rfl rfl bxo rfl rfl) ?_
 refine L_callSN tb rfl rfl (ct_shotlineref03_LegsOf nm sf _ _ gs ls (by omega)) (ps_cons gvo (ps_cons gvo no_ps)) rfl fun v21 => ?_
 refine Jq (q_move rfl) ?_
 refine Jq (q_ext0 rfl) ?_
 refine Jq (q_ext1 rfl) ?_
 refine Jq (q_assign rfl) ?_
 refine Jq (q_assign rfl) ?_
 refine L_then ?_
 refine C_seq ?_
 refine C_seq ?_
 refine C_region ?_
 refine Jq (q_move rfl) ?_
 refine Jq (q_neq rfl rfl) ?_
 refine L_then ?_
 refine C_dec rfl (fun h3 => ?_) (fun h3 => ?_)
 refine C_seq ?_
 refine C_region ?_
 refine Jq (by first | exact q_build tb rfl rfl rfl rfl | exact q_buildArr tb rfl rfl rfl rfl rfl) ?_
 refine Jq (q_move rfl) ?_
 refine L_st tb rfl rfl ?_
 refine Jq (q_assign rfl) ?_
 refine L_then ?_
 refine C_ret ?_
 rw [beg_3 h1 h2, beg_4 h1 h2 h3]
 exact ret_of (rs' := [sl (.slice none 0 0) 66 4 [], sl (.slice none 0 0) 139 4 [], sl (.slice none 0 0) 144 3 []]) (resCT tb rfl rfl rfl rfl bxo rfl) (fun w_ h_ => ws_nil (ws_nil (ws_nil (sub_nil w_ h_)))) own3 rf_nil
 have hln := legsE_len (Decidable.not_not.1 h3)
 have hck := chain_lgs (legsE_chain sf gs ls).1
 have hlx := len_map cLg (legsE sf gs ls).1
 refine C_skip_then ?_
 refine C_seq ?_
 refine C_seq ?_
 refine C_region ?_
 refine Jq (q_assign rfl) ?_
 refine L_then ?_
 refine C_block ?_
 refine C_res (rs' := ([] ++ (box g2 28 (cAt (.slice Av (x.ts.map cCp).length cv) (.slice Au (x.ls.map cLd).length cu) (.slice Az (x.gs.map cAg).length cz) x) :: rd (.slice Av (x.ts.map cCp).length cv) 4 (x.ts.map cCp) :: rd (.slice Au (x.ls.map cLd).length cu) 4 (x.ls.map cLd) :: rd (.slice Az (x.gs.map cAg).length cz) 3 (x.gs.map cAg) :: sl v21 55 5 ((legsE sf gs ls).1.map cLg) :: box g3 118 (cPl nm sf pv pu) :: rd pv 2 (gs.map cGs) :: rd pu 3 (ls.map cDl) :: box g4 28 [.slice none 0 0, .slice none 0 0, .int .i64 0, .int .i64 0, .slice none 0 0, .int .i64 0, .int .i64 0, .int .i64 0, .int .i64 0, .int .i64 0, .int .i64 0, .int .i64 0] :: []))) (fun _ h_ => h_.pk (by repeat (first | with_reducible exact pk_nil | refine pk_box rfl ?_ | refine pk_rd rfl ?_ | refine pk_sl rfl ?_ | with_reducible refine pk_app ?_ | with_reducible refine pk_app0 ?_ | with_reducible refine pk_app0L ?_ | with_reducible exact pk_tl | refine pk_var ?_))) ?_
 refine C_loop (ι := Nat × Value × List Res) (fun q => ([(2, .pointer (some ⟨g2, 0, none⟩)), (3, .pointer (some ⟨g3, 0, none⟩)), (4, .pointer (some ⟨g4, 0, none⟩)), (6, v21), (8, .int .i64 (q.1 : Int))], (q.2.2 ++ (box g2 28 (cAt (.slice Av (x.ts.map cCp).length cv) q.2.1 (.slice Az (x.gs.map cAg).length cz) (bgX x sf gs ls q.1)) :: rd (.slice Av (x.ts.map cCp).length cv) 4 (x.ts.map cCp) :: rd (.slice Au (x.ls.map cLd).length cu) 4 (x.ls.map cLd) :: rd (.slice Az (x.gs.map cAg).length cz) 3 (x.gs.map cAg) :: sl v21 55 5 ((legsE sf gs ls).1.map cLg) :: box g3 118 (cPl nm sf pv pu) :: rd pv 2 (gs.map cGs) :: rd pu 3 (ls.map cDl) :: box g4 28 [.slice none 0 0, .slice none 0 0, .int .i64 0, .int .i64 0, .slice none 0 0, .int .i64 0, .int .i64 0, .int .i64 0, .int .i64 0, .int .i64 0, .int .i64 0, .int .i64 0] :: [])))) (fun q => q.1 ≤ (legsE sf gs ls).1.length ∧ (∀ r ∈ q.2.2, r.own = true) ∧ (∀ r ∈ q.2.2, Sinks r) ∧ ∀ R, GvR R (.slice Au (x.ls.map cLd).length cu) 4 (x.ls.map cLd) → GvR (q.2.2 ++ R) q.2.1 4 ((bgX x sf gs ls q.1).ls.map cLd)) (fun q => (legsE sf gs ls).1.length - q.1) (0, (.slice Au (x.ls.map cLd).length cu), []) ⟨Nat.zero_le _, (fun r hr => by cases hr), (fun r hr => by cases hr), fun R g => g⟩ (fun a w hs => hs.weak ⟨rfl, rfl, rfl, rfl, rfl, trivial⟩ (fun h => h)) ?_
 rintro ⟨k, u9, ρ⟩ ⟨hk, hro, hrs9, hG⟩
 dsimp only at hk hro hrs9 hG ⊢
 refine C_form (v := u9) (hG _ gvo) (fun A9 c9 hv9 _ => ?_)
 subst hv9
 refine C_seq ?_
 refine C_seq ?_
 refine C_region ?_
 refine Jq (q_move rfl) ?_
 refine Jq (q_move rfl) ?_
 refine Jq (q_len tb rfl rfl gvo) ?_
 refine Jq (q_lss rfl rfl) ?_
 refine L_then ?_
 refine C_dec rfl (fun h4 => ?_) (fun h4 => ?_)
 obtain ⟨y9, hey⟩ := get_some (legsE sf gs ls).1 (k := k) (by omega); have hely := map_get cLg hey; have hyx := (ckLeg_ok (ckLgs_ok hck y9 (List.mem_of_getElem? hey))).1; obtain ⟨y, he⟩ := get_some ls (k := k) (by omega); have hel := map_get cDl he; have hfo := folM_ok H.k hck (fnA_in H).2 k; have hstep := folM_step (ts := x.ts) (ls := x.ls) (f := fnA x) hey; have hdp := dpK_s (d := x.de) he
 refine C_skip_then ?_
 refine C_seq ?_
 refine C_block ?_
 refine C_seq ?_
 refine C_draw (n := 13) [(0, false), (1, false), (2, false), (3, false), (4, false), (5, false), (6, false), (7, false), (8, false), (9, false), (10, false), (11, true), (12, false)] mixed (by kernel_rfl) ?_
 refine Yq rfl (q_field tb rfl rfl rfl) ?_
 refine Yq rfl (q_load tb rfl rfl bxo rfl) ?_
 refine Yq rfl (q_field tb rfl rfl rfl) ?_
 refine Yq rfl (q_load tb rfl rfl bxo rfl) ?_
 refine Yq rfl (q_move rfl) ?_
 refine Yq rfl (q_move rfl) ?_
 refine Yq rfl (by first | exact q_index tb rfl rfl rfl rfl gvo (by omega) (by first | omega | (simp; done) | (simp; omega)) | exact q_indexP tb rfl rfl rfl rfl (by omega) (by omega)) ?_
 refine Yq rfl (q_loadEA tb rfl rfl gvo (i := k) (o := 0) (by omega) hely rfl rfl) ?_
 refine Yq rfl (q_field tb rfl rfl rfl) ?_
 refine Yq rfl (q_field tb rfl rfl rfl) ?_
 refine Yq rfl (q_load tb rfl rfl bxo rfl) ?_
 refine W_callSF tb rfl rfl rfl rfl (ct_LoadedI _ _ y9 x.r.fi x.ts (folM x.ts x.ls (legsE sf gs ls).1 (fnA x) k) H.r.fi hyx hfo) (ps_cons gvo (ps_cons (hG _ gvo) no_ps)) rfl fun A45 n45 c45 => ?_
 refine Yq rfl (q_field tb rfl rfl rfl) ?_
 refine W_nil ?_
 refine L_st tb rfl rfl ?_
 refine L_then ?_
 refine C_region ?_
 refine Jq (q_field tb rfl rfl rfl) ?_
 refine Jq (q_load tb rfl rfl bxo rfl) ?_
 refine Jq (q_move rfl) ?_
 refine Jq (by first | exact q_index tb rfl rfl rfl rfl gvo (by omega) (by first | omega | (simp; done) | (simp; omega)) | exact q_indexP tb rfl rfl rfl rfl (by omega) (by omega)) ?_
 refine Jq (q_fieldE tb rfl rfl rfl gvo (by first | omega | (simp; done) | (simp; omega))) ?_
 refine Jq (q_loadE tb rfl rfl gvo (i := k) (o := 1) (by omega) hel rfl) ?_
 refine Jq (q_field tb rfl rfl rfl) ?_
 refine L_st tb rfl rfl ?_
 refine L_blk ?_
 refine C_region ?_
 refine Jq (q_move rfl) ?_
 refine Jq (q_add rfl rfl (by first | exact IntWalk.i64_in _ (by omega) | rfl)) ?_
 refine Jq (q_assign rfl) ?_
 refine L_end ?_
 rw [hdp]
 have e9 : (loadedM x.ts (folM x.ts x.ls (legsE sf gs ls).1 (fnA x) k) y9 (fnA x)).map cLd = (bgX x sf gs ls (k + 1)).ls.map cLd := by rw [← hstep]; rfl
 exact fun ac_ wo_ hs_ => ⟨(k + 1, .slice A45 n45 c45, [sl (.slice A45 n45 c45) 139 4 ((bgX x sf gs ls (k + 1)).ls.map cLd)]), ⟨by dsimp only; omega, own1, (by intro r hr; rw [List.mem_singleton.1 hr]; exact sl_sinks _ _ _ _), fun R _ => gs0⟩, (by dsimp only; omega), hs_.weak ⟨rfl, rfl, rfl, rfl, rfl, trivial⟩ (fun h_ => (show WS _ _ ([sl (.slice A45 n45 c45) 139 4 ((bgX x sf gs ls (k + 1)).ls.map cLd)] ++ (box g2 28 (cAt (.slice Av (x.ts.map cCp).length cv) (.slice A45 n45 c45) (.slice Az (x.gs.map cAg).length cz) (bgX x sf gs ls (k + 1))) :: rd (.slice Av (x.ts.map cCp).length cv) 4 (x.ts.map cCp) :: rd (.slice Au (x.ls.map cLd).length cu) 4 (x.ls.map cLd) :: rd (.slice Az (x.gs.map cAg).length cz) 3 (x.gs.map cAg) :: sl v21 55 5 ((legsE sf gs ls).1.map cLg) :: box g3 118 (cPl nm sf pv pu) :: rd pv 2 (gs.map cGs) :: rd pu 3 (ls.map cDl) :: box g4 28 [.slice none 0 0, .slice none 0 0, .int .i64 0, .int .i64 0, .slice none 0 0, .int .i64 0, .int .i64 0, .int .i64 0, .int .i64 0, .int .i64 0, .int .i64 0, .int .i64 0] :: [])) _ from h_.pk (by repeat (first | with_reducible exact pk_nil | refine pk_box (by first | rfl | exact e9) ?_ | refine pk_rd rfl ?_ | refine pk_sl (by first | rfl | exact e9) ?_ | with_reducible refine pk_app ?_ | with_reducible refine pk_app0 ?_ | with_reducible refine pk_app0L ?_ | with_reducible exact pk_tl | refine pk_var ?_))))⟩
 refine C_exit ?_
 change C Tryz.prog _ _ _ _ _ _ _
 refine C_seq ?_
 refine C_region ?_
 refine Jq (q_loadA tb rfl rfl bxo rfl rfl) ?_
 refine L_st tb rfl rfl ?_
 refine Jq (q_assign rfl) ?_
 refine L_then ?_
 refine C_ret ?_
 obtain rfl : k = ls.length := by omega
 rw [beg_3 h1 h2, beg_5 h1 h2 h3, Decidable.not_not.1 h3]
 exact ret_of (rs' := ρ) (resCT tb rfl rfl rfl rfl bxo rfl) (fun w_ h_ => h_.pk (by repeat (first | with_reducible exact pk_nil | refine pk_box rfl ?_ | refine pk_rd rfl ?_ | refine pk_sl rfl ?_ | with_reducible refine pk_app ?_ | with_reducible refine pk_app0 ?_ | with_reducible refine pk_app0L ?_ | with_reducible exact pk_tl | refine pk_var ?_))) hro ⟨_, _, _, _, _, _, _, _, _, rfl, hrs9, fun R g1 g2 g3 => ⟨gv_r g1, hG R g2, gv_r g3⟩⟩
end Go.Proofs.YthilaakeimfedaaGreatDoor
