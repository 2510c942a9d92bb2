/-
  Walks: each function named returns what its model says. Conditions: those in front of each theorem.
-/
import Derived.Test.YtacndicgpkeobaaGreatDoorAs11
import Derived.Test.YtacndicgpkeobaaGreatDoorRd
import Derived.Test.YtacndicgpkeobaaGreatDoorTE
import Derived.Test.YtacndicgpkeobaaGreatDoorAE
namespace Go.Proofs.YtacndicgpkeobaaGreatDoor
open Go.RowKit
def rdL (l : Tx) : Option (Dl × Int) := if lnE l = true then lnR (lnB l) else none
section
variable {l : Tx}
theorem rdL_0 (h : ¬ lnE l = true) : rdL l = none := if_neg h
theorem rdL_1 (h : (cutF 32 [] (lnB l)).length ≠ 5) : rdL l = none := by
  unfold rdL
  split
  · unfold lnR
    split
    · rename_i a b c d e hc
      rw [hc] at h
      exact absurd rfl h
    · rfl
  · rfl
theorem five {ps : List Tx} (h : ps.length = 5) : ∃ a b c d e, ps = [a, b, c, d, e] := by
  match ps, h with
  | [a, b, c, d, e], _ => exact ⟨a, b, c, d, e, rfl⟩
variable {a b c d e : Tx}
theorem rdL_2 (hc : cutF 32 [] (lnB l) = [a, b, c, d, e]) (h : a ≠ tLeg) : rdL l = none := by
  unfold rdL lnR
  rw [hc]
  split
  · exact if_neg h
  · rfl
theorem rdL_3 (h0 : lnE l = true) (hc : cutF 32 [] (lnB l) = [a, b, c, d, e]) (h : a = tLeg) : rdL l = (match numM b 7, numM c 7, numM d 7, numM e 7 with
    | some n1, some n2, some n3, some n4 => some (⟨n1, n2, n3⟩, n4)
    | _, _, _, _ => none) := by
  unfold rdL lnR
  rw [if_pos h0, hc]
  exact if_pos h
theorem rdL_n (hc : cutF 32 [] (lnB l) = [a, b, c, d, e]) (h : numM b 7 = none ∨ numM c 7 = none ∨ numM d 7 = none ∨ numM e 7 = none) : rdL l = none := by
  by_cases h0 : lnE l = true
  · by_cases h1 : a = tLeg
    · rw [rdL_3 h0 hc h1]
      rcases h with h | h | h | h
      · rw [h]
      · rw [h]; cases numM b 7 <;> rfl
      · rw [h]; cases numM b 7 <;> cases numM c 7 <;> rfl
      · rw [h]; cases numM b 7 <;> cases numM c 7 <;> cases numM d 7 <;> rfl
    · exact rdL_2 hc h1
  · exact rdL_0 h0
theorem rdL_y (h0 : lnE l = true) (hc : cutF 32 [] (lnB l) = [a, b, c, d, e]) (h : a = tLeg) {z : Dl} {f : Int} (h1 : numM b 7 = some z.s) (h2 : numM c 7 = some z.d) (h3 : numM d 7 = some z.g) (h4 : numM e 7 = some f) : rdL l = some (z, f) := by
  rw [rdL_3 h0 hc h, h1, h2, h3, h4]
end
def RdP (l : Tx) (y : Value) (rs : List Res) : Prop := ∃ (z : Dl) (f : Int), y = .tuple #[.agg (cDl z).toArray, .int .i64 f, .bool (rdL l).isSome] ∧ ((rdL l).isSome = true → rdL l = some (z, f)) ∧ rs = []
theorem RdP_sinks {l : Tx} : ∀ y rs, RdP l y rs → ∀ r ∈ rs, Sinks r := by
  rintro y rs ⟨z, f, _, _, rfl⟩ r hr
  cases hr
def parG : List Tx → List Dl → List Int → Int → Prs
  | [], L, F, _ => ((L, F), 0, 0)
  | p :: t, L, F, i => match rdL p with
    | some z => parG t (L ++ [z.1]) (F ++ [z.2]) (i + 1)
    | none => (([], []), i + 1, 7)
theorem parG_s {p : Tx} {t : List Tx} {L : List Dl} {F : List Int} {i : Int} {z : Dl} {f : Int} (h : rdL p = some (z, f)) : parG (p :: t) L F i = parG t (L ++ [z]) (F ++ [f]) (i + 1) := by rw [parG, h]
theorem parG_e {p : Tx} {t : List Tx} {L : List Dl} {F : List Int} {i : Int} (h : (rdL p).isSome = false) : parG (p :: t) L F i = (([], []), i + 1, 7) := by
  rw [parG]
  cases hr : rdL p with
  | none => rfl
  | some z => rw [hr] at h; cases h
theorem parG_F : ∀ (ps : List Tx) (L : List Dl) (F : List Int) (i : Int), (∀ p ∈ ps, ∀ c ∈ p, c ≠ 10) → parG (lnsP ps) L F i = parF ps L F i
  | [], L, F, i, _ => by rw [lnsP, parG, parF]
  | [p], L, F, i, h => by
    rw [lnsP, parF]
    by_cases h0 : p = []
    · rw [if_pos h0, if_pos h0, parG]
    · rw [if_neg h0, if_neg h0]
      refine parG_e ?_
      rw [rdL_0 (by rw [lnE_no (h p (by simp))]; decide)]
      rfl
  | p :: q :: t, L, F, i, h => by
    have hr : rdL (p ++ [10]) = lnR p := by
      obtain ⟨h1, h2⟩ := lnE_app p
      unfold rdL
      rw [h1, h2, if_pos rfl]
    rw [lnsP, parF, parG, hr]
    cases lnR p with
    | none => rfl
    | some z => exact parG_F (q :: t) _ _ _ fun x hx => h x (List.mem_cons_of_mem _ hx)
theorem parG_all (t : Tx) : parG (lnsF t) [] [] 0 = parF (cutF 10 [] t) [] [] 0 := parG_F _ _ _ _ (cutF_all t [] (fun _ h => by cases h))
theorem parA_8 {t : Tx} (h : t.length > 60000) : parA t = (([], []), 0, 8) := if_pos h
theorem parA_7 {t : Tx} {i : Int} (h : ¬ t.length > 60000) (h2 : parG (lnsF t) [] [] 0 = (([], []), i, 7)) : parA t = (([], []), i, 7) := by
  unfold parA
  rw [if_neg h, ← parG_all, h2, if_pos (show (7 : Int) ≠ 0 by decide)]
theorem parA_c {t : Tx} {L : List Dl} {F : List Int} (h : ¬ t.length > 60000) (h2 : parG (lnsF t) [] [] 0 = ((L, F), 0, 0)) : parA t = if ckSch L F ≠ 0 then (([], []), 0, ckSch L F) else ((L, F), 0, 0) := by
  unfold parA
  rw [if_neg h, ← parG_all, h2, if_neg (fun hh => hh rfl)]
theorem ln_drop {ls : List Tx} {i : Nat} {p : Tx} (h : ls[i]? = some p) : ls.drop i = p :: ls.drop (i + 1) := drop_cons h
/-! ### As the reference reads -/
def wA (w : List Tx) (i : Nat) : Tx := (w[i]?).getD []
theorem wA_get {w : List Tx} {i : Nat} (h : i < w.length) : w[i]? = some (wA w i) := by
  unfold wA
  rw [List.getElem?_eq_getElem h]
  rfl
section
variable {p : Tx}
theorem lnR_5 (h : (cutF 32 [] p).length ≠ 5) : lnR p = none := by
  unfold lnR
  split
  · rename_i a b c d e hc
    rw [hc] at h
    exact absurd rfl h
  · rfl
theorem lnR_w (h : (cutF 32 [] p).length = 5) : lnR p = if wA (cutF 32 [] p) 0 = tLeg then (match numM (wA (cutF 32 [] p) 1) 7, numM (wA (cutF 32 [] p) 2) 7, numM (wA (cutF 32 [] p) 3) 7, numM (wA (cutF 32 [] p) 4) 7 with
    | some n1, some n2, some n3, some n4 => some (⟨n1, n2, n3⟩, n4)
    | _, _, _, _ => none) else none := by
  obtain ⟨a, b, c, d, e, hc⟩ := five h
  unfold lnR wA
  rw [hc]
  rfl
theorem lnR_a (h : (cutF 32 [] p).length = 5) (h2 : wA (cutF 32 [] p) 0 ≠ tLeg) : lnR p = none := by rw [lnR_w h, if_neg h2]
theorem lnR_n (h : (cutF 32 [] p).length = 5) {i : Nat} (hi : i < 4) (h2 : (numM (wA (cutF 32 [] p) (i + 1)) 7).isSome = false) : lnR p = none := by
  rw [lnR_w h]
  have h3 : numM (wA (cutF 32 [] p) (i + 1)) 7 = none := by simpa using h2
  split
  · match i, hi with
    | 0, _ => rw [show numM (wA (cutF 32 [] p) 1) 7 = none from h3]
    | 1, _ => rw [show numM (wA (cutF 32 [] p) 2) 7 = none from h3]; cases numM (wA (cutF 32 [] p) 1) 7 <;> rfl
    | 2, _ => rw [show numM (wA (cutF 32 [] p) 3) 7 = none from h3]; cases numM (wA (cutF 32 [] p) 1) 7 <;> cases numM (wA (cutF 32 [] p) 2) 7 <;> rfl
    | 3, _ => rw [show numM (wA (cutF 32 [] p) 4) 7 = none from h3]; cases numM (wA (cutF 32 [] p) 1) 7 <;> cases numM (wA (cutF 32 [] p) 2) 7 <;> cases numM (wA (cutF 32 [] p) 3) 7 <;> rfl
  · rfl
theorem lnR_y (h : (cutF 32 [] p).length = 5) (h0 : wA (cutF 32 [] p) 0 = tLeg) {z : Dl} {f : Int} (h1 : numM (wA (cutF 32 [] p) 1) 7 = some z.s) (h2 : numM (wA (cutF 32 [] p) 2) 7 = some z.d) (h3 : numM (wA (cutF 32 [] p) 3) 7 = some z.g) (h4 : numM (wA (cutF 32 [] p) 4) 7 = some f) : lnR p = some (z, f) := by
  rw [lnR_w h, if_pos h0, h1, h2, h3, h4]
end
theorem some_get {α : Type} {o : Option α} {d : α} (h : o.isSome = true) : o = some (o.getD d) := by
  cases o with
  | none => cases h
  | some a => rfl
section
variable {p q : Tx} {r ps : List Tx} {L : List Dl} {F : List Int} {i : Int} {t : Tx}
theorem parF_y {z : Dl} {f : Int} (h : lnR p = some (z, f)) : parF (p :: q :: r) L F i = parF (q :: r) (L ++ [z]) (F ++ [f]) (i + 1) := by rw [parF, h]
theorem parF_n (h : lnR p = none) : parF (p :: q :: r) L F i = (([], []), i + 1, 7) := by rw [parF, h]
theorem parF_0 : parF [] L F i = ((L, F), 0, 0) := by rw [parF]
theorem parF_1 : parF [[]] L F i = ((L, F), 0, 0) := by rw [parF, if_pos rfl]
theorem parF_2 (h : p ≠ []) : parF [p] L F i = (([], []), i + 1, 7) := by rw [parF, if_neg h]
theorem parA_7f (h : ¬ t.length > 60000) (h2 : parF (cutF 10 [] t) [] [] 0 = (([], []), i, 7)) : parA t = (([], []), i, 7) := parA_7 h ((parG_all t).trans h2)
theorem parA_cf (h : ¬ t.length > 60000) (h2 : parF (cutF 10 [] t) [] [] 0 = ((L, F), 0, 0)) : parA t = if ckSch L F ≠ 0 then (([], []), 0, ckSch L F) else ((L, F), 0, 0) := parA_c h ((parG_all t).trans h2)
theorem drop_two {ps : List Tx} {k : Nat} {p : Tx} (h : ps[k]? = some p) (h2 : k + 1 < ps.length) : ∃ q r, ps.drop k = p :: q :: r ∧ ps.drop (k + 1) = q :: r := by
  obtain ⟨q, hq⟩ : ∃ q, ps[k + 1]? = some q := ⟨_, List.getElem?_eq_getElem h2⟩
  exact ⟨q, ps.drop (k + 2), by rw [drop_cons h, drop_cons hq], drop_cons hq⟩
theorem drop_last {ps : List Tx} {k : Nat} {p : Tx} (h : ps[k]? = some p) (h2 : ps.length ≤ k + 1) : ps.drop k = [p] := by rw [drop_cons h, List.drop_eq_nil_of_le h2]
end
theorem parF_len : ∀ (ps : List Tx) (L : List Dl) (F : List Int) (i : Int), (parF ps L F i).1.1.length ≤ L.length + ps.length ∧ (parF ps L F i).1.2.length ≤ F.length + ps.length
  | [], L, F, i => by rw [parF]; exact ⟨Nat.le_refl _, Nat.le_refl _⟩
  | [p], L, F, i => by
    rw [parF]
    split
    · exact ⟨Nat.le_add_right _ _, Nat.le_add_right _ _⟩
    · exact ⟨Nat.zero_le _, Nat.zero_le _⟩
  | p :: q :: t, L, F, i => by
    rw [parF]
    split
    · rename_i z _
      have := parF_len (q :: t) (L ++ [z.1]) (F ++ [z.2]) (i + 1)
      simp only [List.length_append, List.length_cons, List.length_nil] at this ⊢
      omega
    · exact ⟨Nat.zero_le _, Nat.zero_le _⟩
theorem parA_len (t : Tx) : (parA t).1.1.length ≤ t.length + 1 ∧ (parA t).1.2.length ≤ t.length + 1 := by
  have h := parF_len (cutF 10 [] t) [] [] 0
  have h2 := cutF_cnt (m := 10) t []
  have h3 := cnt_le t 10
  simp only [List.length_nil, Nat.zero_add] at h
  unfold parA
  split
  · exact ⟨Nat.zero_le _, Nat.zero_le _⟩
  · split
    · exact ⟨by omega, by omega⟩
    · split
      · exact ⟨Nat.zero_le _, Nat.zero_le _⟩
      · exact ⟨by omega, by omega⟩
theorem prT_len {L : List Dl} {F : List Int} (h : okSch L F) : (prT L F).length ≤ 60000 := by
  have := prK_len h L.length (Nat.le_refl _)
  have := h.n
  unfold prT
  omega
theorem pr_line {L : List Dl} {F : List Int} {k : Nat} {y : Dl} {f : Int} (h : L[k]? = some y) (h2 : F[k]? = some f) : prK L F k ++ [108, 101, 103, 32] ++ Lib.itoa y.s ++ [32] ++ Lib.itoa y.d ++ [32] ++ Lib.itoa y.g ++ [32] ++ Lib.itoa f ++ [10] = prK L F (k + 1) := by
  rw [← prK_s h h2, ptJ_4]
  simp only [List.append_assoc, List.cons_append, List.nil_append]
def goR (ls : List Tx) (τ : Nat) : Bool := match ls[τ]? with
  | some p => (rdL p).isSome
  | none => false
theorem goR_at {ls : List Tx} {τ : Nat} {p : Tx} (h : ls[τ]? = some p) : goR ls τ = (rdL p).isSome := by unfold goR; rw [h]
abbrev nilS : Value := .slice none 0 0
def PStB (tSc tI tE tD : TypeId) (ls : List Tx) (g2 g3 g4 g5 : Nat) (τ : Nat) (rc : List Res) : Prop := ∃ (L : List Dl) (F : List Int) (A B : Option Addr) (c d : Nat), L.length = τ ∧ F.length = τ ∧ parG ls [] [] 0 = parG (ls.drop τ) L F (τ : Int) ∧
  rc = [box g5 tSc [.slice A (L.map cDl).length c, .slice B (F.map cI).length d], sl (.slice A (L.map cDl).length c) tD 3 (L.map cDl), sl (.slice B (F.map cI).length d) tI 1 (F.map cI), box g2 tSc [nilS, nilS], box g3 tI [.int .i64 0], box g4 tE [.int .i64 0]]
def PSpB (tSc tI tE : TypeId) (ls : List Tx) (g2 g3 g4 : Nat) (τ : Nat) (rc : List Res) : Prop := parG ls [] [] 0 = (([], []), (τ : Int) + 1, 7) ∧ rc = [box g2 tSc [nilS, nilS], box g3 tI [.int .i64 ((τ : Int) + 1)], box g4 tE [.int .i64 7]]
theorem isSome_eq {α : Type} {o : Option α} {b : Bool} {z : α} (h : o.isSome = b) (hb : b = true) (hz : o.isSome = true → o = some z) : o = some z := hz (h.trans hb)
def PsP (tD tI : TypeId) (X : Prs) (y : Value) (rs : List Res) : Prop := ∃ (A B : Option Addr) (n m c d : Nat), y = .tuple #[.agg #[.slice A n c, .slice B m d], .int .i64 X.2.1, .int .i64 X.2.2] ∧ rs = [sl (.slice A n c) tD 3 (X.1.1.map cDl), sl (.slice B m d) tI 1 (X.1.2.map cI)]
theorem PsP_sinks {tD tI : TypeId} {X : Prs} : ∀ y rs, PsP tD tI X y rs → ∀ r ∈ rs, Sinks r := by
  rintro y rs ⟨A, B, n, m, c, d, _, rfl⟩ r hr
  simp only [List.mem_cons, List.not_mem_nil, or_false] at hr
  rcases hr with rfl | rfl <;> exact sl_sinks _ _ _ _
end Go.Proofs.YtacndicgpkeobaaGreatDoor
namespace Go.Proofs.YtacndicgpkeobaaGreatDoor
open Go.RowKit

set_option maxRecDepth 100000 in
set_option maxHeartbeats 2000000 in
theorem ct_shotlineref04_Print (a b : Value) (L : List Dl) (F : List Int) (hS : okSch L F) : Ct Tryz.prog 45 [.agg #[a, b]] [(a, 3, L.map cDl), (b, 1, F.map cI)] (isV (.string (bs (prT L F)))) := by
 refine Ct.of (N := 50) Tryz.func45 rfl rfl rfl fun w => ?_
 refine C_weak (E' := [(0, .agg #[a, b])]) (rs' := [rd a 3 (L.map cDl), rd b 1 (F.map cI)]) ⟨rfl, trivial⟩ (fun _ h => h) ?_
 have hl4 := len_map cDl L
 have hl5 := len_map cI F
 have hSn := hS.n; have hSl := hS.l
 refine C_seq ?_
 refine C_region ?_
 refine L_box rfl rfl rfl fun g1 => ?_
 refine Jq (q_assign rfl) ?_
 refine L_then ?_
 refine C_seq ?_
 refine C_region ?_
 refine Jq (q_assign rfl) ?_
 refine L_then ?_
 refine C_seq ?_
 refine C_seq ?_
 refine C_region ?_
 refine Jq (q_assign rfl) ?_
 refine L_then ?_
 refine C_block ?_
 refine C_loop (ι := Nat) (fun k => ([(1, .pointer (some ⟨g1, 0, none⟩)), (3, .string (bs (prK L F k))), (4, .int .i64 (k : Int))], [box g1 80 [a, b], rd a 3 (L.map cDl), rd b 1 (F.map cI)])) (fun k => k ≤ L.length) (fun k => L.length - k) 0 (Nat.zero_le _) (fun a w hs => hs.weak ⟨rfl, rfl, rfl, trivial⟩ (fun h => h.pk (by repeat (first | with_reducible exact pk_nil | refine pk_box rfl ?_ | refine pk_rd rfl ?_ | refine pk_sl rfl ?_ | with_reducible refine pk_app ?_ | with_reducible refine pk_app0 ?_ | with_reducible refine pk_app0L ?_ | with_reducible exact pk_tl | refine pk_var ?_)))) ?_
 intro k hk
 dsimp only at hk ⊢
 refine C_seq ?_
 refine C_seq ?_
 refine C_region ?_
 refine Jq (q_move rfl) ?_
 refine Jq (q_field tb rfl rfl rfl) ?_
 refine Jq (q_load tb rfl rfl bxo rfl) ?_
 refine Jq (q_len tb rfl rfl gvo) ?_
 refine Jq (q_lss rfl rfl) ?_
 refine L_then ?_
 refine C_dec rfl (fun h1 => ?_) (fun h1 => ?_)
 obtain ⟨y, f, hy9, hf9, han⟩ := sch_at hS (k := k) (by omega); have hel := map_get cDl hy9; have hef := map_get cI hf9; have hpk := prK_len hS k (by omega)
 have hn1 : (Lib.itoa y.s).length ≤ 21 := num_len han 0
 have hn2 : (Lib.itoa y.d).length ≤ 21 := num_len han 1
 have hn3 : (Lib.itoa y.g).length ≤ 21 := num_len han 2
 have hn4 : (Lib.itoa f).length ≤ 21 := num_len han 3
 obtain ⟨q1, q2, q3, q4⟩ := han
 refine C_skip_then ?_
 refine C_seq ?_
 refine C_block ?_
 refine C_draw (n := 37) [(0, false), (1, false), (2, false), (3, false), (4, false), (5, false), (6, false), (7, false), (11, false), (12, false), (13, false), (14, false), (15, false), (16, false), (20, false), (21, false), (22, false), (23, false), (24, false), (25, false), (29, false), (30, false), (31, false), (32, false), (33, false), (8, true), (9, false), (10, false), (17, true), (18, false), (19, false), (26, true), (27, false), (28, false), (34, true), (35, false), (36, false)] mixed (by kernel_rfl) ?_
 refine Yq rfl (q_move rfl) ?_
 refine Yq rfl (t_cat (a := (prK L F k)) (b := [108, 101, 103, 32]) (r := ((prK L F k) ++ [108, 101, 103, 32])) rfl rfl (by simp only [List.length_append, List.length_cons, List.length_nil]; omega) rfl) ?_
 refine Yq rfl (q_field tb rfl rfl rfl) ?_
 refine Yq rfl (q_load tb rfl rfl bxo rfl) ?_
 refine Yq rfl (q_move rfl) ?_
 refine Yq rfl (by first | exact q_index tb rfl rfl rfl rfl gvo (by omega) (by first | omega | (simp; done) | (simp; omega)) | exact q_indexP tb rfl rfl rfl rfl (by omega) (by omega)) ?_
 refine Yq rfl (q_fieldE tb rfl rfl rfl gvo (by first | omega | (simp; done) | (simp; omega))) ?_
 refine Yq rfl (q_loadE tb rfl rfl gvo (i := k) (o := 0) (by omega) hel rfl) ?_
 refine Yq rfl (q_field tb rfl rfl rfl) ?_
 refine Yq rfl (q_load tb rfl rfl bxo rfl) ?_
 refine Yq rfl (q_move rfl) ?_
 refine Yq rfl (by first | exact q_index tb rfl rfl rfl rfl gvo (by omega) (by first | omega | (simp; done) | (simp; omega)) | exact q_indexP tb rfl rfl rfl rfl (by omega) (by omega)) ?_
 refine Yq rfl (q_fieldE tb rfl rfl rfl gvo (by first | omega | (simp; done) | (simp; omega))) ?_
 refine Yq rfl (q_loadE tb rfl rfl gvo (i := k) (o := 1) (by omega) hel rfl) ?_
 refine Yq rfl (q_field tb rfl rfl rfl) ?_
 refine Yq rfl (q_load tb rfl rfl bxo rfl) ?_
 refine Yq rfl (q_move rfl) ?_
 refine Yq rfl (by first | exact q_index tb rfl rfl rfl rfl gvo (by omega) (by first | omega | (simp; done) | (simp; omega)) | exact q_indexP tb rfl rfl rfl rfl (by omega) (by omega)) ?_
 refine Yq rfl (q_fieldE tb rfl rfl rfl gvo (by first | omega | (simp; done) | (simp; omega))) ?_
 refine Yq rfl (q_loadE tb rfl rfl gvo (i := k) (o := 2) (by omega) hel rfl) ?_
 refine Yq rfl (q_field tb rfl rfl rfl) ?_
 refine Yq rfl (q_load tb rfl rfl bxo rfl) ?_
 refine Yq rfl (q_move rfl) ?_
 refine Yq rfl (by first | exact q_index tb rfl rfl rfl rfl gvo (by omega) (by first | omega | (simp; done) | (simp; omega)) | exact q_indexP tb rfl rfl rfl rfl (by omega) (by omega)) ?_
 refine Yq rfl (q_loadE tb rfl rfl gvo (i := k) (o := 0) (by omega) hef rfl) ?_
 refine W_call tb rfl rfl rfl rfl (ct_DecT y.s (by omega)) no_ps rfl ?_
 refine Yq rfl (t_cat (a := ((prK L F k) ++ [108, 101, 103, 32])) (b := (Lib.itoa y.s)) (r := (((prK L F k) ++ [108, 101, 103, 32]) ++ (Lib.itoa y.s))) rfl rfl (by simp only [List.length_append, List.length_cons, List.length_nil]; omega) rfl) ?_
 refine Yq rfl (t_cat (a := (((prK L F k) ++ [108, 101, 103, 32]) ++ (Lib.itoa y.s))) (b := [32]) (r := ((((prK L F k) ++ [108, 101, 103, 32]) ++ (Lib.itoa y.s)) ++ [32])) rfl rfl (by simp only [List.length_append, List.length_cons, List.length_nil]; omega) rfl) ?_
 refine W_call tb rfl rfl rfl rfl (ct_DecT y.d (by omega)) no_ps rfl ?_
 refine Yq rfl (t_cat (a := ((((prK L F k) ++ [108, 101, 103, 32]) ++ (Lib.itoa y.s)) ++ [32])) (b := (Lib.itoa y.d)) (r := (((((prK L F k) ++ [108, 101, 103, 32]) ++ (Lib.itoa y.s)) ++ [32]) ++ (Lib.itoa y.d))) rfl rfl (by simp only [List.length_append, List.length_cons, List.length_nil]; omega) rfl) ?_
 refine Yq rfl (t_cat (a := (((((prK L F k) ++ [108, 101, 103, 32]) ++ (Lib.itoa y.s)) ++ [32]) ++ (Lib.itoa y.d))) (b := [32]) (r := ((((((prK L F k) ++ [108, 101, 103, 32]) ++ (Lib.itoa y.s)) ++ [32]) ++ (Lib.itoa y.d)) ++ [32])) rfl rfl (by simp only [List.length_append, List.length_cons, List.length_nil]; omega) rfl) ?_
 refine W_call tb rfl rfl rfl rfl (ct_DecT y.g (by omega)) no_ps rfl ?_
 refine Yq rfl (t_cat (a := ((((((prK L F k) ++ [108, 101, 103, 32]) ++ (Lib.itoa y.s)) ++ [32]) ++ (Lib.itoa y.d)) ++ [32])) (b := (Lib.itoa y.g)) (r := (((((((prK L F k) ++ [108, 101, 103, 32]) ++ (Lib.itoa y.s)) ++ [32]) ++ (Lib.itoa y.d)) ++ [32]) ++ (Lib.itoa y.g))) rfl rfl (by simp only [List.length_append, List.length_cons, List.length_nil]; omega) rfl) ?_
 refine Yq rfl (t_cat (a := (((((((prK L F k) ++ [108, 101, 103, 32]) ++ (Lib.itoa y.s)) ++ [32]) ++ (Lib.itoa y.d)) ++ [32]) ++ (Lib.itoa y.g))) (b := [32]) (r := ((((((((prK L F k) ++ [108, 101, 103, 32]) ++ (Lib.itoa y.s)) ++ [32]) ++ (Lib.itoa y.d)) ++ [32]) ++ (Lib.itoa y.g)) ++ [32])) rfl rfl (by simp only [List.length_append, List.length_cons, List.length_nil]; omega) rfl) ?_
 refine W_call tb rfl rfl rfl rfl (ct_DecT f (by omega)) no_ps rfl ?_
 refine Yq rfl (t_cat (a := ((((((((prK L F k) ++ [108, 101, 103, 32]) ++ (Lib.itoa y.s)) ++ [32]) ++ (Lib.itoa y.d)) ++ [32]) ++ (Lib.itoa y.g)) ++ [32])) (b := (Lib.itoa f)) (r := (((((((((prK L F k) ++ [108, 101, 103, 32]) ++ (Lib.itoa y.s)) ++ [32]) ++ (Lib.itoa y.d)) ++ [32]) ++ (Lib.itoa y.g)) ++ [32]) ++ (Lib.itoa f))) rfl rfl (by simp only [List.length_append, List.length_cons, List.length_nil]; omega) rfl) ?_
 refine Yq rfl (t_cat (a := (((((((((prK L F k) ++ [108, 101, 103, 32]) ++ (Lib.itoa y.s)) ++ [32]) ++ (Lib.itoa y.d)) ++ [32]) ++ (Lib.itoa y.g)) ++ [32]) ++ (Lib.itoa f))) (b := [10]) (r := (prK L F (k + 1))) rfl rfl (by simp only [List.length_append, List.length_cons, List.length_nil]; omega) (pr_line hy9 hf9)) ?_
 refine W_nil ?_
 refine Jq (q_assign rfl) ?_
 refine L_blk ?_
 refine C_region ?_
 refine Jq (q_move rfl) ?_
 refine Jq (q_add rfl rfl (by first | exact IntWalk.i64_in _ (by omega) | rfl)) ?_
 refine Jq (q_assign rfl) ?_
 refine L_end ?_
 exact fun ac_ wo_ hs_ => ⟨k + 1, (by omega), (by dsimp only; omega), hs_.weak ⟨rfl, rfl, rfl, trivial⟩ (fun h_ => h_)⟩
 obtain rfl : k = L.length := by omega
 refine C_exit ?_
 change C Tryz.prog _ _ _ _ _ _ _
 refine C_seq ?_
 refine C_region ?_
 refine Jq (q_move rfl) ?_
 refine Jq (q_assign rfl) ?_
 refine L_then ?_
 refine C_ret ?_
 exact ret_of (res1 rfl rfl) sub_nil (by intro r hr; cases hr) ⟨rfl, rfl⟩
end Go.Proofs.YtacndicgpkeobaaGreatDoor
