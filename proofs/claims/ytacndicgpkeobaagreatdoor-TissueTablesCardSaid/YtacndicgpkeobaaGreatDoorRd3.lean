/-
  The text of a table: as it is written, and as it is read, by the program and by the reference; what is written is read back. Conditions: those in front of each theorem; no program in sight.
-/
import Derived.Test.YtacndicgpkeobaaGreatDoorRd
import Derived.Test.YtacndicgpkeobaaGreatDoorMod5
import Derived.Test.YtacndicgpkeobaaGreatDoorR
import Derived.Lib.ItoaLen
namespace Go.Proofs.YtacndicgpkeobaaGreatDoor
open Go.RowKit
abbrev tTis : Tx := [116, 105, 115, 115, 117, 101]
def lnC (p : Tx) : Option Cp := match cutF 32 [] p with
  | [a, b, c, d, e] => if a = tTis then (match numM b 7, numM c 7, numM d 7, numM e 7 with
    | some n1, some n2, some n3, some n4 => some ⟨n1, n2, n3, n4⟩
    | _, _, _, _ => none) else none
  | _ => none
def rdC (l : Tx) : Option Cp := if lnE l = true then lnC (lnB l) else none
theorem five3 {ps : List Tx} (h : ps.length = 5) : ∃ a b c d e, ps = [a, b, c, d, e] := by
  match ps, h with
  | [a, b, c, d, e], _ => exact ⟨a, b, c, d, e, rfl⟩
section
variable {l : Tx}
theorem rdC_0 (h : ¬ lnE l = true) : rdC l = none := if_neg h
theorem rdC_1 (h : (cutF 32 [] (lnB l)).length ≠ 5) : rdC l = none := by
  unfold rdC
  split
  · unfold lnC
    split
    · rename_i a b c d e hc
      rw [hc] at h
      exact absurd rfl h
    · rfl
  · rfl
variable {a b c d e : Tx}
theorem rdC_2 (hc : cutF 32 [] (lnB l) = [a, b, c, d, e]) (h : a ≠ tTis) : rdC l = none := by
  unfold rdC lnC
  rw [hc]
  split
  · exact if_neg h
  · rfl
theorem rdC_3 (h0 : lnE l = true) (hc : cutF 32 [] (lnB l) = [a, b, c, d, e]) (h : a = tTis) : rdC l = (match numM b 7, numM c 7, numM d 7, numM e 7 with
    | some n1, some n2, some n3, some n4 => some ⟨n1, n2, n3, n4⟩
    | _, _, _, _ => none) := by
  unfold rdC lnC
  rw [if_pos h0, hc]
  exact if_pos h
theorem rdC_n (hc : cutF 32 [] (lnB l) = [a, b, c, d, e]) (h : numM b 7 = none ∨ numM c 7 = none ∨ numM d 7 = none ∨ numM e 7 = none) : rdC l = none := by
  by_cases h0 : lnE l = true
  · by_cases h1 : a = tTis
    · rw [rdC_3 h0 hc h1]
      rcases h with h | h | h | h
      · rw [h]
      · rw [h]; cases numM b 7 <;> rfl
      · rw [h]; cases numM b 7 <;> cases numM c 7 <;> rfl
      · rw [h]; cases numM b 7 <;> cases numM c 7 <;> cases numM d 7 <;> rfl
    · exact rdC_2 hc h1
  · exact rdC_0 h0
theorem rdC_y (h0 : lnE l = true) (hc : cutF 32 [] (lnB l) = [a, b, c, d, e]) (h : a = tTis) {z : Cp} (h1 : numM b 7 = some z.n) (h2 : numM c 7 = some z.h) (h3 : numM d 7 = some z.b) (h4 : numM e 7 = some z.s) : rdC l = some z := by
  rw [rdC_3 h0 hc h, h1, h2, h3, h4]
end
def RcP (l : Tx) (y : Value) (rs : List Res) : Prop := ∃ z : Cp, y = .tuple #[.agg (cCp z).toArray, .bool (rdC l).isSome] ∧ ((rdC l).isSome = true → rdC l = some z) ∧ rs = []
theorem RcP_sinks {l : Tx} : ∀ y rs, RcP l y rs → ∀ r ∈ rs, Sinks r := by
  rintro y rs ⟨z, _, _, rfl⟩ r hr
  cases hr
abbrev Prc := List Cp × Int × Int
def parC : List Tx → List Cp → Int → Prc
  | [], L, _ => (L, 0, 0)
  | [p], L, i => if p = [] then (L, 0, 0) else ([], i + 1, 7)
  | p :: q :: t, L, i => match lnC p with
    | some z => parC (q :: t) (L ++ [z]) (i + 1)
    | none => ([], i + 1, 7)
def pacA (t : Tx) : Prc :=
  if t.length > 60000 then ([], 0, 8) else
  if (parC (cutF 10 [] t) [] 0).2.2 ≠ 0 then parC (cutF 10 [] t) [] 0 else
  if ckTab (parC (cutF 10 [] t) [] 0).1 ≠ 0 then ([], 0, ckTab (parC (cutF 10 [] t) [] 0).1) else parC (cutF 10 [] t) [] 0
def pacG : List Tx → List Cp → Int → Prc
  | [], L, _ => (L, 0, 0)
  | p :: t, L, i => match rdC p with
    | some z => pacG t (L ++ [z]) (i + 1)
    | none => ([], i + 1, 7)
theorem pacG_s {p : Tx} {t : List Tx} {L : List Cp} {i : Int} {z : Cp} (h : rdC p = some z) : pacG (p :: t) L i = pacG t (L ++ [z]) (i + 1) := by rw [pacG, h]
theorem pacG_e {p : Tx} {t : List Tx} {L : List Cp} {i : Int} (h : (rdC p).isSome = false) : pacG (p :: t) L i = ([], i + 1, 7) := by
  rw [pacG]
  cases hr : rdC p with
  | none => rfl
  | some z => rw [hr] at h; cases h
theorem pacG_F : ∀ (ps : List Tx) (L : List Cp) (i : Int), (∀ p ∈ ps, ∀ c ∈ p, c ≠ 10) → pacG (lnsP ps) L i = parC ps L i
  | [], L, i, _ => by rw [lnsP, pacG, parC]
  | [p], L, i, h => by
    rw [lnsP, parC]
    by_cases h0 : p = []
    · rw [if_pos h0, if_pos h0, pacG]
    · rw [if_neg h0, if_neg h0]
      refine pacG_e ?_
      rw [rdC_0 (by rw [lnE_no (h p (by simp))]; decide)]
      rfl
  | p :: q :: t, L, i, h => by
    have hr : rdC (p ++ [10]) = lnC p := by
      obtain ⟨h1, h2⟩ := lnE_app p
      unfold rdC
      rw [h1, h2, if_pos rfl]
    rw [lnsP, parC, pacG, hr]
    cases lnC p with
    | none => rfl
    | some z => exact pacG_F (q :: t) _ _ fun x hx => h x (List.mem_cons_of_mem _ hx)
theorem pacG_all (t : Tx) : pacG (lnsF t) [] 0 = parC (cutF 10 [] t) [] 0 := pacG_F _ _ _ (cutF_all t [] (fun _ h => by cases h))
section
variable {t : Tx} {L : List Cp} {i : Int}
theorem pacA_8 (h : t.length > 60000) : pacA t = ([], 0, 8) := if_pos h
theorem pacA_7f (h : ¬ t.length > 60000) (h2 : parC (cutF 10 [] t) [] 0 = ([], i, 7)) : pacA t = ([], i, 7) := by
  unfold pacA
  rw [if_neg h, h2, if_pos (show (7 : Int) ≠ 0 by decide)]
theorem pacA_cf (h : ¬ t.length > 60000) (h2 : parC (cutF 10 [] t) [] 0 = (L, 0, 0)) : pacA t = if ckTab L ≠ 0 then ([], 0, ckTab L) else (L, 0, 0) := by
  unfold pacA
  rw [if_neg h, h2, if_neg (fun hh => hh rfl)]
theorem pacA_7 (h : ¬ t.length > 60000) (h2 : pacG (lnsF t) [] 0 = ([], i, 7)) : pacA t = ([], i, 7) := pacA_7f h ((pacG_all t).symm.trans h2)
theorem pacA_c (h : ¬ t.length > 60000) (h2 : pacG (lnsF t) [] 0 = (L, 0, 0)) : pacA t = if ckTab L ≠ 0 then ([], 0, ckTab L) else (L, 0, 0) := pacA_cf h ((pacG_all t).symm.trans h2)
end
theorem lnc_get {ls : List Tx} {i : Nat} {p : Tx} (h : ls[i]? = some p) : ls.drop i = p :: ls.drop (i + 1) := drop_cons h
/-! ### As the reference reads -/
def wC (w : List Tx) (i : Nat) : Tx := (w[i]?).getD []
theorem wC_get {w : List Tx} {i : Nat} (h : i < w.length) : w[i]? = some (wC w i) := by
  unfold wC
  rw [List.getElem?_eq_getElem h]
  rfl
section
variable {p : Tx}
theorem lnC_5 (h : (cutF 32 [] p).length ≠ 5) : lnC p = none := by
  unfold lnC
  split
  · rename_i a b c d e hc
    rw [hc] at h
    exact absurd rfl h
  · rfl
theorem lnC_w (h : (cutF 32 [] p).length = 5) : lnC p = if wC (cutF 32 [] p) 0 = tTis then (match numM (wC (cutF 32 [] p) 1) 7, numM (wC (cutF 32 [] p) 2) 7, numM (wC (cutF 32 [] p) 3) 7, numM (wC (cutF 32 [] p) 4) 7 with
    | some n1, some n2, some n3, some n4 => some ⟨n1, n2, n3, n4⟩
    | _, _, _, _ => none) else none := by
  obtain ⟨a, b, c, d, e, hc⟩ := five3 h
  unfold lnC wC
  rw [hc]
  rfl
theorem lnC_a (h : (cutF 32 [] p).length = 5) (h2 : wC (cutF 32 [] p) 0 ≠ tTis) : lnC p = none := by rw [lnC_w h, if_neg h2]
theorem lnC_n (h : (cutF 32 [] p).length = 5) {i : Nat} (hi : i < 4) (h2 : (numM (wC (cutF 32 [] p) (i + 1)) 7).isSome = false) : lnC p = none := by
  rw [lnC_w h]
  have h3 : numM (wC (cutF 32 [] p) (i + 1)) 7 = none := by simpa using h2
  split
  · match i, hi with
    | 0, _ => rw [show numM (wC (cutF 32 [] p) 1) 7 = none from h3]
    | 1, _ => rw [show numM (wC (cutF 32 [] p) 2) 7 = none from h3]; cases numM (wC (cutF 32 [] p) 1) 7 <;> rfl
    | 2, _ => rw [show numM (wC (cutF 32 [] p) 3) 7 = none from h3]; cases numM (wC (cutF 32 [] p) 1) 7 <;> cases numM (wC (cutF 32 [] p) 2) 7 <;> rfl
    | 3, _ => rw [show numM (wC (cutF 32 [] p) 4) 7 = none from h3]; cases numM (wC (cutF 32 [] p) 1) 7 <;> cases numM (wC (cutF 32 [] p) 2) 7 <;> cases numM (wC (cutF 32 [] p) 3) 7 <;> rfl
  · rfl
theorem lnC_y (h : (cutF 32 [] p).length = 5) (h0 : wC (cutF 32 [] p) 0 = tTis) {z : Cp} (h1 : numM (wC (cutF 32 [] p) 1) 7 = some z.n) (h2 : numM (wC (cutF 32 [] p) 2) 7 = some z.h) (h3 : numM (wC (cutF 32 [] p) 3) 7 = some z.b) (h4 : numM (wC (cutF 32 [] p) 4) 7 = some z.s) : lnC p = some z := by
  rw [lnC_w h, if_pos h0, h1, h2, h3, h4]
end
theorem some_get3 {α : Type} {o : Option α} {d : α} (h : o.isSome = true) : o = some (o.getD d) := by
  cases o with
  | none => cases h
  | some a => rfl
section
variable {p q : Tx} {r ps : List Tx} {L : List Cp} {i : Int} {t : Tx}
theorem parC_y {z : Cp} (h : lnC p = some z) : parC (p :: q :: r) L i = parC (q :: r) (L ++ [z]) (i + 1) := by rw [parC, h]
theorem parC_n (h : lnC p = none) : parC (p :: q :: r) L i = ([], i + 1, 7) := by rw [parC, h]
theorem parC_0 : parC [] L i = (L, 0, 0) := by rw [parC]
theorem parC_1 : parC [[]] L i = (L, 0, 0) := by rw [parC, if_pos rfl]
theorem parC_2 (h : p ≠ []) : parC [p] L i = ([], i + 1, 7) := by rw [parC, if_neg h]
theorem dropc_two {ps : List Tx} {k : Nat} {p : Tx} (h : ps[k]? = some p) (h2 : k + 1 < ps.length) : ∃ q r, ps.drop k = p :: q :: r ∧ ps.drop (k + 1) = q :: r := by
  obtain ⟨q, hq⟩ : ∃ q, ps[k + 1]? = some q := ⟨_, List.getElem?_eq_getElem h2⟩
  exact ⟨q, ps.drop (k + 2), by rw [drop_cons h, drop_cons hq], drop_cons hq⟩
theorem dropc_last {ps : List Tx} {k : Nat} {p : Tx} (h : ps[k]? = some p) (h2 : ps.length ≤ k + 1) : ps.drop k = [p] := by rw [drop_cons h, List.drop_eq_nil_of_le h2]
end
theorem parC_len : ∀ (ps : List Tx) (L : List Cp) (i : Int), (parC ps L i).1.length ≤ L.length + ps.length
  | [], L, i => by rw [parC]; exact Nat.le_refl _
  | [p], L, i => by
    rw [parC]
    split
    · exact Nat.le_add_right _ _
    · exact Nat.zero_le _
  | p :: q :: t, L, i => by
    rw [parC]
    split
    · rename_i z _
      have := parC_len (q :: t) (L ++ [z]) (i + 1)
      simp only [List.length_append, List.length_cons, List.length_nil] at this ⊢
      omega
    · exact Nat.zero_le _
theorem pacA_len (t : Tx) : (pacA t).1.length ≤ t.length + 1 := by
  have h := parC_len (cutF 10 [] t) [] 0
  have h2 := cutF_cnt (m := 10) t []
  have h3 := cnt_le t 10
  simp only [List.length_nil, Nat.zero_add] at h
  unfold pacA
  split
  · exact Nat.zero_le _
  · split
    · omega
    · split
      · exact Nat.zero_le _
      · omega
/-! ### What is written -/
def nuC (y : Cp) : Nat → Int
  | 0 => y.n
  | 1 => y.h
  | 2 => y.b
  | _ => y.s
theorem nuC_cell (y : Cp) {j : Nat} (h : j < 4) : (cCp y)[(j : Int).toNat * 1]? = some (.int .i64 (nuC y j)) := by
  match j, h with
  | 0, _ => rfl
  | 1, _ => rfl
  | 2, _ => rfl
  | 3, _ => rfl
def ptC (y : Cp) : Nat → Tx
  | 0 => tTis
  | j + 1 => ptC y j ++ ([32] ++ Lib.itoa (nuC y j))
def cpA (L : List Cp) (k : Nat) : Cp := (L[k]?).getD ⟨0, 0, 0, 0⟩
theorem cpA_get {L : List Cp} {k : Nat} {y : Cp} (h : L[k]? = some y) : cpA L k = y := by unfold cpA; rw [h]; rfl
def pcK (L : List Cp) : Nat → Tx
  | 0 => []
  | k + 1 => pcK L k ++ (ptC (cpA L k) 4 ++ [10])
def pcT (L : List Cp) : Tx := pcK L L.length
def pcE (L : List Cp) : Tx := if ckTab L ≠ 0 then [] else pcT L
theorem pcE_1 {L : List Cp} (h : ckTab L ≠ 0) : pcE L = [] := if_pos h
theorem pcE_2 {L : List Cp} (h : ckTab L = 0) : pcE L = pcT L := if_neg (fun hh => hh h)
theorem pcK_s {L : List Cp} {k : Nat} {y : Cp} (h : L[k]? = some y) : pcK L k ++ ptC y 4 ++ [10] = pcK L (k + 1) := by
  rw [pcK, cpA_get h, List.append_assoc]
theorem ptC_s (t : Tx) (y : Cp) (j : Nat) : t ++ ptC y j ++ ([32] ++ Lib.itoa (nuC y j)) = t ++ ptC y (j + 1) := by rw [List.append_assoc]; rfl
theorem nuC_in {y : Cp} (h : okCp y) (j : Nat) : 0 ≤ nuC y j ∧ nuC y j ≤ 100000 := by
  obtain ⟨h1, h2, h3, h4, h5, h6, h7, h8⟩ := h
  match j with
  | 0 => exact ⟨by show 0 ≤ y.n; omega, h2⟩
  | 1 => exact ⟨by show 0 ≤ y.h; omega, h4⟩
  | 2 => exact ⟨h5, by show y.b ≤ _; omega⟩
  | j + 3 => exact ⟨by show 0 ≤ y.s; omega, by show y.s ≤ _; omega⟩
theorem nuC_len {y : Cp} (h : okCp y) (j : Nat) : (Lib.itoa (nuC y j)).length ≤ 21 := Lib.itoa_length_le _ (by have := nuC_in h j; omega) (by have := nuC_in h j; omega)
theorem ptC_len {y : Cp} (h : okCp y) : ∀ j, (ptC y j).length ≤ 6 + 22 * j
  | 0 => Nat.le_refl _
  | j + 1 => by
    have h1 := ptC_len h j
    have h2 := nuC_len h j
    rw [ptC, List.length_append, List.length_append, List.length_singleton]
    omega
theorem tab_ok {L : List Cp} (h : ckTab L = 0) : L.length ≤ 16 ∧ ∀ c ∈ L, okCp c := by
  have h1 := ckTab_yes9 h
  refine ⟨h1.2, ckCps_ok ?_⟩
  unfold ckTab at h
  rw [if_pos h1] at h
  exact h
theorem pcK_len {L : List Cp} (h : ∀ c ∈ L, okCp c) : ∀ k, k ≤ L.length → (pcK L k).length ≤ 95 * k
  | 0, _ => Nat.le_refl _
  | k + 1, hk => by
    obtain ⟨y, hy⟩ := get_some L (k := k) (by omega)
    have h3 := pcK_len h k (by omega)
    have h5 := ptC_len (h y (List.mem_of_getElem? hy)) 4
    rw [← pcK_s hy, List.length_append, List.length_append, List.length_singleton]
    omega
theorem pcT_len {L : List Cp} (h : ckTab L = 0) : (pcT L).length ≤ 60000 := by
  obtain ⟨h1, h2⟩ := tab_ok h
  have := pcK_len h2 L.length (Nat.le_refl _)
  unfold pcT
  omega
/-! ### What is written is read back -/
theorem decC_ne {n : Nat} {m : UInt8} (hm : m.toNat < 48) : ∀ c ∈ Lib.decDigits n, c ≠ m := fun c hc e => by
  have := (digs_all n).1 c hc
  subst e
  omega
theorem natC_itoa {v : Int} (h : 0 ≤ v) : Lib.itoa v = Lib.decDigits v.toNat := by
  obtain ⟨m, rfl⟩ := Int.eq_ofNat_of_zero_le h
  exact itoa_n m
theorem numC_seven {v : Int} (h : 0 ≤ v ∧ v ≤ 100000) : numM (Lib.itoa v) 7 = some v := by
  refine (itoa_num (d := 7) (by decide) ?_).1
  have h1 : (Lib.decDigits v.toNat).length ≤ 7 := digs_len (d := 7) (by omega) (by decide)
  rw [natC_itoa h.1]
  unfold Lib.trimPrefix
  split
  · rw [List.length_drop]; omega
  · exact h1
theorem ptC_4 (y : Cp) : ptC y 4 = tTis ++ 32 :: (Lib.itoa y.n ++ 32 :: (Lib.itoa y.h ++ 32 :: (Lib.itoa y.b ++ 32 :: Lib.itoa y.s))) := by
  show (((tTis ++ ([32] ++ Lib.itoa y.n)) ++ ([32] ++ Lib.itoa y.h)) ++ ([32] ++ Lib.itoa y.b)) ++ ([32] ++ Lib.itoa y.s) = _
  simp only [List.append_assoc, List.cons_append, List.nil_append]
theorem itoC_ne {v : Int} (h : 0 ≤ v) {m : UInt8} (hm : m.toNat < 48) : ∀ c ∈ Lib.itoa v, c ≠ m := by
  rw [natC_itoa h]
  exact decC_ne hm
theorem lnC_cut {y : Cp} (h : okCp y) : cutF 32 [] (ptC y 4) = [tTis, Lib.itoa y.n, Lib.itoa y.h, Lib.itoa y.b, Lib.itoa y.s] := by
  obtain ⟨h1, h2, h3, h4, h5, h6, h7, h8⟩ := h
  rw [ptC_4, cutF_at (by decide), cutF_at (itoC_ne (by omega) (by decide)), cutF_at (itoC_ne (by omega) (by decide)), cutF_at (itoC_ne (by omega) (by decide)), cutF_no (itoC_ne (by omega) (by decide))]
  rfl
theorem lnC_no {y : Cp} (h : okCp y) : ∀ c ∈ ptC y 4, c ≠ 10 := by
  obtain ⟨h1, h2, h3, h4, h5, h6, h7, h8⟩ := h
  rw [ptC_4]
  intro c hc
  simp only [List.mem_append, List.mem_cons] at hc
  rcases hc with hc | rfl | hc | rfl | hc | rfl | hc | rfl | hc
  · rcases hc with rfl | rfl | rfl | rfl | rfl | rfl | hc
    · decide
    · decide
    · decide
    · decide
    · decide
    · decide
    · cases hc
  · decide
  · exact itoC_ne (by omega) (by decide) c hc
  · decide
  · exact itoC_ne (by omega) (by decide) c hc
  · decide
  · exact itoC_ne (by omega) (by decide) c hc
  · decide
  · exact itoC_ne (by omega) (by decide) c hc
theorem lnC_read {y : Cp} (h : okCp y) : lnC (ptC y 4) = some y := by
  have h9 := h
  obtain ⟨h1, h2, h3, h4, h5, h6, h7, h8⟩ := h
  unfold lnC
  rw [lnC_cut h9]
  dsimp only
  rw [if_pos rfl, numC_seven (by omega), numC_seven (by omega), numC_seven (by omega), numC_seven (by omega)]
theorem pcK_cons {y : Cp} {L : List Cp} : ∀ k, pcK (y :: L) (k + 1) = (ptC y 4 ++ [10]) ++ pcK L k
  | 0 => by
    show [] ++ (ptC y 4 ++ [10]) = (ptC y 4 ++ [10]) ++ []
    rw [List.nil_append, List.append_nil]
  | k + 1 => by
    show pcK (y :: L) (k + 1) ++ (ptC (cpA (y :: L) (k + 1)) 4 ++ [10]) = (ptC y 4 ++ [10]) ++ (pcK L k ++ (ptC (cpA L k) 4 ++ [10]))
    rw [pcK_cons k, List.append_assoc]
    rfl
theorem parC_pr : ∀ {L A : List Cp} {i : Int}, (∀ c ∈ L, okCp c) → parC (cutF 10 [] (pcK L L.length)) A i = (A ++ L, 0, 0)
  | [], A, i, _ => by
    show parC [[]] A i = _
    rw [parC, if_pos rfl, List.append_nil]
  | y :: L, A, i, h => by
    have hy := h y List.mem_cons_self
    have e : cutF 10 [] (pcK (y :: L) (y :: L).length) = ptC y 4 :: cutF 10 [] (pcK L L.length) := by
      rw [List.length_cons, pcK_cons, List.append_assoc]
      show cutF 10 [] (ptC y 4 ++ 10 :: pcK L L.length) = _
      rw [cutF_at (lnC_no hy), List.nil_append]
    obtain ⟨q, t, hq⟩ : ∃ q t, cutF 10 [] (pcK L L.length) = q :: t := by
      cases hc : cutF 10 [] (pcK L L.length) with
      | nil =>
        have := cutF_ne (m := 10) (l := pcK L L.length) (cur := [])
        rw [hc] at this
        simp at this
      | cons q t => exact ⟨q, t, rfl⟩
    rw [e, hq, parC, lnC_read hy]
    dsimp only
    rw [← hq, parC_pr (fun c hc => h c (List.mem_cons_of_mem _ hc)), List.append_assoc]
    rfl
theorem pac_back {L : List Cp} (h : ckTab L = 0) : pacA (pcT L) = (L, 0, 0) := by
  have hS := (tab_ok h).2
  have e : parC (cutF 10 [] (pcT L)) [] 0 = (L, 0, 0) := by
    unfold pcT
    rw [parC_pr hS]
    rfl
  have h1 := pcT_len h
  rw [pacA_cf (by omega) e, if_neg (fun hh => hh h)]
theorem pc_line {L : List Cp} {k : Nat} {y : Cp} (h : L[k]? = some y) : pcK L k ++ [116, 105, 115, 115, 117, 101, 32] ++ Lib.itoa y.n ++ [32] ++ Lib.itoa y.h ++ [32] ++ Lib.itoa y.b ++ [32] ++ Lib.itoa y.s ++ [10] = pcK L (k + 1) := by
  rw [← pcK_s h, ptC_4]
  simp only [List.append_assoc, List.cons_append, List.nil_append]
theorem cp_snoc (L : List Cp) (z : Cp) : L.map cCp ++ [cCp z] = (L ++ [z]).map cCp := by rw [List.map_append]; rfl
def goC (ls : List Tx) (τ : Nat) : Bool := match ls[τ]? with
  | some p => (rdC p).isSome
  | none => false
theorem goC_at {ls : List Tx} {τ : Nat} {p : Tx} (h : ls[τ]? = some p) : goC ls τ = (rdC p).isSome := by unfold goC; rw [h]
abbrev nilC : Value := .slice none 0 0
theorem isSome_eq3 {α : Type} {o : Option α} {b : Bool} {z : α} (h : o.isSome = b) (hb : b = true) (hz : o.isSome = true → o = some z) : o = some z := hz (h.trans hb)
def PCtB (tC tI tE tS : TypeId) (ls : List Tx) (g2 g3 g4 g5 : Nat) (τ : Nat) (rc : List Res) : Prop := ∃ (L : List Cp) (A : Option Addr) (c : Nat), L.length = τ ∧ pacG ls [] 0 = pacG (ls.drop τ) L (τ : Int) ∧
  rc = [box g5 tS [.slice A (L.map cCp).length c], sl (.slice A (L.map cCp).length c) tC 4 (L.map cCp), box g2 tS [nilC], box g3 tI [.int .i64 0], box g4 tE [.int .i64 0]]
def PCpB (tS tI tE : TypeId) (ls : List Tx) (g2 g3 g4 : Nat) (τ : Nat) (rc : List Res) : Prop := pacG ls [] 0 = ([], (τ : Int) + 1, 7) ∧ rc = [box g2 tS [nilC], box g3 tI [.int .i64 ((τ : Int) + 1)], box g4 tE [.int .i64 7]]
def PcP (tC : TypeId) (X : Prc) (y : Value) (rs : List Res) : Prop := ∃ (A : Option Addr) (n c : Nat), y = .tuple #[.slice A n c, .int .i64 X.2.1, .int .i64 X.2.2] ∧ rs = [sl (.slice A n c) tC 4 (X.1.map cCp)]
theorem PcP_sinks {tC : TypeId} {X : Prc} : ∀ y rs, PcP tC X y rs → ∀ r ∈ rs, Sinks r := by
  rintro y rs ⟨A, n, c, _, rfl⟩ r hr
  rw [List.mem_singleton.1 hr]
  exact sl_sinks _ _ _ _
end Go.Proofs.YtacndicgpkeobaaGreatDoor
