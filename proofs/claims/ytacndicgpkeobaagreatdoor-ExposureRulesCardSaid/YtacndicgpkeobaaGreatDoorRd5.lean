/-
  The text of exposure's rules: as it is written, and as it is read, by the program and by the reference; what is written is read back. Conditions: those in front of each theorem; no program in sight.
-/
import Derived.Test.YtacndicgpkeobaaGreatDoorRd
import Derived.Test.YtacndicgpkeobaaGreatDoorArgP
import Derived.Lib.ItoaLen
namespace Go.Proofs.YtacndicgpkeobaaGreatDoor
open Go.RowKit
abbrev tOxy : Tx := [111, 120, 121, 103, 101, 110]
abbrev tLim : Tx := [108, 105, 109, 105, 116, 115]
abbrev tBre : Tx := [98, 114, 101, 97, 116, 104]
abbrev tEme : Tx := [101, 109, 101, 114, 103, 101, 110, 99, 121]
abbrev tRow : Tx := [114, 111, 119]
def hdW : Nat → Tx
  | 0 => tOxy
  | 1 => tLim
  | 2 => tBre
  | 3 => tEme
  | _ => tRow
def hdN : Nat → Nat
  | 0 => 2
  | 1 => 2
  | 2 => 1
  | 3 => 3
  | _ => 2
theorem hdW_4 {i : Nat} (h : 4 ≤ i) : hdW i = tRow := by
  match i, h with
  | i + 4, _ => rfl
theorem hdN_4 {i : Nat} (h : 4 ≤ i) : hdN i = 2 := by
  match i, h with
  | i + 4, _ => rfl
def nsL : List Tx → Option (List Int)
  | [] => some []
  | a :: t => match numM a 7, nsL t with
    | some n, some l => some (n :: l)
    | _, _ => none
theorem nsL_len : ∀ {t : List Tx} {l : List Int}, nsL t = some l → l.length = t.length
  | [], l, h => by
    rw [nsL, Option.some.injEq] at h
    subst h
    rfl
  | a :: t, l, h => by
    rw [nsL] at h
    split at h
    · rename_i n l9 h1 h2
      rw [Option.some.injEq] at h
      subst h
      rw [List.length_cons, List.length_cons, nsL_len h2]
    · cases h
theorem nsL_no : ∀ {t : List Tx} {i : Nat} {a : Tx}, t[i]? = some a → numM a 7 = none → nsL t = none
  | [], i, a, h, _ => by simp at h
  | b :: t, 0, a, h, h2 => by
    simp at h
    subst h
    rw [nsL, h2]
  | b :: t, i + 1, a, h, h2 => by
    have h3 := nsL_no (t := t) (i := i) (by simpa using h) h2
    rw [nsL, h3]
    cases numM b 7 <;> rfl
theorem nsL_app : ∀ {t : List Tx} {l : List Int} {a : Tx} {n : Int}, nsL t = some l → numM a 7 = some n → nsL (t ++ [a]) = some (l ++ [n])
  | [], l, a, n, h, h2 => by
    rw [nsL, Option.some.injEq] at h
    subst h
    show nsL [a] = _
    rw [nsL, h2]
    rfl
  | b :: t, l, a, n, h, h2 => by
    rw [nsL] at h
    split at h
    · rename_i m l9 h3 h4
      rw [Option.some.injEq] at h
      subst h
      show nsL (b :: (t ++ [a])) = _
      rw [nsL, h3, nsL_app h4 h2]
      rfl
    · cases h
def rdN (w : Tx) (c : Nat) (p : Tx) : Option (List Int) := match cutF 32 [] p with
  | a :: t => if t.length = c ∧ a = w then nsL t else none
  | [] => none
section
variable {w p : Tx} {c : Nat}
theorem pcs_hd (p : Tx) : ∃ a t, cutF 32 [] p = a :: t := by
  cases hc : cutF 32 [] p with
  | nil => have := cutF_ne (m := 32) (l := p) (cur := []); rw [hc] at this; cases this
  | cons a t => exact ⟨a, t, rfl⟩
theorem rdN_1 (h : (cutF 32 [] p).length ≠ c + 1) : rdN w c p = none := by
  obtain ⟨a, t, e⟩ := pcs_hd p
  unfold rdN
  rw [e] at h ⊢
  exact if_neg fun hh => h (by rw [List.length_cons, hh.1])
theorem rdN_2 {a : Tx} {t : List Tx} (e : cutF 32 [] p = a :: t) (h : a ≠ w) : rdN w c p = none := by
  unfold rdN
  rw [e]
  exact if_neg fun hh => h hh.2
theorem rdN_3 {a : Tx} {t : List Tx} (e : cutF 32 [] p = a :: t) (h : (cutF 32 [] p).length = c + 1) (h2 : a = w) : rdN w c p = nsL t := by
  unfold rdN
  rw [e] at h ⊢
  exact if_pos ⟨by simpa using h, h2⟩
theorem rdN_len {ns : List Int} (h : rdN w c p = some ns) : ns.length = c := by
  obtain ⟨a, t, e⟩ := pcs_hd p
  unfold rdN at h
  rw [e] at h
  dsimp only at h
  by_cases h2 : t.length = c ∧ a = w
  · rw [if_pos h2] at h
    rw [nsL_len h, h2.1]
  · rw [if_neg h2] at h
    cases h
end
def rdU (w : Tx) (c : Nat) (l : Tx) : Option (List Int) := if lnE l = true then rdN w c (lnB l) else none
theorem rdU_0 {w l : Tx} {c : Nat} (h : ¬ lnE l = true) : rdU w c l = none := if_neg h
theorem rdU_1 {w l : Tx} {c : Nat} (h : lnE l = true) : rdU w c l = rdN w c (lnB l) := if_pos h
def nAt (ns : List Int) (j : Nat) : Int := (ns[j]?).getD 0
def upR (i : Nat) (ns : List Int) (r : Ru) : Ru := match i with
  | 0 => { r with lo := nAt ns 0, hi := nAt ns 1 }
  | 1 => { r with na := nAt ns 0, de := nAt ns 1 }
  | 2 => { r with br := nAt ns 0 }
  | 3 => { r with em := nAt ns 0, pa := nAt ns 1, ac := nAt ns 2 }
  | _ => { r with tb := r.tb ++ [⟨nAt ns 0, nAt ns 1⟩] }
theorem upR_4 {i : Nat} (h : 4 ≤ i) (ns : List Int) (r : Ru) : upR i ns r = { r with tb := r.tb ++ [⟨nAt ns 0, nAt ns 1⟩] } := by
  match i, h with
  | i + 4, _ => rfl
abbrev zRu : Ru := ⟨[], 0, 0, 0, 0, 0, 0, 0, 0⟩
abbrev PrU := Ru × Int × Int
def parU : List Tx → Nat → Ru → PrU
  | [], _, r => (r, 0, 0)
  | [p], i, r => if 4 ≤ i ∧ p = [] then (r, 0, 0) else (zRu, (i : Int) + 1, 7)
  | p :: q :: t, i, r => match rdN (hdW i) (hdN i) p with
    | some ns => parU (q :: t) (i + 1) (upR i ns r)
    | none => (zRu, (i : Int) + 1, 7)
def pauG : List Tx → Nat → Ru → PrU
  | [], i, r => if i < 4 then (zRu, (i : Int) + 1, 7) else (r, 0, 0)
  | p :: t, i, r => match rdU (hdW i) (hdN i) p with
    | some ns => pauG t (i + 1) (upR i ns r)
    | none => (zRu, (i : Int) + 1, 7)
def pauA (t : Tx) : PrU :=
  if t.length > 60000 then (zRu, 0, 8) else
  if (parU (cutF 10 [] t) 0 zRu).2.2 ≠ 0 then parU (cutF 10 [] t) 0 zRu else
  if ckRu (parU (cutF 10 [] t) 0 zRu).1 ≠ 0 then (zRu, 0, ckRu (parU (cutF 10 [] t) 0 zRu).1) else parU (cutF 10 [] t) 0 zRu
theorem pauG_s {p : Tx} {t : List Tx} {r : Ru} {i : Nat} {ns : List Int} (h : rdU (hdW i) (hdN i) p = some ns) : pauG (p :: t) i r = pauG t (i + 1) (upR i ns r) := by rw [pauG, h]
theorem pauG_e {p : Tx} {t : List Tx} {r : Ru} {i : Nat} (h : (rdU (hdW i) (hdN i) p).isSome = false) : pauG (p :: t) i r = (zRu, (i : Int) + 1, 7) := by
  rw [pauG]
  cases hr : rdU (hdW i) (hdN i) p with
  | none => rfl
  | some z => rw [hr] at h; cases h
theorem pauG_F : ∀ (ps : List Tx) (i : Nat) (r : Ru), 1 ≤ ps.length → (∀ p ∈ ps, ∀ c ∈ p, c ≠ 10) → pauG (lnsP ps) i r = parU ps i r
  | [], i, r, h0, _ => by cases h0
  | [p], i, r, _, h => by
    rw [lnsP, parU]
    by_cases h0 : p = []
    · rw [if_pos h0, pauG]
      by_cases h4 : i < 4
      · rw [if_pos h4, if_neg (fun hh => by omega)]
      · rw [if_neg h4, if_pos ⟨by omega, h0⟩]
    · rw [if_neg h0, if_neg (fun hh => h0 hh.2)]
      refine pauG_e ?_
      rw [rdU_0 (by rw [lnE_no (h p (by simp))]; decide)]
      rfl
  | p :: q :: t, i, r, _, h => by
    have hr : rdU (hdW i) (hdN i) (p ++ [10]) = rdN (hdW i) (hdN i) p := by
      obtain ⟨h1, h2⟩ := lnE_app p
      rw [rdU_1 h1, h2]
    rw [lnsP, parU, pauG, hr]
    cases rdN (hdW i) (hdN i) p with
    | none => rfl
    | some z => exact pauG_F (q :: t) _ _ (by simp) fun x hx => h x (List.mem_cons_of_mem _ hx)
theorem pauG_all (t : Tx) : pauG (lnsF t) 0 zRu = parU (cutF 10 [] t) 0 zRu := pauG_F _ _ _ cutF_ne (cutF_all t [] (fun _ h => by cases h))
section
variable {t : Tx} {r : Ru} {i : Int}
theorem pauA_8 (h : t.length > 60000) : pauA t = (zRu, 0, 8) := if_pos h
theorem pauA_7f (h : ¬ t.length > 60000) (h2 : parU (cutF 10 [] t) 0 zRu = (zRu, i, 7)) : pauA t = (zRu, i, 7) := by
  unfold pauA
  rw [if_neg h, h2, if_pos (show (7 : Int) ≠ 0 by decide)]
theorem pauA_cf (h : ¬ t.length > 60000) (h2 : parU (cutF 10 [] t) 0 zRu = (r, 0, 0)) : pauA t = if ckRu r ≠ 0 then (zRu, 0, ckRu r) else (r, 0, 0) := by
  unfold pauA
  rw [if_neg h, h2, if_neg (fun hh => hh rfl)]
theorem pauA_7 (h : ¬ t.length > 60000) (h2 : pauG (lnsF t) 0 zRu = (zRu, i, 7)) : pauA t = (zRu, i, 7) := pauA_7f h ((pauG_all t).symm.trans h2)
theorem pauA_c (h : ¬ t.length > 60000) (h2 : pauG (lnsF t) 0 zRu = (r, 0, 0)) : pauA t = if ckRu r ≠ 0 then (zRu, 0, ckRu r) else (r, 0, 0) := pauA_cf h ((pauG_all t).symm.trans h2)
end
section
variable {p q : Tx} {r ps : List Tx} {x : Ru} {i : Nat}
theorem parU_y {ns : List Int} (h : rdN (hdW i) (hdN i) p = some ns) : parU (p :: q :: r) i x = parU (q :: r) (i + 1) (upR i ns x) := by rw [parU, h]
theorem parU_n (h : rdN (hdW i) (hdN i) p = none) : parU (p :: q :: r) i x = (zRu, (i : Int) + 1, 7) := by rw [parU, h]
theorem parU_0 : parU [] i x = (x, 0, 0) := by rw [parU]
theorem parU_1 (h : 4 ≤ i) : parU [[]] i x = (x, 0, 0) := by rw [parU, if_pos ⟨h, rfl⟩]
theorem parU_2 (h : ¬ (4 ≤ i ∧ p = [])) : parU [p] i x = (zRu, (i : Int) + 1, 7) := by rw [parU, if_neg h]
end
theorem upR_tb (i : Nat) (ns : List Int) (r : Ru) : (upR i ns r).tb.length ≤ r.tb.length + 1 := by
  unfold upR
  split <;> simp
theorem parU_len : ∀ (ps : List Tx) (i : Nat) (r : Ru), (parU ps i r).1.tb.length ≤ r.tb.length + ps.length
  | [], i, r => by rw [parU]; exact Nat.le_refl _
  | [p], i, r => by
    rw [parU]
    split
    · exact Nat.le_add_right _ _
    · exact Nat.zero_le _
  | p :: q :: t, i, r => by
    rw [parU]
    split
    · rename_i ns _
      have h1 := parU_len (q :: t) (i + 1) (upR i ns r)
      have h2 := upR_tb i ns r
      simp only [List.length_cons] at h1 ⊢
      omega
    · exact Nat.zero_le _
theorem pauA_len (t : Tx) : (pauA t).1.tb.length ≤ t.length + 1 := by
  have h := parU_len (cutF 10 [] t) 0 zRu
  have h2 := cutF_cnt (m := 10) t []
  have h3 := cnt_le t 10
  simp only [List.length_nil, Nat.zero_add] at h
  unfold pauA
  split
  · exact Nat.zero_le _
  · split
    · omega
    · split
      · exact Nat.zero_le _
      · omega
/-! ### What is written -/
def nsT : List Int → Tx
  | [] => []
  | n :: t => ([32] ++ Lib.itoa n) ++ nsT t
def lnU (w : Tx) (ns : List Int) : Tx := w ++ nsT ns ++ [10]
theorem nsT_app : ∀ (a b : List Int), nsT (a ++ b) = nsT a ++ nsT b
  | [], b => rfl
  | n :: a, b => by rw [List.cons_append, nsT, nsT, nsT_app a b, List.append_assoc, List.append_assoc, List.append_assoc]
theorem nsT_one (n : Int) : nsT [n] = [32] ++ Lib.itoa n := by rw [nsT, nsT, List.append_nil]
theorem nsT_s {w : Tx} {ns : List Int} {k : Nat} {n : Int} (h : ns[k]? = some n) : w ++ nsT (ns.take k) ++ ([32] ++ Lib.itoa n) = w ++ nsT (ns.take (k + 1)) := by
  rw [List.take_add_one, h, Option.toList_some, nsT_app, nsT_one, List.append_assoc]
def okN (ns : List Int) : Prop := ∀ n ∈ ns, 0 ≤ n ∧ n ≤ 100000
theorem itU_len {n : Int} (h : 0 ≤ n ∧ n ≤ 100000) : (Lib.itoa n).length ≤ 21 := Lib.itoa_length_le _ (by omega) (by omega)
theorem nsT_len : ∀ {ns : List Int}, okN ns → (nsT ns).length ≤ 22 * ns.length
  | [], _ => Nat.le_refl _
  | n :: t, h => by
    have h1 := nsT_len (ns := t) fun x hx => h x (List.mem_cons_of_mem _ hx)
    have h2 := itU_len (h n List.mem_cons_self)
    rw [nsT, List.length_append, List.length_append, List.length_singleton, List.length_cons]
    omega
theorem nsT_take {ns : List Int} (h : okN ns) (k : Nat) : (nsT (ns.take k)).length ≤ 22 * ns.length := by
  have h1 := nsT_len (ns := ns.take k) fun x hx => h x (List.mem_of_mem_take hx)
  rw [List.length_take] at h1
  omega
def owN (x : Ow) : List Int := [x.f, x.r]
def rwK (tb : List Ow) : Nat → Tx
  | 0 => []
  | k + 1 => rwK tb k ++ lnU tRow (owN (owAt tb k))
def hdN9 (r : Ru) : Nat → List Int
  | 0 => [r.lo, r.hi]
  | 1 => [r.na, r.de]
  | 2 => [r.br]
  | _ => [r.em, r.pa, r.ac]
def hdK (r : Ru) : Nat → Tx
  | 0 => []
  | k + 1 => hdK r k ++ lnU (hdW k) (hdN9 r k)
def prU (r : Ru) : Tx := hdK r 4 ++ rwK r.tb r.tb.length
def prUE (r : Ru) : Tx := if ckRu r ≠ 0 then [] else prU r
theorem prUE_1 {r : Ru} (h : ckRu r ≠ 0) : prUE r = [] := if_pos h
theorem prUE_2 {r : Ru} (h : ckRu r = 0) : prUE r = prU r := if_neg (fun hh => hh h)
theorem hdN9_ok {r : Ru} (H : okRu r) (k : Nat) : okN (hdN9 r k) := by
  have h1 := H.li; have h2 := H.na; have h3 := H.de; have h4 := H.br; have h5 := H.em; have h6 := H.pa; have h7 := H.ac
  intro n hn
  match k with
  | 0 => simp only [hdN9, List.mem_cons, List.not_mem_nil, or_false] at hn; omega
  | 1 => simp only [hdN9, List.mem_cons, List.not_mem_nil, or_false] at hn; omega
  | 2 => simp only [hdN9, List.mem_cons, List.not_mem_nil, or_false] at hn; omega
  | k + 3 => simp only [hdN9, List.mem_cons, List.not_mem_nil, or_false] at hn; omega
theorem owN_ok {r : Ru} (H : okRu r) {k : Nat} (h : k < r.tb.length) : okN (owN (owAt r.tb k)) := by
  have h1 := H.tb.r k h
  intro n hn
  simp only [owN, List.mem_cons, List.not_mem_nil, or_false] at hn
  omega
theorem hdW_len (k : Nat) : (hdW k).length ≤ 9 := by
  match k with
  | 0 => decide
  | 1 => decide
  | 2 => decide
  | 3 => decide
  | k + 4 => exact (by decide : (3 : Nat) ≤ 9)
theorem lnU_len {w : Tx} {ns : List Int} (h : okN ns) (hn : ns.length ≤ 3) (hw : w.length ≤ 9) : (lnU w ns).length ≤ 76 := by
  have := nsT_len h
  unfold lnU
  rw [List.length_append, List.length_append, List.length_singleton]
  omega
theorem hdN9_len (r : Ru) (k : Nat) : (hdN9 r k).length ≤ 3 := by
  match k with
  | 0 => exact (by decide : (2 : Nat) ≤ 3)
  | 1 => exact (by decide : (2 : Nat) ≤ 3)
  | 2 => exact (by decide : (1 : Nat) ≤ 3)
  | k + 3 => exact Nat.le_refl 3
theorem hdK_len {r : Ru} (H : okRu r) : ∀ k, (hdK r k).length ≤ 76 * k
  | 0 => Nat.le_refl _
  | k + 1 => by
    have h1 := hdK_len H k
    have h2 := lnU_len (hdN9_ok H k) (hdN9_len r k) (hdW_len k)
    rw [hdK, List.length_append]
    omega
theorem rwK_len {r : Ru} (H : okRu r) : ∀ k, k ≤ r.tb.length → (rwK r.tb k).length ≤ 76 * k
  | 0, _ => Nat.le_refl _
  | k + 1, hk => by
    have h1 := rwK_len H k (by omega)
    have h2 := lnU_len (w := tRow) (owN_ok H (k := k) (by omega)) (show 2 ≤ 3 by decide) (by decide)
    rw [rwK, List.length_append]
    omega
theorem prU_len {r : Ru} (H : okRu r) : (prU r).length ≤ 60000 := by
  have h1 := hdK_len H 4
  have h2 := rwK_len H r.tb.length (Nat.le_refl _)
  have h3 := H.tb.n
  unfold prU
  rw [List.length_append]
  omega
/-! ### What is written is read back -/
theorem itU_ne {v : Int} (h : 0 ≤ v) {m : UInt8} (hm : m.toNat < 48) : ∀ c ∈ Lib.itoa v, c ≠ m := by
  obtain ⟨n, rfl⟩ := Int.eq_ofNat_of_zero_le h
  rw [itoa_n]
  intro c hc e
  have := (digs_all n).1 c hc
  subst e
  omega
theorem itU_num {v : Int} (h : 0 ≤ v ∧ v ≤ 100000) : numM (Lib.itoa v) 7 = some v := by
  refine (itoa_num (d := 7) (by decide) ?_).1
  have h1 : (Lib.decDigits v.toNat).length ≤ 7 := digs_len (d := 7) (by omega) (by decide)
  have h2 : Lib.itoa v = Lib.decDigits v.toNat := by
    obtain ⟨n, rfl⟩ := Int.eq_ofNat_of_zero_le h.1
    exact itoa_n n
  rw [h2]
  unfold Lib.trimPrefix
  split
  · rw [List.length_drop]; omega
  · exact h1
theorem nsT_cut : ∀ {ns : List Int} {w : Tx}, (∀ c ∈ w, c ≠ 32) → okN ns → cutF 32 [] (w ++ nsT ns) = w :: ns.map Lib.itoa
  | [], w, hw, _ => by
    show cutF 32 [] (w ++ []) = [w]
    rw [List.append_nil, cutF_no hw]
    rfl
  | n :: t, w, hw, h => by
    show cutF 32 [] (w ++ (32 :: Lib.itoa n ++ nsT t)) = _
    rw [List.cons_append, cutF_at hw, List.nil_append, nsT_cut (itU_ne (h n List.mem_cons_self).1 (by decide)) fun x hx => h x (List.mem_cons_of_mem _ hx)]
    rfl
theorem nsL_map : ∀ {ns : List Int}, okN ns → nsL (ns.map Lib.itoa) = some ns
  | [], _ => rfl
  | n :: t, h => by
    rw [List.map_cons, nsL, itU_num (h n List.mem_cons_self), nsL_map fun x hx => h x (List.mem_cons_of_mem _ hx)]
theorem rdN_pr {w : Tx} {ns : List Int} (hw : ∀ c ∈ w, c ≠ 32) (h : okN ns) : rdN w ns.length (w ++ nsT ns) = some ns := by
  unfold rdN
  rw [nsT_cut hw h]
  exact (if_pos ⟨List.length_map _, rfl⟩).trans (nsL_map h)
theorem nsT_no : ∀ {ns : List Int}, okN ns → ∀ c ∈ nsT ns, c ≠ 10
  | [], _, c, hc => by cases hc
  | n :: t, h, c, hc => by
    rw [nsT] at hc
    rcases List.mem_append.1 hc with hc | hc
    · rcases List.mem_append.1 hc with hc | hc
      · rw [List.mem_singleton.1 hc]; decide
      · exact itU_ne (h n List.mem_cons_self).1 (by decide) c hc
    · exact nsT_no (fun x hx => h x (List.mem_cons_of_mem _ hx)) c hc
theorem cut_lnU {w : Tx} {ns : List Int} {r : Tx} (hw : ∀ c ∈ w, c ≠ 10) (h : okN ns) : cutF 10 [] (lnU w ns ++ r) = (w ++ nsT ns) :: cutF 10 [] r := by
  unfold lnU
  rw [List.append_assoc]
  show cutF 10 [] (w ++ nsT ns ++ 10 :: r) = _
  rw [cutF_at (fun c hc => (List.mem_append.1 hc).elim (hw c) (nsT_no h c)), List.nil_append]
def rwD : List Ow → Tx
  | [] => []
  | x :: t => lnU tRow (owN x) ++ rwD t
theorem rwK_cons {x : Ow} {t : List Ow} : ∀ k, rwK (x :: t) (k + 1) = lnU tRow (owN x) ++ rwK t k
  | 0 => by
    show [] ++ lnU tRow (owN x) = lnU tRow (owN x) ++ []
    rw [List.nil_append, List.append_nil]
  | k + 1 => by
    show rwK (x :: t) (k + 1) ++ lnU tRow (owN (owAt (x :: t) (k + 1))) = lnU tRow (owN x) ++ (rwK t k ++ lnU tRow (owN (owAt t k)))
    rw [rwK_cons k, List.append_assoc]
    rfl
theorem rwK_D : ∀ t : List Ow, rwK t t.length = rwD t
  | [] => rfl
  | x :: t => by rw [List.length_cons, rwK_cons, rwK_D t]; rfl
theorem par_rows : ∀ {t : List Ow} {i : Nat} {r : Ru}, 4 ≤ i → (∀ x ∈ t, okN (owN x)) → parU (cutF 10 [] (rwD t)) i r = ({ r with tb := r.tb ++ t }, 0, 0)
  | [], i, r, hi, _ => by
    show parU [[]] i r = _
    rw [parU_1 hi, List.append_nil]
  | x :: t, i, r, hi, h => by
    have hx := h x List.mem_cons_self
    obtain ⟨q, s, hq⟩ : ∃ q s, cutF 10 [] (rwD t) = q :: s := by
      cases hc : cutF 10 [] (rwD t) with
      | nil => have := cutF_ne (m := 10) (l := rwD t) (cur := []); rw [hc] at this; cases this
      | cons q s => exact ⟨q, s, rfl⟩
    have e : rdN (hdW i) (hdN i) (tRow ++ nsT (owN x)) = some (owN x) := by
      rw [hdW_4 hi, hdN_4 hi]
      exact rdN_pr (by decide) hx
    show parU (cutF 10 [] (lnU tRow (owN x) ++ rwD t)) i r = _
    rw [cut_lnU (by decide) hx, hq, parU_y e, ← hq, par_rows (by omega) (fun y hy => h y (List.mem_cons_of_mem _ hy)), upR_4 hi]
    dsimp only
    rw [List.append_assoc]
    rfl
theorem prU_par {r : Ru} (H : okRu r) : parU (cutF 10 [] (prU r)) 0 zRu = (r, 0, 0) := by
  have hk := fun k => hdN9_ok H k
  have hrow : ∀ x ∈ r.tb, okN (owN x) := fun x hx => by
    obtain ⟨k, hk, e⟩ := List.mem_iff_getElem.1 hx
    have := owN_ok H (k := k) hk
    rw [owAt_get (by rw [List.getElem?_eq_getElem hk, e])] at this
    exact this
  have e0 : prU r = lnU tOxy [r.lo, r.hi] ++ (lnU tLim [r.na, r.de] ++ (lnU tBre [r.br] ++ (lnU tEme [r.em, r.pa, r.ac] ++ rwD r.tb))) := by
    unfold prU
    rw [rwK_D]
    show ((((([] ++ lnU tOxy [r.lo, r.hi]) ++ lnU tLim [r.na, r.de]) ++ lnU tBre [r.br]) ++ lnU tEme [r.em, r.pa, r.ac]) ++ rwD r.tb) = _
    simp only [List.nil_append, List.append_assoc]
  obtain ⟨q, s, hq⟩ : ∃ q s, cutF 10 [] (rwD r.tb) = q :: s := by
    cases hc : cutF 10 [] (rwD r.tb) with
    | nil => have := cutF_ne (m := 10) (l := rwD r.tb) (cur := []); rw [hc] at this; cases this
    | cons q s => exact ⟨q, s, rfl⟩
  rw [e0, cut_lnU (w := tOxy) (ns := [r.lo, r.hi]) (by decide) (hk 0), cut_lnU (w := tLim) (ns := [r.na, r.de]) (by decide) (hk 1), cut_lnU (w := tBre) (ns := [r.br]) (by decide) (hk 2), cut_lnU (w := tEme) (ns := [r.em, r.pa, r.ac]) (by decide) (hk 3),
    parU_y (i := 0) (rdN_pr (w := tOxy) (ns := [r.lo, r.hi]) (by decide) (hk 0)), parU_y (i := 1) (rdN_pr (w := tLim) (ns := [r.na, r.de]) (by decide) (hk 1)), parU_y (i := 2) (rdN_pr (w := tBre) (ns := [r.br]) (by decide) (hk 2)), hq, parU_y (i := 3) (rdN_pr (w := tEme) (ns := [r.em, r.pa, r.ac]) (by decide) (hk 3)), ← hq,
    par_rows (by decide) hrow]
  rfl
theorem pau_back {r : Ru} (h : ckRu r = 0) : pauA (prU r) = (r, 0, 0) := by
  have H := ckRu_ok h
  have h1 := prU_len H
  rw [pauA_cf (by omega) (prU_par H), if_neg (fun hh => hh h)]
theorem ow_snoc (L : List Ow) (z : Ow) : L.map cOw ++ [cOw z] = (L ++ [z]).map cOw := by rw [List.map_append]; rfl
theorem dropu_two {ps : List Tx} {k : Nat} {p : Tx} (h : ps[k]? = some p) (h2 : k + 1 < ps.length) : ∃ q r, ps.drop k = p :: q :: r ∧ ps.drop (k + 1) = q :: r := by
  obtain ⟨q, hq⟩ : ∃ q, ps[k + 1]? = some q := ⟨_, List.getElem?_eq_getElem h2⟩
  exact ⟨q, ps.drop (k + 2), by rw [drop_cons h, drop_cons hq], drop_cons hq⟩
theorem dropu_last {ps : List Tx} {k : Nat} {p : Tx} (h : ps[k]? = some p) (h2 : ps.length ≤ k + 1) : ps.drop k = [p] := by rw [drop_cons h, List.drop_eq_nil_of_le h2]
theorem takeU_one {q : List Tx} {k : Nat} {b : Tx} (h : q[k]? = some b) : q.take (k + 1) = q.take k ++ [b] := by rw [List.take_add_one, h]; rfl
theorem cu_snoc (L : List Int) (z : Int) : L.map cI ++ [[.int .i64 z]] = (L ++ [z]).map cI := by rw [List.map_append]; rfl
theorem parU_er {ps : List Tx} {k : Nat} {p : Tx} {r : Ru} (hp : ps[k]? = some p) (h : (rdN (hdW k) (hdN k) p).isSome = false ∨ ps.length ≤ k + 1) (h2 : ¬ (4 ≤ k ∧ ps.length ≤ k + 1 ∧ p = [])) : parU (ps.drop k) k r = (zRu, (k : Int) + 1, 7) := by
  by_cases h3 : k + 1 < ps.length
  · obtain ⟨q, s, e, _⟩ := dropu_two hp h3
    rw [e]
    refine parU_n ?_
    rcases h with h | h
    · simpa using h
    · omega
  · rw [dropu_last hp (by omega)]
    exact parU_2 fun hh => h2 ⟨hh.1, by omega, hh.2⟩
theorem twoU_of {ns : List Int} (h : ns.length = 2) : ∃ a b, ns = [a, b] := by
  match ns, h with
  | [a, b], _ => exact ⟨a, b, rfl⟩
theorem oneU_of {ns : List Int} (h : ns.length = 1) : ∃ a, ns = [a] := by
  match ns, h with
  | [a], _ => exact ⟨a, rfl⟩
theorem threeU_of {ns : List Int} (h : ns.length = 3) : ∃ a b c, ns = [a, b, c] := by
  match ns, h with
  | [a, b, c], _ => exact ⟨a, b, c, rfl⟩
theorem isS_get {α : Type} {o : Option α} (h : o.isSome = true) : ∃ a, o = some a := Option.isSome_iff_exists.1 h
def RnP (tI : TypeId) (w : Tx) (c : Nat) (p : Tx) (y : Value) (rs : List Res) : Prop := ∃ (A : Option Addr) (n d : Nat), y = .tuple #[.slice A n d, .bool (rdN w c p).isSome] ∧ rs = [sl (.slice A n d) tI 1 (((rdN w c p).getD []).map cI)]
theorem RnP_sinks {tI : TypeId} {w : Tx} {c : Nat} {p : Tx} : ∀ y rs, RnP tI w c p y rs → ∀ r ∈ rs, Sinks r := by
  rintro y rs ⟨A, n, d, _, rfl⟩ r hr
  rw [List.mem_singleton.1 hr]
  exact sl_sinks _ _ _ _
def goU (ls : List Tx) (τ : Nat) : Bool := match ls[τ]? with
  | some p => (rdU (hdW τ) (hdN τ) p).isSome
  | none => false
theorem goU_at {ls : List Tx} {τ : Nat} {p : Tx} (h : ls[τ]? = some p) : goU ls τ = (rdU (hdW τ) (hdN τ) p).isSome := by unfold goU; rw [h]
abbrev nilU : Value := .slice none 0 0
theorem lnu_get {ls : List Tx} {i : Nat} {p : Tx} (h : ls[i]? = some p) : ls.drop i = p :: ls.drop (i + 1) := drop_cons h
def PuP (tO : TypeId) (X : PrU) (y : Value) (rs : List Res) : Prop := ∃ (A : Option Addr) (n c : Nat), y = .tuple #[.agg (cRu (.slice A n c) X.1).toArray, .int .i64 X.2.1, .int .i64 X.2.2] ∧ rs = [sl (.slice A n c) tO 2 (X.1.tb.map cOw)]
theorem PuP_sinks {tO : TypeId} {X : PrU} : ∀ y rs, PuP tO X y rs → ∀ r ∈ rs, Sinks r := by
  rintro y rs ⟨A, n, c, _, rfl⟩ r hr
  rw [List.mem_singleton.1 hr]
  exact sl_sinks _ _ _ _
end Go.Proofs.YtacndicgpkeobaaGreatDoor
