/-
  Plain models of chapter 3: what the functions compute, on numbers and lists. Conditions: none; no program in sight.
-/
namespace Go.Proofs.Ytfhfadfnbnliiaa

def upZ (n b : Int) : Int := (n + b - 1) / b
def firstE : List Int → Int
  | [] => 0
  | e :: t => if e = 0 then firstE t else e
def ckGas (o h : Int) : Int := if ¬ (0 ≤ o ∧ o ≤ 1000 ∧ 0 ≤ h ∧ h ≤ 1000) then 2 else if o + h > 1000 then 23 else 0
structure Cp where
  n : Int
  h : Int
  b : Int
  s : Int
structure Rg where
  lo : Int
  hi : Int
structure Ld where
  n : Rg
  h : Rg
structure Gs where
  o : Int
  h : Int
structure Lg where
  f : Int
  t : Int
  s : Int
  g : Gs
def okCp (c : Cp) : Prop := 1 ≤ c.n ∧ c.n ≤ 100000 ∧ 1 ≤ c.h ∧ c.h ≤ 100000 ∧ 0 ≤ c.b ∧ c.b ≤ 10000 ∧ 1000 ≤ c.s ∧ c.s ≤ 10000
instance (c : Cp) : Decidable (okCp c) := by unfold okCp; infer_instance
def ckCps : List Cp → Int
  | [] => 0
  | c :: t => if okCp c then ckCps t else 2
def ckTab (ts : List Cp) : Int := if 1 ≤ ts.length ∧ ts.length ≤ 16 then ckCps ts else 10
def ckSpan (r : Rg) : Int := if 0 ≤ r.lo ∧ r.lo ≤ 100000000 ∧ 0 ≤ r.hi ∧ r.hi ≤ 100000000 then 0 else 2
def ckLd (l : Ld) : Int := if ckSpan l.n ≠ 0 ∨ ckSpan l.h ≠ 0 then 2 else if l.n.lo > l.n.hi ∨ l.h.lo > l.h.hi then 9 else 0
def ckLds : List Ld → Int
  | [] => 0
  | l :: t => if ckLd l ≠ 0 then ckLd l else ckLds t
def ckLoads (ts : List Cp) (ls : List Ld) : Int := if ckTab ts ≠ 0 then ckTab ts else if ls.length ≠ ts.length then 10 else ckLds ls
def okPr (p : Int) : Prop := 400 ≤ p ∧ p ≤ 31100
instance (p : Int) : Decidable (okPr p) := by unfold okPr; infer_instance
def ckLeg (x : Lg) : Int := if ¬ (okPr x.f ∧ okPr x.t ∧ 0 ≤ x.s ∧ x.s ≤ 100000) then 2 else if ckGas x.g.o x.g.h ≠ 0 then ckGas x.g.o x.g.h else if x.s = 0 ∧ x.f ≠ x.t then 11 else 0

/-! ### Square roots -/
def sqrN : Nat → Nat
  | 0 => 0
  | n + 1 => if (sqrN n + 1) * (sqrN n + 1) ≤ n + 1 then sqrN n + 1 else sqrN n
theorem sqrN_spec : ∀ n, sqrN n * sqrN n ≤ n ∧ n < (sqrN n + 1) * (sqrN n + 1)
  | 0 => by simp [sqrN]
  | n + 1 => by
    obtain ⟨h1, h2⟩ := sqrN_spec n
    simp only [sqrN]
    by_cases h : (sqrN n + 1) * (sqrN n + 1) ≤ n + 1
    · rw [if_pos h]
      refine ⟨h, ?_⟩
      have : (sqrN n + 1 + 1) * (sqrN n + 1 + 1) = (sqrN n + 1) * (sqrN n + 1) + 2 * (sqrN n + 1) + 1 := by
        simp only [Nat.add_mul, Nat.mul_add]; omega
      omega
    · rw [if_neg h]
      omega
theorem sqrN_uniq {n r : Nat} (h1 : r * r ≤ n) (h2 : n < (r + 1) * (r + 1)) : r = sqrN n := by
  obtain ⟨h3, h4⟩ := sqrN_spec n
  rcases Nat.lt_trichotomy r (sqrN n) with h | h | h
  · have : (r + 1) * (r + 1) ≤ sqrN n * sqrN n := Nat.mul_le_mul h h
    omega
  · exact h
  · have : (sqrN n + 1) * (sqrN n + 1) ≤ r * r := Nat.mul_le_mul h h
    omega
def sqrZ (n : Int) : Int := sqrN n.toNat
theorem sqrZ_uniq {n r : Int} (h0 : 0 ≤ r) (h1 : r * r ≤ n) (h2 : n < (r + 1) * (r + 1)) : r = sqrZ n := by
  obtain ⟨k, rfl⟩ := Int.eq_ofNat_of_zero_le h0
  have hn : 0 ≤ n := Int.le_trans (Int.mul_nonneg h0 h0) h1
  obtain ⟨m, rfl⟩ := Int.eq_ofNat_of_zero_le hn
  unfold sqrZ
  rw [Int.toNat_natCast]
  congr 1
  refine sqrN_uniq ?_ ?_
  · exact_mod_cast h1
  · exact_mod_cast h2
theorem sqrZ_spec {n : Int} (hn : 0 ≤ n) : 0 ≤ sqrZ n ∧ sqrZ n * sqrZ n ≤ n ∧ n < (sqrZ n + 1) * (sqrZ n + 1) := by
  obtain ⟨m, rfl⟩ := Int.eq_ofNat_of_zero_le hn
  unfold sqrZ
  rw [Int.toNat_natCast]
  obtain ⟨h1, h2⟩ := sqrN_spec m
  refine ⟨Int.natCast_nonneg _, ?_, ?_⟩
  · exact_mod_cast h1
  · exact_mod_cast h2

/-! ### Lists -/
theorem drop_cons {α : Type} {l : List α} {k : Nat} {x : α} (h : l[k]? = some x) : l.drop k = x :: l.drop (k + 1) := by
  obtain ⟨hk, hx⟩ := List.getElem?_eq_some_iff.1 h
  rw [List.drop_eq_getElem_cons hk, hx]
theorem get_some {α : Type} (l : List α) {k : Nat} (h : k < l.length) : ∃ x, l[k]? = some x := ⟨l[k], List.getElem?_eq_getElem h⟩
theorem map_get {α β : Type} (f : α → β) {l : List α} {k : Nat} {x : α} (h : l[k]? = some x) : (l.map f)[k]? = some (f x) := by rw [List.getElem?_map, h]; rfl
theorem drop_all {α : Type} {l : List α} {k : Nat} (h : l.length ≤ k) : l.drop k = [] := List.drop_eq_nil_of_le h
theorem firstE_step {es : List Int} {k : Nat} {e : Int} (h : es[k]? = some e) : firstE (es.drop k) = if e = 0 then firstE (es.drop (k + 1)) else e := by rw [drop_cons h]; rfl
theorem ckCps_step {ts : List Cp} {k : Nat} {c : Cp} (h : ts[k]? = some c) : ckCps (ts.drop k) = if okCp c then ckCps (ts.drop (k + 1)) else 2 := by rw [drop_cons h]; rfl
theorem ckLds_step {ls : List Ld} {k : Nat} {l : Ld} (h : ls[k]? = some l) : ckLds (ls.drop k) = if ckLd l ≠ 0 then ckLd l else ckLds (ls.drop (k + 1)) := by rw [drop_cons h]; rfl

/-! ### Closing lemmas -/
theorem ckGas_e (o h : Int) : firstE [if 0 ≤ o ∧ o ≤ 1000 then 0 else 2, if 0 ≤ h ∧ h ≤ 1000 then 0 else 2] = if 0 ≤ o ∧ o ≤ 1000 ∧ 0 ≤ h ∧ h ≤ 1000 then 0 else 2 := by
  simp only [firstE]
  (repeat' split) <;> omega
theorem ckGas_a {o h : Int} (hc : firstE [if 0 ≤ o ∧ o ≤ 1000 then 0 else 2, if 0 ≤ h ∧ h ≤ 1000 then 0 else 2] ≠ 0) : firstE [if 0 ≤ o ∧ o ≤ 1000 then 0 else 2, if 0 ≤ h ∧ h ≤ 1000 then 0 else 2] = ckGas o h := by
  rw [ckGas_e] at hc ⊢
  unfold ckGas
  split at hc
  · omega
  · rename_i hn; rw [if_neg hn, if_pos hn]
theorem ckGas_b {o h : Int} (hc : ¬ firstE [if 0 ≤ o ∧ o ≤ 1000 then 0 else 2, if 0 ≤ h ∧ h ≤ 1000 then 0 else 2] ≠ 0) : ckGas o h = if 1000 < o + h then 23 else 0 := by
  rw [ckGas_e] at hc
  unfold ckGas
  split at hc
  · rename_i hp; rw [if_neg (by omega)]
  · omega
theorem ckGas_c {o h : Int} (hc : ¬ firstE [if 0 ≤ o ∧ o ≤ 1000 then 0 else 2, if 0 ≤ h ∧ h ≤ 1000 then 0 else 2] ≠ 0) : 0 ≤ o ∧ o ≤ 1000 ∧ 0 ≤ h ∧ h ≤ 1000 := by
  rw [ckGas_e] at hc
  split at hc
  · assumption
  · omega
end Go.Proofs.Ytfhfadfnbnliiaa
