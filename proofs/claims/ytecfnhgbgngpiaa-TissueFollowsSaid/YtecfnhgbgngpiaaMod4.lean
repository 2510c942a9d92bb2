/-
  Plain models of chapter 3: what right loads are; limits; ceilings. Conditions: none; no program in sight.
-/
namespace Go.Proofs.Ytecfnhgbgngpiaa

def upZ (n b : Int) : Int := (n + b - 1) / b
def firstE : List Int → Int
  | [] => 0
  | e :: t => if e = 0 then firstE t else e
def ckGas (o h : Int) : Int := if ¬ (0 ≤ o ∧ o ≤ 1000 ∧ 0 ≤ h ∧ h ≤ 1000) then 2 else if o + h > 1000 then 23 else 0
structure Cp where
  n : Int
  h : Int
  b : Int
  s : Int
structure Rg where
  lo : Int
  hi : Int
structure Ld where
  n : Rg
  h : Rg
structure Gs where
  o : Int
  h : Int
structure Lg where
  f : Int
  t : Int
  s : Int
  g : Gs
def okCp (c : Cp) : Prop := 1 ≤ c.n ∧ c.n ≤ 100000 ∧ 1 ≤ c.h ∧ c.h ≤ 100000 ∧ 0 ≤ c.b ∧ c.b ≤ 10000 ∧ 1000 ≤ c.s ∧ c.s ≤ 10000
instance (c : Cp) : Decidable (okCp c) := by unfold okCp; infer_instance
def ckCps : List Cp → Int
  | [] => 0
  | c :: t => if okCp c then ckCps t else 2
def ckTab (ts : List Cp) : Int := if 1 ≤ ts.length ∧ ts.length ≤ 16 then ckCps ts else 10
def ckSpan (r : Rg) : Int := if 0 ≤ r.lo ∧ r.lo ≤ 100000000 ∧ 0 ≤ r.hi ∧ r.hi ≤ 100000000 then 0 else 2
def ckLd (l : Ld) : Int := if ckSpan l.n ≠ 0 ∨ ckSpan l.h ≠ 0 then 2 else if l.n.lo > l.n.hi ∨ l.h.lo > l.h.hi then 9 else 0
def ckLds : List Ld → Int
  | [] => 0
  | l :: t => if ckLd l ≠ 0 then ckLd l else ckLds t
def ckLoads (ts : List Cp) (ls : List Ld) : Int := if ckTab ts ≠ 0 then ckTab ts else if ls.length ≠ ts.length then 10 else ckLds ls
def okPr (p : Int) : Prop := 400 ≤ p ∧ p ≤ 31100
instance (p : Int) : Decidable (okPr p) := by unfold okPr; infer_instance
def ckLeg (x : Lg) : Int := if ¬ (okPr x.f ∧ okPr x.t ∧ 0 ≤ x.s ∧ x.s ≤ 100000) then 2 else if ckGas x.g.o x.g.h ≠ 0 then ckGas x.g.o x.g.h else if x.s = 0 ∧ x.f ≠ x.t then 11 else 0

/-! ### Square roots -/
def sqrN : Nat → Nat
  | 0 => 0
  | n + 1 => if (sqrN n + 1) * (sqrN n + 1) ≤ n + 1 then sqrN n + 1 else sqrN n
theorem sqrN_spec : ∀ n, sqrN n * sqrN n ≤ n ∧ n < (sqrN n + 1) * (sqrN n + 1)
  | 0 => by simp [sqrN]
  | n + 1 => by
    obtain ⟨h1, h2⟩ := sqrN_spec n
    simp only [sqrN]
    by_cases h : (sqrN n + 1) * (sqrN n + 1) ≤ n + 1
    · rw [if_pos h]
      refine ⟨h, ?_⟩
      have : (sqrN n + 1 + 1) * (sqrN n + 1 + 1) = (sqrN n + 1) * (sqrN n + 1) + 2 * (sqrN n + 1) + 1 := by
        simp only [Nat.add_mul, Nat.mul_add]; omega
      omega
    · rw [if_neg h]
      omega
theorem sqrN_uniq {n r : Nat} (h1 : r * r ≤ n) (h2 : n < (r + 1) * (r + 1)) : r = sqrN n := by
  obtain ⟨h3, h4⟩ := sqrN_spec n
  rcases Nat.lt_trichotomy r (sqrN n) with h | h | h
  · have : (r + 1) * (r + 1) ≤ sqrN n * sqrN n := Nat.mul_le_mul h h
    omega
  · exact h
  · have : (sqrN n + 1) * (sqrN n + 1) ≤ r * r := Nat.mul_le_mul h h
    omega
def sqrZ (n : Int) : Int := sqrN n.toNat
theorem sqrZ_uniq {n r : Int} (h0 : 0 ≤ r) (h1 : r * r ≤ n) (h2 : n < (r + 1) * (r + 1)) : r = sqrZ n := by
  obtain ⟨k, rfl⟩ := Int.eq_ofNat_of_zero_le h0
  have hn : 0 ≤ n := Int.le_trans (Int.mul_nonneg h0 h0) h1
  obtain ⟨m, rfl⟩ := Int.eq_ofNat_of_zero_le hn
  unfold sqrZ
  rw [Int.toNat_natCast]
  congr 1
  refine sqrN_uniq ?_ ?_
  · exact_mod_cast h1
  · exact_mod_cast h2
theorem sqrZ_spec {n : Int} (hn : 0 ≤ n) : 0 ≤ sqrZ n ∧ sqrZ n * sqrZ n ≤ n ∧ n < (sqrZ n + 1) * (sqrZ n + 1) := by
  obtain ⟨m, rfl⟩ := Int.eq_ofNat_of_zero_le hn
  unfold sqrZ
  rw [Int.toNat_natCast]
  obtain ⟨h1, h2⟩ := sqrN_spec m
  refine ⟨Int.natCast_nonneg _, ?_, ?_⟩
  · exact_mod_cast h1
  · exact_mod_cast h2

/-! ### Lists -/
theorem drop_cons {α : Type} {l : List α} {k : Nat} {x : α} (h : l[k]? = some x) : l.drop k = x :: l.drop (k + 1) := by
  obtain ⟨hk, hx⟩ := List.getElem?_eq_some_iff.1 h
  rw [List.drop_eq_getElem_cons hk, hx]
theorem get_some {α : Type} (l : List α) {k : Nat} (h : k < l.length) : ∃ x, l[k]? = some x := ⟨l[k], List.getElem?_eq_getElem h⟩
theorem map_get {α β : Type} (f : α → β) {l : List α} {k : Nat} {x : α} (h : l[k]? = some x) : (l.map f)[k]? = some (f x) := by rw [List.getElem?_map, h]; rfl
theorem drop_all {α : Type} {l : List α} {k : Nat} (h : l.length ≤ k) : l.drop k = [] := List.drop_eq_nil_of_le h
theorem firstE_step {es : List Int} {k : Nat} {e : Int} (h : es[k]? = some e) : firstE (es.drop k) = if e = 0 then firstE (es.drop (k + 1)) else e := by rw [drop_cons h]; rfl
theorem ckCps_step {ts : List Cp} {k : Nat} {c : Cp} (h : ts[k]? = some c) : ckCps (ts.drop k) = if okCp c then ckCps (ts.drop (k + 1)) else 2 := by rw [drop_cons h]; rfl
theorem ckLds_step {ls : List Ld} {k : Nat} {l : Ld} (h : ls[k]? = some l) : ckLds (ls.drop k) = if ckLd l ≠ 0 then ckLd l else ckLds (ls.drop (k + 1)) := by rw [drop_cons h]; rfl

/-! ### Closing lemmas -/
theorem ckGas_e (o h : Int) : firstE [if 0 ≤ o ∧ o ≤ 1000 then 0 else 2, if 0 ≤ h ∧ h ≤ 1000 then 0 else 2] = if 0 ≤ o ∧ o ≤ 1000 ∧ 0 ≤ h ∧ h ≤ 1000 then 0 else 2 := by
  simp only [firstE]
  (repeat' split) <;> omega
theorem ckGas_a {o h : Int} (hc : firstE [if 0 ≤ o ∧ o ≤ 1000 then 0 else 2, if 0 ≤ h ∧ h ≤ 1000 then 0 else 2] ≠ 0) : firstE [if 0 ≤ o ∧ o ≤ 1000 then 0 else 2, if 0 ≤ h ∧ h ≤ 1000 then 0 else 2] = ckGas o h := by
  rw [ckGas_e] at hc ⊢
  unfold ckGas
  split at hc
  · omega
  · rename_i hn; rw [if_neg hn, if_pos hn]
theorem ckGas_b {o h : Int} (hc : ¬ firstE [if 0 ≤ o ∧ o ≤ 1000 then 0 else 2, if 0 ≤ h ∧ h ≤ 1000 then 0 else 2] ≠ 0) : ckGas o h = if 1000 < o + h then 23 else 0 := by
  rw [ckGas_e] at hc
  unfold ckGas
  split at hc
  · rename_i hp; rw [if_neg (by omega)]
  · omega
theorem ckGas_c {o h : Int} (hc : ¬ firstE [if 0 ≤ o ∧ o ≤ 1000 then 0 else 2, if 0 ≤ h ∧ h ≤ 1000 then 0 else 2] ≠ 0) : 0 ≤ o ∧ o ≤ 1000 ∧ 0 ≤ h ∧ h ≤ 1000 := by
  rw [ckGas_e] at hc
  split at hc
  · assumption
  · omega
end Go.Proofs.Ytecfnhgbgngpiaa
namespace Go.Proofs.Ytecfnhgbgngpiaa

/-! ### Squares -/
theorem sq_le {a b : Int} (h0 : 0 ≤ b) (h : a * a ≤ b * b) : a ≤ b := by
  by_cases hab : a ≤ b
  · exact hab
  · have h1 : b + 1 ≤ a := by omega
    have h2 := Int.mul_le_mul h1 h1 (by omega) (by omega : (0:Int) ≤ a)
    have h3 : (b + 1) * (b + 1) = b * b + 2 * b + 1 := by grind
    omega
theorem sqrZ_ge {n r : Int} (hr : 0 ≤ r) (h : r * r ≤ n) : r ≤ sqrZ n := by
  obtain ⟨h0, h1, h2⟩ := sqrZ_spec (Int.le_trans (Int.mul_nonneg hr hr) h)
  have := sq_le (a := r) (b := sqrZ n) h0
  by_cases hc : r ≤ sqrZ n
  · exact hc
  · have h3 := Int.mul_le_mul (show sqrZ n + 1 ≤ r by omega) (show sqrZ n + 1 ≤ r by omega) (by omega) hr
    omega
theorem sqrZ_le {n r : Int} (hn : 0 ≤ n) (hr : 0 ≤ r) (h : n < (r + 1) * (r + 1)) : sqrZ n ≤ r := by
  obtain ⟨h0, h1, h2⟩ := sqrZ_spec hn
  by_cases hc : sqrZ n ≤ r
  · exact hc
  · have h3 := Int.mul_le_mul (show r + 1 ≤ sqrZ n by omega) (show r + 1 ≤ sqrZ n by omega) (by omega) h0
    omega

def rootS (r : Rg) : Rg := ⟨sqrZ (1000000000 * r.lo), if sqrZ (1000000000 * r.hi) * sqrZ (1000000000 * r.hi) < 1000000000 * r.hi then sqrZ (1000000000 * r.hi) + 1 else sqrZ (1000000000 * r.hi)⟩
def rootR : Nat → Rg
  | 0 => ⟨500000000, 500000000⟩
  | k + 1 => rootS (rootR k)
structure inR (r : Rg) : Prop where
  a : 500000000 ≤ r.lo
  b : r.lo ≤ r.hi
  c : r.hi ≤ 1000000000
theorem rootS_in {r : Rg} (h : inR r) : inR (rootS r) := by
  obtain ⟨h1, h2, h3⟩ := h
  have a1 : 500000000 ≤ sqrZ (1000000000 * r.lo) := sqrZ_ge (by omega) (by omega)
  have a2 : sqrZ (1000000000 * r.lo) ≤ sqrZ (1000000000 * r.hi) := by
    obtain ⟨b0, b1, b2⟩ := sqrZ_spec (n := 1000000000 * r.lo) (by omega)
    exact sqrZ_ge b0 (by omega)
  have a3 : sqrZ (1000000000 * r.hi) ≤ 1000000000 := sqrZ_le (by omega) (by omega) (by omega)
  refine ⟨a1, ?_, ?_⟩
  · simp only [rootS]; split <;> omega
  · simp only [rootS]
    split
    · rename_i hlt
      by_cases he : sqrZ (1000000000 * r.hi) = 1000000000
      · rw [he] at hlt; omega
      · omega
    · exact a3
theorem rootR_in : ∀ k, inR (rootR k)
  | 0 => ⟨by simp [rootR], by simp [rootR], by simp [rootR]⟩
  | k + 1 => rootS_in (rootR_in k)
def rts (n : Nat) : List Rg := (List.range (n + 1)).map rootR
theorem rts_len (n : Nat) : (rts n).length = n + 1 := by simp [rts]
theorem rts_get {n k : Nat} (h : k ≤ n) : (rts n)[k]? = some (rootR k) := by
  unfold rts
  rw [List.getElem?_map, List.getElem?_range (by omega)]
  rfl
theorem rts_succ (n : Nat) : rts (n + 1) = rts n ++ [rootR (n + 1)] := by
  unfold rts
  rw [List.range_succ, List.map_append]
  rfl

/-- the first k roots -/
def rtsL (k : Nat) : List Rg := (List.range k).map rootR
theorem rtsL_succ (k : Nat) : rtsL (k + 1) = rtsL k ++ [rootR k] := by
  unfold rtsL
  rw [List.range_succ, List.map_append]
  rfl
theorem rtsL_len (k : Nat) : (rtsL k).length = k := by simp [rtsL]

/-! ### Bits -/
def pw : Nat → Int
  | 0 => 0
  | k + 1 => 2 ^ k
def pw4 : Nat → Int
  | 0 => 0
  | k + 1 => 4 ^ k
theorem pw_half : ∀ k, pw (k + 1) / 2 = pw k
  | 0 => by decide
  | k + 1 => by simp only [pw, Int.pow_succ]; omega
theorem pw4_half : ∀ k, pw4 (k + 1) / 4 = pw4 k
  | 0 => by decide
  | k + 1 => by simp only [pw4, Int.pow_succ]; omega
theorem two_pos (k : Nat) : (1 : Int) ≤ 2 ^ k := by
  induction k with
  | zero => decide
  | succ k ih => rw [Int.pow_succ]; omega
theorem two_le {k m : Nat} (h : k ≤ m) : (2 : Int) ^ k ≤ 2 ^ m := by
  induction h with
  | refl => exact Int.le_refl _
  | @step m _ ih => rw [Int.pow_succ]; have := two_pos m; omega
theorem four_sq (k : Nat) : (4 : Int) ^ k = 2 ^ k * 2 ^ k := by
  induction k with
  | zero => decide
  | succ k ih => rw [Int.pow_succ, Int.pow_succ, ih]; grind
/-- what squareRoot keeps: R so far, k steps to go -/
structure gSq (n : Int) (k : Nat) (R : Int) : Prop where
  k30 : k ≤ 30
  r0 : 0 ≤ R
  le : R * R ≤ n
  lt : n < (R + 2 ^ k) * (R + 2 ^ k)
theorem gSq.bounds {n R : Int} {k : Nat} (h : gSq n (k + 1) R) (hn : n ≤ 1000000000000000000) : 0 ≤ R * 2 ^ (k + 1) ∧ R * 2 ^ (k + 1) ≤ 1073741824000000000 ∧ 1 ≤ (4 : Int) ^ k ∧ (4 : Int) ^ k ≤ 288230376151711744 := by
  have h1 : R ≤ 1000000000 := sq_le (by omega) (by have := h.le; omega)
  have h2 := two_le h.k30
  have h3 := two_pos (k + 1)
  have h4 := two_pos k
  have h5 := two_le (show k ≤ 29 by have := h.k30; omega)
  have h6 := h.r0
  have h7 := Int.mul_le_mul h1 h2 (by omega) (by omega)
  have h8 := Int.mul_le_mul h5 h5 (by omega) (by omega)
  have h9 := Int.mul_le_mul h4 h4 (by omega) (by omega)
  have h10 := Int.mul_nonneg h6 (show (0:Int) ≤ 2 ^ (k+1) by omega)
  rw [four_sq]
  omega
theorem gSq.yes {n R : Int} {k : Nat} (h : gSq n (k + 1) R) (hc : n - R * R ≥ R * 2 ^ (k + 1) + 4 ^ k) : gSq n k (R + 2 ^ k) := by
  have h3 := two_pos k
  refine ⟨by have := h.k30; omega, by have := h.r0; omega, ?_, ?_⟩
  · rw [four_sq, Int.pow_succ] at hc; grind
  · have := h.lt
    rw [Int.pow_succ] at this
    have e : R + 2 ^ k + 2 ^ k = R + 2 ^ k * 2 := by omega
    rw [e]; exact this
theorem gSq.no {n R : Int} {k : Nat} (h : gSq n (k + 1) R) (hc : ¬ n - R * R ≥ R * 2 ^ (k + 1) + 4 ^ k) : gSq n k R := by
  refine ⟨by have := h.k30; omega, h.r0, h.le, ?_⟩
  rw [four_sq, Int.pow_succ] at hc
  have e : (R + 2 ^ k) * (R + 2 ^ k) = R * R + R * (2 ^ k * 2) + 2 ^ k * 2 ^ k := by grind
  omega
theorem gSq.n_yes (n R : Int) (k : Nat) : n - R * R - R * 2 ^ (k + 1) - 4 ^ k = n - (R + 2 ^ k) * (R + 2 ^ k) := by
  rw [four_sq, Int.pow_succ]; grind
theorem gSq.x_no (R : Int) (k : Nat) : R * 2 ^ (k + 1) / 2 = R * 2 ^ k := by
  rw [Int.pow_succ, ← Int.mul_assoc, Int.mul_ediv_cancel _ (by decide)]
theorem gSq.x_yes (R : Int) (k : Nat) : R * 2 ^ (k + 1) / 2 + 4 ^ k = (R + 2 ^ k) * 2 ^ k := by
  rw [gSq.x_no, four_sq]; grind
theorem gSq.ends {n R : Int} (h : gSq n 0 R) : R = sqrZ n := sqrZ_uniq h.r0 h.le (by simpa using h.lt)
theorem gSq.begin {n : Int} {k : Nat} (hk : k ≤ 29) (h0 : 4 ^ k ≤ n) (h1 : n < 4 ^ (k + 1)) : gSq n (k + 1) 0 := by
  refine ⟨by omega, Int.le_refl _, by have := two_pos k; rw [four_sq] at h0; have := Int.mul_le_mul (two_pos k) (two_pos k) (by omega) (by omega); omega, ?_⟩
  rw [four_sq] at h1
  simpa using h1
/-- what Root keeps -/
structure gRt (n : Int) (k : Nat) (R : Int) : Prop where
  k31 : k ≤ 31
  r0 : 0 ≤ R
  le : R * R ≤ n
  lt : n < (R + 2 ^ k) * (R + 2 ^ k)
theorem gRt.bounds {n R : Int} {k : Nat} (h : gRt n (k + 1) R) (hn : n ≤ 1000000000000000000) : R ≤ 1000000000 ∧ 1 ≤ (2 : Int) ^ k ∧ (2 : Int) ^ k ≤ 1073741824 ∧ 0 ≤ (R + 2 ^ k) * (R + 2 ^ k) ∧ (R + 2 ^ k) * (R + 2 ^ k) ≤ 5000000000000000000 := by
  have h1 : R ≤ 1000000000 := sq_le (by omega) (by have := h.le; omega)
  have h2 := two_pos k
  have h3 := two_le (show k ≤ 30 by have := h.k31; omega)
  have h4 := h.r0
  have h5 := Int.mul_le_mul (show R + 2 ^ k ≤ 2073741824 by omega) (show R + 2 ^ k ≤ 2073741824 by omega) (by omega) (by omega)
  have h6 := Int.mul_nonneg (show 0 ≤ R + 2 ^ k by omega) (show 0 ≤ R + 2 ^ k by omega)
  omega
theorem gRt.yes {n R : Int} {k : Nat} (h : gRt n (k + 1) R) (hc : (R + 2 ^ k) * (R + 2 ^ k) ≤ n) : gRt n k (R + 2 ^ k) := by
  have h3 := two_pos k
  refine ⟨by have := h.k31; omega, by have := h.r0; omega, hc, ?_⟩
  have := h.lt
  rw [Int.pow_succ] at this
  have e : R + 2 ^ k + 2 ^ k = R + 2 ^ k * 2 := by omega
  rw [e]; exact this
theorem gRt.no {n R : Int} {k : Nat} (h : gRt n (k + 1) R) (hc : ¬ (R + 2 ^ k) * (R + 2 ^ k) ≤ n) : gRt n k R := ⟨by have := h.k31; omega, h.r0, h.le, by omega⟩
theorem gRt.ends {n R : Int} (h : gRt n 0 R) : R = sqrZ n := sqrZ_uniq h.r0 h.le (by simpa using h.lt)
theorem gRt.begin {n : Int} (h0 : 0 ≤ n) (h1 : n ≤ 1000000000000000000) : gRt n 31 0 := ⟨by omega, Int.le_refl _, by omega, by omega⟩
theorem pw_pos {k : Nat} (h : pw k > 0) : ∃ j, k = j + 1 := by
  cases k with
  | zero => exact absurd h (by decide)
  | succ j => exact ⟨j, rfl⟩
theorem pw_zero {k : Nat} (h : ¬ pw k > 0) : k = 0 := by
  cases k with
  | zero => rfl
  | succ j => exact absurd (show pw (j + 1) > 0 by have := two_pos j; simp only [pw]; omega) h
theorem pw4_pos {k : Nat} (h : pw4 k > 0) : ∃ j, k = j + 1 := by
  cases k with
  | zero => exact absurd h (by decide)
  | succ j => exact ⟨j, rfl⟩
theorem four_pos (k : Nat) : (1 : Int) ≤ 4 ^ k := by
  induction k with
  | zero => decide
  | succ k ih => rw [Int.pow_succ]; omega
theorem pw4_zero {k : Nat} (h : ¬ pw4 k > 0) : k = 0 := by
  cases k with
  | zero => rfl
  | succ j => exact absurd (show pw4 (j + 1) > 0 by have := four_pos j; simp only [pw4]; omega) h
theorem pw4_le {k : Nat} (h : k ≤ 31) : (4 : Int) ^ k ≤ 4611686018427387904 := by
  have h1 := two_le h
  have h2 := two_pos k
  have := Int.mul_le_mul h1 h1 (by omega) (by omega)
  rw [four_sq]
  omega

/-! ### Division -/
theorem floor_yes {n b : Int} (hb : 1 ≤ b) (h : n.tmod b < 0) : n.tdiv b - 1 = n / b := by
  have h1 := Int.mul_tdiv_add_tmod n b
  have h2 := Int.lt_tmod_of_pos n (show 0 < b by omega)
  have h3 : (n.tmod b + b) + b * (n.tdiv b - 1) = n := by rw [Int.mul_sub, Int.mul_one]; omega
  exact ((Int.ediv_emod_unique (show 0 < b by omega)).2 ⟨h3, by omega, by omega⟩).1.symm
theorem floor_no {n b : Int} (hb : 1 ≤ b) (h : ¬ n.tmod b < 0) : n.tdiv b = n / b := by
  have h1 := Int.mul_tdiv_add_tmod n b
  have h2 := Int.tmod_lt_of_pos n (show 0 < b by omega)
  have h3 : n.tmod b + b * n.tdiv b = n := by omega
  exact ((Int.ediv_emod_unique (show 0 < b by omega)).2 ⟨h3, by omega, by omega⟩).1.symm
theorem tmod_neg {n b : Int} (h : n.tmod b < 0) : n < 0 := by
  by_cases hn : n < 0
  · exact hn
  · have := Int.tmod_nonneg b (show 0 ≤ n by omega); omega
theorem ediv_ge {n b : Int} (hb : 1 ≤ b) (hn : n ≤ 0) : n ≤ n / b := by
  refine Int.le_ediv_of_mul_le (by omega) ?_
  have h1 := Int.mul_nonneg (show 0 ≤ -n by omega) (show 0 ≤ b - 1 by omega)
  have h2 : (-n) * (b - 1) = n - n * b := by grind
  omega
theorem ediv_le {n b : Int} (hb : 1 ≤ b) (hn : 0 ≤ n) : 0 ≤ n / b ∧ n / b ≤ n := ⟨Int.ediv_nonneg hn (by omega), Int.ediv_le_self _ hn⟩
theorem ediv_np {n b : Int} (hb : 1 ≤ b) (hn : n ≤ 0) : n / b ≤ 0 := by
  have h3 := Int.ediv_le_ediv (show 0 < b by omega) hn
  rwa [Int.zero_ediv] at h3
theorem neg_div {n b : Int} (hb : 1 ≤ b) (h0 : -9000000000000000000 ≤ n) (h1 : n ≤ 9000000000000000000) : -9000000000000000000 ≤ (0 - n) / b ∧ (0 - n) / b ≤ 9000000000000000000 := by
  by_cases hn : n ≤ 0
  · have := ediv_le hb (show 0 ≤ 0 - n by omega); omega
  · have h2 := ediv_ge hb (show 0 - n ≤ 0 by omega)
    have h3 := Int.ediv_le_ediv (show 0 < b by omega) (show 0 - n ≤ 0 by omega)
    rw [Int.zero_ediv] at h3
    omega
theorem ceil_up {n b : Int} (hb : 1 ≤ b) : 0 - (0 - n) / b = upZ n b := by
  have h1 := Int.mul_ediv_add_emod (n + b - 1) b
  have h2 := Int.emod_nonneg (n + b - 1) (show b ≠ 0 by omega)
  have h3 := Int.emod_lt_of_pos (n + b - 1) (show 0 < b by omega)
  have h4 : (b - 1 - (n + b - 1) % b) + b * (-((n + b - 1) / b)) = 0 - n := by rw [Int.mul_neg]; omega
  have h5 := ((Int.ediv_emod_unique (show 0 < b by omega)).2 ⟨h4, by omega, by omega⟩).1
  unfold upZ
  omega
theorem sq_start {n : Int} (h : n ≤ 1000000000000000000) : n < 4 ^ (31 + 1) := by
  have : (4 : Int) ^ (31 + 1) = 18446744073709551616 := by decide
  omega
theorem four_cases {n : Int} {k : Nat} (h1 : 1 ≤ n) (h : (4 : Int) ^ k > n) : ∃ j, k = j + 1 := by
  cases k with
  | zero => rw [Int.pow_zero] at h; omega
  | succ j => exact ⟨j, rfl⟩
theorem pow_lt30 {n : Int} {k : Nat} (h : (4 : Int) ^ k ≤ n) (hn : n ≤ 1000000000000000000) : k ≤ 29 := by
  by_cases hk : k ≤ 29
  · exact hk
  · have h1 := two_le (show 30 ≤ k by omega)
    have h2 := Int.mul_le_mul h1 h1 (by decide) (by have := two_pos k; omega)
    rw [four_sq] at h
    omega
def rootOfM (l : Int) : Rg × Int := if 0 ≤ l ∧ l ≤ 24 then (rootR l.toNat, 0) else (⟨0, 0⟩, 2)
theorem root_yes {r : Rg} (h : sqrZ (1000000000 * r.hi) * sqrZ (1000000000 * r.hi) < 1000000000 * r.hi) : (⟨sqrZ (1000000000 * r.lo), sqrZ (1000000000 * r.hi) + 1⟩ : Rg) = rootS r := by unfold rootS; rw [if_pos h]
theorem root_no {r : Rg} (h : ¬ sqrZ (1000000000 * r.hi) * sqrZ (1000000000 * r.hi) < 1000000000 * r.hi) : (⟨sqrZ (1000000000 * r.lo), sqrZ (1000000000 * r.hi)⟩ : Rg) = rootS r := by unfold rootS; rw [if_neg h]

/-! ### Decays -/
structure inD (d : Rg) : Prop where
  a : 0 ≤ d.lo
  b : d.lo ≤ 1000000000
  c : 0 ≤ d.hi
  e : d.hi ≤ 1000000000
theorem inD0 : inD ⟨1000000000, 1000000000⟩ := ⟨by decide, by decide, by decide, by decide⟩
def halve : Nat → Rg → Rg
  | 0, d => d
  | k + 1, d => halve k ⟨d.lo / 2, upZ d.hi 2⟩
theorem inD.half {d : Rg} (h : inD d) : inD ⟨d.lo / 2, upZ d.hi 2⟩ := by
  obtain ⟨h1, h2, h3, h4⟩ := h
  refine ⟨?_, ?_, ?_, ?_⟩ <;> simp only [upZ] <;> omega
theorem halve_in : ∀ (k : Nat) {d : Rg}, inD d → inD (halve k d)
  | 0, _, h => h
  | k + 1, _, h => halve_in k h.half
theorem halve_add : ∀ (m k : Nat) (d : Rg), halve (m + k) d = halve k (halve m d)
  | 0, k, d => by rw [Nat.zero_add]; rfl
  | m + 1, k, d => by rw [Nat.succ_add]; exact halve_add m k _
theorem halve_end : ∀ (k : Nat), halve k ⟨0, 1⟩ = ⟨0, 1⟩
  | 0 => rfl
  | k + 1 => by simp only [halve, upZ]; exact halve_end k
set_option maxRecDepth 10000 in
theorem halve_40 : halve 40 ⟨1000000000, 1000000000⟩ = ⟨0, 1⟩ := rfl
theorem halve_min (n : Int) : halve (min n 40).toNat ⟨1000000000, 1000000000⟩ = halve n.toNat ⟨1000000000, 1000000000⟩ := by
  by_cases h : n ≤ 40
  · rw [Int.min_eq_left h]
  · rw [Int.min_eq_right (by omega), show n.toNat = 40 + (n.toNat - 40) by omega, halve_add]
    show halve 40 _ = halve _ (halve 40 _)
    rw [halve_40, halve_end]
def dS (h : Int) (x : Int × Rg) (r : Rg) : Int × Rg := if 2 * x.1 ≥ h then (2 * x.1 - h, ⟨x.2.lo * r.lo / 1000000000, upZ (x.2.hi * r.hi) 1000000000⟩) else (2 * x.1, x.2)
def dF (h : Int) (x : Int × Rg) (l : List Rg) : Int × Rg := l.foldl (dS h) x
theorem dF_step {h : Int} {x : Int × Rg} {l : List Rg} {k : Nat} {r : Rg} (hr : l[k]? = some r) : dF h x (l.drop k) = dF h (dS h x r) (l.drop (k + 1)) := by rw [drop_cons hr]; rfl
theorem prod_in {a b : Int} (ha : 0 ≤ a) (ha' : a ≤ 1000000000) (hb : 0 ≤ b) (hb' : b ≤ 1000000000) : 0 ≤ a * b ∧ a * b ≤ 1000000000000000000 := ⟨Int.mul_nonneg ha hb, by have := Int.mul_le_mul ha' hb' hb (by omega : (0:Int) ≤ 1000000000); omega⟩
theorem inD.mul {d r : Rg} (h : inD d) (hr : inR r) : inD ⟨d.lo * r.lo / 1000000000, upZ (d.hi * r.hi) 1000000000⟩ := by
  obtain ⟨h1, h2, h3, h4⟩ := h
  obtain ⟨r1, r2, r3⟩ := hr
  have p1 := prod_in h1 h2 (show 0 ≤ r.lo by omega) (by omega)
  have p2 := prod_in h3 h4 (show 0 ≤ r.hi by omega) (by omega)
  refine ⟨?_, ?_, ?_, ?_⟩ <;> simp only [upZ] <;> omega
def decE (x : Int × Rg) (r : Rg) : Rg := if x.1 ≠ 0 then ⟨x.2.lo * r.lo / 1000000000, x.2.hi⟩ else x.2
def decM (s h : Int) (n : Nat) : Rg := decE (dF h (s % h, halve (s / h).toNat ⟨1000000000, 1000000000⟩) ((rts n).drop 1)) (rootR n)
def decayM (s h l : Int) : Rg × Int := if 0 ≤ s ∧ s ≤ 1000000 ∧ 1 ≤ h ∧ h ≤ 100000 ∧ 0 ≤ l ∧ l ≤ 24 then (decM s h l.toNat, 0) else (⟨0, 0⟩, 2)
theorem rts_tail_get {n k : Nat} (h : k < n) : ((rts n).drop 1)[k]? = some (rootR (k + 1)) := by rw [List.getElem?_drop, Nat.add_comm]; exact rts_get (by omega)
theorem rts_tail_len (n : Nat) : ((rts n).drop 1).length = n := by rw [List.length_drop, rts_len]; omega
theorem halve_step {m k : Nat} {d : Rg} (h : k < m) : halve (m - (k + 1)) ⟨d.lo / 2, upZ d.hi 2⟩ = halve (m - k) d := by
  rw [show m - k = (m - (k + 1)) + 1 by omega]; rfl
theorem sub_div {a h : Int} (hh : 1 ≤ h) : (a - h) / h = a / h - 1 ∧ (a - h) % h = a % h := by
  have e : a - h = a + h * (-1) := by omega
  rw [e]
  exact ⟨by rw [Int.add_mul_ediv_left _ _ (by omega)]; omega, Int.add_mul_emod_self_left _ _ _⟩
theorem small_div {a h : Int} (h0 : 0 ≤ a) (h1 : a < h) : a / h = 0 ∧ a % h = a := ⟨Int.ediv_eq_zero_of_lt h0 h1, Int.emod_eq_of_lt h0 h1⟩
theorem halve_sub {a h : Int} {d : Rg} (hh : 1 ≤ h) (h1 : h ≤ a) : halve ((a - h) / h).toNat ⟨d.lo / 2, upZ d.hi 2⟩ = halve (a / h).toNat d := by
  have h2 := (sub_div (a := a) hh).1
  have h3 := (ediv_le hh (show 0 ≤ a - h by omega)).1
  rw [show (a / h).toNat = ((a - h) / h).toNat + 1 by omega]
  rfl
theorem halve_fix {d : Rg} (h1 : d.lo = 0) (h2 : d.hi = 1) (k : Nat) : halve k d = d := by
  obtain ⟨lo, hi⟩ := d
  subst h1; subst h2
  exact halve_end k
theorem dS_yes {h a b : Int} {d r : Rg} (hb : b = 2 * a) (hc : b ≥ h) : dS h (a, d) r = (b - h, ⟨d.lo * r.lo / 1000000000, upZ (d.hi * r.hi) 1000000000⟩) := by subst hb; unfold dS; rw [if_pos hc]
theorem dS_no {h a b : Int} {d r : Rg} (hb : b = 2 * a) (hc : ¬ b ≥ h) : dS h (a, d) r = (b, d) := by subst hb; unfold dS; rw [if_neg hc]
theorem decM_yes {s h a : Int} {n : Nat} {d : Rg} (hf : dF h (a, d) (((rts n).drop 1).drop n) = dF h (s % h, halve (s / h).toNat ⟨1000000000, 1000000000⟩) ((rts n).drop 1)) (h0 : a ≠ 0) : (⟨d.lo * (rootR n).lo / 1000000000, d.hi⟩ : Rg) = decM s h n := by
  unfold decM
  rw [← hf, drop_all (by rw [rts_tail_len]; exact Nat.le_refl _)]
  show _ = decE (a, d) _
  unfold decE
  rw [if_pos h0]
theorem decM_no {s h a : Int} {n : Nat} {d : Rg} (hf : dF h (a, d) (((rts n).drop 1).drop n) = dF h (s % h, halve (s / h).toNat ⟨1000000000, 1000000000⟩) ((rts n).drop 1)) (h0 : ¬ a ≠ 0) : d = decM s h n := by
  unfold decM
  rw [← hf, drop_all (by rw [rts_tail_len]; exact Nat.le_refl _)]
  show _ = decE (a, d) _
  unfold decE
  rw [if_neg h0]

/-! ### Loads -/
def ldN (l : Ld) : Nat → Int
  | 0 => l.n.lo
  | 1 => l.n.hi
  | 2 => l.h.lo
  | _ => l.h.hi
theorem ckSpan_cases (r : Rg) : (ckSpan r = 0 ∧ 0 ≤ r.lo ∧ r.lo ≤ 100000000 ∧ 0 ≤ r.hi ∧ r.hi ≤ 100000000) ∨ (ckSpan r = 2 ∧ ¬ (0 ≤ r.lo ∧ r.lo ≤ 100000000 ∧ 0 ≤ r.hi ∧ r.hi ≤ 100000000)) := by
  unfold ckSpan
  split
  · exact .inl ⟨rfl, by assumption⟩
  · exact .inr ⟨rfl, by assumption⟩
def ldIn (l : Ld) (j : Nat) : Prop := ∀ i, i < j → 0 ≤ ldN l i ∧ ldN l i ≤ 100000000
theorem ldIn.next {l : Ld} {j : Nat} (h : ldIn l j) (hj : 0 ≤ ldN l j ∧ ldN l j ≤ 100000000) : ldIn l (j + 1) := fun i hi => by
  by_cases he : i = j
  · subst he; exact hj
  · exact h i (by omega)
theorem ckLd_bad {l : Ld} {j : Nat} (hj : j < 4) (h : ¬ (0 ≤ ldN l j ∧ ldN l j ≤ 100000000)) : ckLd l = 2 := by
  have h1 := ckSpan_cases l.n
  have h2 := ckSpan_cases l.h
  unfold ckLd
  rw [if_pos ?_]
  match j, hj with
  | 0, _ => simp only [ldN] at h; omega
  | 1, _ => simp only [ldN] at h; omega
  | 2, _ => simp only [ldN] at h; omega
  | 3, _ => simp only [ldN] at h; omega
theorem ldIn.spans {l : Ld} (h : ldIn l 4) : ckSpan l.n = 0 ∧ ckSpan l.h = 0 := by
  have h0 := h 0 (by omega)
  have h1 := h 1 (by omega)
  have h2 := h 2 (by omega)
  have h3 := h 3 (by omega)
  simp only [ldN] at h0 h1 h2 h3
  have h4 := ckSpan_cases l.n
  have h5 := ckSpan_cases l.h
  omega
theorem ckLd_9 {l : Ld} (h : ldIn l 4) (hc : l.n.lo > l.n.hi ∨ l.h.lo > l.h.hi) : ckLd l = 9 := by
  have := h.spans
  unfold ckLd
  rw [if_neg (by omega), if_pos hc]
theorem ckLd_0 {l : Ld} (h : ldIn l 4) (hc : ¬ (l.n.lo > l.n.hi ∨ l.h.lo > l.h.hi)) : ckLd l = 0 := by
  have := h.spans
  unfold ckLd
  rw [if_neg (by omega), if_neg hc]
theorem mul_in {a b x y : Int} (ha : 0 ≤ a) (ha' : a ≤ x) (hb : -y ≤ b) (hb' : b ≤ y) : -(x * y) ≤ a * b ∧ a * b ≤ x * y := by
  have h1 := Int.mul_nonneg ha (show 0 ≤ y - b by omega)
  have h2 := Int.mul_nonneg ha (show 0 ≤ y + b by omega)
  have h3 := Int.mul_nonneg (show 0 ≤ x - a by omega) (show 0 ≤ y by omega)
  have e1 : a * (y - b) = a * y - a * b := by grind
  have e2 : a * (y + b) = a * y + a * b := by grind
  have e3 : (x - a) * y = x * y - a * y := by grind
  omega
end Go.Proofs.Ytecfnhgbgngpiaa
namespace Go.Proofs.Ytecfnhgbgngpiaa

/-! ### Steps -/
structure inX (r : Rg) : Prop where
  a : 0 ≤ r.lo
  b : r.lo ≤ 100000000
  c : 0 ≤ r.hi
  e : r.hi ≤ 100000000
def inLd (l : Ld) : Prop := inX l.n ∧ inX l.h
def nearM (l : Rg) (a b : Int) (d : Rg) : Rg :=
  ⟨if l.lo ≥ a then a + (l.lo - a) * d.lo / 1000000000 else a - upZ ((a - l.lo) * d.hi) 1000000000, if l.hi ≥ b then b + upZ ((l.hi - b) * d.hi) 1000000000 else b - (b - l.hi) * d.lo / 1000000000⟩
theorem near_tt {l d : Rg} {a b : Int} (h1 : l.lo ≥ a) (h2 : l.hi ≥ b) : (⟨a + (l.lo - a) * d.lo / 1000000000, b + upZ ((l.hi - b) * d.hi) 1000000000⟩ : Rg) = nearM l a b d := by unfold nearM; rw [if_pos h1, if_pos h2]
theorem near_tf {l d : Rg} {a b : Int} (h1 : l.lo ≥ a) (h2 : ¬ l.hi ≥ b) : (⟨a + (l.lo - a) * d.lo / 1000000000, b - (b - l.hi) * d.lo / 1000000000⟩ : Rg) = nearM l a b d := by unfold nearM; rw [if_pos h1, if_neg h2]
theorem near_ft {l d : Rg} {a b : Int} (h1 : ¬ l.lo ≥ a) (h2 : l.hi ≥ b) : (⟨a - upZ ((a - l.lo) * d.hi) 1000000000, b + upZ ((l.hi - b) * d.hi) 1000000000⟩ : Rg) = nearM l a b d := by unfold nearM; rw [if_neg h1, if_pos h2]
theorem near_ff {l d : Rg} {a b : Int} (h1 : ¬ l.lo ≥ a) (h2 : ¬ l.hi ≥ b) : (⟨a - upZ ((a - l.lo) * d.hi) 1000000000, b - (b - l.hi) * d.lo / 1000000000⟩ : Rg) = nearM l a b d := by unfold nearM; rw [if_neg h1, if_neg h2]
/-- a part of what is there stays within -/
theorem part_in {x d : Int} (hx : 0 ≤ x) (hx' : x ≤ 1000000000) (hd : 0 ≤ d) (hd' : d ≤ 1000000000) : 0 ≤ x * d / 1000000000 ∧ x * d / 1000000000 ≤ x ∧ 0 ≤ upZ (x * d) 1000000000 ∧ upZ (x * d) 1000000000 ≤ x ∧ 0 ≤ x * d ∧ x * d ≤ 1000000000 * x := by
  have h1 := Int.mul_nonneg hx hd
  have h2 := Int.mul_le_mul (Int.le_refl x) hd' hd hx
  have h3 : x * 1000000000 = 1000000000 * x := Int.mul_comm _ _
  simp only [upZ]
  omega
theorem near_in {l d : Rg} {a b : Int} (hl : inX l) (ha : 0 ≤ a ∧ a ≤ 100000000) (hb : 0 ≤ b ∧ b ≤ 100000000) (hd : inD d) : inX (nearM l a b d) := by
  obtain ⟨l1, l2, l3, l4⟩ := hl
  obtain ⟨d1, d2, d3, d4⟩ := hd
  unfold nearM
  have hlo : 0 ≤ (if l.lo ≥ a then a + (l.lo - a) * d.lo / 1000000000 else a - upZ ((a - l.lo) * d.hi) 1000000000) ∧ (if l.lo ≥ a then a + (l.lo - a) * d.lo / 1000000000 else a - upZ ((a - l.lo) * d.hi) 1000000000) ≤ 100000000 := by
    split
    · have := part_in (x := l.lo - a) (by omega) (by omega) d1 d2; omega
    · have := part_in (x := a - l.lo) (by omega) (by omega) d3 d4; omega
  have hhi : 0 ≤ (if l.hi ≥ b then b + upZ ((l.hi - b) * d.hi) 1000000000 else b - (b - l.hi) * d.lo / 1000000000) ∧ (if l.hi ≥ b then b + upZ ((l.hi - b) * d.hi) 1000000000 else b - (b - l.hi) * d.lo / 1000000000) ≤ 100000000 := by
    split
    · have := part_in (x := l.hi - b) (by omega) (by omega) d3 d4; omega
    · have := part_in (x := b - l.hi) (by omega) (by omega) d1 d2; omega
  exact ⟨hlo.1, hlo.2, hhi.1, hhi.2⟩
theorem dF_in {h : Int} : ∀ (l : List Rg) (x : Int × Rg), (∀ r ∈ l, inR r) → inD x.2 → inD (dF h x l).2
  | [], _, _, hx => hx
  | r :: t, x, hl, hx => by
    show inD (dF h (dS h x r) t).2
    refine dF_in t _ (fun s hs => hl s (List.mem_cons_of_mem _ hs)) ?_
    unfold dS
    split
    · exact hx.mul (hl r List.mem_cons_self)
    · exact hx
theorem rts_in {n : Nat} {r : Rg} (h : r ∈ rts n) : inR r := by
  unfold rts at h
  obtain ⟨k, _, rfl⟩ := List.mem_map.1 h
  exact rootR_in k
theorem decM_in (s h : Int) (n : Nat) : inD (decM s h n) := by
  have h1 : inD (dF h (s % h, halve (s / h).toNat ⟨1000000000, 1000000000⟩) ((rts n).drop 1)).2 := dF_in _ _ (fun r hr => rts_in (List.mem_of_mem_drop hr)) (halve_in _ inD0)
  unfold decM decE
  generalize dF h (s % h, halve (s / h).toNat ⟨1000000000, 1000000000⟩) ((rts n).drop 1) = y at h1
  split
  · obtain ⟨a, b, c, e⟩ := h1
    have hr := rootR_in n
    have := part_in (x := y.2.lo) a b (show 0 ≤ (rootR n).lo by have := hr.a; omega) (by have := hr.b; have := hr.c; omega)
    exact ⟨by dsimp only; omega, by dsimp only; omega, c, e⟩
  · exact h1
/-- a part of a gas, at pressures -/
structure inP (lo hi : Int) : Prop where
  a : 63 ≤ lo
  b : lo ≤ 50000
  c : 63 ≤ hi
  e : hi ≤ 50000
structure inG (g : Gs) : Prop where
  a : 0 ≤ g.o
  b : 0 ≤ g.h
  c : g.o + g.h ≤ 1000
theorem breath_in {n p : Int} (hn : 0 ≤ n ∧ n ≤ 1000) (hp : 63 ≤ p ∧ p ≤ 50000) : 0 ≤ n * (p - 63) ∧ n * (p - 63) ≤ 100000000 := by
  have h1 := Int.mul_nonneg hn.1 (show 0 ≤ p - 63 by omega)
  have h2 := Int.mul_le_mul hn.2 (show p - 63 ≤ 50000 by omega) (by omega) (by omega)
  omega
def stepL (n : Nat) (s lo hi : Int) (g : Gs) (c : Cp) (x : Ld) : Ld :=
  ⟨nearM x.n ((1000 - g.o - g.h) * (lo - 63)) ((1000 - g.o - g.h) * (hi - 63)) (decM s c.n n), nearM x.h (g.h * (lo - 63)) (g.h * (hi - 63)) (decM s c.h n)⟩
theorem step_in {n : Nat} {s lo hi : Int} {g : Gs} {c : Cp} {x : Ld} (hp : inP lo hi) (hg : inG g) (hx : inLd x) : inLd (stepL n s lo hi g c x) := by
  obtain ⟨g1, g2, g3⟩ := hg
  obtain ⟨p1, p2, p3, p4⟩ := hp
  exact ⟨near_in hx.1 (breath_in (by omega) (by omega)) (breath_in (by omega) (by omega)) (decM_in _ _ _), near_in hx.2 (breath_in (by omega) (by omega)) (breath_in (by omega) (by omega)) (decM_in _ _ _)⟩
def stepM (n : Nat) (s lo hi : Int) (g : Gs) (ts : List Cp) (ls : List Ld) : List Ld := List.zipWith (stepL n s lo hi g) ts ls
theorem stepM_len {n : Nat} {s lo hi : Int} {g : Gs} {ts : List Cp} {ls : List Ld} (h : ls.length = ts.length) : (stepM n s lo hi g ts ls).length = ts.length := by
  unfold stepM
  rw [List.length_zipWith]
  omega
theorem stepM_in {n : Nat} {s lo hi : Int} {g : Gs} {ts : List Cp} {ls : List Ld} (hp : inP lo hi) (hg : inG g) (hx : ∀ x ∈ ls, inLd x) : ∀ x ∈ stepM n s lo hi g ts ls, inLd x := by
  intro x h
  unfold stepM at h
  rw [List.zipWith_eq_zipWith_take_min, ← List.map_uncurry_zip_eq_zipWith] at h
  obtain ⟨⟨c, y⟩, hm, rfl⟩ := List.mem_map.1 h
  exact step_in hp hg (hx y (List.mem_of_mem_take (List.of_mem_zip hm).2))
theorem zip_take {α β γ : Type} (f : α → β → γ) {ts : List α} {ls : List β} {k : Nat} {c : α} {x : β} (h1 : ts[k]? = some c) (h2 : ls[k]? = some x) : (List.zipWith f ts ls).take (k + 1) = (List.zipWith f ts ls).take k ++ [f c x] := by
  have h3 : (List.zipWith f ts ls)[k]? = some (f c x) := by rw [List.getElem?_zipWith, h1, h2]
  rw [List.take_add_one, h3]
  rfl

/-! ### Marks -/
structure Mk where
  s : Int
  p : Rg
structure okLg (x : Lg) : Prop where
  f : okPr x.f
  t : okPr x.t
  s : 0 ≤ x.s ∧ x.s ≤ 100000
  g : inG x.g
theorem ckLeg_ok {x : Lg} (h : ckLeg x = 0) : okLg x ∧ (x.s = 0 → x.f = x.t) := by
  unfold ckLeg at h
  split at h
  · cases h
  · rename_i h1
    split at h
    · rename_i h2; exact absurd h h2
    · rename_i h2
      split at h
      · cases h
      · rename_i h3
        have hg : ckGas x.g.o x.g.h = 0 := Decidable.not_not.1 h2
        unfold ckGas at hg
        split at hg
        · cases hg
        · split at hg
          · cases hg
          · have h4 := Decidable.not_not.1 h1
            exact ⟨⟨h4.1, h4.2.1, h4.2.2, ⟨by omega, by omega, by omega⟩⟩, fun h0 => by omega⟩
def sumM (x : Lg) (s : Int) : Int := x.f * (x.s - s) + x.t * s
def mkM (x : Lg) (n j : Int) : Mk := ⟨j * x.s / n, if x.s > 0 then ⟨sumM x (j * x.s / n) / x.s, upZ (sumM x (j * x.s / n)) x.s⟩ else ⟨x.f, x.f⟩⟩
def mksL (x : Lg) (n k : Nat) : List Mk := (List.range k).map fun j : Nat => mkM x n j
theorem mksL_succ (x : Lg) (n k : Nat) : mksL x n (k + 1) = mksL x n k ++ [mkM x n k] := by
  unfold mksL
  rw [List.range_succ, List.map_append]
  rfl
theorem mksL_len (x : Lg) (n k : Nat) : (mksL x n k).length = k := by simp [mksL]
theorem mksL_get {x : Lg} {n k j : Nat} (h : j < k) : (mksL x n k)[j]? = some (mkM x n j) := by
  unfold mksL
  rw [List.getElem?_map, List.getElem?_range h]
  rfl
theorem sec_in {j n S : Int} (hj : 0 ≤ j ∧ j ≤ n) (hn : 1 ≤ n ∧ n ≤ 64) (hS : 0 ≤ S ∧ S ≤ 100000) : 0 ≤ j * S ∧ j * S ≤ 6400000 ∧ 0 ≤ j * S / n ∧ j * S / n ≤ S := by
  have h1 := Int.mul_nonneg hj.1 hS.1
  have h2 := Int.mul_le_mul hj.2 (Int.le_refl S) hS.1 (by omega : (0 : Int) ≤ n)
  have h3 := Int.mul_le_mul (show n ≤ 64 by omega) hS.2 hS.1 (by omega : (0 : Int) ≤ 64)
  refine ⟨h1, by omega, Int.ediv_nonneg h1 (by omega), Int.ediv_le_of_le_mul (by omega) (by rw [Int.mul_comm S n]; exact h2)⟩
theorem sec_mono {j n S : Int} (hn : 1 ≤ n) (hS : 0 ≤ S) : j * S / n ≤ (j + 1) * S / n := Int.ediv_le_ediv (by omega) (by rw [Int.add_mul]; omega)
theorem sec_end {n S : Int} (hn : 1 ≤ n) : n * S / n = S := Int.mul_ediv_cancel_left _ (by omega)
theorem sum_in {x : Lg} {s : Int} (h : okLg x) (h0 : 0 ≤ s ∧ s ≤ x.s) : 0 ≤ x.f * (x.s - s) ∧ x.f * (x.s - s) ≤ 3110000000 ∧ 0 ≤ x.t * s ∧ x.t * s ≤ 3110000000 ∧ 400 * x.s ≤ sumM x s ∧ sumM x s ≤ 31100 * x.s ∧ sumM x s = x.f * (x.s - s) + x.t * s := by
  obtain ⟨⟨f1, f2⟩, ⟨t1, t2⟩, ⟨s1, s2⟩, _⟩ := h
  have a1 := Int.mul_le_mul f1 (Int.le_refl (x.s - s)) (by omega) (by omega)
  have a2 := Int.mul_le_mul f2 (Int.le_refl (x.s - s)) (by omega) (by omega)
  have a3 := Int.mul_le_mul t1 (Int.le_refl s) (by omega) (by omega)
  have a4 := Int.mul_le_mul t2 (Int.le_refl s) (by omega) (by omega)
  unfold sumM
  omega
theorem sum_alt (x : Lg) (s : Int) : x.f * x.s + (x.t - x.f) * s = sumM x s := by unfold sumM; grind
theorem quo_in {a S : Int} (hS : 1 ≤ S) (h1 : 400 * S ≤ a) (h2 : a ≤ 31100 * S) : 400 ≤ a / S ∧ a / S ≤ 31100 ∧ 400 ≤ upZ a S ∧ upZ a S ≤ 31100 ∧ a / S ≤ upZ a S := by
  have e1 : 400 ≤ a / S := Int.le_ediv_of_mul_le (by omega) h1
  have e2 : a / S ≤ 31100 := Int.ediv_le_of_le_mul (by omega) h2
  have e3 : upZ a S ≤ 31100 := by
    have : (a + S - 1) / S < 31101 := Int.ediv_lt_of_lt_mul (by omega) (by omega)
    unfold upZ; omega
  have e4 : a / S ≤ upZ a S := Int.ediv_le_ediv (by omega) (by omega)
  omega
theorem mk_in {x : Lg} {n j : Int} (h : okLg x) (hj : 0 ≤ j ∧ j ≤ n) (hn : 1 ≤ n ∧ n ≤ 64) : (0 ≤ (mkM x n j).s ∧ (mkM x n j).s ≤ x.s) ∧ 400 ≤ (mkM x n j).p.lo ∧ (mkM x n j).p.lo ≤ 31100 ∧ 400 ≤ (mkM x n j).p.hi ∧ (mkM x n j).p.hi ≤ 31100 ∧ (mkM x n j).p.lo ≤ (mkM x n j).p.hi := by
  have h1 := sec_in hj hn h.s
  refine ⟨⟨h1.2.2.1, h1.2.2.2⟩, ?_⟩
  unfold mkM
  dsimp only
  split
  · have h2 := sum_in h ⟨h1.2.2.1, h1.2.2.2⟩
    have h3 := quo_in (show 1 ≤ x.s by omega) h2.2.2.2.2.1 h2.2.2.2.2.2.1
    dsimp only
    omega
  · have := h.f
    unfold okPr at this
    dsimp only
    omega
/-- the loads at a mark of a leg -/
def stM (f : Nat) (ts : List Cp) (ls : List Ld) (x : Lg) (n : Nat) : Nat → List Ld
  | 0 => ls
  | k + 1 => stepM (8 + 2 * f) ((mkM x n ((k : Int) + 1)).s - (mkM x n k).s) (min (mkM x n k).p.lo (mkM x n ((k : Int) + 1)).p.lo) (max (mkM x n k).p.hi (mkM x n ((k : Int) + 1)).p.hi) x.g ts (stM f ts ls x n k)
theorem stM_len {f : Nat} {ts : List Cp} {ls : List Ld} {x : Lg} {n : Nat} (h : ls.length = ts.length) : ∀ k, (stM f ts ls x n k).length = ts.length
  | 0 => h
  | k + 1 => stepM_len (stM_len h k)
theorem stM_in {f : Nat} {ts : List Cp} {ls : List Ld} {x : Lg} {n : Nat} (hx : okLg x) (hn : 1 ≤ n ∧ n ≤ 64) (hl : ∀ y ∈ ls, inLd y) : ∀ k, k ≤ n → ∀ y ∈ stM f ts ls x n k, inLd y
  | 0, _ => hl
  | k + 1, hk => by
    have h1 := mk_in (j := (k : Int)) hx (n := (n : Int)) (by omega) (by omega)
    have h2 := mk_in (j := (k : Int) + 1) hx (n := (n : Int)) (by omega) (by omega)
    exact stepM_in ⟨by omega, by omega, by omega, by omega⟩ hx.g (stM_in hx hn hl k (by omega))
def loadedM (ts : List Cp) (ls : List Ld) (x : Lg) (f : Nat) : List Ld := if x.s = 0 then ls else stM f ts ls x (2 ^ f) (2 ^ f)
theorem two_f {f n : Nat} (hf : f ≤ 6) (hn : n = 2 ^ f) : 1 ≤ n ∧ n ≤ 64 := by
  subst hn
  match f, hf with
  | 0, _ => decide
  | 1, _ => decide
  | 2, _ => decide
  | 3, _ => decide
  | 4, _ => decide
  | 5, _ => decide
  | 6, _ => decide
/-- the lesser pressure of the step that leads to a mark -/
def lowM (x : Lg) (n : Nat) : Nat → Int
  | 0 => (mkM x n (0 : Nat)).p.lo
  | k + 1 => min (mkM x n k).p.lo (mkM x n ((k : Int) + 1)).p.lo
theorem mk_mono {x : Lg} {n : Nat} (h : okLg x) (hn : 1 ≤ n) (k : Nat) : (mkM x n k).s ≤ (mkM x n ((k : Int) + 1)).s := sec_mono (by omega) h.s.1
theorem loadedM_pos {ts : List Cp} {ls : List Ld} {x : Lg} {f n : Nat} (h : x.s ≠ 0) (hn : n = 2 ^ f) : loadedM ts ls x f = stM f ts ls x n n := by
  unfold loadedM
  rw [if_neg h, ← hn]
theorem loadedM_zero {ts : List Cp} {ls : List Ld} {x : Lg} {f : Nat} (h : x.s = 0) : loadedM ts ls x f = ls := if_pos h
theorem loadedM_len {ts : List Cp} {ls : List Ld} {x : Lg} {f : Nat} (h : ls.length = ts.length) : (loadedM ts ls x f).length = ts.length := by
  unfold loadedM
  split
  · exact h
  · exact stM_len h _
end Go.Proofs.Ytecfnhgbgngpiaa
namespace Go.Proofs.Ytecfnhgbgngpiaa

/-! ### Right tables and loads -/
def ordLd (l : Ld) : Prop := l.n.lo ≤ l.n.hi ∧ l.h.lo ≤ l.h.hi
structure okTL (ts : List Cp) (ls : List Ld) : Prop where
  a : 1 ≤ ts.length
  b : ts.length ≤ 16
  len : ls.length = ts.length
  c : ∀ c ∈ ts, okCp c
  x : ∀ y ∈ ls, inLd y
  o : ∀ y ∈ ls, ordLd y
theorem ckCps_ok : ∀ {ts : List Cp}, ckCps ts = 0 → ∀ c ∈ ts, okCp c
  | [], _, c, hc => by cases hc
  | d :: t, h, c, hc => by
    unfold ckCps at h
    split at h
    · rename_i hd
      rcases List.mem_cons.1 hc with rfl | hc
      · exact hd
      · exact ckCps_ok h c hc
    · cases h
theorem ckLd_ok {l : Ld} (h : ckLd l = 0) : inLd l ∧ ordLd l := by
  have h1 := ckSpan_cases l.n
  have h2 := ckSpan_cases l.h
  unfold ckLd at h
  split at h
  · cases h
  · split at h
    · cases h
    · rename_i h3 h4
      have ⟨a1, a2, a3, a4, a5⟩ : ckSpan l.n = 0 ∧ 0 ≤ l.n.lo ∧ l.n.lo ≤ 100000000 ∧ 0 ≤ l.n.hi ∧ l.n.hi ≤ 100000000 := by omega
      have ⟨b1, b2, b3, b4, b5⟩ : ckSpan l.h = 0 ∧ 0 ≤ l.h.lo ∧ l.h.lo ≤ 100000000 ∧ 0 ≤ l.h.hi ∧ l.h.hi ≤ 100000000 := by omega
      exact ⟨⟨⟨a2, a3, a4, a5⟩, ⟨b2, b3, b4, b5⟩⟩, by unfold ordLd; omega⟩
theorem ckLds_ok : ∀ {ls : List Ld}, ckLds ls = 0 → ∀ y ∈ ls, inLd y ∧ ordLd y
  | [], _, y, hy => by cases hy
  | d :: t, h, y, hy => by
    unfold ckLds at h
    split at h
    · rename_i hd; exact absurd h hd
    · rename_i hd
      rcases List.mem_cons.1 hy with rfl | hy
      · exact ckLd_ok (Decidable.not_not.1 hd)
      · exact ckLds_ok h y hy
theorem ckLoads_ok {ts : List Cp} {ls : List Ld} (h : ckLoads ts ls = 0) : okTL ts ls := by
  unfold ckLoads at h
  split at h
  · rename_i h1; exact absurd h h1
  · rename_i h1
    have h1 := Decidable.not_not.1 h1
    split at h
    · cases h
    · rename_i h2
      have h2 := Decidable.not_not.1 h2
      unfold ckTab at h1
      split at h1
      · rename_i h3
        exact ⟨h3.1, h3.2, h2, ckCps_ok h1, fun y hy => (ckLds_ok h y hy).1, fun y hy => (ckLds_ok h y hy).2⟩
      · cases h1
def loadedE (ts : List Cp) (ls : List Ld) (x : Lg) (f : Int) : List Ld × Int :=
  if ckLoads ts ls ≠ 0 then ([], ckLoads ts ls) else if ckLeg x ≠ 0 then ([], ckLeg x) else if 0 ≤ f ∧ f ≤ 6 then (loadedM ts ls x f.toNat, 0) else ([], 2)
theorem loadedE_1 {ts : List Cp} {ls : List Ld} {x : Lg} {f : Int} (h : ckLoads ts ls ≠ 0) : loadedE ts ls x f = ([], ckLoads ts ls) := if_pos h
theorem loadedE_2 {ts : List Cp} {ls : List Ld} {x : Lg} {f : Int} (h : ¬ ckLoads ts ls ≠ 0) (h2 : ckLeg x ≠ 0) : loadedE ts ls x f = ([], ckLeg x) := by unfold loadedE; rw [if_neg h, if_pos h2]
theorem loadedE_3 {ts : List Cp} {ls : List Ld} {x : Lg} {f : Int} (h : ¬ ckLoads ts ls ≠ 0) (h2 : ¬ ckLeg x ≠ 0) (h3 : ¬ (0 ≤ f ∧ f ≤ 6)) : loadedE ts ls x f = ([], 2) := by unfold loadedE; rw [if_neg h, if_neg h2, if_neg h3]
theorem loadedE_4 {ts : List Cp} {ls : List Ld} {x : Lg} {f : Nat} (h : ¬ ckLoads ts ls ≠ 0) (h2 : ¬ ckLeg x ≠ 0) (h3 : f ≤ 6) : loadedE ts ls x (f : Int) = (loadedM ts ls x f, 0) := by unfold loadedE; rw [if_neg h, if_neg h2, if_pos (by omega)]; rfl

/-! ### Limits -/
def limM (c : Cp) (p f : Int) : Int := 1000000 * p + f * (1000 * c.b + (c.s - 1000) * p)
theorem lim_in {c : Cp} {p f : Int} (hc : okCp c) (hp : 0 ≤ p ∧ p ≤ 50000) (hf : 0 ≤ f ∧ f ≤ 1000) : 0 ≤ (c.s - 1000) * p ∧ (c.s - 1000) * p ≤ 450000000 ∧ 0 ≤ f * (1000 * c.b + (c.s - 1000) * p) ∧ f * (1000 * c.b + (c.s - 1000) * p) ≤ 460000000000 ∧ limM c p f = 1000000 * p + f * (1000 * c.b + (c.s - 1000) * p) := by
  obtain ⟨_, _, _, _, b1, b2, s1, s2⟩ := hc
  have h1 := Int.mul_nonneg (show 0 ≤ c.s - 1000 by omega) hp.1
  have h2 := Int.mul_le_mul (show c.s - 1000 ≤ 9000 by omega) hp.2 hp.1 (by omega)
  have h3 := Int.mul_nonneg hf.1 (show 0 ≤ 1000 * c.b + (c.s - 1000) * p by omega)
  have h4 := Int.mul_le_mul hf.2 (show 1000 * c.b + (c.s - 1000) * p ≤ 460000000 by omega) (by omega) (by omega)
  exact ⟨h1, by omega, h3, by omega, rfl⟩
theorem lim_rise (c : Cp) (f : Int) : limM c 1 f - limM c 0 f = 1000000 + f * (c.s - 1000) := by unfold limM; grind
theorem lim_zero (c : Cp) (f : Int) : limM c 0 f = 1000 * f * c.b := by unfold limM; grind
theorem rise_in {c : Cp} {f : Int} (hc : okCp c) (hf : 0 ≤ f ∧ f ≤ 1000) : 0 ≤ f * (c.s - 1000) ∧ f * (c.s - 1000) ≤ 9000000 ∧ 0 ≤ 1000 * f * c.b ∧ 1000 * f * c.b ≤ 10000000000 := by
  obtain ⟨_, _, _, _, b1, b2, s1, s2⟩ := hc
  have h1 := Int.mul_nonneg hf.1 (show 0 ≤ c.s - 1000 by omega)
  have h2 := Int.mul_le_mul hf.2 (show c.s - 1000 ≤ 9000 by omega) (by omega) (by omega)
  have h3 := Int.mul_nonneg (show 0 ≤ 1000 * f by omega) b1
  have h4 := Int.mul_le_mul (show 1000 * f ≤ 1000000 by omega) b2 b1 (by omega)
  omega
def ceilL (c : Cp) (z f : Int) : Int := upZ (max 0 (1000 * z - limM c 0 f)) (limM c 1 f - limM c 0 f)
theorem ceil_ref {c : Cp} {z f : Int} (hc : okCp c) (hf : 0 ≤ f ∧ f ≤ 1000) : max 0 (upZ (1000 * z - 1000 * f * c.b) (1000000 + f * (c.s - 1000))) = ceilL c z f := by
  unfold ceilL
  rw [lim_rise, lim_zero]
  have h := rise_in hc hf
  generalize 1000 * z - 1000 * f * c.b = y
  have hr : 1 ≤ 1000000 + f * (c.s - 1000) := by omega
  generalize 1000000 + f * (c.s - 1000) = r at hr
  unfold upZ
  by_cases hy : 0 ≤ y
  · rw [Int.max_eq_right hy]
    exact Int.max_eq_right (Int.ediv_nonneg (by omega) (by omega))
  · rw [Int.max_eq_left (a := 0) (b := y) (by omega)]
    have h1 : (0 + r - 1) / r = 0 := Int.ediv_eq_zero_of_lt (by omega) (by omega)
    have h2 : (y + r - 1) / r ≤ (0 + r - 1) / r := Int.ediv_le_ediv (by omega) (by omega)
    rw [h1] at h2 ⊢
    exact Int.max_eq_left h2
def ceilF (f : Int) : List Cp → List Ld → Rg → Rg
  | c :: ts, x :: ls, r => ceilF f ts ls ⟨max r.lo (ceilL c (x.n.lo + x.h.lo) f), max r.hi (ceilL c (x.n.hi + x.h.hi) f)⟩
  | _, _, r => r
theorem ceilF_step {f : Int} {ts : List Cp} {ls : List Ld} {k : Nat} {c : Cp} {x : Ld} {r : Rg} (h1 : ts[k]? = some c) (h2 : ls[k]? = some x) :
    ceilF f (ts.drop k) (ls.drop k) r = ceilF f (ts.drop (k + 1)) (ls.drop (k + 1)) ⟨max r.lo (ceilL c (x.n.lo + x.h.lo) f), max r.hi (ceilL c (x.n.hi + x.h.hi) f)⟩ := by
  rw [drop_cons h1, drop_cons h2]
  rfl
theorem ceilF_end {f : Int} {ts : List Cp} {ls : List Ld} {k : Nat} {r : Rg} (h1 : ts.length ≤ k) : ceilF f (ts.drop k) (ls.drop k) r = r := by
  rw [drop_all h1]
  unfold ceilF
  rfl
def ceilE (ts : List Cp) (ls : List Ld) (f : Int) : Rg × Int := if ckLoads ts ls ≠ 0 then (⟨0, 0⟩, ckLoads ts ls) else if 0 ≤ f ∧ f ≤ 1000 then (ceilF f ts ls ⟨0, 0⟩, 0) else (⟨0, 0⟩, 2)
theorem ceilE_1 {ts : List Cp} {ls : List Ld} {f : Int} (h : ckLoads ts ls ≠ 0) : ceilE ts ls f = (⟨0, 0⟩, ckLoads ts ls) := if_pos h
theorem ceilE_2 {ts : List Cp} {ls : List Ld} {f : Int} (h : ¬ ckLoads ts ls ≠ 0) (h2 : ¬ (0 ≤ f ∧ f ≤ 1000)) : ceilE ts ls f = (⟨0, 0⟩, 2) := by unfold ceilE; rw [if_neg h, if_neg h2]
theorem ceilE_3 {ts : List Cp} {ls : List Ld} {f : Int} (h : ¬ ckLoads ts ls ≠ 0) (h2 : 0 ≤ f ∧ f ≤ 1000) : ceilE ts ls f = (ceilF f ts ls ⟨0, 0⟩, 0) := by unfold ceilE; rw [if_neg h, if_pos h2]
theorem rootOfM_yes {n : Nat} (h : n ≤ 24) : rootOfM (n : Int) = (rootR n, 0) := by unfold rootOfM; rw [if_pos (by omega)]; rfl
theorem rootOfM_no {l : Int} (h : ¬ (0 ≤ l ∧ l ≤ 24)) : rootOfM l = (⟨0, 0⟩, 2) := if_neg h
theorem decayM_yes {s h : Int} {n : Nat} (hc : 0 ≤ s ∧ s ≤ 1000000 ∧ 1 ≤ h ∧ h ≤ 100000 ∧ n ≤ 24) : decayM s h (n : Int) = (decM s h n, 0) := by unfold decayM; rw [if_pos (by omega)]; rfl
theorem decayM_no {s h l : Int} (hc : ¬ (0 ≤ s ∧ s ≤ 1000000 ∧ 1 ≤ h ∧ h ≤ 100000 ∧ 0 ≤ l ∧ l ≤ 24)) : decayM s h l = (⟨0, 0⟩, 2) := if_neg hc

/-! ### Rests -/
def restM (ts : List Cp) (ls : List Ld) (p s : Int) : List Ld := stepM 20 s p p ⟨210, 0⟩ ts ls
def restE (ts : List Cp) (ls : List Ld) (p s : Int) : List Ld × Int :=
  if ckLoads ts ls ≠ 0 then ([], ckLoads ts ls) else if 400 ≤ p ∧ p ≤ 1100 ∧ 0 ≤ s ∧ s ≤ 1000000 then (restM ts ls p s, 0) else ([], 2)
theorem restE_1 {ts : List Cp} {ls : List Ld} {p s : Int} (h : ckLoads ts ls ≠ 0) : restE ts ls p s = ([], ckLoads ts ls) := if_pos h
theorem restE_2 {ts : List Cp} {ls : List Ld} {p s : Int} (h : ¬ ckLoads ts ls ≠ 0) (h2 : ¬ (400 ≤ p ∧ p ≤ 1100 ∧ 0 ≤ s ∧ s ≤ 1000000)) : restE ts ls p s = ([], 2) := by unfold restE; rw [if_neg h, if_neg h2]
theorem restE_3 {ts : List Cp} {ls : List Ld} {p s : Int} (h : ¬ ckLoads ts ls ≠ 0) (h2 : 400 ≤ p ∧ p ≤ 1100 ∧ 0 ≤ s ∧ s ≤ 1000000) : restE ts ls p s = (restM ts ls p s, 0) := by unfold restE; rw [if_neg h, if_pos h2]
end Go.Proofs.Ytecfnhgbgngpiaa
