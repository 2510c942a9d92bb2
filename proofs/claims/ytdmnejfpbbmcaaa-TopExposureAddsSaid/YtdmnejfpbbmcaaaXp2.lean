/-
  Plain models of chapter 5: breathing, escapes, needs. Conditions: none; no program in sight.
-/
import Derived.Test.YtdmnejfpbbmcaaaXp1
namespace Go.Proofs.Ytdmnejfpbbmcaaa

theorem upZ_mul {a c s : Int} (hc : 1 ≤ c) (hs : 1 ≤ s) : upZ (a * s) (c * s) = upZ a c := by
  have h1 := Int.mul_ediv_add_emod (a + c - 1) c
  have h2 := Int.emod_nonneg (a + c - 1) (show c ≠ 0 by omega)
  have h3 := Int.emod_lt_of_pos (a + c - 1) (show 0 < c by omega)
  unfold upZ
  generalize hq : (a + c - 1) / c = q at *
  generalize hr : (a + c - 1) % c = r at *
  have hcs : 0 < c * s := Int.mul_pos (by omega) (by omega)
  have e : a * s + c * s - 1 = (r * s + s - 1) + c * s * q := by
    have : a = r - c + 1 + c * q := by omega
    rw [this]; grind
  rw [e, Int.add_mul_ediv_left _ _ (by omega), Int.ediv_eq_zero_of_lt]
  · omega
  · have := Int.mul_nonneg h2 (show 0 ≤ s by omega); omega
  · have := Int.mul_le_mul_of_nonneg_right (show r + 1 ≤ c by omega) (show 0 ≤ s by omega)
    rw [Int.add_mul] at this
    omega
theorem upZ_in {n b N : Int} (h : 0 ≤ n ∧ n ≤ N) (hb : 1 ≤ b) : 0 ≤ upZ n b ∧ upZ n b ≤ N := by
  unfold upZ
  refine ⟨Int.ediv_nonneg (by omega) (by omega), ?_⟩
  have : (n + b - 1) / b < N + 1 := Int.ediv_lt_of_lt_mul (by omega) (by
    have := Int.mul_le_mul_of_nonneg_left hb (show 0 ≤ N by omega)
    have e : (N + 1) * b = N * b + b := by rw [Int.add_mul]; omega
    omega)
  omega
def brM (b n : Int) (x : Le) : Int := if n = x.x.s then upZ (b * (x.f + x.t) * n) 120000 else upZ (b * n * (2 * x.f * x.x.s + (x.t - x.f) * n)) (120000 * x.x.s)
def partM (b n : Int) (x : Le) : Int := upZ (b * n * (2 * x.f * x.x.s + (x.t - x.f) * n)) (120000 * x.x.s)
theorem part_br {b n : Int} {x : Le} (h : okLe x) : partM b n x = brM b n x := by
  unfold partM brM
  by_cases hc : n = x.x.s
  · rw [if_pos hc, hc]
    have e : b * x.x.s * (2 * x.f * x.x.s + (x.t - x.f) * x.x.s) = b * (x.f + x.t) * x.x.s * x.x.s := by grind
    rw [e, upZ_mul (by omega) h.s.1]
  · rw [if_neg hc]
theorem br_fact {b n : Int} {x : Le} (h : okLe x) (hb : 1 ≤ b ∧ b ≤ 100000) (hn : 0 ≤ n ∧ n ≤ x.x.s) : (0 ≤ b * (x.f + x.t) ∧ b * (x.f + x.t) ≤ 6220000000) ∧ (0 ≤ b * (x.f + x.t) * n ∧ b * (x.f + x.t) * n ≤ 6220000000000000) := by
  have h1 := h.f
  have h2 := h.t
  have h3 := h.sf
  have h4 := h.s
  have a := mulB (a := b) (b := x.f + x.t) (A := 100000) (B := 62200) (by omega) (by omega)
  have c := mulB (a := b * (x.f + x.t)) (b := n) (A := 6220000000) (B := 1000000) (by omega) (by omega)
  exact ⟨by omega, by omega⟩
theorem br_fact2 {b n : Int} {x : Le} (h : okLe x) (hb : 1 ≤ b ∧ b ≤ 100000) (hn : 0 ≤ n ∧ n ≤ x.x.s) (hs : x.x.s ≤ 20000) : (0 ≤ b * n ∧ b * n ≤ 2000000000) ∧ (0 ≤ x.f * x.x.s ∧ x.f * x.x.s ≤ 622000000) ∧ (-622000000 ≤ (x.t - x.f) * n ∧ (x.t - x.f) * n ≤ 622000000) ∧ (0 ≤ 2 * x.f * x.x.s + (x.t - x.f) * n ∧ 2 * x.f * x.x.s + (x.t - x.f) * n ≤ 1244000000) ∧
    (0 ≤ b * n * (2 * x.f * x.x.s + (x.t - x.f) * n) ∧ b * n * (2 * x.f * x.x.s + (x.t - x.f) * n) ≤ 2488000000000000000) ∧ (0 ≤ 2 * x.f * x.x.s ∧ 2 * x.f * x.x.s ≤ 1244000000) := by
  have h1 := h.f
  have h2 := h.t
  have h3 := h.sf
  have h4 := h.s
  have a := mulB (a := b) (b := n) (A := 100000) (B := 20000) (by omega) (by omega)
  have c := mulB (a := x.f) (b := x.x.s) (A := 31100) (B := 20000) (by omega) (by omega)
  have d := mulB (a := x.t) (b := n) (A := 31100) (B := n) (by omega) (by omega)
  have e := mulB (a := x.f) (b := n) (A := 31100) (B := 20000) (by omega) (by omega)
  have f := mulB (a := x.f) (b := x.x.s - n) (A := 31100) (B := x.x.s - n) (by omega) (by omega)
  have e1 : (x.t - x.f) * n = x.t * n - x.f * n := by rw [Int.sub_mul]
  have e2 : 2 * x.f * x.x.s = 2 * (x.f * x.x.s) := by rw [Int.mul_assoc]
  have e3 : x.f * (x.x.s - n) = x.f * x.x.s - x.f * n := by rw [Int.mul_sub]
  have hsum : 0 ≤ 2 * x.f * x.x.s + (x.t - x.f) * n ∧ 2 * x.f * x.x.s + (x.t - x.f) * n ≤ 1244000000 := by
    rw [e1, e2]
    omega
  have g := mulB (A := 2000000000) (B := 1244000000) (show 0 ≤ b * n ∧ b * n ≤ 2000000000 by omega) hsum
  exact ⟨⟨a.1, by omega⟩, by omega, by rw [e1]; omega, hsum, ⟨g.1, by omega⟩, by rw [e2]; omega⟩
theorem brM_in {b n : Int} {x : Le} (h : okLe x) (hb : 1 ≤ b ∧ b ≤ 100000) (hn : 0 ≤ n ∧ n ≤ x.x.s) (hs : n = x.x.s ∨ x.x.s ≤ 20000) : 0 ≤ brM b n x ∧ brM b n x ≤ 51833333334 := by
  unfold brM
  by_cases hc : n = x.x.s
  · rw [if_pos hc]
    have := (br_fact h hb hn).2
    unfold upZ
    omega
  · rw [if_neg hc]
    have h9 := br_fact2 h hb hn (by omega)
    have h8 := h9.1
    have h4 := h.s
    have h7 := h9.2.2.2.1
    have hbn := mulB (a := b * n) (b := 2 * x.f * x.x.s + (x.t - x.f) * n) (A := 100000 * x.x.s) (B := 1244000000) (by
      have := mulB (a := b) (b := n) (A := 100000) (B := x.x.s) (by omega) (by omega)
      omega) (by omega)
    unfold upZ
    generalize b * n * (2 * x.f * x.x.s + (x.t - x.f) * n) = m at *
    constructor
    · exact Int.ediv_nonneg (by omega) (by omega)
    · have h6 : (m + 120000 * x.x.s - 1) / (120000 * x.x.s) < 51833333334 + 1 := Int.ediv_lt_of_lt_mul (by omega) (by
        have e1 : 100000 * x.x.s * 1244000000 = 124400000000000 * x.x.s := by grind
        have e2 : (51833333334 + 1) * (120000 * x.x.s) = 6220000000200000 * x.x.s := by grind
        omega)
      omega
/-! ### Answers with errors -/
def clkE (nm : ByteArray) (sf : Int) (gs : List Gs) (ls : List Dl) (r : Ru) : List Int × Int := if bothE nm sf gs ls r ≠ 0 then ([], bothE nm sf gs ls r) else (clksK r.tb sf gs ls ls.length, 0)
theorem clkE_1 {nm : ByteArray} {sf : Int} {gs : List Gs} {ls : List Dl} {r : Ru} (h : bothE nm sf gs ls r ≠ 0) : clkE nm sf gs ls r = ([], bothE nm sf gs ls r) := if_pos h
theorem clkE_2 {nm : ByteArray} {sf : Int} {gs : List Gs} {ls : List Dl} {r : Ru} (h : bothE nm sf gs ls r = 0) : clkE nm sf gs ls r = (clksK r.tb sf gs ls ls.length, 0) := if_neg (fun hh => hh h)
/-! ### Sums by gases -/
def addAt (L : List Int) (i : Nat) (a : Int) : List Int := L.set i (L[i]?.getD 0 + a)
theorem addAt_len (L : List Int) (i : Nat) (a : Int) : (addAt L i a).length = L.length := by simp [addAt]
theorem addAt_zero (L : List Int) (i : Nat) : addAt L i 0 = L := by
  unfold addAt
  rw [Int.add_zero]
  apply List.ext_getElem?
  intro j
  rw [List.getElem?_set]
  by_cases h : i = j
  · subst h
    by_cases h2 : i < L.length
    · simp [h2]
    · simp [h2]
  · simp [h]
def consK (n : Nat) (ls : List Dl) (amt : Nat → Int) : Nat → List Int
  | 0 => List.replicate n 0
  | k + 1 => addAt (consK n ls amt k) (dlAt ls k).g.toNat (amt k)
theorem consK_len (n : Nat) (ls : List Dl) (amt : Nat → Int) : ∀ k, (consK n ls amt k).length = n
  | 0 => by simp [consK]
  | k + 1 => by unfold consK; rw [addAt_len, consK_len n ls amt k]
theorem addAt_get {L : List Int} {i j : Nat} {a v : Int} (h : (addAt L i a)[j]? = some v) : (i = j ∧ ∃ u, L[j]? = some u ∧ v = u + a) ∨ (i ≠ j ∧ L[j]? = some v) := by
  unfold addAt at h
  rw [List.getElem?_set] at h
  by_cases hij : i = j
  · subst hij
    rw [if_pos rfl] at h
    by_cases h2 : i < L.length
    · rw [if_pos h2] at h
      injection h with h
      exact .inl ⟨rfl, L[i], List.getElem?_eq_getElem h2, by rw [← h, List.getElem?_eq_getElem h2]; rfl⟩
    · rw [if_neg h2] at h; cases h
  · rw [if_neg hij] at h
    exact .inr ⟨hij, h⟩
theorem consK_in {n : Nat} {ls : List Dl} {amt : Nat → Int} {A : Int} (hA : 0 ≤ A) : ∀ k, (∀ i, i < k → 0 ≤ amt i ∧ amt i ≤ A) → ∀ (j : Nat) (v : Int), (consK n ls amt k)[j]? = some v → 0 ≤ v ∧ v ≤ A * k
  | 0, _, j, v, hv => by
    unfold consK at hv
    rw [List.getElem?_replicate] at hv
    split at hv
    · injection hv with hv; subst hv; simp
    · cases hv
  | k + 1, h, j, v, hv => by
    have ih := consK_in (n := n) (ls := ls) hA k (fun i hi => h i (by omega))
    have ha := h k (by omega)
    have e : A * ((k + 1 : Nat) : Int) = A * k + A := by rw [Int.natCast_add, Int.mul_add]; omega
    rw [e]
    unfold consK at hv
    rcases addAt_get hv with ⟨_, u, hu, rfl⟩ | ⟨_, hu⟩
    · have := ih j u hu; omega
    · have := ih j v hu; omega
def amtS (sf : Int) (gs : List Gs) (ls : List Dl) (b : Int) (i : Nat) : Int := brM b (dlAt ls i).s (legAt sf gs ls i)
theorem amtS_in {sf : Int} {gs : List Gs} {ls : List Dl} {b : Int} (H : okPl sf gs ls) (hb : 1 ≤ b ∧ b ≤ 100000) {i : Nat} (hi : i < ls.length) : 0 ≤ amtS sf gs ls b i ∧ amtS sf gs ls b i ≤ 51833333334 := by
  have h := H.le hi
  have hs : 1 ≤ (dlAt ls i).s ∧ _ := h.s
  exact brM_in h hb (by show 0 ≤ (dlAt ls i).s ∧ (dlAt ls i).s ≤ (dlAt ls i).s; omega) (.inl rfl)
def consE (nm : ByteArray) (sf : Int) (gs : List Gs) (ls : List Dl) (b : Int) : List Int × Int := if (ckPl nm sf gs ls).2 ≠ 0 then ([], (ckPl nm sf gs ls).2) else if 1 ≤ b ∧ b ≤ 100000 then (consK gs.length ls (amtS sf gs ls b) ls.length, 0) else ([], 2)
theorem consE_1 {nm : ByteArray} {sf b : Int} {gs : List Gs} {ls : List Dl} (h : (ckPl nm sf gs ls).2 ≠ 0) : consE nm sf gs ls b = ([], (ckPl nm sf gs ls).2) := if_pos h
theorem consE_2 {nm : ByteArray} {sf b : Int} {gs : List Gs} {ls : List Dl} (h : (ckPl nm sf gs ls).2 = 0) (h2 : ¬ (1 ≤ b ∧ b ≤ 100000)) : consE nm sf gs ls b = ([], 2) := by unfold consE; rw [if_neg (fun hh => hh h), if_neg h2]
theorem consE_3 {nm : ByteArray} {sf b : Int} {gs : List Gs} {ls : List Dl} (h : (ckPl nm sf gs ls).2 = 0) (h2 : 1 ≤ b ∧ b ≤ 100000) : consE nm sf gs ls b = (consK gs.length ls (amtS sf gs ls b) ls.length, 0) := by unfold consE; rw [if_neg (fun hh => hh h), if_pos h2]
/-! ### Escapes -/
def escM (r : Ru) (sf d : Int) : Int := upZ (r.em * ((sf + d) * r.pa * r.ac + (2 * sf + d) * 30 * d)) (60000 * r.ac)
theorem upZ_mono {a b c : Int} (h : a ≤ b) (hc : 1 ≤ c) : upZ a c ≤ upZ b c := by
  unfold upZ
  exact Int.ediv_le_ediv (by omega) (by omega)
end Go.Proofs.Ytdmnejfpbbmcaaa
