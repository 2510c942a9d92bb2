/-
  Plain models of chapters 1 and 5: roundings, narcotic depths, densities, the depths for a gas. Conditions: none; no program in sight.
-/
import Derived.Test.YtibohfipgjljhaaDoorShClo
namespace Go.Proofs.YtibohfipgjljhaaDoor

def upZ (n b : Int) : Int := (n + b - 1) / b
def firstE : List Int → Int
  | [] => 0
  | e :: t => if e = 0 then firstE t else e
def ckGas (o h : Int) : Int := if ¬ (0 ≤ o ∧ o ≤ 1000 ∧ 0 ≤ h ∧ h ≤ 1000) then 2 else if o + h > 1000 then 23 else 0
structure Cp where
  n : Int
  h : Int
  b : Int
  s : Int
structure Rg where
  lo : Int
  hi : Int
structure Ld where
  n : Rg
  h : Rg
structure Gs where
  o : Int
  h : Int
structure Lg where
  f : Int
  t : Int
  s : Int
  g : Gs
def okCp (c : Cp) : Prop := 1 ≤ c.n ∧ c.n ≤ 100000 ∧ 1 ≤ c.h ∧ c.h ≤ 100000 ∧ 0 ≤ c.b ∧ c.b ≤ 10000 ∧ 1000 ≤ c.s ∧ c.s ≤ 10000
instance (c : Cp) : Decidable (okCp c) := by unfold okCp; infer_instance
def ckCps : List Cp → Int
  | [] => 0
  | c :: t => if okCp c then ckCps t else 2
def ckTab (ts : List Cp) : Int := if 1 ≤ ts.length ∧ ts.length ≤ 16 then ckCps ts else 10
def ckSpan (r : Rg) : Int := if 0 ≤ r.lo ∧ r.lo ≤ 100000000 ∧ 0 ≤ r.hi ∧ r.hi ≤ 100000000 then 0 else 2
def ckLd (l : Ld) : Int := if ckSpan l.n ≠ 0 ∨ ckSpan l.h ≠ 0 then 2 else if l.n.lo > l.n.hi ∨ l.h.lo > l.h.hi then 9 else 0
def ckLds : List Ld → Int
  | [] => 0
  | l :: t => if ckLd l ≠ 0 then ckLd l else ckLds t
def ckLoads (ts : List Cp) (ls : List Ld) : Int := if ckTab ts ≠ 0 then ckTab ts else if ls.length ≠ ts.length then 10 else ckLds ls
def okPr (p : Int) : Prop := 400 ≤ p ∧ p ≤ 31100
instance (p : Int) : Decidable (okPr p) := by unfold okPr; infer_instance
def ckLeg (x : Lg) : Int := if ¬ (okPr x.f ∧ okPr x.t ∧ 0 ≤ x.s ∧ x.s ≤ 100000) then 2 else if ckGas x.g.o x.g.h ≠ 0 then ckGas x.g.o x.g.h else if x.s = 0 ∧ x.f ≠ x.t then 11 else 0

/-! ### Square roots -/
def sqrN : Nat → Nat
  | 0 => 0
  | n + 1 => if (sqrN n + 1) * (sqrN n + 1) ≤ n + 1 then sqrN n + 1 else sqrN n
theorem sqrN_spec : ∀ n, sqrN n * sqrN n ≤ n ∧ n < (sqrN n + 1) * (sqrN n + 1)
  | 0 => by simp [sqrN]
  | n + 1 => by
    obtain ⟨h1, h2⟩ := sqrN_spec n
    simp only [sqrN]
    by_cases h : (sqrN n + 1) * (sqrN n + 1) ≤ n + 1
    · rw [if_pos h]
      refine ⟨h, ?_⟩
      have : (sqrN n + 1 + 1) * (sqrN n + 1 + 1) = (sqrN n + 1) * (sqrN n + 1) + 2 * (sqrN n + 1) + 1 := by
        simp only [Nat.add_mul, Nat.mul_add]; omega
      omega
    · rw [if_neg h]
      omega
theorem sqrN_uniq {n r : Nat} (h1 : r * r ≤ n) (h2 : n < (r + 1) * (r + 1)) : r = sqrN n := by
  obtain ⟨h3, h4⟩ := sqrN_spec n
  rcases Nat.lt_trichotomy r (sqrN n) with h | h | h
  · have : (r + 1) * (r + 1) ≤ sqrN n * sqrN n := Nat.mul_le_mul h h
    omega
  · exact h
  · have : (sqrN n + 1) * (sqrN n + 1) ≤ r * r := Nat.mul_le_mul h h
    omega
def sqrZ (n : Int) : Int := sqrN n.toNat
theorem sqrZ_uniq {n r : Int} (h0 : 0 ≤ r) (h1 : r * r ≤ n) (h2 : n < (r + 1) * (r + 1)) : r = sqrZ n := by
  obtain ⟨k, rfl⟩ := Int.eq_ofNat_of_zero_le h0
  have hn : 0 ≤ n := Int.le_trans (Int.mul_nonneg h0 h0) h1
  obtain ⟨m, rfl⟩ := Int.eq_ofNat_of_zero_le hn
  unfold sqrZ
  rw [Int.toNat_natCast]
  congr 1
  refine sqrN_uniq ?_ ?_
  · exact_mod_cast h1
  · exact_mod_cast h2
theorem sqrZ_spec {n : Int} (hn : 0 ≤ n) : 0 ≤ sqrZ n ∧ sqrZ n * sqrZ n ≤ n ∧ n < (sqrZ n + 1) * (sqrZ n + 1) := by
  obtain ⟨m, rfl⟩ := Int.eq_ofNat_of_zero_le hn
  unfold sqrZ
  rw [Int.toNat_natCast]
  obtain ⟨h1, h2⟩ := sqrN_spec m
  refine ⟨Int.natCast_nonneg _, ?_, ?_⟩
  · exact_mod_cast h1
  · exact_mod_cast h2

/-! ### Lists -/
theorem drop_cons {α : Type} {l : List α} {k : Nat} {x : α} (h : l[k]? = some x) : l.drop k = x :: l.drop (k + 1) := by
  obtain ⟨hk, hx⟩ := List.getElem?_eq_some_iff.1 h
  rw [List.drop_eq_getElem_cons hk, hx]
theorem get_some {α : Type} (l : List α) {k : Nat} (h : k < l.length) : ∃ x, l[k]? = some x := ⟨l[k], List.getElem?_eq_getElem h⟩
theorem map_get {α β : Type} (f : α → β) {l : List α} {k : Nat} {x : α} (h : l[k]? = some x) : (l.map f)[k]? = some (f x) := by rw [List.getElem?_map, h]; rfl
theorem drop_all {α : Type} {l : List α} {k : Nat} (h : l.length ≤ k) : l.drop k = [] := List.drop_eq_nil_of_le h
theorem firstE_step {es : List Int} {k : Nat} {e : Int} (h : es[k]? = some e) : firstE (es.drop k) = if e = 0 then firstE (es.drop (k + 1)) else e := by rw [drop_cons h]; rfl
theorem ckCps_step {ts : List Cp} {k : Nat} {c : Cp} (h : ts[k]? = some c) : ckCps (ts.drop k) = if okCp c then ckCps (ts.drop (k + 1)) else 2 := by rw [drop_cons h]; rfl
theorem ckLds_step {ls : List Ld} {k : Nat} {l : Ld} (h : ls[k]? = some l) : ckLds (ls.drop k) = if ckLd l ≠ 0 then ckLd l else ckLds (ls.drop (k + 1)) := by rw [drop_cons h]; rfl

/-! ### Closing lemmas -/
theorem ckGas_e (o h : Int) : firstE [if 0 ≤ o ∧ o ≤ 1000 then 0 else 2, if 0 ≤ h ∧ h ≤ 1000 then 0 else 2] = if 0 ≤ o ∧ o ≤ 1000 ∧ 0 ≤ h ∧ h ≤ 1000 then 0 else 2 := by
  simp only [firstE]
  (repeat' split) <;> omega
theorem ckGas_a {o h : Int} (hc : firstE [if 0 ≤ o ∧ o ≤ 1000 then 0 else 2, if 0 ≤ h ∧ h ≤ 1000 then 0 else 2] ≠ 0) : firstE [if 0 ≤ o ∧ o ≤ 1000 then 0 else 2, if 0 ≤ h ∧ h ≤ 1000 then 0 else 2] = ckGas o h := by
  rw [ckGas_e] at hc ⊢
  unfold ckGas
  split at hc
  · omega
  · rename_i hn; rw [if_neg hn, if_pos hn]
theorem ckGas_b {o h : Int} (hc : ¬ firstE [if 0 ≤ o ∧ o ≤ 1000 then 0 else 2, if 0 ≤ h ∧ h ≤ 1000 then 0 else 2] ≠ 0) : ckGas o h = if 1000 < o + h then 23 else 0 := by
  rw [ckGas_e] at hc
  unfold ckGas
  split at hc
  · rename_i hp; rw [if_neg (by omega)]
  · omega
theorem ckGas_c {o h : Int} (hc : ¬ firstE [if 0 ≤ o ∧ o ≤ 1000 then 0 else 2, if 0 ≤ h ∧ h ≤ 1000 then 0 else 2] ≠ 0) : 0 ≤ o ∧ o ≤ 1000 ∧ 0 ≤ h ∧ h ≤ 1000 := by
  rw [ckGas_e] at hc
  split at hc
  · assumption
  · omega
end Go.Proofs.YtibohfipgjljhaaDoor
namespace Go.Proofs.YtibohfipgjljhaaDoor

/-! ### Division -/
theorem floor_yes {n b : Int} (hb : 1 ≤ b) (h : n.tmod b < 0) : n.tdiv b - 1 = n / b := by
  have h1 := Int.mul_tdiv_add_tmod n b
  have h2 := Int.lt_tmod_of_pos n (show 0 < b by omega)
  have h3 : (n.tmod b + b) + b * (n.tdiv b - 1) = n := by rw [Int.mul_sub, Int.mul_one]; omega
  exact ((Int.ediv_emod_unique (show 0 < b by omega)).2 ⟨h3, by omega, by omega⟩).1.symm
theorem floor_no {n b : Int} (hb : 1 ≤ b) (h : ¬ n.tmod b < 0) : n.tdiv b = n / b := by
  have h1 := Int.mul_tdiv_add_tmod n b
  have h2 := Int.tmod_lt_of_pos n (show 0 < b by omega)
  have h3 : n.tmod b + b * n.tdiv b = n := by omega
  exact ((Int.ediv_emod_unique (show 0 < b by omega)).2 ⟨h3, by omega, by omega⟩).1.symm
theorem tmod_neg {n b : Int} (h : n.tmod b < 0) : n < 0 := by
  by_cases hn : n < 0
  · exact hn
  · have := Int.tmod_nonneg b (show 0 ≤ n by omega); omega
theorem ediv_ge {n b : Int} (hb : 1 ≤ b) (hn : n ≤ 0) : n ≤ n / b := by
  refine Int.le_ediv_of_mul_le (by omega) ?_
  have h1 := Int.mul_nonneg (show 0 ≤ -n by omega) (show 0 ≤ b - 1 by omega)
  have h2 : (-n) * (b - 1) = n - n * b := by grind
  omega
theorem ediv_le {n b : Int} (hb : 1 ≤ b) (hn : 0 ≤ n) : 0 ≤ n / b ∧ n / b ≤ n := ⟨Int.ediv_nonneg hn (by omega), Int.ediv_le_self _ hn⟩
theorem ediv_np {n b : Int} (hb : 1 ≤ b) (hn : n ≤ 0) : n / b ≤ 0 := by
  have h3 := Int.ediv_le_ediv (show 0 < b by omega) hn
  rwa [Int.zero_ediv] at h3
theorem neg_div {n b : Int} (hb : 1 ≤ b) (h0 : -9000000000000000000 ≤ n) (h1 : n ≤ 9000000000000000000) : -9000000000000000000 ≤ (0 - n) / b ∧ (0 - n) / b ≤ 9000000000000000000 := by
  by_cases hn : n ≤ 0
  · have := ediv_le hb (show 0 ≤ 0 - n by omega); omega
  · have h2 := ediv_ge hb (show 0 - n ≤ 0 by omega)
    have h3 := Int.ediv_le_ediv (show 0 < b by omega) (show 0 - n ≤ 0 by omega)
    rw [Int.zero_ediv] at h3
    omega
theorem ceil_up {n b : Int} (hb : 1 ≤ b) : 0 - (0 - n) / b = upZ n b := by
  have h1 := Int.mul_ediv_add_emod (n + b - 1) b
  have h2 := Int.emod_nonneg (n + b - 1) (show b ≠ 0 by omega)
  have h3 := Int.emod_lt_of_pos (n + b - 1) (show 0 < b by omega)
  have h4 : (b - 1 - (n + b - 1) % b) + b * (-((n + b - 1) / b)) = 0 - n := by rw [Int.mul_neg]; omega
  have h5 := ((Int.ediv_emod_unique (show 0 < b by omega)).2 ⟨h4, by omega, by omega⟩).1
  unfold upZ
  omega

/-! ### Names -/
abbrev ltrI (c : Int) : Prop := (97 ≤ c ∧ c ≤ 122) ∨ (65 ≤ c ∧ c ≤ 90)
abbrev okB (i : Nat) (c : Int) : Prop := ltrI c ∨ (i ≠ 0 ∧ (c = 45 ∨ (48 ≤ c ∧ c ≤ 57)))
def nameP (s : ByteArray) : Prop := 1 ≤ s.size ∧ s.size ≤ 12 ∧ ∀ i, i < s.size → okB i (bAt s i)
instance (s : ByteArray) : Decidable (nameP s) := by unfold nameP; infer_instance

/-! ### Plans -/
structure Dl where
  s : Int
  d : Int
  g : Int
def ckGs : List Gs → Int
  | [] => 0
  | g :: t => if ckGas g.o g.h ≠ 0 then ckGas g.o g.h else ckGs t
theorem ckGs_step {gs : List Gs} {k : Nat} {g : Gs} (h : gs[k]? = some g) : ckGs (gs.drop k) = if ckGas g.o g.h ≠ 0 then ckGas g.o g.h else ckGs (gs.drop (k + 1)) := by rw [drop_cons h]; rfl
theorem ckGas_ok {o h : Int} (hz : ckGas o h = 0) : 0 ≤ o ∧ o ≤ 1000 ∧ 0 ≤ h ∧ h ≤ 1000 ∧ o + h ≤ 1000 := by
  unfold ckGas at hz
  split at hz
  · cases hz
  · split at hz
    · cases hz
    · omega
theorem ckGs_ok : ∀ {gs : List Gs}, ckGs gs = 0 → ∀ g ∈ gs, ckGas g.o g.h = 0
  | [], _, g, hg => by cases hg
  | a :: t, h, g, hg => by
    unfold ckGs at h
    by_cases hc : ckGas a.o a.h ≠ 0
    · rw [if_pos hc] at h; exact absurd h hc
    · rw [if_neg hc] at h
      rcases List.mem_cons.1 hg with rfl | hg
      · omega
      · exact ckGs_ok h g hg
def gasAt (gs : List Gs) (i : Int) : Gs := gs[i.toNat]?.getD ⟨0, 0⟩
def ckDl1 (n e : Int) (x : Dl) : Int := if ¬ (1 ≤ x.s ∧ x.s ≤ 1000000 ∧ 0 ≤ x.d ∧ x.d ≤ 30000) then 2 else if ¬ (0 ≤ x.g ∧ x.g ≤ n - 1) then 6 else if e + x.s > 1000000 then 8 else 0
def ckLegs (n : Int) : Nat → Int → List Dl → Int × Int
  | _, _, [] => (0, 0)
  | i, e, x :: t => if ckDl1 n e x ≠ 0 then ((i : Int), ckDl1 n e x) else ckLegs n (i + 1) (e + x.s) t
theorem ckLegs_bad {n e : Int} {ls : List Dl} {k i : Nat} {x : Dl} (h : ls[k]? = some x) (hc : ckDl1 n e x ≠ 0) : ckLegs n i e (ls.drop k) = ((i : Int), ckDl1 n e x) := by rw [drop_cons h]; exact if_pos hc
theorem ckLegs_ok {n e : Int} {ls : List Dl} {k i : Nat} {x : Dl} (h : ls[k]? = some x) (hc : ckDl1 n e x = 0) : ckLegs n i e (ls.drop k) = ckLegs n (i + 1) (e + x.s) (ls.drop (k + 1)) := by rw [drop_cons h]; exact if_neg (fun hh => hh hc)
theorem ckLegs_end {n e : Int} {ls : List Dl} {k i : Nat} (h : ls.length ≤ k) : ckLegs n i e (ls.drop k) = (0, 0) := by rw [drop_all h]; rfl
def ckPl (nm : ByteArray) (sf : Int) (gs : List Gs) (ls : List Dl) : Int × Int :=
  if ¬ nameP nm then (0, 4) else if ¬ (400 ≤ sf ∧ sf ≤ 1100) then (0, 2) else if gs.length = 0 then (0, 10) else if gs.length > 8 then (0, 8)
  else if ckGs gs ≠ 0 then (0, ckGs gs) else if ls.length > 60 then (0, 8) else ckLegs gs.length 0 0 ls
section
variable {nm : ByteArray} {sf : Int} {gs : List Gs} {ls : List Dl}
theorem ckPl_1 (h : ¬ nameP nm) : ckPl nm sf gs ls = (0, 4) := if_pos h
theorem ckPl_2 (h : nameP nm) (h2 : ¬ (400 ≤ sf ∧ sf ≤ 1100)) : ckPl nm sf gs ls = (0, 2) := by unfold ckPl; rw [if_neg (fun hh => hh h), if_pos h2]
theorem ckPl_3 (h : nameP nm) (h2 : 400 ≤ sf ∧ sf ≤ 1100) (h3 : gs.length = 0) : ckPl nm sf gs ls = (0, 10) := by unfold ckPl; rw [if_neg (fun hh => hh h), if_neg (fun hh => hh h2), if_pos h3]
theorem ckPl_4 (h : nameP nm) (h2 : 400 ≤ sf ∧ sf ≤ 1100) (h3 : ¬ gs.length = 0) (h4 : gs.length > 8) : ckPl nm sf gs ls = (0, 8) := by unfold ckPl; rw [if_neg (fun hh => hh h), if_neg (fun hh => hh h2), if_neg h3, if_pos h4]
theorem ckPl_5 (h : nameP nm) (h2 : 400 ≤ sf ∧ sf ≤ 1100) (h3 : ¬ gs.length = 0) (h4 : ¬ gs.length > 8) (h5 : ckGs gs ≠ 0) : ckPl nm sf gs ls = (0, ckGs gs) := by unfold ckPl; rw [if_neg (fun hh => hh h), if_neg (fun hh => hh h2), if_neg h3, if_neg h4, if_pos h5]
theorem ckPl_6 (h : nameP nm) (h2 : 400 ≤ sf ∧ sf ≤ 1100) (h3 : ¬ gs.length = 0) (h4 : ¬ gs.length > 8) (h5 : ckGs gs = 0) (h6 : ls.length > 60) : ckPl nm sf gs ls = (0, 8) := by unfold ckPl; rw [if_neg (fun hh => hh h), if_neg (fun hh => hh h2), if_neg h3, if_neg h4, if_neg (fun hh => hh h5), if_pos h6]
theorem ckPl_7 (h : nameP nm) (h2 : 400 ≤ sf ∧ sf ≤ 1100) (h3 : ¬ gs.length = 0) (h4 : ¬ gs.length > 8) (h5 : ckGs gs = 0) (h6 : ¬ ls.length > 60) : ckPl nm sf gs ls = ckLegs gs.length 0 0 ls := by unfold ckPl; rw [if_neg (fun hh => hh h), if_neg (fun hh => hh h2), if_neg h3, if_neg h4, if_neg (fun hh => hh h5), if_neg h6]
end
def dlAt (ls : List Dl) (i : Nat) : Dl := ls[i]?.getD ⟨0, 0, 0⟩
def secAt (ls : List Dl) : Nat → Int
  | 0 => 0
  | k + 1 => secAt ls k + (dlAt ls k).s
def depAt (ls : List Dl) : Nat → Int
  | 0 => 0
  | k + 1 => (dlAt ls k).d
theorem dlAt_get {ls : List Dl} {k : Nat} {x : Dl} (h : ls[k]? = some x) : dlAt ls k = x := by unfold dlAt; rw [h]; rfl
structure okDl (n : Int) (x : Dl) : Prop where
  s : 1 ≤ x.s ∧ x.s ≤ 1000000
  d : 0 ≤ x.d ∧ x.d ≤ 30000
  g : 0 ≤ x.g ∧ x.g ≤ n - 1
theorem ckDl1_0 {n e : Int} {x : Dl} (h : ckDl1 n e x = 0) : okDl n x ∧ e + x.s ≤ 1000000 := by
  unfold ckDl1 at h
  by_cases h1 : ¬ (1 ≤ x.s ∧ x.s ≤ 1000000 ∧ 0 ≤ x.d ∧ x.d ≤ 30000)
  · rw [if_pos h1] at h; cases h
  · rw [if_neg h1] at h
    by_cases h2 : ¬ (0 ≤ x.g ∧ x.g ≤ n - 1)
    · rw [if_pos h2] at h; cases h
    · rw [if_neg h2] at h
      by_cases h3 : e + x.s > 1000000
      · rw [if_pos h3] at h; cases h
      · exact ⟨⟨by omega, by omega, by omega⟩, by omega⟩
structure okPl (sf : Int) (gs : List Gs) (ls : List Dl) : Prop where
  sf : 400 ≤ sf ∧ sf ≤ 1100
  gl : 1 ≤ gs.length ∧ gs.length ≤ 8
  g : ∀ g ∈ gs, ckGas g.o g.h = 0
  ll : ls.length ≤ 60
  l : ∀ x ∈ ls, okDl gs.length x
  e : ∀ k, k ≤ ls.length → 0 ≤ secAt ls k ∧ secAt ls k ≤ 1000000
theorem ckLegs_all {n : Int} {ls : List Dl} : ∀ (m k : Nat), k + m = ls.length → (ckLegs n k (secAt ls k) (ls.drop k)).2 = 0 → (∀ j, k ≤ j → j < ls.length → okDl n (dlAt ls j) ∧ secAt ls (j + 1) ≤ 1000000)
  | 0, k, hm, _, j, h1, h2 => by omega
  | m + 1, k, hm, h, j, h1, h2 => by
    obtain ⟨x, hx⟩ := get_some ls (show k < ls.length by omega)
    by_cases hc : ckDl1 n (secAt ls k) x = 0
    · have e1 : secAt ls (k + 1) = secAt ls k + x.s := by show secAt ls k + (dlAt ls k).s = _; rw [dlAt_get hx]
      rw [ckLegs_ok hx hc, ← e1] at h
      rcases Nat.lt_or_eq_of_le h1 with h3 | rfl
      · exact ckLegs_all m (k + 1) (by omega) h j h3 h2
      · rw [dlAt_get hx, e1]; exact ckDl1_0 hc
    · rw [ckLegs_bad hx hc] at h
      exact absurd h hc
theorem ckPl_ok {nm : ByteArray} {sf : Int} {gs : List Gs} {ls : List Dl} (h : (ckPl nm sf gs ls).2 = 0) : nameP nm ∧ okPl sf gs ls := by
  by_cases h1 : nameP nm
  · by_cases h2 : 400 ≤ sf ∧ sf ≤ 1100
    · by_cases h3 : gs.length = 0
      · rw [ckPl_3 h1 h2 h3] at h; cases h
      · by_cases h4 : gs.length > 8
        · rw [ckPl_4 h1 h2 h3 h4] at h; cases h
        · by_cases h5 : ckGs gs = 0
          · by_cases h6 : ls.length > 60
            · rw [ckPl_6 h1 h2 h3 h4 h5 h6] at h; cases h
            · rw [ckPl_7 h1 h2 h3 h4 h5 h6] at h
              have h7 := ckLegs_all (n := gs.length) (ls := ls) ls.length 0 (by omega) h
              have h8 : ∀ k, k ≤ ls.length → 0 ≤ secAt ls k := by
                intro k
                induction k with
                | zero => intro _; exact Int.le_refl _
                | succ k ih =>
                  intro hk
                  have a := ih (by omega)
                  have b := (h7 k (by omega) (by omega)).1.s
                  show 0 ≤ secAt ls k + (dlAt ls k).s
                  omega
              refine ⟨h1, h2, by omega, ckGs_ok h5, by omega, fun x hx => ?_, fun k hk => ⟨h8 k hk, ?_⟩⟩
              · obtain ⟨j, hj⟩ := List.getElem?_of_mem hx
                have := (h7 j (by omega) (List.getElem?_eq_some_iff.1 hj).1).1
                rwa [dlAt_get hj] at this
              · cases k with
                | zero => show (0 : Int) ≤ 1000000; omega
                | succ k => exact (h7 k (by omega) (by omega)).2
          · rw [ckPl_5 h1 h2 h3 h4 h5] at h; exact absurd h h5
    · rw [ckPl_2 h1 h2] at h; cases h
  · rw [ckPl_1 h1] at h; cases h
theorem okPl.at {sf : Int} {gs : List Gs} {ls : List Dl} (h : okPl sf gs ls) {k : Nat} (hk : k < ls.length) : okDl gs.length (dlAt ls k) := by
  obtain ⟨x, hx⟩ := get_some ls hk
  rw [dlAt_get hx]
  exact h.l x (List.mem_of_getElem? hx)
theorem okPl.dep {sf : Int} {gs : List Gs} {ls : List Dl} (h : okPl sf gs ls) {k : Nat} (hk : k ≤ ls.length) : 0 ≤ depAt ls k ∧ depAt ls k ≤ 30000 := by
  cases k with
  | zero => show (0 : Int) ≤ 0 ∧ (0 : Int) ≤ 30000; omega
  | succ k => exact (h.at (k := k) (by omega)).d
theorem okPl.gas {sf : Int} {gs : List Gs} {ls : List Dl} (h : okPl sf gs ls) {k : Nat} (hk : k < ls.length) : gs[(dlAt ls k).g.toNat]? = some (gasAt gs (dlAt ls k).g) := by
  have h1 := (h.at hk).g
  obtain ⟨x, hx⟩ := get_some gs (k := (dlAt ls k).g.toNat) (by omega)
  unfold gasAt
  rw [hx]
  rfl
theorem okPl.gas_ok {sf : Int} {gs : List Gs} {ls : List Dl} (h : okPl sf gs ls) {k : Nat} (hk : k < ls.length) : ckGas (gasAt gs (dlAt ls k).g).o (gasAt gs (dlAt ls k).g).h = 0 := h.g _ (List.mem_of_getElem? (h.gas hk))
/-- the legs of a plan, as the program keeps them -/
structure Le where
  x : Dl
  b : Int
  f : Int
  t : Int
  sf : Int
  g : Gs
def legAt (sf : Int) (gs : List Gs) (ls : List Dl) (k : Nat) : Le := ⟨dlAt ls k, secAt ls k, sf + depAt ls k, sf + (dlAt ls k).d, sf, gasAt gs (dlAt ls k).g⟩
def legsK (sf : Int) (gs : List Gs) (ls : List Dl) (k : Nat) : List Le := (List.range k).map (legAt sf gs ls)
theorem legsK_succ (sf : Int) (gs : List Gs) (ls : List Dl) (k : Nat) : legsK sf gs ls (k + 1) = legsK sf gs ls k ++ [legAt sf gs ls k] := by
  unfold legsK
  rw [List.range_succ, List.map_append]
  rfl
theorem legsK_len (sf : Int) (gs : List Gs) (ls : List Dl) (k : Nat) : (legsK sf gs ls k).length = k := by simp [legsK]
theorem legsK_get {sf : Int} {gs : List Gs} {ls : List Dl} {k i : Nat} (h : i < k) : (legsK sf gs ls k)[i]? = some (legAt sf gs ls i) := by simp [legsK, h]
abbrev legsM (sf : Int) (gs : List Gs) (ls : List Dl) : List Le := legsK sf gs ls ls.length

theorem depAt_pos {ls : List Dl} {k : Nat} (h : 0 < k) : depAt ls k = (dlAt ls (k - 1)).d := by
  cases k with
  | zero => omega
  | succ k => rfl
theorem mulB {a b A B : Int} (ha : 0 ≤ a ∧ a ≤ A) (hb : 0 ≤ b ∧ b ≤ B) : 0 ≤ a * b ∧ a * b ≤ A * B :=
  ⟨Int.mul_nonneg ha.1 hb.1, Int.le_trans (Int.mul_le_mul_of_nonneg_right ha.2 hb.1) (Int.mul_le_mul_of_nonneg_left hb.2 (Int.le_trans ha.1 ha.2))⟩
structure okLe (x : Le) : Prop where
  s : 1 ≤ x.x.s ∧ x.x.s ≤ 1000000
  d : 0 ≤ x.x.d ∧ x.x.d ≤ 30000
  b : 0 ≤ x.b ∧ x.b + x.x.s ≤ 1000000
  sf : 400 ≤ x.sf ∧ x.sf ≤ 1100
  f : x.sf ≤ x.f ∧ x.f ≤ x.sf + 30000
  t : x.sf ≤ x.t ∧ x.t ≤ x.sf + 30000
  g : 0 ≤ x.g.o ∧ 0 ≤ x.g.h ∧ x.g.o + x.g.h ≤ 1000
theorem okPl.le {sf : Int} {gs : List Gs} {ls : List Dl} (h : okPl sf gs ls) {k : Nat} (hk : k < ls.length) : okLe (legAt sf gs ls k) := by
  have h1 := h.at hk
  have h2 := h.dep (k := k) (by omega)
  have h3 := h.e k (by omega)
  have h4 := h.e (k + 1) (by omega)
  have e4 : secAt ls (k + 1) = secAt ls k + (dlAt ls k).s := rfl
  have h5 := ckGas_ok (h.gas_ok hk)
  have h6 := h.sf
  exact ⟨h1.s, h1.d, ⟨h3.1, by show secAt ls k + (dlAt ls k).s ≤ _; omega⟩, h6, ⟨by show sf ≤ sf + depAt ls k; omega, by show sf + depAt ls k ≤ sf + 30000; omega⟩, ⟨by show sf ≤ sf + (dlAt ls k).d; have := h1.d; omega, by show sf + (dlAt ls k).d ≤ sf + 30000; have := h1.d; omega⟩, ⟨h5.1, h5.2.2.1, h5.2.2.2.2⟩⟩
def leg0 : Le := ⟨⟨0, 0, 0⟩, 0, 0, 0, 0, ⟨0, 0⟩⟩
def legOfE (nm : ByteArray) (sf : Int) (gs : List Gs) (ls : List Dl) (n : Int) : Le × Int := if (ckPl nm sf gs ls).2 ≠ 0 then (leg0, (ckPl nm sf gs ls).2) else if 0 ≤ n ∧ n ≤ ls.length - 1 then (legAt sf gs ls n.toNat, 0) else (leg0, 6)
theorem legOfE_1 {nm : ByteArray} {sf n : Int} {gs : List Gs} {ls : List Dl} (h : (ckPl nm sf gs ls).2 ≠ 0) : legOfE nm sf gs ls n = (leg0, (ckPl nm sf gs ls).2) := if_pos h
theorem legOfE_2 {nm : ByteArray} {sf n : Int} {gs : List Gs} {ls : List Dl} (h : (ckPl nm sf gs ls).2 = 0) (h2 : ¬ (0 ≤ n ∧ n ≤ ls.length - 1)) : legOfE nm sf gs ls n = (leg0, 6) := by unfold legOfE; rw [if_neg (fun hh => hh h), if_neg h2]
theorem legOfE_3 {nm : ByteArray} {sf : Int} {gs : List Gs} {ls : List Dl} {k : Nat} (h : (ckPl nm sf gs ls).2 = 0) (h2 : k < ls.length) : legOfE nm sf gs ls (k : Int) = (legAt sf gs ls k, 0) := by unfold legOfE; rw [if_neg (fun hh => hh h), if_pos (by omega)]; rfl

/-! ### Rules -/
structure Ow where
  f : Int
  r : Int
structure Ru where
  tb : List Ow
  lo : Int
  hi : Int
  na : Int
  de : Int
  br : Int
  em : Int
  pa : Int
  ac : Int
def ckOw (p : Int) (x : Ow) : Int := if ¬ (0 ≤ x.f ∧ x.f ≤ 4000 ∧ 0 ≤ x.r ∧ x.r ≤ 100000) then 2 else if x.f ≤ p then 9 else 0
def ckOws : Int → List Ow → Int
  | _, [] => 0
  | p, x :: t => if ckOw p x ≠ 0 then ckOw p x else ckOws x.f t
def owAt (tb : List Ow) (i : Nat) : Ow := tb[i]?.getD ⟨0, 0⟩
theorem owAt_get {tb : List Ow} {k : Nat} {x : Ow} (h : tb[k]? = some x) : owAt tb k = x := by unfold owAt; rw [h]; rfl
/-- what is ahead of a row: -1 ahead of the first -/
def owPr (tb : List Ow) : Nat → Int
  | 0 => -1
  | k + 1 => (owAt tb k).f
theorem ckOws_bad {p : Int} {tb : List Ow} {k : Nat} {x : Ow} (h : tb[k]? = some x) (hc : ckOw p x ≠ 0) : ckOws p (tb.drop k) = ckOw p x := by rw [drop_cons h]; exact if_pos hc
theorem ckOws_ok {tb : List Ow} {k : Nat} {x : Ow} (h : tb[k]? = some x) (hc : ckOw (owPr tb k) x = 0) : ckOws (owPr tb k) (tb.drop k) = ckOws (owPr tb (k + 1)) (tb.drop (k + 1)) := by
  rw [drop_cons h]
  have e : owPr tb (k + 1) = x.f := by show (owAt tb k).f = _; rw [owAt_get h]
  rw [e]
  exact if_neg (fun hh => hh hc)
def ckLim (lo hi : Int) : Int := if ¬ (1 ≤ lo ∧ lo ≤ 4000 ∧ 1 ≤ hi ∧ hi ≤ 4000) then 2 else if lo > hi then 9 else 0
theorem ckLim_a {lo hi : Int} (hc : firstE [if 1 ≤ lo ∧ lo ≤ 4000 then 0 else 2, if 1 ≤ hi ∧ hi ≤ 4000 then 0 else 2] ≠ 0) : firstE [if 1 ≤ lo ∧ lo ≤ 4000 then 0 else 2, if 1 ≤ hi ∧ hi ≤ 4000 then 0 else 2] = ckLim lo hi := by
  unfold ckLim
  unfold firstE firstE firstE at *
  by_cases h1 : 1 ≤ lo ∧ lo ≤ 4000 <;> by_cases h2 : 1 ≤ hi ∧ hi ≤ 4000 <;> simp [h1, h2] at hc ⊢
theorem ckLim_c {lo hi : Int} (hc : ¬ firstE [if 1 ≤ lo ∧ lo ≤ 4000 then 0 else 2, if 1 ≤ hi ∧ hi ≤ 4000 then 0 else 2] ≠ 0) : 1 ≤ lo ∧ lo ≤ 4000 ∧ 1 ≤ hi ∧ hi ≤ 4000 := by
  unfold firstE firstE firstE at hc
  by_cases h1 : 1 ≤ lo ∧ lo ≤ 4000 <;> by_cases h2 : 1 ≤ hi ∧ hi ≤ 4000 <;> simp [h1, h2] at hc ⊢
theorem ckLim_b {lo hi : Int} (hc : ¬ firstE [if 1 ≤ lo ∧ lo ≤ 4000 then 0 else 2, if 1 ≤ hi ∧ hi ≤ 4000 then 0 else 2] ≠ 0) : ckLim lo hi = if lo > hi then 9 else 0 := by
  have h := ckLim_c hc
  unfold ckLim
  rw [if_neg (fun hh => hh h)]
abbrev inRu (r : Ru) : Prop := (0 ≤ r.na ∧ r.na ≤ 30000) ∧ (1 ≤ r.de ∧ r.de ≤ 100000) ∧ (1 ≤ r.br ∧ r.br ≤ 100000) ∧ (1 ≤ r.em ∧ r.em ≤ 100000) ∧ (0 ≤ r.pa ∧ r.pa ≤ 3600) ∧ (1 ≤ r.ac ∧ r.ac ≤ 3000)
def ckRu (r : Ru) : Int := if r.tb.length > 20 then 8 else if ckOws (-1) r.tb ≠ 0 then ckOws (-1) r.tb else if ckLim r.lo r.hi ≠ 0 then ckLim r.lo r.hi else if inRu r then 0 else 2
theorem ckRu_1 {r : Ru} (h : r.tb.length > 20) : ckRu r = 8 := if_pos h
theorem ckRu_2 {r : Ru} (h : ¬ r.tb.length > 20) (h2 : ckOws (-1) r.tb ≠ 0) : ckRu r = ckOws (-1) r.tb := by unfold ckRu; rw [if_neg h, if_pos h2]
theorem ckRu_3 {r : Ru} (h : ¬ r.tb.length > 20) (h2 : ckOws (-1) r.tb = 0) (h3 : ckLim r.lo r.hi ≠ 0) : ckRu r = ckLim r.lo r.hi := by unfold ckRu; rw [if_neg h, if_neg (fun hh => hh h2), if_pos h3]
theorem ckRu_4 {r : Ru} (h : ¬ r.tb.length > 20) (h2 : ckOws (-1) r.tb = 0) (h3 : ckLim r.lo r.hi = 0) : ckRu r = if inRu r then 0 else 2 := by unfold ckRu; rw [if_neg h, if_neg (fun hh => hh h2), if_neg (fun hh => hh h3)]
structure okTb (tb : List Ow) : Prop where
  n : tb.length ≤ 20
  r : ∀ k, k < tb.length → 0 ≤ (owAt tb k).f ∧ (owAt tb k).f ≤ 4000 ∧ 0 ≤ (owAt tb k).r ∧ (owAt tb k).r ≤ 100000
  o : ∀ k, k + 1 < tb.length → (owAt tb k).f < (owAt tb (k + 1)).f
structure okRu (r : Ru) : Prop where
  tb : okTb r.tb
  li : 1 ≤ r.lo ∧ r.lo ≤ r.hi ∧ r.hi ≤ 4000
  na : 0 ≤ r.na ∧ r.na ≤ 30000
  de : 1 ≤ r.de ∧ r.de ≤ 100000
  br : 1 ≤ r.br ∧ r.br ≤ 100000
  em : 1 ≤ r.em ∧ r.em ≤ 100000
  pa : 0 ≤ r.pa ∧ r.pa ≤ 3600
  ac : 1 ≤ r.ac ∧ r.ac ≤ 3000
theorem ckOw_0 {p : Int} {x : Ow} (h : ckOw p x = 0) : (0 ≤ x.f ∧ x.f ≤ 4000 ∧ 0 ≤ x.r ∧ x.r ≤ 100000) ∧ p < x.f := by
  unfold ckOw at h
  split at h
  · cases h
  · split at h
    · cases h
    · omega
theorem ckOws_all {tb : List Ow} : ∀ (m k : Nat), k + m = tb.length → ckOws (owPr tb k) (tb.drop k) = 0 → ∀ j, k ≤ j → j < tb.length → ckOw (owPr tb j) (owAt tb j) = 0
  | 0, k, hm, _, j, h1, h2 => by omega
  | m + 1, k, hm, h, j, h1, h2 => by
    obtain ⟨x, hx⟩ := get_some tb (show k < tb.length by omega)
    by_cases hc : ckOw (owPr tb k) x = 0
    · rw [ckOws_ok hx hc] at h
      rcases Nat.lt_or_eq_of_le h1 with h3 | rfl
      · exact ckOws_all m (k + 1) (by omega) h j h3 h2
      · rw [owAt_get hx]; exact hc
    · rw [ckOws_bad hx hc] at h
      exact absurd h hc
theorem ckLim_ok {lo hi : Int} (h : ckLim lo hi = 0) : 1 ≤ lo ∧ lo ≤ hi ∧ hi ≤ 4000 := by
  unfold ckLim at h
  split at h
  · cases h
  · split at h
    · cases h
    · omega
theorem ckRu_ok {r : Ru} (h : ckRu r = 0) : okRu r := by
  by_cases h1 : r.tb.length > 20
  · rw [ckRu_1 h1] at h; cases h
  · by_cases h2 : ckOws (-1) r.tb = 0
    · by_cases h3 : ckLim r.lo r.hi = 0
      · rw [ckRu_4 h1 h2 h3] at h
        by_cases h4 : inRu r
        · have h5 := ckOws_all (tb := r.tb) r.tb.length 0 (by omega) h2
          obtain ⟨a, b, c, d, e, f⟩ := h4
          refine ⟨⟨by omega, fun k hk => (ckOw_0 (h5 k (by omega) hk)).1, fun k hk => (ckOw_0 (h5 (k + 1) (by omega) hk)).2⟩, ckLim_ok h3, a, b, c, d, e, f⟩
        · rw [if_neg h4] at h; cases h
      · rw [ckRu_3 h1 h2 h3] at h; exact absurd h h3
    · rw [ckRu_2 h1 h2] at h; exact absurd h h2
theorem okTb.mono {tb : List Ow} (h : okTb tb) {i : Nat} : ∀ j, i < j → j < tb.length → (owAt tb i).f < (owAt tb j).f
  | 0, h1, _ => by omega
  | j + 1, h1, h2 => by
    have a := h.o j h2
    rcases Nat.lt_or_eq_of_le (Nat.le_of_lt_succ h1) with h3 | rfl
    · have := okTb.mono h j h3 (by omega); omega
    · exact a

def bothE (nm : ByteArray) (sf : Int) (gs : List Gs) (ls : List Dl) (r : Ru) : Int := if (ckPl nm sf gs ls).2 ≠ 0 then (ckPl nm sf gs ls).2 else ckRu r
theorem bothE_1 {nm : ByteArray} {sf : Int} {gs : List Gs} {ls : List Dl} {r : Ru} (h : (ckPl nm sf gs ls).2 ≠ 0) : bothE nm sf gs ls r = (ckPl nm sf gs ls).2 := if_pos h
theorem bothE_2 {nm : ByteArray} {sf : Int} {gs : List Gs} {ls : List Dl} {r : Ru} (h : (ckPl nm sf gs ls).2 = 0) : bothE nm sf gs ls r = ckRu r := if_neg (fun hh => hh h)
theorem bothE_ok {nm : ByteArray} {sf : Int} {gs : List Gs} {ls : List Dl} {r : Ru} (h : bothE nm sf gs ls r = 0) : nameP nm ∧ okPl sf gs ls ∧ okRu r ∧ (ckPl nm sf gs ls).2 = 0 := by
  by_cases h1 : (ckPl nm sf gs ls).2 = 0
  · rw [bothE_2 h1] at h
    exact ⟨(ckPl_ok h1).1, (ckPl_ok h1).2, ckRu_ok h, h1⟩
  · rw [bothE_1 h1] at h
    exact absurd h h1
/-! ### Rates -/
/-- how many rows a pressure of oxygen reaches -/
def rowsTo (tb : List Ow) (o : Int) : Nat → Nat
  | 0 => 0
  | k + 1 => if 1000 * (owAt tb k).f ≤ o then k + 1 else rowsTo tb o k
abbrev rowsN (tb : List Ow) (o : Int) : Nat := rowsTo tb o tb.length
def rateM (tb : List Ow) (o : Int) : Int := if rowsN tb o = 0 then 0 else (owAt tb (rowsN tb o - 1)).r
theorem rowsTo_le (tb : List Ow) (o : Int) : ∀ k, rowsTo tb o k ≤ k
  | 0 => Nat.le_refl _
  | k + 1 => by
    unfold rowsTo
    have := rowsTo_le tb o k
    split <;> omega
theorem rowsTo_spec {tb : List Ow} (h : okTb tb) (o : Int) : ∀ k, k ≤ tb.length → ∀ i, i < k → (1000 * (owAt tb i).f > o ↔ rowsTo tb o k ≤ i)
  | 0, _, i, hi => by omega
  | k + 1, hk, i, hi => by
    unfold rowsTo
    by_cases hc : 1000 * (owAt tb k).f ≤ o
    · rw [if_pos hc]
      rcases Nat.lt_or_eq_of_le (Nat.le_of_lt_succ hi) with h3 | rfl
      · have := h.mono k h3 (by omega); omega
      · omega
    · rw [if_neg hc]
      rcases Nat.lt_or_eq_of_le (Nat.le_of_lt_succ hi) with h3 | rfl
      · exact rowsTo_spec h o k (by omega) i h3
      · have := rowsTo_le tb o i; omega
/-- the reference's way: row by row -/
def rateK (tb : List Ow) (o : Int) : Nat → Int
  | 0 => 0
  | k + 1 => if 1000 * (owAt tb k).f ≤ o then (owAt tb k).r else rateK tb o k
theorem rateK_rows (tb : List Ow) (o : Int) : ∀ k, rateK tb o k = if rowsTo tb o k = 0 then 0 else (owAt tb (rowsTo tb o k - 1)).r
  | 0 => rfl
  | k + 1 => by
    unfold rateK rowsTo
    by_cases hc : 1000 * (owAt tb k).f ≤ o
    · rw [if_pos hc, if_pos hc, if_neg (by omega)]; rfl
    · rw [if_neg hc, if_neg hc]; exact rateK_rows tb o k
theorem rateK_all (tb : List Ow) (o : Int) : rateK tb o tb.length = rateM tb o := rateK_rows tb o _
theorem rateM_in {tb : List Ow} (h : okTb tb) (o : Int) : 0 ≤ rateM tb o ∧ rateM tb o ≤ 100000 := by
  unfold rateM
  by_cases hc : rowsN tb o = 0
  · rw [if_pos hc]; omega
  · rw [if_neg hc]
    have := rowsTo_le tb o tb.length
    have := h.r (rowsN tb o - 1) (by unfold rowsN at *; omega)
    omega

/-! ### What a leg costs -/
def cutHi (tb : List Ow) (hi : Int) (k : Nat) : Int := if k + 1 < tb.length then min hi (1000 * (owAt tb (k + 1)).f) else hi
def sumK (tb : List Ow) (lo hi : Int) : Nat → Int
  | 0 => 0
  | k + 1 => sumK tb lo hi k + (owAt tb k).r * max 0 (cutHi tb hi k - max lo (1000 * (owAt tb k).f))
/-- up to where rows are counted -/
def topK (tb : List Ow) (lo hi : Int) (k : Nat) : Int := if k < tb.length then max lo (min hi (1000 * (owAt tb k).f)) else hi
theorem sumK_bd {tb : List Ow} (h : okTb tb) {lo hi : Int} (hl : lo ≤ hi) : ∀ k, k ≤ tb.length → 0 ≤ sumK tb lo hi k ∧ sumK tb lo hi k ≤ 100000 * (topK tb lo hi k - lo)
  | 0, _ => by
    unfold topK sumK
    split <;> omega
  | k + 1, hk => by
    obtain ⟨a, b⟩ := sumK_bd h hl k (by omega)
    have hr := h.r k (by omega)
    have e1 : topK tb lo hi k = max lo (min hi (1000 * (owAt tb k).f)) := if_pos (by omega)
    have key : topK tb lo hi k + max 0 (cutHi tb hi k - max lo (1000 * (owAt tb k).f)) ≤ topK tb lo hi (k + 1) := by
      rw [e1]
      unfold topK cutHi
      by_cases hc : k + 1 < tb.length
      · rw [if_pos hc, if_pos hc]
        have := h.o k hc
        omega
      · rw [if_neg hc, if_neg hc]
        omega
    have m1 : 0 ≤ max 0 (cutHi tb hi k - max lo (1000 * (owAt tb k).f)) := by omega
    generalize max 0 (cutHi tb hi k - max lo (1000 * (owAt tb k).f)) = m at key m1
    have p1 : 0 ≤ (owAt tb k).r * m := Int.mul_nonneg hr.2.2.1 m1
    have p2 : (owAt tb k).r * m ≤ 100000 * m := Int.mul_le_mul_of_nonneg_right hr.2.2.2 m1
    have e2 : sumK tb lo hi (k + 1) = sumK tb lo hi k + (owAt tb k).r * max 0 (cutHi tb hi k - max lo (1000 * (owAt tb k).f)) := rfl
    unfold sumK
    constructor
    · have : 0 ≤ (owAt tb k).r * max 0 (cutHi tb hi k - max lo (1000 * (owAt tb k).f)) := Int.mul_nonneg hr.2.2.1 (by omega)
      omega
    · have : (owAt tb k).r * max 0 (cutHi tb hi k - max lo (1000 * (owAt tb k).f)) ≤ 100000 * max 0 (cutHi tb hi k - max lo (1000 * (owAt tb k).f)) := Int.mul_le_mul_of_nonneg_right hr.2.2.2 (by omega)
      have key' : topK tb lo hi k + max 0 (cutHi tb hi k - max lo (1000 * (owAt tb k).f)) ≤ topK tb lo hi (k + 1) := by
        rw [e1]
        unfold topK cutHi
        by_cases hc : k + 1 < tb.length
        · rw [if_pos hc, if_pos hc]
          have := h.o k hc
          omega
        · rw [if_neg hc, if_neg hc]
          omega
      omega
theorem sumK_in {tb : List Ow} (h : okTb tb) {lo hi : Int} (hl : lo ≤ hi) {k : Nat} (hk : k ≤ tb.length) : 0 ≤ sumK tb lo hi k ∧ sumK tb lo hi k ≤ 100000 * (hi - lo) := by
  obtain ⟨a, b⟩ := sumK_bd h hl k hk
  have : topK tb lo hi k ≤ hi := by
    unfold topK
    split <;> omega
  omega
def oxLo (x : Le) : Int := x.g.o * min x.f x.t
def oxHi (x : Le) : Int := x.g.o * max x.f x.t
theorem ox_in {x : Le} (h : okLe x) : 0 ≤ x.g.o * min x.f x.t ∧ x.g.o * min x.f x.t ≤ x.g.o * max x.f x.t ∧ x.g.o * max x.f x.t ≤ 31100000 := by
  have h1 := h.f
  have h2 := h.t
  have h3 := h.sf
  have h4 := h.g
  have a := mulB (a := x.g.o) (b := min x.f x.t) (A := 1000) (B := 31100) (by omega) (by omega)
  have b := mulB (a := x.g.o) (b := max x.f x.t) (A := 1000) (B := 31100) (by omega) (by omega)
  exact ⟨a.1, Int.mul_le_mul_of_nonneg_left (by omega) (by omega), by omega⟩
def clkM (tb : List Ow) (x : Le) : Int := if oxLo x = oxHi x then x.x.s * rateM tb (oxLo x) else upZ (x.x.s * sumK tb (oxLo x) (oxHi x) tb.length) (oxHi x - oxLo x)
def clksK (tb : List Ow) (sf : Int) (gs : List Gs) (ls : List Dl) (k : Nat) : List Int := (List.range k).map fun i => clkM tb (legAt sf gs ls i)
theorem clksK_succ (tb : List Ow) (sf : Int) (gs : List Gs) (ls : List Dl) (k : Nat) : clksK tb sf gs ls (k + 1) = clksK tb sf gs ls k ++ [clkM tb (legAt sf gs ls k)] := by
  unfold clksK
  rw [List.range_succ, List.map_append]
  rfl
theorem clksK_len (tb : List Ow) (sf : Int) (gs : List Gs) (ls : List Dl) (k : Nat) : (clksK tb sf gs ls k).length = k := by simp [clksK]
theorem clksK_get {tb : List Ow} {sf : Int} {gs : List Gs} {ls : List Dl} {k i : Nat} (h : i < k) : (clksK tb sf gs ls k)[i]? = some (clkM tb (legAt sf gs ls i)) := by simp [clksK, h]
theorem clkM_in {tb : List Ow} {x : Le} (h : okLe x) (ht : okTb tb) : 0 ≤ clkM tb x ∧ clkM tb x ≤ 100000000000 := by
  have h1 := ox_in h
  have h2 := h.s
  unfold clkM
  by_cases hc : oxLo x = oxHi x
  · rw [if_pos hc]
    have h3 := rateM_in ht (oxLo x)
    have := mulB (A := 1000000) (B := 100000) (by omega : 0 ≤ x.x.s ∧ x.x.s ≤ 1000000) h3
    omega
  · rw [if_neg hc]
    have h3 : oxLo x ≤ oxHi x := h1.2.1
    have h4 := sumK_in ht h3 (Nat.le_refl _)
    generalize sumK tb (oxLo x) (oxHi x) tb.length = S at *
    have h5 := mulB (A := 1000000) (B := 100000 * (oxHi x - oxLo x)) (by omega : 0 ≤ x.x.s ∧ x.x.s ≤ 1000000) h4
    generalize hd : oxHi x - oxLo x = d at *
    have hd1 : 1 ≤ d := by omega
    unfold upZ
    constructor
    · exact Int.ediv_nonneg (by omega) (by omega)
    · have h6 : (x.x.s * S + d - 1) / d < 100000000000 + 1 := Int.ediv_lt_of_lt_mul (by omega) (by
        have e1 : (100000000000 + 1) * d = 1000000 * (100000 * d) + d := by grind
        omega)
      omega
/-! ### Rests -/
def hvM (c : Int) : Nat → Int
  | 0 => c
  | k + 1 => upZ (hvM c k) 2
theorem hvM_nn {c : Int} (h : 0 ≤ c) : ∀ k, 0 ≤ hvM c k ∧ hvM c k ≤ max 1 c
  | 0 => by show 0 ≤ c ∧ c ≤ max 1 c; omega
  | k + 1 => by
    obtain ⟨a, b⟩ := hvM_nn h k
    unfold hvM upZ
    omega
theorem hvM_low {c : Int} (h : 0 ≤ c) : ∀ k, hvM c k * 2 ^ k ≤ c + 2 ^ k - 1
  | 0 => by show c * 1 ≤ c + 1 - 1; omega
  | k + 1 => by
    have a := hvM_low h k
    have b := (hvM_nn h k).1
    have e : hvM c (k + 1) = (hvM c k + 1) / 2 := by show upZ (hvM c k) 2 = _; unfold upZ; omega
    have p2 : (0 : Int) < 2 ^ k := Int.pow_pos (by decide)
    have e2 : (2 : Int) ^ (k + 1) = 2 * 2 ^ k := by rw [Int.pow_succ]; omega
    rw [e, e2]
    generalize (2 : Int) ^ k = P at *
    have h1 : 2 * ((hvM c k + 1) / 2) ≤ hvM c k + 1 := by omega
    have h2 := Int.mul_le_mul_of_nonneg_right h1 (show 0 ≤ P by omega)
    have h3 : (hvM c k + 1) * P = hvM c k * P + P := by rw [Int.add_mul]; omega
    have h4 : (hvM c k + 1) / 2 * (2 * P) = 2 * ((hvM c k + 1) / 2) * P := by rw [← Int.mul_assoc, Int.mul_comm _ 2]
    omega
theorem hvM_stay {c : Int} (h : 0 ≤ c) {k : Nat} (hk : hvM c k ≤ 1) : ∀ j, hvM c (k + j) = hvM c k
  | 0 => rfl
  | j + 1 => by
    have e : hvM c (k + (j + 1)) = upZ (hvM c (k + j)) 2 := rfl
    have b := (hvM_nn h k).1
    rw [e, hvM_stay h hk j]
    unfold upZ
    omega
theorem hvM_64 {c : Int} (h : 0 ≤ c ∧ c ≤ 1000000000000) (n : Nat) : hvM c (min n 64) = hvM c n := by
  by_cases hn : n ≤ 64
  · rw [Nat.min_eq_left hn]
  · rw [Nat.min_eq_right (by omega)]
    have a := hvM_low h.1 64
    have : hvM c 64 ≤ 1 := by
      have e : (2 : Int) ^ 64 = 18446744073709551616 := by decide
      rw [e] at a
      omega
    have := hvM_stay h.1 this (n - 64)
    rw [show 64 + (n - 64) = n by omega] at this
    exact this.symm
theorem hvM_mono {c : Int} (h : 0 ≤ c) (k : Nat) : ∀ j, hvM c (k + j) ≤ hvM c k
  | 0 => Int.le_refl _
  | j + 1 => by
    have e : hvM c (k + (j + 1)) = upZ (hvM c (k + j)) 2 := rfl
    have b := hvM_mono h k j
    have a := (hvM_nn h (k + j)).1
    rw [e]
    unfold upZ
    omega
end Go.Proofs.YtibohfipgjljhaaDoor
namespace Go.Proofs.YtibohfipgjljhaaDoor

theorem upZ_mul {a c s : Int} (hc : 1 ≤ c) (hs : 1 ≤ s) : upZ (a * s) (c * s) = upZ a c := by
  have h1 := Int.mul_ediv_add_emod (a + c - 1) c
  have h2 := Int.emod_nonneg (a + c - 1) (show c ≠ 0 by omega)
  have h3 := Int.emod_lt_of_pos (a + c - 1) (show 0 < c by omega)
  unfold upZ
  generalize hq : (a + c - 1) / c = q at *
  generalize hr : (a + c - 1) % c = r at *
  have hcs : 0 < c * s := Int.mul_pos (by omega) (by omega)
  have e : a * s + c * s - 1 = (r * s + s - 1) + c * s * q := by
    have : a = r - c + 1 + c * q := by omega
    rw [this]; grind
  rw [e, Int.add_mul_ediv_left _ _ (by omega), Int.ediv_eq_zero_of_lt]
  · omega
  · have := Int.mul_nonneg h2 (show 0 ≤ s by omega); omega
  · have := Int.mul_le_mul_of_nonneg_right (show r + 1 ≤ c by omega) (show 0 ≤ s by omega)
    rw [Int.add_mul] at this
    omega
theorem upZ_in {n b N : Int} (h : 0 ≤ n ∧ n ≤ N) (hb : 1 ≤ b) : 0 ≤ upZ n b ∧ upZ n b ≤ N := by
  unfold upZ
  refine ⟨Int.ediv_nonneg (by omega) (by omega), ?_⟩
  have : (n + b - 1) / b < N + 1 := Int.ediv_lt_of_lt_mul (by omega) (by
    have := Int.mul_le_mul_of_nonneg_left hb (show 0 ≤ N by omega)
    have e : (N + 1) * b = N * b + b := by rw [Int.add_mul]; omega
    omega)
  omega
/-- what a leg breathes in its first seconds, as the program reckons it -/
def brM (b n : Int) (x : Le) : Int := if n = x.x.s then upZ (b * (x.f + x.t) * n) 120000 else upZ (b * n * (2 * x.f * x.x.s + (x.t - x.f) * n)) (120000 * x.x.s)
/-- and the reference -/
def partM (b n : Int) (x : Le) : Int := upZ (b * n * (2 * x.f * x.x.s + (x.t - x.f) * n)) (120000 * x.x.s)
theorem part_br {b n : Int} {x : Le} (h : okLe x) : partM b n x = brM b n x := by
  unfold partM brM
  by_cases hc : n = x.x.s
  · rw [if_pos hc, hc]
    have e : b * x.x.s * (2 * x.f * x.x.s + (x.t - x.f) * x.x.s) = b * (x.f + x.t) * x.x.s * x.x.s := by grind
    rw [e, upZ_mul (by omega) h.s.1]
  · rw [if_neg hc]
theorem br_fact {b n : Int} {x : Le} (h : okLe x) (hb : 1 ≤ b ∧ b ≤ 100000) (hn : 0 ≤ n ∧ n ≤ x.x.s) : (0 ≤ b * (x.f + x.t) ∧ b * (x.f + x.t) ≤ 6220000000) ∧ (0 ≤ b * (x.f + x.t) * n ∧ b * (x.f + x.t) * n ≤ 6220000000000000) := by
  have h1 := h.f
  have h2 := h.t
  have h3 := h.sf
  have h4 := h.s
  have a := mulB (a := b) (b := x.f + x.t) (A := 100000) (B := 62200) (by omega) (by omega)
  have c := mulB (a := b * (x.f + x.t)) (b := n) (A := 6220000000) (B := 1000000) (by omega) (by omega)
  exact ⟨by omega, by omega⟩
theorem br_fact2 {b n : Int} {x : Le} (h : okLe x) (hb : 1 ≤ b ∧ b ≤ 100000) (hn : 0 ≤ n ∧ n ≤ x.x.s) (hs : x.x.s ≤ 20000) : (0 ≤ b * n ∧ b * n ≤ 2000000000) ∧ (0 ≤ x.f * x.x.s ∧ x.f * x.x.s ≤ 622000000) ∧ (-622000000 ≤ (x.t - x.f) * n ∧ (x.t - x.f) * n ≤ 622000000) ∧ (0 ≤ 2 * x.f * x.x.s + (x.t - x.f) * n ∧ 2 * x.f * x.x.s + (x.t - x.f) * n ≤ 1244000000) ∧
    (0 ≤ b * n * (2 * x.f * x.x.s + (x.t - x.f) * n) ∧ b * n * (2 * x.f * x.x.s + (x.t - x.f) * n) ≤ 2488000000000000000) ∧ (0 ≤ 2 * x.f * x.x.s ∧ 2 * x.f * x.x.s ≤ 1244000000) := by
  have h1 := h.f
  have h2 := h.t
  have h3 := h.sf
  have h4 := h.s
  have a := mulB (a := b) (b := n) (A := 100000) (B := 20000) (by omega) (by omega)
  have c := mulB (a := x.f) (b := x.x.s) (A := 31100) (B := 20000) (by omega) (by omega)
  have d := mulB (a := x.t) (b := n) (A := 31100) (B := n) (by omega) (by omega)
  have e := mulB (a := x.f) (b := n) (A := 31100) (B := 20000) (by omega) (by omega)
  have f := mulB (a := x.f) (b := x.x.s - n) (A := 31100) (B := x.x.s - n) (by omega) (by omega)
  have e1 : (x.t - x.f) * n = x.t * n - x.f * n := by rw [Int.sub_mul]
  have e2 : 2 * x.f * x.x.s = 2 * (x.f * x.x.s) := by rw [Int.mul_assoc]
  have e3 : x.f * (x.x.s - n) = x.f * x.x.s - x.f * n := by rw [Int.mul_sub]
  have hsum : 0 ≤ 2 * x.f * x.x.s + (x.t - x.f) * n ∧ 2 * x.f * x.x.s + (x.t - x.f) * n ≤ 1244000000 := by
    rw [e1, e2]
    omega
  have g := mulB (A := 2000000000) (B := 1244000000) (show 0 ≤ b * n ∧ b * n ≤ 2000000000 by omega) hsum
  exact ⟨⟨a.1, by omega⟩, by omega, by rw [e1]; omega, hsum, ⟨g.1, by omega⟩, by rw [e2]; omega⟩
theorem brM_in {b n : Int} {x : Le} (h : okLe x) (hb : 1 ≤ b ∧ b ≤ 100000) (hn : 0 ≤ n ∧ n ≤ x.x.s) (hs : n = x.x.s ∨ x.x.s ≤ 20000) : 0 ≤ brM b n x ∧ brM b n x ≤ 51833333334 := by
  unfold brM
  by_cases hc : n = x.x.s
  · rw [if_pos hc]
    have := (br_fact h hb hn).2
    unfold upZ
    omega
  · rw [if_neg hc]
    have h9 := br_fact2 h hb hn (by omega)
    have h8 := h9.1
    have h4 := h.s
    have h7 := h9.2.2.2.1
    have hbn := mulB (a := b * n) (b := 2 * x.f * x.x.s + (x.t - x.f) * n) (A := 100000 * x.x.s) (B := 1244000000) (by
      have := mulB (a := b) (b := n) (A := 100000) (B := x.x.s) (by omega) (by omega)
      omega) (by omega)
    unfold upZ
    generalize b * n * (2 * x.f * x.x.s + (x.t - x.f) * n) = m at *
    constructor
    · exact Int.ediv_nonneg (by omega) (by omega)
    · have h6 : (m + 120000 * x.x.s - 1) / (120000 * x.x.s) < 51833333334 + 1 := Int.ediv_lt_of_lt_mul (by omega) (by
        have e1 : 100000 * x.x.s * 1244000000 = 124400000000000 * x.x.s := by grind
        have e2 : (51833333334 + 1) * (120000 * x.x.s) = 6220000000200000 * x.x.s := by grind
        omega)
      omega
/-! ### Answers with errors -/
def rateE (r : Ru) (o : Int) : Int × Int := if ckRu r ≠ 0 then (0, ckRu r) else if 0 ≤ o ∧ o ≤ 100000 then (rateM r.tb (1000 * o), 0) else (0, 2)
theorem rateE_1 {r : Ru} {o : Int} (h : ckRu r ≠ 0) : rateE r o = (0, ckRu r) := if_pos h
theorem rateE_2 {r : Ru} {o : Int} (h : ckRu r = 0) (h2 : ¬ (0 ≤ o ∧ o ≤ 100000)) : rateE r o = (0, 2) := by unfold rateE; rw [if_neg (fun hh => hh h), if_neg h2]
theorem rateE_3 {r : Ru} {o : Int} (h : ckRu r = 0) (h2 : 0 ≤ o ∧ o ≤ 100000) : rateE r o = (rateM r.tb (1000 * o), 0) := by unfold rateE; rw [if_neg (fun hh => hh h), if_pos h2]
def restedE (c s : Int) : Int × Int := if 0 ≤ c ∧ c ≤ 1000000000000 ∧ 0 ≤ s ∧ s ≤ 10000000 then (hvM c (s / 5400).toNat, 0) else (0, 2)
theorem restedE_1 {c s : Int} (h : ¬ (0 ≤ c ∧ c ≤ 1000000000000 ∧ 0 ≤ s ∧ s ≤ 10000000)) : restedE c s = (0, 2) := if_neg h
theorem restedE_2 {c s : Int} (h : 0 ≤ c ∧ c ≤ 1000000000000 ∧ 0 ≤ s ∧ s ≤ 10000000) : restedE c s = (hvM c (s / 5400).toNat, 0) := if_pos h
def clkE (nm : ByteArray) (sf : Int) (gs : List Gs) (ls : List Dl) (r : Ru) : List Int × Int := if bothE nm sf gs ls r ≠ 0 then ([], bothE nm sf gs ls r) else (clksK r.tb sf gs ls ls.length, 0)
theorem clkE_1 {nm : ByteArray} {sf : Int} {gs : List Gs} {ls : List Dl} {r : Ru} (h : bothE nm sf gs ls r ≠ 0) : clkE nm sf gs ls r = ([], bothE nm sf gs ls r) := if_pos h
theorem clkE_2 {nm : ByteArray} {sf : Int} {gs : List Gs} {ls : List Dl} {r : Ru} (h : bothE nm sf gs ls r = 0) : clkE nm sf gs ls r = (clksK r.tb sf gs ls ls.length, 0) := if_neg (fun hh => hh h)
/-! ### Sums by gases -/
def addAt (L : List Int) (i : Nat) (a : Int) : List Int := L.set i (L[i]?.getD 0 + a)
theorem addAt_len (L : List Int) (i : Nat) (a : Int) : (addAt L i a).length = L.length := by simp [addAt]
theorem addAt_zero (L : List Int) (i : Nat) : addAt L i 0 = L := by
  unfold addAt
  rw [Int.add_zero]
  apply List.ext_getElem?
  intro j
  rw [List.getElem?_set]
  by_cases h : i = j
  · subst h
    by_cases h2 : i < L.length
    · simp [h2]
    · simp [h2]
  · simp [h]
/-- what is breathed of each gas in the first k legs, where leg i breathes amt i -/
def consK (n : Nat) (ls : List Dl) (amt : Nat → Int) : Nat → List Int
  | 0 => List.replicate n 0
  | k + 1 => addAt (consK n ls amt k) (dlAt ls k).g.toNat (amt k)
theorem consK_len (n : Nat) (ls : List Dl) (amt : Nat → Int) : ∀ k, (consK n ls amt k).length = n
  | 0 => by simp [consK]
  | k + 1 => by unfold consK; rw [addAt_len, consK_len n ls amt k]
theorem addAt_get {L : List Int} {i j : Nat} {a v : Int} (h : (addAt L i a)[j]? = some v) : (i = j ∧ ∃ u, L[j]? = some u ∧ v = u + a) ∨ (i ≠ j ∧ L[j]? = some v) := by
  unfold addAt at h
  rw [List.getElem?_set] at h
  by_cases hij : i = j
  · subst hij
    rw [if_pos rfl] at h
    by_cases h2 : i < L.length
    · rw [if_pos h2] at h
      injection h with h
      exact .inl ⟨rfl, L[i], List.getElem?_eq_getElem h2, by rw [← h, List.getElem?_eq_getElem h2]; rfl⟩
    · rw [if_neg h2] at h; cases h
  · rw [if_neg hij] at h
    exact .inr ⟨hij, h⟩
theorem consK_in {n : Nat} {ls : List Dl} {amt : Nat → Int} {A : Int} (hA : 0 ≤ A) : ∀ k, (∀ i, i < k → 0 ≤ amt i ∧ amt i ≤ A) → ∀ (j : Nat) (v : Int), (consK n ls amt k)[j]? = some v → 0 ≤ v ∧ v ≤ A * k
  | 0, _, j, v, hv => by
    unfold consK at hv
    rw [List.getElem?_replicate] at hv
    split at hv
    · injection hv with hv; subst hv; simp
    · cases hv
  | k + 1, h, j, v, hv => by
    have ih := consK_in (n := n) (ls := ls) hA k (fun i hi => h i (by omega))
    have ha := h k (by omega)
    have e : A * ((k + 1 : Nat) : Int) = A * k + A := by rw [Int.natCast_add, Int.mul_add]; omega
    rw [e]
    unfold consK at hv
    rcases addAt_get hv with ⟨_, u, hu, rfl⟩ | ⟨_, hu⟩
    · have := ih j u hu; omega
    · have := ih j v hu; omega
theorem consK_congr {n : Nat} {ls : List Dl} {amt amt' : Nat → Int} : ∀ k, (∀ i, i < k → amt i = amt' i) → consK n ls amt k = consK n ls amt' k
  | 0, _ => rfl
  | k + 1, h => by
    unfold consK
    rw [consK_congr k (fun i hi => h i (by omega)), h k (by omega)]
/-- what leg i breathes -/
def amtS (sf : Int) (gs : List Gs) (ls : List Dl) (b : Int) (i : Nat) : Int := brM b (dlAt ls i).s (legAt sf gs ls i)
theorem amtS_in {sf : Int} {gs : List Gs} {ls : List Dl} {b : Int} (H : okPl sf gs ls) (hb : 1 ≤ b ∧ b ≤ 100000) {i : Nat} (hi : i < ls.length) : 0 ≤ amtS sf gs ls b i ∧ amtS sf gs ls b i ≤ 51833333334 := by
  have h := H.le hi
  have hs : 1 ≤ (dlAt ls i).s ∧ _ := h.s
  exact brM_in h hb (by show 0 ≤ (dlAt ls i).s ∧ (dlAt ls i).s ≤ (dlAt ls i).s; omega) (.inl rfl)
def consE (nm : ByteArray) (sf : Int) (gs : List Gs) (ls : List Dl) (b : Int) : List Int × Int := if (ckPl nm sf gs ls).2 ≠ 0 then ([], (ckPl nm sf gs ls).2) else if 1 ≤ b ∧ b ≤ 100000 then (consK gs.length ls (amtS sf gs ls b) ls.length, 0) else ([], 2)
theorem consE_1 {nm : ByteArray} {sf b : Int} {gs : List Gs} {ls : List Dl} (h : (ckPl nm sf gs ls).2 ≠ 0) : consE nm sf gs ls b = ([], (ckPl nm sf gs ls).2) := if_pos h
theorem consE_2 {nm : ByteArray} {sf b : Int} {gs : List Gs} {ls : List Dl} (h : (ckPl nm sf gs ls).2 = 0) (h2 : ¬ (1 ≤ b ∧ b ≤ 100000)) : consE nm sf gs ls b = ([], 2) := by unfold consE; rw [if_neg (fun hh => hh h), if_neg h2]
theorem consE_3 {nm : ByteArray} {sf b : Int} {gs : List Gs} {ls : List Dl} (h : (ckPl nm sf gs ls).2 = 0) (h2 : 1 ≤ b ∧ b ≤ 100000) : consE nm sf gs ls b = (consK gs.length ls (amtS sf gs ls b) ls.length, 0) := by unfold consE; rw [if_neg (fun hh => hh h), if_pos h2]
/-! ### Escapes -/
def escM (r : Ru) (sf d : Int) : Int := upZ (r.em * ((sf + d) * r.pa * r.ac + (2 * sf + d) * 30 * d)) (60000 * r.ac)
def escE (r : Ru) (sf d : Int) : Int × Int := if ckRu r ≠ 0 then (0, ckRu r) else if 400 ≤ sf ∧ sf ≤ 1100 ∧ 0 ≤ d ∧ d ≤ 30000 then (escM r sf d, 0) else (0, 2)
theorem escE_1 {r : Ru} {sf d : Int} (h : ckRu r ≠ 0) : escE r sf d = (0, ckRu r) := if_pos h
theorem escE_2 {r : Ru} {sf d : Int} (h : ckRu r = 0) (h2 : ¬ (400 ≤ sf ∧ sf ≤ 1100 ∧ 0 ≤ d ∧ d ≤ 30000)) : escE r sf d = (0, 2) := by unfold escE; rw [if_neg (fun hh => hh h), if_neg h2]
theorem escE_3 {r : Ru} {sf d : Int} (h : ckRu r = 0) (h2 : 400 ≤ sf ∧ sf ≤ 1100 ∧ 0 ≤ d ∧ d ≤ 30000) : escE r sf d = (escM r sf d, 0) := by unfold escE; rw [if_neg (fun hh => hh h), if_pos h2]
theorem esc_fact {r : Ru} (H : okRu r) {sf d : Int} (hs : 400 ≤ sf ∧ sf ≤ 1100) (hd : 0 ≤ d ∧ d ≤ 30000) : (0 ≤ (sf + d) * r.pa ∧ (sf + d) * r.pa ≤ 111960000) ∧ (0 ≤ (sf + d) * r.pa * r.ac ∧ (sf + d) * r.pa * r.ac ≤ 335880000000) ∧ (0 ≤ (2 * sf + d) * 30 * d ∧ (2 * sf + d) * 30 * d ≤ 28980000000) ∧
    (0 ≤ r.em * ((sf + d) * r.pa * r.ac + (2 * sf + d) * 30 * d) ∧ r.em * ((sf + d) * r.pa * r.ac + (2 * sf + d) * 30 * d) ≤ 36486000000000000) := by
  have h1 := H.pa
  have h2 := H.ac
  have h3 := H.em
  have a := mulB (a := sf + d) (b := r.pa) (A := 31100) (B := 3600) (by omega) (by omega)
  have b := mulB (a := (sf + d) * r.pa) (b := r.ac) (A := 111960000) (B := 3000) (by omega) (by omega)
  have c := mulB (a := (2 * sf + d) * 30) (b := d) (A := 966000) (B := 30000) (by omega) (by omega)
  have e := mulB (a := r.em) (b := (sf + d) * r.pa * r.ac + (2 * sf + d) * 30 * d) (A := 100000) (B := 364860000000) (by omega) (by omega)
  exact ⟨by omega, by omega, by omega, by omega⟩
theorem escM_in {r : Ru} (H : okRu r) {sf d : Int} (hs : 400 ≤ sf ∧ sf ≤ 1100) (hd : 0 ≤ d ∧ d ≤ 30000) : 0 ≤ escM r sf d ∧ escM r sf d ≤ 36486000000000000 := by
  have := esc_fact H hs hd
  have h2 := H.ac
  exact upZ_in this.2.2.2 (by omega)
theorem upZ_mono {a b c : Int} (h : a ≤ b) (hc : 1 ≤ c) : upZ a c ≤ upZ b c := by
  unfold upZ
  exact Int.ediv_le_ediv (by omega) (by omega)
theorem esc_mono {r : Ru} (H : okRu r) {sf d d' : Int} (hs : 400 ≤ sf ∧ sf ≤ 1100) (h0 : 0 ≤ d) (hd : d ≤ d') : escM r sf d ≤ escM r sf d' := by
  have h1 := H.pa
  have h2 := H.ac
  have h3 := H.em
  refine upZ_mono (Int.mul_le_mul_of_nonneg_left ?_ (by omega)) (by omega)
  have a : (sf + d) * r.pa * r.ac ≤ (sf + d') * r.pa * r.ac := Int.mul_le_mul_of_nonneg_right (Int.mul_le_mul_of_nonneg_right (by omega) (by omega)) (by omega)
  have b1 : (2 * sf + d) * 30 * d ≤ (2 * sf + d') * 30 * d := Int.mul_le_mul_of_nonneg_right (by omega) h0
  have b2 : (2 * sf + d') * 30 * d ≤ (2 * sf + d') * 30 * d' := Int.mul_le_mul_of_nonneg_left hd (by omega)
  omega
end Go.Proofs.YtibohfipgjljhaaDoor
namespace Go.Proofs.YtibohfipgjljhaaDoor

theorem up_eq {n b : Int} (hb : 1 ≤ b) (h : n / b * b = n) : upZ n b = n / b := by
  unfold upZ
  have e : n + b - 1 = (b - 1) + b * (n / b) := by rw [Int.mul_comm b]; omega
  rw [e, Int.add_mul_ediv_left _ _ (by omega), Int.ediv_eq_zero_of_lt (by omega) (by omega)]
  omega
theorem up_ne {n b : Int} (hb : 1 ≤ b) (h : ¬ n / b * b = n) : upZ n b = n / b + 1 := by
  have h1 := Int.mul_ediv_add_emod n b
  have h2 := Int.emod_nonneg n (show b ≠ 0 by omega)
  have h3 := Int.emod_lt_of_pos n (show 0 < b by omega)
  have h4 : n / b * b = b * (n / b) := Int.mul_comm _ _
  unfold upZ
  have e : n + b - 1 = (n % b - 1) + b * (n / b + 1) := by rw [Int.mul_add]; omega
  rw [e, Int.add_mul_ediv_left _ _ (by omega), Int.ediv_eq_zero_of_lt (by omega) (by omega)]
  omega
def wgM (g : Gs) : Int := g.o * 1429 + g.h * 179 + (1000 - g.o - g.h) * 1251
def wgK (g : Gs) : Nat → Int
  | 0 => 0
  | 1 => g.o * 1429
  | 2 => g.o * 1429 + g.h * 179
  | _ => wgM g
def denM (g : Gs) (p : Int) : Rg := ⟨wgM g * p / 1013000, upZ (wgM g * p) 1013000⟩
def narM (g : Gs) (sf d : Int) : Rg := ⟨max 0 ((1000 - g.h) * (sf + d) / 1000 - sf), max 0 (upZ ((1000 - g.h) * (sf + d)) 1000 - sf)⟩
theorem wg_fact {g : Gs} {p : Int} (hg : 0 ≤ g.o ∧ 0 ≤ g.h ∧ g.o + g.h ≤ 1000) (hp : 0 ≤ p ∧ p ≤ 100000) : (0 ≤ wgM g ∧ wgM g ≤ 1429000) ∧ 0 ≤ wgM g * p ∧ wgM g * p ≤ 142900000000 := by
  have h1 : 0 ≤ wgM g ∧ wgM g ≤ 1429000 := by unfold wgM; omega
  have := mulB (a := wgM g) (b := p) (A := 1429000) (B := 100000) h1 hp
  exact ⟨h1, by omega⟩
theorem nar_fact {g : Gs} {q : Int} (hg : 0 ≤ g.o ∧ 0 ≤ g.h ∧ g.o + g.h ≤ 1000) (hq : 0 ≤ q ∧ q ≤ 31100) : 0 ≤ (1000 - g.h) * q ∧ (1000 - g.h) * q ≤ 31100000 := by
  have := mulB (a := 1000 - g.h) (b := q) (A := 1000) (B := 31100) (by omega) hq
  omega
/-! ### The first number of which something holds -/
def firstB (p : Nat → Bool) : Nat → Nat
  | 0 => 0
  | n + 1 => if firstB p n < n then firstB p n else if p n then n else n + 1
theorem firstB_le (p : Nat → Bool) : ∀ n, firstB p n ≤ n
  | 0 => Nat.le_refl _
  | n + 1 => by
    unfold firstB
    have := firstB_le p n
    split
    · omega
    · split <;> omega
theorem firstB_spec (p : Nat → Bool) : ∀ n, (∀ i, i < firstB p n → p i = false) ∧ (firstB p n < n → p (firstB p n) = true)
  | 0 => ⟨fun i hi => by unfold firstB at hi; omega, fun h => by unfold firstB at h; omega⟩
  | n + 1 => by
    obtain ⟨h1, h2⟩ := firstB_spec p n
    have h3 := firstB_le p n
    unfold firstB
    by_cases hc : firstB p n < n
    · rw [if_pos hc]
      exact ⟨h1, fun _ => h2 hc⟩
    · rw [if_neg hc]
      have e : firstB p n = n := by omega
      rw [e] at h1
      by_cases hp : p n = true
      · rw [if_pos hp]
        exact ⟨h1, fun _ => hp⟩
      · rw [if_neg hp]
        refine ⟨fun i hi => ?_, fun h => by omega⟩
        rcases Nat.lt_or_eq_of_le (Nat.le_of_lt_succ hi) with h9 | rfl
        · exact h1 i h9
        · simpa using hp
theorem firstB_iff {p : Nat → Bool} (hm : ∀ i j, i ≤ j → p i = true → p j = true) {n i : Nat} (hi : i < n) : p i = decide (firstB p n ≤ i) := by
  obtain ⟨h1, h2⟩ := firstB_spec p n
  by_cases hc : firstB p n ≤ i
  · rw [decide_eq_true hc]
    exact hm _ i hc (h2 (by omega))
  · rw [decide_eq_false hc]
    exact h1 i (by omega)
theorem firstB_eq {p : Nat → Bool} (hm : ∀ i j, i ≤ j → p i = true → p j = true) {n m : Nat} (h0 : m ≤ n) (h1 : m = 0 ∨ p (m - 1) = false) (h2 : m = n ∨ p m = true) : firstB p n = m := by
  obtain ⟨s1, s2⟩ := firstB_spec p n
  have s3 := firstB_le p n
  rcases Nat.lt_trichotomy (firstB p n) m with h | h | h
  · have h9 := hm _ (m - 1) (show firstB p n ≤ m - 1 by omega) (s2 (by omega))
    rcases h1 with h1 | h1
    · omega
    · rw [h9] at h1; cases h1
  · exact h
  · have h9 := s1 m h
    rcases h2 with h2 | h2
    · omega
    · rw [h9] at h2; cases h2
/-! ### The depths for a gas -/
abbrev poorP (g : Gs) (p : Int) (r : Ru) : Prop := g.o * p < 1000 * r.lo
def richB (g : Gs) (p : Int) (r : Ru) : Bool := decide (g.o * p > 1000 * r.hi)
def narcB (g : Gs) (sf p : Int) (r : Ru) : Bool := decide ((narM g sf (p - sf)).hi > r.na)
def denB (g : Gs) (p : Int) (r : Ru) : Bool := decide ((denM g p).hi > r.de)
def heavyB (g : Gs) (sf p : Int) (r : Ru) : Bool := richB g p r || narcB g sf p r || denB g p r
def notPoor (g : Gs) (sf : Int) (r : Ru) (i : Nat) : Bool := decide (¬ poorP g (sf + i) r)
def isHeavy (g : Gs) (sf : Int) (r : Ru) (i : Nat) : Bool := heavyB g sf (sf + i) r
theorem notPoor_mono {g : Gs} {sf : Int} {r : Ru} (hg : 0 ≤ g.o) : ∀ i j, i ≤ j → notPoor g sf r i = true → notPoor g sf r j = true := fun i j h hp => by
  unfold notPoor at hp ⊢
  have h1 := of_decide_eq_true hp
  have h2 := Int.mul_le_mul_of_nonneg_left (show sf + (i : Int) ≤ sf + (j : Int) by omega) hg
  exact decide_eq_true (by omega)
theorem isHeavy_mono {g : Gs} {sf : Int} {r : Ru} (hg : 0 ≤ g.o ∧ 0 ≤ g.h ∧ g.o + g.h ≤ 1000) : ∀ i j, i ≤ j → isHeavy g sf r i = true → isHeavy g sf r j = true := fun i j h hp => by
  unfold isHeavy heavyB at hp ⊢
  simp only [Bool.or_eq_true] at hp ⊢
  have hw : 0 ≤ wgM g := by unfold wgM; omega
  rcases hp with (hp | hp) | hp
  · refine .inl (.inl ?_)
    unfold richB at hp ⊢
    have h1 := of_decide_eq_true hp
    have h2 := Int.mul_le_mul_of_nonneg_left (show sf + (i : Int) ≤ sf + (j : Int) by omega) hg.1
    exact decide_eq_true (by omega)
  · refine .inl (.inr ?_)
    unfold narcB at hp ⊢
    have h1 := of_decide_eq_true hp
    have e : ∀ k : Nat, sf + (sf + (k : Int) - sf) = sf + (k : Int) := fun k => by omega
    unfold narM at h1 ⊢
    simp only [e] at h1 ⊢
    have h2 := upZ_mono (c := 1000) (Int.mul_le_mul_of_nonneg_left (show sf + (i : Int) ≤ sf + (j : Int) by omega) (show 0 ≤ 1000 - g.h by omega)) (by omega)
    exact decide_eq_true (by omega)
  · refine .inr ?_
    unfold denB at hp ⊢
    have h1 := of_decide_eq_true hp
    unfold denM at h1 ⊢
    dsimp only at h1 ⊢
    have h2 := upZ_mono (c := 1013000) (Int.mul_le_mul_of_nonneg_left (show sf + (i : Int) ≤ sf + (j : Int) by omega) hw) (by omega)
    exact decide_eq_true (by omega)
def dLo (g : Gs) (sf : Int) (r : Ru) : Nat := firstB (notPoor g sf r) 30001
def dHi (g : Gs) (sf : Int) (r : Ru) : Nat := firstB (isHeavy g sf r) 30001
def ckGSR (g : Gs) (sf : Int) (r : Ru) : Int := if ckGas g.o g.h ≠ 0 then ckGas g.o g.h else if 400 ≤ sf ∧ sf ≤ 1100 then ckRu r else 2
def dofE (g : Gs) (sf : Int) (r : Ru) : Rg × Int := if ckGSR g sf r ≠ 0 then (⟨0, 0⟩, ckGSR g sf r) else if (dLo g sf r : Int) > dHi g sf r - 1 then (⟨0, 0⟩, 12) else (⟨dLo g sf r, dHi g sf r - 1⟩, 0)
section
variable {g : Gs} {sf : Int} {r : Ru}
theorem ckGSR_1 (h : ckGas g.o g.h ≠ 0) : ckGSR g sf r = ckGas g.o g.h := if_pos h
theorem ckGSR_2 (h : ckGas g.o g.h = 0) (h2 : ¬ (400 ≤ sf ∧ sf ≤ 1100)) : ckGSR g sf r = 2 := by unfold ckGSR; rw [if_neg (fun hh => hh h), if_neg h2]
theorem ckGSR_3 (h : ckGas g.o g.h = 0) (h2 : 400 ≤ sf ∧ sf ≤ 1100) : ckGSR g sf r = ckRu r := by unfold ckGSR; rw [if_neg (fun hh => hh h), if_pos h2]
theorem ckGSR_ok (h : ckGSR g sf r = 0) : ckGas g.o g.h = 0 ∧ (400 ≤ sf ∧ sf ≤ 1100) ∧ ckRu r = 0 := by
  by_cases h1 : ckGas g.o g.h = 0
  · by_cases h2 : 400 ≤ sf ∧ sf ≤ 1100
    · rw [ckGSR_3 h1 h2] at h; exact ⟨h1, h2, h⟩
    · rw [ckGSR_2 h1 h2] at h; cases h
  · rw [ckGSR_1 h1] at h; exact absurd h h1
theorem dofE_1 (h : ckGSR g sf r ≠ 0) : dofE g sf r = (⟨0, 0⟩, ckGSR g sf r) := if_pos h
theorem dofE_2 (h : ckGSR g sf r = 0) (h2 : (dLo g sf r : Int) > dHi g sf r - 1) : dofE g sf r = (⟨0, 0⟩, 12) := by unfold dofE; rw [if_neg (fun hh => hh h), if_pos h2]
theorem dofE_3 (h : ckGSR g sf r = 0) (h2 : ¬ (dLo g sf r : Int) > dHi g sf r - 1) : dofE g sf r = (⟨dLo g sf r, dHi g sf r - 1⟩, 0) := by unfold dofE; rw [if_neg (fun hh => hh h), if_neg h2]
end
end Go.Proofs.YtibohfipgjljhaaDoor
