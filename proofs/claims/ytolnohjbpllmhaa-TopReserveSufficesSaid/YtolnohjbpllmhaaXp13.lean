/-
  Plain laws of chapters 2 and 5: the depth at a second, a plan up to a second, and its needs. Conditions: none; no program in sight.
-/
namespace Go.Proofs.Ytolnohjbpllmhaa

def upZ (n b : Int) : Int := (n + b - 1) / b
def firstE : List Int → Int
  | [] => 0
  | e :: t => if e = 0 then firstE t else e
def ckGas (o h : Int) : Int := if ¬ (0 ≤ o ∧ o ≤ 1000 ∧ 0 ≤ h ∧ h ≤ 1000) then 2 else if o + h > 1000 then 23 else 0
structure Cp where
  n : Int
  h : Int
  b : Int
  s : Int
structure Rg where
  lo : Int
  hi : Int
structure Ld where
  n : Rg
  h : Rg
structure Gs where
  o : Int
  h : Int
structure Lg where
  f : Int
  t : Int
  s : Int
  g : Gs
def okCp (c : Cp) : Prop := 1 ≤ c.n ∧ c.n ≤ 100000 ∧ 1 ≤ c.h ∧ c.h ≤ 100000 ∧ 0 ≤ c.b ∧ c.b ≤ 10000 ∧ 1000 ≤ c.s ∧ c.s ≤ 10000
instance (c : Cp) : Decidable (okCp c) := by unfold okCp; infer_instance
def ckCps : List Cp → Int
  | [] => 0
  | c :: t => if okCp c then ckCps t else 2
def ckTab (ts : List Cp) : Int := if 1 ≤ ts.length ∧ ts.length ≤ 16 then ckCps ts else 10
def ckSpan (r : Rg) : Int := if 0 ≤ r.lo ∧ r.lo ≤ 100000000 ∧ 0 ≤ r.hi ∧ r.hi ≤ 100000000 then 0 else 2
def ckLd (l : Ld) : Int := if ckSpan l.n ≠ 0 ∨ ckSpan l.h ≠ 0 then 2 else if l.n.lo > l.n.hi ∨ l.h.lo > l.h.hi then 9 else 0
def ckLds : List Ld → Int
  | [] => 0
  | l :: t => if ckLd l ≠ 0 then ckLd l else ckLds t
def ckLoads (ts : List Cp) (ls : List Ld) : Int := if ckTab ts ≠ 0 then ckTab ts else if ls.length ≠ ts.length then 10 else ckLds ls
def okPr (p : Int) : Prop := 400 ≤ p ∧ p ≤ 31100
instance (p : Int) : Decidable (okPr p) := by unfold okPr; infer_instance
def ckLeg (x : Lg) : Int := if ¬ (okPr x.f ∧ okPr x.t ∧ 0 ≤ x.s ∧ x.s ≤ 100000) then 2 else if ckGas x.g.o x.g.h ≠ 0 then ckGas x.g.o x.g.h else if x.s = 0 ∧ x.f ≠ x.t then 11 else 0

/-! ### Square roots -/
def sqrN : Nat → Nat
  | 0 => 0
  | n + 1 => if (sqrN n + 1) * (sqrN n + 1) ≤ n + 1 then sqrN n + 1 else sqrN n
theorem sqrN_spec : ∀ n, sqrN n * sqrN n ≤ n ∧ n < (sqrN n + 1) * (sqrN n + 1)
  | 0 => by simp [sqrN]
  | n + 1 => by
    obtain ⟨h1, h2⟩ := sqrN_spec n
    simp only [sqrN]
    by_cases h : (sqrN n + 1) * (sqrN n + 1) ≤ n + 1
    · rw [if_pos h]
      refine ⟨h, ?_⟩
      have : (sqrN n + 1 + 1) * (sqrN n + 1 + 1) = (sqrN n + 1) * (sqrN n + 1) + 2 * (sqrN n + 1) + 1 := by
        simp only [Nat.add_mul, Nat.mul_add]; omega
      omega
    · rw [if_neg h]
      omega
theorem sqrN_uniq {n r : Nat} (h1 : r * r ≤ n) (h2 : n < (r + 1) * (r + 1)) : r = sqrN n := by
  obtain ⟨h3, h4⟩ := sqrN_spec n
  rcases Nat.lt_trichotomy r (sqrN n) with h | h | h
  · have : (r + 1) * (r + 1) ≤ sqrN n * sqrN n := Nat.mul_le_mul h h
    omega
  · exact h
  · have : (sqrN n + 1) * (sqrN n + 1) ≤ r * r := Nat.mul_le_mul h h
    omega
def sqrZ (n : Int) : Int := sqrN n.toNat
theorem sqrZ_uniq {n r : Int} (h0 : 0 ≤ r) (h1 : r * r ≤ n) (h2 : n < (r + 1) * (r + 1)) : r = sqrZ n := by
  obtain ⟨k, rfl⟩ := Int.eq_ofNat_of_zero_le h0
  have hn : 0 ≤ n := Int.le_trans (Int.mul_nonneg h0 h0) h1
  obtain ⟨m, rfl⟩ := Int.eq_ofNat_of_zero_le hn
  unfold sqrZ
  rw [Int.toNat_natCast]
  congr 1
  refine sqrN_uniq ?_ ?_
  · exact_mod_cast h1
  · exact_mod_cast h2
theorem sqrZ_spec {n : Int} (hn : 0 ≤ n) : 0 ≤ sqrZ n ∧ sqrZ n * sqrZ n ≤ n ∧ n < (sqrZ n + 1) * (sqrZ n + 1) := by
  obtain ⟨m, rfl⟩ := Int.eq_ofNat_of_zero_le hn
  unfold sqrZ
  rw [Int.toNat_natCast]
  obtain ⟨h1, h2⟩ := sqrN_spec m
  refine ⟨Int.natCast_nonneg _, ?_, ?_⟩
  · exact_mod_cast h1
  · exact_mod_cast h2

/-! ### Lists -/
theorem drop_cons {α : Type} {l : List α} {k : Nat} {x : α} (h : l[k]? = some x) : l.drop k = x :: l.drop (k + 1) := by
  obtain ⟨hk, hx⟩ := List.getElem?_eq_some_iff.1 h
  rw [List.drop_eq_getElem_cons hk, hx]
theorem get_some {α : Type} (l : List α) {k : Nat} (h : k < l.length) : ∃ x, l[k]? = some x := ⟨l[k], List.getElem?_eq_getElem h⟩
theorem map_get {α β : Type} (f : α → β) {l : List α} {k : Nat} {x : α} (h : l[k]? = some x) : (l.map f)[k]? = some (f x) := by rw [List.getElem?_map, h]; rfl
theorem drop_all {α : Type} {l : List α} {k : Nat} (h : l.length ≤ k) : l.drop k = [] := List.drop_eq_nil_of_le h
theorem firstE_step {es : List Int} {k : Nat} {e : Int} (h : es[k]? = some e) : firstE (es.drop k) = if e = 0 then firstE (es.drop (k + 1)) else e := by rw [drop_cons h]; rfl
theorem ckCps_step {ts : List Cp} {k : Nat} {c : Cp} (h : ts[k]? = some c) : ckCps (ts.drop k) = if okCp c then ckCps (ts.drop (k + 1)) else 2 := by rw [drop_cons h]; rfl
theorem ckLds_step {ls : List Ld} {k : Nat} {l : Ld} (h : ls[k]? = some l) : ckLds (ls.drop k) = if ckLd l ≠ 0 then ckLd l else ckLds (ls.drop (k + 1)) := by rw [drop_cons h]; rfl

/-! ### Closing lemmas -/
theorem ckGas_e (o h : Int) : firstE [if 0 ≤ o ∧ o ≤ 1000 then 0 else 2, if 0 ≤ h ∧ h ≤ 1000 then 0 else 2] = if 0 ≤ o ∧ o ≤ 1000 ∧ 0 ≤ h ∧ h ≤ 1000 then 0 else 2 := by
  simp only [firstE]
  (repeat' split) <;> omega
theorem ckGas_a {o h : Int} (hc : firstE [if 0 ≤ o ∧ o ≤ 1000 then 0 else 2, if 0 ≤ h ∧ h ≤ 1000 then 0 else 2] ≠ 0) : firstE [if 0 ≤ o ∧ o ≤ 1000 then 0 else 2, if 0 ≤ h ∧ h ≤ 1000 then 0 else 2] = ckGas o h := by
  rw [ckGas_e] at hc ⊢
  unfold ckGas
  split at hc
  · omega
  · rename_i hn; rw [if_neg hn, if_pos hn]
theorem ckGas_b {o h : Int} (hc : ¬ firstE [if 0 ≤ o ∧ o ≤ 1000 then 0 else 2, if 0 ≤ h ∧ h ≤ 1000 then 0 else 2] ≠ 0) : ckGas o h = if 1000 < o + h then 23 else 0 := by
  rw [ckGas_e] at hc
  unfold ckGas
  split at hc
  · rename_i hp; rw [if_neg (by omega)]
  · omega
theorem ckGas_c {o h : Int} (hc : ¬ firstE [if 0 ≤ o ∧ o ≤ 1000 then 0 else 2, if 0 ≤ h ∧ h ≤ 1000 then 0 else 2] ≠ 0) : 0 ≤ o ∧ o ≤ 1000 ∧ 0 ≤ h ∧ h ≤ 1000 := by
  rw [ckGas_e] at hc
  split at hc
  · assumption
  · omega
end Go.Proofs.Ytolnohjbpllmhaa
namespace Go.Proofs.Ytolnohjbpllmhaa

/-! ### Division -/
theorem floor_yes {n b : Int} (hb : 1 ≤ b) (h : n.tmod b < 0) : n.tdiv b - 1 = n / b := by
  have h1 := Int.mul_tdiv_add_tmod n b
  have h2 := Int.lt_tmod_of_pos n (show 0 < b by omega)
  have h3 : (n.tmod b + b) + b * (n.tdiv b - 1) = n := by rw [Int.mul_sub, Int.mul_one]; omega
  exact ((Int.ediv_emod_unique (show 0 < b by omega)).2 ⟨h3, by omega, by omega⟩).1.symm
theorem floor_no {n b : Int} (hb : 1 ≤ b) (h : ¬ n.tmod b < 0) : n.tdiv b = n / b := by
  have h1 := Int.mul_tdiv_add_tmod n b
  have h2 := Int.tmod_lt_of_pos n (show 0 < b by omega)
  have h3 : n.tmod b + b * n.tdiv b = n := by omega
  exact ((Int.ediv_emod_unique (show 0 < b by omega)).2 ⟨h3, by omega, by omega⟩).1.symm
theorem tmod_neg {n b : Int} (h : n.tmod b < 0) : n < 0 := by
  by_cases hn : n < 0
  · exact hn
  · have := Int.tmod_nonneg b (show 0 ≤ n by omega); omega
theorem ediv_ge {n b : Int} (hb : 1 ≤ b) (hn : n ≤ 0) : n ≤ n / b := by
  refine Int.le_ediv_of_mul_le (by omega) ?_
  have h1 := Int.mul_nonneg (show 0 ≤ -n by omega) (show 0 ≤ b - 1 by omega)
  have h2 : (-n) * (b - 1) = n - n * b := by grind
  omega
theorem ediv_le {n b : Int} (hb : 1 ≤ b) (hn : 0 ≤ n) : 0 ≤ n / b ∧ n / b ≤ n := ⟨Int.ediv_nonneg hn (by omega), Int.ediv_le_self _ hn⟩
theorem ediv_np {n b : Int} (hb : 1 ≤ b) (hn : n ≤ 0) : n / b ≤ 0 := by
  have h3 := Int.ediv_le_ediv (show 0 < b by omega) hn
  rwa [Int.zero_ediv] at h3
theorem neg_div {n b : Int} (hb : 1 ≤ b) (h0 : -9000000000000000000 ≤ n) (h1 : n ≤ 9000000000000000000) : -9000000000000000000 ≤ (0 - n) / b ∧ (0 - n) / b ≤ 9000000000000000000 := by
  by_cases hn : n ≤ 0
  · have := ediv_le hb (show 0 ≤ 0 - n by omega); omega
  · have h2 := ediv_ge hb (show 0 - n ≤ 0 by omega)
    have h3 := Int.ediv_le_ediv (show 0 < b by omega) (show 0 - n ≤ 0 by omega)
    rw [Int.zero_ediv] at h3
    omega
theorem ceil_up {n b : Int} (hb : 1 ≤ b) : 0 - (0 - n) / b = upZ n b := by
  have h1 := Int.mul_ediv_add_emod (n + b - 1) b
  have h2 := Int.emod_nonneg (n + b - 1) (show b ≠ 0 by omega)
  have h3 := Int.emod_lt_of_pos (n + b - 1) (show 0 < b by omega)
  have h4 : (b - 1 - (n + b - 1) % b) + b * (-((n + b - 1) / b)) = 0 - n := by rw [Int.mul_neg]; omega
  have h5 := ((Int.ediv_emod_unique (show 0 < b by omega)).2 ⟨h4, by omega, by omega⟩).1
  unfold upZ
  omega

/-! ### Names -/
def bAt (s : ByteArray) (i : Nat) : Int := ((s.data[i]?.getD 0).toNat : Int)
abbrev ltrI (c : Int) : Prop := (97 ≤ c ∧ c ≤ 122) ∨ (65 ≤ c ∧ c ≤ 90)
abbrev okB (i : Nat) (c : Int) : Prop := ltrI c ∨ (i ≠ 0 ∧ (c = 45 ∨ (48 ≤ c ∧ c ≤ 57)))
def nameP (s : ByteArray) : Prop := 1 ≤ s.size ∧ s.size ≤ 12 ∧ ∀ i, i < s.size → okB i (bAt s i)
instance (s : ByteArray) : Decidable (nameP s) := by unfold nameP; infer_instance
theorem bAt_in (s : ByteArray) (i : Nat) : 0 ≤ bAt s i ∧ bAt s i ≤ 255 := by
  unfold bAt
  have := (s.data[i]?.getD 0).toNat_lt
  omega

/-! ### Plans -/
structure Dl where
  s : Int
  d : Int
  g : Int
def ckGs : List Gs → Int
  | [] => 0
  | g :: t => if ckGas g.o g.h ≠ 0 then ckGas g.o g.h else ckGs t
theorem ckGs_step {gs : List Gs} {k : Nat} {g : Gs} (h : gs[k]? = some g) : ckGs (gs.drop k) = if ckGas g.o g.h ≠ 0 then ckGas g.o g.h else ckGs (gs.drop (k + 1)) := by rw [drop_cons h]; rfl
theorem ckGas_ok {o h : Int} (hz : ckGas o h = 0) : 0 ≤ o ∧ o ≤ 1000 ∧ 0 ≤ h ∧ h ≤ 1000 ∧ o + h ≤ 1000 := by
  unfold ckGas at hz
  split at hz
  · cases hz
  · split at hz
    · cases hz
    · omega
theorem ckGs_ok : ∀ {gs : List Gs}, ckGs gs = 0 → ∀ g ∈ gs, ckGas g.o g.h = 0
  | [], _, g, hg => by cases hg
  | a :: t, h, g, hg => by
    unfold ckGs at h
    by_cases hc : ckGas a.o a.h ≠ 0
    · rw [if_pos hc] at h; exact absurd h hc
    · rw [if_neg hc] at h
      rcases List.mem_cons.1 hg with rfl | hg
      · omega
      · exact ckGs_ok h g hg
def gasAt (gs : List Gs) (i : Int) : Gs := gs[i.toNat]?.getD ⟨0, 0⟩
def ckDl1 (n e : Int) (x : Dl) : Int := if ¬ (1 ≤ x.s ∧ x.s ≤ 1000000 ∧ 0 ≤ x.d ∧ x.d ≤ 30000) then 2 else if ¬ (0 ≤ x.g ∧ x.g ≤ n - 1) then 6 else if e + x.s > 1000000 then 8 else 0
def ckLegs (n : Int) : Nat → Int → List Dl → Int × Int
  | _, _, [] => (0, 0)
  | i, e, x :: t => if ckDl1 n e x ≠ 0 then ((i : Int), ckDl1 n e x) else ckLegs n (i + 1) (e + x.s) t
theorem ckLegs_bad {n e : Int} {ls : List Dl} {k i : Nat} {x : Dl} (h : ls[k]? = some x) (hc : ckDl1 n e x ≠ 0) : ckLegs n i e (ls.drop k) = ((i : Int), ckDl1 n e x) := by rw [drop_cons h]; exact if_pos hc
theorem ckLegs_ok {n e : Int} {ls : List Dl} {k i : Nat} {x : Dl} (h : ls[k]? = some x) (hc : ckDl1 n e x = 0) : ckLegs n i e (ls.drop k) = ckLegs n (i + 1) (e + x.s) (ls.drop (k + 1)) := by rw [drop_cons h]; exact if_neg (fun hh => hh hc)
theorem ckLegs_end {n e : Int} {ls : List Dl} {k i : Nat} (h : ls.length ≤ k) : ckLegs n i e (ls.drop k) = (0, 0) := by rw [drop_all h]; rfl
def ckPl (nm : ByteArray) (sf : Int) (gs : List Gs) (ls : List Dl) : Int × Int :=
  if ¬ nameP nm then (0, 4) else if ¬ (400 ≤ sf ∧ sf ≤ 1100) then (0, 2) else if gs.length = 0 then (0, 10) else if gs.length > 8 then (0, 8)
  else if ckGs gs ≠ 0 then (0, ckGs gs) else if ls.length > 60 then (0, 8) else ckLegs gs.length 0 0 ls
section
variable {nm : ByteArray} {sf : Int} {gs : List Gs} {ls : List Dl}
theorem ckPl_1 (h : ¬ nameP nm) : ckPl nm sf gs ls = (0, 4) := if_pos h
theorem ckPl_2 (h : nameP nm) (h2 : ¬ (400 ≤ sf ∧ sf ≤ 1100)) : ckPl nm sf gs ls = (0, 2) := by unfold ckPl; rw [if_neg (fun hh => hh h), if_pos h2]
theorem ckPl_3 (h : nameP nm) (h2 : 400 ≤ sf ∧ sf ≤ 1100) (h3 : gs.length = 0) : ckPl nm sf gs ls = (0, 10) := by unfold ckPl; rw [if_neg (fun hh => hh h), if_neg (fun hh => hh h2), if_pos h3]
theorem ckPl_4 (h : nameP nm) (h2 : 400 ≤ sf ∧ sf ≤ 1100) (h3 : ¬ gs.length = 0) (h4 : gs.length > 8) : ckPl nm sf gs ls = (0, 8) := by unfold ckPl; rw [if_neg (fun hh => hh h), if_neg (fun hh => hh h2), if_neg h3, if_pos h4]
theorem ckPl_5 (h : nameP nm) (h2 : 400 ≤ sf ∧ sf ≤ 1100) (h3 : ¬ gs.length = 0) (h4 : ¬ gs.length > 8) (h5 : ckGs gs ≠ 0) : ckPl nm sf gs ls = (0, ckGs gs) := by unfold ckPl; rw [if_neg (fun hh => hh h), if_neg (fun hh => hh h2), if_neg h3, if_neg h4, if_pos h5]
theorem ckPl_6 (h : nameP nm) (h2 : 400 ≤ sf ∧ sf ≤ 1100) (h3 : ¬ gs.length = 0) (h4 : ¬ gs.length > 8) (h5 : ckGs gs = 0) (h6 : ls.length > 60) : ckPl nm sf gs ls = (0, 8) := by unfold ckPl; rw [if_neg (fun hh => hh h), if_neg (fun hh => hh h2), if_neg h3, if_neg h4, if_neg (fun hh => hh h5), if_pos h6]
theorem ckPl_7 (h : nameP nm) (h2 : 400 ≤ sf ∧ sf ≤ 1100) (h3 : ¬ gs.length = 0) (h4 : ¬ gs.length > 8) (h5 : ckGs gs = 0) (h6 : ¬ ls.length > 60) : ckPl nm sf gs ls = ckLegs gs.length 0 0 ls := by unfold ckPl; rw [if_neg (fun hh => hh h), if_neg (fun hh => hh h2), if_neg h3, if_neg h4, if_neg (fun hh => hh h5), if_neg h6]
end
def dlAt (ls : List Dl) (i : Nat) : Dl := ls[i]?.getD ⟨0, 0, 0⟩
def secAt (ls : List Dl) : Nat → Int
  | 0 => 0
  | k + 1 => secAt ls k + (dlAt ls k).s
def depAt (ls : List Dl) : Nat → Int
  | 0 => 0
  | k + 1 => (dlAt ls k).d
theorem dlAt_get {ls : List Dl} {k : Nat} {x : Dl} (h : ls[k]? = some x) : dlAt ls k = x := by unfold dlAt; rw [h]; rfl
structure okDl (n : Int) (x : Dl) : Prop where
  s : 1 ≤ x.s ∧ x.s ≤ 1000000
  d : 0 ≤ x.d ∧ x.d ≤ 30000
  g : 0 ≤ x.g ∧ x.g ≤ n - 1
theorem ckDl1_0 {n e : Int} {x : Dl} (h : ckDl1 n e x = 0) : okDl n x ∧ e + x.s ≤ 1000000 := by
  unfold ckDl1 at h
  by_cases h1 : ¬ (1 ≤ x.s ∧ x.s ≤ 1000000 ∧ 0 ≤ x.d ∧ x.d ≤ 30000)
  · rw [if_pos h1] at h; cases h
  · rw [if_neg h1] at h
    by_cases h2 : ¬ (0 ≤ x.g ∧ x.g ≤ n - 1)
    · rw [if_pos h2] at h; cases h
    · rw [if_neg h2] at h
      by_cases h3 : e + x.s > 1000000
      · rw [if_pos h3] at h; cases h
      · exact ⟨⟨by omega, by omega, by omega⟩, by omega⟩
structure okPl (sf : Int) (gs : List Gs) (ls : List Dl) : Prop where
  sf : 400 ≤ sf ∧ sf ≤ 1100
  gl : 1 ≤ gs.length ∧ gs.length ≤ 8
  g : ∀ g ∈ gs, ckGas g.o g.h = 0
  ll : ls.length ≤ 60
  l : ∀ x ∈ ls, okDl gs.length x
  e : ∀ k, k ≤ ls.length → 0 ≤ secAt ls k ∧ secAt ls k ≤ 1000000
theorem ckLegs_all {n : Int} {ls : List Dl} : ∀ (m k : Nat), k + m = ls.length → (ckLegs n k (secAt ls k) (ls.drop k)).2 = 0 → (∀ j, k ≤ j → j < ls.length → okDl n (dlAt ls j) ∧ secAt ls (j + 1) ≤ 1000000)
  | 0, k, hm, _, j, h1, h2 => by omega
  | m + 1, k, hm, h, j, h1, h2 => by
    obtain ⟨x, hx⟩ := get_some ls (show k < ls.length by omega)
    by_cases hc : ckDl1 n (secAt ls k) x = 0
    · have e1 : secAt ls (k + 1) = secAt ls k + x.s := by show secAt ls k + (dlAt ls k).s = _; rw [dlAt_get hx]
      rw [ckLegs_ok hx hc, ← e1] at h
      rcases Nat.lt_or_eq_of_le h1 with h3 | rfl
      · exact ckLegs_all m (k + 1) (by omega) h j h3 h2
      · rw [dlAt_get hx, e1]; exact ckDl1_0 hc
    · rw [ckLegs_bad hx hc] at h
      exact absurd h hc
theorem ckPl_ok {nm : ByteArray} {sf : Int} {gs : List Gs} {ls : List Dl} (h : (ckPl nm sf gs ls).2 = 0) : nameP nm ∧ okPl sf gs ls := by
  by_cases h1 : nameP nm
  · by_cases h2 : 400 ≤ sf ∧ sf ≤ 1100
    · by_cases h3 : gs.length = 0
      · rw [ckPl_3 h1 h2 h3] at h; cases h
      · by_cases h4 : gs.length > 8
        · rw [ckPl_4 h1 h2 h3 h4] at h; cases h
        · by_cases h5 : ckGs gs = 0
          · by_cases h6 : ls.length > 60
            · rw [ckPl_6 h1 h2 h3 h4 h5 h6] at h; cases h
            · rw [ckPl_7 h1 h2 h3 h4 h5 h6] at h
              have h7 := ckLegs_all (n := gs.length) (ls := ls) ls.length 0 (by omega) h
              have h8 : ∀ k, k ≤ ls.length → 0 ≤ secAt ls k := by
                intro k
                induction k with
                | zero => intro _; exact Int.le_refl _
                | succ k ih =>
                  intro hk
                  have a := ih (by omega)
                  have b := (h7 k (by omega) (by omega)).1.s
                  show 0 ≤ secAt ls k + (dlAt ls k).s
                  omega
              refine ⟨h1, h2, by omega, ckGs_ok h5, by omega, fun x hx => ?_, fun k hk => ⟨h8 k hk, ?_⟩⟩
              · obtain ⟨j, hj⟩ := List.getElem?_of_mem hx
                have := (h7 j (by omega) (List.getElem?_eq_some_iff.1 hj).1).1
                rwa [dlAt_get hj] at this
              · cases k with
                | zero => show (0 : Int) ≤ 1000000; omega
                | succ k => exact (h7 k (by omega) (by omega)).2
          · rw [ckPl_5 h1 h2 h3 h4 h5] at h; exact absurd h h5
    · rw [ckPl_2 h1 h2] at h; cases h
  · rw [ckPl_1 h1] at h; cases h
theorem okPl.at {sf : Int} {gs : List Gs} {ls : List Dl} (h : okPl sf gs ls) {k : Nat} (hk : k < ls.length) : okDl gs.length (dlAt ls k) := by
  obtain ⟨x, hx⟩ := get_some ls hk
  rw [dlAt_get hx]
  exact h.l x (List.mem_of_getElem? hx)
theorem okPl.dep {sf : Int} {gs : List Gs} {ls : List Dl} (h : okPl sf gs ls) {k : Nat} (hk : k ≤ ls.length) : 0 ≤ depAt ls k ∧ depAt ls k ≤ 30000 := by
  cases k with
  | zero => show (0 : Int) ≤ 0 ∧ (0 : Int) ≤ 30000; omega
  | succ k => exact (h.at (k := k) (by omega)).d
theorem okPl.gas {sf : Int} {gs : List Gs} {ls : List Dl} (h : okPl sf gs ls) {k : Nat} (hk : k < ls.length) : gs[(dlAt ls k).g.toNat]? = some (gasAt gs (dlAt ls k).g) := by
  have h1 := (h.at hk).g
  obtain ⟨x, hx⟩ := get_some gs (k := (dlAt ls k).g.toNat) (by omega)
  unfold gasAt
  rw [hx]
  rfl
theorem okPl.gas_ok {sf : Int} {gs : List Gs} {ls : List Dl} (h : okPl sf gs ls) {k : Nat} (hk : k < ls.length) : ckGas (gasAt gs (dlAt ls k).g).o (gasAt gs (dlAt ls k).g).h = 0 := h.g _ (List.mem_of_getElem? (h.gas hk))
/-- the legs of a plan, as the program keeps them -/
structure Le where
  x : Dl
  b : Int
  f : Int
  t : Int
  sf : Int
  g : Gs
def legAt (sf : Int) (gs : List Gs) (ls : List Dl) (k : Nat) : Le := ⟨dlAt ls k, secAt ls k, sf + depAt ls k, sf + (dlAt ls k).d, sf, gasAt gs (dlAt ls k).g⟩
def legsK (sf : Int) (gs : List Gs) (ls : List Dl) (k : Nat) : List Le := (List.range k).map (legAt sf gs ls)
theorem legsK_succ (sf : Int) (gs : List Gs) (ls : List Dl) (k : Nat) : legsK sf gs ls (k + 1) = legsK sf gs ls k ++ [legAt sf gs ls k] := by
  unfold legsK
  rw [List.range_succ, List.map_append]
  rfl
theorem legsK_len (sf : Int) (gs : List Gs) (ls : List Dl) (k : Nat) : (legsK sf gs ls k).length = k := by simp [legsK]
theorem legsK_get {sf : Int} {gs : List Gs} {ls : List Dl} {k i : Nat} (h : i < k) : (legsK sf gs ls k)[i]? = some (legAt sf gs ls i) := by simp [legsK, h]
abbrev legsM (sf : Int) (gs : List Gs) (ls : List Dl) : List Le := legsK sf gs ls ls.length

theorem depAt_pos {ls : List Dl} {k : Nat} (h : 0 < k) : depAt ls k = (dlAt ls (k - 1)).d := by
  cases k with
  | zero => omega
  | succ k => rfl
theorem mulB {a b A B : Int} (ha : 0 ≤ a ∧ a ≤ A) (hb : 0 ≤ b ∧ b ≤ B) : 0 ≤ a * b ∧ a * b ≤ A * B :=
  ⟨Int.mul_nonneg ha.1 hb.1, Int.le_trans (Int.mul_le_mul_of_nonneg_right ha.2 hb.1) (Int.mul_le_mul_of_nonneg_left hb.2 (Int.le_trans ha.1 ha.2))⟩
structure okLe (x : Le) : Prop where
  s : 1 ≤ x.x.s ∧ x.x.s ≤ 1000000
  d : 0 ≤ x.x.d ∧ x.x.d ≤ 30000
  b : 0 ≤ x.b ∧ x.b + x.x.s ≤ 1000000
  sf : 400 ≤ x.sf ∧ x.sf ≤ 1100
  f : x.sf ≤ x.f ∧ x.f ≤ x.sf + 30000
  t : x.sf ≤ x.t ∧ x.t ≤ x.sf + 30000
  g : 0 ≤ x.g.o ∧ 0 ≤ x.g.h ∧ x.g.o + x.g.h ≤ 1000
theorem okPl.le {sf : Int} {gs : List Gs} {ls : List Dl} (h : okPl sf gs ls) {k : Nat} (hk : k < ls.length) : okLe (legAt sf gs ls k) := by
  have h1 := h.at hk
  have h2 := h.dep (k := k) (by omega)
  have h3 := h.e k (by omega)
  have h4 := h.e (k + 1) (by omega)
  have e4 : secAt ls (k + 1) = secAt ls k + (dlAt ls k).s := rfl
  have h5 := ckGas_ok (h.gas_ok hk)
  have h6 := h.sf
  exact ⟨h1.s, h1.d, ⟨h3.1, by show secAt ls k + (dlAt ls k).s ≤ _; omega⟩, h6, ⟨by show sf ≤ sf + depAt ls k; omega, by show sf + depAt ls k ≤ sf + 30000; omega⟩, ⟨by show sf ≤ sf + (dlAt ls k).d; have := h1.d; omega, by show sf + (dlAt ls k).d ≤ sf + 30000; have := h1.d; omega⟩, ⟨h5.1, h5.2.2.1, h5.2.2.2.2⟩⟩
def leg0 : Le := ⟨⟨0, 0, 0⟩, 0, 0, 0, 0, ⟨0, 0⟩⟩
def legOfE (nm : ByteArray) (sf : Int) (gs : List Gs) (ls : List Dl) (n : Int) : Le × Int := if (ckPl nm sf gs ls).2 ≠ 0 then (leg0, (ckPl nm sf gs ls).2) else if 0 ≤ n ∧ n ≤ ls.length - 1 then (legAt sf gs ls n.toNat, 0) else (leg0, 6)
theorem legOfE_1 {nm : ByteArray} {sf n : Int} {gs : List Gs} {ls : List Dl} (h : (ckPl nm sf gs ls).2 ≠ 0) : legOfE nm sf gs ls n = (leg0, (ckPl nm sf gs ls).2) := if_pos h
theorem legOfE_2 {nm : ByteArray} {sf n : Int} {gs : List Gs} {ls : List Dl} (h : (ckPl nm sf gs ls).2 = 0) (h2 : ¬ (0 ≤ n ∧ n ≤ ls.length - 1)) : legOfE nm sf gs ls n = (leg0, 6) := by unfold legOfE; rw [if_neg (fun hh => hh h), if_neg h2]
theorem legOfE_3 {nm : ByteArray} {sf : Int} {gs : List Gs} {ls : List Dl} {k : Nat} (h : (ckPl nm sf gs ls).2 = 0) (h2 : k < ls.length) : legOfE nm sf gs ls (k : Int) = (legAt sf gs ls k, 0) := by unfold legOfE; rw [if_neg (fun hh => hh h), if_pos (by omega)]; rfl

/-! ### Rules -/
structure Ow where
  f : Int
  r : Int
structure Ru where
  tb : List Ow
  lo : Int
  hi : Int
  na : Int
  de : Int
  br : Int
  em : Int
  pa : Int
  ac : Int
def ckOw (p : Int) (x : Ow) : Int := if ¬ (0 ≤ x.f ∧ x.f ≤ 4000 ∧ 0 ≤ x.r ∧ x.r ≤ 100000) then 2 else if x.f ≤ p then 9 else 0
def ckOws : Int → List Ow → Int
  | _, [] => 0
  | p, x :: t => if ckOw p x ≠ 0 then ckOw p x else ckOws x.f t
def owAt (tb : List Ow) (i : Nat) : Ow := tb[i]?.getD ⟨0, 0⟩
theorem owAt_get {tb : List Ow} {k : Nat} {x : Ow} (h : tb[k]? = some x) : owAt tb k = x := by unfold owAt; rw [h]; rfl
/-- what is ahead of a row: -1 ahead of the first -/
def owPr (tb : List Ow) : Nat → Int
  | 0 => -1
  | k + 1 => (owAt tb k).f
theorem ckOws_bad {p : Int} {tb : List Ow} {k : Nat} {x : Ow} (h : tb[k]? = some x) (hc : ckOw p x ≠ 0) : ckOws p (tb.drop k) = ckOw p x := by rw [drop_cons h]; exact if_pos hc
theorem ckOws_ok {tb : List Ow} {k : Nat} {x : Ow} (h : tb[k]? = some x) (hc : ckOw (owPr tb k) x = 0) : ckOws (owPr tb k) (tb.drop k) = ckOws (owPr tb (k + 1)) (tb.drop (k + 1)) := by
  rw [drop_cons h]
  have e : owPr tb (k + 1) = x.f := by show (owAt tb k).f = _; rw [owAt_get h]
  rw [e]
  exact if_neg (fun hh => hh hc)
def ckLim (lo hi : Int) : Int := if ¬ (1 ≤ lo ∧ lo ≤ 4000 ∧ 1 ≤ hi ∧ hi ≤ 4000) then 2 else if lo > hi then 9 else 0
theorem ckLim_a {lo hi : Int} (hc : firstE [if 1 ≤ lo ∧ lo ≤ 4000 then 0 else 2, if 1 ≤ hi ∧ hi ≤ 4000 then 0 else 2] ≠ 0) : firstE [if 1 ≤ lo ∧ lo ≤ 4000 then 0 else 2, if 1 ≤ hi ∧ hi ≤ 4000 then 0 else 2] = ckLim lo hi := by
  unfold ckLim
  unfold firstE firstE firstE at *
  by_cases h1 : 1 ≤ lo ∧ lo ≤ 4000 <;> by_cases h2 : 1 ≤ hi ∧ hi ≤ 4000 <;> simp [h1, h2] at hc ⊢
theorem ckLim_c {lo hi : Int} (hc : ¬ firstE [if 1 ≤ lo ∧ lo ≤ 4000 then 0 else 2, if 1 ≤ hi ∧ hi ≤ 4000 then 0 else 2] ≠ 0) : 1 ≤ lo ∧ lo ≤ 4000 ∧ 1 ≤ hi ∧ hi ≤ 4000 := by
  unfold firstE firstE firstE at hc
  by_cases h1 : 1 ≤ lo ∧ lo ≤ 4000 <;> by_cases h2 : 1 ≤ hi ∧ hi ≤ 4000 <;> simp [h1, h2] at hc ⊢
theorem ckLim_b {lo hi : Int} (hc : ¬ firstE [if 1 ≤ lo ∧ lo ≤ 4000 then 0 else 2, if 1 ≤ hi ∧ hi ≤ 4000 then 0 else 2] ≠ 0) : ckLim lo hi = if lo > hi then 9 else 0 := by
  have h := ckLim_c hc
  unfold ckLim
  rw [if_neg (fun hh => hh h)]
abbrev inRu (r : Ru) : Prop := (0 ≤ r.na ∧ r.na ≤ 30000) ∧ (1 ≤ r.de ∧ r.de ≤ 100000) ∧ (1 ≤ r.br ∧ r.br ≤ 100000) ∧ (1 ≤ r.em ∧ r.em ≤ 100000) ∧ (0 ≤ r.pa ∧ r.pa ≤ 3600) ∧ (1 ≤ r.ac ∧ r.ac ≤ 3000)
def ckRu (r : Ru) : Int := if r.tb.length > 20 then 8 else if ckOws (-1) r.tb ≠ 0 then ckOws (-1) r.tb else if ckLim r.lo r.hi ≠ 0 then ckLim r.lo r.hi else if inRu r then 0 else 2
theorem ckRu_1 {r : Ru} (h : r.tb.length > 20) : ckRu r = 8 := if_pos h
theorem ckRu_2 {r : Ru} (h : ¬ r.tb.length > 20) (h2 : ckOws (-1) r.tb ≠ 0) : ckRu r = ckOws (-1) r.tb := by unfold ckRu; rw [if_neg h, if_pos h2]
theorem ckRu_3 {r : Ru} (h : ¬ r.tb.length > 20) (h2 : ckOws (-1) r.tb = 0) (h3 : ckLim r.lo r.hi ≠ 0) : ckRu r = ckLim r.lo r.hi := by unfold ckRu; rw [if_neg h, if_neg (fun hh => hh h2), if_pos h3]
theorem ckRu_4 {r : Ru} (h : ¬ r.tb.length > 20) (h2 : ckOws (-1) r.tb = 0) (h3 : ckLim r.lo r.hi = 0) : ckRu r = if inRu r then 0 else 2 := by unfold ckRu; rw [if_neg h, if_neg (fun hh => hh h2), if_neg (fun hh => hh h3)]
structure okTb (tb : List Ow) : Prop where
  n : tb.length ≤ 20
  r : ∀ k, k < tb.length → 0 ≤ (owAt tb k).f ∧ (owAt tb k).f ≤ 4000 ∧ 0 ≤ (owAt tb k).r ∧ (owAt tb k).r ≤ 100000
  o : ∀ k, k + 1 < tb.length → (owAt tb k).f < (owAt tb (k + 1)).f
structure okRu (r : Ru) : Prop where
  tb : okTb r.tb
  li : 1 ≤ r.lo ∧ r.lo ≤ r.hi ∧ r.hi ≤ 4000
  na : 0 ≤ r.na ∧ r.na ≤ 30000
  de : 1 ≤ r.de ∧ r.de ≤ 100000
  br : 1 ≤ r.br ∧ r.br ≤ 100000
  em : 1 ≤ r.em ∧ r.em ≤ 100000
  pa : 0 ≤ r.pa ∧ r.pa ≤ 3600
  ac : 1 ≤ r.ac ∧ r.ac ≤ 3000
theorem ckOw_0 {p : Int} {x : Ow} (h : ckOw p x = 0) : (0 ≤ x.f ∧ x.f ≤ 4000 ∧ 0 ≤ x.r ∧ x.r ≤ 100000) ∧ p < x.f := by
  unfold ckOw at h
  split at h
  · cases h
  · split at h
    · cases h
    · omega
theorem ckOws_all {tb : List Ow} : ∀ (m k : Nat), k + m = tb.length → ckOws (owPr tb k) (tb.drop k) = 0 → ∀ j, k ≤ j → j < tb.length → ckOw (owPr tb j) (owAt tb j) = 0
  | 0, k, hm, _, j, h1, h2 => by omega
  | m + 1, k, hm, h, j, h1, h2 => by
    obtain ⟨x, hx⟩ := get_some tb (show k < tb.length by omega)
    by_cases hc : ckOw (owPr tb k) x = 0
    · rw [ckOws_ok hx hc] at h
      rcases Nat.lt_or_eq_of_le h1 with h3 | rfl
      · exact ckOws_all m (k + 1) (by omega) h j h3 h2
      · rw [owAt_get hx]; exact hc
    · rw [ckOws_bad hx hc] at h
      exact absurd h hc
theorem ckLim_ok {lo hi : Int} (h : ckLim lo hi = 0) : 1 ≤ lo ∧ lo ≤ hi ∧ hi ≤ 4000 := by
  unfold ckLim at h
  split at h
  · cases h
  · split at h
    · cases h
    · omega
theorem ckRu_ok {r : Ru} (h : ckRu r = 0) : okRu r := by
  by_cases h1 : r.tb.length > 20
  · rw [ckRu_1 h1] at h; cases h
  · by_cases h2 : ckOws (-1) r.tb = 0
    · by_cases h3 : ckLim r.lo r.hi = 0
      · rw [ckRu_4 h1 h2 h3] at h
        by_cases h4 : inRu r
        · have h5 := ckOws_all (tb := r.tb) r.tb.length 0 (by omega) h2
          obtain ⟨a, b, c, d, e, f⟩ := h4
          refine ⟨⟨by omega, fun k hk => (ckOw_0 (h5 k (by omega) hk)).1, fun k hk => (ckOw_0 (h5 (k + 1) (by omega) hk)).2⟩, ckLim_ok h3, a, b, c, d, e, f⟩
        · rw [if_neg h4] at h; cases h
      · rw [ckRu_3 h1 h2 h3] at h; exact absurd h h3
    · rw [ckRu_2 h1 h2] at h; exact absurd h h2
theorem okTb.mono {tb : List Ow} (h : okTb tb) {i : Nat} : ∀ j, i < j → j < tb.length → (owAt tb i).f < (owAt tb j).f
  | 0, h1, _ => by omega
  | j + 1, h1, h2 => by
    have a := h.o j h2
    rcases Nat.lt_or_eq_of_le (Nat.le_of_lt_succ h1) with h3 | rfl
    · have := okTb.mono h j h3 (by omega); omega
    · exact a

def bothE (nm : ByteArray) (sf : Int) (gs : List Gs) (ls : List Dl) (r : Ru) : Int := if (ckPl nm sf gs ls).2 ≠ 0 then (ckPl nm sf gs ls).2 else ckRu r
theorem bothE_1 {nm : ByteArray} {sf : Int} {gs : List Gs} {ls : List Dl} {r : Ru} (h : (ckPl nm sf gs ls).2 ≠ 0) : bothE nm sf gs ls r = (ckPl nm sf gs ls).2 := if_pos h
theorem bothE_2 {nm : ByteArray} {sf : Int} {gs : List Gs} {ls : List Dl} {r : Ru} (h : (ckPl nm sf gs ls).2 = 0) : bothE nm sf gs ls r = ckRu r := if_neg (fun hh => hh h)
theorem bothE_ok {nm : ByteArray} {sf : Int} {gs : List Gs} {ls : List Dl} {r : Ru} (h : bothE nm sf gs ls r = 0) : nameP nm ∧ okPl sf gs ls ∧ okRu r ∧ (ckPl nm sf gs ls).2 = 0 := by
  by_cases h1 : (ckPl nm sf gs ls).2 = 0
  · rw [bothE_2 h1] at h
    exact ⟨(ckPl_ok h1).1, (ckPl_ok h1).2, ckRu_ok h, h1⟩
  · rw [bothE_1 h1] at h
    exact absurd h h1
/-! ### Rates -/
/-- how many rows a pressure of oxygen reaches -/
def rowsTo (tb : List Ow) (o : Int) : Nat → Nat
  | 0 => 0
  | k + 1 => if 1000 * (owAt tb k).f ≤ o then k + 1 else rowsTo tb o k
abbrev rowsN (tb : List Ow) (o : Int) : Nat := rowsTo tb o tb.length
def rateM (tb : List Ow) (o : Int) : Int := if rowsN tb o = 0 then 0 else (owAt tb (rowsN tb o - 1)).r
theorem rowsTo_le (tb : List Ow) (o : Int) : ∀ k, rowsTo tb o k ≤ k
  | 0 => Nat.le_refl _
  | k + 1 => by
    unfold rowsTo
    have := rowsTo_le tb o k
    split <;> omega
theorem rowsTo_spec {tb : List Ow} (h : okTb tb) (o : Int) : ∀ k, k ≤ tb.length → ∀ i, i < k → (1000 * (owAt tb i).f > o ↔ rowsTo tb o k ≤ i)
  | 0, _, i, hi => by omega
  | k + 1, hk, i, hi => by
    unfold rowsTo
    by_cases hc : 1000 * (owAt tb k).f ≤ o
    · rw [if_pos hc]
      rcases Nat.lt_or_eq_of_le (Nat.le_of_lt_succ hi) with h3 | rfl
      · have := h.mono k h3 (by omega); omega
      · omega
    · rw [if_neg hc]
      rcases Nat.lt_or_eq_of_le (Nat.le_of_lt_succ hi) with h3 | rfl
      · exact rowsTo_spec h o k (by omega) i h3
      · have := rowsTo_le tb o i; omega
/-- the reference's way: row by row -/
def rateK (tb : List Ow) (o : Int) : Nat → Int
  | 0 => 0
  | k + 1 => if 1000 * (owAt tb k).f ≤ o then (owAt tb k).r else rateK tb o k
theorem rateK_rows (tb : List Ow) (o : Int) : ∀ k, rateK tb o k = if rowsTo tb o k = 0 then 0 else (owAt tb (rowsTo tb o k - 1)).r
  | 0 => rfl
  | k + 1 => by
    unfold rateK rowsTo
    by_cases hc : 1000 * (owAt tb k).f ≤ o
    · rw [if_pos hc, if_pos hc, if_neg (by omega)]; rfl
    · rw [if_neg hc, if_neg hc]; exact rateK_rows tb o k
theorem rateK_all (tb : List Ow) (o : Int) : rateK tb o tb.length = rateM tb o := rateK_rows tb o _
theorem rateM_in {tb : List Ow} (h : okTb tb) (o : Int) : 0 ≤ rateM tb o ∧ rateM tb o ≤ 100000 := by
  unfold rateM
  by_cases hc : rowsN tb o = 0
  · rw [if_pos hc]; omega
  · rw [if_neg hc]
    have := rowsTo_le tb o tb.length
    have := h.r (rowsN tb o - 1) (by unfold rowsN at *; omega)
    omega

/-! ### What a leg costs -/
def cutHi (tb : List Ow) (hi : Int) (k : Nat) : Int := if k + 1 < tb.length then min hi (1000 * (owAt tb (k + 1)).f) else hi
def sumK (tb : List Ow) (lo hi : Int) : Nat → Int
  | 0 => 0
  | k + 1 => sumK tb lo hi k + (owAt tb k).r * max 0 (cutHi tb hi k - max lo (1000 * (owAt tb k).f))
/-- up to where rows are counted -/
def topK (tb : List Ow) (lo hi : Int) (k : Nat) : Int := if k < tb.length then max lo (min hi (1000 * (owAt tb k).f)) else hi
theorem sumK_bd {tb : List Ow} (h : okTb tb) {lo hi : Int} (hl : lo ≤ hi) : ∀ k, k ≤ tb.length → 0 ≤ sumK tb lo hi k ∧ sumK tb lo hi k ≤ 100000 * (topK tb lo hi k - lo)
  | 0, _ => by
    unfold topK sumK
    split <;> omega
  | k + 1, hk => by
    obtain ⟨a, b⟩ := sumK_bd h hl k (by omega)
    have hr := h.r k (by omega)
    have e1 : topK tb lo hi k = max lo (min hi (1000 * (owAt tb k).f)) := if_pos (by omega)
    have key : topK tb lo hi k + max 0 (cutHi tb hi k - max lo (1000 * (owAt tb k).f)) ≤ topK tb lo hi (k + 1) := by
      rw [e1]
      unfold topK cutHi
      by_cases hc : k + 1 < tb.length
      · rw [if_pos hc, if_pos hc]
        have := h.o k hc
        omega
      · rw [if_neg hc, if_neg hc]
        omega
    have m1 : 0 ≤ max 0 (cutHi tb hi k - max lo (1000 * (owAt tb k).f)) := by omega
    generalize max 0 (cutHi tb hi k - max lo (1000 * (owAt tb k).f)) = m at key m1
    have p1 : 0 ≤ (owAt tb k).r * m := Int.mul_nonneg hr.2.2.1 m1
    have p2 : (owAt tb k).r * m ≤ 100000 * m := Int.mul_le_mul_of_nonneg_right hr.2.2.2 m1
    have e2 : sumK tb lo hi (k + 1) = sumK tb lo hi k + (owAt tb k).r * max 0 (cutHi tb hi k - max lo (1000 * (owAt tb k).f)) := rfl
    unfold sumK
    constructor
    · have : 0 ≤ (owAt tb k).r * max 0 (cutHi tb hi k - max lo (1000 * (owAt tb k).f)) := Int.mul_nonneg hr.2.2.1 (by omega)
      omega
    · have : (owAt tb k).r * max 0 (cutHi tb hi k - max lo (1000 * (owAt tb k).f)) ≤ 100000 * max 0 (cutHi tb hi k - max lo (1000 * (owAt tb k).f)) := Int.mul_le_mul_of_nonneg_right hr.2.2.2 (by omega)
      have key' : topK tb lo hi k + max 0 (cutHi tb hi k - max lo (1000 * (owAt tb k).f)) ≤ topK tb lo hi (k + 1) := by
        rw [e1]
        unfold topK cutHi
        by_cases hc : k + 1 < tb.length
        · rw [if_pos hc, if_pos hc]
          have := h.o k hc
          omega
        · rw [if_neg hc, if_neg hc]
          omega
      omega
theorem sumK_in {tb : List Ow} (h : okTb tb) {lo hi : Int} (hl : lo ≤ hi) {k : Nat} (hk : k ≤ tb.length) : 0 ≤ sumK tb lo hi k ∧ sumK tb lo hi k ≤ 100000 * (hi - lo) := by
  obtain ⟨a, b⟩ := sumK_bd h hl k hk
  have : topK tb lo hi k ≤ hi := by
    unfold topK
    split <;> omega
  omega
def oxLo (x : Le) : Int := x.g.o * min x.f x.t
def oxHi (x : Le) : Int := x.g.o * max x.f x.t
theorem ox_in {x : Le} (h : okLe x) : 0 ≤ x.g.o * min x.f x.t ∧ x.g.o * min x.f x.t ≤ x.g.o * max x.f x.t ∧ x.g.o * max x.f x.t ≤ 31100000 := by
  have h1 := h.f
  have h2 := h.t
  have h3 := h.sf
  have h4 := h.g
  have a := mulB (a := x.g.o) (b := min x.f x.t) (A := 1000) (B := 31100) (by omega) (by omega)
  have b := mulB (a := x.g.o) (b := max x.f x.t) (A := 1000) (B := 31100) (by omega) (by omega)
  exact ⟨a.1, Int.mul_le_mul_of_nonneg_left (by omega) (by omega), by omega⟩
def clkM (tb : List Ow) (x : Le) : Int := if oxLo x = oxHi x then x.x.s * rateM tb (oxLo x) else upZ (x.x.s * sumK tb (oxLo x) (oxHi x) tb.length) (oxHi x - oxLo x)
def clksK (tb : List Ow) (sf : Int) (gs : List Gs) (ls : List Dl) (k : Nat) : List Int := (List.range k).map fun i => clkM tb (legAt sf gs ls i)
theorem clksK_succ (tb : List Ow) (sf : Int) (gs : List Gs) (ls : List Dl) (k : Nat) : clksK tb sf gs ls (k + 1) = clksK tb sf gs ls k ++ [clkM tb (legAt sf gs ls k)] := by
  unfold clksK
  rw [List.range_succ, List.map_append]
  rfl
theorem clksK_len (tb : List Ow) (sf : Int) (gs : List Gs) (ls : List Dl) (k : Nat) : (clksK tb sf gs ls k).length = k := by simp [clksK]
theorem clksK_get {tb : List Ow} {sf : Int} {gs : List Gs} {ls : List Dl} {k i : Nat} (h : i < k) : (clksK tb sf gs ls k)[i]? = some (clkM tb (legAt sf gs ls i)) := by simp [clksK, h]
theorem clkM_in {tb : List Ow} {x : Le} (h : okLe x) (ht : okTb tb) : 0 ≤ clkM tb x ∧ clkM tb x ≤ 100000000000 := by
  have h1 := ox_in h
  have h2 := h.s
  unfold clkM
  by_cases hc : oxLo x = oxHi x
  · rw [if_pos hc]
    have h3 := rateM_in ht (oxLo x)
    have := mulB (A := 1000000) (B := 100000) (by omega : 0 ≤ x.x.s ∧ x.x.s ≤ 1000000) h3
    omega
  · rw [if_neg hc]
    have h3 : oxLo x ≤ oxHi x := h1.2.1
    have h4 := sumK_in ht h3 (Nat.le_refl _)
    generalize sumK tb (oxLo x) (oxHi x) tb.length = S at *
    have h5 := mulB (A := 1000000) (B := 100000 * (oxHi x - oxLo x)) (by omega : 0 ≤ x.x.s ∧ x.x.s ≤ 1000000) h4
    generalize hd : oxHi x - oxLo x = d at *
    have hd1 : 1 ≤ d := by omega
    unfold upZ
    constructor
    · exact Int.ediv_nonneg (by omega) (by omega)
    · have h6 : (x.x.s * S + d - 1) / d < 100000000000 + 1 := Int.ediv_lt_of_lt_mul (by omega) (by
        have e1 : (100000000000 + 1) * d = 1000000 * (100000 * d) + d := by grind
        omega)
      omega
/-! ### Rests -/
def hvM (c : Int) : Nat → Int
  | 0 => c
  | k + 1 => upZ (hvM c k) 2
theorem hvM_nn {c : Int} (h : 0 ≤ c) : ∀ k, 0 ≤ hvM c k ∧ hvM c k ≤ max 1 c
  | 0 => by show 0 ≤ c ∧ c ≤ max 1 c; omega
  | k + 1 => by
    obtain ⟨a, b⟩ := hvM_nn h k
    unfold hvM upZ
    omega
theorem hvM_low {c : Int} (h : 0 ≤ c) : ∀ k, hvM c k * 2 ^ k ≤ c + 2 ^ k - 1
  | 0 => by show c * 1 ≤ c + 1 - 1; omega
  | k + 1 => by
    have a := hvM_low h k
    have b := (hvM_nn h k).1
    have e : hvM c (k + 1) = (hvM c k + 1) / 2 := by show upZ (hvM c k) 2 = _; unfold upZ; omega
    have p2 : (0 : Int) < 2 ^ k := Int.pow_pos (by decide)
    have e2 : (2 : Int) ^ (k + 1) = 2 * 2 ^ k := by rw [Int.pow_succ]; omega
    rw [e, e2]
    generalize (2 : Int) ^ k = P at *
    have h1 : 2 * ((hvM c k + 1) / 2) ≤ hvM c k + 1 := by omega
    have h2 := Int.mul_le_mul_of_nonneg_right h1 (show 0 ≤ P by omega)
    have h3 : (hvM c k + 1) * P = hvM c k * P + P := by rw [Int.add_mul]; omega
    have h4 : (hvM c k + 1) / 2 * (2 * P) = 2 * ((hvM c k + 1) / 2) * P := by rw [← Int.mul_assoc, Int.mul_comm _ 2]
    omega
theorem hvM_stay {c : Int} (h : 0 ≤ c) {k : Nat} (hk : hvM c k ≤ 1) : ∀ j, hvM c (k + j) = hvM c k
  | 0 => rfl
  | j + 1 => by
    have e : hvM c (k + (j + 1)) = upZ (hvM c (k + j)) 2 := rfl
    have b := (hvM_nn h k).1
    rw [e, hvM_stay h hk j]
    unfold upZ
    omega
theorem hvM_64 {c : Int} (h : 0 ≤ c ∧ c ≤ 1000000000000) (n : Nat) : hvM c (min n 64) = hvM c n := by
  by_cases hn : n ≤ 64
  · rw [Nat.min_eq_left hn]
  · rw [Nat.min_eq_right (by omega)]
    have a := hvM_low h.1 64
    have : hvM c 64 ≤ 1 := by
      have e : (2 : Int) ^ 64 = 18446744073709551616 := by decide
      rw [e] at a
      omega
    have := hvM_stay h.1 this (n - 64)
    rw [show 64 + (n - 64) = n by omega] at this
    exact this.symm
theorem hvM_mono {c : Int} (h : 0 ≤ c) (k : Nat) : ∀ j, hvM c (k + j) ≤ hvM c k
  | 0 => Int.le_refl _
  | j + 1 => by
    have e : hvM c (k + (j + 1)) = upZ (hvM c (k + j)) 2 := rfl
    have b := hvM_mono h k j
    have a := (hvM_nn h (k + j)).1
    rw [e]
    unfold upZ
    omega
end Go.Proofs.Ytolnohjbpllmhaa
namespace Go.Proofs.Ytolnohjbpllmhaa

theorem upZ_mul {a c s : Int} (hc : 1 ≤ c) (hs : 1 ≤ s) : upZ (a * s) (c * s) = upZ a c := by
  have h1 := Int.mul_ediv_add_emod (a + c - 1) c
  have h2 := Int.emod_nonneg (a + c - 1) (show c ≠ 0 by omega)
  have h3 := Int.emod_lt_of_pos (a + c - 1) (show 0 < c by omega)
  unfold upZ
  generalize hq : (a + c - 1) / c = q at *
  generalize hr : (a + c - 1) % c = r at *
  have hcs : 0 < c * s := Int.mul_pos (by omega) (by omega)
  have e : a * s + c * s - 1 = (r * s + s - 1) + c * s * q := by
    have : a = r - c + 1 + c * q := by omega
    rw [this]; grind
  rw [e, Int.add_mul_ediv_left _ _ (by omega), Int.ediv_eq_zero_of_lt]
  · omega
  · have := Int.mul_nonneg h2 (show 0 ≤ s by omega); omega
  · have := Int.mul_le_mul_of_nonneg_right (show r + 1 ≤ c by omega) (show 0 ≤ s by omega)
    rw [Int.add_mul] at this
    omega
theorem upZ_in {n b N : Int} (h : 0 ≤ n ∧ n ≤ N) (hb : 1 ≤ b) : 0 ≤ upZ n b ∧ upZ n b ≤ N := by
  unfold upZ
  refine ⟨Int.ediv_nonneg (by omega) (by omega), ?_⟩
  have : (n + b - 1) / b < N + 1 := Int.ediv_lt_of_lt_mul (by omega) (by
    have := Int.mul_le_mul_of_nonneg_left hb (show 0 ≤ N by omega)
    have e : (N + 1) * b = N * b + b := by rw [Int.add_mul]; omega
    omega)
  omega
/-- what a leg breathes in its first seconds, as the program reckons it -/
def brM (b n : Int) (x : Le) : Int := if n = x.x.s then upZ (b * (x.f + x.t) * n) 120000 else upZ (b * n * (2 * x.f * x.x.s + (x.t - x.f) * n)) (120000 * x.x.s)
/-- and the reference -/
def partM (b n : Int) (x : Le) : Int := upZ (b * n * (2 * x.f * x.x.s + (x.t - x.f) * n)) (120000 * x.x.s)
theorem part_br {b n : Int} {x : Le} (h : okLe x) : partM b n x = brM b n x := by
  unfold partM brM
  by_cases hc : n = x.x.s
  · rw [if_pos hc, hc]
    have e : b * x.x.s * (2 * x.f * x.x.s + (x.t - x.f) * x.x.s) = b * (x.f + x.t) * x.x.s * x.x.s := by grind
    rw [e, upZ_mul (by omega) h.s.1]
  · rw [if_neg hc]
theorem br_fact {b n : Int} {x : Le} (h : okLe x) (hb : 1 ≤ b ∧ b ≤ 100000) (hn : 0 ≤ n ∧ n ≤ x.x.s) : (0 ≤ b * (x.f + x.t) ∧ b * (x.f + x.t) ≤ 6220000000) ∧ (0 ≤ b * (x.f + x.t) * n ∧ b * (x.f + x.t) * n ≤ 6220000000000000) := by
  have h1 := h.f
  have h2 := h.t
  have h3 := h.sf
  have h4 := h.s
  have a := mulB (a := b) (b := x.f + x.t) (A := 100000) (B := 62200) (by omega) (by omega)
  have c := mulB (a := b * (x.f + x.t)) (b := n) (A := 6220000000) (B := 1000000) (by omega) (by omega)
  exact ⟨by omega, by omega⟩
theorem br_fact2 {b n : Int} {x : Le} (h : okLe x) (hb : 1 ≤ b ∧ b ≤ 100000) (hn : 0 ≤ n ∧ n ≤ x.x.s) (hs : x.x.s ≤ 20000) : (0 ≤ b * n ∧ b * n ≤ 2000000000) ∧ (0 ≤ x.f * x.x.s ∧ x.f * x.x.s ≤ 622000000) ∧ (-622000000 ≤ (x.t - x.f) * n ∧ (x.t - x.f) * n ≤ 622000000) ∧ (0 ≤ 2 * x.f * x.x.s + (x.t - x.f) * n ∧ 2 * x.f * x.x.s + (x.t - x.f) * n ≤ 1244000000) ∧
    (0 ≤ b * n * (2 * x.f * x.x.s + (x.t - x.f) * n) ∧ b * n * (2 * x.f * x.x.s + (x.t - x.f) * n) ≤ 2488000000000000000) ∧ (0 ≤ 2 * x.f * x.x.s ∧ 2 * x.f * x.x.s ≤ 1244000000) := by
  have h1 := h.f
  have h2 := h.t
  have h3 := h.sf
  have h4 := h.s
  have a := mulB (a := b) (b := n) (A := 100000) (B := 20000) (by omega) (by omega)
  have c := mulB (a := x.f) (b := x.x.s) (A := 31100) (B := 20000) (by omega) (by omega)
  have d := mulB (a := x.t) (b := n) (A := 31100) (B := n) (by omega) (by omega)
  have e := mulB (a := x.f) (b := n) (A := 31100) (B := 20000) (by omega) (by omega)
  have f := mulB (a := x.f) (b := x.x.s - n) (A := 31100) (B := x.x.s - n) (by omega) (by omega)
  have e1 : (x.t - x.f) * n = x.t * n - x.f * n := by rw [Int.sub_mul]
  have e2 : 2 * x.f * x.x.s = 2 * (x.f * x.x.s) := by rw [Int.mul_assoc]
  have e3 : x.f * (x.x.s - n) = x.f * x.x.s - x.f * n := by rw [Int.mul_sub]
  have hsum : 0 ≤ 2 * x.f * x.x.s + (x.t - x.f) * n ∧ 2 * x.f * x.x.s + (x.t - x.f) * n ≤ 1244000000 := by
    rw [e1, e2]
    omega
  have g := mulB (A := 2000000000) (B := 1244000000) (show 0 ≤ b * n ∧ b * n ≤ 2000000000 by omega) hsum
  exact ⟨⟨a.1, by omega⟩, by omega, by rw [e1]; omega, hsum, ⟨g.1, by omega⟩, by rw [e2]; omega⟩
theorem brM_in {b n : Int} {x : Le} (h : okLe x) (hb : 1 ≤ b ∧ b ≤ 100000) (hn : 0 ≤ n ∧ n ≤ x.x.s) (hs : n = x.x.s ∨ x.x.s ≤ 20000) : 0 ≤ brM b n x ∧ brM b n x ≤ 51833333334 := by
  unfold brM
  by_cases hc : n = x.x.s
  · rw [if_pos hc]
    have := (br_fact h hb hn).2
    unfold upZ
    omega
  · rw [if_neg hc]
    have h9 := br_fact2 h hb hn (by omega)
    have h8 := h9.1
    have h4 := h.s
    have h7 := h9.2.2.2.1
    have hbn := mulB (a := b * n) (b := 2 * x.f * x.x.s + (x.t - x.f) * n) (A := 100000 * x.x.s) (B := 1244000000) (by
      have := mulB (a := b) (b := n) (A := 100000) (B := x.x.s) (by omega) (by omega)
      omega) (by omega)
    unfold upZ
    generalize b * n * (2 * x.f * x.x.s + (x.t - x.f) * n) = m at *
    constructor
    · exact Int.ediv_nonneg (by omega) (by omega)
    · have h6 : (m + 120000 * x.x.s - 1) / (120000 * x.x.s) < 51833333334 + 1 := Int.ediv_lt_of_lt_mul (by omega) (by
        have e1 : 100000 * x.x.s * 1244000000 = 124400000000000 * x.x.s := by grind
        have e2 : (51833333334 + 1) * (120000 * x.x.s) = 6220000000200000 * x.x.s := by grind
        omega)
      omega
/-! ### Answers with errors -/
def rateE (r : Ru) (o : Int) : Int × Int := if ckRu r ≠ 0 then (0, ckRu r) else if 0 ≤ o ∧ o ≤ 100000 then (rateM r.tb (1000 * o), 0) else (0, 2)
theorem rateE_1 {r : Ru} {o : Int} (h : ckRu r ≠ 0) : rateE r o = (0, ckRu r) := if_pos h
theorem rateE_2 {r : Ru} {o : Int} (h : ckRu r = 0) (h2 : ¬ (0 ≤ o ∧ o ≤ 100000)) : rateE r o = (0, 2) := by unfold rateE; rw [if_neg (fun hh => hh h), if_neg h2]
theorem rateE_3 {r : Ru} {o : Int} (h : ckRu r = 0) (h2 : 0 ≤ o ∧ o ≤ 100000) : rateE r o = (rateM r.tb (1000 * o), 0) := by unfold rateE; rw [if_neg (fun hh => hh h), if_pos h2]
def restedE (c s : Int) : Int × Int := if 0 ≤ c ∧ c ≤ 1000000000000 ∧ 0 ≤ s ∧ s ≤ 10000000 then (hvM c (s / 5400).toNat, 0) else (0, 2)
theorem restedE_1 {c s : Int} (h : ¬ (0 ≤ c ∧ c ≤ 1000000000000 ∧ 0 ≤ s ∧ s ≤ 10000000)) : restedE c s = (0, 2) := if_neg h
theorem restedE_2 {c s : Int} (h : 0 ≤ c ∧ c ≤ 1000000000000 ∧ 0 ≤ s ∧ s ≤ 10000000) : restedE c s = (hvM c (s / 5400).toNat, 0) := if_pos h
def clkE (nm : ByteArray) (sf : Int) (gs : List Gs) (ls : List Dl) (r : Ru) : List Int × Int := if bothE nm sf gs ls r ≠ 0 then ([], bothE nm sf gs ls r) else (clksK r.tb sf gs ls ls.length, 0)
theorem clkE_1 {nm : ByteArray} {sf : Int} {gs : List Gs} {ls : List Dl} {r : Ru} (h : bothE nm sf gs ls r ≠ 0) : clkE nm sf gs ls r = ([], bothE nm sf gs ls r) := if_pos h
theorem clkE_2 {nm : ByteArray} {sf : Int} {gs : List Gs} {ls : List Dl} {r : Ru} (h : bothE nm sf gs ls r = 0) : clkE nm sf gs ls r = (clksK r.tb sf gs ls ls.length, 0) := if_neg (fun hh => hh h)
/-! ### Sums by gases -/
def addAt (L : List Int) (i : Nat) (a : Int) : List Int := L.set i (L[i]?.getD 0 + a)
theorem addAt_len (L : List Int) (i : Nat) (a : Int) : (addAt L i a).length = L.length := by simp [addAt]
theorem addAt_zero (L : List Int) (i : Nat) : addAt L i 0 = L := by
  unfold addAt
  rw [Int.add_zero]
  apply List.ext_getElem?
  intro j
  rw [List.getElem?_set]
  by_cases h : i = j
  · subst h
    by_cases h2 : i < L.length
    · simp [h2]
    · simp [h2]
  · simp [h]
/-- what is breathed of each gas in the first k legs, where leg i breathes amt i -/
def consK (n : Nat) (ls : List Dl) (amt : Nat → Int) : Nat → List Int
  | 0 => List.replicate n 0
  | k + 1 => addAt (consK n ls amt k) (dlAt ls k).g.toNat (amt k)
theorem consK_len (n : Nat) (ls : List Dl) (amt : Nat → Int) : ∀ k, (consK n ls amt k).length = n
  | 0 => by simp [consK]
  | k + 1 => by unfold consK; rw [addAt_len, consK_len n ls amt k]
theorem addAt_get {L : List Int} {i j : Nat} {a v : Int} (h : (addAt L i a)[j]? = some v) : (i = j ∧ ∃ u, L[j]? = some u ∧ v = u + a) ∨ (i ≠ j ∧ L[j]? = some v) := by
  unfold addAt at h
  rw [List.getElem?_set] at h
  by_cases hij : i = j
  · subst hij
    rw [if_pos rfl] at h
    by_cases h2 : i < L.length
    · rw [if_pos h2] at h
      injection h with h
      exact .inl ⟨rfl, L[i], List.getElem?_eq_getElem h2, by rw [← h, List.getElem?_eq_getElem h2]; rfl⟩
    · rw [if_neg h2] at h; cases h
  · rw [if_neg hij] at h
    exact .inr ⟨hij, h⟩
theorem consK_in {n : Nat} {ls : List Dl} {amt : Nat → Int} {A : Int} (hA : 0 ≤ A) : ∀ k, (∀ i, i < k → 0 ≤ amt i ∧ amt i ≤ A) → ∀ (j : Nat) (v : Int), (consK n ls amt k)[j]? = some v → 0 ≤ v ∧ v ≤ A * k
  | 0, _, j, v, hv => by
    unfold consK at hv
    rw [List.getElem?_replicate] at hv
    split at hv
    · injection hv with hv; subst hv; simp
    · cases hv
  | k + 1, h, j, v, hv => by
    have ih := consK_in (n := n) (ls := ls) hA k (fun i hi => h i (by omega))
    have ha := h k (by omega)
    have e : A * ((k + 1 : Nat) : Int) = A * k + A := by rw [Int.natCast_add, Int.mul_add]; omega
    rw [e]
    unfold consK at hv
    rcases addAt_get hv with ⟨_, u, hu, rfl⟩ | ⟨_, hu⟩
    · have := ih j u hu; omega
    · have := ih j v hu; omega
theorem consK_congr {n : Nat} {ls : List Dl} {amt amt' : Nat → Int} : ∀ k, (∀ i, i < k → amt i = amt' i) → consK n ls amt k = consK n ls amt' k
  | 0, _ => rfl
  | k + 1, h => by
    unfold consK
    rw [consK_congr k (fun i hi => h i (by omega)), h k (by omega)]
/-- what leg i breathes -/
def amtS (sf : Int) (gs : List Gs) (ls : List Dl) (b : Int) (i : Nat) : Int := brM b (dlAt ls i).s (legAt sf gs ls i)
theorem amtS_in {sf : Int} {gs : List Gs} {ls : List Dl} {b : Int} (H : okPl sf gs ls) (hb : 1 ≤ b ∧ b ≤ 100000) {i : Nat} (hi : i < ls.length) : 0 ≤ amtS sf gs ls b i ∧ amtS sf gs ls b i ≤ 51833333334 := by
  have h := H.le hi
  have hs : 1 ≤ (dlAt ls i).s ∧ _ := h.s
  exact brM_in h hb (by show 0 ≤ (dlAt ls i).s ∧ (dlAt ls i).s ≤ (dlAt ls i).s; omega) (.inl rfl)
def consE (nm : ByteArray) (sf : Int) (gs : List Gs) (ls : List Dl) (b : Int) : List Int × Int := if (ckPl nm sf gs ls).2 ≠ 0 then ([], (ckPl nm sf gs ls).2) else if 1 ≤ b ∧ b ≤ 100000 then (consK gs.length ls (amtS sf gs ls b) ls.length, 0) else ([], 2)
theorem consE_1 {nm : ByteArray} {sf b : Int} {gs : List Gs} {ls : List Dl} (h : (ckPl nm sf gs ls).2 ≠ 0) : consE nm sf gs ls b = ([], (ckPl nm sf gs ls).2) := if_pos h
theorem consE_2 {nm : ByteArray} {sf b : Int} {gs : List Gs} {ls : List Dl} (h : (ckPl nm sf gs ls).2 = 0) (h2 : ¬ (1 ≤ b ∧ b ≤ 100000)) : consE nm sf gs ls b = ([], 2) := by unfold consE; rw [if_neg (fun hh => hh h), if_neg h2]
theorem consE_3 {nm : ByteArray} {sf b : Int} {gs : List Gs} {ls : List Dl} (h : (ckPl nm sf gs ls).2 = 0) (h2 : 1 ≤ b ∧ b ≤ 100000) : consE nm sf gs ls b = (consK gs.length ls (amtS sf gs ls b) ls.length, 0) := by unfold consE; rw [if_neg (fun hh => hh h), if_pos h2]
/-! ### Escapes -/
def escM (r : Ru) (sf d : Int) : Int := upZ (r.em * ((sf + d) * r.pa * r.ac + (2 * sf + d) * 30 * d)) (60000 * r.ac)
def escE (r : Ru) (sf d : Int) : Int × Int := if ckRu r ≠ 0 then (0, ckRu r) else if 400 ≤ sf ∧ sf ≤ 1100 ∧ 0 ≤ d ∧ d ≤ 30000 then (escM r sf d, 0) else (0, 2)
theorem escE_1 {r : Ru} {sf d : Int} (h : ckRu r ≠ 0) : escE r sf d = (0, ckRu r) := if_pos h
theorem escE_2 {r : Ru} {sf d : Int} (h : ckRu r = 0) (h2 : ¬ (400 ≤ sf ∧ sf ≤ 1100 ∧ 0 ≤ d ∧ d ≤ 30000)) : escE r sf d = (0, 2) := by unfold escE; rw [if_neg (fun hh => hh h), if_neg h2]
theorem escE_3 {r : Ru} {sf d : Int} (h : ckRu r = 0) (h2 : 400 ≤ sf ∧ sf ≤ 1100 ∧ 0 ≤ d ∧ d ≤ 30000) : escE r sf d = (escM r sf d, 0) := by unfold escE; rw [if_neg (fun hh => hh h), if_pos h2]
theorem esc_fact {r : Ru} (H : okRu r) {sf d : Int} (hs : 400 ≤ sf ∧ sf ≤ 1100) (hd : 0 ≤ d ∧ d ≤ 30000) : (0 ≤ (sf + d) * r.pa ∧ (sf + d) * r.pa ≤ 111960000) ∧ (0 ≤ (sf + d) * r.pa * r.ac ∧ (sf + d) * r.pa * r.ac ≤ 335880000000) ∧ (0 ≤ (2 * sf + d) * 30 * d ∧ (2 * sf + d) * 30 * d ≤ 28980000000) ∧
    (0 ≤ r.em * ((sf + d) * r.pa * r.ac + (2 * sf + d) * 30 * d) ∧ r.em * ((sf + d) * r.pa * r.ac + (2 * sf + d) * 30 * d) ≤ 36486000000000000) := by
  have h1 := H.pa
  have h2 := H.ac
  have h3 := H.em
  have a := mulB (a := sf + d) (b := r.pa) (A := 31100) (B := 3600) (by omega) (by omega)
  have b := mulB (a := (sf + d) * r.pa) (b := r.ac) (A := 111960000) (B := 3000) (by omega) (by omega)
  have c := mulB (a := (2 * sf + d) * 30) (b := d) (A := 966000) (B := 30000) (by omega) (by omega)
  have e := mulB (a := r.em) (b := (sf + d) * r.pa * r.ac + (2 * sf + d) * 30 * d) (A := 100000) (B := 364860000000) (by omega) (by omega)
  exact ⟨by omega, by omega, by omega, by omega⟩
theorem escM_in {r : Ru} (H : okRu r) {sf d : Int} (hs : 400 ≤ sf ∧ sf ≤ 1100) (hd : 0 ≤ d ∧ d ≤ 30000) : 0 ≤ escM r sf d ∧ escM r sf d ≤ 36486000000000000 := by
  have := esc_fact H hs hd
  have h2 := H.ac
  exact upZ_in this.2.2.2 (by omega)
theorem upZ_mono {a b c : Int} (h : a ≤ b) (hc : 1 ≤ c) : upZ a c ≤ upZ b c := by
  unfold upZ
  exact Int.ediv_le_ediv (by omega) (by omega)
theorem esc_mono {r : Ru} (H : okRu r) {sf d d' : Int} (hs : 400 ≤ sf ∧ sf ≤ 1100) (h0 : 0 ≤ d) (hd : d ≤ d') : escM r sf d ≤ escM r sf d' := by
  have h1 := H.pa
  have h2 := H.ac
  have h3 := H.em
  refine upZ_mono (Int.mul_le_mul_of_nonneg_left ?_ (by omega)) (by omega)
  have a : (sf + d) * r.pa * r.ac ≤ (sf + d') * r.pa * r.ac := Int.mul_le_mul_of_nonneg_right (Int.mul_le_mul_of_nonneg_right (by omega) (by omega)) (by omega)
  have b1 : (2 * sf + d) * 30 * d ≤ (2 * sf + d') * 30 * d := Int.mul_le_mul_of_nonneg_right (by omega) h0
  have b2 : (2 * sf + d') * 30 * d ≤ (2 * sf + d') * 30 * d' := Int.mul_le_mul_of_nonneg_left hd (by omega)
  omega
end Go.Proofs.Ytolnohjbpllmhaa
namespace Go.Proofs.Ytolnohjbpllmhaa

theorem up_eq {n b : Int} (hb : 1 ≤ b) (h : n / b * b = n) : upZ n b = n / b := by
  unfold upZ
  have e : n + b - 1 = (b - 1) + b * (n / b) := by rw [Int.mul_comm b]; omega
  rw [e, Int.add_mul_ediv_left _ _ (by omega), Int.ediv_eq_zero_of_lt (by omega) (by omega)]
  omega
theorem up_ne {n b : Int} (hb : 1 ≤ b) (h : ¬ n / b * b = n) : upZ n b = n / b + 1 := by
  have h1 := Int.mul_ediv_add_emod n b
  have h2 := Int.emod_nonneg n (show b ≠ 0 by omega)
  have h3 := Int.emod_lt_of_pos n (show 0 < b by omega)
  have h4 : n / b * b = b * (n / b) := Int.mul_comm _ _
  unfold upZ
  have e : n + b - 1 = (n % b - 1) + b * (n / b + 1) := by rw [Int.mul_add]; omega
  rw [e, Int.add_mul_ediv_left _ _ (by omega), Int.ediv_eq_zero_of_lt (by omega) (by omega)]
  omega
def wgM (g : Gs) : Int := g.o * 1429 + g.h * 179 + (1000 - g.o - g.h) * 1251
def wgK (g : Gs) : Nat → Int
  | 0 => 0
  | 1 => g.o * 1429
  | 2 => g.o * 1429 + g.h * 179
  | _ => wgM g
def denM (g : Gs) (p : Int) : Rg := ⟨wgM g * p / 1013000, upZ (wgM g * p) 1013000⟩
def narM (g : Gs) (sf d : Int) : Rg := ⟨max 0 ((1000 - g.h) * (sf + d) / 1000 - sf), max 0 (upZ ((1000 - g.h) * (sf + d)) 1000 - sf)⟩
theorem wg_fact {g : Gs} {p : Int} (hg : 0 ≤ g.o ∧ 0 ≤ g.h ∧ g.o + g.h ≤ 1000) (hp : 0 ≤ p ∧ p ≤ 100000) : (0 ≤ wgM g ∧ wgM g ≤ 1429000) ∧ 0 ≤ wgM g * p ∧ wgM g * p ≤ 142900000000 := by
  have h1 : 0 ≤ wgM g ∧ wgM g ≤ 1429000 := by unfold wgM; omega
  have := mulB (a := wgM g) (b := p) (A := 1429000) (B := 100000) h1 hp
  exact ⟨h1, by omega⟩
theorem nar_fact {g : Gs} {q : Int} (hg : 0 ≤ g.o ∧ 0 ≤ g.h ∧ g.o + g.h ≤ 1000) (hq : 0 ≤ q ∧ q ≤ 31100) : 0 ≤ (1000 - g.h) * q ∧ (1000 - g.h) * q ≤ 31100000 := by
  have := mulB (a := 1000 - g.h) (b := q) (A := 1000) (B := 31100) (by omega) hq
  omega
/-! ### The first number of which something holds -/
def firstB (p : Nat → Bool) : Nat → Nat
  | 0 => 0
  | n + 1 => if firstB p n < n then firstB p n else if p n then n else n + 1
theorem firstB_le (p : Nat → Bool) : ∀ n, firstB p n ≤ n
  | 0 => Nat.le_refl _
  | n + 1 => by
    unfold firstB
    have := firstB_le p n
    split
    · omega
    · split <;> omega
theorem firstB_spec (p : Nat → Bool) : ∀ n, (∀ i, i < firstB p n → p i = false) ∧ (firstB p n < n → p (firstB p n) = true)
  | 0 => ⟨fun i hi => by unfold firstB at hi; omega, fun h => by unfold firstB at h; omega⟩
  | n + 1 => by
    obtain ⟨h1, h2⟩ := firstB_spec p n
    have h3 := firstB_le p n
    unfold firstB
    by_cases hc : firstB p n < n
    · rw [if_pos hc]
      exact ⟨h1, fun _ => h2 hc⟩
    · rw [if_neg hc]
      have e : firstB p n = n := by omega
      rw [e] at h1
      by_cases hp : p n = true
      · rw [if_pos hp]
        exact ⟨h1, fun _ => hp⟩
      · rw [if_neg hp]
        refine ⟨fun i hi => ?_, fun h => by omega⟩
        rcases Nat.lt_or_eq_of_le (Nat.le_of_lt_succ hi) with h9 | rfl
        · exact h1 i h9
        · simpa using hp
theorem firstB_iff {p : Nat → Bool} (hm : ∀ i j, i ≤ j → p i = true → p j = true) {n i : Nat} (hi : i < n) : p i = decide (firstB p n ≤ i) := by
  obtain ⟨h1, h2⟩ := firstB_spec p n
  by_cases hc : firstB p n ≤ i
  · rw [decide_eq_true hc]
    exact hm _ i hc (h2 (by omega))
  · rw [decide_eq_false hc]
    exact h1 i (by omega)
theorem firstB_eq {p : Nat → Bool} (hm : ∀ i j, i ≤ j → p i = true → p j = true) {n m : Nat} (h0 : m ≤ n) (h1 : m = 0 ∨ p (m - 1) = false) (h2 : m = n ∨ p m = true) : firstB p n = m := by
  obtain ⟨s1, s2⟩ := firstB_spec p n
  have s3 := firstB_le p n
  rcases Nat.lt_trichotomy (firstB p n) m with h | h | h
  · have h9 := hm _ (m - 1) (show firstB p n ≤ m - 1 by omega) (s2 (by omega))
    rcases h1 with h1 | h1
    · omega
    · rw [h9] at h1; cases h1
  · exact h
  · have h9 := s1 m h
    rcases h2 with h2 | h2
    · omega
    · rw [h9] at h2; cases h2
/-! ### The depths for a gas -/
abbrev poorP (g : Gs) (p : Int) (r : Ru) : Prop := g.o * p < 1000 * r.lo
def richB (g : Gs) (p : Int) (r : Ru) : Bool := decide (g.o * p > 1000 * r.hi)
def narcB (g : Gs) (sf p : Int) (r : Ru) : Bool := decide ((narM g sf (p - sf)).hi > r.na)
def denB (g : Gs) (p : Int) (r : Ru) : Bool := decide ((denM g p).hi > r.de)
def heavyB (g : Gs) (sf p : Int) (r : Ru) : Bool := richB g p r || narcB g sf p r || denB g p r
def notPoor (g : Gs) (sf : Int) (r : Ru) (i : Nat) : Bool := decide (¬ poorP g (sf + i) r)
def isHeavy (g : Gs) (sf : Int) (r : Ru) (i : Nat) : Bool := heavyB g sf (sf + i) r
theorem notPoor_mono {g : Gs} {sf : Int} {r : Ru} (hg : 0 ≤ g.o) : ∀ i j, i ≤ j → notPoor g sf r i = true → notPoor g sf r j = true := fun i j h hp => by
  unfold notPoor at hp ⊢
  have h1 := of_decide_eq_true hp
  have h2 := Int.mul_le_mul_of_nonneg_left (show sf + (i : Int) ≤ sf + (j : Int) by omega) hg
  exact decide_eq_true (by omega)
theorem isHeavy_mono {g : Gs} {sf : Int} {r : Ru} (hg : 0 ≤ g.o ∧ 0 ≤ g.h ∧ g.o + g.h ≤ 1000) : ∀ i j, i ≤ j → isHeavy g sf r i = true → isHeavy g sf r j = true := fun i j h hp => by
  unfold isHeavy heavyB at hp ⊢
  simp only [Bool.or_eq_true] at hp ⊢
  have hw : 0 ≤ wgM g := by unfold wgM; omega
  rcases hp with (hp | hp) | hp
  · refine .inl (.inl ?_)
    unfold richB at hp ⊢
    have h1 := of_decide_eq_true hp
    have h2 := Int.mul_le_mul_of_nonneg_left (show sf + (i : Int) ≤ sf + (j : Int) by omega) hg.1
    exact decide_eq_true (by omega)
  · refine .inl (.inr ?_)
    unfold narcB at hp ⊢
    have h1 := of_decide_eq_true hp
    have e : ∀ k : Nat, sf + (sf + (k : Int) - sf) = sf + (k : Int) := fun k => by omega
    unfold narM at h1 ⊢
    simp only [e] at h1 ⊢
    have h2 := upZ_mono (c := 1000) (Int.mul_le_mul_of_nonneg_left (show sf + (i : Int) ≤ sf + (j : Int) by omega) (show 0 ≤ 1000 - g.h by omega)) (by omega)
    exact decide_eq_true (by omega)
  · refine .inr ?_
    unfold denB at hp ⊢
    have h1 := of_decide_eq_true hp
    unfold denM at h1 ⊢
    dsimp only at h1 ⊢
    have h2 := upZ_mono (c := 1013000) (Int.mul_le_mul_of_nonneg_left (show sf + (i : Int) ≤ sf + (j : Int) by omega) hw) (by omega)
    exact decide_eq_true (by omega)
def dLo (g : Gs) (sf : Int) (r : Ru) : Nat := firstB (notPoor g sf r) 30001
def dHi (g : Gs) (sf : Int) (r : Ru) : Nat := firstB (isHeavy g sf r) 30001
def ckGSR (g : Gs) (sf : Int) (r : Ru) : Int := if ckGas g.o g.h ≠ 0 then ckGas g.o g.h else if 400 ≤ sf ∧ sf ≤ 1100 then ckRu r else 2
def dofE (g : Gs) (sf : Int) (r : Ru) : Rg × Int := if ckGSR g sf r ≠ 0 then (⟨0, 0⟩, ckGSR g sf r) else if (dLo g sf r : Int) > dHi g sf r - 1 then (⟨0, 0⟩, 12) else (⟨dLo g sf r, dHi g sf r - 1⟩, 0)
section
variable {g : Gs} {sf : Int} {r : Ru}
theorem ckGSR_1 (h : ckGas g.o g.h ≠ 0) : ckGSR g sf r = ckGas g.o g.h := if_pos h
theorem ckGSR_2 (h : ckGas g.o g.h = 0) (h2 : ¬ (400 ≤ sf ∧ sf ≤ 1100)) : ckGSR g sf r = 2 := by unfold ckGSR; rw [if_neg (fun hh => hh h), if_neg h2]
theorem ckGSR_3 (h : ckGas g.o g.h = 0) (h2 : 400 ≤ sf ∧ sf ≤ 1100) : ckGSR g sf r = ckRu r := by unfold ckGSR; rw [if_neg (fun hh => hh h), if_pos h2]
theorem ckGSR_ok (h : ckGSR g sf r = 0) : ckGas g.o g.h = 0 ∧ (400 ≤ sf ∧ sf ≤ 1100) ∧ ckRu r = 0 := by
  by_cases h1 : ckGas g.o g.h = 0
  · by_cases h2 : 400 ≤ sf ∧ sf ≤ 1100
    · rw [ckGSR_3 h1 h2] at h; exact ⟨h1, h2, h⟩
    · rw [ckGSR_2 h1 h2] at h; cases h
  · rw [ckGSR_1 h1] at h; exact absurd h h1
theorem dofE_1 (h : ckGSR g sf r ≠ 0) : dofE g sf r = (⟨0, 0⟩, ckGSR g sf r) := if_pos h
theorem dofE_2 (h : ckGSR g sf r = 0) (h2 : (dLo g sf r : Int) > dHi g sf r - 1) : dofE g sf r = (⟨0, 0⟩, 12) := by unfold dofE; rw [if_neg (fun hh => hh h), if_pos h2]
theorem dofE_3 (h : ckGSR g sf r = 0) (h2 : ¬ (dLo g sf r : Int) > dHi g sf r - 1) : dofE g sf r = (⟨dLo g sf r, dHi g sf r - 1⟩, 0) := by unfold dofE; rw [if_neg (fun hh => hh h), if_neg h2]
end
end Go.Proofs.Ytolnohjbpllmhaa
namespace Go.Proofs.Ytolnohjbpllmhaa

/-! ### The legs at the seconds of a plan -/
def secN (ls : List Dl) (k : Nat) : Nat := (secAt ls k).toNat
/-- how many seconds have been told ahead of leg k -/
def rnN (ls : List Dl) : Nat → Nat
  | 0 => 0
  | k + 1 => secN ls (k + 1) + 1
theorem rnN_pos {ls : List Dl} {k : Nat} (h : 0 < k) : rnN ls k = secN ls k + 1 := by
  cases k with
  | zero => omega
  | succ k => rfl
theorem rnN_zero {ls : List Dl} {k : Nat} (h : k = 0) : rnN ls k = secN ls k + 0 := by subst h; rfl
section
variable {sf : Int} {gs : List Gs} {ls : List Dl}
theorem secN_eq (H : okPl sf gs ls) {k : Nat} (hk : k ≤ ls.length) : (secN ls k : Int) = secAt ls k := Int.toNat_of_nonneg (H.e k hk).1
theorem secAt_succ (ls : List Dl) (k : Nat) : secAt ls (k + 1) = secAt ls k + (dlAt ls k).s := rfl
theorem secN_succ (H : okPl sf gs ls) {k : Nat} (hk : k < ls.length) : (secN ls (k + 1) : Int) = (secN ls k : Int) + (dlAt ls k).s := by
  rw [secN_eq H hk, secN_eq H (Nat.le_of_lt hk)]; rfl
theorem secAt_mono (H : okPl sf gs ls) {i : Nat} : ∀ j, i ≤ j → j ≤ ls.length → secAt ls i ≤ secAt ls j
  | 0, h1, _ => by
    obtain rfl : i = 0 := by omega
    exact Int.le_refl _
  | j + 1, h1, h2 => by
    rcases Nat.lt_or_eq_of_le h1 with h3 | rfl
    · have a := secAt_mono H (i := i) j (by omega) (by omega)
      have b := (H.at (k := j) (by omega)).s
      rw [secAt_succ]
      omega
    · exact Int.le_refl _
theorem sec_leg (H : okPl sf gs ls) {k : Nat} (hk : k < ls.length) : (dlAt ls k).s ≤ secAt ls ls.length := by
  have a := secAt_mono H (i := k + 1) ls.length (by omega) (Nat.le_refl _)
  have b := (H.e k (by omega)).1
  rw [secAt_succ] at a
  omega
/-- the leg at a second -/
def kAt (ls : List Dl) (σ : Nat) : Nat := firstB (fun k => decide ((σ : Int) ≤ secAt ls (k + 1))) ls.length
theorem kAt_eq (H : okPl sf gs ls) {k σ : Nat} (hk : k < ls.length) (h0 : secAt ls k < σ ∨ k = 0) (h1 : (σ : Int) ≤ secAt ls (k + 1)) : kAt ls σ = k := by
  obtain ⟨s1, s2⟩ := firstB_spec (fun k => decide ((σ : Int) ≤ secAt ls (k + 1))) ls.length
  have s3 := firstB_le (fun k => decide ((σ : Int) ≤ secAt ls (k + 1))) ls.length
  unfold kAt
  generalize firstB (fun k => decide ((σ : Int) ≤ secAt ls (k + 1))) ls.length = m at *
  rcases Nat.lt_trichotomy m k with h | h | h
  · have a := of_decide_eq_true (s2 (by omega))
    have b := secAt_mono H (i := m + 1) k (by omega) (by omega)
    omega
  · exact h
  · have a := of_decide_eq_false (s1 k h)
    omega
theorem kAt_in (H : okPl sf gs ls) {σ : Nat} (h : 0 < ls.length) (h1 : (σ : Int) ≤ secAt ls ls.length) : kAt ls σ < ls.length ∧ (σ : Int) ≤ secAt ls (kAt ls σ + 1) ∧ (secAt ls (kAt ls σ) < σ ∨ kAt ls σ = 0) := by
  obtain ⟨s1, s2⟩ := firstB_spec (fun k => decide ((σ : Int) ≤ secAt ls (k + 1))) ls.length
  have s3 := firstB_le (fun k => decide ((σ : Int) ≤ secAt ls (k + 1))) ls.length
  unfold kAt
  generalize firstB (fun k => decide ((σ : Int) ≤ secAt ls (k + 1))) ls.length = m at *
  have hm : m < ls.length := by
    rcases Nat.lt_or_eq_of_le s3 with h9 | rfl
    · exact h9
    · have a := of_decide_eq_false (s1 (ls.length - 1) (by omega))
      rw [show ls.length - 1 + 1 = ls.length by omega] at a
      exact absurd h1 a
  refine ⟨hm, of_decide_eq_true (s2 hm), ?_⟩
  rcases Nat.eq_zero_or_pos m with h9 | h9
  · exact .inr h9
  · have a := of_decide_eq_false (s1 (m - 1) (by omega))
    rw [show m - 1 + 1 = m by omega] at a
    left; omega

/-! ### Depths, rounded up -/
/-- the depth at a second of a leg, times the leg's seconds -/
def dpS (x : Le) (s : Int) : Int := (x.f - x.sf) * (x.x.s - s) + (x.t - x.sf) * s
def dpM (x : Le) (s : Int) : Int := upZ (dpS x s) x.x.s
theorem dpS_in {x : Le} (h : okLe x) {s : Int} (hs : 0 ≤ s ∧ s ≤ x.x.s) : (0 ≤ (x.f - x.sf) * (x.x.s - s) ∧ (x.f - x.sf) * (x.x.s - s) ≤ 30000000000) ∧ (0 ≤ (x.t - x.sf) * s ∧ (x.t - x.sf) * s ≤ 30000000000) ∧ 0 ≤ dpS x s ∧ dpS x s ≤ 30000 * x.x.s := by
  have h1 := h.f; have h2 := h.t; have h3 := h.s
  have a := mulB (a := x.f - x.sf) (b := x.x.s - s) (A := 30000) (B := x.x.s - s) (by omega) (by omega)
  have b := mulB (a := x.t - x.sf) (b := s) (A := 30000) (B := s) (by omega) (by omega)
  unfold dpS
  exact ⟨⟨a.1, by omega⟩, ⟨b.1, by omega⟩, by omega, by omega⟩
theorem dpM_in {x : Le} (h : okLe x) {s : Int} (hs : 0 ≤ s ∧ s ≤ x.x.s) : 0 ≤ dpM x s ∧ dpM x s ≤ 30000 := by
  have a := (dpS_in h hs).2.2
  have h3 := h.s
  unfold dpM upZ
  constructor
  · exact Int.ediv_nonneg (by omega) (by omega)
  · have : (dpS x s + x.x.s - 1) / x.x.s < 30000 + 1 := Int.ediv_lt_of_lt_mul (by omega) (by rw [Int.add_mul]; omega)
    omega

/-! ### Needs -/
def usedAt (sf : Int) (gs : List Gs) (ls : List Dl) (b : Int) (k : Nat) : Int := ((consK gs.length ls (amtS sf gs ls b) k)[(dlAt ls k).g.toNat]?).getD 0
def needA (r : Ru) (sf : Int) (gs : List Gs) (ls : List Dl) (k : Nat) (s : Int) : Int := usedAt sf gs ls r.br k + brM r.br s (legAt sf gs ls k) + escM r sf (dpM (legAt sf gs ls k) s)
/-- the gas, and the amount, at a second -/
def gN (ls : List Dl) (σ : Nat) : Int := (dlAt ls (kAt ls σ)).g
def aN (r : Ru) (sf : Int) (gs : List Gs) (ls : List Dl) (σ : Nat) : Int := needA r sf gs ls (kAt ls σ) ((σ : Int) - secAt ls (kAt ls σ))
theorem used_in (H : okPl sf gs ls) {b : Int} (hb : 1 ≤ b ∧ b ≤ 100000) {k : Nat} (hk : k < ls.length) : 0 ≤ usedAt sf gs ls b k ∧ usedAt sf gs ls b k ≤ 3110000000040 := by
  have hg := (H.at hk).g
  have hll := H.ll
  obtain ⟨v, hv⟩ := get_some (consK gs.length ls (amtS sf gs ls b) k) (k := (dlAt ls k).g.toNat) (by rw [consK_len]; omega)
  have h1 := consK_in (n := gs.length) (ls := ls) (amt := amtS sf gs ls b) (A := 51833333334) (by omega) k (fun i hi => amtS_in H hb (by omega)) _ _ hv
  unfold usedAt
  rw [hv]
  show 0 ≤ v ∧ v ≤ _
  omega
theorem needA_in (H : okPl sf gs ls) {r : Ru} (HR : okRu r) {k : Nat} (hk : k < ls.length) (hs2 : (dlAt ls k).s ≤ 20000) {s : Int} (hs : 0 ≤ s ∧ s ≤ (dlAt ls k).s) :
    (0 ≤ usedAt sf gs ls r.br k ∧ usedAt sf gs ls r.br k ≤ 3110000000040) ∧ (0 ≤ brM r.br s (legAt sf gs ls k) ∧ brM r.br s (legAt sf gs ls k) ≤ 51833333334) ∧ (0 ≤ dpM (legAt sf gs ls k) s ∧ dpM (legAt sf gs ls k) s ≤ 30000) ∧ (0 ≤ escM r sf (dpM (legAt sf gs ls k) s) ∧ escM r sf (dpM (legAt sf gs ls k) s) ≤ 36486000000000000) := by
  have hl := H.le hk
  have hd := dpM_in hl (s := s) hs
  exact ⟨used_in H HR.br hk, brM_in hl HR.br hs (.inr hs2), hd, escM_in HR H.sf hd⟩
theorem need_at (H : okPl sf gs ls) (r : Ru) {k j : Nat} (hk : k < ls.length) (h0 : 1 ≤ j ∨ k = 0) (h1 : (j : Int) ≤ (dlAt ls k).s) :
    gN ls (secN ls k + j) = (dlAt ls k).g ∧ aN r sf gs ls (secN ls k + j) = needA r sf gs ls k j ∧ ((secN ls k + j : Nat) : Int) = secAt ls k + j ∧ secN ls k + j < rnN ls ls.length := by
  have e1 : ((secN ls k + j : Nat) : Int) = secAt ls k + j := by rw [Int.natCast_add, secN_eq H (Nat.le_of_lt hk)]
  have e2 : kAt ls (secN ls k + j) = k := kAt_eq H hk (by rcases h0 with h | h; left; omega; right; exact h) (by rw [secAt_succ]; omega)
  refine ⟨?_, ?_, e1, ?_⟩
  · unfold gN; rw [e2]
  · unfold aN; rw [e2, e1]; congr 1; omega
  · rw [rnN_pos (by omega)]
    have a := secAt_mono H (i := k + 1) ls.length (by omega) (Nat.le_refl _)
    have b := secN_eq H (Nat.le_refl ls.length)
    rw [secAt_succ] at a
    omega
def toldE (nm : ByteArray) (sf : Int) (gs : List Gs) (ls : List Dl) (r : Ru) : Int := if bothE nm sf gs ls r ≠ 0 then bothE nm sf gs ls r else if secAt ls ls.length > 20000 then 8 else 0
def needE (nm : ByteArray) (sf : Int) (gs : List Gs) (ls : List Dl) (r : Ru) (c : Int) : Int × Int × Int :=
  if bothE nm sf gs ls r ≠ 0 then (0, 0, bothE nm sf gs ls r) else if secAt ls ls.length > 20000 then (0, 0, 8) else if ¬ (0 ≤ c ∧ c ≤ secAt ls ls.length) then (0, 0, 2) else if ls.length = 0 then (0, 0, 12) else (gN ls c.toNat, aN r sf gs ls c.toNat, 0)
variable {nm : ByteArray} {r : Ru} {c : Int}
theorem needE_1 (h : bothE nm sf gs ls r ≠ 0) : needE nm sf gs ls r c = (0, 0, bothE nm sf gs ls r) := if_pos h
theorem needE_2 (h : bothE nm sf gs ls r = 0) (h2 : secAt ls ls.length > 20000) : needE nm sf gs ls r c = (0, 0, 8) := by unfold needE; rw [if_neg (fun hh => hh h), if_pos h2]
theorem needE_3 (h : bothE nm sf gs ls r = 0) (h2 : ¬ secAt ls ls.length > 20000) (h3 : ¬ (0 ≤ c ∧ c ≤ secAt ls ls.length)) : needE nm sf gs ls r c = (0, 0, 2) := by unfold needE; rw [if_neg (fun hh => hh h), if_neg h2, if_pos h3]
theorem needE_4 (h : bothE nm sf gs ls r = 0) (h2 : ¬ secAt ls ls.length > 20000) (h3 : 0 ≤ c ∧ c ≤ secAt ls ls.length) (h4 : ls.length = 0) : needE nm sf gs ls r c = (0, 0, 12) := by unfold needE; rw [if_neg (fun hh => hh h), if_neg h2, if_neg (fun hh => hh h3), if_pos h4]
theorem needE_5 (h : bothE nm sf gs ls r = 0) (h2 : ¬ secAt ls ls.length > 20000) (h3 : 0 ≤ c ∧ c ≤ secAt ls ls.length) (h4 : ¬ ls.length = 0) : needE nm sf gs ls r c = (gN ls c.toNat, aN r sf gs ls c.toNat, 0) := by unfold needE; rw [if_neg (fun hh => hh h), if_neg h2, if_neg (fun hh => hh h3), if_neg h4]

/-! ### What is breathed up to a second -/
def amtT (sf : Int) (gs : List Gs) (ls : List Dl) (b c : Int) (i : Nat) : Int := if secAt ls i < c then brM b (min (c - secAt ls i) (dlAt ls i).s) (legAt sf gs ls i) else 0
theorem consK_stop {n : Nat} {ls : List Dl} {amt : Nat → Int} {m : Nat} (h : ∀ i, m ≤ i → amt i = 0) : ∀ k, m ≤ k → consK n ls amt k = consK n ls amt m
  | 0, hk => by
    obtain rfl : m = 0 := by omega
    rfl
  | k + 1, hk => by
    rcases Nat.lt_or_eq_of_le hk with h9 | rfl
    · have e : consK n ls amt (k + 1) = addAt (consK n ls amt k) (dlAt ls k).g.toNat (amt k) := rfl
      rw [e, h k (by omega), addAt_zero, consK_stop h k (by omega)]
    · rfl
theorem brM_zero {b : Int} {x : Le} (h : okLe x) : brM b 0 x = 0 := by
  have h1 := h.s
  unfold brM
  rw [if_neg (by omega), Int.mul_zero, Int.zero_mul]
  unfold upZ
  rw [Int.zero_add]
  exact Int.ediv_eq_zero_of_lt (by omega) (by omega)
theorem amtT_full (H : okPl sf gs ls) {b : Int} {σ i : Nat} (hi : i < kAt ls σ) (h1 : (σ : Int) ≤ secAt ls ls.length) (h : 0 < ls.length) : amtT sf gs ls b σ i = amtS sf gs ls b i := by
  obtain ⟨a1, a2, a3⟩ := kAt_in H h h1
  have b1 := secAt_mono H (i := i + 1) (kAt ls σ) (by omega) (by omega)
  have b2 := (H.at (k := i) (by omega)).s
  have b3 := secAt_succ ls i
  unfold amtT
  rw [if_pos (by omega), Int.min_eq_right (by omega)]
  rfl
theorem amtT_none (H : okPl sf gs ls) {b : Int} {σ i : Nat} (hi : kAt ls σ < i) (hl : i < ls.length) (h1 : (σ : Int) ≤ secAt ls ls.length) : amtT sf gs ls b σ i = 0 := by
  obtain ⟨a1, a2, a3⟩ := kAt_in H (by omega) h1
  have b1 := secAt_mono H (i := kAt ls σ + 1) i (by omega) (by omega)
  unfold amtT
  rw [if_neg (by omega)]
theorem amtT_at (H : okPl sf gs ls) {b : Int} {σ : Nat} (h1 : (σ : Int) ≤ secAt ls ls.length) (h : 0 < ls.length) : amtT sf gs ls b σ (kAt ls σ) = brM b ((σ : Int) - secAt ls (kAt ls σ)) (legAt sf gs ls (kAt ls σ)) := by
  obtain ⟨a1, a2, a3⟩ := kAt_in H h h1
  have b3 := secAt_succ ls (kAt ls σ)
  unfold amtT
  by_cases hc : secAt ls (kAt ls σ) < σ
  · rw [if_pos hc, Int.min_eq_left (by omega)]
  · have e0 : kAt ls σ = 0 := by omega
    have e1 : (σ : Int) - secAt ls (kAt ls σ) = 0 := by
      have : secAt ls (kAt ls σ) = 0 := by rw [e0]; rfl
      omega
    rw [if_neg hc, e1, brM_zero (H.le a1)]
theorem consK_upto {n : Nat} {ls : List Dl} {amt : Nat → Int} {m L : Nat} (h : ∀ i, m ≤ i → i < L → amt i = 0) : ∀ k, m ≤ k → k ≤ L → consK n ls amt k = consK n ls amt m
  | 0, hk, _ => by
    obtain rfl : m = 0 := by omega
    rfl
  | k + 1, hk, hL => by
    rcases Nat.lt_or_eq_of_le hk with h9 | rfl
    · have e : consK n ls amt (k + 1) = addAt (consK n ls amt k) (dlAt ls k).g.toNat (amt k) := rfl
      rw [e, h k (by omega) (by omega), addAt_zero, consK_upto h k (by omega) (by omega)]
    · rfl
/-- what is breathed of the gas at a second, up to it -/
theorem cons_at (H : okPl sf gs ls) {b : Int} {σ : Nat} (h1 : (σ : Int) ≤ secAt ls ls.length) (h : 0 < ls.length) :
    (consK gs.length ls (amtT sf gs ls b σ) ls.length)[(gN ls σ).toNat]? = some (usedAt sf gs ls b (kAt ls σ) + brM b ((σ : Int) - secAt ls (kAt ls σ)) (legAt sf gs ls (kAt ls σ))) := by
  obtain ⟨a1, a2, a3⟩ := kAt_in H h h1
  have hg := (H.at a1).g
  have e1 : consK gs.length ls (amtT sf gs ls b σ) ls.length = consK gs.length ls (amtT sf gs ls b σ) (kAt ls σ + 1) :=
    consK_upto (L := ls.length) (fun i hi hl => amtT_none H (by omega) hl h1) _ (by omega) (Nat.le_refl _)
  have e2 : consK gs.length ls (amtT sf gs ls b σ) (kAt ls σ) = consK gs.length ls (amtS sf gs ls b) (kAt ls σ) := consK_congr _ (fun i hi => amtT_full H hi h1 h)
  have e3 : consK gs.length ls (amtT sf gs ls b σ) (kAt ls σ + 1) = addAt (consK gs.length ls (amtT sf gs ls b σ) (kAt ls σ)) (dlAt ls (kAt ls σ)).g.toNat (amtT sf gs ls b σ (kAt ls σ)) := rfl
  rw [e1, e3, e2, amtT_at H h1 h]
  unfold addAt gN usedAt
  rw [List.getElem?_set_self (by rw [consK_len]; omega)]
theorem amtT_in (H : okPl sf gs ls) {b c : Int} (hb : 1 ≤ b ∧ b ≤ 100000) (ht : secAt ls ls.length ≤ 20000) {i : Nat} (hi : i < ls.length) : 0 ≤ amtT sf gs ls b c i ∧ amtT sf gs ls b c i ≤ 51833333334 := by
  have h1 := (H.at hi).s
  have h2 := sec_leg H hi
  unfold amtT
  by_cases hc : secAt ls i < c
  · rw [if_pos hc]
    exact brM_in (H.le hi) hb (by show 0 ≤ min _ _ ∧ min _ _ ≤ (dlAt ls i).s; omega) (.inr (by show (dlAt ls i).s ≤ _; omega))
  · rw [if_neg hc]; omega
def traceE (nm : ByteArray) (sf : Int) (gs : List Gs) (ls : List Dl) (b c : Int) : List Int × Int :=
  if (ckPl nm sf gs ls).2 ≠ 0 then ([], (ckPl nm sf gs ls).2) else if ¬ (1 ≤ b ∧ b ≤ 100000) then ([], 2) else if secAt ls ls.length > 20000 then ([], 8) else if ¬ (0 ≤ c ∧ c ≤ secAt ls ls.length) then ([], 2) else (consK gs.length ls (amtT sf gs ls b c) ls.length, 0)
variable {b : Int}
theorem traceE_1 (h : (ckPl nm sf gs ls).2 ≠ 0) : traceE nm sf gs ls b c = ([], (ckPl nm sf gs ls).2) := if_pos h
theorem traceE_2 (h : (ckPl nm sf gs ls).2 = 0) (h2 : ¬ (1 ≤ b ∧ b ≤ 100000)) : traceE nm sf gs ls b c = ([], 2) := by unfold traceE; rw [if_neg (fun hh => hh h), if_pos h2]
theorem traceE_3 (h : (ckPl nm sf gs ls).2 = 0) (h2 : 1 ≤ b ∧ b ≤ 100000) (h3 : secAt ls ls.length > 20000) : traceE nm sf gs ls b c = ([], 8) := by unfold traceE; rw [if_neg (fun hh => hh h), if_neg (fun hh => hh h2), if_pos h3]
theorem traceE_4 (h : (ckPl nm sf gs ls).2 = 0) (h2 : 1 ≤ b ∧ b ≤ 100000) (h3 : ¬ secAt ls ls.length > 20000) (h4 : ¬ (0 ≤ c ∧ c ≤ secAt ls ls.length)) : traceE nm sf gs ls b c = ([], 2) := by unfold traceE; rw [if_neg (fun hh => hh h), if_neg (fun hh => hh h2), if_neg h3, if_pos h4]
theorem traceE_5 (h : (ckPl nm sf gs ls).2 = 0) (h2 : 1 ≤ b ∧ b ≤ 100000) (h3 : ¬ secAt ls ls.length > 20000) (h4 : 0 ≤ c ∧ c ≤ secAt ls ls.length) : traceE nm sf gs ls b c = (consK gs.length ls (amtT sf gs ls b c) ls.length, 0) := by unfold traceE; rw [if_neg (fun hh => hh h), if_neg (fun hh => hh h2), if_neg h3, if_neg (fun hh => hh h4)]
end
end Go.Proofs.Ytolnohjbpllmhaa
namespace Go.Proofs.Ytolnohjbpllmhaa
def nmD : ByteArray := ⟨#[112]⟩
def gsD : List Gs := [⟨210, 0⟩, ⟨500, 0⟩]
def lsD : List Dl := [⟨60, 1800, 0⟩, ⟨600, 1800, 0⟩, ⟨120, 600, 0⟩, ⟨300, 600, 1⟩]
def ruD : Ru := ⟨[⟨500, 100⟩, ⟨1000, 300⟩], 160, 1400, 3000, 5200, 20000, 40000, 60, 1000⟩
theorem nameD : nameP nmD := by decide
theorem ckD : ckPl nmD 1013 gsD lsD = (0, 0) := by
  rw [ckPl_7 nameD (by decide) (by decide) (by decide) (by decide) (by decide)]
  rfl
theorem ckRD : ckRu ruD = 0 := by decide
theorem bothD : bothE nmD 1013 gsD lsD ruD = 0 := by
  rw [bothE_2 (by rw [ckD]), ckRD]
theorem clk_ex : clkE nmD 1013 gsD lsD ruD = ([1441, 60000, 4321, 30000], 0) := by
  rw [clkE_2 bothD]
  decide
theorem cons_ex : consE nmD 1013 gsD lsD 20000 = ([689380, 161300], 0) := by
  rw [consE_3 (by rw [ckD]) (by decide)]
  decide
theorem need_ex : (needE nmD 1013 gsD lsD ruD 660).2 = (851116, 0) := by
  rw [needE_5 bothD (by decide) (by decide) (by decide)]
  decide
theorem okRD : okRu ruD := ckRu_ok ckRD
theorem dlo_ex : dLo ⟨210, 0⟩ 1000 ruD = 0 := firstB_eq (notPoor_mono (by decide)) (by decide) (.inl rfl) (.inr (by decide))
theorem dhi_ex : dHi ⟨210, 0⟩ 1000 ruD = 3001 := firstB_eq (isHeavy_mono (by decide)) (by decide) (.inr (by decide)) (.inr (by decide))
theorem dof_ex : dofE ⟨210, 0⟩ 1000 ruD = (⟨0, 3000⟩, 0) := by
  rw [dofE_3 (by decide) (by rw [dlo_ex, dhi_ex]; decide), dlo_ex, dhi_ex]
  rfl
end Go.Proofs.Ytolnohjbpllmhaa
namespace Go.Proofs.Ytolnohjbpllmhaa
section
variable {nm : ByteArray} {sf n b c : Int} {gs : List Gs} {ls : List Dl} {r : Ru} {k : Nat}
/-! ### Switches -/
abbrev sameG (a b : Gs) : Prop := a.o = b.o ∧ a.h = b.h
abbrev swP (gs : List Gs) (ls : List Dl) (k : Nat) : Prop := ¬ sameG (gasAt gs (dlAt ls k).g) (gasAt gs (dlAt ls (k - 1)).g)
def swK (gs : List Gs) (ls : List Dl) : Nat → List (Int × Int)
  | 0 => []
  | k + 1 => if 0 < k ∧ swP gs ls k then swK gs ls k ++ [((k : Int), (dlAt ls k).g)] else swK gs ls k
theorem swK_yes (h0 : 0 < k) (h : swP gs ls k) : swK gs ls (k + 1) = swK gs ls k ++ [((k : Int), (dlAt ls k).g)] := if_pos ⟨h0, h⟩
theorem swK_no (h : ¬ (0 < k ∧ swP gs ls k)) : swK gs ls (k + 1) = swK gs ls k := if_neg h
theorem swK_len (gs : List Gs) (ls : List Dl) : ∀ k, (swK gs ls k).length ≤ k
  | 0 => Nat.le_refl _
  | k + 1 => by
    have := swK_len gs ls k
    by_cases h : 0 < k ∧ swP gs ls k
    · rw [swK_yes h.1 h.2, List.length_append]; simp; omega
    · rw [swK_no h]; omega
def swE (nm : ByteArray) (sf : Int) (gs : List Gs) (ls : List Dl) : List (Int × Int) × Int := if (ckPl nm sf gs ls).2 ≠ 0 then ([], (ckPl nm sf gs ls).2) else (swK gs ls ls.length, 0)
theorem swE_1 (h : (ckPl nm sf gs ls).2 ≠ 0) : swE nm sf gs ls = ([], (ckPl nm sf gs ls).2) := if_pos h
theorem swE_2 (h : (ckPl nm sf gs ls).2 = 0) : swE nm sf gs ls = (swK gs ls ls.length, 0) := if_neg (fun hh => hh h)
/-! ### Single legs -/
theorem legOfE_ok (h : (legOfE nm sf gs ls n).2 = 0) : (ckPl nm sf gs ls).2 = 0 ∧ ∃ k : Nat, n = k ∧ k < ls.length ∧ legOfE nm sf gs ls n = (legAt sf gs ls k, 0) := by
  by_cases h1 : (ckPl nm sf gs ls).2 = 0
  · refine ⟨h1, ?_⟩
    by_cases h2 : 0 ≤ n ∧ n ≤ ls.length - 1
    · obtain ⟨k, rfl⟩ := Int.eq_ofNat_of_zero_le h2.1
      exact ⟨k, rfl, by omega, legOfE_3 h1 (by omega)⟩
    · rw [legOfE_2 h1 h2] at h
      cases h
  · rw [legOfE_1 h1] at h
    exact absurd h h1
def oxgE (nm : ByteArray) (sf : Int) (gs : List Gs) (ls : List Dl) (n : Int) : Rg × Int := if (legOfE nm sf gs ls n).2 ≠ 0 then (⟨0, 0⟩, (legOfE nm sf gs ls n).2) else (⟨oxLo (legOfE nm sf gs ls n).1 / 1000, upZ (oxHi (legOfE nm sf gs ls n).1) 1000⟩, 0)
theorem oxgE_1 (h : (legOfE nm sf gs ls n).2 ≠ 0) : oxgE nm sf gs ls n = (⟨0, 0⟩, (legOfE nm sf gs ls n).2) := if_pos h
theorem oxgE_2 (h : legOfE nm sf gs ls n = (legAt sf gs ls k, 0)) : oxgE nm sf gs ls n = (⟨oxLo (legAt sf gs ls k) / 1000, upZ (oxHi (legAt sf gs ls k)) 1000⟩, 0) := by unfold oxgE; rw [h]; rfl
def lbrE (nm : ByteArray) (sf : Int) (gs : List Gs) (ls : List Dl) (n b : Int) : Int × Int := if (legOfE nm sf gs ls n).2 ≠ 0 then (0, (legOfE nm sf gs ls n).2) else if ¬ (1 ≤ b ∧ b ≤ 100000) then (0, 2) else (brM b (legOfE nm sf gs ls n).1.x.s (legOfE nm sf gs ls n).1, 0)
theorem lbrE_1 (h : (legOfE nm sf gs ls n).2 ≠ 0) : lbrE nm sf gs ls n b = (0, (legOfE nm sf gs ls n).2) := if_pos h
theorem lbrE_2 (h : (legOfE nm sf gs ls n).2 = 0) (h2 : ¬ (1 ≤ b ∧ b ≤ 100000)) : lbrE nm sf gs ls n b = (0, 2) := by unfold lbrE; rw [if_neg (fun hh => hh h), if_pos h2]
theorem lbrE_3 (h : legOfE nm sf gs ls n = (legAt sf gs ls k, 0)) (h2 : 1 ≤ b ∧ b ≤ 100000) : lbrE nm sf gs ls n b = (brM b (dlAt ls k).s (legAt sf gs ls k), 0) := by unfold lbrE; rw [h, if_neg (fun hh => hh rfl), if_neg (fun hh => hh h2)]; rfl
/-! ### Points -/
def ptsK (ls : List Dl) (k : Nat) : List (Int × Int) := (List.range (k + 1)).map fun i => (secAt ls i, depAt ls i)
theorem ptsK_len (ls : List Dl) (k : Nat) : (ptsK ls k).length = k + 1 := by simp [ptsK]
theorem ptsK_get {i : Nat} (h : i ≤ k) : (ptsK ls k)[i]? = some (secAt ls i, depAt ls i) := by
  unfold ptsK
  rw [List.getElem?_map, List.getElem?_range (by omega)]
  rfl
theorem ptsK_succ (ls : List Dl) (k : Nat) : ptsK ls (k + 1) = ptsK ls k ++ [(secAt ls (k + 1), depAt ls (k + 1))] := by
  unfold ptsK
  rw [List.range_succ, List.map_append]
  rfl
/-- the depth at a second, times the seconds of its leg -/
def atN (ls : List Dl) (k : Nat) (c : Int) : Int := depAt ls k * (secAt ls (k + 1) - secAt ls k) + (depAt ls (k + 1) - depAt ls k) * (c - secAt ls k)
theorem atN_dp (sf : Int) (gs : List Gs) (ls : List Dl) (k : Nat) (c : Int) : atN ls k c = dpS (legAt sf gs ls k) (c - secAt ls k) := by
  have e1 : (legAt sf gs ls k).f - (legAt sf gs ls k).sf = depAt ls k := by show sf + depAt ls k - sf = _; omega
  have e2 : (legAt sf gs ls k).t - (legAt sf gs ls k).sf = depAt ls (k + 1) := by show sf + (dlAt ls k).d - sf = (dlAt ls k).d; omega
  have e3 : (legAt sf gs ls k).x.s = (dlAt ls k).s := rfl
  unfold atN dpS
  rw [e1, e2, e3, secAt_succ]
  grind
theorem atN_in (H : okPl sf gs ls) (hk : k < ls.length) (h0 : secAt ls k ≤ c) (h1 : c ≤ secAt ls (k + 1)) :
    (0 ≤ depAt ls k * (secAt ls (k + 1) - secAt ls k) ∧ depAt ls k * (secAt ls (k + 1) - secAt ls k) ≤ 30000000000) ∧ (-30000000000 ≤ (depAt ls (k + 1) - depAt ls k) * (c - secAt ls k) ∧ (depAt ls (k + 1) - depAt ls k) * (c - secAt ls k) ≤ 30000000000) ∧ 0 ≤ atN ls k c ∧ atN ls k c ≤ 30000 * (secAt ls (k + 1) - secAt ls k) := by
  have hd := H.dep (k := k) (by omega)
  have hd2 := H.dep (k := k + 1) (by omega)
  have hs := (H.at hk).s
  have e := secAt_succ ls k
  have a := mulB (a := depAt ls k) (b := secAt ls (k + 1) - secAt ls k) (A := 30000) (B := 1000000) (by omega) (by omega)
  have b1 := mulB (a := depAt ls (k + 1)) (b := c - secAt ls k) (A := 30000) (B := 1000000) (by omega) (by omega)
  have b2 := mulB (a := depAt ls k) (b := c - secAt ls k) (A := 30000) (B := 1000000) (by omega) (by omega)
  have e2 : (depAt ls (k + 1) - depAt ls k) * (c - secAt ls k) = depAt ls (k + 1) * (c - secAt ls k) - depAt ls k * (c - secAt ls k) := by rw [Int.sub_mul]
  have h9 := (dpS_in (H.le hk) (s := c - secAt ls k) (by show 0 ≤ c - secAt ls k ∧ c - secAt ls k ≤ (dlAt ls k).s; omega)).2.2
  rw [← atN_dp] at h9
  have e3 : (legAt sf gs ls k).x.s = (dlAt ls k).s := rfl
  rw [e3] at h9
  exact ⟨⟨a.1, by omega⟩, by omega, h9.1, by omega⟩
theorem dp_at (H : okPl sf gs ls) (hk : k < ls.length) : upZ (atN ls k c) (secAt ls (k + 1) - secAt ls k) = dpM (legAt sf gs ls k) (c - secAt ls k) := by
  have e3 : (legAt sf gs ls k).x.s = (dlAt ls k).s := rfl
  unfold dpM
  rw [atN_dp sf gs ls, e3, secAt_succ]
  congr 1
  omega
/-! ### Short plans -/
abbrev shortP (nm : ByteArray) (gs : List Gs) (ls : List Dl) : Prop := nm.size ≤ 30 ∧ (ls.length ≤ 8 ∨ (ls.length > 60 ∧ ls.length ≤ 62)) ∧ (gs.length ≤ 5 ∨ (gs.length > 8 ∧ gs.length ≤ 10))
abbrev briefP (nm : ByteArray) (sf : Int) (gs : List Gs) (ls : List Dl) : Prop := (nm.size ≤ 30 ∧ (ls.length ≤ 8 ∨ (ls.length > 60 ∧ ls.length ≤ 62)) ∧ (gs.length ≤ 5 ∨ (gs.length > 8 ∧ gs.length ≤ 10))) ∧ ((ckPl nm sf gs ls).2 ≠ 0 ∨ secAt ls ls.length ≤ 400 ∨ secAt ls ls.length > 20000)
theorem toldE_1 (h : bothE nm sf gs ls r ≠ 0) : toldE nm sf gs ls r = bothE nm sf gs ls r := if_pos h
theorem toldE_2 (h : bothE nm sf gs ls r = 0) (h2 : secAt ls ls.length > 20000) : toldE nm sf gs ls r = 8 := by unfold toldE; rw [if_neg (fun hh => hh h), if_pos h2]
theorem toldE_3 (h : bothE nm sf gs ls r = 0) (h2 : ¬ secAt ls ls.length > 20000) : toldE nm sf gs ls r = 0 := by unfold toldE; rw [if_neg (fun hh => hh h), if_neg h2]
/-- the reference's way: leg by leg, while seconds are left -/
def fromAt (ls : List Dl) (c : Int) (k : Nat) : Int := min (secAt ls k) c
theorem amtT_stop (H : okPl sf gs ls) {k i : Nat} (hk : c ≤ secAt ls k) (hi : k ≤ i) (hl : i < ls.length) : amtT sf gs ls b c i = 0 := by
  have h1 := secAt_mono H (i := k) i hi (by omega)
  unfold amtT
  rw [if_neg (by omega)]
theorem consT_end (H : okPl sf gs ls) {k : Nat} (hk : k ≤ ls.length) (h : k < ls.length → c ≤ secAt ls k) : consK gs.length ls (amtT sf gs ls b c) k = consK gs.length ls (amtT sf gs ls b c) ls.length := by
  rcases Nat.lt_or_eq_of_le hk with h9 | rfl
  · exact (consK_upto (L := ls.length) (fun i hi hl => amtT_stop H (h h9) hi hl) _ hk (Nat.le_refl _)).symm
  · rfl
theorem amtT_part (h : secAt ls k < c) : amtT sf gs ls b c k = brM b (min (dlAt ls k).s (c - secAt ls k)) (legAt sf gs ls k) := by
  unfold amtT
  rw [if_pos h, Int.min_comm]
end
end Go.Proofs.Ytolnohjbpllmhaa
namespace Go.Proofs.Ytolnohjbpllmhaa
section
variable {nm : ByteArray} {sf n b c : Int} {gs : List Gs} {ls : List Dl} {r : Ru} {k : Nat}
theorem toldE_0 (h : toldE nm sf gs ls r = 0) : bothE nm sf gs ls r = 0 ∧ ¬ secAt ls ls.length > 20000 := by
  by_cases h1 : bothE nm sf gs ls r = 0
  · by_cases h2 : secAt ls ls.length > 20000
    · rw [toldE_2 h1 h2] at h; cases h
    · exact ⟨h1, h2⟩
  · rw [toldE_1 h1] at h; exact absurd h h1
theorem needE_t (h : ¬ toldE nm sf gs ls r = 0) : needE nm sf gs ls r c = (0, 0, toldE nm sf gs ls r) := by
  by_cases h1 : bothE nm sf gs ls r = 0
  · by_cases h2 : secAt ls ls.length > 20000
    · rw [toldE_2 h1 h2, needE_2 h1 h2]
    · rw [toldE_3 h1 h2] at h; exact absurd rfl h
  · rw [toldE_1 h1, needE_1 h1]
theorem brM_mono {n m : Int} {x : Le} (h : okLe x) (hb : 0 ≤ b) (hn : 0 ≤ n ∧ n ≤ m) (hm : m ≤ x.x.s) : brM b n x ≤ brM b m x := by
  rw [← part_br h, ← part_br h]
  have h1 := h.f; have h2 := h.t; have h3 := h.sf; have h4 := h.s
  unfold partM
  refine upZ_mono ?_ (by omega)
  have e : b * m * (2 * x.f * x.x.s + (x.t - x.f) * m) - b * n * (2 * x.f * x.x.s + (x.t - x.f) * n) = b * ((m - n) * (x.f * (2 * x.x.s - m - n) + x.t * (m + n))) := by grind
  have p1 : 0 ≤ x.f * (2 * x.x.s - m - n) := Int.mul_nonneg (by omega) (by omega)
  have p2 : 0 ≤ x.t * (m + n) := Int.mul_nonneg (by omega) (by omega)
  have p3 : 0 ≤ b * ((m - n) * (x.f * (2 * x.x.s - m - n) + x.t * (m + n))) := Int.mul_nonneg hb (Int.mul_nonneg (by omega) (by omega))
  omega
theorem amtT_all (H : okPl sf gs ls) {i : Nat} (hi : i < ls.length) : amtT sf gs ls b (secAt ls ls.length) i = amtS sf gs ls b i := by
  have a := secAt_mono H (i := i + 1) ls.length (by omega) (Nat.le_refl _)
  have b1 := (H.at hi).s
  have e := secAt_succ ls i
  unfold amtT
  rw [if_pos (by omega), Int.min_eq_right (by omega)]
  rfl
theorem amtT_le (H : okPl sf gs ls) (hb : 0 ≤ b) {i : Nat} (hi : i < ls.length) : amtT sf gs ls b c i ≤ amtS sf gs ls b i := by
  have b1 := (H.at hi).s
  have h := H.le hi
  have hz := brM_mono (b := b) h hb (n := 0) (m := (dlAt ls i).s) ⟨by omega, by omega⟩ (Int.le_refl _)
  rw [brM_zero h] at hz
  unfold amtT
  by_cases hc : secAt ls i < c
  · rw [if_pos hc]
    exact brM_mono h hb ⟨by omega, by omega⟩ (Int.le_refl _)
  · rw [if_neg hc]
    exact hz
theorem consK_mono {m : Nat} {amt amt' : Nat → Int} : ∀ k, (∀ i, i < k → amt i ≤ amt' i) → ∀ (j : Nat) (v w : Int), (consK m ls amt k)[j]? = some v → (consK m ls amt' k)[j]? = some w → v ≤ w
  | 0, _, j, v, w, h1, h2 => by
    unfold consK at h1 h2
    rw [h1] at h2
    injection h2 with h2
    omega
  | k + 1, h, j, v, w, h1, h2 => by
    have ih := consK_mono (m := m) k (fun i hi => h i (by omega))
    have ha := h k (by omega)
    unfold consK at h1 h2
    rcases addAt_get h1 with ⟨e, x, hx, rfl⟩ | ⟨e, hx⟩
    · rcases addAt_get h2 with ⟨_, y, hy, rfl⟩ | ⟨e2, _⟩
      · have := ih j x y hx hy; omega
      · exact absurd e e2
    · rcases addAt_get h2 with ⟨e2, _⟩ | ⟨_, hy⟩
      · exact absurd e2 e
      · exact ih j v w hx hy
theorem trace_all (H : okPl sf gs ls) : consK gs.length ls (amtT sf gs ls b (secAt ls ls.length)) ls.length = consK gs.length ls (amtS sf gs ls b) ls.length := consK_congr _ (fun _ hi => amtT_all H hi)
theorem trace_le (H : okPl sf gs ls) (hb : 0 ≤ b) {j : Nat} {v w : Int} (h1 : (consK gs.length ls (amtT sf gs ls b c) ls.length)[j]? = some v) (h2 : (consK gs.length ls (amtS sf gs ls b) ls.length)[j]? = some w) : v ≤ w :=
  consK_mono _ (fun _ hi => amtT_le H hb hi) j v w h1 h2
/-- errors of traces -/
def trcE (nm : ByteArray) (sf : Int) (gs : List Gs) (ls : List Dl) (b : Int) : Int := if (ckPl nm sf gs ls).2 ≠ 0 then (ckPl nm sf gs ls).2 else if ¬ (1 ≤ b ∧ b ≤ 100000) then 2 else 0
end
end Go.Proofs.Ytolnohjbpllmhaa
namespace Go.Proofs.Ytolnohjbpllmhaa
section
variable {g : Gs} {sf a b : Int} {r : Ru} {k : Nat}
def brkL (g : Gs) (sf a b : Int) (r : Ru) : List Int :=
  (if g.o * min a b < 1000 * r.lo then [1] else []) ++ ((if g.o * max a b > 1000 * r.hi then [2] else []) ++ ((if (narM g sf (max a b - sf)).hi > r.na then [3] else []) ++ (if (denM g (max a b)).hi > r.de then [4] else [])))
theorem brkL_len (g : Gs) (sf a b : Int) (r : Ru) : (brkL g sf a b r).length ≤ 4 := by
  unfold brkL
  split <;> split <;> split <;> split <;> decide
theorem brkL_0 : (brkL g sf a b r).length = 0 ↔ ¬ poorP g (min a b) r ∧ heavyB g sf (max a b) r = false := by
  have e : heavyB g sf (max a b) r = false ↔ (¬ g.o * max a b > 1000 * r.hi ∧ ¬ (narM g sf (max a b - sf)).hi > r.na ∧ ¬ (denM g (max a b)).hi > r.de) := by
    unfold heavyB richB narcB denB
    simp only [Bool.or_eq_false_iff, decide_eq_false_iff_not, and_assoc]
  rw [e]
  unfold brkL poorP
  by_cases h1 : g.o * min a b < 1000 * r.lo
  · simp [h1]
  · by_cases h2 : g.o * max a b > 1000 * r.hi
    · simp [h1, h2]
    · by_cases h3 : (narM g sf (max a b - sf)).hi > r.na
      · simp [h1, h2, h3]
      · by_cases h4 : (denM g (max a b)).hi > r.de
        · simp [h1, h2, h3, h4]
        · simp [h1, h2, h3, h4]
theorem brk_good (hg : 0 ≤ g.o ∧ 0 ≤ g.h ∧ g.o + g.h ≤ 1000) (hk : k < 30001) : (brkL g sf (sf + k) (sf + k) r).length = 0 ↔ dLo g sf r ≤ k ∧ k < dHi g sf r := by
  have e1 : min (sf + (k : Int)) (sf + k) = sf + k := by omega
  have e2 : max (sf + (k : Int)) (sf + k) = sf + k := by omega
  rw [brkL_0, e1, e2]
  have h1 := firstB_iff (p := notPoor g sf r) (notPoor_mono (by omega)) hk
  have h2 := firstB_iff (p := isHeavy g sf r) (isHeavy_mono hg) hk
  have h3 : heavyB g sf (sf + k) r = isHeavy g sf r k := rfl
  have h4 : (¬ poorP g (sf + k) r) ↔ notPoor g sf r k = true := by unfold notPoor; rw [decide_eq_true_iff]
  rw [h3, h4, h1, h2, decide_eq_true_iff, decide_eq_false_iff_not]
  unfold dLo dHi
  omega
@[irreducible] def rLo (g : Gs) (sf : Int) (r : Ru) (k : Nat) : Int := if dLo g sf r < min k (dHi g sf r) then dLo g sf r else -1
@[irreducible] def rHi (g : Gs) (sf : Int) (r : Ru) (k : Nat) : Int := if dLo g sf r < min k (dHi g sf r) then ((min k (dHi g sf r) : Nat) : Int) - 1 else 0
theorem rLo_zero : rLo g sf r 0 = -1 := by unfold rLo; rw [if_neg (by omega)]
theorem rHi_zero : rHi g sf r 0 = 0 := by unfold rHi; rw [if_neg (by omega)]
theorem rLo_in (k : Nat) : (rLo g sf r k = -1 ∧ ¬ dLo g sf r < min k (dHi g sf r)) ∨ (rLo g sf r k = dLo g sf r ∧ dLo g sf r < min k (dHi g sf r)) := by
  unfold rLo
  by_cases h : dLo g sf r < min k (dHi g sf r)
  · rw [if_pos h]; exact .inr ⟨rfl, h⟩
  · rw [if_neg h]; exact .inl ⟨rfl, h⟩
theorem r_same (h : ¬ (dLo g sf r ≤ k ∧ k < dHi g sf r)) : rLo g sf r (k + 1) = rLo g sf r k ∧ rHi g sf r (k + 1) = rHi g sf r k := by
  unfold rLo rHi
  by_cases h1 : dLo g sf r < min k (dHi g sf r)
  · rw [if_pos h1, if_pos h1, if_pos (by omega), if_pos (by omega)]
    refine ⟨rfl, ?_⟩
    omega
  · rw [if_neg h1, if_neg h1, if_neg (by omega), if_neg (by omega)]
    exact ⟨rfl, rfl⟩
theorem r_first (h : dLo g sf r ≤ k ∧ k < dHi g sf r) (h0 : rLo g sf r k < 0) : rLo g sf r (k + 1) = k ∧ rHi g sf r (k + 1) = k := by
  have h1 := rLo_in (g := g) (sf := sf) (r := r) k
  have h3 : dLo g sf r < min (k + 1) (dHi g sf r) := by omega
  unfold rHi rLo
  rw [if_pos h3, if_pos h3]
  omega
theorem r_more (h : dLo g sf r ≤ k ∧ k < dHi g sf r) (h0 : ¬ rLo g sf r k < 0) : rLo g sf r (k + 1) = rLo g sf r k ∧ rHi g sf r (k + 1) = k := by
  have h1 := rLo_in (g := g) (sf := sf) (r := r) k
  have h2 : dLo g sf r < min k (dHi g sf r) := by omega
  unfold rHi rLo
  have h3 : dLo g sf r < min (k + 1) (dHi g sf r) := by omega
  rw [if_pos h3, if_pos h2, if_pos h3]
  omega
def rdE (g : Gs) (sf : Int) (r : Ru) : Rg × Bool := if (dLo g sf r : Int) > dHi g sf r - 1 then (⟨0, 0⟩, false) else (⟨dLo g sf r, dHi g sf r - 1⟩, true)
theorem rdE_1 (h : (dLo g sf r : Int) > dHi g sf r - 1) : rdE g sf r = (⟨0, 0⟩, false) := if_pos h
theorem rdE_2 (h : ¬ (dLo g sf r : Int) > dHi g sf r - 1) : rdE g sf r = (⟨dLo g sf r, dHi g sf r - 1⟩, true) := if_neg h
theorem r_end : (rLo g sf r 30001 < 0 → (dLo g sf r : Int) > dHi g sf r - 1) ∧ (¬ rLo g sf r 30001 < 0 → ¬ (dLo g sf r : Int) > dHi g sf r - 1 ∧ rLo g sf r 30001 = dLo g sf r ∧ rHi g sf r 30001 = dHi g sf r - 1) := by
  have h1 := rLo_in (g := g) (sf := sf) (r := r) 30001
  have h2 : dHi g sf r ≤ 30001 := firstB_le _ _
  refine ⟨fun h => by omega, fun h => ⟨by omega, by omega, ?_⟩⟩
  unfold rHi
  rw [if_pos (by omega)]
  omega
end
end Go.Proofs.Ytolnohjbpllmhaa
namespace Go.Proofs.Ytolnohjbpllmhaa
section
variable {nm : ByteArray} {g : Gs} {sf a b : Int} {r : Ru} {k j : Nat} {gs : List Gs} {ls : List Dl}
/-- what is broken, after the first k of three heavy kinds -/
def brkK (g : Gs) (sf a b : Int) (r : Ru) : Nat → List Int
  | 0 => if g.o * min a b < 1000 * r.lo then [1] else []
  | 1 => (if g.o * min a b < 1000 * r.lo then [1] else []) ++ (if richB g (max a b) r = true then [2] else [])
  | 2 => ((if g.o * min a b < 1000 * r.lo then [1] else []) ++ (if richB g (max a b) r = true then [2] else [])) ++ (if narcB g sf (max a b) r = true then [3] else [])
  | _ => (((if g.o * min a b < 1000 * r.lo then [1] else []) ++ (if richB g (max a b) r = true then [2] else [])) ++ (if narcB g sf (max a b) r = true then [3] else [])) ++ (if denB g (max a b) r = true then [4] else [])
theorem brkK_3 : brkK g sf a b r 3 = brkL g sf a b r := by
  unfold brkL
  show (((if g.o * min a b < 1000 * r.lo then [1] else []) ++ (if richB g (max a b) r = true then [2] else [])) ++ (if narcB g sf (max a b) r = true then [3] else [])) ++ (if denB g (max a b) r = true then [4] else []) = _
  unfold richB narcB denB
  simp only [decide_eq_true_eq, List.append_assoc]
theorem brkK_len : ∀ k, (brkK g sf a b r k).length ≤ 4
  | 0 => by show (if _ then _ else _ : List Int).length ≤ 4; split <;> decide
  | 1 => by show ((if _ then _ else _ : List Int) ++ (if _ then _ else _)).length ≤ 4; split <;> split <;> decide
  | 2 => by show (((if _ then _ else _ : List Int) ++ (if _ then _ else _)) ++ (if _ then _ else _)).length ≤ 4; split <;> split <;> split <;> decide
  | k + 3 => by show ((((if _ then _ else _ : List Int) ++ (if _ then _ else _)) ++ (if _ then _ else _)) ++ (if _ then _ else _)).length ≤ 4; split <;> split <;> split <;> split <;> decide
def brkA (r : Ru) (sf : Int) (gs : List Gs) (ls : List Dl) (k : Nat) : List Int := brkL (gasAt gs (dlAt ls k).g) sf (sf + depAt ls k) (sf + (dlAt ls k).d) r
def brs (r : Ru) (sf : Int) (gs : List Gs) (ls : List Dl) : Nat → List (Int × Int)
  | 0 => []
  | k + 1 => brs r sf gs ls k ++ (brkA r sf gs ls k).map (fun c => ((k : Int), c))
def brp (r : Ru) (sf : Int) (gs : List Gs) (ls : List Dl) (k j : Nat) : List (Int × Int) := brs r sf gs ls k ++ ((brkA r sf gs ls k).take j).map (fun c => ((k : Int), c))
theorem brp_0 : brp r sf gs ls k 0 = brs r sf gs ls k := by unfold brp; simp
theorem brp_end (h : (brkA r sf gs ls k).length ≤ j) : brp r sf gs ls k j = brs r sf gs ls (k + 1) := by
  unfold brp
  rw [List.take_of_length_le h]
  rfl
theorem brp_step {x : Int} (h : (brkA r sf gs ls k)[j]? = some x) : brp r sf gs ls k (j + 1) = brp r sf gs ls k j ++ [((k : Int), x)] := by
  unfold brp
  rw [List.take_add_one, h, List.map_append, ← List.append_assoc]
  rfl
theorem brs_len : ∀ k, (brs r sf gs ls k).length ≤ 4 * k
  | 0 => Nat.le_refl _
  | k + 1 => by
    have := brs_len k
    have h := brkL_len (gasAt gs (dlAt ls k).g) sf (sf + depAt ls k) (sf + (dlAt ls k).d) r
    unfold brs
    rw [List.length_append, List.length_map]
    unfold brkA
    omega
theorem brp_len : (brp r sf gs ls k j).length ≤ 4 * k + j := by
  have := brs_len (r := r) (sf := sf) (gs := gs) (ls := ls) k
  unfold brp
  rw [List.length_append, List.length_map, List.length_take]
  omega
def brE (nm : ByteArray) (sf : Int) (gs : List Gs) (ls : List Dl) (r : Ru) : List (Int × Int) × Int := if bothE nm sf gs ls r ≠ 0 then ([], bothE nm sf gs ls r) else (brs r sf gs ls ls.length, 0)
theorem brE_1 (h : bothE nm sf gs ls r ≠ 0) : brE nm sf gs ls r = ([], bothE nm sf gs ls r) := if_pos h
theorem brE_2 (h : bothE nm sf gs ls r = 0) : brE nm sf gs ls r = (brs r sf gs ls ls.length, 0) := if_neg (fun hh => hh h)
def fwE (nm : ByteArray) (sf : Int) (gs : List Gs) (ls : List Dl) (r : Ru) : Int × Int := if bothE nm sf gs ls r ≠ 0 then (0, bothE nm sf gs ls r) else if (brs r sf gs ls ls.length).length = 0 then (0, 12) else (((brs r sf gs ls ls.length)[0]?.getD (0, 0)).1, 0)
theorem fwE_1 (h : bothE nm sf gs ls r ≠ 0) : fwE nm sf gs ls r = (0, bothE nm sf gs ls r) := if_pos h
theorem fwE_2 (h : bothE nm sf gs ls r = 0) (h2 : (brs r sf gs ls ls.length).length = 0) : fwE nm sf gs ls r = (0, 12) := by unfold fwE; rw [if_neg (fun hh => hh h), if_pos h2]
theorem fwE_3 {x : Int × Int} (h : bothE nm sf gs ls r = 0) (h2 : (brs r sf gs ls ls.length)[0]? = some x) : fwE nm sf gs ls r = (x.1, 0) := by
  have h3 := (List.getElem?_eq_some_iff.1 h2).1
  unfold fwE
  rw [if_neg (fun hh => hh h), if_neg (by omega), h2]
  rfl
/-! ### Within the depths -/
theorem mem_brs : ∀ (k : Nat) (x : Int × Int), x ∈ brs r sf gs ls k ↔ ∃ m, m < k ∧ ∃ c ∈ brkA r sf gs ls m, x = ((m : Int), c)
  | 0, x => by
    constructor
    · intro h; cases h
    · rintro ⟨m, h, _⟩; omega
  | k + 1, x => by
    unfold brs
    rw [List.mem_append, mem_brs k x, List.mem_map]
    constructor
    · rintro (⟨m, h1, h2⟩ | ⟨c, h1, rfl⟩)
      · exact ⟨m, by omega, h2⟩
      · exact ⟨k, by omega, c, h1, rfl⟩
    · rintro ⟨m, h1, c, h2, rfl⟩
      rcases Nat.lt_or_eq_of_le (Nat.le_of_lt_succ h1) with h3 | rfl
      · exact .inl ⟨m, h3, c, h2, rfl⟩
      · exact .inr ⟨c, h2, rfl⟩
/-- is one of the first j of a list of leg i? -/
def anyK (L : List (Int × Int)) (i : Int) : Nat → Bool
  | 0 => false
  | j + 1 => anyK L i j || decide (((L[j]?).getD (0, 0)).1 = i)
theorem anyK_iff (L : List (Int × Int)) (i : Int) : ∀ j, j ≤ L.length → (anyK L i j = true ↔ ∃ m x, m < j ∧ L[m]? = some x ∧ x.1 = i)
  | 0, _ => by
    constructor
    · intro h; cases h
    · rintro ⟨m, _, h, _⟩; omega
  | j + 1, hj => by
    obtain ⟨y, hy⟩ := get_some L (show j < L.length by omega)
    unfold anyK
    rw [Bool.or_eq_true, anyK_iff L i j (by omega), hy, decide_eq_true_iff]
    constructor
    · rintro (⟨m, x, h1, h2, h3⟩ | h)
      · exact ⟨m, x, by omega, h2, h3⟩
      · exact ⟨j, y, by omega, hy, h⟩
    · rintro ⟨m, x, h1, h2, h3⟩
      rcases Nat.lt_or_eq_of_le (Nat.le_of_lt_succ h1) with h4 | rfl
      · exact .inl ⟨m, x, h4, h2, h3⟩
      · rw [hy] at h2
        injection h2 with h2
        subst h2
        exact .inr h3
theorem any_brs {i n : Nat} (hi : i < n) : anyK (brs r sf gs ls n) i (brs r sf gs ls n).length = true ↔ ¬ (brkA r sf gs ls i).length = 0 := by
  rw [anyK_iff _ _ _ (Nat.le_refl _)]
  constructor
  · rintro ⟨m, x, _, h2, h3⟩
    obtain ⟨q, hq, c, hc, rfl⟩ := (mem_brs n x).1 (List.mem_of_getElem? h2)
    have : q = i := by have h4 : (q : Int) = i := h3; omega
    subst this
    have := List.length_pos_of_mem hc
    omega
  · intro h
    obtain ⟨c, hc⟩ := List.exists_mem_of_ne_nil (brkA r sf gs ls i) (fun e => h (by rw [e]; rfl))
    obtain ⟨m, hm⟩ := List.getElem?_of_mem ((mem_brs n ((i : Int), c)).2 ⟨i, hi, c, hc, rfl⟩)
    exact ⟨m, _, (List.getElem?_eq_some_iff.1 hm).1, hm, rfl⟩
theorem brk_within (hg : 0 ≤ g.o ∧ 0 ≤ g.h ∧ g.o + g.h ≤ 1000) (ha : 0 ≤ a ∧ a ≤ 30000) (hb : 0 ≤ b ∧ b ≤ 30000) :
    (brkL g sf (sf + a) (sf + b) r).length = 0 ↔ ((dLo g sf r : Int) ≤ a ∧ a ≤ dHi g sf r - 1) ∧ ((dLo g sf r : Int) ≤ b ∧ b ≤ dHi g sf r - 1) := by
  obtain ⟨x, rfl⟩ := Int.eq_ofNat_of_zero_le ha.1
  obtain ⟨y, rfl⟩ := Int.eq_ofNat_of_zero_le hb.1
  have e1 : min (sf + (x : Int)) (sf + (y : Int)) = sf + ((min x y : Nat) : Int) := by omega
  have e2 : max (sf + (x : Int)) (sf + (y : Int)) = sf + ((max x y : Nat) : Int) := by omega
  rw [brkL_0, e1, e2]
  have h1 := firstB_iff (p := notPoor g sf r) (notPoor_mono (by omega)) (n := 30001) (i := min x y) (by omega)
  have h2 := firstB_iff (p := isHeavy g sf r) (isHeavy_mono hg) (n := 30001) (i := max x y) (by omega)
  have h3 : heavyB g sf (sf + ((max x y : Nat) : Int)) r = isHeavy g sf r (max x y) := rfl
  have h4 : (¬ poorP g (sf + ((min x y : Nat) : Int)) r) ↔ notPoor g sf r (min x y) = true := by unfold notPoor; rw [decide_eq_true_iff]
  rw [h3, h4, h1, h2, decide_eq_true_iff, decide_eq_false_iff_not]
  unfold dLo dHi
  generalize firstB (notPoor g sf r) 30001 = p
  generalize firstB (isHeavy g sf r) 30001 = q
  omega
theorem in_any {A : Bool} {n : Nat} {p q : Prop} [Decidable q] (ha : A = true ↔ ¬ n = 0) (hi : n = 0 ↔ p ∧ q) (hp : p) : (decide q == A) = false := by
  by_cases hq : q
  · have h0 : n = 0 := hi.2 ⟨hp, hq⟩
    have : A = false := by
      cases h : A
      · rfl
      · exact absurd h0 (ha.1 h)
    rw [this, decide_eq_true hq]; rfl
  · have : A = true := ha.2 (fun h => hq (hi.1 h).2)
    rw [this, decide_eq_false hq]; rfl
theorem in_any0 {A : Bool} {n : Nat} {p q : Prop} (ha : A = true ↔ ¬ n = 0) (hi : n = 0 ↔ p ∧ q) (h : ¬ (p ∧ q)) : (false == A) = false := by
  have : A = true := ha.2 (fun h9 => h (hi.1 h9))
  rw [this]; rfl
theorem both_ru {nm : ByteArray} (h : bothE nm sf gs ls r = 0) : ckRu r = 0 := by
  have h1 := (bothE_ok h).2.2.2
  rw [bothE_2 h1] at h
  exact h
end
end Go.Proofs.Ytolnohjbpllmhaa
namespace Go.Proofs.Ytolnohjbpllmhaa
section
variable {nm : ByteArray} {sf : Int} {r : Ru} {gs : List Gs} {ls : List Dl} {am : List Int}
abbrev badA (a : Int) : Prop := ¬ (0 ≤ a ∧ a ≤ 1000000000)
def badN (am : List Int) (k : Nat) : Bool := decide (badA ((am[k]?).getD 0))
/-- the first amount that is wrong -/
def badK (am : List Int) : Nat := firstB (badN am) am.length
theorem firstB_at {p : Nat → Bool} {n m : Nat} (hm : m < n) (h1 : p m = true) (h0 : ∀ i, i < m → p i = false) : firstB p n = m := by
  obtain ⟨s1, s2⟩ := firstB_spec p n
  have s3 := firstB_le p n
  rcases Nat.lt_trichotomy (firstB p n) m with h | h | h
  · have := h0 _ h
    rw [s2 (by omega)] at this
    cases this
  · exact h
  · have := s1 m h
    rw [h1] at this
    cases this
theorem firstB_all {p : Nat → Bool} {n : Nat} (h0 : ∀ i, i < n → p i = false) : firstB p n = n := by
  obtain ⟨s1, s2⟩ := firstB_spec p n
  have s3 := firstB_le p n
  rcases Nat.lt_or_eq_of_le s3 with h | h
  · have := h0 _ h
    rw [s2 h] at this
    cases this
  · exact h
def ckAm (gs : List Gs) (am : List Int) : Int := if am.length ≠ gs.length then 10 else if badK am < am.length then 2 else 0
theorem ckAm_1 (h : am.length ≠ gs.length) : ckAm gs am = 10 := if_pos h
theorem ckAm_2 (h : am.length = gs.length) (h2 : badK am < am.length) : ckAm gs am = 2 := by unfold ckAm; rw [if_neg (fun hh => hh h), if_pos h2]
theorem ckAm_3 (h : am.length = gs.length) (h2 : ¬ badK am < am.length) : ckAm gs am = 0 := by unfold ckAm; rw [if_neg (fun hh => hh h), if_neg h2]
theorem ckAm_ok (h : ckAm gs am = 0) : am.length = gs.length ∧ ∀ a ∈ am, 0 ≤ a ∧ a ≤ 1000000000 := by
  by_cases h1 : am.length = gs.length
  · by_cases h2 : badK am < am.length
    · rw [ckAm_2 h1 h2] at h; cases h
    · refine ⟨h1, fun a ha => ?_⟩
      obtain ⟨i, hi⟩ := List.getElem?_of_mem ha
      have hl := (List.getElem?_eq_some_iff.1 hi).1
      have h3 := (firstB_spec (badN am) am.length).1 i (by unfold badK at h2; omega)
      unfold badN at h3
      rw [hi] at h3
      exact Decidable.not_not.1 (of_decide_eq_false h3)
  · rw [ckAm_1 h1] at h; cases h
/-! ### The first second that is not survived -/
def amAt (am : List Int) (g : Int) : Int := (am[g.toNat]?).getD 0
def shortN (r : Ru) (sf : Int) (gs : List Gs) (ls : List Dl) (am : List Int) (σ : Nat) : Bool := decide (aN r sf gs ls σ > amAt am (gN ls σ))
def failK (r : Ru) (sf : Int) (gs : List Gs) (ls : List Dl) (am : List Int) : Nat := firstB (shortN r sf gs ls am) (rnN ls ls.length)
def failZ (r : Ru) (sf : Int) (gs : List Gs) (ls : List Dl) (am : List Int) : Int := if failK r sf gs ls am < rnN ls ls.length then failK r sf gs ls am else -1
theorem failZ_at {σ : Nat} (h : σ < rnN ls ls.length) (h1 : shortN r sf gs ls am σ = true) (h0 : ∀ τ, τ < σ → shortN r sf gs ls am τ = false) : failZ r sf gs ls am = σ := by
  have e : failK r sf gs ls am = σ := firstB_at h h1 h0
  unfold failZ
  rw [e, if_pos h]
theorem failZ_no (h0 : ∀ τ, τ < rnN ls ls.length → shortN r sf gs ls am τ = false) : failZ r sf gs ls am = -1 := by
  have e : failK r sf gs ls am = rnN ls ls.length := firstB_all h0
  unfold failZ
  rw [e, if_neg (by omega)]
theorem failZ_in : -1 ≤ failZ r sf gs ls am ∧ failZ r sf gs ls am ≤ rnN ls ls.length := by
  unfold failZ
  split <;> omega
theorem rnN_T (H : okPl sf gs ls) (h : 0 < ls.length) : (rnN ls ls.length : Int) = secAt ls ls.length + 1 := by
  rw [rnN_pos h]
  have := secN_eq H (Nat.le_refl ls.length)
  omega
def shE (nm : ByteArray) (sf : Int) (gs : List Gs) (ls : List Dl) (r : Ru) (am : List Int) : Int := if bothE nm sf gs ls r ≠ 0 then bothE nm sf gs ls r else if ckAm gs am ≠ 0 then ckAm gs am else if secAt ls ls.length > 20000 then 8 else 0
theorem shE_1 (h : bothE nm sf gs ls r ≠ 0) : shE nm sf gs ls r am = bothE nm sf gs ls r := if_pos h
theorem shE_2 (h : bothE nm sf gs ls r = 0) (h2 : ckAm gs am ≠ 0) : shE nm sf gs ls r am = ckAm gs am := by unfold shE; rw [if_neg (fun hh => hh h), if_pos h2]
theorem shE_3 (h : bothE nm sf gs ls r = 0) (h2 : ckAm gs am = 0) (h3 : secAt ls ls.length > 20000) : shE nm sf gs ls r am = 8 := by unfold shE; rw [if_neg (fun hh => hh h), if_neg (fun hh => hh h2), if_pos h3]
theorem shE_4 (h : bothE nm sf gs ls r = 0) (h2 : ckAm gs am = 0) (h3 : ¬ secAt ls ls.length > 20000) : shE nm sf gs ls r am = 0 := by unfold shE; rw [if_neg (fun hh => hh h), if_neg (fun hh => hh h2), if_neg h3]
theorem shE_ok (h : shE nm sf gs ls r am = 0) : bothE nm sf gs ls r = 0 ∧ ckAm gs am = 0 ∧ ¬ secAt ls ls.length > 20000 := by
  by_cases h1 : bothE nm sf gs ls r = 0
  · by_cases h2 : ckAm gs am = 0
    · by_cases h3 : secAt ls ls.length > 20000
      · rw [shE_3 h1 h2 h3] at h; cases h
      · exact ⟨h1, h2, h3⟩
    · rw [shE_2 h1 h2] at h; exact absurd h h2
  · rw [shE_1 h1] at h; exact absurd h h1
/-- first, end, error -/
def fsE (nm : ByteArray) (sf : Int) (gs : List Gs) (ls : List Dl) (r : Ru) (am : List Int) : Int × Int × Int := if shE nm sf gs ls r am ≠ 0 then (0, 0, shE nm sf gs ls r am) else (failZ r sf gs ls am, secAt ls ls.length, 0)
theorem fsE_1 (h : shE nm sf gs ls r am ≠ 0) : fsE nm sf gs ls r am = (0, 0, shE nm sf gs ls r am) := if_pos h
theorem fsE_2 (h : shE nm sf gs ls r am = 0) : fsE nm sf gs ls r am = (failZ r sf gs ls am, secAt ls ls.length, 0) := if_neg (fun hh => hh h)
def svE (nm : ByteArray) (sf : Int) (gs : List Gs) (ls : List Dl) (r : Ru) (am : List Int) : Int × Int := if shE nm sf gs ls r am ≠ 0 then (0, shE nm sf gs ls r am) else if failZ r sf gs ls am ≥ 0 then (failZ r sf gs ls am, 26) else (secAt ls ls.length, 0)
theorem svE_1 (h : shE nm sf gs ls r am ≠ 0) : svE nm sf gs ls r am = (0, shE nm sf gs ls r am) := if_pos h
theorem svE_2 (h : shE nm sf gs ls r am = 0) (h2 : failZ r sf gs ls am ≥ 0) : svE nm sf gs ls r am = (failZ r sf gs ls am, 26) := by unfold svE; rw [if_neg (fun hh => hh h), if_pos h2]
theorem svE_3 (h : shE nm sf gs ls r am = 0) (h2 : ¬ failZ r sf gs ls am ≥ 0) : svE nm sf gs ls r am = (secAt ls ls.length, 0) := by unfold svE; rw [if_neg (fun hh => hh h), if_neg h2]
def ltE (nm : ByteArray) (sf : Int) (gs : List Gs) (ls : List Dl) (r : Ru) (am : List Int) : Int × Int := if shE nm sf gs ls r am ≠ 0 then (0, shE nm sf gs ls r am) else if failZ r sf gs ls am = 0 then (0, 12) else if failZ r sf gs ls am > 0 then (failZ r sf gs ls am - 1, 0) else (secAt ls ls.length, 0)
theorem ltE_1 (h : shE nm sf gs ls r am ≠ 0) : ltE nm sf gs ls r am = (0, shE nm sf gs ls r am) := if_pos h
theorem ltE_2 (h : shE nm sf gs ls r am = 0) (h2 : failZ r sf gs ls am = 0) : ltE nm sf gs ls r am = (0, 12) := by unfold ltE; rw [if_neg (fun hh => hh h), if_pos h2]
theorem ltE_3 (h : shE nm sf gs ls r am = 0) (h2 : failZ r sf gs ls am > 0) : ltE nm sf gs ls r am = (failZ r sf gs ls am - 1, 0) := by unfold ltE; rw [if_neg (fun hh => hh h), if_neg (by omega), if_pos h2]
theorem ltE_4 (h : shE nm sf gs ls r am = 0) (h2 : ¬ failZ r sf gs ls am ≥ 0) : ltE nm sf gs ls r am = (secAt ls ls.length, 0) := by unfold ltE; rw [if_neg (fun hh => hh h), if_neg (by omega), if_neg (by omega)]
end
end Go.Proofs.Ytolnohjbpllmhaa
namespace Go.Proofs.Ytolnohjbpllmhaa
theorem mod_yes {n b : Int} (hb : 1 ≤ b) (h : n.tmod b < 0) : n.tmod b + b = n % b := by
  have h1 := Int.mul_tdiv_add_tmod n b
  have h2 := Int.lt_tmod_of_pos n (show 0 < b by omega)
  have h3 : (n.tmod b + b) + b * (n.tdiv b - 1) = n := by rw [Int.mul_sub, Int.mul_one]; omega
  exact ((Int.ediv_emod_unique (show 0 < b by omega)).2 ⟨h3, by omega, by omega⟩).2.symm
theorem mod_no {n b : Int} (hb : 1 ≤ b) (h : ¬ n.tmod b < 0) : n.tmod b = n % b := by
  have h1 := Int.mul_tdiv_add_tmod n b
  have h2 := Int.tmod_lt_of_pos n (show 0 < b by omega)
  have h3 : n.tmod b + b * n.tdiv b = n := by omega
  exact ((Int.ediv_emod_unique (show 0 < b by omega)).2 ⟨h3, by omega, by omega⟩).2.symm
section
variable {nm : ByteArray} {sf : Int} {r : Ru} {gs : List Gs} {ls : List Dl} {L : List (Int × Int)} {n σ : Nat}
def upP (r : Ru) (sf : Int) (gs : List Gs) (ls : List Dl) (σ : Nat) (x : Int × Int) : Prop := x.2 < 0 ∨ aN r sf gs ls σ > x.1
instance (σ : Nat) (x : Int × Int) : Decidable (upP r sf gs ls σ x) := by unfold upP; infer_instance
/-- the needs so far, with their seconds -/
def resK (r : Ru) (sf : Int) (gs : List Gs) (ls : List Dl) : Nat → List (Int × Int)
  | 0 => List.replicate gs.length (0, -1)
  | σ + 1 => if upP r sf gs ls σ (((resK r sf gs ls σ)[(gN ls σ).toNat]?).getD (0, -1)) then (resK r sf gs ls σ).set (gN ls σ).toNat (aN r sf gs ls σ, (σ : Int)) else resK r sf gs ls σ
theorem resK_yes {x : Int × Int} (h : (resK r sf gs ls σ)[(gN ls σ).toNat]? = some x) (hu : upP r sf gs ls σ x) : resK r sf gs ls (σ + 1) = (resK r sf gs ls σ).set (gN ls σ).toNat (aN r sf gs ls σ, (σ : Int)) := by
  show (if _ then _ else _) = _
  rw [h]
  exact if_pos hu
theorem resK_no {x : Int × Int} (h : (resK r sf gs ls σ)[(gN ls σ).toNat]? = some x) (hu : ¬ upP r sf gs ls σ x) : resK r sf gs ls (σ + 1) = resK r sf gs ls σ := by
  show (if _ then _ else _) = _
  rw [h]
  exact if_neg hu
theorem resK_len : ∀ n, (resK r sf gs ls n).length = gs.length
  | 0 => by simp [resK]
  | n + 1 => by
    have := resK_len n
    unfold resK
    split
    · rw [List.length_set, this]
    · exact this
/-- what is known of an entry behind n seconds -/
def entP (r : Ru) (sf : Int) (gs : List Gs) (ls : List Dl) (n g : Nat) (x : Int × Int) : Prop :=
  (x.2 = -1 ∧ x.1 = 0 ∧ ∀ τ, τ < n → (gN ls τ).toNat ≠ g) ∨
  (∃ s : Nat, x.2 = s ∧ s < n ∧ (gN ls s).toNat = g ∧ aN r sf gs ls s = x.1 ∧ (∀ τ, τ < n → (gN ls τ).toNat = g → aN r sf gs ls τ ≤ x.1) ∧ ∀ τ, τ < s → (gN ls τ).toNat = g → aN r sf gs ls τ < x.1)
theorem resK_ent : ∀ n, (∀ τ, τ < n → (gN ls τ).toNat < gs.length) → ∀ (g : Nat) (x : Int × Int), (resK r sf gs ls n)[g]? = some x → entP r sf gs ls n g x
  | 0, _, g, x, hx => by
    unfold resK at hx
    rw [List.getElem?_replicate] at hx
    split at hx
    · injection hx with hx
      subst hx
      exact .inl ⟨rfl, rfl, fun τ h => absurd h (Nat.not_lt_zero _)⟩
    · cases hx
  | n + 1, hg, g, x, hx => by
    have ih := resK_ent n (fun τ h => hg τ (by omega))
    obtain ⟨y, hy⟩ := get_some (resK r sf gs ls n) (k := (gN ls n).toNat) (by rw [resK_len]; exact hg n (by omega))
    have hey := ih _ y hy
    by_cases hu : upP r sf gs ls n y
    · rw [resK_yes hy hu, List.getElem?_set] at hx
      by_cases hgn : (gN ls n).toNat = g
      · rw [if_pos hgn] at hx
        split at hx
        · injection hx with hx
          subst hx
          right
          refine ⟨n, rfl, by omega, hgn, rfl, fun τ h1 h2 => ?_, fun τ h1 h2 => ?_⟩
          · show aN r sf gs ls τ ≤ aN r sf gs ls n
            rcases Nat.lt_or_eq_of_le (Nat.le_of_lt_succ h1) with h3 | rfl
            · rcases hey with ⟨_, _, h4⟩ | ⟨s, h4, h5, h6, h7, h8, h9⟩
              · exact absurd (h2.trans hgn.symm) (h4 τ h3)
              · have a := h8 τ h3 (h2.trans hgn.symm)
                rcases hu with hu | hu
                · omega
                · omega
            · exact Int.le_refl _
          · show aN r sf gs ls τ < aN r sf gs ls n
            rcases hey with ⟨_, _, h4⟩ | ⟨s, h4, h5, h6, h7, h8, h9⟩
            · exact absurd (h2.trans hgn.symm) (h4 τ h1)
            · have a := h8 τ h1 (h2.trans hgn.symm)
              rcases hu with hu | hu
              · omega
              · omega
        · cases hx
      · rw [if_neg hgn] at hx
        rcases ih g x hx with ⟨h1, h2, h3⟩ | ⟨s, h4, h5, h6, h7, h8, h9⟩
        · refine .inl ⟨h1, h2, fun τ h => ?_⟩
          rcases Nat.lt_or_eq_of_le (Nat.le_of_lt_succ h) with h9 | rfl
          · exact h3 τ h9
          · exact hgn
        · refine .inr ⟨s, h4, by omega, h6, h7, fun τ h1 h2 => ?_, h9⟩
          rcases Nat.lt_or_eq_of_le (Nat.le_of_lt_succ h1) with h3 | rfl
          · exact h8 τ h3 h2
          · exact absurd h2 hgn
    · rw [resK_no hy hu] at hx
      rcases ih g x hx with ⟨h1, h2, h3⟩ | ⟨s, h4, h5, h6, h7, h8, h9⟩
      · refine .inl ⟨h1, h2, fun τ h => ?_⟩
        rcases Nat.lt_or_eq_of_le (Nat.le_of_lt_succ h) with h9 | rfl
        · exact h3 τ h9
        · intro hgn
          rw [hgn, hx] at hy
          injection hy with hy
          subst hy
          exact hu (.inl (by omega))
      · refine .inr ⟨s, h4, by omega, h6, h7, fun τ h1 h2 => ?_, h9⟩
        rcases Nat.lt_or_eq_of_le (Nat.le_of_lt_succ h1) with h3 | rfl
        · exact h8 τ h3 h2
        · rw [h2, hx] at hy
          injection hy with hy
          subst hy
          unfold upP at hu
          omega
def resM (r : Ru) (sf : Int) (gs : List Gs) (ls : List Dl) : List (Int × Int) := resK r sf gs ls (rnN ls ls.length)
theorem resM_len : (resM r sf gs ls).length = gs.length := resK_len _
theorem gN_in (H : okPl sf gs ls) (h : σ < rnN ls ls.length) : 0 ≤ gN ls σ ∧ (gN ls σ).toNat < gs.length := by
  have h0 : 0 < ls.length := by
    rcases Nat.eq_zero_or_pos ls.length with h9 | h9
    · rw [h9] at h; exact absurd h (Nat.not_lt_zero _)
    · exact h9
  have hM := rnN_T H h0
  obtain ⟨hk1, _, _⟩ := kAt_in H (σ := σ) h0 (by omega)
  have := (H.at hk1).g
  unfold gN
  omega
theorem aN_nn (H : okPl sf gs ls) (HR : okRu r) (hT : secAt ls ls.length ≤ 20000) (h : σ < rnN ls ls.length) : 0 ≤ aN r sf gs ls σ := by
  have h0 : 0 < ls.length := by
    rcases Nat.eq_zero_or_pos ls.length with h9 | h9
    · rw [h9] at h; exact absurd h (Nat.not_lt_zero _)
    · exact h9
  have hM := rnN_T H h0
  obtain ⟨hk1, hk2, hk3⟩ := kAt_in H (σ := σ) h0 (by omega)
  have hs := secAt_succ ls (kAt ls σ)
  have hl := sec_leg H hk1
  have hz0 : kAt ls σ = 0 → secAt ls (kAt ls σ) = 0 := fun h => by rw [h]; rfl
  obtain ⟨a, b, _, d⟩ := needA_in H HR hk1 (by omega) (s := (σ : Int) - secAt ls (kAt ls σ)) (by omega)
  unfold aN needA
  omega
theorem resM_ent (H : okPl sf gs ls) {g : Nat} {x : Int × Int} (hx : (resM r sf gs ls)[g]? = some x) : entP r sf gs ls (rnN ls ls.length) g x := resK_ent _ (fun _ h => (gN_in H h).2) g x hx
theorem ent_nn (H : okPl sf gs ls) (HR : okRu r) (hT : secAt ls ls.length ≤ 20000) {g : Nat} {x : Int × Int} (hx : (resM r sf gs ls)[g]? = some x) : 0 ≤ x.1 := by
  rcases resM_ent H hx with ⟨_, h, _⟩ | ⟨s, _, h5, _, h7, _⟩
  · omega
  · rw [← h7]; exact aN_nn H HR hT h5
def amM (r : Ru) (sf : Int) (gs : List Gs) (ls : List Dl) : List Int := (resM r sf gs ls).map (·.1)
theorem amM_len : (amM r sf gs ls).length = gs.length := by unfold amM; rw [List.length_map, resM_len]
theorem amM_get {g : Nat} {x : Int × Int} (hx : (resM r sf gs ls)[g]? = some x) : (amM r sf gs ls)[g]? = some x.1 := by unfold amM; rw [List.getElem?_map, hx]; rfl
theorem am_ok {am : List Int} (h1 : am.length = gs.length) (h2 : ∀ a ∈ am, 0 ≤ a ∧ a ≤ 1000000000) : ckAm gs am = 0 := by
  refine ckAm_3 h1 ?_
  have : badK am = am.length := firstB_all (fun i hi => by
    obtain ⟨x, hx⟩ := get_some am hi
    unfold badN
    rw [hx]
    exact decide_eq_false (fun h => h (h2 x (List.mem_of_getElem? hx))))
  omega
/-- with the reserves each second is survived -/
theorem res_suff (H : okPl sf gs ls) : failZ r sf gs ls (amM r sf gs ls) = -1 := by
  refine failZ_no (fun τ h => ?_)
  obtain ⟨y, hy⟩ := get_some (resM r sf gs ls) (k := (gN ls τ).toNat) (by rw [resM_len]; exact (gN_in H h).2)
  unfold shortN amAt
  rw [amM_get hy]
  refine decide_eq_false ?_
  show ¬ aN r sf gs ls τ > y.1
  rcases resM_ent H hy with ⟨_, _, h3⟩ | ⟨s, _, _, _, _, h8, _⟩
  · exact absurd rfl (h3 τ h)
  · have := h8 τ h rfl; omega
/-- with 1 less of a gas its second is the first one that is not -/
theorem res_need (H : okPl sf gs ls) {g : Nat} {x : Int × Int} (hx : (resM r sf gs ls)[g]? = some x) (h0 : ¬ x.2 < 0) : failZ r sf gs ls ((amM r sf gs ls).set g (x.1 - 1)) = x.2 := by
  have hgl : g < gs.length := by have := (List.getElem?_eq_some_iff.1 hx).1; rwa [resM_len] at this
  rcases resM_ent H hx with ⟨h1, _, _⟩ | ⟨s, h4, h5, h6, h7, h8, h9⟩
  · omega
  · rw [h4]
    have hset : ((amM r sf gs ls).set g (x.1 - 1))[g]? = some (x.1 - 1) := List.getElem?_set_self (by rw [amM_len]; exact hgl)
    refine failZ_at h5 ?_ (fun τ hτ => ?_)
    · unfold shortN amAt
      rw [h6, hset]
      refine decide_eq_true ?_
      show aN r sf gs ls s > x.1 - 1
      omega
    · have hτM : τ < rnN ls ls.length := by omega
      unfold shortN amAt
      refine decide_eq_false ?_
      by_cases hgτ : (gN ls τ).toNat = g
      · rw [hgτ, hset]
        show ¬ aN r sf gs ls τ > x.1 - 1
        have := h9 τ hτ hgτ
        omega
      · obtain ⟨y, hy⟩ := get_some (resM r sf gs ls) (k := (gN ls τ).toNat) (by rw [resM_len]; exact (gN_in H hτM).2)
        rw [List.getElem?_set_ne (fun e => hgτ e.symm), amM_get hy]
        show ¬ aN r sf gs ls τ > y.1
        rcases resM_ent H hy with ⟨_, _, h3⟩ | ⟨s2, _, _, _, _, h10, _⟩
        · exact absurd rfl (h3 τ hτM)
        · have := h10 τ hτM rfl; omega
def reE (nm : ByteArray) (sf : Int) (gs : List Gs) (ls : List Dl) (r : Ru) : List (Int × Int) × Int := if toldE nm sf gs ls r ≠ 0 then ([], toldE nm sf gs ls r) else (resM r sf gs ls, 0)
theorem reE_1 (h : toldE nm sf gs ls r ≠ 0) : reE nm sf gs ls r = ([], toldE nm sf gs ls r) := if_pos h
theorem reE_2 (h : toldE nm sf gs ls r = 0) : reE nm sf gs ls r = (resM r sf gs ls, 0) := if_neg (fun hh => hh h)
def amK (r : Ru) (sf : Int) (gs : List Gs) (ls : List Dl) (k : Nat) : List Int := ((resM r sf gs ls).take k).map (·.1)
theorem amK_len {k : Nat} (h : k ≤ gs.length) : (amK r sf gs ls k).length = k := by unfold amK; rw [List.length_map, List.length_take, resM_len]; omega
theorem amK_step {k : Nat} {x : Int × Int} (hx : (resM r sf gs ls)[k]? = some x) : amK r sf gs ls (k + 1) = amK r sf gs ls k ++ [x.1] := by
  unfold amK
  rw [List.take_add_one, hx, List.map_append]
  rfl
theorem amK_all : amK r sf gs ls gs.length = amM r sf gs ls := by
  unfold amK amM
  rw [List.take_of_length_le (by rw [resM_len]; exact Nat.le_refl _)]
theorem am_all (H : okPl sf gs ls) (HR : okRu r) (hT : secAt ls ls.length ≤ 20000) (hb : ∀ (i : Nat) (x : Int × Int), i < gs.length → (resM r sf gs ls)[i]? = some x → x.1 ≤ 1000000000) : ∀ a ∈ amM r sf gs ls, 0 ≤ a ∧ a ≤ 1000000000 := by
  intro a ha
  obtain ⟨i, hi⟩ := List.getElem?_of_mem ha
  have hl := (List.getElem?_eq_some_iff.1 hi).1
  rw [amM_len] at hl
  obtain ⟨x, hx⟩ := get_some (resM r sf gs ls) (k := i) (by rw [resM_len]; exact hl)
  rw [amM_get hx] at hi
  injection hi with hi
  subst hi
  exact ⟨ent_nn H HR hT hx, hb i x hl hx⟩
theorem am_set {j : Nat} {x : Int} (h : ∀ a ∈ amM r sf gs ls, 0 ≤ a ∧ a ≤ 1000000000) (hx : 1 ≤ x ∧ x ≤ 1000000000) : ckAm gs ((amM r sf gs ls).set j (x - 1)) = 0 := by
  refine am_ok (by rw [List.length_set, amM_len]) (fun a ha => ?_)
  rcases List.mem_or_eq_of_mem_set ha with h9 | rfl
  · exact h a h9
  · omega
end
end Go.Proofs.Ytolnohjbpllmhaa
namespace Go.Proofs.Ytolnohjbpllmhaa
theorem upZ_add {a b c : Int} (hc : 1 ≤ c) : upZ (a + b) c ≤ upZ a c + upZ b c ∧ upZ a c + upZ b c ≤ upZ (a + b) c + 1 := by
  have h1 := Int.mul_ediv_add_emod (a + c - 1) c
  have h2 := Int.emod_nonneg (a + c - 1) (show c ≠ 0 by omega)
  have h3 := Int.emod_lt_of_pos (a + c - 1) (show 0 < c by omega)
  have h4 := Int.mul_ediv_add_emod (b + c - 1) c
  have h5 := Int.emod_nonneg (b + c - 1) (show c ≠ 0 by omega)
  have h6 := Int.emod_lt_of_pos (b + c - 1) (show 0 < c by omega)
  unfold upZ
  generalize (a + c - 1) / c = p at *
  generalize (b + c - 1) / c = q at *
  generalize (a + c - 1) % c = s at *
  generalize (b + c - 1) % c = t at *
  have e : a + b + c - 1 = (s + t - c + 1) + c * (p + q) := by rw [Int.mul_add]; omega
  rw [e, Int.add_mul_ediv_left _ _ (by omega)]
  have l1 : -1 ≤ (s + t - c + 1) / c := by
    refine Int.le_ediv_of_mul_le (by omega) ?_
    omega
  have l2 : (s + t - c + 1) / c ≤ 0 := by
    have : (s + t - c + 1) / c < 1 := Int.ediv_lt_of_lt_mul (by omega) (by omega)
    omega
  omega
section
variable {nm : ByteArray} {sf : Int} {r : Ru} {gs : List Gs} {ls : List Dl} {k i : Nat} {c : Int} {tb : List Ow}
/-- the leg may be divided there -/
def dvP (ls : List Dl) (k : Nat) (c : Int) : Prop := 0 < c ∧ c < (dlAt ls k).s ∧ (((dlAt ls k).d - depAt ls k) * c) % (dlAt ls k).s = 0
instance (ls : List Dl) (k : Nat) (c : Int) : Decidable (dvP ls k c) := by unfold dvP; infer_instance
def dvM (ls : List Dl) (k : Nat) (c : Int) : Int := depAt ls k + (((dlAt ls k).d - depAt ls k) * c) / (dlAt ls k).s
def dvA (ls : List Dl) (k : Nat) (c : Int) : Dl := ⟨c, dvM ls k c, (dlAt ls k).g⟩
def dvB (ls : List Dl) (k : Nat) (c : Int) : Dl := ⟨(dlAt ls k).s - c, (dlAt ls k).d, (dlAt ls k).g⟩
def dvL (ls : List Dl) (k : Nat) (c : Int) : List Dl := (ls.take k ++ [dvA ls k c, dvB ls k c]) ++ ls.drop (k + 1)
theorem dvL_len (hk : k < ls.length) : (dvL ls k c).length = ls.length + 1 := by
  unfold dvL
  simp only [List.length_append, List.length_take, List.length_drop, List.length_cons, List.length_nil]
  omega
theorem dv_lo (hk : k < ls.length) (hi : i < k) : dlAt (dvL ls k c) i = dlAt ls i := by
  unfold dlAt dvL
  rw [List.append_assoc, List.getElem?_append_left (by rw [List.length_take]; omega), List.getElem?_take_of_lt hi]
theorem dv_a (hk : k < ls.length) : dlAt (dvL ls k c) k = dvA ls k c := by
  have e : (ls.take k).length = k := by rw [List.length_take]; omega
  unfold dvL
  unfold dlAt
  rw [List.append_assoc, List.getElem?_append_right (by omega), e, Nat.sub_self]
  rfl
theorem dv_b (hk : k < ls.length) : dlAt (dvL ls k c) (k + 1) = dvB ls k c := by
  have e : (ls.take k).length = k := by rw [List.length_take]; omega
  unfold dvL
  unfold dlAt
  rw [List.append_assoc, List.getElem?_append_right (by omega), e, show k + 1 - k = 1 by omega]
  rfl
theorem dv_hi (hk : k < ls.length) (hi : k + 2 ≤ i) : dlAt (dvL ls k c) i = dlAt ls (i - 1) := by
  have e : (ls.take k ++ [dvA ls k c, dvB ls k c]).length = k + 2 := by rw [List.length_append, List.length_take]; simp; omega
  unfold dlAt dvL
  rw [List.getElem?_append_right (by omega), e, List.getElem?_drop]
  congr 2
  omega
theorem dv_sec_lo (hk : k < ls.length) : ∀ i, i ≤ k → secAt (dvL ls k c) i = secAt ls i
  | 0, _ => rfl
  | i + 1, h => by rw [secAt_succ, secAt_succ, dv_sec_lo hk i (by omega), dv_lo hk (by omega)]
theorem dv_sec_hi (hk : k < ls.length) : ∀ i, secAt (dvL ls k c) (k + 2 + i) = secAt ls (k + 1 + i)
  | 0 => by
    show secAt (dvL ls k c) (k + 1 + 1) = secAt ls (k + 1)
    rw [secAt_succ, secAt_succ, secAt_succ, dv_sec_lo hk k (Nat.le_refl _), dv_a hk, dv_b hk]
    show secAt ls k + c + ((dlAt ls k).s - c) = _
    omega
  | i + 1 => by
    show secAt (dvL ls k c) (k + 2 + i + 1) = secAt ls (k + 1 + i + 1)
    rw [secAt_succ, secAt_succ, dv_sec_hi hk i, dv_hi hk (by omega)]
    congr 3
    omega
theorem ckLegs_zero {n : Int} : ∀ (m k : Nat), k + m = ls.length → (∀ j, k ≤ j → j < ls.length → okDl n (dlAt ls j) ∧ secAt ls (j + 1) ≤ 1000000) → ckLegs n k (secAt ls k) (ls.drop k) = (0, 0)
  | 0, k, hm, _ => ckLegs_end (by omega)
  | m + 1, k, hm, h => by
    obtain ⟨x, hx⟩ := get_some ls (show k < ls.length by omega)
    have h1 := h k (Nat.le_refl _) (by omega)
    rw [dlAt_get hx, secAt_succ, dlAt_get hx] at h1
    have hc : ckDl1 n (secAt ls k) x = 0 := by
      have a := h1.1.s; have b := h1.1.d; have g := h1.1.g
      unfold ckDl1
      rw [if_neg (fun hh => hh ⟨a.1, a.2, b.1, b.2⟩), if_neg (fun hh => hh g), if_neg (by omega)]
    have e1 : secAt ls (k + 1) = secAt ls k + x.s := by rw [secAt_succ, dlAt_get hx]
    rw [ckLegs_ok hx hc, ← e1]
    exact ckLegs_zero m (k + 1) (by omega) (fun j hj hl => h j (by omega) hl)
/-- the depth where the leg is divided lies between its depths -/
theorem dv_mid (H : okPl sf gs ls) (hk : k < ls.length) (hd : dvP ls k c) : dvM ls k c * (dlAt ls k).s = depAt ls k * (dlAt ls k).s + ((dlAt ls k).d - depAt ls k) * c ∧ min (depAt ls k) (dlAt ls k).d ≤ dvM ls k c ∧ dvM ls k c ≤ max (depAt ls k) (dlAt ls k).d := by
  obtain ⟨h0, h1, h2⟩ := hd
  have hs := (H.at hk).s
  have h3 := Int.mul_ediv_add_emod (((dlAt ls k).d - depAt ls k) * c) (dlAt ls k).s
  rw [h2, Int.add_zero] at h3
  have e : dvM ls k c * (dlAt ls k).s = depAt ls k * (dlAt ls k).s + ((dlAt ls k).d - depAt ls k) * c := by
    unfold dvM
    rw [Int.add_mul, Int.mul_comm (_ / _) (dlAt ls k).s, h3]
  refine ⟨e, ?_, ?_⟩
  · by_cases hlt : dvM ls k c < min (depAt ls k) (dlAt ls k).d
    · have p1 := Int.mul_lt_mul_of_pos_right hlt (show 0 < (dlAt ls k).s by omega)
      have p2 : min (depAt ls k) (dlAt ls k).d * (dlAt ls k).s ≤ depAt ls k * (dlAt ls k).s + ((dlAt ls k).d - depAt ls k) * c := by
        have a := Int.mul_nonneg (show 0 ≤ depAt ls k - min (depAt ls k) (dlAt ls k).d by omega) (show 0 ≤ (dlAt ls k).s - c by omega)
        have b := Int.mul_nonneg (show 0 ≤ (dlAt ls k).d - min (depAt ls k) (dlAt ls k).d by omega) (show 0 ≤ c by omega)
        generalize min (depAt ls k) (dlAt ls k).d = m at *
        have e2 : depAt ls k * (dlAt ls k).s + ((dlAt ls k).d - depAt ls k) * c = m * (dlAt ls k).s + ((depAt ls k - m) * ((dlAt ls k).s - c) + ((dlAt ls k).d - m) * c) := by grind
        omega
      omega
    · omega
  · by_cases hlt : max (depAt ls k) (dlAt ls k).d < dvM ls k c
    · have p1 := Int.mul_lt_mul_of_pos_right hlt (show 0 < (dlAt ls k).s by omega)
      have p2 : depAt ls k * (dlAt ls k).s + ((dlAt ls k).d - depAt ls k) * c ≤ max (depAt ls k) (dlAt ls k).d * (dlAt ls k).s := by
        have a := Int.mul_nonneg (show 0 ≤ max (depAt ls k) (dlAt ls k).d - depAt ls k by omega) (show 0 ≤ (dlAt ls k).s - c by omega)
        have b := Int.mul_nonneg (show 0 ≤ max (depAt ls k) (dlAt ls k).d - (dlAt ls k).d by omega) (show 0 ≤ c by omega)
        generalize max (depAt ls k) (dlAt ls k).d = m at *
        have e2 : depAt ls k * (dlAt ls k).s + ((dlAt ls k).d - depAt ls k) * c = m * (dlAt ls k).s - ((m - depAt ls k) * ((dlAt ls k).s - c) + (m - (dlAt ls k).d) * c) := by grind
        omega
      omega
    · omega
theorem dv_ok (H : okPl sf gs ls) (hk : k < ls.length) (hd : dvP ls k c) (hl : ls.length + 1 ≤ 60) (hb : bothE nm sf gs ls r = 0) : bothE nm sf gs (dvL ls k c) r = 0 := by
  obtain ⟨hn, _, _, hz⟩ := bothE_ok hb
  have hm := (dv_mid H hk hd).2
  obtain ⟨h0, h1, h2⟩ := hd
  have hat := H.at hk
  have ha1 := hat.s; have ha2 := hat.d; have hdep := H.dep (k := k) (by omega)
  have e : ckPl nm sf gs (dvL ls k c) = (0, 0) := by
    have hg0 : ckGs gs = 0 := by
      have h3 := hz
      by_cases h4 : gs.length = 0
      · have := H.gl; omega
      · by_cases h5 : gs.length > 8
        · have := H.gl; omega
        · by_cases h6 : ckGs gs = 0
          · exact h6
          · rw [ckPl_5 hn H.sf h4 h5 h6] at h3; exact absurd h3 h6
    have hgl := H.gl
    rw [ckPl_7 hn H.sf (by omega) (by omega) hg0 (by rw [dvL_len hk]; omega)]
    refine ckLegs_zero (ls := dvL ls k c) (n := (gs.length : Int)) (dvL ls k c).length 0 (by omega) (fun j _ hj => ?_)
    rw [dvL_len hk] at hj
    rcases Nat.lt_trichotomy j k with h | h | h
    · rw [dv_lo hk h, dv_sec_lo hk (j + 1) (by omega)]
      exact ⟨H.at (by omega), (H.e (j + 1) (by omega)).2⟩
    · subst h
      rw [dv_a hk, secAt_succ, dv_sec_lo hk j (Nat.le_refl _), dv_a hk]
      have := H.e (j + 1) (by omega)
      rw [secAt_succ] at this
      refine ⟨⟨?_, ?_, hat.g⟩, ?_⟩
      · show 1 ≤ c ∧ c ≤ 1000000; omega
      · show 0 ≤ dvM ls j c ∧ dvM ls j c ≤ 30000; omega
      · show secAt ls j + c ≤ 1000000; omega
    · rcases Nat.lt_or_eq_of_le (show k + 1 ≤ j by omega) with h5 | h5
      · obtain ⟨q, rfl⟩ : ∃ q, j = k + 2 + q := ⟨j - k - 2, by omega⟩
        rw [dv_hi hk (by omega), show k + 2 + q + 1 = k + 2 + (q + 1) by omega, dv_sec_hi hk (q + 1)]
        exact ⟨H.at (by omega), (H.e _ (by omega)).2⟩
      · subst h5
        have e2 := dv_sec_hi (c := c) hk 0
        rw [dv_b hk, show k + 1 + 1 = k + 2 + 0 by omega, e2]
        refine ⟨⟨?_, ?_, hat.g⟩, (H.e _ (by omega)).2⟩
        · show 1 ≤ (dlAt ls k).s - c ∧ (dlAt ls k).s - c ≤ 1000000; omega
        · show 0 ≤ (dlAt ls k).d ∧ (dlAt ls k).d ≤ 30000; omega
  rw [bothE_2 (by rw [e]), both_ru hb]
/-! ### Costs -/
theorem cut_add (hT : okTb tb) {lo m hi : Int} (h1 : lo ≤ m) (h2 : m ≤ hi) (hk : i < tb.length) :
    max 0 (cutHi tb m i - max lo (1000 * (owAt tb i).f)) + max 0 (cutHi tb hi i - max m (1000 * (owAt tb i).f)) = max 0 (cutHi tb hi i - max lo (1000 * (owAt tb i).f)) := by
  unfold cutHi
  by_cases hc : i + 1 < tb.length
  · have := hT.o i hc
    rw [if_pos hc, if_pos hc]
    omega
  · rw [if_neg hc, if_neg hc]
    omega
theorem sumK_add (hT : okTb tb) {lo m hi : Int} (h1 : lo ≤ m) (h2 : m ≤ hi) : ∀ k, k ≤ tb.length → sumK tb lo m k + sumK tb m hi k = sumK tb lo hi k
  | 0, _ => rfl
  | k + 1, hk => by
    have ih := sumK_add hT h1 h2 k (by omega)
    have hc := cut_add hT h1 h2 (i := k) (by omega)
    unfold sumK
    rw [← ih, ← hc, Int.mul_add]
    omega
theorem clk_scale {s S d D w : Int} (hd : 1 ≤ d) (hs : 1 ≤ s) (hS : 1 ≤ S) (e : s * D = S * d) (hD : 1 ≤ D) : upZ (s * w) d = upZ (S * w) D := by
  have e1 : upZ (s * w * D) (d * D) = upZ (s * w) d := upZ_mul hd hD
  have e2 : upZ (S * w * d) (D * d) = upZ (S * w) D := upZ_mul hD hd
  rw [← e1, ← e2, Int.mul_comm D d]
  have : s * w * D = S * w * d := by
    have h1 : s * w * D = w * (s * D) := by grind
    have h2 : S * w * d = w * (S * d) := by grind
    rw [h1, h2, e]
  rw [this]
def clkN (tb : List Ow) (o f t S : Int) : Int := if o * min f t = o * max f t then S * rateM tb (o * min f t) else upZ (S * sumK tb (o * min f t) (o * max f t) tb.length) (o * max f t - o * min f t)
theorem clkN_same {tb : List Ow} {o f S : Int} : clkN tb o f f S = S * rateM tb (o * f) := by
  unfold clkN
  rw [show min f f = f by omega, show max f f = f by omega, if_pos rfl]
theorem clkN_zero {tb : List Ow} {f t S : Int} : clkN tb 0 f t S = S * rateM tb 0 := by
  unfold clkN
  rw [Int.zero_mul, Int.zero_mul, if_pos rfl]
theorem clkN_up {tb : List Ow} {o f t S : Int} (ho : 1 ≤ o) (h : f < t) : clkN tb o f t S = upZ (S * sumK tb (o * f) (o * t) tb.length) (o * t - o * f) ∧ clkN tb o t f S = upZ (S * sumK tb (o * f) (o * t) tb.length) (o * t - o * f) := by
  have h1 := Int.mul_lt_mul_of_pos_left h (show 0 < o by omega)
  unfold clkN
  rw [show min f t = f by omega, show max f t = t by omega, show min t f = f by omega, show max t f = t by omega, if_neg (by omega)]
  exact ⟨rfl, rfl⟩
theorem clk_split1 (hT : okTb tb) {o f t m S c1 : Int} (ho : 1 ≤ o) (h : f < t) (hc : 0 < c1 ∧ c1 < S) (e : m * S = f * S + (t - f) * c1) :
    upZ (S * sumK tb (o * f) (o * t) tb.length) (o * t - o * f) ≤ upZ (c1 * sumK tb (o * f) (o * m) tb.length) (o * m - o * f) + upZ ((S - c1) * sumK tb (o * m) (o * t) tb.length) (o * t - o * m) ∧
    upZ (c1 * sumK tb (o * f) (o * m) tb.length) (o * m - o * f) + upZ ((S - c1) * sumK tb (o * m) (o * t) tb.length) (o * t - o * m) ≤ upZ (S * sumK tb (o * f) (o * t) tb.length) (o * t - o * f) + 1 ∧ f < m ∧ m < t := by
  have p1 := Int.mul_pos (show 0 < t - f by omega) hc.1
  have p2 := Int.mul_pos (show 0 < t - f by omega) (show 0 < S - c1 by omega)
  have e2 : (m - f) * S = (t - f) * c1 := by rw [Int.sub_mul]; omega
  have e3 : (t - m) * S = (t - f) * (S - c1) := by
    have : (t - m) * S = (t - f) * S - (m - f) * S := by grind
    rw [this, e2]; grind
  have m1 : f < m := by
    by_cases hh : f < m
    · exact hh
    · have := Int.mul_nonneg (show 0 ≤ f - m by omega) (show 0 ≤ S by omega)
      have e4 : (f - m) * S = -((m - f) * S) := by grind
      omega
  have m2 : m < t := by
    by_cases hh : m < t
    · exact hh
    · have := Int.mul_nonneg (show 0 ≤ m - t by omega) (show 0 ≤ S by omega)
      have e4 : (m - t) * S = -((t - m) * S) := by grind
      omega
  have q1 := Int.mul_le_mul_of_nonneg_left (show f + 1 ≤ m by omega) (show 0 ≤ o by omega)
  have q2 := Int.mul_le_mul_of_nonneg_left (show m + 1 ≤ t by omega) (show 0 ≤ o by omega)
  rw [Int.mul_add] at q1 q2
  have s1 : upZ (c1 * sumK tb (o * f) (o * m) tb.length) (o * m - o * f) = upZ (S * sumK tb (o * f) (o * m) tb.length) (o * t - o * f) :=
    clk_scale (by omega) (by omega) (by omega) (by
      have a : c1 * (o * t - o * f) = o * ((t - f) * c1) := by grind
      have b : S * (o * m - o * f) = o * ((m - f) * S) := by grind
      rw [a, b, e2]) (by omega)
  have s2 : upZ ((S - c1) * sumK tb (o * m) (o * t) tb.length) (o * t - o * m) = upZ (S * sumK tb (o * m) (o * t) tb.length) (o * t - o * f) :=
    clk_scale (by omega) (by omega) (by omega) (by
      have a : (S - c1) * (o * t - o * f) = o * ((t - f) * (S - c1)) := by grind
      have b : S * (o * t - o * m) = o * ((t - m) * S) := by grind
      rw [a, b, e3]) (by omega)
  rw [s1, s2, ← sumK_add hT (lo := o * f) (m := o * m) (hi := o * t) (by omega) (by omega) tb.length (Nat.le_refl _), Int.mul_add]
  have := upZ_add (a := S * sumK tb (o * f) (o * m) tb.length) (b := S * sumK tb (o * m) (o * t) tb.length) (c := o * t - o * f) (by omega)
  exact ⟨this.1, this.2, m1, m2⟩
theorem clk_split (hT : okTb tb) {o f t m S c1 : Int} (ho : 0 ≤ o) (hc : 0 < c1 ∧ c1 < S) (e : m * S = f * S + (t - f) * c1) :
    clkN tb o f t S ≤ clkN tb o f m c1 + clkN tb o m t (S - c1) ∧ clkN tb o f m c1 + clkN tb o m t (S - c1) ≤ clkN tb o f t S + 1 := by
  have ring : ∀ R : Int, c1 * R + (S - c1) * R = S * R := fun R => by grind
  by_cases h0 : o = 0
  · subst h0
    rw [clkN_zero, clkN_zero, clkN_zero, ring]
    omega
  · rcases Int.lt_trichotomy f t with h | h | h
    · obtain ⟨a, b, m1, m2⟩ := clk_split1 hT (show 1 ≤ o by omega) h hc e
      rw [(clkN_up (by omega) h).1, (clkN_up (by omega) m1).1, (clkN_up (by omega) m2).1]
      exact ⟨a, b⟩
    · subst h
      have hm : m = f := by
        have e2 : (m - f) * S = 0 := by rw [Int.sub_mul]; rw [Int.sub_self, Int.zero_mul] at e; omega
        rcases Int.mul_eq_zero.1 e2 with h9 | h9 <;> omega
      subst hm
      rw [clkN_same, clkN_same, clkN_same, ring]
      omega
    · have e2 : m * S = t * S + (f - t) * (S - c1) := by
        have : t * S + (f - t) * (S - c1) = f * S + (t - f) * c1 := by grind
        rw [this]; exact e
      obtain ⟨a, b, m1, m2⟩ := clk_split1 hT (show 1 ≤ o by omega) h (show 0 < S - c1 ∧ S - c1 < S by omega) e2
      rw [show S - (S - c1) = c1 by omega] at a b
      rw [(clkN_up (by omega) h).2, (clkN_up (by omega) m2).2, (clkN_up (by omega) m1).2]
      omega
theorem br_split {b f t m S c1 : Int} (e : m * S = f * S + (t - f) * c1) :
    upZ (b * (f + t) * S) 120000 ≤ upZ (b * (f + m) * c1) 120000 + upZ (b * (m + t) * (S - c1)) 120000 ∧ upZ (b * (f + m) * c1) 120000 + upZ (b * (m + t) * (S - c1)) 120000 ≤ upZ (b * (f + t) * S) 120000 + 1 := by
  have e2 : b * (f + t) * S = b * (f + m) * c1 + b * (m + t) * (S - c1) := by
    have a : b * (f + m) * c1 + b * (m + t) * (S - c1) = b * (m * S + f * c1 + t * S - t * c1) := by grind
    rw [a, e]
    grind
  rw [e2]
  exact upZ_add (by omega)
/-! ### The legs of the divided plan -/
theorem dv_dep (hk : k < ls.length) : depAt (dvL ls k c) k = depAt ls k ∧ depAt (dvL ls k c) (k + 1) = dvM ls k c := by
  refine ⟨?_, by show (dlAt (dvL ls k c) k).d = _; rw [dv_a hk]; rfl⟩
  cases k with
  | zero => rfl
  | succ k => show (dlAt (dvL ls (k + 1) c) k).d = (dlAt ls k).d; rw [dv_lo hk (by omega)]
theorem dv_leg (hk : k < ls.length) : legAt sf gs (dvL ls k c) k = ⟨dvA ls k c, secAt ls k, sf + depAt ls k, sf + dvM ls k c, sf, gasAt gs (dlAt ls k).g⟩ ∧
    legAt sf gs (dvL ls k c) (k + 1) = ⟨dvB ls k c, secAt ls k + c, sf + dvM ls k c, sf + (dlAt ls k).d, sf, gasAt gs (dlAt ls k).g⟩ := by
  have h1 := dv_dep (c := c) hk
  refine ⟨?_, ?_⟩
  · unfold legAt
    rw [dv_a hk, h1.1, dv_sec_lo hk k (Nat.le_refl _)]
    rfl
  · unfold legAt
    rw [dv_b hk, h1.2, secAt_succ, dv_sec_lo hk k (Nat.le_refl _), dv_a hk]
    rfl
theorem dv_clk (H : okPl sf gs ls) (hT : okTb tb) (hk : k < ls.length) (hd : dvP ls k c) : clkM tb (legAt sf gs ls k) ≤ clkM tb (legAt sf gs (dvL ls k c) k) + clkM tb (legAt sf gs (dvL ls k c) (k + 1)) ∧
    clkM tb (legAt sf gs (dvL ls k c) k) + clkM tb (legAt sf gs (dvL ls k c) (k + 1)) ≤ clkM tb (legAt sf gs ls k) + 1 := by
  have hm := (dv_mid H hk hd).1
  have hg := ckGas_ok (H.gas_ok hk)
  rw [(dv_leg hk).1, (dv_leg hk).2]
  have e : (sf + dvM ls k c) * (dlAt ls k).s = (sf + depAt ls k) * (dlAt ls k).s + ((sf + (dlAt ls k).d) - (sf + depAt ls k)) * c := by
    rw [Int.add_mul, Int.add_mul, hm, show sf + (dlAt ls k).d - (sf + depAt ls k) = (dlAt ls k).d - depAt ls k by omega]
    omega
  exact clk_split (S := (dlAt ls k).s) hT hg.1 ⟨hd.1, hd.2.1⟩ e
theorem dv_br (H : okPl sf gs ls) (hk : k < ls.length) (hd : dvP ls k c) (b : Int) : brM b (dlAt ls k).s (legAt sf gs ls k) ≤ brM b (dlAt (dvL ls k c) k).s (legAt sf gs (dvL ls k c) k) + brM b (dlAt (dvL ls k c) (k + 1)).s (legAt sf gs (dvL ls k c) (k + 1)) ∧
    brM b (dlAt (dvL ls k c) k).s (legAt sf gs (dvL ls k c) k) + brM b (dlAt (dvL ls k c) (k + 1)).s (legAt sf gs (dvL ls k c) (k + 1)) ≤ brM b (dlAt ls k).s (legAt sf gs ls k) + 1 := by
  have hm := (dv_mid H hk hd).1
  rw [(dv_leg hk).1, (dv_leg hk).2, dv_a hk, dv_b hk]
  have e : (sf + dvM ls k c) * (dlAt ls k).s = (sf + depAt ls k) * (dlAt ls k).s + ((sf + (dlAt ls k).d) - (sf + depAt ls k)) * c := by
    rw [Int.add_mul, Int.add_mul, hm, show sf + (dlAt ls k).d - (sf + depAt ls k) = (dlAt ls k).d - depAt ls k by omega]
    omega
  have f : ∀ (S : Int) (x : Le), S = x.x.s → brM b S x = upZ (b * (x.f + x.t) * S) 120000 := fun S x h => by unfold brM; exact if_pos h
  rw [f (dlAt ls k).s (legAt sf gs ls k) rfl, f (dvA ls k c).s _ rfl, f (dvB ls k c).s _ rfl]
  exact br_split e
theorem dv_mv (H : okPl sf gs ls) (hk : k < ls.length) (hc : 0 ≤ c ∧ c ≤ 1000000) : -30000000000 ≤ ((dlAt ls k).d - depAt ls k) * c ∧ ((dlAt ls k).d - depAt ls k) * c ≤ 30000000000 := by
  have h1 := (H.at hk).d; have h2 := H.dep (k := k) (by omega)
  have p : -30000 ≤ (dlAt ls k).d - depAt ls k ∧ (dlAt ls k).d - depAt ls k ≤ 30000 := by omega
  generalize (dlAt ls k).d - depAt ls k = m at *
  have x := Int.mul_nonneg (show 0 ≤ m + 30000 by omega) hc.1
  have y := Int.mul_nonneg (show 0 ≤ 30000 - m by omega) hc.1
  rw [Int.add_mul] at x
  rw [Int.sub_mul] at y
  omega
end
end Go.Proofs.Ytolnohjbpllmhaa
namespace Go.Proofs.Ytolnohjbpllmhaa
theorem upZ_cross {a b c d : Int} (hb : 1 ≤ b) (hd : 1 ≤ d) (e : a * d = c * b) : upZ a b = upZ c d := by
  have e1 : upZ (a * d) (b * d) = upZ a b := upZ_mul hb hd
  have e2 : upZ (c * b) (d * b) = upZ c d := upZ_mul hd hb
  rw [← e1, ← e2, e, Int.mul_comm b d]
theorem upZ_one (a : Int) : upZ a 1 = a := by unfold upZ; omega
theorem up_whole {n b : Int} (hb : 1 ≤ b) (h : n / b = upZ n b) : n / b * b = n := by
  by_cases hc : n / b * b = n
  · exact hc
  · have := up_ne hb hc
    omega
section
variable {nm : ByteArray} {sf : Int} {r : Ru} {gs : List Gs} {ls : List Dl} {σ : Nat}
/-- the depth at a second, as a quotient -/
def atR (ls : List Dl) (σ : Nat) : Int × Int :=
  if σ = 0 then (0, 1) else if (σ : Int) = secAt ls (kAt ls σ + 1) then (depAt ls (kAt ls σ + 1), 1) else (depAt ls (kAt ls σ) * (secAt ls (kAt ls σ + 1) - σ) + depAt ls (kAt ls σ + 1) * (σ - secAt ls (kAt ls σ)), secAt ls (kAt ls σ + 1) - secAt ls (kAt ls σ))
theorem atR_1 (h : σ = 0) : atR ls σ = (0, 1) := if_pos h
theorem atR_2 (h : ¬ σ = 0) (h2 : (σ : Int) = secAt ls (kAt ls σ + 1)) : atR ls σ = (depAt ls (kAt ls σ + 1), 1) := by unfold atR; rw [if_neg h, if_pos h2]
theorem atR_3 (h : ¬ σ = 0) (h2 : ¬ (σ : Int) = secAt ls (kAt ls σ + 1)) : atR ls σ = (depAt ls (kAt ls σ) * (secAt ls (kAt ls σ + 1) - σ) + depAt ls (kAt ls σ + 1) * (σ - secAt ls (kAt ls σ)), secAt ls (kAt ls σ + 1) - secAt ls (kAt ls σ)) := by unfold atR; rw [if_neg h, if_neg h2]
def dpL (ls : List Dl) (σ : Nat) : Int := atN ls (kAt ls σ) σ / (dlAt ls (kAt ls σ)).s
def dpH (ls : List Dl) (σ : Nat) : Int := upZ (atN ls (kAt ls σ) σ) (dlAt ls (kAt ls σ)).s
theorem dpH_m (H : okPl sf gs ls) (h : 0 < ls.length) (h1 : (σ : Int) ≤ secAt ls ls.length) : dpH ls σ = dpM (legAt sf gs ls (kAt ls σ)) ((σ : Int) - secAt ls (kAt ls σ)) := by
  have e := dp_at (c := (σ : Int)) H (kAt_in H h h1).1
  rw [secAt_succ] at e
  unfold dpH
  rw [← e]
  congr 1
  omega
theorem atR_spec (H : okPl sf gs ls) (h : 0 < ls.length) (h1 : (σ : Int) ≤ secAt ls ls.length) : (1 ≤ (atR ls σ).2 ∧ (atR ls σ).2 ≤ 1000000) ∧ (0 ≤ (atR ls σ).1 ∧ (atR ls σ).1 ≤ 30000000000) ∧ (atR ls σ).1 / (atR ls σ).2 = dpL ls σ ∧ upZ (atR ls σ).1 (atR ls σ).2 = dpH ls σ := by
  obtain ⟨a1, a2, a3⟩ := kAt_in H h h1
  have hs := (H.at a1).s
  have hd := H.dep (k := kAt ls σ + 1) (by omega)
  have he := secAt_succ ls (kAt ls σ)
  unfold dpL dpH
  by_cases c1 : σ = 0
  · rw [atR_1 c1]
    subst c1
    have hk : kAt ls 0 = 0 := kAt_eq H h (.inr rfl) (by have := (H.e 1 (by omega)).1; show (0 : Int) ≤ _; omega)
    have e0 : atN ls (kAt ls 0) ((0 : Nat) : Int) = 0 := by
      rw [hk]
      unfold atN
      show 0 * _ + _ * ((0 : Int) - 0) = 0
      omega
    rw [e0]
    dsimp only
    rw [upZ_one, Int.zero_ediv, Int.zero_ediv]
    refine ⟨by omega, by omega, rfl, ?_⟩
    unfold upZ
    exact (Int.ediv_eq_zero_of_lt (by omega) (by omega)).symm
  · have hlo : secAt ls (kAt ls σ) ≤ (σ : Int) := by
      rcases a3 with h9 | h9
      · omega
      · rw [h9]; show (0 : Int) ≤ _; omega
    obtain ⟨b1, b2, b3⟩ := atN_in H a1 hlo a2
    by_cases c2 : (σ : Int) = secAt ls (kAt ls σ + 1)
    · rw [atR_2 c1 c2]
      have e0 : atN ls (kAt ls σ) (σ : Int) = depAt ls (kAt ls σ + 1) * (dlAt ls (kAt ls σ)).s := by
        unfold atN
        rw [c2, he]
        grind
      rw [e0]
      dsimp only
      rw [Int.mul_ediv_cancel _ (by omega), upZ_one]
      refine ⟨by omega, by omega, by rw [Int.ediv_one], ?_⟩
      exact (upZ_one _).symm.trans (upZ_cross (by omega) (by omega) (by omega))
    · rw [atR_3 c1 c2]
      have e0 : depAt ls (kAt ls σ) * (secAt ls (kAt ls σ + 1) - σ) + depAt ls (kAt ls σ + 1) * (σ - secAt ls (kAt ls σ)) = atN ls (kAt ls σ) (σ : Int) := by
        unfold atN
        grind
      dsimp only
      rw [e0, show secAt ls (kAt ls σ + 1) - secAt ls (kAt ls σ) = (dlAt ls (kAt ls σ)).s by omega]
      rw [show secAt ls (kAt ls σ + 1) - secAt ls (kAt ls σ) = (dlAt ls (kAt ls σ)).s by omega] at b3
      exact ⟨hs, by omega, rfl, rfl⟩
/-! ### The plan up to a second -/
def bfL (ls : List Dl) (σ : Nat) : List Dl := if σ = 0 then [] else ls.take (kAt ls σ) ++ [⟨(σ : Int) - secAt ls (kAt ls σ), dpL ls σ, (dlAt ls (kAt ls σ)).g⟩]
theorem bfL_0 (h : σ = 0) : bfL ls σ = [] := if_pos h
theorem bfL_1 (h : ¬ σ = 0) : bfL ls σ = ls.take (kAt ls σ) ++ [⟨(σ : Int) - secAt ls (kAt ls σ), dpL ls σ, (dlAt ls (kAt ls σ)).g⟩] := if_neg h
section
variable {k : Nat} {x : Dl} {i : Nat}
def ctL (ls : List Dl) (k : Nat) (x : Dl) : List Dl := ls.take k ++ [x]
theorem ctL_len (hk : k < ls.length) : (ctL ls k x).length = k + 1 := by
  unfold ctL
  simp only [List.length_append, List.length_take, List.length_cons, List.length_nil]
  omega
theorem ct_lo (hk : k < ls.length) (hi : i < k) : dlAt (ctL ls k x) i = dlAt ls i := by
  unfold dlAt ctL
  rw [List.getElem?_append_left (by rw [List.length_take]; omega), List.getElem?_take_of_lt hi]
theorem ct_at (hk : k < ls.length) : dlAt (ctL ls k x) k = x := by
  have e : (ls.take k).length = k := by rw [List.length_take]; omega
  unfold dlAt ctL
  rw [List.getElem?_append_right (by omega), e, Nat.sub_self]
  rfl
theorem ct_sec (hk : k < ls.length) : ∀ i, i ≤ k → secAt (ctL ls k x) i = secAt ls i
  | 0, _ => rfl
  | i + 1, h => by rw [secAt_succ, secAt_succ, ct_sec hk i (by omega), ct_lo hk (by omega)]
theorem ct_dep (hk : k < ls.length) : ∀ i, i ≤ k → depAt (ctL ls k x) i = depAt ls i
  | 0, _ => rfl
  | i + 1, h => by show (dlAt (ctL ls k x) i).d = (dlAt ls i).d; rw [ct_lo hk (by omega)]
theorem ct_ok (H : okPl sf gs ls) (hk : k < ls.length) (h1 : 1 ≤ x.s ∧ x.s ≤ (dlAt ls k).s) (h2 : 0 ≤ x.d ∧ x.d ≤ 30000) (h3 : x.g = (dlAt ls k).g) (hb : bothE nm sf gs ls r = 0) : bothE nm sf gs (ctL ls k x) r = 0 := by
  obtain ⟨hn, _, _, hz⟩ := bothE_ok hb
  have hat := H.at hk
  have ha1 := hat.s; have hll := H.ll
  have e : ckPl nm sf gs (ctL ls k x) = (0, 0) := by
    have hg0 : ckGs gs = 0 := by
      have h3 := hz
      by_cases h4 : gs.length = 0
      · have := H.gl; omega
      · by_cases h5 : gs.length > 8
        · have := H.gl; omega
        · by_cases h6 : ckGs gs = 0
          · exact h6
          · rw [ckPl_5 hn H.sf h4 h5 h6] at h3; exact absurd h3 h6
    have hgl := H.gl
    rw [ckPl_7 hn H.sf (by omega) (by omega) hg0 (by rw [ctL_len hk]; omega)]
    refine ckLegs_zero (ls := ctL ls k x) (n := (gs.length : Int)) (ctL ls k x).length 0 (by omega) (fun j _ hj => ?_)
    rw [ctL_len hk] at hj
    rcases Nat.lt_or_eq_of_le (show j ≤ k by omega) with h | h
    · rw [ct_lo hk h, ct_sec hk (j + 1) (by omega)]
      exact ⟨H.at (by omega), (H.e (j + 1) (by omega)).2⟩
    · subst h
      rw [ct_at hk, secAt_succ, ct_sec hk j (Nat.le_refl _), ct_at hk]
      have := H.e (j + 1) (by omega)
      rw [secAt_succ] at this
      refine ⟨⟨by omega, h2, ?_⟩, by omega⟩
      rw [h3]
      exact hat.g
  rw [bothE_2 (by rw [e]), both_ru hb]
theorem consK_cong2 {n : Nat} {l1 l2 : List Dl} {a1 a2 : Nat → Int} : ∀ k, (∀ i, i < k → (dlAt l1 i).g = (dlAt l2 i).g ∧ a1 i = a2 i) → consK n l1 a1 k = consK n l2 a2 k
  | 0, _ => rfl
  | k + 1, h => by
    show addAt (consK n l1 a1 k) (dlAt l1 k).g.toNat (a1 k) = addAt (consK n l2 a2 k) (dlAt l2 k).g.toNat (a2 k)
    rw [consK_cong2 k (fun i hi => h i (by omega)), (h k (by omega)).1, (h k (by omega)).2]
theorem ct_leg (hk : k < ls.length) (hi : i < k) : legAt sf gs (ctL ls k x) i = legAt sf gs ls i := by
  unfold legAt
  rw [ct_lo hk hi, ct_dep hk i (by omega), ct_sec hk i (by omega)]
theorem ct_used (hk : k < ls.length) (hg : x.g = (dlAt ls k).g) {b : Int} (hi : i ≤ k) : usedAt sf gs (ctL ls k x) b i = usedAt sf gs ls b i := by
  have e1 : (dlAt (ctL ls k x) i).g = (dlAt ls i).g := by
    rcases Nat.lt_or_eq_of_le hi with h | rfl
    · rw [ct_lo hk h]
    · rw [ct_at hk]; exact hg
  have e2 : consK gs.length (ctL ls k x) (amtS sf gs (ctL ls k x) b) i = consK gs.length ls (amtS sf gs ls b) i := consK_cong2 i (fun j hj => by
    refine ⟨by rw [ct_lo hk (by omega)], ?_⟩
    unfold amtS
    rw [ct_leg hk (by omega), ct_lo hk (by omega)])
  unfold usedAt
  rw [e1, e2]
end
theorem br_cut {b s f t m S c : Int} (hS : 1 ≤ S) (hc : 1 ≤ c) (e : (m - f) * S = (t - f) * c) :
    upZ (b * s * (2 * f * c + (m - f) * s)) (120000 * c) = upZ (b * s * (2 * f * S + (t - f) * s)) (120000 * S) := by
  refine upZ_cross (by omega) (by omega) ?_
  have e1 : b * s * (2 * f * c + (m - f) * s) * (120000 * S) = 120000 * (b * s) * (2 * f * c * S + (m - f) * S * s) := by grind
  have e2 : b * s * (2 * f * S + (t - f) * s) * (120000 * c) = 120000 * (b * s) * (2 * f * c * S + (t - f) * c * s) := by grind
  rw [e1, e2, e]
theorem dp_cut {s f t m S c : Int} (hS : 1 ≤ S) (hc : 1 ≤ c) (e : (m - f) * S = (t - f) * c) :
    upZ (f * (c - s) + m * s) c = upZ (f * (S - s) + t * s) S := by
  refine upZ_cross hc hS ?_
  have e1 : (f * (c - s) + m * s) * S = f * c * S + (m - f) * S * s := by grind
  have e2 : (f * (S - s) + t * s) * c = f * c * S + (t - f) * c * s := by grind
  rw [e1, e2, e]
end
section
variable {nm : ByteArray} {sf : Int} {r : Ru} {gs : List Gs} {ls : List Dl} {σ : Nat}
/-- the plan that ends at a second with a whole depth -/
theorem bf_facts (H : okPl sf gs ls) (h : 0 < ls.length) (h1 : (σ : Int) ≤ secAt ls ls.length) (h0 : ¬ σ = 0) (hw : dpL ls σ = dpH ls σ) :
    kAt ls σ < ls.length ∧ (1 ≤ (σ : Int) - secAt ls (kAt ls σ) ∧ (σ : Int) - secAt ls (kAt ls σ) ≤ (dlAt ls (kAt ls σ)).s) ∧ (0 ≤ dpL ls σ ∧ dpL ls σ ≤ 30000) ∧ (dpL ls σ - depAt ls (kAt ls σ)) * (dlAt ls (kAt ls σ)).s = ((dlAt ls (kAt ls σ)).d - depAt ls (kAt ls σ)) * ((σ : Int) - secAt ls (kAt ls σ)) := by
  obtain ⟨a1, a2, a3⟩ := kAt_in H h h1
  have hs := (H.at a1).s
  have he := secAt_succ ls (kAt ls σ)
  have hlo : secAt ls (kAt ls σ) < (σ : Int) := by
    rcases a3 with h9 | h9
    · exact h9
    · rw [h9]; show (0 : Int) < _; omega
  refine ⟨a1, by omega, ?_, ?_⟩
  · rw [hw, dpH_m H h h1]
    exact dpM_in (H.le a1) (by show 0 ≤ (σ : Int) - secAt ls (kAt ls σ) ∧ (σ : Int) - secAt ls (kAt ls σ) ≤ (dlAt ls (kAt ls σ)).s; omega)
  · have hw2 : dpL ls σ * (dlAt ls (kAt ls σ)).s = atN ls (kAt ls σ) σ := up_whole (by omega) hw
    rw [Int.sub_mul, hw2]
    unfold atN
    rw [he]
    show depAt ls (kAt ls σ) * (secAt ls (kAt ls σ) + (dlAt ls (kAt ls σ)).s - secAt ls (kAt ls σ)) + ((dlAt ls (kAt ls σ)).d - depAt ls (kAt ls σ)) * ((σ : Int) - secAt ls (kAt ls σ)) - _ = _
    grind
theorem bf_ok (H : okPl sf gs ls) (h : 0 < ls.length) (h1 : (σ : Int) ≤ secAt ls ls.length) (hw : dpL ls σ = dpH ls σ) (hb : bothE nm sf gs ls r = 0) : bothE nm sf gs (bfL ls σ) r = 0 := by
  by_cases h0 : σ = 0
  · rw [bfL_0 h0]
    obtain ⟨hn, _, _, hz⟩ := bothE_ok hb
    have hg0 : ckGs gs = 0 := by
      have h3 := hz
      by_cases h4 : gs.length = 0
      · have := H.gl; omega
      · by_cases h5 : gs.length > 8
        · have := H.gl; omega
        · by_cases h6 : ckGs gs = 0
          · exact h6
          · rw [ckPl_5 hn H.sf h4 h5 h6] at h3; exact absurd h3 h6
    have hgl := H.gl
    have e : ckPl nm sf gs [] = (0, 0) := by
      rw [ckPl_7 hn H.sf (by omega) (by omega) hg0 (by simp)]
      exact ckLegs_zero (ls := []) (n := (gs.length : Int)) 0 0 rfl (fun j _ hj => absurd hj (Nat.not_lt_zero _))
    rw [bothE_2 (by rw [e]), both_ru hb]
  · obtain ⟨a1, a2, a3, _⟩ := bf_facts H h h1 h0 hw
    rw [bfL_1 h0]
    exact ct_ok H a1 a2 a3 rfl hb
theorem bf_sec (H : okPl sf gs ls) (h : 0 < ls.length) (h1 : (σ : Int) ≤ secAt ls ls.length) : secAt (bfL ls σ) (bfL ls σ).length = σ := by
  by_cases h0 : σ = 0
  · rw [bfL_0 h0, h0]; rfl
  · obtain ⟨a1, _, _⟩ := kAt_in H h h1
    rw [bfL_1 h0]
    have e := ctL_len (x := ⟨(σ : Int) - secAt ls (kAt ls σ), dpL ls σ, (dlAt ls (kAt ls σ)).g⟩) a1
    show secAt (ctL ls (kAt ls σ) _) (ctL ls (kAt ls σ) _).length = _
    rw [e, secAt_succ, ct_sec a1 _ (Nat.le_refl _), ct_at a1]
    show _ + ((σ : Int) - secAt ls (kAt ls σ)) = _
    omega
theorem bf_at (H : okPl sf gs ls) (h : 0 < ls.length) (h1 : (σ : Int) ≤ secAt ls ls.length) (h0 : ¬ σ = 0) (hw : dpL ls σ = dpH ls σ) (hb : bothE nm sf gs ls r = 0) {τ : Nat} (ht : τ ≤ σ) :
    gN (bfL ls σ) τ = gN ls τ ∧ aN r sf gs (bfL ls σ) τ = aN r sf gs ls τ := by
  obtain ⟨a1, a2, a3, a4⟩ := bf_facts H h h1 h0 hw
  have H2 := (bothE_ok (bf_ok H h h1 hw hb)).2.1
  have hs2 := bf_sec H h h1
  rw [bfL_1 h0] at H2 hs2 ⊢
  generalize hx : (⟨(σ : Int) - secAt ls (kAt ls σ), dpL ls σ, (dlAt ls (kAt ls σ)).g⟩ : Dl) = x at *
  change okPl sf gs (ctL ls (kAt ls σ) x) at H2
  change secAt (ctL ls (kAt ls σ) x) (ctL ls (kAt ls σ) x).length = σ at hs2
  show gN (ctL ls (kAt ls σ) x) τ = gN ls τ ∧ aN r sf gs (ctL ls (kAt ls σ) x) τ = aN r sf gs ls τ
  have hlen := ctL_len (x := x) a1
  obtain ⟨b1, b2, b3⟩ := kAt_in H2 (σ := τ) (by omega) (by rw [hs2]; omega)
  generalize hj : kAt (ctL ls (kAt ls σ) x) τ = j at *
  rw [hlen] at b1
  have hxs : x.s = (σ : Int) - secAt ls (kAt ls σ) := by rw [← hx]
  have hxg : x.g = (dlAt ls (kAt ls σ)).g := by rw [← hx]
  have hxd : x.d = dpL ls σ := by rw [← hx]
  have hkj : kAt ls τ = j := by
    refine kAt_eq H (by omega) ?_ ?_
    · rcases b3 with h9 | h9
      · rw [ct_sec a1 _ (by omega)] at h9; exact .inl h9
      · exact .inr h9
    · rcases Nat.lt_or_eq_of_le (show j ≤ kAt ls σ by omega) with h9 | h9
      · rw [ct_sec a1 _ (by omega)] at b2; exact b2
      · rw [h9]
        have := (kAt_in H h h1).2.1
        omega
  have hgj : (dlAt (ctL ls (kAt ls σ) x) j).g = (dlAt ls j).g := by
    rcases Nat.lt_or_eq_of_le (show j ≤ kAt ls σ by omega) with h9 | h9
    · rw [ct_lo a1 h9]
    · rw [h9, ct_at a1]; exact hxg
  refine ⟨by unfold gN; rw [hj, hkj, hgj], ?_⟩
  unfold aN
  rw [hj, hkj, ct_sec a1 j (by omega)]
  unfold needA
  rw [ct_used a1 hxg (by omega)]
  rcases Nat.lt_or_eq_of_le (show j ≤ kAt ls σ by omega) with h9 | h9
  · rw [ct_leg a1 h9]
  · have b4 : secAt ls j ≤ (τ : Int) := by
      rcases b3 with h8 | h8
      · rw [ct_sec a1 _ (by omega)] at h8; omega
      · rw [h8]; show (0 : Int) ≤ _; omega
    rw [h9] at b4 ⊢
    have hsk := (H.at a1).s
    have e : legAt sf gs (ctL ls (kAt ls σ) x) (kAt ls σ) = ⟨x, secAt ls (kAt ls σ), sf + depAt ls (kAt ls σ), sf + dpL ls σ, sf, gasAt gs (dlAt ls (kAt ls σ)).g⟩ := by
      unfold legAt
      rw [ct_at a1, ct_dep a1 _ (Nat.le_refl _), ct_sec a1 _ (Nat.le_refl _), hxg, hxd]
    have e2 : legAt sf gs ls (kAt ls σ) = ⟨dlAt ls (kAt ls σ), secAt ls (kAt ls σ), sf + depAt ls (kAt ls σ), sf + (dlAt ls (kAt ls σ)).d, sf, gasAt gs (dlAt ls (kAt ls σ)).g⟩ := rfl
    have hO2 := H2.le (k := kAt ls σ) (by omega)
    have hO := H.le a1
    have hbr := (bothE_ok hb).2.2.1.br
    rw [← part_br hO2, ← part_br hO, e, e2]
    have a5 : (sf + dpL ls σ - (sf + depAt ls (kAt ls σ))) * (dlAt ls (kAt ls σ)).s = (sf + (dlAt ls (kAt ls σ)).d - (sf + depAt ls (kAt ls σ))) * x.s := by
      rw [hxs, show sf + dpL ls σ - (sf + depAt ls (kAt ls σ)) = dpL ls σ - depAt ls (kAt ls σ) by omega, show sf + (dlAt ls (kAt ls σ)).d - (sf + depAt ls (kAt ls σ)) = (dlAt ls (kAt ls σ)).d - depAt ls (kAt ls σ) by omega]
      exact a4
    have p1 : partM r.br ((τ : Int) - secAt ls (kAt ls σ)) ⟨x, secAt ls (kAt ls σ), sf + depAt ls (kAt ls σ), sf + dpL ls σ, sf, gasAt gs (dlAt ls (kAt ls σ)).g⟩ = partM r.br ((τ : Int) - secAt ls (kAt ls σ)) ⟨dlAt ls (kAt ls σ), secAt ls (kAt ls σ), sf + depAt ls (kAt ls σ), sf + (dlAt ls (kAt ls σ)).d, sf, gasAt gs (dlAt ls (kAt ls σ)).g⟩ :=
      br_cut (S := (dlAt ls (kAt ls σ)).s) (c := x.s) (by omega) (by omega) a5
    have p2 : dpM ⟨x, secAt ls (kAt ls σ), sf + depAt ls (kAt ls σ), sf + dpL ls σ, sf, gasAt gs (dlAt ls (kAt ls σ)).g⟩ ((τ : Int) - secAt ls (kAt ls σ)) = dpM ⟨dlAt ls (kAt ls σ), secAt ls (kAt ls σ), sf + depAt ls (kAt ls σ), sf + (dlAt ls (kAt ls σ)).d, sf, gasAt gs (dlAt ls (kAt ls σ)).g⟩ ((τ : Int) - secAt ls (kAt ls σ)) :=
      dp_cut (f := sf + depAt ls (kAt ls σ) - sf) (m := sf + dpL ls σ - sf) (t := sf + (dlAt ls (kAt ls σ)).d - sf) (S := (dlAt ls (kAt ls σ)).s) (c := x.s) (by omega) (by omega) (by
        rw [show sf + dpL ls σ - sf - (sf + depAt ls (kAt ls σ) - sf) = sf + dpL ls σ - (sf + depAt ls (kAt ls σ)) by omega, show sf + (dlAt ls (kAt ls σ)).d - sf - (sf + depAt ls (kAt ls σ) - sf) = sf + (dlAt ls (kAt ls σ)).d - (sf + depAt ls (kAt ls σ)) by omega]
        exact a5)
    rw [p1, p2]
/-- turning back needs no more -/
theorem bf_res (H : okPl sf gs ls) (HR : okRu r) (hT : secAt ls ls.length ≤ 20000) (h : 0 < ls.length) (h1 : (σ : Int) ≤ secAt ls ls.length) (hw : dpL ls σ = dpH ls σ) (hb : bothE nm sf gs ls r = 0) {g : Nat} {x y : Int × Int} (hx : (resM r sf gs (bfL ls σ))[g]? = some x) (hy : (resM r sf gs ls)[g]? = some y) : x.1 ≤ y.1 := by
  have hb2 := bf_ok H h h1 hw hb
  have H2 := (bothE_ok hb2).2.1
  have hs2 := bf_sec H h h1
  have hn := ent_nn H HR hT hy
  rcases resM_ent H2 hx with ⟨_, e, _⟩ | ⟨s, _, e2, e3, e4, _, _⟩
  · omega
  · have h0 : ¬ σ = 0 := by
      intro h0
      rw [bfL_0 h0] at e2
      exact absurd e2 (Nat.not_lt_zero _)
    have h3 : 0 < (bfL ls σ).length := by
      rw [bfL_1 h0, List.length_append]
      simp
    rw [rnN_pos h3] at e2
    have e5 := secN_eq H2 (Nat.le_refl (bfL ls σ).length)
    rw [hs2] at e5
    have ht : s ≤ σ := by omega
    obtain ⟨p1, p2⟩ := bf_at (r := r) H h h1 h0 hw hb ht
    have e6 := secN_eq H (Nat.le_refl ls.length)
    have h4 : s < rnN ls ls.length := by
      rw [rnN_pos h]
      omega
    rcases resM_ent H hy with ⟨_, _, f⟩ | ⟨_, _, _, _, _, f, _⟩
    · exact absurd (by rw [← p1]; exact e3) (f s h4)
    · have := f s h4 (by rw [← p1]; exact e3)
      rw [← p2, e4] at this
      exact this
/-- what is left of the gas at a second is enough -/
theorem bf_left (H : okPl sf gs ls) (h : 0 < ls.length) (h1 : (σ : Int) ≤ secAt ls ls.length) {y : Int × Int} (hy : (resM r sf gs ls)[(gN ls σ).toNat]? = some y) {u : Int} (hu : (consK gs.length ls (amtT sf gs ls r.br σ) ls.length)[(gN ls σ).toNat]? = some u) :
    escM r sf (dpH ls σ) ≤ y.1 - u := by
  have e := cons_at (b := r.br) H h1 h
  rw [hu] at e
  injection e with e
  have e6 := secN_eq H (Nat.le_refl ls.length)
  have h4 : σ < rnN ls ls.length := by
    rw [rnN_pos h]
    omega
  have ha : aN r sf gs ls σ = u + escM r sf (dpH ls σ) := by
    rw [e, dpH_m H h h1]
    rfl
  rcases resM_ent H hy with ⟨_, _, f⟩ | ⟨_, _, _, _, _, f, _⟩
  · exact absurd rfl (f σ h4)
  · have := f σ h4 rfl
    omega
theorem bf_len (H : okPl sf gs ls) (h : 0 < ls.length) (h1 : (σ : Int) ≤ secAt ls ls.length) : (bfL ls σ).length ≤ ls.length := by
  by_cases h0 : σ = 0
  · rw [bfL_0 h0]; exact Nat.zero_le _
  · obtain ⟨a1, _, _⟩ := kAt_in H h h1
    have e := ctL_len (x := ⟨(σ : Int) - secAt ls (kAt ls σ), dpL ls σ, (dlAt ls (kAt ls σ)).g⟩) a1
    rw [bfL_1 h0]
    show (ctL ls (kAt ls σ) _).length ≤ _
    omega
theorem escM_in2 (HR : okRu r) {d : Int} (hs : 400 ≤ sf ∧ sf ≤ 1100) (hd : 0 ≤ d ∧ d ≤ 30000) : 0 ≤ escM r sf d ∧ escM r sf d ≤ 1000000000000 := by
  have h1 := (esc_fact HR hs hd).2.2.2
  have h2 := HR.ac
  unfold escM upZ
  generalize r.em * ((sf + d) * r.pa * r.ac + (2 * sf + d) * 30 * d) = n at *
  constructor
  · exact Int.ediv_nonneg (by omega) (by omega)
  · have : (n + 60000 * r.ac - 1) / (60000 * r.ac) < 1000000000000 + 1 := Int.ediv_lt_of_lt_mul (by omega) (by omega)
    omega
theorem ent_up (H : okPl sf gs ls) (HR : okRu r) (hT : secAt ls ls.length ≤ 20000) {g : Nat} {x : Int × Int} (hx : (resM r sf gs ls)[g]? = some x) : x.1 ≤ 40000000000000000 := by
  rcases resM_ent H hx with ⟨_, e, _⟩ | ⟨s, _, e2, _, e4, _, _⟩
  · omega
  · have h0 : 0 < ls.length := by
      rcases Nat.eq_zero_or_pos ls.length with h | h
      · rw [h] at e2; exact absurd e2 (Nat.not_lt_zero _)
      · exact h
    have e6 := secN_eq H (Nat.le_refl ls.length)
    rw [rnN_pos h0] at e2
    obtain ⟨a1, a2, a3⟩ := kAt_in H (σ := s) h0 (by omega)
    have he := secAt_succ ls (kAt ls s)
    have hlo : secAt ls (kAt ls s) ≤ (s : Int) := by
      rcases a3 with h9 | h9
      · omega
      · rw [h9]; show (0 : Int) ≤ _; omega
    have hsl := sec_leg H a1
    obtain ⟨b1, b2, b3, b4⟩ := needA_in H HR a1 (by omega) (s := (s : Int) - secAt ls (kAt ls s)) (by omega)
    rw [← e4]
    unfold aN needA
    omega
def sumT (ns : List Int) : Nat → Int
  | 0 => 0
  | k + 1 => sumT ns k + (ns[k]?).getD 0
theorem sumT_in {ns : List Int} (h : ∀ x ∈ ns, 0 ≤ x ∧ x ≤ 100000000000000) : ∀ k : Nat, 0 ≤ sumT ns k ∧ sumT ns k ≤ k * 100000000000000
  | 0 => by show (0 : Int) ≤ 0 ∧ (0 : Int) ≤ _; omega
  | k + 1 => by
    have ih := sumT_in h k
    have e : sumT ns (k + 1) = sumT ns k + (ns[k]?).getD 0 := rfl
    cases hx : ns[k]? with
    | none => rw [e, hx]; show 0 ≤ sumT ns k + 0 ∧ sumT ns k + 0 ≤ _; omega
    | some x =>
      have := h x (List.mem_of_getElem? hx)
      rw [e, hx]
      show 0 ≤ sumT ns k + x ∧ sumT ns k + x ≤ _
      omega
end
end Go.Proofs.Ytolnohjbpllmhaa
