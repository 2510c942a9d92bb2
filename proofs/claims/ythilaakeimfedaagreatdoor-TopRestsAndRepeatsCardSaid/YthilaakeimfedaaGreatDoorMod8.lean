/-
  Plain models of chapter 3: peaks, and whether a task is kept. Conditions: none; no program in sight.
-/
import Derived.Test.YthilaakeimfedaaGreatDoorTraj2
namespace Go.Proofs.YthilaakeimfedaaGreatDoor

/-! ### A rest as a leg -/
theorem rest_get {ts : List Cp} {ls : List Ld} {p s : Int} {i : Nat} {y : Ld} (hlen : ls.length = ts.length) (hy : (restM ts ls p s)[i]? = some y) : ∃ c z, ts[i]? = some c ∧ ls[i]? = some z ∧ y = stepL 20 s p p ⟨210, 0⟩ c z := by
  have hi := (List.getElem?_eq_some_iff.1 hy).1
  unfold restM at hi hy
  rw [stepM_len hlen] at hi
  obtain ⟨c, hc⟩ := get_some ts hi
  obtain ⟨z, hz⟩ := get_some ls (show i < ls.length by omega)
  refine ⟨c, z, hc, hz, ?_⟩
  unfold stepM at hy
  rw [List.getElem?_zipWith, hc, hz] at hy
  injection hy with hy
  exact hy.symm
/-! ### Loads that lie in others -/
end Go.Proofs.YthilaakeimfedaaGreatDoor
namespace Go.Proofs.YthilaakeimfedaaGreatDoor

/-! ### Modulo -/
theorem emod_yes {n b : Int} (hb : 1 ≤ b) (h : n.tmod b < 0) : n.tmod b + b = n % b := by
  have h1 := Int.mul_tdiv_add_tmod n b
  have h2 := Int.lt_tmod_of_pos n (show 0 < b by omega)
  have h3 : (n.tmod b + b) + b * (n.tdiv b - 1) = n := by rw [Int.mul_sub, Int.mul_one]; omega
  exact ((Int.ediv_emod_unique (show 0 < b by omega)).2 ⟨h3, by omega, by omega⟩).2.symm
theorem emod_no {n b : Int} (hb : 1 ≤ b) (h : ¬ n.tmod b < 0) : n.tmod b = n % b := by
  have h1 := Int.mul_tdiv_add_tmod n b
  have h2 := Int.tmod_lt_of_pos n (show 0 < b by omega)
  have h3 : n.tmod b + b * n.tdiv b = n := by omega
  exact ((Int.ediv_emod_unique (show 0 < b by omega)).2 ⟨h3, by omega, by omega⟩).2.symm
theorem tmod_in {n b : Int} (hb : 1 ≤ b) : -b < n.tmod b ∧ n.tmod b < b := ⟨Int.lt_tmod_of_pos n (by omega), Int.tmod_lt_of_pos n (by omega)⟩

/-! ### Products of decays -/
/-! ### Rests -/
structure okRest (ts : List Cp) (ls : List Ld) (p s : Int) : Prop where
  k : okTL ts ls
  ct : ckLoads ts ls = 0
  r : 400 ≤ p ∧ p ≤ 1100 ∧ 0 ≤ s ∧ s ≤ 1000000
  e : restE ts ls p s = (restM ts ls p s, 0)
/-! ### Single numbers out of loads -/
/-! ### Limits kept -/
def lw1 (p f : Int) (c : Cp) (x : Ld) : Prop := 1000 * (x.n.lo + x.h.lo) ≤ limM c p f
instance (p f : Int) (c : Cp) (x : Ld) : Decidable (lw1 p f c x) := by unfold lw1; infer_instance
def up1 (p f : Int) (c : Cp) (x : Ld) : Prop := 1000 * (x.n.hi + x.h.hi) ≤ limM c p f
instance (p f : Int) (c : Cp) (x : Ld) : Decidable (up1 p f c x) := by unfold up1; infer_instance
abbrev lowP (p f : Int) := all2 (lw1 p f)
abbrev holdP (p f : Int) := all2 (up1 p f)
def keptM (ts : List Cp) (ls : List Ld) (p f : Int) : Int := if ¬ lowP p f ts ls then 0 else if holdP p f ts ls then 2 else 1
end Go.Proofs.YthilaakeimfedaaGreatDoor
namespace Go.Proofs.YthilaakeimfedaaGreatDoor

/-! ### Ceilings -/
theorem lim_line (c : Cp) (p f : Int) : limM c p f = limM c 0 f + p * (1000000 + f * (c.s - 1000)) := by unfold limM; grind
structure okFa (ts : List Cp) (ls : List Ld) (f : Int) : Prop where
  k : okTL ts ls
  ct : ckLoads ts ls = 0
  fb : 0 ≤ f ∧ f ≤ 1000
  e : ceilE ts ls f = (ceilF f ts ls ⟨0, 0⟩, 0)
/-! ### The legs of a plan -/
structure Dl where
  s : Int
  d : Int
  g : Int
end Go.Proofs.YthilaakeimfedaaGreatDoor
namespace Go.Proofs.YthilaakeimfedaaGreatDoor

theorem ckGas_rg {o h : Int} (hz : ckGas o h = 0) : 0 ≤ o ∧ o ≤ 1000 ∧ 0 ≤ h ∧ h ≤ 1000 ∧ o + h ≤ 1000 := by
  unfold ckGas at hz
  split at hz
  · cases hz
  · split at hz
    · cases hz
    · omega
theorem ckTab_yes9 {ts : List Cp} (h : ckTab ts = 0) : 1 ≤ ts.length ∧ ts.length ≤ 16 := by
  unfold ckTab at h
  by_cases h1 : 1 ≤ ts.length ∧ ts.length ≤ 16
  · exact h1
  · rw [if_neg h1] at h; cases h
def satL (g : Gs) (p : Int) : Ld := ⟨⟨(1000 - g.o - g.h) * (p - 63), (1000 - g.o - g.h) * (p - 63)⟩, ⟨g.h * (p - 63), g.h * (p - 63)⟩⟩
def satM (ts : List Cp) (g : Gs) (p : Int) : List Ld := List.replicate ts.length (satL g p)
def ckSat (ts : List Cp) (g : Gs) (p : Int) : Int := if ckTab ts ≠ 0 then ckTab ts else if ckGas g.o g.h ≠ 0 then ckGas g.o g.h else if okPr p then 0 else 2
def satE (ts : List Cp) (g : Gs) (p : Int) : List Ld × Int := if ckSat ts g p ≠ 0 then ([], ckSat ts g p) else (satM ts g p, 0)
section
variable {ts : List Cp} {g : Gs} {p : Int}
theorem ckSat_1 (h : ckTab ts ≠ 0) : ckSat ts g p = ckTab ts := if_pos h
theorem ckSat_2 (h : ckTab ts = 0) (h2 : ckGas g.o g.h ≠ 0) : ckSat ts g p = ckGas g.o g.h := by unfold ckSat; rw [if_neg (fun hh => hh h), if_pos h2]
theorem ckSat_3 (h : ckTab ts = 0) (h2 : ckGas g.o g.h = 0) (h3 : ¬ okPr p) : ckSat ts g p = 2 := by unfold ckSat; rw [if_neg (fun hh => hh h), if_neg (fun hh => hh h2), if_neg h3]
theorem ckSat_4 (h : ckTab ts = 0) (h2 : ckGas g.o g.h = 0) (h3 : okPr p) : ckSat ts g p = 0 := by unfold ckSat; rw [if_neg (fun hh => hh h), if_neg (fun hh => hh h2), if_pos h3]
theorem satE_bad (h : ckSat ts g p ≠ 0) : satE ts g p = ([], ckSat ts g p) := if_pos h
theorem satE_ok (h : ckSat ts g p = 0) : satE ts g p = (satM ts g p, 0) := if_neg (fun hh => hh h)
theorem satE_1 (h : ckTab ts ≠ 0) : satE ts g p = ([], ckTab ts) := by rw [satE_bad (by rw [ckSat_1 h]; exact h), ckSat_1 h]
theorem satE_2 (h : ckTab ts = 0) (h2 : ckGas g.o g.h ≠ 0) : satE ts g p = ([], ckGas g.o g.h) := by rw [satE_bad (by rw [ckSat_2 h h2]; exact h2), ckSat_2 h h2]
theorem satE_3 (h : ckTab ts = 0) (h2 : ckGas g.o g.h = 0) (h3 : ¬ okPr p) : satE ts g p = ([], 2) := by rw [satE_bad (by rw [ckSat_3 h h2 h3]; decide), ckSat_3 h h2 h3]
theorem satE_4 (h : ckTab ts = 0) (h2 : ckGas g.o g.h = 0) (h3 : okPr p) : satE ts g p = (satM ts g p, 0) := satE_ok (ckSat_4 h h2 h3)
theorem satM_len : (satM ts g p).length = ts.length := List.length_replicate
structure okSat (ts : List Cp) (g : Gs) (p : Int) : Prop where
  t : 1 ≤ ts.length ∧ ts.length ≤ 16
  c : ∀ c ∈ ts, okCp c
  g : 0 ≤ g.o ∧ 0 ≤ g.h ∧ g.o + g.h ≤ 1000
  p : 400 ≤ p ∧ p ≤ 31100
theorem okSat.loads (h : okSat ts g p) : okTL ts (satM ts g p) := by
  have hA := breath_in (n := 1000 - g.o - g.h) (p := p) (by have := h.g; omega) (by have := h.p; omega)
  have hB := breath_in (n := g.h) (p := p) (by have := h.g; omega) (by have := h.p; omega)
  have key : ∀ y ∈ satM ts g p, y = satL g p := fun y hy => List.eq_of_mem_replicate hy
  refine ⟨h.t.1, h.t.2, satM_len, h.c, fun y hy => ?_, fun y hy => ?_⟩
  · rw [key y hy]
    exact ⟨⟨hA.1, hA.2, hA.1, hA.2⟩, ⟨hB.1, hB.2, hB.1, hB.2⟩⟩
  · rw [key y hy]
    exact ⟨Int.le_refl _, Int.le_refl _⟩
end
end Go.Proofs.YthilaakeimfedaaGreatDoor
namespace Go.Proofs.YthilaakeimfedaaGreatDoor

def ckTask (ts : List Cp) (ls : List Ld) (x : Lg) (fa : Int) : Int := if ckLoads ts ls ≠ 0 then ckLoads ts ls else if ckLeg x ≠ 0 then ckLeg x else if 0 ≤ fa ∧ fa ≤ 1000 then 0 else 2
def ckFine (ts : List Cp) (ls : List Ld) (x : Lg) (fa fi : Int) : Int := if ckTask ts ls x fa ≠ 0 then ckTask ts ls x fa else if 0 ≤ fi ∧ fi ≤ 6 then 0 else 2
structure okTask (ts : List Cp) (ls : List Ld) (x : Lg) (fa : Int) : Prop where
  k : okTL ts ls
  ct : ckLoads ts ls = 0
  xx : okLg x
  cx : ckLeg x = 0
  fa : 0 ≤ fa ∧ fa ≤ 1000
theorem ckTask_ok {ts : List Cp} {ls : List Ld} {x : Lg} {g : Int} (h : ckTask ts ls x g = 0) : okTask ts ls x g := by
  unfold ckTask at h
  by_cases h1 : ckLoads ts ls ≠ 0
  · rw [if_pos h1] at h; exact absurd h h1
  · rw [if_neg h1] at h
    by_cases h2 : ckLeg x ≠ 0
    · rw [if_pos h2] at h; exact absurd h h2
    · rw [if_neg h2] at h
      by_cases h3 : 0 ≤ g ∧ g ≤ 1000
      · exact ⟨ckLoads_ok (Decidable.not_not.1 h1), Decidable.not_not.1 h1, (ckLeg_ok (Decidable.not_not.1 h2)).1, Decidable.not_not.1 h2, h3⟩
      · rw [if_neg h3] at h; cases h
theorem ckFine_ok {ts : List Cp} {ls : List Ld} {x : Lg} {g fi : Int} (h : ckFine ts ls x g fi = 0) : okTask ts ls x g ∧ 0 ≤ fi ∧ fi ≤ 6 := by
  unfold ckFine at h
  by_cases h1 : ckTask ts ls x g ≠ 0
  · rw [if_pos h1] at h; exact absurd h h1
  · rw [if_neg h1] at h
    by_cases h2 : 0 ≤ fi ∧ fi ≤ 6
    · exact ⟨ckTask_ok (Decidable.not_not.1 h1), h2⟩
    · rw [if_neg h2] at h; cases h

/-! ### Peaks -/
def peakL (x y : Ld) : Int := max x.n.hi y.n.hi + max x.h.hi y.h.hi
def pk1 (p f : Int) (c : Cp) (xy : Ld × Ld) : Prop := 1000 * peakL xy.1 xy.2 ≤ limM c p f
instance (p f : Int) (c : Cp) (xy : Ld × Ld) : Decidable (pk1 p f c xy) := by unfold pk1; infer_instance
abbrev pkP (p f : Int) (ts : List Cp) (a b : List Ld) := all2 (pk1 p f) ts (a.zip b)
theorem zip_get {α β : Type} {a : List α} {b : List β} {k : Nat} {x : α} {y : β} (h1 : a[k]? = some x) (h2 : b[k]? = some y) : (a.zip b)[k]? = some (x, y) := by rw [List.getElem?_zip_eq_some]; exact ⟨h1, h2⟩
def prevM (f : Nat) (ts : List Cp) (ls : List Ld) (x : Lg) (n : Nat) : Nat → List Ld
  | 0 => ls
  | k + 1 => stM f ts ls x n k
def yesB (fa : Int) (f : Nat) (ts : List Cp) (ls : List Ld) (x : Lg) (n : Nat) : Nat → Bool
  | 0 => true
  | k + 1 => yesB fa f ts ls x n k && decide (pkP (lowM x n k) fa ts (prevM f ts ls x n k) (stM f ts ls x n k))
def noB (fa : Int) (f : Nat) (ts : List Cp) (ls : List Ld) (x : Lg) (n : Nat) : Nat → Bool
  | 0 => false
  | k + 1 => noB fa f ts ls x n k || decide (¬ lowP (mkM x n k).p.hi fa ts (stM f ts ls x n k))
def rmkN (x : Lg) (n : Nat) : Nat := if x.s = 0 then 1 else n + 1
def ansM (y n : Bool) : Int := if y = true then 2 else if n = true then 0 else 1
def keptT (ts : List Cp) (ls : List Ld) (x : Lg) (fa : Int) (f : Nat) : Int := ansM (yesB fa f ts ls x (2 ^ f) (rmkN x (2 ^ f))) (noB fa f ts ls x (2 ^ f) (rmkN x (2 ^ f)))
theorem yesB_iff {fa : Int} {f : Nat} {ts : List Cp} {ls : List Ld} {x : Lg} {n : Nat} : ∀ {k : Nat}, yesB fa f ts ls x n k = true ↔ ∀ j, j < k → pkP (lowM x n j) fa ts (prevM f ts ls x n j) (stM f ts ls x n j)
  | 0 => by simp [yesB]
  | k + 1 => by
    unfold yesB
    rw [Bool.and_eq_true, yesB_iff, decide_eq_true_eq]
    constructor
    · rintro ⟨h1, h2⟩ j hj
      rcases Nat.lt_succ_iff_lt_or_eq.1 hj with h | rfl
      · exact h1 j h
      · exact h2
    · exact fun h => ⟨fun j hj => h j (by omega), h k (by omega)⟩
theorem lim_up {c : Cp} {p q f : Int} (hc : okCp c) (hf : 0 ≤ f ∧ f ≤ 1000) (hpq : p ≤ q) : limM c p f ≤ limM c q f := by
  rw [lim_line c p f, lim_line c q f]
  have := rise_in hc hf
  have := Int.mul_le_mul_of_nonneg_right hpq (show 0 ≤ 1000000 + f * (c.s - 1000) by omega)
  omega
theorem low_le {x : Lg} {n j : Nat} (h : okLg x) (hn : 1 ≤ n ∧ n ≤ 64) (hj : j ≤ n) : lowM x n j ≤ (mkM x n j).p.lo ∧ (mkM x n j).p.lo ≤ (mkM x n j).p.hi ∧ 400 ≤ lowM x n j ∧ (mkM x n j).p.hi ≤ 31100 := by
  have h1 := mk_in (j := (j : Int)) h (n := (n : Int)) (by omega) (by omega)
  cases j with
  | zero =>
    have e : lowM x n 0 = (mkM x n (0 : Nat)).p.lo := rfl
    rw [e]
    omega
  | succ k =>
    have h2 := mk_in (j := (k : Int)) h (n := (n : Int)) (by omega) (by omega)
    have e2 : lowM x n (k + 1) = min (mkM x n k).p.lo (mkM x n ((k : Int) + 1)).p.lo := rfl
    have e : (((k + 1 : Nat) : Int)) = (k : Int) + 1 := by omega
    rw [e2]
    rw [e] at h1 ⊢
    omega
structure onTask (ts : List Cp) (ls : List Ld) (x : Lg) (fa : Int) (f n : Nat) : Prop where
  t : okTask ts ls x fa
  fb : f ≤ 6
  nb : n = 2 ^ f
theorem prevM_len {f : Nat} {ts : List Cp} {ls : List Ld} {x : Lg} {n : Nat} (h : ls.length = ts.length) : ∀ k, (prevM f ts ls x n k).length = ts.length
  | 0 => h
  | k + 1 => stM_len h k
def keptTE (ts : List Cp) (ls : List Ld) (x : Lg) (fa fi : Int) : Int × Int := if ckFine ts ls x fa fi ≠ 0 then (0, ckFine ts ls x fa fi) else (keptT ts ls x fa fi.toNat, 0)
theorem keptTE_1 {ts : List Cp} {ls : List Ld} {x : Lg} {g fi : Int} (h : ckFine ts ls x g fi ≠ 0) : keptTE ts ls x g fi = (0, ckFine ts ls x g fi) := if_pos h
theorem keptTE_2 {ts : List Cp} {ls : List Ld} {x : Lg} {g : Int} {f : Nat} (h : ckFine ts ls x g (f : Int) = 0) : keptTE ts ls x g (f : Int) = (keptT ts ls x g f, 0) := if_neg (fun hh => hh h)

/-! ### The greatest peaks -/
def pkL (a b : List Ld) : List Int := List.zipWith peakL a b
def peaksK (f : Nat) (ts : List Cp) (ls : List Ld) (x : Lg) (n : Nat) : Nat → List Int
  | 0 => List.replicate ts.length 0
  | k + 1 => List.zipWith max (peaksK f ts ls x n k) (pkL (prevM f ts ls x n k) (stM f ts ls x n k))
def peaksT (ts : List Cp) (ls : List Ld) (x : Lg) (f : Nat) : List Int := peaksK f ts ls x (2 ^ f) (rmkN x (2 ^ f))
theorem peak_in {a b : Ld} (ha : inLd a) (hb : inLd b) : 0 ≤ peakL a b ∧ peakL a b ≤ 200000000 := by
  obtain ⟨⟨a1, a2, a3, a4⟩, ⟨a5, a6, a7, a8⟩⟩ := ha
  obtain ⟨⟨b1, b2, b3, b4⟩, ⟨b5, b6, b7, b8⟩⟩ := hb
  unfold peakL
  omega
theorem prevM_in {f : Nat} {ts : List Cp} {ls : List Ld} {x : Lg} {n : Nat} (hx : okLg x) (hn : 1 ≤ n ∧ n ≤ 64) (hl : ∀ y ∈ ls, inLd y) : ∀ k, k ≤ n + 1 → ∀ y ∈ prevM f ts ls x n k, inLd y
  | 0, _ => hl
  | k + 1, hk => stM_in hx hn hl k (by omega)
theorem stM_ok {ts : List Cp} {ls : List Ld} {x : Lg} {g : Int} {f n : Nat} (H : onTask ts ls x g f n) {k : Nat} (hk : k ≤ n) : okTL ts (stM f ts ls x n k) :=
  ⟨H.t.k.a, H.t.k.b, stM_len H.t.k.len k, H.t.k.c, stM_in H.t.xx (two_f H.fb H.nb) H.t.k.x k hk, stM_ord H.t.xx (two_f H.fb H.nb) H.t.k.c H.t.k.o k hk⟩
theorem bool_iff {a b : Bool} (h : a = true ↔ b = true) : a = b := by cases a <;> cases b <;> simp_all
theorem yesB_next {fa : Int} {f : Nat} {ts : List Cp} {ls : List Ld} {x : Lg} {n k : Nat} {b : Bool} (h : b = true ↔ yesB fa f ts ls x n k = true ∧ pkP (lowM x n k) fa ts (prevM f ts ls x n k) (stM f ts ls x n k)) : b = yesB fa f ts ls x n (k + 1) :=
  bool_iff (by unfold yesB; rw [Bool.and_eq_true, decide_eq_true_eq]; exact h)
theorem noB_t {fa : Int} {f : Nat} {ts : List Cp} {ls : List Ld} {x : Lg} {n k : Nat} (h : noB fa f ts ls x n k = true) : noB fa f ts ls x n (k + 1) = true := by unfold noB; rw [h]; rfl
theorem noB_f {fa : Int} {f : Nat} {ts : List Cp} {ls : List Ld} {x : Lg} {n k : Nat} (h : noB fa f ts ls x n k = false) : noB fa f ts ls x n (k + 1) = decide (¬ lowP (mkM x n k).p.hi fa ts (stM f ts ls x n k)) := by
  conv => lhs; unfold noB
  rw [h, Bool.false_or]
theorem kept_no {ts : List Cp} {ls : List Ld} {p f : Int} : keptM ts ls p f = 0 ↔ ¬ lowP p f ts ls := by
  unfold keptM
  by_cases h : lowP p f ts ls
  · rw [if_neg (fun hh => hh h)]
    by_cases h2 : holdP p f ts ls
    · rw [if_pos h2]; simp [h]
    · rw [if_neg h2]; simp [h]
  · rw [if_pos h]; simp [h]
def decF (ts : List Cp) (ls : List Ld) (x : Lg) (fa : Int) (m : Nat) : Nat → Int × Int
  | 0 => (1, m)
  | j + 1 => if keptT ts ls x fa (m - j) ≠ 1 then (keptT ts ls x fa (m - j), ((m - j : Nat) : Int)) else decF ts ls x fa m j
def decT (ts : List Cp) (ls : List Ld) (x : Lg) (fa : Int) (m : Nat) : Int × Int := decF ts ls x fa m (m + 1)
theorem decF_step {ts : List Cp} {ls : List Ld} {x : Lg} {fa : Int} {m k : Nat} (hk : k ≤ m) : decF ts ls x fa m (m + 1 - k) = if keptT ts ls x fa k ≠ 1 then (keptT ts ls x fa k, (k : Int)) else decF ts ls x fa m (m + 1 - (k + 1)) := by
  rw [show m + 1 - k = (m + 1 - (k + 1)) + 1 by omega]
  conv => lhs; unfold decF
  rw [show m - (m + 1 - (k + 1)) = k by omega]
def decE_ (ts : List Cp) (ls : List Ld) (x : Lg) (fa fi : Int) : (Int × Int) × Int := if ckFine ts ls x fa fi ≠ 0 then ((0, 0), ckFine ts ls x fa fi) else (decT ts ls x fa fi.toNat, 0)
theorem decE_1 {ts : List Cp} {ls : List Ld} {x : Lg} {g fi : Int} (h : ckFine ts ls x g fi ≠ 0) : decE_ ts ls x g fi = ((0, 0), ckFine ts ls x g fi) := if_pos h
theorem decE_2 {ts : List Cp} {ls : List Ld} {x : Lg} {g : Int} {f : Nat} (h : ckFine ts ls x g (f : Int) = 0) : decE_ ts ls x g (f : Int) = (decT ts ls x g f, 0) := if_neg (fun hh => hh h)
end Go.Proofs.YthilaakeimfedaaGreatDoor
