/-
  Walks: each function named returns what its model says. Conditions: those in front of each theorem.
-/
import Derived.Test.YtacndicgpkeobaaGreatDoorMod5
import Derived.Test.YtacndicgpkeobaaGreatDoorShTree
import Derived.Test.YtacndicgpkeobaaGreatDoorK
namespace Go.Proofs.YtacndicgpkeobaaGreatDoor

/-! ### A number just below the root of one half -/
structure Rt (h : Nat) (r η : Rat) : Prop where
  r0 : 0 ≤ r
  e0 : 0 ≤ η
  r1 : r + η ≤ 1
  lo : r ^ h * 2 ≤ 1
  hi : 1 ≤ (r + η) ^ h * 2
section
variable {h s : Nat} {r η : Rat} {d : Rg}
theorem Rt.rle (H : Rt h r η) : r ≤ 1 := by have := H.r1; have := H.e0; grind
theorem pow_le1 {x : Rat} (h0 : 0 ≤ x) (h1 : x ≤ 1) (n : Nat) : x ^ n ≤ 1 := by
  have := rpow_le h0 h1 n
  rwa [one_rpow] at this
theorem Rt.up (H : Rt h r η) : ∀ n : Nat, (r + η) ^ n ≤ r ^ n + (n : Rat) * η
  | 0 => by rw [Rat.pow_zero, Rat.pow_zero]; have : ((0 : Nat) : Rat) = 0 := rfl; grind
  | n + 1 => by
    have ih := H.up n
    have h0 := H.r0
    have h1 := H.r1
    have h2 := H.e0
    have hc : ((n + 1 : Nat) : Rat) = (n : Rat) + 1 := Rat.natCast_add n 1
    rw [Rat.pow_succ, Rat.pow_succ, hc]
    have h3 : (r + η) ^ n * (r + η) ≤ (r ^ n + (n : Rat) * η) * (r + η) := Rat.mul_le_mul_of_nonneg_right ih (by grind)
    have h4 : r ^ n * η ≤ 1 * η := Rat.mul_le_mul_of_nonneg_right (pow_le1 h0 H.rle n) h2
    have h5 : ((n : Rat) * η) * (r + η) ≤ ((n : Rat) * η) * 1 := Rat.mul_le_mul_of_nonneg_left h1 (Rat.mul_nonneg Rat.natCast_nonneg h2)
    grind
/-! ### The way -/
variable {q : Nat → Rat} {x0 : Rat} {t0 : Nat}
/-! ### One step -/
def MX : Rat := 100000000
variable {l : Rg} {a b : Int} {ε : Rat}
end
end Go.Proofs.YtacndicgpkeobaaGreatDoor
namespace Go.Proofs.YtacndicgpkeobaaGreatDoor

/-! ### Pressures of a leg -/
def prs (x : Lg) (t : Int) : Rat := (sumM x t : Rat) / (x.s : Rat)
/-! ### One part of one compartment -/
structure onLeg (x : Lg) (n : Nat) (part half : Int) : Prop where
  x : okLg x
  n : 1 ≤ n ∧ n ≤ 64
  p : 0 ≤ part ∧ part ≤ 1000
  h : 1 ≤ half ∧ half ≤ 100000
section
variable {f n : Nat} {x : Lg} {part : Int} {h : Nat} {l : Rg} {r η : Rat} {q : Nat → Rat} {x0 ε : Rat} {t0 : Nat}
def goes (q : Nat → Rat) (t0 : Nat) (x : Lg) (part : Int) : Prop := ∀ t : Nat, (t : Int) ≤ x.s → q (t0 + t) = (part : Rat) * (prs x t - 63)
def ex (ε η : Rat) (t : Int) : Rat := ε + MX * ((t : Rat) * η)
end

/-! ### What is less than one apart -/
/-! ### The enclosures of one leg meet -/
end Go.Proofs.YtacndicgpkeobaaGreatDoor
namespace Go.Proofs.YtacndicgpkeobaaGreatDoor

/-! ### A rest as a leg -/
/-! ### Loads that lie in others -/
end Go.Proofs.YtacndicgpkeobaaGreatDoor
namespace Go.Proofs.YtacndicgpkeobaaGreatDoor

/-! ### Modulo -/
/-! ### Products of decays -/
/-! ### Rests -/
structure okRest (ts : List Cp) (ls : List Ld) (p s : Int) : Prop where
  k : okTL ts ls
  ct : ckLoads ts ls = 0
  r : 400 ≤ p ∧ p ≤ 1100 ∧ 0 ≤ s ∧ s ≤ 1000000
  e : restE ts ls p s = (restM ts ls p s, 0)
/-! ### Single numbers out of loads -/
/-! ### Limits kept -/
def lw1 (p f : Int) (c : Cp) (x : Ld) : Prop := 1000 * (x.n.lo + x.h.lo) ≤ limM c p f
instance (p f : Int) (c : Cp) (x : Ld) : Decidable (lw1 p f c x) := by unfold lw1; infer_instance
def up1 (p f : Int) (c : Cp) (x : Ld) : Prop := 1000 * (x.n.hi + x.h.hi) ≤ limM c p f
instance (p f : Int) (c : Cp) (x : Ld) : Decidable (up1 p f c x) := by unfold up1; infer_instance
abbrev lowP (p f : Int) := all2 (lw1 p f)
abbrev holdP (p f : Int) := all2 (up1 p f)
def keptM (ts : List Cp) (ls : List Ld) (p f : Int) : Int := if ¬ lowP p f ts ls then 0 else if holdP p f ts ls then 2 else 1
theorem hold_low {ts : List Cp} {ls : List Ld} {p f : Int} (ho : ∀ y ∈ ls, ordLd y) (h : holdP p f ts ls) : lowP p f ts ls := all2_get fun k c x hc hx => by
  have h1 := all2_at h k c x hc hx
  have h2 := ho x (List.mem_of_getElem? hx)
  unfold up1 at h1
  unfold ordLd at h2
  unfold lw1
  omega
theorem keptM_prog {ts : List Cp} {ls : List Ld} {p f : Int} (ho : ∀ y ∈ ls, ordLd y) : (if decide (holdP p f ts ls) = true then (2 : Int) else if decide (¬ lowP p f ts ls) = true then 0 else 1) = keptM ts ls p f := by
  unfold keptM
  by_cases h : holdP p f ts ls
  · have := hold_low ho h
    simp [h, this]
  · by_cases h2 : lowP p f ts ls <;> simp [h, h2]
def keptE (ts : List Cp) (ls : List Ld) (p f : Int) : Int × Int := if ckLoads ts ls ≠ 0 then (0, ckLoads ts ls) else if okPr p ∧ 0 ≤ f ∧ f ≤ 1000 then (keptM ts ls p f, 0) else (0, 2)
theorem keptE_1 {ts : List Cp} {ls : List Ld} {p f : Int} (h : ckLoads ts ls ≠ 0) : keptE ts ls p f = (0, ckLoads ts ls) := if_pos h
theorem keptE_2 {ts : List Cp} {ls : List Ld} {p f : Int} (h : ¬ ckLoads ts ls ≠ 0) (h2 : ¬ (okPr p ∧ 0 ≤ f ∧ f ≤ 1000)) : keptE ts ls p f = (0, 2) := by unfold keptE; rw [if_neg h, if_neg h2]
theorem keptE_3 {ts : List Cp} {ls : List Ld} {p f : Int} (h : ¬ ckLoads ts ls ≠ 0) (h2 : okPr p ∧ 0 ≤ f ∧ f ≤ 1000) : keptE ts ls p f = (keptM ts ls p f, 0) := by unfold keptE; rw [if_neg h, if_pos h2]
end Go.Proofs.YtacndicgpkeobaaGreatDoor
namespace Go.Proofs.YtacndicgpkeobaaGreatDoor

/-! ### Ceilings -/
theorem lim_line (c : Cp) (p f : Int) : limM c p f = limM c 0 f + p * (1000000 + f * (c.s - 1000)) := by unfold limM; grind
structure okFa (ts : List Cp) (ls : List Ld) (f : Int) : Prop where
  k : okTL ts ls
  ct : ckLoads ts ls = 0
  fb : 0 ≤ f ∧ f ≤ 1000
  e : ceilE ts ls f = (ceilF f ts ls ⟨0, 0⟩, 0)
/-! ### The legs of a plan -/
structure Dl where
  s : Int
  d : Int
  g : Int
end Go.Proofs.YtacndicgpkeobaaGreatDoor
namespace Go.Proofs.YtacndicgpkeobaaGreatDoor

theorem ckTab_yes9 {ts : List Cp} (h : ckTab ts = 0) : 1 ≤ ts.length ∧ ts.length ≤ 16 := by
  unfold ckTab at h
  by_cases h1 : 1 ≤ ts.length ∧ ts.length ≤ 16
  · exact h1
  · rw [if_neg h1] at h; cases h
def satL (g : Gs) (p : Int) : Ld := ⟨⟨(1000 - g.o - g.h) * (p - 63), (1000 - g.o - g.h) * (p - 63)⟩, ⟨g.h * (p - 63), g.h * (p - 63)⟩⟩
def satM (ts : List Cp) (g : Gs) (p : Int) : List Ld := List.replicate ts.length (satL g p)
section
variable {ts : List Cp} {g : Gs} {p : Int}
theorem satM_len : (satM ts g p).length = ts.length := List.length_replicate
structure okSat (ts : List Cp) (g : Gs) (p : Int) : Prop where
  t : 1 ≤ ts.length ∧ ts.length ≤ 16
  c : ∀ c ∈ ts, okCp c
  g : 0 ≤ g.o ∧ 0 ≤ g.h ∧ g.o + g.h ≤ 1000
  p : 400 ≤ p ∧ p ≤ 31100
theorem okSat.loads (h : okSat ts g p) : okTL ts (satM ts g p) := by
  have hA := breath_in (n := 1000 - g.o - g.h) (p := p) (by have := h.g; omega) (by have := h.p; omega)
  have hB := breath_in (n := g.h) (p := p) (by have := h.g; omega) (by have := h.p; omega)
  have key : ∀ y ∈ satM ts g p, y = satL g p := fun y hy => List.eq_of_mem_replicate hy
  refine ⟨h.t.1, h.t.2, satM_len, h.c, fun y hy => ?_, fun y hy => ?_⟩
  · rw [key y hy]
    exact ⟨⟨hA.1, hA.2, hA.1, hA.2⟩, ⟨hB.1, hB.2, hB.1, hB.2⟩⟩
  · rw [key y hy]
    exact ⟨Int.le_refl _, Int.le_refl _⟩
end
end Go.Proofs.YtacndicgpkeobaaGreatDoor
namespace Go.Proofs.YtacndicgpkeobaaGreatDoor

def ckTask (ts : List Cp) (ls : List Ld) (x : Lg) (fa : Int) : Int := if ckLoads ts ls ≠ 0 then ckLoads ts ls else if ckLeg x ≠ 0 then ckLeg x else if 0 ≤ fa ∧ fa ≤ 1000 then 0 else 2
def ckFine (ts : List Cp) (ls : List Ld) (x : Lg) (fa fi : Int) : Int := if ckTask ts ls x fa ≠ 0 then ckTask ts ls x fa else if 0 ≤ fi ∧ fi ≤ 6 then 0 else 2
structure okTask (ts : List Cp) (ls : List Ld) (x : Lg) (fa : Int) : Prop where
  k : okTL ts ls
  ct : ckLoads ts ls = 0
  xx : okLg x
  cx : ckLeg x = 0
  fa : 0 ≤ fa ∧ fa ≤ 1000
theorem ckTask_ok {ts : List Cp} {ls : List Ld} {x : Lg} {g : Int} (h : ckTask ts ls x g = 0) : okTask ts ls x g := by
  unfold ckTask at h
  by_cases h1 : ckLoads ts ls ≠ 0
  · rw [if_pos h1] at h; exact absurd h h1
  · rw [if_neg h1] at h
    by_cases h2 : ckLeg x ≠ 0
    · rw [if_pos h2] at h; exact absurd h h2
    · rw [if_neg h2] at h
      by_cases h3 : 0 ≤ g ∧ g ≤ 1000
      · exact ⟨ckLoads_ok (Decidable.not_not.1 h1), Decidable.not_not.1 h1, (ckLeg_ok (Decidable.not_not.1 h2)).1, Decidable.not_not.1 h2, h3⟩
      · rw [if_neg h3] at h; cases h
theorem ckFine_ok {ts : List Cp} {ls : List Ld} {x : Lg} {g fi : Int} (h : ckFine ts ls x g fi = 0) : okTask ts ls x g ∧ 0 ≤ fi ∧ fi ≤ 6 := by
  unfold ckFine at h
  by_cases h1 : ckTask ts ls x g ≠ 0
  · rw [if_pos h1] at h; exact absurd h h1
  · rw [if_neg h1] at h
    by_cases h2 : 0 ≤ fi ∧ fi ≤ 6
    · exact ⟨ckTask_ok (Decidable.not_not.1 h1), h2⟩
    · rw [if_neg h2] at h; cases h

/-! ### Peaks -/
def peakL (x y : Ld) : Int := max x.n.hi y.n.hi + max x.h.hi y.h.hi
def pk1 (p f : Int) (c : Cp) (xy : Ld × Ld) : Prop := 1000 * peakL xy.1 xy.2 ≤ limM c p f
instance (p f : Int) (c : Cp) (xy : Ld × Ld) : Decidable (pk1 p f c xy) := by unfold pk1; infer_instance
abbrev pkP (p f : Int) (ts : List Cp) (a b : List Ld) := all2 (pk1 p f) ts (a.zip b)
theorem zip_get {α β : Type} {a : List α} {b : List β} {k : Nat} {x : α} {y : β} (h1 : a[k]? = some x) (h2 : b[k]? = some y) : (a.zip b)[k]? = some (x, y) := by rw [List.getElem?_zip_eq_some]; exact ⟨h1, h2⟩
def prevM (f : Nat) (ts : List Cp) (ls : List Ld) (x : Lg) (n : Nat) : Nat → List Ld
  | 0 => ls
  | k + 1 => stM f ts ls x n k
def yesB (fa : Int) (f : Nat) (ts : List Cp) (ls : List Ld) (x : Lg) (n : Nat) : Nat → Bool
  | 0 => true
  | k + 1 => yesB fa f ts ls x n k && decide (pkP (lowM x n k) fa ts (prevM f ts ls x n k) (stM f ts ls x n k))
def noB (fa : Int) (f : Nat) (ts : List Cp) (ls : List Ld) (x : Lg) (n : Nat) : Nat → Bool
  | 0 => false
  | k + 1 => noB fa f ts ls x n k || decide (¬ lowP (mkM x n k).p.hi fa ts (stM f ts ls x n k))
def rmkN (x : Lg) (n : Nat) : Nat := if x.s = 0 then 1 else n + 1
def ansM (y n : Bool) : Int := if y = true then 2 else if n = true then 0 else 1
def keptT (ts : List Cp) (ls : List Ld) (x : Lg) (fa : Int) (f : Nat) : Int := ansM (yesB fa f ts ls x (2 ^ f) (rmkN x (2 ^ f))) (noB fa f ts ls x (2 ^ f) (rmkN x (2 ^ f)))
theorem yesB_iff {fa : Int} {f : Nat} {ts : List Cp} {ls : List Ld} {x : Lg} {n : Nat} : ∀ {k : Nat}, yesB fa f ts ls x n k = true ↔ ∀ j, j < k → pkP (lowM x n j) fa ts (prevM f ts ls x n j) (stM f ts ls x n j)
  | 0 => by simp [yesB]
  | k + 1 => by
    unfold yesB
    rw [Bool.and_eq_true, yesB_iff, decide_eq_true_eq]
    constructor
    · rintro ⟨h1, h2⟩ j hj
      rcases Nat.lt_succ_iff_lt_or_eq.1 hj with h | rfl
      · exact h1 j h
      · exact h2
    · exact fun h => ⟨fun j hj => h j (by omega), h k (by omega)⟩
theorem lim_up {c : Cp} {p q f : Int} (hc : okCp c) (hf : 0 ≤ f ∧ f ≤ 1000) (hpq : p ≤ q) : limM c p f ≤ limM c q f := by
  rw [lim_line c p f, lim_line c q f]
  have := rise_in hc hf
  have := Int.mul_le_mul_of_nonneg_right hpq (show 0 ≤ 1000000 + f * (c.s - 1000) by omega)
  omega
theorem low_le {x : Lg} {n j : Nat} (h : okLg x) (hn : 1 ≤ n ∧ n ≤ 64) (hj : j ≤ n) : lowM x n j ≤ (mkM x n j).p.lo ∧ (mkM x n j).p.lo ≤ (mkM x n j).p.hi ∧ 400 ≤ lowM x n j ∧ (mkM x n j).p.hi ≤ 31100 := by
  have h1 := mk_in (j := (j : Int)) h (n := (n : Int)) (by omega) (by omega)
  cases j with
  | zero =>
    have e : lowM x n 0 = (mkM x n (0 : Nat)).p.lo := rfl
    rw [e]
    omega
  | succ k =>
    have h2 := mk_in (j := (k : Int)) h (n := (n : Int)) (by omega) (by omega)
    have e2 : lowM x n (k + 1) = min (mkM x n k).p.lo (mkM x n ((k : Int) + 1)).p.lo := rfl
    have e : (((k + 1 : Nat) : Int)) = (k : Int) + 1 := by omega
    rw [e2]
    rw [e] at h1 ⊢
    omega
structure onTask (ts : List Cp) (ls : List Ld) (x : Lg) (fa : Int) (f n : Nat) : Prop where
  t : okTask ts ls x fa
  fb : f ≤ 6
  nb : n = 2 ^ f
theorem prevM_len {f : Nat} {ts : List Cp} {ls : List Ld} {x : Lg} {n : Nat} (h : ls.length = ts.length) : ∀ k, (prevM f ts ls x n k).length = ts.length
  | 0 => h
  | k + 1 => stM_len h k
/-! ### The greatest peaks -/
theorem peak_in {a b : Ld} (ha : inLd a) (hb : inLd b) : 0 ≤ peakL a b ∧ peakL a b ≤ 200000000 := by
  obtain ⟨⟨a1, a2, a3, a4⟩, ⟨a5, a6, a7, a8⟩⟩ := ha
  obtain ⟨⟨b1, b2, b3, b4⟩, ⟨b5, b6, b7, b8⟩⟩ := hb
  unfold peakL
  omega
theorem prevM_in {f : Nat} {ts : List Cp} {ls : List Ld} {x : Lg} {n : Nat} (hx : okLg x) (hn : 1 ≤ n ∧ n ≤ 64) (hl : ∀ y ∈ ls, inLd y) : ∀ k, k ≤ n + 1 → ∀ y ∈ prevM f ts ls x n k, inLd y
  | 0, _ => hl
  | k + 1, hk => stM_in hx hn hl k (by omega)
theorem stM_ok {ts : List Cp} {ls : List Ld} {x : Lg} {g : Int} {f n : Nat} (H : onTask ts ls x g f n) {k : Nat} (hk : k ≤ n) : okTL ts (stM f ts ls x n k) :=
  ⟨H.t.k.a, H.t.k.b, stM_len H.t.k.len k, H.t.k.c, stM_in H.t.xx (two_f H.fb H.nb) H.t.k.x k hk, stM_ord H.t.xx (two_f H.fb H.nb) H.t.k.c H.t.k.o k hk⟩
theorem bool_iff {a b : Bool} (h : a = true ↔ b = true) : a = b := by cases a <;> cases b <;> simp_all
theorem yesB_next {fa : Int} {f : Nat} {ts : List Cp} {ls : List Ld} {x : Lg} {n k : Nat} {b : Bool} (h : b = true ↔ yesB fa f ts ls x n k = true ∧ pkP (lowM x n k) fa ts (prevM f ts ls x n k) (stM f ts ls x n k)) : b = yesB fa f ts ls x n (k + 1) :=
  bool_iff (by unfold yesB; rw [Bool.and_eq_true, decide_eq_true_eq]; exact h)
theorem noB_t {fa : Int} {f : Nat} {ts : List Cp} {ls : List Ld} {x : Lg} {n k : Nat} (h : noB fa f ts ls x n k = true) : noB fa f ts ls x n (k + 1) = true := by unfold noB; rw [h]; rfl
theorem noB_f {fa : Int} {f : Nat} {ts : List Cp} {ls : List Ld} {x : Lg} {n k : Nat} (h : noB fa f ts ls x n k = false) : noB fa f ts ls x n (k + 1) = decide (¬ lowP (mkM x n k).p.hi fa ts (stM f ts ls x n k)) := by
  conv => lhs; unfold noB
  rw [h, Bool.false_or]
def decF (ts : List Cp) (ls : List Ld) (x : Lg) (fa : Int) (m : Nat) : Nat → Int × Int
  | 0 => (1, m)
  | j + 1 => if keptT ts ls x fa (m - j) ≠ 1 then (keptT ts ls x fa (m - j), ((m - j : Nat) : Int)) else decF ts ls x fa m j
def decT (ts : List Cp) (ls : List Ld) (x : Lg) (fa : Int) (m : Nat) : Int × Int := decF ts ls x fa m (m + 1)
theorem decF_step {ts : List Cp} {ls : List Ld} {x : Lg} {fa : Int} {m k : Nat} (hk : k ≤ m) : decF ts ls x fa m (m + 1 - k) = if keptT ts ls x fa k ≠ 1 then (keptT ts ls x fa k, (k : Int)) else decF ts ls x fa m (m + 1 - (k + 1)) := by
  rw [show m + 1 - k = (m + 1 - (k + 1)) + 1 by omega]
  conv => lhs; unfold decF
  rw [show m - (m + 1 - (k + 1)) = k by omega]
def decE_ (ts : List Cp) (ls : List Ld) (x : Lg) (fa fi : Int) : (Int × Int) × Int := if ckFine ts ls x fa fi ≠ 0 then ((0, 0), ckFine ts ls x fa fi) else (decT ts ls x fa fi.toNat, 0)
theorem decE_1 {ts : List Cp} {ls : List Ld} {x : Lg} {g fi : Int} (h : ckFine ts ls x g fi ≠ 0) : decE_ ts ls x g fi = ((0, 0), ckFine ts ls x g fi) := if_pos h
theorem decE_2 {ts : List Cp} {ls : List Ld} {x : Lg} {g : Int} {f : Nat} (h : ckFine ts ls x g (f : Int) = 0) : decE_ ts ls x g (f : Int) = (decT ts ls x g f, 0) := if_neg (fun hh => hh h)
end Go.Proofs.YtacndicgpkeobaaGreatDoor
namespace Go.Proofs.YtacndicgpkeobaaGreatDoor
theorem rootS_at {a b c d e : Int} (h1 : 0 ≤ c ∧ c * c ≤ 1000000000 * a ∧ 1000000000 * a < (c + 1) * (c + 1)) (h2 : 0 ≤ d ∧ d * d ≤ 1000000000 * b ∧ 1000000000 * b < (d + 1) * (d + 1)) (he : (if d * d < 1000000000 * b then d + 1 else d) = e) : rootS ⟨a, b⟩ = ⟨c, e⟩ := by
  unfold rootS
  rw [← sqrZ_uniq (r := c) h1.1 h1.2.1 h1.2.2, ← sqrZ_uniq (r := d) h2.1 h2.2.1 h2.2.2, he]
theorem rv0 : rootR 0 = ⟨500000000, 500000000⟩ := rfl
theorem rv1 : rootR 1 = ⟨707106781, 707106782⟩ := by
  show rootS (rootR 0) = _
  rw [rv0]
  exact rootS_at (d := 707106781) (by decide) (by decide) (by decide)
theorem rv2 : rootR 2 = ⟨840896415, 840896416⟩ := by
  show rootS (rootR 1) = _
  rw [rv1]
  exact rootS_at (d := 840896415) (by decide) (by decide) (by decide)
theorem rv3 : rootR 3 = ⟨917004043, 917004044⟩ := by
  show rootS (rootR 2) = _
  rw [rv2]
  exact rootS_at (d := 917004043) (by decide) (by decide) (by decide)
theorem rv4 : rootR 4 = ⟨957603280, 957603282⟩ := by
  show rootS (rootR 3) = _
  rw [rv3]
  exact rootS_at (d := 957603281) (by decide) (by decide) (by decide)
theorem rv5 : rootR 5 = ⟨978572061, 978572063⟩ := by
  show rootS (rootR 4) = _
  rw [rv4]
  exact rootS_at (d := 978572062) (by decide) (by decide) (by decide)
theorem rv6 : rootR 6 = ⟨989228012, 989228014⟩ := by
  show rootS (rootR 5) = _
  rw [rv5]
  exact rootS_at (d := 989228013) (by decide) (by decide) (by decide)
theorem rv7 : rootR 7 = ⟨994599422, 994599424⟩ := by
  show rootS (rootR 6) = _
  rw [rv6]
  exact rootS_at (d := 994599423) (by decide) (by decide) (by decide)
theorem rv8 : rootR 8 = ⟨997296055, 997296057⟩ := by
  show rootS (rootR 7) = _
  rw [rv7]
  exact rootS_at (d := 997296056) (by decide) (by decide) (by decide)
theorem rv9 : rootR 9 = ⟨998647112, 998647114⟩ := by
  show rootS (rootR 8) = _
  rw [rv8]
  exact rootS_at (d := 998647113) (by decide) (by decide) (by decide)
theorem rv10 : rootR 10 = ⟨999323327, 999323329⟩ := by
  show rootS (rootR 9) = _
  rw [rv9]
  exact rootS_at (d := 999323328) (by decide) (by decide) (by decide)
theorem rts10 : rts 10 = [⟨500000000, 500000000⟩, ⟨707106781, 707106782⟩, ⟨840896415, 840896416⟩, ⟨917004043, 917004044⟩, ⟨957603280, 957603282⟩, ⟨978572061, 978572063⟩, ⟨989228012, 989228014⟩, ⟨994599422, 994599424⟩, ⟨997296055, 997296057⟩, ⟨998647112, 998647114⟩, ⟨999323327, 999323329⟩] := by
  show [rootR 0, rootR 1, rootR 2, rootR 3, rootR 4, rootR 5, rootR 6, rootR 7, rootR 8, rootR 9, rootR 10] = _
  rw [rv0, rv1, rv2, rv3, rv4, rv5, rv6, rv7, rv8, rv9, rv10]
theorem dv600 : decM 300 600 10 = ⟨707106781, 707106782⟩ := by
  unfold decM
  rw [rts10, rv10]
  kernel_rfl
theorem dv240 : decM 300 240 10 = ⟨420448207, 420448208⟩ := by
  unfold decM
  rw [rts10, rv10]
  kernel_rfl
abbrev oneC : Cp := ⟨600, 240, 500, 1500⟩
abbrev freshL : Ld := ⟨⟨740230, 740230⟩, ⟨0, 0⟩⟩
abbrev downL : Lg := ⟨1000, 4000, 600, ⟨210, 0⟩⟩
theorem st1_ex : stM 1 [oneC] [freshL] downL 2 1 = [⟨⟨740230, 1087309⟩, ⟨0, 0⟩⟩] := by
  have e : stM 1 [oneC] [freshL] downL 2 1 = [⟨nearM ⟨740230, 740230⟩ 740230 1925230 (decM 300 600 10), nearM ⟨0, 0⟩ 0 0 (decM 300 240 10)⟩] := by kernel_rfl
  rw [e, dv600, dv240]
  rfl
theorem st2_ex : stM 1 [oneC] [freshL] downL 2 2 = [⟨⟨1087308, 1679809⟩, ⟨0, 0⟩⟩] := by
  have e : stM 1 [oneC] [freshL] downL 2 2 = stepM 10 300 2500 4000 ⟨210, 0⟩ [oneC] (stM 1 [oneC] [freshL] downL 2 1) := by kernel_rfl
  rw [e, st1_ex]
  have e2 : stepM 10 300 2500 4000 ⟨210, 0⟩ [oneC] [⟨⟨740230, 1087309⟩, ⟨0, 0⟩⟩] = [⟨nearM ⟨740230, 1087309⟩ 1925230 3110230 (decM 300 600 10), nearM ⟨0, 0⟩ 0 0 (decM 300 240 10)⟩] := by kernel_rfl
  rw [e2, dv600, dv240]
  rfl
theorem loaded_ex : loadedE [oneC] [freshL] downL 1 = ([⟨⟨1087308, 1679809⟩, ⟨0, 0⟩⟩], 0) := by
  have h := loadedE_4 (ts := [oneC]) (ls := [freshL]) (x := downL) (f := 1) (by decide) (by decide) (by decide)
  rw [loadedM_pos (n := 2) (by decide) rfl, st2_ex] at h
  exact h
theorem ceil_ex : ceilE [oneC] [⟨⟨1925230, 1925230⟩, ⟨0, 0⟩⟩] 500 = (⟨1341, 1341⟩, 0) := by kernel_rfl
theorem root_ex : rootOfM 2 = (⟨840896415, 840896416⟩, 0) := by
  have h : rootOfM 2 = (rootR 2, 0) := by kernel_rfl
  rw [h, rv2]
end Go.Proofs.YtacndicgpkeobaaGreatDoor
namespace Go.Proofs.YtacndicgpkeobaaGreatDoor
def cDv (v u : Value) (x : Lg) (fi : Int) : List Value := [v, u, .int .i64 x.f, .int .i64 x.t, .int .i64 x.s, .int .i64 x.g.o, .int .i64 x.g.h, .int .i64 fi]
def cDl (x : Dl) : List Value := [.int .i64 x.s, .int .i64 x.d, .int .i64 x.g]
theorem oneDl (l : List Dl) : ∀ c ∈ (l.map cDl).flatten, c.oneCell' = true := one_map cDl (fun a c hc => by
  simp only [cDl, List.mem_cons, List.not_mem_nil, or_false] at hc
  rcases hc with rfl | rfl | rfl <;> rfl) l
end Go.Proofs.YtacndicgpkeobaaGreatDoor
namespace Go.Proofs.YtacndicgpkeobaaGreatDoor
open Go.RowKit

section
variable {ts : List Cp} {ls : List Ld} {xs : List Lg} {x : Lg} {f k : Nat} {fi : Int}
def ckLgs : List Lg → Int
  | [] => 0
  | x :: t => if ckLeg x ≠ 0 then ckLeg x else ckLgs t
structure okFol (ts : List Cp) (ls : List Ld) (xs : List Lg) (fi : Int) : Prop where
  k : okTL ts ls
  l : xs.length ≤ 200
  c : ckLgs xs = 0
  f : 0 ≤ fi ∧ fi ≤ 6
end
section
variable {rs rs1 t s : List Res} {r : Res}
instance (priority := low) rmBC {g : Nat} {u : TypeId} {xs : List Value} [h : RmB t g u xs rs1] : RmB (s ++ t) g u xs (s ++ rs1) := ⟨List.perm_middle.symm.trans (h.out.append_left s)⟩
instance (priority := low) rmRC {v : Value} {size : Nat} {l : List (List Value)} [h : RmR t v size l rs1] : RmR (s ++ t) v size l (s ++ rs1) := ⟨List.perm_middle.symm.trans (h.out.append_left s)⟩
instance (priority := low) rmSC {v : Value} {e size : Nat} {l : List (List Value)} [h : RmS t v e size l rs1] : RmS (s ++ t) v e size l (s ++ rs1) := ⟨List.perm_middle.symm.trans (h.out.append_left s)⟩
instance (priority := low) tlC [h : Tl rs t] : Tl (rs ++ s) t := ⟨by
  obtain ⟨d, hd⟩ := h.out
  exact ⟨d ++ s, by rw [← List.append_assoc]; exact hd.append_right s⟩⟩
end
end Go.Proofs.YtacndicgpkeobaaGreatDoor
namespace Go.Proofs.YtacndicgpkeobaaGreatDoor
set_option maxRecDepth 100000
set_option maxHeartbeats 4000000
open Go.RowKit

set_option maxRecDepth 100000 in
theorem ct_shotlinelaw03_table (v : Value) (ts : List Cp) (hle : ts.length ≤ 100000) : Ct Tryz.prog 21 [v] [(v, 4, ts.map cCp)] (isSl 120 4 (ts.map cCp)) := by
 refine Ct.of (N := 6) Tryz.func21 rfl rfl rfl fun w => ?_
 refine C_weak (E' := [(0, v)]) (rs' := [rd v 4 (ts.map cCp)]) ⟨rfl, trivial⟩ (fun _ h => h) ?_
 have hl := len_map cCp ts
 refine C_seq ?_
 refine C_region ?_
 refine Jq (q_assign rfl) ?_
 refine L_then ?_
 refine C_seq ?_
 refine C_region ?_
 refine L_mk (lo_bslice tb rfl rfl rfl (xs := []) rfl rfl (by simp) rfl (by omega) rfl) rfl rfl rfl fun v3 => ?_
 refine Jq (q_move rfl) ?_
 refine L_ap tb rfl rfl rfl rfl gvo (oneCp ts) (by simp [maxLen]; omega) (by simp; omega) fun v5 => ?_
 refine Jq (q_assign rfl) ?_
 refine L_then ?_
 refine C_ret ?_
 exact ret_of (rs' := [sl v5 120 4 (ts.map cCp)]) (res1 rfl rfl) (fun _ h => h.sub (by repeat (first | exact List.Sublist.refl _ | apply List.Sublist.cons_cons | apply List.Sublist.cons))) own1 rfl
set_option maxRecDepth 100000 in
theorem ct_shotlinelaw03_Few (v : Value) (ts : List Cp) : Ct Tryz.prog 19 [v] [(v, 4, ts.map cCp)] (isV (.bool (decide (ts.length ≤ 4 ∨ (ts.length > 16 ∧ ts.length ≤ 18))))) := by
 refine Ct.of (N := 16) Tryz.func19 rfl rfl rfl fun w => ?_
 refine C_weak (E' := [(0, v)]) (rs' := [rd v 4 (ts.map cCp)]) ⟨rfl, trivial⟩ (fun _ h => h) ?_
 have hl := len_map cCp ts
 refine C_seq ?_
 refine C_region ?_
 refine Jq (q_assign rfl) ?_
 refine L_then ?_
 refine C_seq ?_
 refine C_region ?_
 refine Jq (q_move rfl) ?_
 refine Jq (q_len tb rfl rfl gvo) ?_
 refine Jq (q_leq rfl rfl) ?_
 refine Jq (q_move rfl) ?_
 refine L_dec (d := 6) rfl (fun h1 => ?_) (fun h1 => ?_)
 iterate 4 refine Jk ?_
 iterate 3 refine Ju ?_
 refine Jk ?_
 refine Jq (q_pickT rfl rfl) ?_
 refine Jq (q_assign rfl) ?_
 refine L_then ?_
 refine C_ret ?_
 exact ret_of (res1 rfl rfl) sub_nil (by intro r hr; cases hr) ⟨(by first | rfl | exact congrArg Value.bool (decide_eq_decide.2 (by omega)) | exact congrArg Value.bool (decide_eq_true (by omega)).symm | exact congrArg Value.bool (decide_eq_false (by omega)).symm | exact congrArg Value.bool (decide_eq_true (by omega))), rfl⟩
 refine Jg (q_move rfl) ?_
 refine Jg (q_len tb rfl rfl gvo) ?_
 refine Jg (q_gtr rfl rfl) ?_
 refine Jg (q_move rfl) ?_
 refine L_dec (d := 10) rfl (fun h2 => ?_) (fun h2 => ?_)
 refine Jg (q_move rfl) ?_
 refine Jg (q_len tb rfl rfl gvo) ?_
 refine Jg (q_leq rfl rfl) ?_
 refine Jg (q_pickT rfl rfl) ?_
 refine Jq (q_pickF rfl rfl) ?_
 refine Jq (q_assign rfl) ?_
 refine L_then ?_
 refine C_ret ?_
 exact ret_of (res1 rfl rfl) sub_nil (by intro r hr; cases hr) ⟨(by first | rfl | exact congrArg Value.bool (decide_eq_decide.2 (by omega)) | exact congrArg Value.bool (decide_eq_true (by omega)).symm | exact congrArg Value.bool (decide_eq_false (by omega)).symm | exact congrArg Value.bool (decide_eq_true (by omega))), rfl⟩
 iterate 3 refine Jk ?_
 refine Jg (q_pickF rfl rfl) ?_
 refine Jq (q_pickF rfl rfl) ?_
 refine Jq (q_assign rfl) ?_
 refine L_then ?_
 refine C_ret ?_
 exact ret_of (res1 rfl rfl) sub_nil (by intro r hr; cases hr) ⟨(by first | rfl | exact congrArg Value.bool (decide_eq_decide.2 (by omega)) | exact congrArg Value.bool (decide_eq_true (by omega)).symm | exact congrArg Value.bool (decide_eq_false (by omega)).symm | exact congrArg Value.bool (decide_eq_true (by omega))), rfl⟩
end Go.Proofs.YtacndicgpkeobaaGreatDoor
