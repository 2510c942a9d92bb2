/-
  A way that the loads really take, second by second, and that it lies in the enclosures: steps and legs. Conditions: none; no program in sight.
-/
import Derived.Test.YthilaakeimfedaaGreatDoorEnc
import Derived.Test.YthilaakeimfedaaGreatDoorTr
namespace Go.Proofs.YthilaakeimfedaaGreatDoor

/-! ### Loads that meet, that lie inside -/
def mt1 (x y : Ld) : Prop := x.n.lo ≤ y.n.hi ∧ y.n.lo ≤ x.n.hi ∧ x.h.lo ≤ y.h.hi ∧ y.h.lo ≤ x.h.hi
instance (x y : Ld) : Decidable (mt1 x y) := by unfold mt1; infer_instance
def in1 (x y : Ld) : Prop := (y.n.lo ≤ x.n.lo ∧ x.n.hi ≤ y.n.hi) ∧ (y.h.lo ≤ x.h.lo ∧ x.h.hi ≤ y.h.hi)
instance (x y : Ld) : Decidable (in1 x y) := by unfold in1; infer_instance
def all2 {α β : Type} (R : α → β → Prop) : List α → List β → Prop
  | x :: a, y :: b => R x y ∧ all2 R a b
  | _, _ => True
def all2Dec {α β : Type} (R : α → β → Prop) [hR : ∀ x y, Decidable (R x y)] : ∀ a b, Decidable (all2 R a b)
  | x :: a, y :: b => by
    have := all2Dec R a b
    unfold all2
    infer_instance
  | [], _ => .isTrue (by unfold all2; trivial)
  | _ :: _, [] => .isTrue (by unfold all2; trivial)
instance {α β : Type} (R : α → β → Prop) [∀ x y, Decidable (R x y)] (a : List α) (b : List β) : Decidable (all2 R a b) := all2Dec R a b
theorem all2_step {α β : Type} {R : α → β → Prop} {a : List α} {b : List β} {k : Nat} {x : α} {y : β} (h1 : a[k]? = some x) (h2 : b[k]? = some y) : all2 R (a.drop k) (b.drop k) ↔ R x y ∧ all2 R (a.drop (k + 1)) (b.drop (k + 1)) := by
  rw [drop_cons h1, drop_cons h2]
  exact Iff.rfl
theorem all2_end {α β : Type} {R : α → β → Prop} {a : List α} {b : List β} {k : Nat} (h : a.length ≤ k) : all2 R (a.drop k) (b.drop k) := by
  rw [drop_all h]
  unfold all2
  trivial
theorem all2_get {α β : Type} {R : α → β → Prop} : ∀ {a : List α} {b : List β}, (∀ (k : Nat) (x : α) (y : β), a[k]? = some x → b[k]? = some y → R x y) → all2 R a b
  | x :: a, y :: b, h => ⟨h 0 x y rfl rfl, all2_get fun k u v hu hv => h (k + 1) u v hu hv⟩
  | [], _, _ => by unfold all2; trivial
  | _ :: _, [], _ => by unfold all2; trivial
theorem all2_at {α β : Type} {R : α → β → Prop} : ∀ {a : List α} {b : List β}, all2 R a b → ∀ (k : Nat) (x : α) (y : β), a[k]? = some x → b[k]? = some y → R x y
  | u :: a, v :: b, h, 0, x, y, hx, hy => by
    simp only [List.getElem?_cons_zero, Option.some.injEq] at hx hy
    subst hx; subst hy
    exact h.1
  | u :: a, v :: b, h, k + 1, x, y, hx, hy => all2_at h.2 k x y (by simpa using hx) (by simpa using hy)
  | [], _, _, k, x, y, hx, _ => by simp at hx
  | _ :: _, [], _, k, x, y, _, hy => by simp at hy
abbrev insP := all2 in1
def insC (a b : List Ld) : Int := if a.length ≠ b.length then 10 else if ckLds a ≠ 0 then ckLds a else ckLds b
def insV (a b : List Ld) : Bool := decide (insC a b = 0 ∧ insP a b)
theorem insC_1 {a b : List Ld} (h : a.length ≠ b.length) : insC a b = 10 := if_pos h
theorem insC_2 {a b : List Ld} (h : ¬ a.length ≠ b.length) (h2 : ckLds a ≠ 0) : insC a b = ckLds a := by unfold insC; rw [if_neg h, if_pos h2]
theorem insC_3 {a b : List Ld} (h : ¬ a.length ≠ b.length) (h2 : ckLds a = 0) : insC a b = ckLds b := by unfold insC; rw [if_neg h, if_neg (by omega)]
theorem insV_no {a b : List Ld} (h : insC a b ≠ 0) : insV a b = false := decide_eq_false fun hh => h hh.1
/-! ### A dive's error -/
structure okDv (ts : List Cp) (ls : List Ld) (x : Lg) (fi : Int) : Prop where
  k : okTL ts ls
  xx : okLg x
  z : x.s = 0 → x.f = x.t
  f : 0 ≤ fi ∧ fi ≤ 6
  ct : ckLoads ts ls = 0
  cx : ckLeg x = 0
/-! ### Right loads stay right -/
theorem ckCps_mk : ∀ {ts : List Cp}, (∀ c ∈ ts, okCp c) → ckCps ts = 0
  | [], _ => rfl
  | c :: t, h => by
    unfold ckCps
    rw [if_pos (h c List.mem_cons_self)]
    exact ckCps_mk fun d hd => h d (List.mem_cons_of_mem _ hd)
theorem ckLd_mk {l : Ld} (h : inLd l) (ho : ordLd l) : ckLd l = 0 := by
  obtain ⟨⟨a1, a2, a3, a4⟩, ⟨b1, b2, b3, b4⟩⟩ := h
  have h1 := ckSpan_cases l.n
  have h2 := ckSpan_cases l.h
  unfold ordLd at ho
  unfold ckLd
  rw [if_neg (by omega), if_neg (by omega)]
theorem ckLds_mk : ∀ {ls : List Ld}, (∀ y ∈ ls, inLd y) → (∀ y ∈ ls, ordLd y) → ckLds ls = 0
  | [], _, _ => rfl
  | l :: t, h, ho => by
    unfold ckLds
    rw [if_neg (fun hh => hh (ckLd_mk (h l List.mem_cons_self) (ho l List.mem_cons_self)))]
    exact ckLds_mk (fun d hd => h d (List.mem_cons_of_mem _ hd)) (fun d hd => ho d (List.mem_cons_of_mem _ hd))
theorem ckLoads_mk {ts : List Cp} {ls : List Ld} (h : okTL ts ls) : ckLoads ts ls = 0 := by
  have h1 : ckTab ts = 0 := by unfold ckTab; rw [if_pos ⟨h.a, h.b⟩]; exact ckCps_mk h.c
  unfold ckLoads
  rw [if_neg (fun hh => hh h1), if_neg (fun hh => hh h.len)]
  exact ckLds_mk h.x h.o
theorem ediv_shift {x y c : Int} (h : x ≤ 1000000000 * c + y) : x / 1000000000 ≤ c + upZ y 1000000000 := by unfold upZ; omega
theorem near_ord {l d : Rg} {a b : Int} (hl : l.lo ≤ l.hi) (hab : a ≤ b) (hd : inD d) (hdd : d.lo ≤ d.hi) : (nearM l a b d).lo ≤ (nearM l a b d).hi := by
  obtain ⟨d1, d2, d3, d4⟩ := hd
  unfold nearM
  by_cases hc : l.lo ≥ a <;> by_cases he : l.hi ≥ b
  · rw [if_pos hc, if_pos he]
    have key : (l.lo - a) * d.lo ≤ 1000000000 * (b - a) + (l.hi - b) * d.hi := by
      by_cases hb : l.lo ≥ b
      · have h1 : (l.lo - b) * d.lo ≤ (l.hi - b) * d.hi := Int.mul_le_mul (by omega) hdd d1 (by omega)
        have h2 : (b - a) * d.lo ≤ (b - a) * 1000000000 := Int.mul_le_mul_of_nonneg_left d2 (by omega)
        have h3 : (l.lo - a) * d.lo = (l.lo - b) * d.lo + (b - a) * d.lo := by grind
        omega
      · have h1 : (l.lo - a) * d.lo ≤ (b - a) * 1000000000 := Int.mul_le_mul (by omega) d2 d1 (by omega)
        have h2 : 0 ≤ (l.hi - b) * d.hi := Int.mul_nonneg (by omega) d3
        omega
    have := ediv_shift key
    dsimp only
    omega
  · rw [if_pos hc, if_neg he]
    have key : (l.lo - a) * d.lo + (b - l.hi) * d.lo ≤ 1000000000 * (b - a) := by
      have h1 : (l.lo - a) * d.lo + (b - l.hi) * d.lo = (b - a - (l.hi - l.lo)) * d.lo := by grind
      by_cases hp : 0 ≤ b - a - (l.hi - l.lo)
      · have h2 : (b - a - (l.hi - l.lo)) * d.lo ≤ (b - a) * 1000000000 := Int.mul_le_mul (by omega) d2 d1 (by omega)
        omega
      · have h2 : (b - a - (l.hi - l.lo)) * d.lo ≤ 0 := Int.mul_nonpos_of_nonpos_of_nonneg (by omega) d1
        omega
    dsimp only
    omega
  · rw [if_neg hc, if_pos he]
    have h1 : 0 ≤ (a - l.lo) * d.hi := Int.mul_nonneg (by omega) d3
    have h2 : 0 ≤ (l.hi - b) * d.hi := Int.mul_nonneg (by omega) d3
    unfold upZ
    dsimp only
    omega
  · rw [if_neg hc, if_neg he]
    have key : (b - l.hi) * d.lo ≤ 1000000000 * (b - a) + (a - l.lo) * d.hi := by
      have h1 : (b - l.hi) * d.lo ≤ (b - l.lo) * d.lo := Int.mul_le_mul_of_nonneg_right (by omega) d1
      have h2 : (b - l.lo) * d.lo = (b - a) * d.lo + (a - l.lo) * d.lo := by grind
      have h3 : (b - a) * d.lo ≤ (b - a) * 1000000000 := Int.mul_le_mul_of_nonneg_left d2 (by omega)
      have h4 : (a - l.lo) * d.lo ≤ (a - l.lo) * d.hi := Int.mul_le_mul_of_nonneg_left hdd (by omega)
      omega
    have := ediv_shift key
    dsimp only
    omega
theorem decM_ord {s h : Int} (n : Nat) (hs : 0 ≤ s) (hh : 1 ≤ h) : (decM s h n).lo ≤ (decM s h n).hi := by
  obtain ⟨a, rfl⟩ := Int.eq_ofNat_of_zero_le hs
  obtain ⟨b, rfl⟩ := Int.eq_ofNat_of_zero_le (show 0 ≤ h by omega)
  obtain ⟨p1, p2⟩ := decM_enc (s := a) (h := b) n (by omega)
  have hd := decM_in a b n
  refine le_fr (rroot_le (n := b) (by omega) (fr_nn hd.c) ?_)
  have t := two_rpow_ge a
  exact Rat.le_of_mul_le_mul_right (Rat.le_trans p1 p2) (show (0 : Rat) < 2 ^ a by grind)
theorem step_ord {n : Nat} {s lo hi : Int} {g : Gs} {c : Cp} {x : Ld} (hs : 0 ≤ s) (hlh : lo ≤ hi) (hg : inG g) (hc : okCp c) (hx : ordLd x) : ordLd (stepL n s lo hi g c x) := by
  obtain ⟨g1, g2, g3⟩ := hg
  have hc1 := hc.1
  have hc2 := hc.2.2.1
  exact ⟨near_ord hx.1 (Int.mul_le_mul_of_nonneg_left (by omega) (by omega)) (decM_in _ _ _) (decM_ord n hs hc1), near_ord hx.2 (Int.mul_le_mul_of_nonneg_left (by omega) (by omega)) (decM_in _ _ _) (decM_ord n hs hc2)⟩
theorem stepM_ord {n : Nat} {s lo hi : Int} {g : Gs} {ts : List Cp} {ls : List Ld} (hs : 0 ≤ s) (hlh : lo ≤ hi) (hg : inG g) (hc : ∀ c ∈ ts, okCp c) (hx : ∀ x ∈ ls, ordLd x) : ∀ x ∈ stepM n s lo hi g ts ls, ordLd x := by
  intro x h
  unfold stepM at h
  rw [List.zipWith_eq_zipWith_take_min, ← List.map_uncurry_zip_eq_zipWith] at h
  obtain ⟨⟨c, y⟩, hm, rfl⟩ := List.mem_map.1 h
  have hz := List.of_mem_zip hm
  exact step_ord hs hlh hg (hc c (List.mem_of_mem_take hz.1)) (hx y (List.mem_of_mem_take hz.2))
theorem stM_ord {f : Nat} {ts : List Cp} {ls : List Ld} {x : Lg} {n : Nat} (hx : okLg x) (hn : 1 ≤ n ∧ n ≤ 64) (hc : ∀ c ∈ ts, okCp c) (hl : ∀ y ∈ ls, ordLd y) : ∀ k, k ≤ n → ∀ y ∈ stM f ts ls x n k, ordLd y
  | 0, _ => hl
  | k + 1, hk => by
    have h1 := mk_in (j := (k : Int)) hx (n := (n : Int)) (by omega) (by omega)
    have h2 := mk_in (j := (k : Int) + 1) hx (n := (n : Int)) (by omega) (by omega)
    have h3 := mk_mono hx hn.1 k
    exact stepM_ord (by omega) (by omega) hx.g hc (stM_ord hx hn hc hl k (by omega))
theorem loaded_ok {ts : List Cp} {ls : List Ld} {x : Lg} {f : Nat} (h : okTL ts ls) (hx : okLg x) (hf : f ≤ 6) : okTL ts (loadedM ts ls x f) := by
  obtain ⟨n, hn⟩ : ∃ n : Nat, n = 2 ^ f := ⟨_, rfl⟩
  have h64 := two_f hf hn
  refine ⟨h.a, h.b, loadedM_len h.len, h.c, ?_, ?_⟩
  · by_cases h0 : x.s = 0
    · rw [loadedM_zero h0]; exact h.x
    · rw [loadedM_pos h0 hn]; exact stM_in hx h64 h.x n (Nat.le_refl _)
  · by_cases h0 : x.s = 0
    · rw [loadedM_zero h0]; exact h.o
    · rw [loadedM_pos h0 hn]; exact stM_ord hx h64 h.c h.o n (Nat.le_refl _)
end Go.Proofs.YthilaakeimfedaaGreatDoor
namespace Go.Proofs.YthilaakeimfedaaGreatDoor

/-! ### A number just below the root of one half -/
structure Rt (h : Nat) (r η : Rat) : Prop where
  r0 : 0 ≤ r
  e0 : 0 ≤ η
  r1 : r + η ≤ 1
  lo : r ^ h * 2 ≤ 1
  hi : 1 ≤ (r + η) ^ h * 2
theorem half_root {h N : Nat} (hN : 1 ≤ N) : ∃ m : Nat, m < N ∧ 2 * m ^ h ≤ N ^ h + 1 ∧ (1 ≤ h → 2 * m ^ h ≤ N ^ h) ∧ N ^ h ≤ 2 * (m + 1) ^ h := by
  by_cases hh : h = 0
  · subst hh; exact ⟨0, by omega, by simp, by omega, by simp⟩
  have hp : 1 ≤ N ^ h := Nat.one_le_pow _ _ (by omega)
  have key : ∀ k, k ≤ N → (∃ m : Nat, m < N ∧ 2 * m ^ h ≤ N ^ h ∧ N ^ h ≤ 2 * (m + 1) ^ h) ∨ 2 * k ^ h ≤ N ^ h := by
    intro k
    induction k with
    | zero => intro _; right; rw [Nat.zero_pow (by omega)]; omega
    | succ k ih =>
      intro hk
      rcases ih (by omega) with h1 | h1
      · exact .inl h1
      · by_cases h2 : 2 * (k + 1) ^ h ≤ N ^ h
        · exact .inr h2
        · exact .inl ⟨k, by omega, h1, by omega⟩
  rcases key N (Nat.le_refl _) with ⟨m, h1, h2, h3⟩ | h1
  · exact ⟨m, h1, by omega, fun _ => h2, h3⟩
  · omega
theorem rt_ex (h : Nat) (hh : 1 ≤ h) (N : Nat) (hN : 1 ≤ N) : ∃ r η : Rat, Rt h r η ∧ η * (N : Rat) = 1 := by
  obtain ⟨m, h1, _, h2, h3⟩ := half_root (h := h) hN
  have h2 := h2 hh
  have hN0 : (0 : Rat) < (N : Rat) := Rat.natCast_pos.2 (by omega)
  have hne : (N : Rat) ≠ 0 := (Rat.ne_of_lt hN0).symm
  have e1 : (m : Rat) / (N : Rat) * N = m := Rat.div_mul_cancel hne
  have e2 : (1 : Rat) / (N : Rat) * N = 1 := Rat.div_mul_cancel hne
  have hP : (0 : Rat) < (N : Rat) ^ h := Rat.pow_pos hN0
  have c2 : 2 * (m : Rat) ^ h ≤ (N : Rat) ^ h := by
    have := Rat.natCast_le_natCast.2 h2
    rw [Rat.natCast_mul, Rat.natCast_pow, Rat.natCast_pow] at this
    exact this
  have c3 : (N : Rat) ^ h ≤ 2 * ((m : Rat) + 1) ^ h := by
    have := Rat.natCast_le_natCast.2 h3
    rw [Rat.natCast_mul, Rat.natCast_pow, Rat.natCast_pow, Rat.natCast_add] at this
    exact this
  have c4 : (m : Rat) + 1 ≤ (N : Rat) := by
    have := Rat.natCast_le_natCast.2 (show m + 1 ≤ N by omega)
    rw [Rat.natCast_add] at this
    exact this
  refine ⟨(m : Rat) / N, 1 / N, ⟨?_, ?_, ?_, ?_, ?_⟩, e2⟩
  · exact Rat.le_of_mul_le_mul_right (c := (N : Rat)) (by rw [e1, Rat.zero_mul]; exact Rat.natCast_nonneg) hN0
  · exact Rat.le_of_mul_le_mul_right (c := (N : Rat)) (by rw [e2, Rat.zero_mul]; grind) hN0
  · exact Rat.le_of_mul_le_mul_right (c := (N : Rat)) (by rw [Rat.add_mul, e1, e2, Rat.one_mul]; exact c4) hN0
  · refine Rat.le_of_mul_le_mul_right (c := (N : Rat) ^ h) ?_ hP
    have : ((m : Rat) / N) ^ h * (N : Rat) ^ h = (m : Rat) ^ h := by rw [← mul_rpow, e1]
    grind
  · refine Rat.le_of_mul_le_mul_right (c := (N : Rat) ^ h) ?_ hP
    have : ((m : Rat) / N + 1 / N) ^ h * (N : Rat) ^ h = ((m : Rat) + 1) ^ h := by rw [← mul_rpow, Rat.add_mul, e1, e2]
    grind

section
variable {h s : Nat} {r η : Rat} {d : Rg}
theorem Rt.rle (H : Rt h r η) : r ≤ 1 := by have := H.r1; have := H.e0; grind
theorem pow_le1 {x : Rat} (h0 : 0 ≤ x) (h1 : x ≤ 1) (n : Nat) : x ^ n ≤ 1 := by
  have := rpow_le h0 h1 n
  rwa [one_rpow] at this
theorem pow_anti {x : Rat} (h0 : 0 ≤ x) (h1 : x ≤ 1) {m n : Nat} (hmn : m ≤ n) : x ^ n ≤ x ^ m := by
  rw [show n = m + (n - m) by omega, rpow_add]
  have h2 := pow_le1 h0 h1 (n - m)
  have h3 : (0 : Rat) ≤ x ^ m := Rat.pow_nonneg h0
  have := Rat.mul_le_mul_of_nonneg_left h2 h3
  grind
theorem Rt.up (H : Rt h r η) : ∀ n : Nat, (r + η) ^ n ≤ r ^ n + (n : Rat) * η
  | 0 => by rw [Rat.pow_zero, Rat.pow_zero]; have : ((0 : Nat) : Rat) = 0 := rfl; grind
  | n + 1 => by
    have ih := H.up n
    have h0 := H.r0
    have h1 := H.r1
    have h2 := H.e0
    have hc : ((n + 1 : Nat) : Rat) = (n : Rat) + 1 := Rat.natCast_add n 1
    rw [Rat.pow_succ, Rat.pow_succ, hc]
    have h3 : (r + η) ^ n * (r + η) ≤ (r ^ n + (n : Rat) * η) * (r + η) := Rat.mul_le_mul_of_nonneg_right ih (by grind)
    have h4 : r ^ n * η ≤ 1 * η := Rat.mul_le_mul_of_nonneg_right (pow_le1 h0 H.rle n) h2
    have h5 : ((n : Rat) * η) * (r + η) ≤ ((n : Rat) * η) * 1 := Rat.mul_le_mul_of_nonneg_left h1 (Rat.mul_nonneg Rat.natCast_nonneg h2)
    grind
theorem Rt.dlo (H : Rt h r η) (hh : 1 ≤ h) (hd : Enc d h s) (_ : inD d) : fr d.lo ≤ r ^ s + (s : Rat) * η := by
  have h0 := H.r0
  have h2 := H.e0
  refine Rat.le_trans (rroot_le (n := h) hh (Rat.pow_nonneg (by grind)) ?_) (H.up s)
  have h3 : (1 : Rat) ≤ ((r + η) ^ s) ^ h * 2 ^ s := by
    rw [← rpow_mul, Nat.mul_comm, rpow_mul, ← mul_rpow]
    have := rpow_le (x := 1) (y := (r + η) ^ h * 2) (by decide) H.hi s
    rwa [one_rpow] at this
  have t := two_rpow_ge s
  exact Rat.le_of_mul_le_mul_right (Rat.le_trans hd.1 h3) (show (0 : Rat) < 2 ^ s by grind)
theorem Rt.dhi (H : Rt h r η) (hh : 1 ≤ h) (hd : Enc d h s) (hin : inD d) : r ^ s ≤ fr d.hi := by
  refine rroot_le (n := h) hh (fr_nn hin.c) ?_
  have h3 : (r ^ s) ^ h * 2 ^ s ≤ 1 := by
    rw [← rpow_mul, Nat.mul_comm, rpow_mul, ← mul_rpow]
    have := rpow_le (x := r ^ h * 2) (y := 1) (Rat.mul_nonneg (Rat.pow_nonneg H.r0) (by decide)) H.lo s
    rwa [one_rpow] at this
  have t := two_rpow_ge s
  exact Rat.le_of_mul_le_mul_right (Rat.le_trans h3 hd.2) (show (0 : Rat) < 2 ^ s by grind)

/-! ### The way -/
def traj (q : Nat → Rat) (r x0 : Rat) : Nat → Rat
  | 0 => x0
  | t + 1 => q t + (traj q r x0 t - q t) * r
variable {q : Nat → Rat} {x0 : Rat} {t0 : Nat}
theorem traj_ge (h0 : 0 ≤ r) (h1 : r ≤ 1) {a : Rat} : ∀ n : Nat, (∀ t, t0 ≤ t → t < t0 + n → a ≤ q t) → a + (traj q r x0 t0 - a) * r ^ n ≤ traj q r x0 (t0 + n)
  | 0, _ => by rw [Rat.pow_zero, Nat.add_zero]; grind
  | n + 1, hq => by
    have ih := traj_ge h0 h1 n (fun t ht hlt => hq t ht (by omega))
    have h2 := hq (t0 + n) (by omega) (by omega)
    rw [← Nat.add_assoc, Rat.pow_succ]
    show _ ≤ q (t0 + n) + (traj q r x0 (t0 + n) - q (t0 + n)) * r
    have h3 : (a + (traj q r x0 t0 - a) * r ^ n) * r ≤ traj q r x0 (t0 + n) * r := Rat.mul_le_mul_of_nonneg_right ih h0
    have h4 : a * (1 - r) ≤ q (t0 + n) * (1 - r) := Rat.mul_le_mul_of_nonneg_right h2 (by grind)
    grind
theorem traj_le (h0 : 0 ≤ r) (h1 : r ≤ 1) {b : Rat} : ∀ n : Nat, (∀ t, t0 ≤ t → t < t0 + n → q t ≤ b) → traj q r x0 (t0 + n) ≤ b + (traj q r x0 t0 - b) * r ^ n
  | 0, _ => by rw [Rat.pow_zero, Nat.add_zero]; grind
  | n + 1, hq => by
    have ih := traj_le h0 h1 n (fun t ht hlt => hq t ht (by omega))
    have h2 := hq (t0 + n) (by omega) (by omega)
    rw [← Nat.add_assoc, Rat.pow_succ]
    show q (t0 + n) + (traj q r x0 (t0 + n) - q (t0 + n)) * r ≤ _
    have h3 : traj q r x0 (t0 + n) * r ≤ (b + (traj q r x0 t0 - b) * r ^ n) * r := Rat.mul_le_mul_of_nonneg_right ih h0
    have h4 : q (t0 + n) * (1 - r) ≤ b * (1 - r) := Rat.mul_le_mul_of_nonneg_right h2 (by grind)
    grind

/-! ### One step -/
def MX : Rat := 100000000
theorem cst {a b : Int} : ((a - b : Int) : Rat) = (a : Rat) - (b : Rat) := Rat.intCast_sub a b
theorem le_MX {a : Int} (h : a ≤ 100000000) : (a : Rat) ≤ MX := cle h
theorem c_nn {a : Int} (h : 0 ≤ a) : (0 : Rat) ≤ (a : Rat) := cle h
theorem quo_le {x d : Int} : ((x * d / 1000000000 : Int) : Rat) ≤ (x : Rat) * fr d := by
  have h1 := fr_mul d
  have h3 := quo_down (m := x * d) (b := 1000000000) (by decide)
  rw [Rat.intCast_mul, ← h1] at h3
  have h4 : ((1000000000 : Int) : Rat) = 1000000000 := rfl
  rw [h4] at h3
  grind
theorem quo_ge {x d : Int} : (x : Rat) * fr d ≤ ((upZ (x * d) 1000000000 : Int) : Rat) := by
  have h1 := fr_mul d
  have h3 := quo_up (m := x * d) (b := 1000000000) (by decide)
  rw [Rat.intCast_mul, ← h1] at h3
  have h4 : ((1000000000 : Int) : Rat) = 1000000000 := rfl
  rw [h4] at h3
  grind
variable {l : Rg} {a b : Int} {ε : Rat}
theorem near_lo (H : Rt h r η) (hh : 1 ≤ h) (hd : Enc d h s) (hin : inD d) (hl : inX l) (ha : 0 ≤ a ∧ a ≤ 100000000) (he : 0 ≤ ε) (hq : ∀ t, t0 ≤ t → t < t0 + s → (a : Rat) ≤ q t)
    (hx : (l.lo : Rat) ≤ traj q r x0 t0 + ε) : ((nearM l a b d).lo : Rat) ≤ traj q r x0 (t0 + s) + (ε + MX * ((s : Rat) * η)) := by
  have g1 := traj_ge (x0 := x0) H.r0 H.rle s hq
  have p0 : (0 : Rat) ≤ r ^ s := Rat.pow_nonneg H.r0
  have p1 := pow_le1 H.r0 H.rle s
  have u0 : (0 : Rat) ≤ (s : Rat) * η := Rat.mul_nonneg Rat.natCast_nonneg H.e0
  have u1 : (0 : Rat) ≤ MX * ((s : Rat) * η) := Rat.mul_nonneg (by unfold MX; decide) u0
  have k1 : ((l.lo : Rat) - (a : Rat)) * r ^ s ≤ (traj q r x0 t0 + ε - (a : Rat)) * r ^ s := Rat.mul_le_mul_of_nonneg_right (by grind) p0
  have k2 : ε * r ^ s ≤ ε * 1 := Rat.mul_le_mul_of_nonneg_left p1 he
  unfold nearM
  dsimp only
  by_cases hc : l.lo ≥ a
  · rw [if_pos hc]
    have h1 := quo_le (x := l.lo - a) (d := d.lo)
    have h2 := H.dlo hh hd hin
    have h3 : (0 : Rat) ≤ ((l.lo - a : Int) : Rat) := c_nn (by omega)
    have h4 : ((l.lo - a : Int) : Rat) ≤ MX := le_MX (by have := hl.b; omega)
    have h5 : ((l.lo - a : Int) : Rat) * fr d.lo ≤ ((l.lo - a : Int) : Rat) * (r ^ s + (s : Rat) * η) := Rat.mul_le_mul_of_nonneg_left h2 h3
    have h6 : ((l.lo - a : Int) : Rat) * ((s : Rat) * η) ≤ MX * ((s : Rat) * η) := Rat.mul_le_mul_of_nonneg_right h4 u0
    rw [Rat.intCast_add]
    rw [cst] at h1 h5 h6
    grind
  · rw [if_neg hc]
    have h1 := quo_ge (x := a - l.lo) (d := d.hi)
    have h2 := H.dhi hh hd hin
    have h3 : (0 : Rat) ≤ ((a - l.lo : Int) : Rat) := c_nn (by omega)
    have h5 : ((a - l.lo : Int) : Rat) * r ^ s ≤ ((a - l.lo : Int) : Rat) * fr d.hi := Rat.mul_le_mul_of_nonneg_left h2 h3
    rw [Rat.intCast_sub]
    rw [cst] at h1 h5
    grind
theorem near_hi (H : Rt h r η) (hh : 1 ≤ h) (hd : Enc d h s) (hin : inD d) (hl : inX l) (hb : 0 ≤ b ∧ b ≤ 100000000) (he : 0 ≤ ε) (hq : ∀ t, t0 ≤ t → t < t0 + s → q t ≤ (b : Rat))
    (hx : traj q r x0 t0 ≤ (l.hi : Rat) + ε) : traj q r x0 (t0 + s) ≤ ((nearM l a b d).hi : Rat) + (ε + MX * ((s : Rat) * η)) := by
  have g1 := traj_le (x0 := x0) H.r0 H.rle s hq
  have p0 : (0 : Rat) ≤ r ^ s := Rat.pow_nonneg H.r0
  have p1 := pow_le1 H.r0 H.rle s
  have u0 : (0 : Rat) ≤ (s : Rat) * η := Rat.mul_nonneg Rat.natCast_nonneg H.e0
  have u1 : (0 : Rat) ≤ MX * ((s : Rat) * η) := Rat.mul_nonneg (by unfold MX; decide) u0
  have k1 : (traj q r x0 t0 - (b : Rat)) * r ^ s ≤ ((l.hi : Rat) + ε - (b : Rat)) * r ^ s := Rat.mul_le_mul_of_nonneg_right (by grind) p0
  have k2 : ε * r ^ s ≤ ε * 1 := Rat.mul_le_mul_of_nonneg_left p1 he
  unfold nearM
  dsimp only
  by_cases hc : l.hi ≥ b
  · rw [if_pos hc]
    have h1 := quo_ge (x := l.hi - b) (d := d.hi)
    have h2 := H.dhi hh hd hin
    have h3 : (0 : Rat) ≤ ((l.hi - b : Int) : Rat) := c_nn (by omega)
    have h5 : ((l.hi - b : Int) : Rat) * r ^ s ≤ ((l.hi - b : Int) : Rat) * fr d.hi := Rat.mul_le_mul_of_nonneg_left h2 h3
    rw [Rat.intCast_add]
    rw [cst] at h1 h5
    grind
  · rw [if_neg hc]
    have h1 := quo_le (x := b - l.hi) (d := d.lo)
    have h2 := H.dlo hh hd hin
    have h3 : (0 : Rat) ≤ ((b - l.hi : Int) : Rat) := c_nn (by omega)
    have h4 : ((b - l.hi : Int) : Rat) ≤ MX := le_MX (by have := hl.c; omega)
    have h5 : ((b - l.hi : Int) : Rat) * fr d.lo ≤ ((b - l.hi : Int) : Rat) * (r ^ s + (s : Rat) * η) := Rat.mul_le_mul_of_nonneg_left h2 h3
    have h6 : ((b - l.hi : Int) : Rat) * ((s : Rat) * η) ≤ MX * ((s : Rat) * η) := Rat.mul_le_mul_of_nonneg_right h4 u0
    rw [Rat.intCast_sub]
    rw [cst] at h1 h5 h6
    grind
theorem near_mid (H : Rt h r η) (hh : 1 ≤ h) (hd : Enc d h s) (hin : inD d) (hl : inX l) (hb : 0 ≤ b ∧ b ≤ 100000000) (he : 0 ≤ ε) {j : Nat} (hj : j ≤ s) (hq : ∀ t, t0 ≤ t → t < t0 + s → q t ≤ (b : Rat))
    (hx : traj q r x0 t0 ≤ (l.hi : Rat) + ε) : traj q r x0 (t0 + j) ≤ ((max l.hi (nearM l a b d).hi : Int) : Rat) + (ε + MX * ((s : Rat) * η)) := by
  have g1 := traj_le (x0 := x0) H.r0 H.rle j (fun t ht hlt => hq t ht (by omega))
  have p0 : (0 : Rat) ≤ r ^ j := Rat.pow_nonneg H.r0
  have p1 := pow_le1 H.r0 H.rle j
  have p2 := pow_anti H.r0 H.rle hj
  have u0 : (0 : Rat) ≤ (s : Rat) * η := Rat.mul_nonneg Rat.natCast_nonneg H.e0
  have u1 : (0 : Rat) ≤ MX * ((s : Rat) * η) := Rat.mul_nonneg (by unfold MX; decide) u0
  have k1 : (traj q r x0 t0 - (b : Rat)) * r ^ j ≤ ((l.hi : Rat) + ε - (b : Rat)) * r ^ j := Rat.mul_le_mul_of_nonneg_right (by grind) p0
  have k2 : ε * r ^ j ≤ ε * 1 := Rat.mul_le_mul_of_nonneg_left p1 he
  by_cases hc : l.hi ≥ b
  · have h3 : (0 : Rat) ≤ ((l.hi - b : Int) : Rat) := c_nn (by omega)
    have h5 : ((l.hi - b : Int) : Rat) * r ^ j ≤ ((l.hi - b : Int) : Rat) * 1 := Rat.mul_le_mul_of_nonneg_left p1 h3
    have h6 : (l.hi : Rat) ≤ ((max l.hi (nearM l a b d).hi : Int) : Rat) := cle (by omega)
    rw [cst] at h5
    grind
  · have h6 : ((nearM l a b d).hi : Rat) ≤ ((max l.hi (nearM l a b d).hi : Int) : Rat) := cle (by omega)
    have h7 : (b : Rat) - ((b - l.hi : Int) : Rat) * (r ^ s + (s : Rat) * η) ≤ ((nearM l a b d).hi : Rat) := by
      unfold nearM
      dsimp only
      rw [if_neg hc]
      have h1 := quo_le (x := b - l.hi) (d := d.lo)
      have h2 := H.dlo hh hd hin
      have h3 : (0 : Rat) ≤ ((b - l.hi : Int) : Rat) := c_nn (by omega)
      have h5 : ((b - l.hi : Int) : Rat) * fr d.lo ≤ ((b - l.hi : Int) : Rat) * (r ^ s + (s : Rat) * η) := Rat.mul_le_mul_of_nonneg_left h2 h3
      rw [Rat.intCast_sub]
      grind
    have h3 : (0 : Rat) ≤ ((b - l.hi : Int) : Rat) := c_nn (by omega)
    have h4 : ((b - l.hi : Int) : Rat) ≤ MX := le_MX (by have := hl.c; omega)
    have h8 : ((b - l.hi : Int) : Rat) * ((s : Rat) * η) ≤ MX * ((s : Rat) * η) := Rat.mul_le_mul_of_nonneg_right h4 u0
    have h9 : ((b - l.hi : Int) : Rat) * r ^ s ≤ ((b - l.hi : Int) : Rat) * r ^ j := Rat.mul_le_mul_of_nonneg_left p2 h3
    rw [cst] at h7 h8 h9
    grind
end
end Go.Proofs.YthilaakeimfedaaGreatDoor
