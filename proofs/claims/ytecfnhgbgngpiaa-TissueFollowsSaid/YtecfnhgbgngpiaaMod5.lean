/-
  Plain models of chapter 3: what the statements' own functions and the smaller functions compute. Conditions: none; no program in sight.
-/
import Derived.Test.YtecfnhgbgngpiaaMod4
import Derived.Test.YtecfnhgbgngpiaaTr
namespace Go.Proofs.Ytecfnhgbgngpiaa

def ckDv (ts : List Cp) (ls : List Ld) (x : Lg) (fi : Int) : Int := if ckLoads ts ls ≠ 0 then ckLoads ts ls else if ckLeg x ≠ 0 then ckLeg x else if 0 ≤ fi ∧ fi ≤ 6 then 0 else 2
/-! ### Loads that meet, that lie inside -/
def mt1 (x y : Ld) : Prop := x.n.lo ≤ y.n.hi ∧ y.n.lo ≤ x.n.hi ∧ x.h.lo ≤ y.h.hi ∧ y.h.lo ≤ x.h.hi
instance (x y : Ld) : Decidable (mt1 x y) := by unfold mt1; infer_instance
def in1 (x y : Ld) : Prop := (y.n.lo ≤ x.n.lo ∧ x.n.hi ≤ y.n.hi) ∧ (y.h.lo ≤ x.h.lo ∧ x.h.hi ≤ y.h.hi)
instance (x y : Ld) : Decidable (in1 x y) := by unfold in1; infer_instance
/-- a relation at every place of two lists -/
def all2 {α β : Type} (R : α → β → Prop) : List α → List β → Prop
  | x :: a, y :: b => R x y ∧ all2 R a b
  | _, _ => True
def all2Dec {α β : Type} (R : α → β → Prop) [hR : ∀ x y, Decidable (R x y)] : ∀ a b, Decidable (all2 R a b)
  | x :: a, y :: b => by
    have := all2Dec R a b
    unfold all2
    infer_instance
  | [], _ => .isTrue (by unfold all2; trivial)
  | _ :: _, [] => .isTrue (by unfold all2; trivial)
instance {α β : Type} (R : α → β → Prop) [∀ x y, Decidable (R x y)] (a : List α) (b : List β) : Decidable (all2 R a b) := all2Dec R a b
theorem all2_step {α β : Type} {R : α → β → Prop} {a : List α} {b : List β} {k : Nat} {x : α} {y : β} (h1 : a[k]? = some x) (h2 : b[k]? = some y) : all2 R (a.drop k) (b.drop k) ↔ R x y ∧ all2 R (a.drop (k + 1)) (b.drop (k + 1)) := by
  rw [drop_cons h1, drop_cons h2]
  exact Iff.rfl
theorem all2_end {α β : Type} {R : α → β → Prop} {a : List α} {b : List β} {k : Nat} (h : a.length ≤ k) : all2 R (a.drop k) (b.drop k) := by
  rw [drop_all h]
  unfold all2
  trivial
theorem all2_get {α β : Type} {R : α → β → Prop} : ∀ {a : List α} {b : List β}, (∀ (k : Nat) (x : α) (y : β), a[k]? = some x → b[k]? = some y → R x y) → all2 R a b
  | x :: a, y :: b, h => ⟨h 0 x y rfl rfl, all2_get fun k u v hu hv => h (k + 1) u v hu hv⟩
  | [], _, _ => by unfold all2; trivial
  | _ :: _, [], _ => by unfold all2; trivial
theorem all2_at {α β : Type} {R : α → β → Prop} : ∀ {a : List α} {b : List β}, all2 R a b → ∀ (k : Nat) (x : α) (y : β), a[k]? = some x → b[k]? = some y → R x y
  | u :: a, v :: b, h, 0, x, y, hx, hy => by
    simp only [List.getElem?_cons_zero, Option.some.injEq] at hx hy
    subst hx; subst hy
    exact h.1
  | u :: a, v :: b, h, k + 1, x, y, hx, hy => all2_at h.2 k x y (by simpa using hx) (by simpa using hy)
  | [], _, _, k, x, y, hx, _ => by simp at hx
  | _ :: _, [], _, k, x, y, _, hy => by simp at hy
abbrev meetP := all2 mt1
abbrev insP := all2 in1
def insC (a b : List Ld) : Int := if a.length ≠ b.length then 10 else if ckLds a ≠ 0 then ckLds a else ckLds b
def insV (a b : List Ld) : Bool := decide (insC a b = 0 ∧ insP a b)
theorem insC_1 {a b : List Ld} (h : a.length ≠ b.length) : insC a b = 10 := if_pos h
theorem insC_2 {a b : List Ld} (h : ¬ a.length ≠ b.length) (h2 : ckLds a ≠ 0) : insC a b = ckLds a := by unfold insC; rw [if_neg h, if_pos h2]
theorem insC_3 {a b : List Ld} (h : ¬ a.length ≠ b.length) (h2 : ckLds a = 0) : insC a b = ckLds b := by unfold insC; rw [if_neg h, if_neg (by omega)]
theorem insV_no {a b : List Ld} (h : insC a b ≠ 0) : insV a b = false := decide_eq_false fun hh => h hh.1
/-- the first of two errors -/
def fst2 (c d : Int) : Int := if c ≠ 0 then c else d
theorem fst2_1 {c d : Int} (h : c ≠ 0) : fst2 c d = c := if_pos h
theorem fst2_0 {d : Int} : fst2 0 d = d := if_neg (by omega)
theorem ckLds_fst {a : List Ld} {k : Nat} {x : Ld} (h : a[k]? = some x) : ckLds (a.drop k) = fst2 (ckLd x) (ckLds (a.drop (k + 1))) := by
  rw [ckLds_step h]
  rfl
theorem insC_fst (a b : List Ld) : insC a b = fst2 (fst2 (if a.length ≠ b.length then 10 else 0) (ckLds a)) (ckLds b) := by
  unfold insC fst2
  by_cases h : a.length ≠ b.length <;> by_cases h2 : ckLds a ≠ 0 <;> simp [h, h2]
theorem fst2_e (c : Int) : fst2 c 0 = c := by unfold fst2; split <;> omega
theorem insC_len {a b : List Ld} (h : insC a b = 0) : a.length = b.length := by
  by_cases hl : a.length = b.length
  · exact hl
  · rw [insC_1 hl] at h; cases h

/-! ### A dive's error -/
structure okDv (ts : List Cp) (ls : List Ld) (x : Lg) (fi : Int) : Prop where
  k : okTL ts ls
  xx : okLg x
  z : x.s = 0 → x.f = x.t
  f : 0 ≤ fi ∧ fi ≤ 6
  ct : ckLoads ts ls = 0
  cx : ckLeg x = 0
theorem ckDv_ok {ts : List Cp} {ls : List Ld} {x : Lg} {fi : Int} (h : ckDv ts ls x fi = 0) : okDv ts ls x fi := by
  unfold ckDv at h
  split at h
  · rename_i h1; exact absurd h h1
  · rename_i h1
    split at h
    · rename_i h2; exact absurd h h2
    · rename_i h2
      split at h
      · rename_i h3
        have h1 := Decidable.not_not.1 h1
        have h2 := Decidable.not_not.1 h2
        exact ⟨ckLoads_ok h1, (ckLeg_ok h2).1, (ckLeg_ok h2).2, h3, h1, h2⟩
      · cases h
theorem loadedE_snd (ts : List Cp) (ls : List Ld) (x : Lg) (f : Int) : (loadedE ts ls x f).2 = ckDv ts ls x f := by
  unfold loadedE ckDv
  (repeat' split) <;> rfl
theorem loadedE_nil {ts : List Cp} {ls : List Ld} {x : Lg} {f : Int} (h : ckDv ts ls x f ≠ 0) : (loadedE ts ls x f).1 = [] := by
  unfold ckDv at h
  unfold loadedE
  by_cases h1 : ckLoads ts ls ≠ 0
  · rw [if_pos h1]
  · rw [if_neg h1] at h ⊢
    by_cases h2 : ckLeg x ≠ 0
    · rw [if_pos h2]
    · rw [if_neg h2] at h ⊢
      by_cases h3 : 0 ≤ f ∧ f ≤ 6
      · rw [if_pos h3] at h; exact absurd rfl h
      · rw [if_neg h3]
theorem loadedE_ok {ts : List Cp} {ls : List Ld} {x : Lg} {f : Nat} (h : okDv ts ls x f) : loadedE ts ls x (f : Int) = (loadedM ts ls x f, 0) :=
  loadedE_4 (fun hh => hh h.ct) (fun hh => hh h.cx) (by have := h.f; omega)

/-! ### Right loads stay right -/
theorem ckCps_mk : ∀ {ts : List Cp}, (∀ c ∈ ts, okCp c) → ckCps ts = 0
  | [], _ => rfl
  | c :: t, h => by
    unfold ckCps
    rw [if_pos (h c List.mem_cons_self)]
    exact ckCps_mk fun d hd => h d (List.mem_cons_of_mem _ hd)
theorem ckLd_mk {l : Ld} (h : inLd l) (ho : ordLd l) : ckLd l = 0 := by
  obtain ⟨⟨a1, a2, a3, a4⟩, ⟨b1, b2, b3, b4⟩⟩ := h
  have h1 := ckSpan_cases l.n
  have h2 := ckSpan_cases l.h
  unfold ordLd at ho
  unfold ckLd
  rw [if_neg (by omega), if_neg (by omega)]
theorem ckLds_mk : ∀ {ls : List Ld}, (∀ y ∈ ls, inLd y) → (∀ y ∈ ls, ordLd y) → ckLds ls = 0
  | [], _, _ => rfl
  | l :: t, h, ho => by
    unfold ckLds
    rw [if_neg (fun hh => hh (ckLd_mk (h l List.mem_cons_self) (ho l List.mem_cons_self)))]
    exact ckLds_mk (fun d hd => h d (List.mem_cons_of_mem _ hd)) (fun d hd => ho d (List.mem_cons_of_mem _ hd))
theorem ckLoads_mk {ts : List Cp} {ls : List Ld} (h : okTL ts ls) : ckLoads ts ls = 0 := by
  have h1 : ckTab ts = 0 := by unfold ckTab; rw [if_pos ⟨h.a, h.b⟩]; exact ckCps_mk h.c
  unfold ckLoads
  rw [if_neg (fun hh => hh h1), if_neg (fun hh => hh h.len)]
  exact ckLds_mk h.x h.o
theorem ediv_shift {x y c : Int} (h : x ≤ 1000000000 * c + y) : x / 1000000000 ≤ c + upZ y 1000000000 := by unfold upZ; omega
theorem near_ord {l d : Rg} {a b : Int} (hl : l.lo ≤ l.hi) (hab : a ≤ b) (hd : inD d) (hdd : d.lo ≤ d.hi) : (nearM l a b d).lo ≤ (nearM l a b d).hi := by
  obtain ⟨d1, d2, d3, d4⟩ := hd
  unfold nearM
  by_cases hc : l.lo ≥ a <;> by_cases he : l.hi ≥ b
  · rw [if_pos hc, if_pos he]
    have key : (l.lo - a) * d.lo ≤ 1000000000 * (b - a) + (l.hi - b) * d.hi := by
      by_cases hb : l.lo ≥ b
      · have h1 : (l.lo - b) * d.lo ≤ (l.hi - b) * d.hi := Int.mul_le_mul (by omega) hdd d1 (by omega)
        have h2 : (b - a) * d.lo ≤ (b - a) * 1000000000 := Int.mul_le_mul_of_nonneg_left d2 (by omega)
        have h3 : (l.lo - a) * d.lo = (l.lo - b) * d.lo + (b - a) * d.lo := by grind
        omega
      · have h1 : (l.lo - a) * d.lo ≤ (b - a) * 1000000000 := Int.mul_le_mul (by omega) d2 d1 (by omega)
        have h2 : 0 ≤ (l.hi - b) * d.hi := Int.mul_nonneg (by omega) d3
        omega
    have := ediv_shift key
    dsimp only
    omega
  · rw [if_pos hc, if_neg he]
    have key : (l.lo - a) * d.lo + (b - l.hi) * d.lo ≤ 1000000000 * (b - a) := by
      have h1 : (l.lo - a) * d.lo + (b - l.hi) * d.lo = (b - a - (l.hi - l.lo)) * d.lo := by grind
      by_cases hp : 0 ≤ b - a - (l.hi - l.lo)
      · have h2 : (b - a - (l.hi - l.lo)) * d.lo ≤ (b - a) * 1000000000 := Int.mul_le_mul (by omega) d2 d1 (by omega)
        omega
      · have h2 : (b - a - (l.hi - l.lo)) * d.lo ≤ 0 := Int.mul_nonpos_of_nonpos_of_nonneg (by omega) d1
        omega
    dsimp only
    omega
  · rw [if_neg hc, if_pos he]
    have h1 : 0 ≤ (a - l.lo) * d.hi := Int.mul_nonneg (by omega) d3
    have h2 : 0 ≤ (l.hi - b) * d.hi := Int.mul_nonneg (by omega) d3
    unfold upZ
    dsimp only
    omega
  · rw [if_neg hc, if_neg he]
    have key : (b - l.hi) * d.lo ≤ 1000000000 * (b - a) + (a - l.lo) * d.hi := by
      have h1 : (b - l.hi) * d.lo ≤ (b - l.lo) * d.lo := Int.mul_le_mul_of_nonneg_right (by omega) d1
      have h2 : (b - l.lo) * d.lo = (b - a) * d.lo + (a - l.lo) * d.lo := by grind
      have h3 : (b - a) * d.lo ≤ (b - a) * 1000000000 := Int.mul_le_mul_of_nonneg_left d2 (by omega)
      have h4 : (a - l.lo) * d.lo ≤ (a - l.lo) * d.hi := Int.mul_le_mul_of_nonneg_left hdd (by omega)
      omega
    have := ediv_shift key
    dsimp only
    omega
theorem decM_ord {s h : Int} (n : Nat) (hs : 0 ≤ s) (hh : 1 ≤ h) : (decM s h n).lo ≤ (decM s h n).hi := by
  obtain ⟨a, rfl⟩ := Int.eq_ofNat_of_zero_le hs
  obtain ⟨b, rfl⟩ := Int.eq_ofNat_of_zero_le (show 0 ≤ h by omega)
  obtain ⟨p1, p2⟩ := decM_enc (s := a) (h := b) n (by omega)
  have hd := decM_in a b n
  refine le_fr (rroot_le (n := b) (by omega) (fr_nn hd.c) ?_)
  have t := two_rpow_ge a
  exact Rat.le_of_mul_le_mul_right (Rat.le_trans p1 p2) (show (0 : Rat) < 2 ^ a by grind)
theorem step_ord {n : Nat} {s lo hi : Int} {g : Gs} {c : Cp} {x : Ld} (hs : 0 ≤ s) (hlh : lo ≤ hi) (hg : inG g) (hc : okCp c) (hx : ordLd x) : ordLd (stepL n s lo hi g c x) := by
  obtain ⟨g1, g2, g3⟩ := hg
  have hc1 := hc.1
  have hc2 := hc.2.2.1
  exact ⟨near_ord hx.1 (Int.mul_le_mul_of_nonneg_left (by omega) (by omega)) (decM_in _ _ _) (decM_ord n hs hc1), near_ord hx.2 (Int.mul_le_mul_of_nonneg_left (by omega) (by omega)) (decM_in _ _ _) (decM_ord n hs hc2)⟩
theorem stepM_ord {n : Nat} {s lo hi : Int} {g : Gs} {ts : List Cp} {ls : List Ld} (hs : 0 ≤ s) (hlh : lo ≤ hi) (hg : inG g) (hc : ∀ c ∈ ts, okCp c) (hx : ∀ x ∈ ls, ordLd x) : ∀ x ∈ stepM n s lo hi g ts ls, ordLd x := by
  intro x h
  unfold stepM at h
  rw [List.zipWith_eq_zipWith_take_min, ← List.map_uncurry_zip_eq_zipWith] at h
  obtain ⟨⟨c, y⟩, hm, rfl⟩ := List.mem_map.1 h
  have hz := List.of_mem_zip hm
  exact step_ord hs hlh hg (hc c (List.mem_of_mem_take hz.1)) (hx y (List.mem_of_mem_take hz.2))
theorem stM_ord {f : Nat} {ts : List Cp} {ls : List Ld} {x : Lg} {n : Nat} (hx : okLg x) (hn : 1 ≤ n ∧ n ≤ 64) (hc : ∀ c ∈ ts, okCp c) (hl : ∀ y ∈ ls, ordLd y) : ∀ k, k ≤ n → ∀ y ∈ stM f ts ls x n k, ordLd y
  | 0, _ => hl
  | k + 1, hk => by
    have h1 := mk_in (j := (k : Int)) hx (n := (n : Int)) (by omega) (by omega)
    have h2 := mk_in (j := (k : Int) + 1) hx (n := (n : Int)) (by omega) (by omega)
    have h3 := mk_mono hx hn.1 k
    exact stepM_ord (by omega) (by omega) hx.g hc (stM_ord hx hn hc hl k (by omega))
theorem loaded_ok {ts : List Cp} {ls : List Ld} {x : Lg} {f : Nat} (h : okTL ts ls) (hx : okLg x) (hf : f ≤ 6) : okTL ts (loadedM ts ls x f) := by
  obtain ⟨n, hn⟩ : ∃ n : Nat, n = 2 ^ f := ⟨_, rfl⟩
  have h64 := two_f hf hn
  refine ⟨h.a, h.b, loadedM_len h.len, h.c, ?_, ?_⟩
  · by_cases h0 : x.s = 0
    · rw [loadedM_zero h0]; exact h.x
    · rw [loadedM_pos h0 hn]; exact stM_in hx h64 h.x n (Nat.le_refl _)
  · by_cases h0 : x.s = 0
    · rw [loadedM_zero h0]; exact h.o
    · rw [loadedM_pos h0 hn]; exact stM_ord hx h64 h.c h.o n (Nat.le_refl _)
theorem restE_snd (ts : List Cp) (ls : List Ld) (p s : Int) : (restE ts ls p s).2 = if ckLoads ts ls ≠ 0 then ckLoads ts ls else if 400 ≤ p ∧ p ≤ 1100 ∧ 0 ≤ s ∧ s ≤ 1000000 then 0 else 2 := by
  unfold restE
  (repeat' split) <;> rfl
end Go.Proofs.Ytecfnhgbgngpiaa
