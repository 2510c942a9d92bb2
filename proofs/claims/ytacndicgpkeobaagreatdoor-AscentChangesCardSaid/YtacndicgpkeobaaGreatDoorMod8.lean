/-
  Plain models of chapter 3: peaks, and whether a task is kept. Conditions: none; no program in sight.
-/
import Derived.Test.YtacndicgpkeobaaGreatDoorMod7
namespace Go.Proofs.YtacndicgpkeobaaGreatDoor

def ckTask (ts : List Cp) (ls : List Ld) (x : Lg) (fa : Int) : Int := if ckLoads ts ls ≠ 0 then ckLoads ts ls else if ckLeg x ≠ 0 then ckLeg x else if 0 ≤ fa ∧ fa ≤ 1000 then 0 else 2
def ckFine (ts : List Cp) (ls : List Ld) (x : Lg) (fa fi : Int) : Int := if ckTask ts ls x fa ≠ 0 then ckTask ts ls x fa else if 0 ≤ fi ∧ fi ≤ 6 then 0 else 2
structure okTask (ts : List Cp) (ls : List Ld) (x : Lg) (fa : Int) : Prop where
  k : okTL ts ls
  ct : ckLoads ts ls = 0
  xx : okLg x
  cx : ckLeg x = 0
  fa : 0 ≤ fa ∧ fa ≤ 1000
theorem ckTask_ok {ts : List Cp} {ls : List Ld} {x : Lg} {g : Int} (h : ckTask ts ls x g = 0) : okTask ts ls x g := by
  unfold ckTask at h
  by_cases h1 : ckLoads ts ls ≠ 0
  · rw [if_pos h1] at h; exact absurd h h1
  · rw [if_neg h1] at h
    by_cases h2 : ckLeg x ≠ 0
    · rw [if_pos h2] at h; exact absurd h h2
    · rw [if_neg h2] at h
      by_cases h3 : 0 ≤ g ∧ g ≤ 1000
      · exact ⟨ckLoads_ok (Decidable.not_not.1 h1), Decidable.not_not.1 h1, (ckLeg_ok (Decidable.not_not.1 h2)).1, Decidable.not_not.1 h2, h3⟩
      · rw [if_neg h3] at h; cases h
theorem ckFine_ok {ts : List Cp} {ls : List Ld} {x : Lg} {g fi : Int} (h : ckFine ts ls x g fi = 0) : okTask ts ls x g ∧ 0 ≤ fi ∧ fi ≤ 6 := by
  unfold ckFine at h
  by_cases h1 : ckTask ts ls x g ≠ 0
  · rw [if_pos h1] at h; exact absurd h h1
  · rw [if_neg h1] at h
    by_cases h2 : 0 ≤ fi ∧ fi ≤ 6
    · exact ⟨ckTask_ok (Decidable.not_not.1 h1), h2⟩
    · rw [if_neg h2] at h; cases h

/-! ### Peaks -/
def peakL (x y : Ld) : Int := max x.n.hi y.n.hi + max x.h.hi y.h.hi
def pk1 (p f : Int) (c : Cp) (xy : Ld × Ld) : Prop := 1000 * peakL xy.1 xy.2 ≤ limM c p f
instance (p f : Int) (c : Cp) (xy : Ld × Ld) : Decidable (pk1 p f c xy) := by unfold pk1; infer_instance
abbrev pkP (p f : Int) (ts : List Cp) (a b : List Ld) := all2 (pk1 p f) ts (a.zip b)
theorem zip_get {α β : Type} {a : List α} {b : List β} {k : Nat} {x : α} {y : β} (h1 : a[k]? = some x) (h2 : b[k]? = some y) : (a.zip b)[k]? = some (x, y) := by rw [List.getElem?_zip_eq_some]; exact ⟨h1, h2⟩
theorem zip_at {α β : Type} {a : List α} {b : List β} {k : Nat} {p : α × β} (h : (a.zip b)[k]? = some p) : a[k]? = some p.1 ∧ b[k]? = some p.2 := List.getElem?_zip_eq_some.1 h
def prevM (f : Nat) (ts : List Cp) (ls : List Ld) (x : Lg) (n : Nat) : Nat → List Ld
  | 0 => ls
  | k + 1 => stM f ts ls x n k
def yesB (fa : Int) (f : Nat) (ts : List Cp) (ls : List Ld) (x : Lg) (n : Nat) : Nat → Bool
  | 0 => true
  | k + 1 => yesB fa f ts ls x n k && decide (pkP (lowM x n k) fa ts (prevM f ts ls x n k) (stM f ts ls x n k))
def noB (fa : Int) (f : Nat) (ts : List Cp) (ls : List Ld) (x : Lg) (n : Nat) : Nat → Bool
  | 0 => false
  | k + 1 => noB fa f ts ls x n k || decide (¬ lowP (mkM x n k).p.hi fa ts (stM f ts ls x n k))
def rmkN (x : Lg) (n : Nat) : Nat := if x.s = 0 then 1 else n + 1
def ansM (y n : Bool) : Int := if y = true then 2 else if n = true then 0 else 1
def keptT (ts : List Cp) (ls : List Ld) (x : Lg) (fa : Int) (f : Nat) : Int := ansM (yesB fa f ts ls x (2 ^ f) (rmkN x (2 ^ f))) (noB fa f ts ls x (2 ^ f) (rmkN x (2 ^ f)))
theorem yesB_iff {fa : Int} {f : Nat} {ts : List Cp} {ls : List Ld} {x : Lg} {n : Nat} : ∀ {k : Nat}, yesB fa f ts ls x n k = true ↔ ∀ j, j < k → pkP (lowM x n j) fa ts (prevM f ts ls x n j) (stM f ts ls x n j)
  | 0 => by simp [yesB]
  | k + 1 => by
    unfold yesB
    rw [Bool.and_eq_true, yesB_iff, decide_eq_true_eq]
    constructor
    · rintro ⟨h1, h2⟩ j hj
      rcases Nat.lt_succ_iff_lt_or_eq.1 hj with h | rfl
      · exact h1 j h
      · exact h2
    · exact fun h => ⟨fun j hj => h j (by omega), h k (by omega)⟩
theorem noB_iff {fa : Int} {f : Nat} {ts : List Cp} {ls : List Ld} {x : Lg} {n : Nat} : ∀ {k : Nat}, noB fa f ts ls x n k = true ↔ ∃ j, j < k ∧ ¬ lowP (mkM x n j).p.hi fa ts (stM f ts ls x n j)
  | 0 => by simp [noB]
  | k + 1 => by
    unfold noB
    rw [Bool.or_eq_true, noB_iff, decide_eq_true_eq]
    constructor
    · rintro (⟨j, h1, h2⟩ | h)
      · exact ⟨j, by omega, h2⟩
      · exact ⟨k, by omega, h⟩
    · rintro ⟨j, h1, h2⟩
      rcases Nat.lt_succ_iff_lt_or_eq.1 h1 with h | rfl
      · exact .inl ⟨j, h, h2⟩
      · exact .inr h2
def kB (fa : Int) (f : Nat) (ts : List Cp) (ls : List Ld) (x : Lg) (n : Nat) : Nat → Bool
  | 0 => if x.s = 0 then decide (holdP (mkM x n (0 : Nat)).p.lo fa ts ls) else true
  | k + 1 => kB fa f ts ls x n k && decide (pkP (stLo x n k) fa ts (stM f ts ls x n k) (stM f ts ls x n (k + 1)))
theorem kB_iff {fa : Int} {f : Nat} {ts : List Cp} {ls : List Ld} {x : Lg} {n : Nat} (hs : x.s ≠ 0) : ∀ {k : Nat}, kB fa f ts ls x n k = true ↔ ∀ j, j < k → pkP (lowM x n (j + 1)) fa ts (prevM f ts ls x n (j + 1)) (stM f ts ls x n (j + 1))
  | 0 => by simp [kB, hs]
  | k + 1 => by
    unfold kB
    rw [Bool.and_eq_true, kB_iff hs, decide_eq_true_eq]
    constructor
    · rintro ⟨h1, h2⟩ j hj
      rcases Nat.lt_succ_iff_lt_or_eq.1 hj with h | rfl
      · exact h1 j h
      · exact h2
    · exact fun h => ⟨fun j hj => h j (by omega), h k (by omega)⟩
theorem lim_up {c : Cp} {p q f : Int} (hc : okCp c) (hf : 0 ≤ f ∧ f ≤ 1000) (hpq : p ≤ q) : limM c p f ≤ limM c q f := by
  rw [lim_line c p f, lim_line c q f]
  have := rise_in hc hf
  have := Int.mul_le_mul_of_nonneg_right hpq (show 0 ≤ 1000000 + f * (c.s - 1000) by omega)
  omega
theorem low_le {x : Lg} {n j : Nat} (h : okLg x) (hn : 1 ≤ n ∧ n ≤ 64) (hj : j ≤ n) : lowM x n j ≤ (mkM x n j).p.lo ∧ (mkM x n j).p.lo ≤ (mkM x n j).p.hi ∧ 400 ≤ lowM x n j ∧ (mkM x n j).p.hi ≤ 31100 := by
  have h1 := mk_in (j := (j : Int)) h (n := (n : Int)) (by omega) (by omega)
  cases j with
  | zero =>
    have e : lowM x n 0 = (mkM x n (0 : Nat)).p.lo := rfl
    rw [e]
    omega
  | succ k =>
    have h2 := mk_in (j := (k : Int)) h (n := (n : Int)) (by omega) (by omega)
    have e2 : lowM x n (k + 1) = min (mkM x n k).p.lo (mkM x n ((k : Int) + 1)).p.lo := rfl
    have e : (((k + 1 : Nat) : Int)) = (k : Int) + 1 := by omega
    rw [e2]
    rw [e] at h1 ⊢
    omega
theorem pk_low {ts : List Cp} {a b : List Ld} {p q f : Int} (hc : ∀ c ∈ ts, okCp c) (hf : 0 ≤ f ∧ f ≤ 1000) (hpq : p ≤ q) (ho : ∀ y ∈ b, ordLd y) (hlen : a.length = b.length) (h : pkP p f ts a b) : lowP q f ts b := all2_get fun k c y hck hy => by
  have hk : k < a.length := by rw [hlen]; exact (List.getElem?_eq_some_iff.1 hy).1
  have h1 := all2_at h k c _ hck (zip_get (List.getElem?_eq_getElem hk) hy)
  have h2 := ho y (List.mem_of_getElem? hy)
  have h3 := lim_up (hc c (List.mem_of_getElem? hck)) hf hpq
  unfold pk1 peakL at h1
  unfold ordLd at h2
  unfold lw1
  dsimp only at h1
  omega
structure onTask (ts : List Cp) (ls : List Ld) (x : Lg) (fa : Int) (f n : Nat) : Prop where
  t : okTask ts ls x fa
  fb : f ≤ 6
  nb : n = 2 ^ f
theorem prevM_len {f : Nat} {ts : List Cp} {ls : List Ld} {x : Lg} {n : Nat} (h : ls.length = ts.length) : ∀ k, (prevM f ts ls x n k).length = ts.length
  | 0 => h
  | k + 1 => stM_len h k
theorem yes_not_no {ts : List Cp} {ls : List Ld} {x : Lg} {g : Int} {f n : Nat} (H : onTask ts ls x g f n) {k : Nat} (hk : k ≤ n + 1) (hy : yesB g f ts ls x n k = true) : noB g f ts ls x n k = false := by
  have h64 := two_f H.fb H.nb
  cases hno : noB g f ts ls x n k with
  | false => rfl
  | true =>
    obtain ⟨j, hj, hb⟩ := noB_iff.1 hno
    have h1 := yesB_iff.1 hy j hj
    have hl := low_le H.t.xx h64 (show j ≤ n by omega)
    exact absurd (pk_low H.t.k.c H.t.fa (by omega) (stM_ord H.t.xx h64 H.t.k.c H.t.k.o j (by omega)) (by rw [prevM_len H.t.k.len, stM_len H.t.k.len]) h1) hb
theorem yes_kB {ts : List Cp} {ls : List Ld} {x : Lg} {g : Int} {f n : Nat} (H : onTask ts ls x g f n) : yesB g f ts ls x n (rmkN x n) = kB g f ts ls x n (rmkN x n - 1) := by
  have h64 := two_f H.fb H.nb
  by_cases h0 : x.s = 0
  · unfold rmkN
    rw [if_pos h0]
    show (true && decide _) = kB g f ts ls x n 0
    unfold kB
    rw [if_pos h0, Bool.true_and]
    refine decide_eq_decide.2 ?_
    have key : ∀ (c : Cp) (y : Ld), pk1 (lowM x n 0) g c (y, y) ↔ up1 (mkM x n (0 : Nat)).p.lo g c y := fun c y => by
      unfold pk1 up1 peakL lowM
      rw [Int.max_self, Int.max_self]
    constructor
    · intro h
      refine all2_get fun k c y hc hy => (key c y).1 (all2_at h k c (y, y) hc (zip_get hy hy))
    · intro h
      refine all2_get fun k c p hc hp => ?_
      obtain ⟨h1, h2⟩ := zip_at hp
      have : p.1 = p.2 := by
        have h1' : ls[k]? = some p.1 := h1
        have h2' : ls[k]? = some p.2 := h2
        rw [h1'] at h2'
        injection h2'
      have h3 := (key c p.1).2 (all2_at h k c p.1 hc h1)
      obtain ⟨p1, p2⟩ := p
      dsimp only at this
      subst this
      exact h3
  · have hr : rmkN x n = n + 1 := if_neg h0
    rw [hr, Nat.add_sub_cancel]
    have hiff : yesB g f ts ls x n (n + 1) = true ↔ kB g f ts ls x n n = true := by
      rw [yesB_iff, kB_iff h0]
      constructor
      · exact fun h j hj => h (j + 1) (by omega)
      · intro h j hj
        cases j with
        | succ j => exact h j (by omega)
        | zero =>
          have h1 : pkP (lowM x n 1) g ts (prevM f ts ls x n 1) (stM f ts ls x n 1) := h 0 (by omega)
          refine all2_get fun k c p hc hp => ?_
          obtain ⟨q1, q2⟩ := zip_at hp
          have hkl : k < ts.length := (List.getElem?_eq_some_iff.1 hc).1
          have hk1 : k < (stM f ts ls x n 1).length := by rw [stM_len H.t.k.len]; exact hkl
          have h2 := all2_at h1 k c _ hc (zip_get (a := prevM f ts ls x n 1) q2 (List.getElem?_eq_getElem hk1))
          have h3 : p.1 = p.2 := by
            have a1 : ls[k]? = some p.1 := q1
            have a2 : ls[k]? = some p.2 := q2
            rw [a1] at a2
            injection a2
          have h4 := lim_up (hc := H.t.k.c c (List.mem_of_getElem? hc)) (p := lowM x n 1) (q := lowM x n 0) H.t.fa (by unfold lowM; exact Int.min_le_left _ _)
          unfold pk1 peakL at h2 ⊢
          dsimp only at h2 ⊢
          rw [h3, Int.max_self, Int.max_self]
          omega
    cases h1 : yesB g f ts ls x n (n + 1) <;> cases h2 : kB g f ts ls x n n <;> simp_all
theorem kept_ref {ts : List Cp} {ls : List Ld} {x : Lg} {g : Int} {f n : Nat} (H : onTask ts ls x g f n) (k b : Bool) (hk : k = kB g f ts ls x n (rmkN x n - 1)) (hb : b = noB g f ts ls x n (rmkN x n)) :
    keptT ts ls x g f = if k = true ∧ b = false then 2 else if b = true ∧ k = false then 0 else 1 := by
  unfold keptT
  rw [← H.nb, yes_kB H, ← hk, ← hb]
  have h1 := yes_not_no H (k := rmkN x n) (by unfold rmkN; split <;> omega)
  rw [yes_kB H, ← hk, ← hb] at h1
  cases k <;> cases b <;> simp_all [ansM]
/-! ### The greatest peaks -/
def pkL (a b : List Ld) : List Int := List.zipWith peakL a b
def peaksK (f : Nat) (ts : List Cp) (ls : List Ld) (x : Lg) (n : Nat) : Nat → List Int
  | 0 => List.replicate ts.length 0
  | k + 1 => List.zipWith max (peaksK f ts ls x n k) (pkL (prevM f ts ls x n k) (stM f ts ls x n k))
def peaksT (ts : List Cp) (ls : List Ld) (x : Lg) (f : Nat) : List Int := peaksK f ts ls x (2 ^ f) (rmkN x (2 ^ f))
theorem peak_in {a b : Ld} (ha : inLd a) (hb : inLd b) : 0 ≤ peakL a b ∧ peakL a b ≤ 200000000 := by
  obtain ⟨⟨a1, a2, a3, a4⟩, ⟨a5, a6, a7, a8⟩⟩ := ha
  obtain ⟨⟨b1, b2, b3, b4⟩, ⟨b5, b6, b7, b8⟩⟩ := hb
  unfold peakL
  omega
theorem prevM_in {f : Nat} {ts : List Cp} {ls : List Ld} {x : Lg} {n : Nat} (hx : okLg x) (hn : 1 ≤ n ∧ n ≤ 64) (hl : ∀ y ∈ ls, inLd y) : ∀ k, k ≤ n + 1 → ∀ y ∈ prevM f ts ls x n k, inLd y
  | 0, _ => hl
  | k + 1, hk => stM_in hx hn hl k (by omega)
theorem stM_ok {ts : List Cp} {ls : List Ld} {x : Lg} {g : Int} {f n : Nat} (H : onTask ts ls x g f n) {k : Nat} (hk : k ≤ n) : okTL ts (stM f ts ls x n k) :=
  ⟨H.t.k.a, H.t.k.b, stM_len H.t.k.len k, H.t.k.c, stM_in H.t.xx (two_f H.fb H.nb) H.t.k.x k hk, stM_ord H.t.xx (two_f H.fb H.nb) H.t.k.c H.t.k.o k hk⟩
theorem bool_iff {a b : Bool} (h : a = true ↔ b = true) : a = b := by cases a <;> cases b <;> simp_all
theorem yesB_next {fa : Int} {f : Nat} {ts : List Cp} {ls : List Ld} {x : Lg} {n k : Nat} {b : Bool} (h : b = true ↔ yesB fa f ts ls x n k = true ∧ pkP (lowM x n k) fa ts (prevM f ts ls x n k) (stM f ts ls x n k)) : b = yesB fa f ts ls x n (k + 1) :=
  bool_iff (by unfold yesB; rw [Bool.and_eq_true, decide_eq_true_eq]; exact h)
theorem kB_next {fa : Int} {f : Nat} {ts : List Cp} {ls : List Ld} {x : Lg} {n k : Nat} {b : Bool} (h : b = true ↔ kB fa f ts ls x n k = true ∧ pkP (stLo x n k) fa ts (stM f ts ls x n k) (stM f ts ls x n (k + 1))) : b = kB fa f ts ls x n (k + 1) :=
  bool_iff (by unfold kB; rw [Bool.and_eq_true, decide_eq_true_eq]; exact h)
theorem noB_t {fa : Int} {f : Nat} {ts : List Cp} {ls : List Ld} {x : Lg} {n k : Nat} (h : noB fa f ts ls x n k = true) : noB fa f ts ls x n (k + 1) = true := by unfold noB; rw [h]; rfl
theorem noB_f {fa : Int} {f : Nat} {ts : List Cp} {ls : List Ld} {x : Lg} {n k : Nat} (h : noB fa f ts ls x n k = false) : noB fa f ts ls x n (k + 1) = decide (¬ lowP (mkM x n k).p.hi fa ts (stM f ts ls x n k)) := by
  conv => lhs; unfold noB
  rw [h, Bool.false_or]
theorem kept_no {ts : List Cp} {ls : List Ld} {p f : Int} : keptM ts ls p f = 0 ↔ ¬ lowP p f ts ls := by
  unfold keptM
  by_cases h : lowP p f ts ls
  · rw [if_neg (fun hh => hh h)]
    by_cases h2 : holdP p f ts ls
    · rw [if_pos h2]; simp [h]
    · rw [if_neg h2]; simp [h]
  · rw [if_pos h]; simp [h]
theorem kept_yes {ts : List Cp} {ls : List Ld} {p f : Int} (ho : ∀ y ∈ ls, ordLd y) : keptM ts ls p f = 2 ↔ holdP p f ts ls := by
  unfold keptM
  by_cases h : lowP p f ts ls
  · rw [if_neg (fun hh => hh h)]
    by_cases h2 : holdP p f ts ls
    · rw [if_pos h2]; simp [h2]
    · rw [if_neg h2]; simp [h2]
  · rw [if_pos h]
    have : ¬ holdP p f ts ls := fun hh => h (hold_low ho hh)
    simp [this]
def decF (ts : List Cp) (ls : List Ld) (x : Lg) (fa : Int) (m : Nat) : Nat → Int × Int
  | 0 => (1, m)
  | j + 1 => if keptT ts ls x fa (m - j) ≠ 1 then (keptT ts ls x fa (m - j), ((m - j : Nat) : Int)) else decF ts ls x fa m j
def decT (ts : List Cp) (ls : List Ld) (x : Lg) (fa : Int) (m : Nat) : Int × Int := decF ts ls x fa m (m + 1)
theorem decF_step {ts : List Cp} {ls : List Ld} {x : Lg} {fa : Int} {m k : Nat} (hk : k ≤ m) : decF ts ls x fa m (m + 1 - k) = if keptT ts ls x fa k ≠ 1 then (keptT ts ls x fa k, (k : Int)) else decF ts ls x fa m (m + 1 - (k + 1)) := by
  rw [show m + 1 - k = (m + 1 - (k + 1)) + 1 by omega]
  conv => lhs; unfold decF
  rw [show m - (m + 1 - (k + 1)) = k by omega]
def decE_ (ts : List Cp) (ls : List Ld) (x : Lg) (fa fi : Int) : (Int × Int) × Int := if ckFine ts ls x fa fi ≠ 0 then ((0, 0), ckFine ts ls x fa fi) else (decT ts ls x fa fi.toNat, 0)
theorem decE_1 {ts : List Cp} {ls : List Ld} {x : Lg} {g fi : Int} (h : ckFine ts ls x g fi ≠ 0) : decE_ ts ls x g fi = ((0, 0), ckFine ts ls x g fi) := if_pos h
theorem decE_2 {ts : List Cp} {ls : List Ld} {x : Lg} {g : Int} {f : Nat} (h : ckFine ts ls x g (f : Int) = 0) : decE_ ts ls x g (f : Int) = (decT ts ls x g f, 0) := if_neg (fun hh => hh h)
theorem noB_s_t {fa : Int} {f : Nat} {ts : List Cp} {ls : List Ld} {x : Lg} {n k : Nat} (h : ¬ lowP (mkM x n k).p.hi fa ts (stM f ts ls x n k)) : noB fa f ts ls x n (k + 1) = true := by unfold noB; rw [decide_eq_true h, Bool.or_true]
theorem noB_s_f {fa : Int} {f : Nat} {ts : List Cp} {ls : List Ld} {x : Lg} {n k : Nat} (h : lowP (mkM x n k).p.hi fa ts (stM f ts ls x n k)) : noB fa f ts ls x n (k + 1) = noB fa f ts ls x n k := by
  conv => lhs; unfold noB
  rw [decide_eq_false (fun hh => hh h), Bool.or_false]
theorem noB_first {fa : Int} {f : Nat} {ts : List Cp} {ls : List Ld} {x : Lg} {n : Nat} : noB fa f ts ls x n 1 = decide (¬ lowP (mkM x n (0 : Nat)).p.hi fa ts ls) := by
  show (false || decide _) = _
  rw [Bool.false_or]; rfl
theorem kB_z {fa : Int} {f : Nat} {ts : List Cp} {ls : List Ld} {x : Lg} {n : Nat} (h : x.s = 0) : kB fa f ts ls x n 0 = decide (holdP (mkM x n (0 : Nat)).p.lo fa ts ls) := by unfold kB; rw [if_pos h]
theorem kB_p {fa : Int} {f : Nat} {ts : List Cp} {ls : List Ld} {x : Lg} {n : Nat} (h : x.s ≠ 0) : kB fa f ts ls x n 0 = true := by unfold kB; rw [if_neg h]
theorem kept_fold {ts : List Cp} {ls : List Ld} {x : Lg} {g : Int} {f n : Nat} (H : onTask ts ls x g f n) {j : Nat} {k b : Bool} (hj : j + 1 = rmkN x n) (hk : k = kB g f ts ls x n j) (hb : b = noB g f ts ls x n (j + 1)) :
    keptT ts ls x g f = if k = true ∧ b = false then 2 else if b = true ∧ k = false then 0 else 1 := by
  exact kept_ref H k b (by rw [hk, ← hj, Nat.add_sub_cancel]) (by rw [hb, ← hj])
end Go.Proofs.YtacndicgpkeobaaGreatDoor
