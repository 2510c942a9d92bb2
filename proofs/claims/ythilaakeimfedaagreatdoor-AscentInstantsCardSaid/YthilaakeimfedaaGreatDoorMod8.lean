/-
  Plain models of chapter 3: peaks, and whether a task is kept. Conditions: none; no program in sight.
-/
import Derived.Test.YthilaakeimfedaaGreatDoorTraj2
namespace Go.Proofs.YthilaakeimfedaaGreatDoor

/-! ### A rest as a leg -/
/-! ### Loads that lie in others -/
end Go.Proofs.YthilaakeimfedaaGreatDoor
namespace Go.Proofs.YthilaakeimfedaaGreatDoor

/-! ### Modulo -/
theorem emod_yes {n b : Int} (hb : 1 ≤ b) (h : n.tmod b < 0) : n.tmod b + b = n % b := by
  have h1 := Int.mul_tdiv_add_tmod n b
  have h2 := Int.lt_tmod_of_pos n (show 0 < b by omega)
  have h3 : (n.tmod b + b) + b * (n.tdiv b - 1) = n := by rw [Int.mul_sub, Int.mul_one]; omega
  exact ((Int.ediv_emod_unique (show 0 < b by omega)).2 ⟨h3, by omega, by omega⟩).2.symm
theorem emod_no {n b : Int} (hb : 1 ≤ b) (h : ¬ n.tmod b < 0) : n.tmod b = n % b := by
  have h1 := Int.mul_tdiv_add_tmod n b
  have h2 := Int.tmod_lt_of_pos n (show 0 < b by omega)
  have h3 : n.tmod b + b * n.tdiv b = n := by omega
  exact ((Int.ediv_emod_unique (show 0 < b by omega)).2 ⟨h3, by omega, by omega⟩).2.symm
theorem tmod_in {n b : Int} (hb : 1 ≤ b) : -b < n.tmod b ∧ n.tmod b < b := ⟨Int.lt_tmod_of_pos n (by omega), Int.tmod_lt_of_pos n (by omega)⟩

/-! ### Products of decays -/
/-! ### Rests -/
structure okRest (ts : List Cp) (ls : List Ld) (p s : Int) : Prop where
  k : okTL ts ls
  ct : ckLoads ts ls = 0
  r : 400 ≤ p ∧ p ≤ 1100 ∧ 0 ≤ s ∧ s ≤ 1000000
  e : restE ts ls p s = (restM ts ls p s, 0)
theorem restM_len {ts : List Cp} {ls : List Ld} {p s : Int} (h : ls.length = ts.length) : (restM ts ls p s).length = ts.length := stepM_len h
/-! ### Single numbers out of loads -/
/-! ### Limits kept -/
def lw1 (p f : Int) (c : Cp) (x : Ld) : Prop := 1000 * (x.n.lo + x.h.lo) ≤ limM c p f
instance (p f : Int) (c : Cp) (x : Ld) : Decidable (lw1 p f c x) := by unfold lw1; infer_instance
def up1 (p f : Int) (c : Cp) (x : Ld) : Prop := 1000 * (x.n.hi + x.h.hi) ≤ limM c p f
instance (p f : Int) (c : Cp) (x : Ld) : Decidable (up1 p f c x) := by unfold up1; infer_instance
abbrev lowP (p f : Int) := all2 (lw1 p f)
abbrev holdP (p f : Int) := all2 (up1 p f)
def keptM (ts : List Cp) (ls : List Ld) (p f : Int) : Int := if ¬ lowP p f ts ls then 0 else if holdP p f ts ls then 2 else 1
theorem hold_low {ts : List Cp} {ls : List Ld} {p f : Int} (ho : ∀ y ∈ ls, ordLd y) (h : holdP p f ts ls) : lowP p f ts ls := all2_get fun k c x hc hx => by
  have h1 := all2_at h k c x hc hx
  have h2 := ho x (List.mem_of_getElem? hx)
  unfold up1 at h1
  unfold ordLd at h2
  unfold lw1
  omega
theorem keptM_prog {ts : List Cp} {ls : List Ld} {p f : Int} (ho : ∀ y ∈ ls, ordLd y) : (if decide (holdP p f ts ls) = true then (2 : Int) else if decide (¬ lowP p f ts ls) = true then 0 else 1) = keptM ts ls p f := by
  unfold keptM
  by_cases h : holdP p f ts ls
  · have := hold_low ho h
    simp [h, this]
  · by_cases h2 : lowP p f ts ls <;> simp [h, h2]
def keptE (ts : List Cp) (ls : List Ld) (p f : Int) : Int × Int := if ckLoads ts ls ≠ 0 then (0, ckLoads ts ls) else if okPr p ∧ 0 ≤ f ∧ f ≤ 1000 then (keptM ts ls p f, 0) else (0, 2)
theorem keptE_1 {ts : List Cp} {ls : List Ld} {p f : Int} (h : ckLoads ts ls ≠ 0) : keptE ts ls p f = (0, ckLoads ts ls) := if_pos h
theorem keptE_2 {ts : List Cp} {ls : List Ld} {p f : Int} (h : ¬ ckLoads ts ls ≠ 0) (h2 : ¬ (okPr p ∧ 0 ≤ f ∧ f ≤ 1000)) : keptE ts ls p f = (0, 2) := by unfold keptE; rw [if_neg h, if_neg h2]
theorem keptE_3 {ts : List Cp} {ls : List Ld} {p f : Int} (h : ¬ ckLoads ts ls ≠ 0) (h2 : okPr p ∧ 0 ≤ f ∧ f ≤ 1000) : keptE ts ls p f = (keptM ts ls p f, 0) := by unfold keptE; rw [if_neg h, if_pos h2]
def ckAt (ts : List Cp) (ls : List Ld) (p f : Int) : Int := if ckLoads ts ls ≠ 0 then ckLoads ts ls else if okPr p ∧ 0 ≤ f ∧ f ≤ 1000 then 0 else 2
theorem ckAt_ok {ts : List Cp} {ls : List Ld} {p f : Int} (h : ckAt ts ls p f = 0) : ckLoads ts ls = 0 ∧ okPr p ∧ 0 ≤ f ∧ f ≤ 1000 := by
  unfold ckAt at h
  by_cases h1 : ckLoads ts ls ≠ 0
  · rw [if_pos h1] at h; exact absurd h h1
  · rw [if_neg h1] at h
    by_cases h2 : okPr p ∧ 0 ≤ f ∧ f ≤ 1000
    · exact ⟨Decidable.not_not.1 h1, h2⟩
    · rw [if_neg h2] at h; cases h
theorem keptE_ok {ts : List Cp} {ls : List Ld} {p f : Int} (h : ckAt ts ls p f = 0) : keptE ts ls p f = (keptM ts ls p f, 0) := by
  obtain ⟨h1, h2⟩ := ckAt_ok h
  exact keptE_3 (fun hh => hh h1) h2
end Go.Proofs.YthilaakeimfedaaGreatDoor
namespace Go.Proofs.YthilaakeimfedaaGreatDoor

/-! ### Ceilings -/
theorem lim_line (c : Cp) (p f : Int) : limM c p f = limM c 0 f + p * (1000000 + f * (c.s - 1000)) := by unfold limM; grind
structure okFa (ts : List Cp) (ls : List Ld) (f : Int) : Prop where
  k : okTL ts ls
  ct : ckLoads ts ls = 0
  fb : 0 ≤ f ∧ f ≤ 1000
  e : ceilE ts ls f = (ceilF f ts ls ⟨0, 0⟩, 0)
/-! ### The legs of a plan -/
structure Dl where
  s : Int
  d : Int
  g : Int
def ckGs : List Gs → Int
  | [] => 0
  | g :: t => if ckGas g.o g.h ≠ 0 then ckGas g.o g.h else ckGs t
theorem ckGs_step {gs : List Gs} {k : Nat} {g : Gs} (h : gs[k]? = some g) : ckGs (gs.drop k) = if ckGas g.o g.h ≠ 0 then ckGas g.o g.h else ckGs (gs.drop (k + 1)) := by rw [drop_cons h]; rfl
theorem ckGs_ok : ∀ {gs : List Gs}, ckGs gs = 0 → ∀ g ∈ gs, ckGas g.o g.h = 0
  | [], _, g, hg => by cases hg
  | d :: t, h, g, hg => by
    unfold ckGs at h
    split at h
    · rename_i h1; exact absurd h h1
    · rename_i h1
      rcases List.mem_cons.1 hg with rfl | hg
      · exact Decidable.not_not.1 h1
      · exact ckGs_ok h g hg
def gasAt (gs : List Gs) (i : Int) : Gs := gs[i.toNat]?.getD ⟨0, 0⟩
def legOf (sf dep : Int) (gs : List Gs) (x : Dl) : Lg := ⟨sf + dep, sf + x.d, x.s, gasAt gs x.g⟩
def ckDl (n dep : Int) (x : Dl) : Int := if ¬ (0 ≤ x.s ∧ x.s ≤ 100000 ∧ 0 ≤ x.d ∧ x.d ≤ 30000) then 2 else if ¬ (0 ≤ x.g ∧ x.g ≤ n - 1) then 6 else if x.s = 0 ∧ x.d ≠ dep then 11 else 0
def legsF (sf : Int) (gs : List Gs) : Int → List Dl → List Lg → List Lg × Int
  | _, [], acc => (acc, 0)
  | dep, x :: t, acc => if ckDl gs.length dep x ≠ 0 then ([], ckDl gs.length dep x) else legsF sf gs x.d t (acc ++ [legOf sf dep gs x])
theorem legsF_bad {sf dep : Int} {gs : List Gs} {ls : List Dl} {acc : List Lg} {k : Nat} {x : Dl} (h : ls[k]? = some x) (hc : ckDl gs.length dep x ≠ 0) : legsF sf gs dep (ls.drop k) acc = ([], ckDl gs.length dep x) := by rw [drop_cons h]; exact if_pos hc
theorem legsF_ok {sf dep : Int} {gs : List Gs} {ls : List Dl} {acc : List Lg} {k : Nat} {x : Dl} (h : ls[k]? = some x) (hc : ckDl gs.length dep x = 0) : legsF sf gs dep (ls.drop k) acc = legsF sf gs x.d (ls.drop (k + 1)) (acc ++ [legOf sf dep gs x]) := by rw [drop_cons h]; exact if_neg (fun hh => hh hc)
theorem legsF_end {sf dep : Int} {gs : List Gs} {ls : List Dl} {acc : List Lg} {k : Nat} (h : ls.length ≤ k) : legsF sf gs dep (ls.drop k) acc = (acc, 0) := by rw [drop_all h]; rfl
def legsE (sf : Int) (gs : List Gs) (ls : List Dl) : List Lg × Int :=
  if ¬ (400 ≤ sf ∧ sf ≤ 1100) then ([], 2) else if gs.length > 8 then ([], 8) else if ckGs gs ≠ 0 then ([], ckGs gs) else if ls.length > 60 then ([], 8) else legsF sf gs 0 ls []
theorem legsE_1 {sf : Int} {gs : List Gs} {ls : List Dl} (h : ¬ (400 ≤ sf ∧ sf ≤ 1100)) : legsE sf gs ls = ([], 2) := if_pos h
theorem legsE_2 {sf : Int} {gs : List Gs} {ls : List Dl} (h : 400 ≤ sf ∧ sf ≤ 1100) (h2 : gs.length > 8) : legsE sf gs ls = ([], 8) := by unfold legsE; rw [if_neg (fun hh => hh h), if_pos h2]
theorem legsE_3 {sf : Int} {gs : List Gs} {ls : List Dl} (h : 400 ≤ sf ∧ sf ≤ 1100) (h2 : ¬ gs.length > 8) (h3 : ckGs gs ≠ 0) : legsE sf gs ls = ([], ckGs gs) := by unfold legsE; rw [if_neg (fun hh => hh h), if_neg h2, if_pos h3]
theorem legsE_4 {sf : Int} {gs : List Gs} {ls : List Dl} (h : 400 ≤ sf ∧ sf ≤ 1100) (h2 : ¬ gs.length > 8) (h3 : ckGs gs = 0) (h4 : ls.length > 60) : legsE sf gs ls = ([], 8) := by unfold legsE; rw [if_neg (fun hh => hh h), if_neg h2, if_neg (fun hh => hh h3), if_pos h4]
theorem legsE_5 {sf : Int} {gs : List Gs} {ls : List Dl} (h : 400 ≤ sf ∧ sf ≤ 1100) (h2 : ¬ gs.length > 8) (h3 : ckGs gs = 0) (h4 : ¬ ls.length > 60) : legsE sf gs ls = legsF sf gs 0 ls [] := by unfold legsE; rw [if_neg (fun hh => hh h), if_neg h2, if_neg (fun hh => hh h3), if_neg h4]
def chain : Int → List Lg → Prop
  | _, [] => True
  | at_, x :: t => x.f = at_ ∧ ckLeg x = 0 ∧ chain x.t t
def lastT : Int → List Lg → Int
  | at_, [] => at_
  | _, x :: t => lastT x.t t
theorem chain_app : ∀ {a : List Lg} {at_ : Int} {x : Lg}, chain at_ a → x.f = lastT at_ a → ckLeg x = 0 → chain at_ (a ++ [x])
  | [], _, _, _, hf, hx => ⟨hf, hx, trivial⟩
  | _ :: _, _, _, h, hf, hx => ⟨h.1, h.2.1, chain_app h.2.2 hf hx⟩
theorem lastT_app : ∀ {a : List Lg} {at_ : Int} {x : Lg}, lastT at_ (a ++ [x]) = x.t
  | [], _, _ => rfl
  | y :: a, _, _ => lastT_app (a := a) (at_ := y.t)
theorem legsF_chain {sf : Int} {gs : List Gs} (hs : 400 ≤ sf ∧ sf ≤ 1100) (hg : ckGs gs = 0) : ∀ (ls : List Dl) (dep : Int) (acc : List Lg), 0 ≤ dep ∧ dep ≤ 30000 → chain sf acc → lastT sf acc = sf + dep → chain sf (legsF sf gs dep ls acc).1 ∧ (legsF sf gs dep ls acc).1.length ≤ acc.length + ls.length
  | [], _, acc, _, hc, _ => ⟨hc, by simp [legsF]⟩
  | x :: t, dep, acc, hd, hc, hl => by
    unfold legsF
    split
    · exact ⟨trivial, by simp⟩
    · rename_i hk
      have hk := Decidable.not_not.1 hk
      have hx : ckLeg (legOf sf dep gs x) = 0 := by
        unfold ckDl at hk
        split at hk
        · cases hk
        · split at hk
          · cases hk
          · split at hk
            · cases hk
            · rename_i h1 h2 h3
              have hgi : gasAt gs x.g ∈ gs := by
                unfold gasAt
                have : x.g.toNat < gs.length := by omega
                rw [List.getElem?_eq_getElem this]
                exact List.getElem_mem this
              unfold ckLeg legOf
              rw [if_neg (by unfold okPr; dsimp only; omega), if_neg (by dsimp only; exact fun hh => hh (ckGs_ok hg _ hgi)), if_neg (by dsimp only; omega)]
      have hxd : 0 ≤ x.d ∧ x.d ≤ 30000 := by
        unfold ckDl at hk
        split at hk
        · cases hk
        · omega
      obtain ⟨i1, i2⟩ := legsF_chain hs hg t x.d (acc ++ [legOf sf dep gs x]) hxd (chain_app hc (by rw [hl]; rfl) hx) (by rw [lastT_app]; rfl)
      exact ⟨i1, by rw [List.length_append, List.length_singleton] at i2; rw [List.length_cons]; omega⟩
theorem legsE_chain (sf : Int) (gs : List Gs) (ls : List Dl) : chain sf (legsE sf gs ls).1 ∧ (legsE sf gs ls).1.length ≤ 60 := by
  unfold legsE
  split
  · exact ⟨trivial, by simp⟩
  · split
    · exact ⟨trivial, by simp⟩
    · split
      · exact ⟨trivial, by simp⟩
      · split
        · exact ⟨trivial, by simp⟩
        · rename_i h1 h2 h3 h4
          have := legsF_chain (sf := sf) (gs := gs) (by omega) (Decidable.not_not.1 h3) ls 0 [] (by omega) trivial (by simp [lastT])
          exact ⟨this.1, by have := this.2; simp only [List.length_nil] at this; omega⟩
end Go.Proofs.YthilaakeimfedaaGreatDoor
namespace Go.Proofs.YthilaakeimfedaaGreatDoor

def ckTask (ts : List Cp) (ls : List Ld) (x : Lg) (fa : Int) : Int := if ckLoads ts ls ≠ 0 then ckLoads ts ls else if ckLeg x ≠ 0 then ckLeg x else if 0 ≤ fa ∧ fa ≤ 1000 then 0 else 2
def ckFine (ts : List Cp) (ls : List Ld) (x : Lg) (fa fi : Int) : Int := if ckTask ts ls x fa ≠ 0 then ckTask ts ls x fa else if 0 ≤ fi ∧ fi ≤ 6 then 0 else 2
structure okTask (ts : List Cp) (ls : List Ld) (x : Lg) (fa : Int) : Prop where
  k : okTL ts ls
  ct : ckLoads ts ls = 0
  xx : okLg x
  cx : ckLeg x = 0
  fa : 0 ≤ fa ∧ fa ≤ 1000
theorem ckTask_ok {ts : List Cp} {ls : List Ld} {x : Lg} {g : Int} (h : ckTask ts ls x g = 0) : okTask ts ls x g := by
  unfold ckTask at h
  by_cases h1 : ckLoads ts ls ≠ 0
  · rw [if_pos h1] at h; exact absurd h h1
  · rw [if_neg h1] at h
    by_cases h2 : ckLeg x ≠ 0
    · rw [if_pos h2] at h; exact absurd h h2
    · rw [if_neg h2] at h
      by_cases h3 : 0 ≤ g ∧ g ≤ 1000
      · exact ⟨ckLoads_ok (Decidable.not_not.1 h1), Decidable.not_not.1 h1, (ckLeg_ok (Decidable.not_not.1 h2)).1, Decidable.not_not.1 h2, h3⟩
      · rw [if_neg h3] at h; cases h
theorem ckFine_ok {ts : List Cp} {ls : List Ld} {x : Lg} {g fi : Int} (h : ckFine ts ls x g fi = 0) : okTask ts ls x g ∧ 0 ≤ fi ∧ fi ≤ 6 := by
  unfold ckFine at h
  by_cases h1 : ckTask ts ls x g ≠ 0
  · rw [if_pos h1] at h; exact absurd h h1
  · rw [if_neg h1] at h
    by_cases h2 : 0 ≤ fi ∧ fi ≤ 6
    · exact ⟨ckTask_ok (Decidable.not_not.1 h1), h2⟩
    · rw [if_neg h2] at h; cases h

/-! ### Peaks -/
def peakL (x y : Ld) : Int := max x.n.hi y.n.hi + max x.h.hi y.h.hi
def pk1 (p f : Int) (c : Cp) (xy : Ld × Ld) : Prop := 1000 * peakL xy.1 xy.2 ≤ limM c p f
instance (p f : Int) (c : Cp) (xy : Ld × Ld) : Decidable (pk1 p f c xy) := by unfold pk1; infer_instance
abbrev pkP (p f : Int) (ts : List Cp) (a b : List Ld) := all2 (pk1 p f) ts (a.zip b)
theorem zip_get {α β : Type} {a : List α} {b : List β} {k : Nat} {x : α} {y : β} (h1 : a[k]? = some x) (h2 : b[k]? = some y) : (a.zip b)[k]? = some (x, y) := by rw [List.getElem?_zip_eq_some]; exact ⟨h1, h2⟩
def prevM (f : Nat) (ts : List Cp) (ls : List Ld) (x : Lg) (n : Nat) : Nat → List Ld
  | 0 => ls
  | k + 1 => stM f ts ls x n k
def yesB (fa : Int) (f : Nat) (ts : List Cp) (ls : List Ld) (x : Lg) (n : Nat) : Nat → Bool
  | 0 => true
  | k + 1 => yesB fa f ts ls x n k && decide (pkP (lowM x n k) fa ts (prevM f ts ls x n k) (stM f ts ls x n k))
def noB (fa : Int) (f : Nat) (ts : List Cp) (ls : List Ld) (x : Lg) (n : Nat) : Nat → Bool
  | 0 => false
  | k + 1 => noB fa f ts ls x n k || decide (¬ lowP (mkM x n k).p.hi fa ts (stM f ts ls x n k))
def rmkN (x : Lg) (n : Nat) : Nat := if x.s = 0 then 1 else n + 1
def ansM (y n : Bool) : Int := if y = true then 2 else if n = true then 0 else 1
def keptT (ts : List Cp) (ls : List Ld) (x : Lg) (fa : Int) (f : Nat) : Int := ansM (yesB fa f ts ls x (2 ^ f) (rmkN x (2 ^ f))) (noB fa f ts ls x (2 ^ f) (rmkN x (2 ^ f)))
theorem yesB_iff {fa : Int} {f : Nat} {ts : List Cp} {ls : List Ld} {x : Lg} {n : Nat} : ∀ {k : Nat}, yesB fa f ts ls x n k = true ↔ ∀ j, j < k → pkP (lowM x n j) fa ts (prevM f ts ls x n j) (stM f ts ls x n j)
  | 0 => by simp [yesB]
  | k + 1 => by
    unfold yesB
    rw [Bool.and_eq_true, yesB_iff, decide_eq_true_eq]
    constructor
    · rintro ⟨h1, h2⟩ j hj
      rcases Nat.lt_succ_iff_lt_or_eq.1 hj with h | rfl
      · exact h1 j h
      · exact h2
    · exact fun h => ⟨fun j hj => h j (by omega), h k (by omega)⟩
theorem noB_iff {fa : Int} {f : Nat} {ts : List Cp} {ls : List Ld} {x : Lg} {n : Nat} : ∀ {k : Nat}, noB fa f ts ls x n k = true ↔ ∃ j, j < k ∧ ¬ lowP (mkM x n j).p.hi fa ts (stM f ts ls x n j)
  | 0 => by simp [noB]
  | k + 1 => by
    unfold noB
    rw [Bool.or_eq_true, noB_iff, decide_eq_true_eq]
    constructor
    · rintro (⟨j, h1, h2⟩ | h)
      · exact ⟨j, by omega, h2⟩
      · exact ⟨k, by omega, h⟩
    · rintro ⟨j, h1, h2⟩
      rcases Nat.lt_succ_iff_lt_or_eq.1 h1 with h | rfl
      · exact .inl ⟨j, h, h2⟩
      · exact .inr h2
theorem lim_up {c : Cp} {p q f : Int} (hc : okCp c) (hf : 0 ≤ f ∧ f ≤ 1000) (hpq : p ≤ q) : limM c p f ≤ limM c q f := by
  rw [lim_line c p f, lim_line c q f]
  have := rise_in hc hf
  have := Int.mul_le_mul_of_nonneg_right hpq (show 0 ≤ 1000000 + f * (c.s - 1000) by omega)
  omega
theorem low_le {x : Lg} {n j : Nat} (h : okLg x) (hn : 1 ≤ n ∧ n ≤ 64) (hj : j ≤ n) : lowM x n j ≤ (mkM x n j).p.lo ∧ (mkM x n j).p.lo ≤ (mkM x n j).p.hi ∧ 400 ≤ lowM x n j ∧ (mkM x n j).p.hi ≤ 31100 := by
  have h1 := mk_in (j := (j : Int)) h (n := (n : Int)) (by omega) (by omega)
  cases j with
  | zero =>
    have e : lowM x n 0 = (mkM x n (0 : Nat)).p.lo := rfl
    rw [e]
    omega
  | succ k =>
    have h2 := mk_in (j := (k : Int)) h (n := (n : Int)) (by omega) (by omega)
    have e2 : lowM x n (k + 1) = min (mkM x n k).p.lo (mkM x n ((k : Int) + 1)).p.lo := rfl
    have e : (((k + 1 : Nat) : Int)) = (k : Int) + 1 := by omega
    rw [e2]
    rw [e] at h1 ⊢
    omega
theorem pk_low {ts : List Cp} {a b : List Ld} {p q f : Int} (hc : ∀ c ∈ ts, okCp c) (hf : 0 ≤ f ∧ f ≤ 1000) (hpq : p ≤ q) (ho : ∀ y ∈ b, ordLd y) (hlen : a.length = b.length) (h : pkP p f ts a b) : lowP q f ts b := all2_get fun k c y hck hy => by
  have hk : k < a.length := by rw [hlen]; exact (List.getElem?_eq_some_iff.1 hy).1
  have h1 := all2_at h k c _ hck (zip_get (List.getElem?_eq_getElem hk) hy)
  have h2 := ho y (List.mem_of_getElem? hy)
  have h3 := lim_up (hc c (List.mem_of_getElem? hck)) hf hpq
  unfold pk1 peakL at h1
  unfold ordLd at h2
  unfold lw1
  dsimp only at h1
  omega
structure onTask (ts : List Cp) (ls : List Ld) (x : Lg) (fa : Int) (f n : Nat) : Prop where
  t : okTask ts ls x fa
  fb : f ≤ 6
  nb : n = 2 ^ f
theorem prevM_len {f : Nat} {ts : List Cp} {ls : List Ld} {x : Lg} {n : Nat} (h : ls.length = ts.length) : ∀ k, (prevM f ts ls x n k).length = ts.length
  | 0 => h
  | k + 1 => stM_len h k
def keptTE (ts : List Cp) (ls : List Ld) (x : Lg) (fa fi : Int) : Int × Int := if ckFine ts ls x fa fi ≠ 0 then (0, ckFine ts ls x fa fi) else (keptT ts ls x fa fi.toNat, 0)
theorem keptTE_1 {ts : List Cp} {ls : List Ld} {x : Lg} {g fi : Int} (h : ckFine ts ls x g fi ≠ 0) : keptTE ts ls x g fi = (0, ckFine ts ls x g fi) := if_pos h
theorem keptTE_2 {ts : List Cp} {ls : List Ld} {x : Lg} {g : Int} {f : Nat} (h : ckFine ts ls x g (f : Int) = 0) : keptTE ts ls x g (f : Int) = (keptT ts ls x g f, 0) := if_neg (fun hh => hh h)

/-! ### The greatest peaks -/
def pkL (a b : List Ld) : List Int := List.zipWith peakL a b
def peaksK (f : Nat) (ts : List Cp) (ls : List Ld) (x : Lg) (n : Nat) : Nat → List Int
  | 0 => List.replicate ts.length 0
  | k + 1 => List.zipWith max (peaksK f ts ls x n k) (pkL (prevM f ts ls x n k) (stM f ts ls x n k))
def peaksT (ts : List Cp) (ls : List Ld) (x : Lg) (f : Nat) : List Int := peaksK f ts ls x (2 ^ f) (rmkN x (2 ^ f))
theorem peak_in {a b : Ld} (ha : inLd a) (hb : inLd b) : 0 ≤ peakL a b ∧ peakL a b ≤ 200000000 := by
  obtain ⟨⟨a1, a2, a3, a4⟩, ⟨a5, a6, a7, a8⟩⟩ := ha
  obtain ⟨⟨b1, b2, b3, b4⟩, ⟨b5, b6, b7, b8⟩⟩ := hb
  unfold peakL
  omega
theorem prevM_in {f : Nat} {ts : List Cp} {ls : List Ld} {x : Lg} {n : Nat} (hx : okLg x) (hn : 1 ≤ n ∧ n ≤ 64) (hl : ∀ y ∈ ls, inLd y) : ∀ k, k ≤ n + 1 → ∀ y ∈ prevM f ts ls x n k, inLd y
  | 0, _ => hl
  | k + 1, hk => stM_in hx hn hl k (by omega)
theorem stM_ok {ts : List Cp} {ls : List Ld} {x : Lg} {g : Int} {f n : Nat} (H : onTask ts ls x g f n) {k : Nat} (hk : k ≤ n) : okTL ts (stM f ts ls x n k) :=
  ⟨H.t.k.a, H.t.k.b, stM_len H.t.k.len k, H.t.k.c, stM_in H.t.xx (two_f H.fb H.nb) H.t.k.x k hk, stM_ord H.t.xx (two_f H.fb H.nb) H.t.k.c H.t.k.o k hk⟩
theorem bool_iff {a b : Bool} (h : a = true ↔ b = true) : a = b := by cases a <;> cases b <;> simp_all
theorem yesB_next {fa : Int} {f : Nat} {ts : List Cp} {ls : List Ld} {x : Lg} {n k : Nat} {b : Bool} (h : b = true ↔ yesB fa f ts ls x n k = true ∧ pkP (lowM x n k) fa ts (prevM f ts ls x n k) (stM f ts ls x n k)) : b = yesB fa f ts ls x n (k + 1) :=
  bool_iff (by unfold yesB; rw [Bool.and_eq_true, decide_eq_true_eq]; exact h)
theorem noB_t {fa : Int} {f : Nat} {ts : List Cp} {ls : List Ld} {x : Lg} {n k : Nat} (h : noB fa f ts ls x n k = true) : noB fa f ts ls x n (k + 1) = true := by unfold noB; rw [h]; rfl
theorem noB_f {fa : Int} {f : Nat} {ts : List Cp} {ls : List Ld} {x : Lg} {n k : Nat} (h : noB fa f ts ls x n k = false) : noB fa f ts ls x n (k + 1) = decide (¬ lowP (mkM x n k).p.hi fa ts (stM f ts ls x n k)) := by
  conv => lhs; unfold noB
  rw [h, Bool.false_or]
theorem kept_no {ts : List Cp} {ls : List Ld} {p f : Int} : keptM ts ls p f = 0 ↔ ¬ lowP p f ts ls := by
  unfold keptM
  by_cases h : lowP p f ts ls
  · rw [if_neg (fun hh => hh h)]
    by_cases h2 : holdP p f ts ls
    · rw [if_pos h2]; simp [h]
    · rw [if_neg h2]; simp [h]
  · rw [if_pos h]; simp [h]
def decF (ts : List Cp) (ls : List Ld) (x : Lg) (fa : Int) (m : Nat) : Nat → Int × Int
  | 0 => (1, m)
  | j + 1 => if keptT ts ls x fa (m - j) ≠ 1 then (keptT ts ls x fa (m - j), ((m - j : Nat) : Int)) else decF ts ls x fa m j
def decT (ts : List Cp) (ls : List Ld) (x : Lg) (fa : Int) (m : Nat) : Int × Int := decF ts ls x fa m (m + 1)
theorem decF_step {ts : List Cp} {ls : List Ld} {x : Lg} {fa : Int} {m k : Nat} (hk : k ≤ m) : decF ts ls x fa m (m + 1 - k) = if keptT ts ls x fa k ≠ 1 then (keptT ts ls x fa k, (k : Int)) else decF ts ls x fa m (m + 1 - (k + 1)) := by
  rw [show m + 1 - k = (m + 1 - (k + 1)) + 1 by omega]
  conv => lhs; unfold decF
  rw [show m - (m + 1 - (k + 1)) = k by omega]
def decE_ (ts : List Cp) (ls : List Ld) (x : Lg) (fa fi : Int) : (Int × Int) × Int := if ckFine ts ls x fa fi ≠ 0 then ((0, 0), ckFine ts ls x fa fi) else (decT ts ls x fa fi.toNat, 0)
theorem decE_1 {ts : List Cp} {ls : List Ld} {x : Lg} {g fi : Int} (h : ckFine ts ls x g fi ≠ 0) : decE_ ts ls x g fi = ((0, 0), ckFine ts ls x g fi) := if_pos h
theorem decE_2 {ts : List Cp} {ls : List Ld} {x : Lg} {g : Int} {f : Nat} (h : ckFine ts ls x g (f : Int) = 0) : decE_ ts ls x g (f : Int) = (decT ts ls x g f, 0) := if_neg (fun hh => hh h)
end Go.Proofs.YthilaakeimfedaaGreatDoor
