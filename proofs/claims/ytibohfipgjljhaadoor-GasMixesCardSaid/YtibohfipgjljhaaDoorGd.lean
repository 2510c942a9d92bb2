/-
  Plain models of chapter 1: the first depth at which no gas may be breathed. Conditions: none; no program in sight.
-/
import Derived.Test.YtibohfipgjljhaaDoorGc
import Derived.Test.YtibohfipgjljhaaDoorEncQ
namespace Go.Proofs.YtibohfipgjljhaaDoor
theorem firstB_at {p : Nat → Bool} {n k : Nat} (hk : k ≤ n) (h0 : ∀ i, i < k → p i = false) (h1 : k < n → p k = true) : firstB p n = k := by
  have hs := firstB_spec p n
  have hl := firstB_le p n
  generalize firstB p n = m at *
  rcases Nat.lt_trichotomy m k with h | h | h
  · have := hs.2 (by omega)
    rw [h0 m h] at this
    cases this
  · exact h
  · have := hs.1 k h
    rw [h1 (by omega)] at this
    cases this
def rgAt (rs : List Rg) (k : Nat) : Rg := rs.getD k ⟨1, 0⟩
theorem rgAt_get {rs : List Rg} {k : Nat} {r : Rg} (h : rs[k]? = some r) : rgAt rs k = r := by unfold rgAt; rw [List.getD_eq_getElem?_getD, h]; rfl
def inR (r : Rg) (c : Int) : Prop := r.lo ≤ c ∧ c ≤ r.hi
instance (r : Rg) (c : Int) : Decidable (inR r c) := by unfold inR; infer_instance
def ixN (rs : List Rg) (c : Int) : Nat := firstB (fun i => decide (inR (rgAt rs i) c)) rs.length
def ixM (rs : List Rg) (c : Int) : Int := if ixN rs c < rs.length then (ixN rs c : Int) else -1
section
variable {rs : List Rg} {c : Int} {k : Nat} {r : Rg}
theorem ix_yes (he : rs[k]? = some r) (h0 : ∀ i, i < k → ¬ inR (rgAt rs i) c) (h : inR r c) : ixM rs c = k := by
  have hk := (List.getElem?_eq_some_iff.1 he).1
  have hn : ixN rs c = k := firstB_at (by omega) (fun i hi => decide_eq_false (h0 i hi)) (fun _ => decide_eq_true (by rw [rgAt_get he]; exact h))
  unfold ixM
  rw [hn, if_pos hk]
theorem ix_no (h0 : ∀ i, i < rs.length → ¬ inR (rgAt rs i) c) : ixM rs c = -1 := by
  have hn : ixN rs c = rs.length := firstB_at (Nat.le_refl _) (fun i hi => decide_eq_false (h0 i hi)) (fun h => absurd h (Nat.lt_irrefl _))
  unfold ixM
  rw [hn, if_neg (Nat.lt_irrefl _)]
theorem ix_next {r : Rg} (he : rs[k]? = some r) (h0 : ∀ i, i < k → ¬ inR (rgAt rs i) c) (h : ¬ inR r c) : ∀ i, i < k + 1 → ¬ inR (rgAt rs i) c := by
  intro i hi
  rcases Nat.lt_or_ge i k with h9 | h9
  · exact h0 i h9
  · have : i = k := by omega
    rw [this, rgAt_get he]
    exact h
theorem ix_neg (h : ixM rs c < 0) : ∀ i, i < rs.length → ¬ inR (rgAt rs i) c := by
  unfold ixM at h
  split at h
  · omega
  · rename_i h1
    have hl := firstB_le (fun i => decide (inR (rgAt rs i) c)) rs.length
    have hs := firstB_spec (fun i => decide (inR (rgAt rs i) c)) rs.length
    intro i hi
    exact of_decide_eq_false (hs.1 i (by unfold ixN at h1; omega))
theorem ix_pos (h : ¬ ixM rs c < 0) : ∃ j : Nat, ixM rs c = j ∧ j < rs.length ∧ inR (rgAt rs j) c := by
  unfold ixM at h ⊢
  split at h
  · rename_i h1
    have hs := firstB_spec (fun i => decide (inR (rgAt rs i) c)) rs.length
    refine ⟨ixN rs c, if_pos h1, h1, of_decide_eq_true (hs.2 h1)⟩
  · omega
end
section
variable {gs : List Gs} {su lo hi dl dh d x : Int} {k : Nat}
def rgL (gs : List Gs) (su lo hi : Int) : List Rg := gs.map fun g => dfR g.o su lo hi
theorem rgL_len : (rgL gs su lo hi).length = gs.length := by unfold rgL; rw [List.length_map]
theorem rgL_get {g : Gs} (h : gs[k]? = some g) : (rgL gs su lo hi)[k]? = some (dfR g.o su lo hi) := by unfold rgL; rw [List.getElem?_map, h]; rfl
theorem rgL_step {g : Gs} (h : gs[k]? = some g) : (rgL (gs.take k) su lo hi).map cRg ++ [cRg (dfR g.o su lo hi)] = (rgL (gs.take (k + 1)) su lo hi).map cRg := by
  unfold rgL
  rw [List.take_add_one, h]
  simp
theorem rgL_all (h : gs.length ≤ k) : (rgL (gs.take k) su lo hi).map cRg = (rgL gs su lo hi).map cRg := by rw [List.take_of_length_le h]
/-- nothing may be breathed there -/
def gapP (rs : List Rg) (x : Int) : Prop := ∀ i, i < rs.length → ¬ inR (rgAt rs i) x
instance (rs : List Rg) (x : Int) : Decidable (gapP rs x) := by unfold gapP; infer_instance
def gapM (rs : List Rg) (dl dh : Int) : Int := if firstB (fun i => decide (gapP rs (dl + (i : Int)))) (dh - dl + 1).toNat < (dh - dl + 1).toNat then dl + (firstB (fun i => decide (gapP rs (dl + (i : Int)))) (dh - dl + 1).toNat : Nat) else -1
theorem gap_found {rs : List Rg} (h1 : dl ≤ d) (h2 : d ≤ dh) (hg : gapP rs d) (h0 : ∀ x, dl ≤ x → x < d → ¬ gapP rs x) : gapM rs dl dh = d := by
  have hn : firstB (fun i => decide (gapP rs (dl + (i : Int)))) (dh - dl + 1).toNat = (d - dl).toNat := firstB_at (by omega) (fun i hi => decide_eq_false (h0 _ (by omega) (by omega))) (fun _ => decide_eq_true (by rw [show dl + ((d - dl).toNat : Int) = d by omega]; exact hg))
  unfold gapM
  rw [hn, if_pos (by omega)]
  omega
theorem gap_none {rs : List Rg} (h2 : dh < d) (h0 : ∀ x, dl ≤ x → x < d → ¬ gapP rs x) : gapM rs dl dh = -1 := by
  have hn : firstB (fun i => decide (gapP rs (dl + (i : Int)))) (dh - dl + 1).toNat = (dh - dl + 1).toNat := firstB_at (Nat.le_refl _) (fun i hi => decide_eq_false (h0 _ (by omega) (by omega))) (fun h => absurd h (Nat.lt_irrefl _))
  unfold gapM
  rw [hn, if_neg (Nat.lt_irrefl _)]
theorem gap_skip {rs : List Rg} {j : Nat} (hj : j < rs.length) (hi : inR (rgAt rs j) d) (h0 : ∀ x, dl ≤ x → x < d → ¬ gapP rs x) : ∀ x, dl ≤ x → x < (rgAt rs j).hi + 1 → ¬ gapP rs x := by
  intro x h1 h2 hg
  rcases Int.lt_or_le x d with h9 | h9
  · exact h0 x h1 h9 hg
  · exact hg j hj ⟨by have := hi.1; omega, by omega⟩
/-- the reference's search among the gases -/
def nxM (rs : List Rg) (d : Int) : Nat → Int
  | 0 => -1
  | k + 1 => if inR (rgAt rs k) d then max (nxM rs d k) ((rgAt rs k).hi + 1) else nxM rs d k
theorem nx_yes {rs : List Rg} {r : Rg} (he : rs[k]? = some r) (h : inR r d) : nxM rs d (k + 1) = max (nxM rs d k) (r.hi + 1) := by rw [nxM, rgAt_get he, if_pos h]
theorem nx_no {rs : List Rg} {r : Rg} (he : rs[k]? = some r) (h : ¬ inR r d) : nxM rs d (k + 1) = nxM rs d k := by rw [nxM, rgAt_get he, if_neg h]
theorem nx_spec {rs : List Rg} (hd : 0 ≤ d) : ∀ k, k ≤ rs.length → (nxM rs d k = -1 ∧ ∀ i, i < k → ¬ inR (rgAt rs i) d) ∨ ∃ j, j < rs.length ∧ inR (rgAt rs j) d ∧ nxM rs d k = (rgAt rs j).hi + 1
  | 0, _ => .inl ⟨rfl, fun i hi => absurd hi (Nat.not_lt_zero _)⟩
  | k + 1, hk => by
    rw [nxM]
    by_cases h : inR (rgAt rs k) d
    · rw [if_pos h]
      right
      rcases nx_spec (rs := rs) hd k (by omega) with ⟨h1, _⟩ | ⟨j, h1, h2, h3⟩
      · exact ⟨k, by omega, h, by rw [h1]; have := h.2; omega⟩
      · rcases Int.le_total (nxM rs d k) ((rgAt rs k).hi + 1) with h9 | h9
        · exact ⟨k, by omega, h, by omega⟩
        · exact ⟨j, h1, h2, by omega⟩
    · rw [if_neg h]
      rcases nx_spec (rs := rs) hd k (by omega) with ⟨h1, h2⟩ | h9
      · left
        refine ⟨h1, fun i hi => ?_⟩
        rcases Nat.lt_or_ge i k with h8 | h8
        · exact h2 i h8
        · have : i = k := by omega
          rw [this]; exact h
      · exact .inr h9
theorem nx_in {rs : List Rg} (hb : ∀ i, (rgAt rs i).hi ≤ 30000) (d : Int) : ∀ k, -1 ≤ nxM rs d k ∧ nxM rs d k ≤ 30001
  | 0 => by unfold nxM; omega
  | k + 1 => by
    have := nx_in hb d k
    have := hb k
    rw [nxM]
    split <;> omega
theorem rg_hi (gs : List Gs) (su lo hi : Int) (i : Nat) : (rgAt (rgL gs su lo hi) i).hi ≤ 30000 := by
  unfold rgAt
  rw [List.getD_eq_getElem?_getD]
  rcases h : (rgL gs su lo hi)[i]? with _ | r
  · show (0 : Int) ≤ 30000
    decide
  · show r.hi ≤ 30000
    unfold rgL at h
    rw [List.getElem?_map] at h
    rcases h9 : gs[i]? with _ | g
    · rw [h9] at h; cases h
    · rw [h9] at h
      simp only [Option.map_some, Option.some.injEq] at h
      rw [← h]
      unfold dfR
      split
      · show (0 : Int) ≤ 30000
        decide
      · show min 30000 _ ≤ (30000 : Int)
        omega
/-- the errors -/
def ckDp (dl dh : Int) : Int := if (0 ≤ dl ∧ dl ≤ 30000) ∧ 0 ≤ dh ∧ dh ≤ 30000 then (if dl > dh then 9 else 0) else 2
def gpC (gs : List Gs) (su lo hi dl dh : Int) : Int := if ckGs8 gs = 0 then (if ckPlc su 0 = 0 then (if ckLim lo hi = 0 then ckDp dl dh else ckLim lo hi) else ckPlc su 0) else ckGs8 gs
def gp5 (gs : List Gs) (su lo hi dl dh : Int) : Int := firstE [ckGs8 gs, if 400 ≤ su ∧ su ≤ 1100 then 0 else 2, ckLim lo hi, if 0 ≤ dl ∧ dl ≤ 30000 then 0 else 2, if 0 ≤ dh ∧ dh ≤ 30000 then 0 else 2]
theorem gp_bad (h : gp5 gs su lo hi dl dh ≠ 0) : gpC gs su lo hi dl dh = gp5 gs su lo hi dl dh := by
  unfold gp5 at h ⊢
  rw [first5] at h ⊢
  unfold gpC ckPlc ckDp
  (repeat' split at h) <;> (repeat' split) <;> omega
theorem gp_ord (h : gp5 gs su lo hi dl dh = 0) : gpC gs su lo hi dl dh = if dl > dh then 9 else 0 := by
  unfold gp5 at h
  rw [first5] at h
  unfold gpC ckPlc ckDp
  (repeat' split at h) <;> (repeat' split) <;> omega
theorem gp_ok (h : gpC gs su lo hi dl dh = 0) : ckGs8 gs = 0 ∧ (400 ≤ su ∧ su ≤ 1100) ∧ (1 ≤ lo ∧ lo ≤ hi ∧ hi ≤ 4000) ∧ (0 ≤ dl ∧ dl ≤ dh ∧ dh ≤ 30000) ∧ ckLim lo hi = 0 := by
  unfold gpC at h
  by_cases h1 : ckGs8 gs = 0
  · rw [if_pos h1] at h
    by_cases h2 : ckPlc su 0 = 0
    · rw [if_pos h2] at h
      by_cases h3 : ckLim lo hi = 0
      · rw [if_pos h3] at h
        refine ⟨h1, (ckPlc_ok h2).1, ckLim_ok h3, ?_, h3⟩
        unfold ckDp at h
        (repeat' split at h) <;> omega
      · rw [if_neg h3] at h; exact absurd h h3
    · rw [if_neg h2] at h; exact absurd h h2
  · rw [if_neg h1] at h; exact absurd h h1
theorem gs8_ok (h : ckGs8 gs = 0) : ckGl gs = 0 ∧ gs.length ≤ 8 := by
  unfold ckGs8 at h
  split at h
  · exact absurd h (by decide)
  · exact ⟨h, by omega⟩
def gpE (gs : List Gs) (su lo hi dl dh : Int) : Int × Int := if gpC gs su lo hi dl dh ≠ 0 then (0, gpC gs su lo hi dl dh) else if gapM (rgL gs su lo hi) dl dh < 0 then (0, 12) else (gapM (rgL gs su lo hi) dl dh, 0)
theorem gpE_1 (h : gpC gs su lo hi dl dh ≠ 0) : gpE gs su lo hi dl dh = (0, gpC gs su lo hi dl dh) := if_pos h
theorem gpE_2 (h : gpC gs su lo hi dl dh = 0) (h2 : gapM (rgL gs su lo hi) dl dh < 0) : gpE gs su lo hi dl dh = (0, 12) := by unfold gpE; rw [if_neg (fun hh => hh h), if_pos h2]
theorem gpE_3 (h : gpC gs su lo hi dl dh = 0) (h2 : ¬ gapM (rgL gs su lo hi) dl dh < 0) : gpE gs su lo hi dl dh = (gapM (rgL gs su lo hi) dl dh, 0) := by unfold gpE; rw [if_neg (fun hh => hh h), if_neg h2]
end
end Go.Proofs.YtibohfipgjljhaaDoor
