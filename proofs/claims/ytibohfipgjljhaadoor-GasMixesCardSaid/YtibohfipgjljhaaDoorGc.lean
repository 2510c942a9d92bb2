/-
  Plain models of chapter 1: the search for the best gas; the richest of several gases; with their errors. Conditions: none; no program in sight.
-/
import Derived.Test.YtibohfipgjljhaaDoorGb
namespace Go.Proofs.YtibohfipgjljhaaDoor
section
variable {a : Aim} {gs : List Gs} {x : Int} {k : Nat}
theorem aimE_first (a : Aim) : firstE [if 400 ≤ a.su ∧ a.su ≤ 1100 then 0 else 2, if 0 ≤ a.de ∧ a.de ≤ 30000 then 0 else 2, ckLim a.le a.mo, if 0 ≤ a.na ∧ a.na ≤ 30000 then 0 else 2] = ckAim a := by
  rw [first4]; unfold ckAim ckPlc; (repeat' split) <;> omega
def bsF (a : Aim) : Int × Int × Int := if ckAim a = 0 then bsE a else (0, 0, ckAim a)
theorem bsF_1 (h : ckAim a = 0) : bsF a = bsE a := if_pos h
theorem bsF_2 (h : ckAim a ≠ 0) : bsF a = (0, 0, ckAim a) := if_neg h
theorem bsE_bad (h : (bsE a).2.2 ≠ 0) : bsE a = (0, 0, 12) := by
  by_cases hm : meetP a (oB a) (hB a)
  · rw [bsE_1 hm] at h; exact absurd rfl h
  · exact bsE_2 hm
theorem bsE_good (h : (bsE a).2.2 = 0) : meetP a (oB a) (hB a) ∧ bsE a = (oB a, (hB a : Int), 0) := by
  by_cases hm : meetP a (oB a) (hB a)
  · exact ⟨hm, bsE_1 hm⟩
  · rw [bsE_2 hm] at h; exact absurd h (by decide)
theorem meet_less {o o2 h : Int} (H : okAim a) (hm : meetP a o2 h) (h1 : o ≤ o2) (h2 : 1000 * a.le ≤ o * (a.su + a.de)) : meetP a o h := by
  obtain ⟨⟨m1, m2⟩, m3⟩ := hm
  have := H.su; have := H.de
  have h3 := Int.mul_le_mul_of_nonneg_right h1 (show 0 ≤ a.su + a.de by omega)
  exact ⟨⟨h2, by omega⟩, m3⟩
theorem rb_found (H : okAim a) (hk : k ≤ 1000) (hx : 0 ≤ x ∧ x ≤ 1000 - (k : Int)) (hm : meetP a x k) (h1 : ∀ i : Nat, i < k → ∀ o : Int, 0 ≤ o → o ≤ 1000 - (i : Int) → ¬ meetP a o i) (h2 : ∀ o : Int, x < o → o ≤ 1000 - (k : Int) → ¬ meetP a o k) : bsE a = (x, (k : Int), 0) := by
  have hsu := H.su; have hde := H.de
  have hP : 0 < a.su + a.de := by omega
  have hb : hB a = k := hB_at hk (fun i hi hc => h1 i hi x hx.1 (by omega) ⟨hm.1, hc⟩) hm.2
  have hle : x ≤ 1000 * a.mo / (a.su + a.de) := (Int.le_ediv_iff_mul_le hP).2 hm.1.2
  have ho : oB a = x := by
    have h3 : x ≤ oB a := by unfold oB; rw [hb]; omega
    rcases Int.lt_or_eq_of_le h3 with h4 | h4
    · exfalso
      refine h2 (oB a) h4 (by unfold oB; rw [hb]; omega) ⟨⟨?_, ?_⟩, hm.2⟩
      · have := Int.mul_le_mul_of_nonneg_right h3 (show 0 ≤ a.su + a.de by omega)
        have := hm.1.1
        omega
      · have h5 : oB a ≤ 1000 * a.mo / (a.su + a.de) := by unfold oB; omega
        exact (Int.le_ediv_iff_mul_le hP).1 h5
    · exact h4.symm
  have hm2 : meetP a (oB a) (hB a) := by rw [ho, hb]; exact hm
  rw [bsE_1 hm2, ho, hb]
theorem rb_none (H : okAim a) (h : ∀ i : Nat, i < 1001 → ∀ o : Int, 0 ≤ o → o ≤ 1000 - (i : Int) → ¬ meetP a o i) : bsE a = (0, 0, 12) :=
  bsE_2 (fun hm => h (hB a) (by have := hB_in a; omega) (oB a) (oB_in H).1 (oB_in H).2 hm)
theorem rb_brk (H : okAim a) (hb : x * (a.su + a.de) < 1000 * a.le ∨ (1000 - (k : Int)) * (a.su + a.de) > 1000 * (a.su + a.na)) (h2 : ∀ o : Int, x < o → o ≤ 1000 - (k : Int) → ¬ meetP a o k) : ∀ o : Int, 0 ≤ o → o ≤ 1000 - (k : Int) → ¬ meetP a o k := by
  intro o h0 h1 hm
  have hsu := H.su; have hde := H.de
  rcases Int.lt_or_le x o with h3 | h3
  · exact h2 o h3 h1 hm
  · rcases hb with hb | hb
    · have := Int.mul_le_mul_of_nonneg_right h3 (show 0 ≤ a.su + a.de by omega)
      have := hm.1.1
      omega
    · have := hm.2
      unfold clrP at this
      omega
theorem rb_next (h1 : ∀ i : Nat, i < k → ∀ o : Int, 0 ≤ o → o ≤ 1000 - (i : Int) → ¬ meetP a o i) (h2 : ∀ o : Int, 0 ≤ o → o ≤ 1000 - (k : Int) → ¬ meetP a o k) : ∀ i : Nat, i < k + 1 → ∀ o : Int, 0 ≤ o → o ≤ 1000 - (i : Int) → ¬ meetP a o i := by
  intro i hi
  rcases Nat.lt_or_ge i k with h3 | h3
  · exact h1 i h3
  · have : i = k := by omega
    rw [this]
    exact h2
theorem rb_in (h2 : ∀ o : Int, x < o → o ≤ 1000 - (k : Int) → ¬ meetP a o k) (hm : ¬ meetP a x k) : ∀ o : Int, x - 1 < o → o ≤ 1000 - (k : Int) → ¬ meetP a o k := by
  intro o h3 h4
  rcases Int.lt_or_le x o with h5 | h5
  · exact h2 o h5 h4
  · have : o = x := by omega
    rw [this]
    exact hm
/-! ### Several gases -/
def gsAt (gs : List Gs) (k : Nat) : Gs := gs.getD k ⟨0, 0⟩
theorem gsAt_get {g : Gs} (h : gs[k]? = some g) : gsAt gs k = g := by unfold gsAt; rw [List.getD_eq_getElem?_getD, h]; rfl
def ckGl : List Gs → Int
  | [] => 0
  | g :: t => if ckGas g.o g.h ≠ 0 then ckGas g.o g.h else ckGl t
theorem ckGl_yes {g : Gs} (h : gs[k]? = some g) (hx : ckGas g.o g.h ≠ 0) : ckGl (gs.drop k) = ckGas g.o g.h := by rw [drop_cons h]; exact if_pos hx
theorem ckGl_no {g : Gs} (h : gs[k]? = some g) (hx : ¬ ckGas g.o g.h ≠ 0) : ckGl (gs.drop k) = ckGl (gs.drop (k + 1)) := by rw [drop_cons h]; exact if_neg hx
theorem ckGl_end (h : gs.length ≤ k) : ckGl (gs.drop k) = 0 := by rw [drop_all h]; rfl
theorem ckGl_ok : ∀ {gs : List Gs}, ckGl gs = 0 → ∀ g ∈ gs, ckGas g.o g.h = 0
  | [], _, g, hg => by cases hg
  | d :: t, h, g, hg => by
    unfold ckGl at h
    split at h
    · rename_i hd; exact absurd h hd
    · rename_i hd
      rcases List.mem_cons.1 hg with rfl | hg
      · exact Decidable.not_not.1 hd
      · exact ckGl_ok h g hg
def ckGs8 (gs : List Gs) : Int := if gs.length > 8 then 8 else ckGl gs
def betP (g b : Gs) : Prop := g.o > b.o ∨ (g.o = b.o ∧ g.h < b.h)
instance (g b : Gs) : Decidable (betP g b) := by unfold betP; infer_instance
def rcM (a : Aim) (gs : List Gs) : Nat → Int
  | 0 => -1
  | k + 1 => if meetP a (gsAt gs k).o (gsAt gs k).h ∧ (rcM a gs k < 0 ∨ betP (gsAt gs k) (gsAt gs (rcM a gs k).toNat)) then k else rcM a gs k
theorem rcM_in (a : Aim) (gs : List Gs) : ∀ k, -1 ≤ rcM a gs k ∧ rcM a gs k < k
  | 0 => by unfold rcM; omega
  | k + 1 => by
    have := rcM_in a gs k
    unfold rcM
    split <;> omega
theorem rcM_yes {g : Gs} (h : gs[k]? = some g) (hm : meetP a g.o g.h) (hb : rcM a gs k < 0 ∨ betP g (gsAt gs (rcM a gs k).toNat)) : rcM a gs (k + 1) = k := by
  rw [rcM, gsAt_get h, if_pos ⟨hm, hb⟩]
theorem rcM_no {g : Gs} (h : gs[k]? = some g) (hn : ¬ (meetP a g.o g.h ∧ (rcM a gs k < 0 ∨ betP g (gsAt gs (rcM a gs k).toNat)))) : rcM a gs (k + 1) = rcM a gs k := by
  rw [rcM, gsAt_get h, if_neg hn]
def rcC (a : Aim) (gs : List Gs) : Int := if ckGs8 gs ≠ 0 then ckGs8 gs else ckAim a
def rcE (a : Aim) (gs : List Gs) : Int × Int := if rcC a gs ≠ 0 then (0, rcC a gs) else if rcM a gs gs.length < 0 then (0, 12) else (rcM a gs gs.length, 0)
theorem rcE_1 (h : rcC a gs ≠ 0) : rcE a gs = (0, rcC a gs) := if_pos h
theorem rcE_2 (h : rcC a gs = 0) (h2 : rcM a gs gs.length < 0) : rcE a gs = (0, 12) := by unfold rcE; rw [if_neg (fun hh => hh h), if_pos h2]
theorem rcE_3 (h : rcC a gs = 0) (h2 : ¬ rcM a gs gs.length < 0) : rcE a gs = (rcM a gs gs.length, 0) := by unfold rcE; rw [if_neg (fun hh => hh h), if_neg h2]
theorem rcC_1 (h : ckGs8 gs ≠ 0) : rcC a gs = ckGs8 gs := if_pos h
theorem rcC_2 (h : ckGs8 gs = 0) : rcC a gs = ckAim a := if_neg (fun hh => hh h)
theorem rcM_one {g : Gs} : rcM a [g] 1 = if meetP a g.o g.h then 0 else -1 := by
  show (if meetP a g.o g.h ∧ ((-1 : Int) < 0 ∨ betP g (gsAt [g] (-1 : Int).toNat)) then ((0 : Nat) : Int) else -1) = _
  by_cases h : meetP a g.o g.h
  · rw [if_pos ⟨h, .inl (by decide)⟩, if_pos h]; rfl
  · rw [if_neg (fun hh => h hh.1), if_neg h]
/-- no better gas -/
theorem no_better (H : okAim a) {g : Gs} (hg : ckGas g.o g.h = 0) (hm : meetP a g.o g.h) : bsE a = (oB a, (hB a : Int), 0) ∧ meetP a (oB a) (hB a) ∧ ckGas (oB a) (hB a) = 0 ∧ (g.h > hB a ∨ (g.h = hB a ∧ g.o ≤ oB a)) := by
  have hk := ckGas_ok hg
  have hsu := H.su; have hde := H.de
  have hP : 0 < a.su + a.de := by omega
  obtain ⟨n, hn⟩ := Int.eq_ofNat_of_zero_le (show 0 ≤ g.h by omega)
  have hs := firstB_spec (fun h : Nat => decide (clrP a (h : Int))) 1000
  have hbn : hB a ≤ n := by
    rcases Nat.lt_or_ge n (hB a) with h9 | h9
    · exfalso
      have := hs.1 n h9
      have h8 := of_decide_eq_false this
      rw [← hn] at h8
      exact h8 hm.2
    · exact h9
  have hcl : clrP a (hB a) := by
    rcases Nat.lt_or_ge (hB a) 1000 with h9 | h9
    · exact of_decide_eq_true (hs.2 h9)
    · have : hB a = 1000 := by have := hB_in a; omega
      rw [this]
      exact clr_top H
  have hin := oB_in H
  have hle : g.o ≤ 1000 * a.mo / (a.su + a.de) := (Int.le_ediv_iff_mul_le hP).2 hm.1.2
  have h5 : oB a ≤ 1000 * a.mo / (a.su + a.de) := by unfold oB; omega
  have h6 := (Int.le_ediv_iff_mul_le hP).1 h5
  have hge : g.o ≤ oB a := by unfold oB; omega
  have h7 := Int.mul_le_mul_of_nonneg_right hge (show 0 ≤ a.su + a.de by omega)
  have hmm : meetP a (oB a) (hB a) := ⟨⟨by have := hm.1.1; omega, h6⟩, hcl⟩
  refine ⟨bsE_1 hmm, hmm, ?_, by omega⟩
  have := hB_in a
  unfold ckGas
  rw [if_neg (by omega), if_neg (by omega)]
end
end Go.Proofs.YtibohfipgjljhaaDoor
