/-
  Plain models of chapter 3: saturated loads. Conditions: none; no program in sight.
-/
import Derived.Test.YtfhfadfnbnliiaaMod8
namespace Go.Proofs.Ytfhfadfnbnliiaa

theorem ckGas_rg {o h : Int} (hz : ckGas o h = 0) : 0 ≤ o ∧ o ≤ 1000 ∧ 0 ≤ h ∧ h ≤ 1000 ∧ o + h ≤ 1000 := by
  unfold ckGas at hz
  split at hz
  · cases hz
  · split at hz
    · cases hz
    · omega
theorem ckTab_yes9 {ts : List Cp} (h : ckTab ts = 0) : 1 ≤ ts.length ∧ ts.length ≤ 16 := by
  unfold ckTab at h
  by_cases h1 : 1 ≤ ts.length ∧ ts.length ≤ 16
  · exact h1
  · rw [if_neg h1] at h; cases h
def satL (g : Gs) (p : Int) : Ld := ⟨⟨(1000 - g.o - g.h) * (p - 63), (1000 - g.o - g.h) * (p - 63)⟩, ⟨g.h * (p - 63), g.h * (p - 63)⟩⟩
def satM (ts : List Cp) (g : Gs) (p : Int) : List Ld := List.replicate ts.length (satL g p)
def ckSat (ts : List Cp) (g : Gs) (p : Int) : Int := if ckTab ts ≠ 0 then ckTab ts else if ckGas g.o g.h ≠ 0 then ckGas g.o g.h else if okPr p then 0 else 2
def satE (ts : List Cp) (g : Gs) (p : Int) : List Ld × Int := if ckSat ts g p ≠ 0 then ([], ckSat ts g p) else (satM ts g p, 0)
/-- the pressure that the statement takes from the first load -/
def satP : List Ld → Int
  | [] => 1000
  | x :: _ => x.n.lo.tdiv 1000
theorem satP_get {ls : List Ld} {x : Ld} (h : ls[0]? = some x) : satP ls = x.n.lo.tdiv 1000 := by
  cases ls with
  | nil => cases h
  | cons a t => injection h with h; subst h; rfl
theorem satP_nil {ls : List Ld} (h : ls.length = 0) : satP ls = 1000 := by rw [List.eq_nil_of_length_eq_zero h]; rfl
section
variable {ts : List Cp} {g : Gs} {p : Int}
theorem ckSat_1 (h : ckTab ts ≠ 0) : ckSat ts g p = ckTab ts := if_pos h
theorem ckSat_2 (h : ckTab ts = 0) (h2 : ckGas g.o g.h ≠ 0) : ckSat ts g p = ckGas g.o g.h := by unfold ckSat; rw [if_neg (fun hh => hh h), if_pos h2]
theorem ckSat_3 (h : ckTab ts = 0) (h2 : ckGas g.o g.h = 0) (h3 : ¬ okPr p) : ckSat ts g p = 2 := by unfold ckSat; rw [if_neg (fun hh => hh h), if_neg (fun hh => hh h2), if_neg h3]
theorem ckSat_4 (h : ckTab ts = 0) (h2 : ckGas g.o g.h = 0) (h3 : okPr p) : ckSat ts g p = 0 := by unfold ckSat; rw [if_neg (fun hh => hh h), if_neg (fun hh => hh h2), if_pos h3]
theorem satE_bad (h : ckSat ts g p ≠ 0) : satE ts g p = ([], ckSat ts g p) := if_pos h
theorem satE_ok (h : ckSat ts g p = 0) : satE ts g p = (satM ts g p, 0) := if_neg (fun hh => hh h)
theorem satE_1 (h : ckTab ts ≠ 0) : satE ts g p = ([], ckTab ts) := by rw [satE_bad (by rw [ckSat_1 h]; exact h), ckSat_1 h]
theorem satE_2 (h : ckTab ts = 0) (h2 : ckGas g.o g.h ≠ 0) : satE ts g p = ([], ckGas g.o g.h) := by rw [satE_bad (by rw [ckSat_2 h h2]; exact h2), ckSat_2 h h2]
theorem satE_3 (h : ckTab ts = 0) (h2 : ckGas g.o g.h = 0) (h3 : ¬ okPr p) : satE ts g p = ([], 2) := by rw [satE_bad (by rw [ckSat_3 h h2 h3]; decide), ckSat_3 h h2 h3]
theorem satE_4 (h : ckTab ts = 0) (h2 : ckGas g.o g.h = 0) (h3 : okPr p) : satE ts g p = (satM ts g p, 0) := satE_ok (ckSat_4 h h2 h3)
theorem satE_snd : (satE ts g p).2 = ckSat ts g p := by
  unfold satE
  by_cases h : ckSat ts g p ≠ 0
  · rw [if_pos h]
  · rw [if_neg h]; omega
theorem satM_len : (satM ts g p).length = ts.length := List.length_replicate
structure okSat (ts : List Cp) (g : Gs) (p : Int) : Prop where
  t : 1 ≤ ts.length ∧ ts.length ≤ 16
  c : ∀ c ∈ ts, okCp c
  g : 0 ≤ g.o ∧ 0 ≤ g.h ∧ g.o + g.h ≤ 1000
  p : 400 ≤ p ∧ p ≤ 31100
theorem ckSat_ok (h : ckSat ts g p = 0) : okSat ts g p := by
  by_cases h1 : ckTab ts = 0
  · by_cases h2 : ckGas g.o g.h = 0
    · by_cases h3 : okPr p
      · unfold ckTab at h1
        by_cases h4 : 1 ≤ ts.length ∧ ts.length ≤ 16
        · rw [if_pos h4] at h1
          have h5 : 0 ≤ g.o ∧ 0 ≤ g.h ∧ g.o + g.h ≤ 1000 := by
            unfold ckGas at h2
            split at h2
            · cases h2
            · split at h2
              · cases h2
              · omega
          exact ⟨h4, ckCps_ok h1, h5, h3⟩
        · rw [if_neg h4] at h1; cases h1
      · rw [ckSat_3 h1 h2 h3] at h; cases h
    · rw [ckSat_2 h1 h2] at h; exact absurd h h2
  · rw [ckSat_1 h1] at h; exact absurd h h1
theorem okSat.loads (h : okSat ts g p) : okTL ts (satM ts g p) := by
  have hA := breath_in (n := 1000 - g.o - g.h) (p := p) (by have := h.g; omega) (by have := h.p; omega)
  have hB := breath_in (n := g.h) (p := p) (by have := h.g; omega) (by have := h.p; omega)
  have key : ∀ y ∈ satM ts g p, y = satL g p := fun y hy => List.eq_of_mem_replicate hy
  refine ⟨h.t.1, h.t.2, satM_len, h.c, fun y hy => ?_, fun y hy => ?_⟩
  · rw [key y hy]
    exact ⟨⟨hA.1, hA.2, hA.1, hA.2⟩, ⟨hB.1, hB.2, hB.1, hB.2⟩⟩
  · rw [key y hy]
    exact ⟨Int.le_refl _, Int.le_refl _⟩
end
end Go.Proofs.Ytfhfadfnbnliiaa
