/-
  The document's examples of chapter 2, and depths between two points. Conditions: those in front of each theorem; no program in sight.
-/
import Derived.Test.YtdmnejfpbbmcaaaPn
import Derived.Test.YtdmnejfpbbmcaaaXp6
namespace Go.Proofs.Ytdmnejfpbbmcaaa
def fourL : List Dl := [⟨10, 100, 0⟩, ⟨10, 190, 0⟩, ⟨10, 300, 0⟩]
theorem okF : okPl 1000 [⟨210, 0⟩] fourL := (ckPl_ok (nm := nmD) (by rw [ckPl_7 nameD (by decide) (by decide) (by decide) (by decide) (by decide)]; rfl)).2
theorem four_c : (ptsK fourL fourL.length).map cSw = [cSw (0, 0), cSw (10, 100), cSw (20, 190), cSw (30, 300)] := rfl
def ixN : List (Int × Int) → Int → Nat
  | [], _ => 0
  | p :: t, c => if c ≤ p.1 then 0 else ixN t c + 1
def ixZ (l : List (Int × Int)) (c : Int) : Int := if ixN l c < l.length then ixN l c else -1
theorem ixN_y {p : Int × Int} {t : List (Int × Int)} {c : Int} (h : c ≤ p.1) : ixN (p :: t) c = 0 := if_pos h
theorem ixN_n {p : Int × Int} {t : List (Int × Int)} {c : Int} (h : ¬ c ≤ p.1) : ixN (p :: t) c = ixN t c + 1 := if_neg h
theorem ixN_le : ∀ (l : List (Int × Int)) (c : Int), ixN l c ≤ l.length
  | [], _ => Nat.le_refl _
  | p :: t, c => by
    have := ixN_le t c
    unfold ixN
    rw [List.length_cons]
    split <;> omega
theorem ixZ_in (l : List (Int × Int)) (c : Int) : -1 ≤ ixZ l c ∧ ixZ l c ≤ l.length := by
  have := ixN_le l c
  unfold ixZ
  split <;> omega
theorem ixZ_1 {p : Int × Int} {c : Int} (h : c ≤ p.1) : ixZ [p] c = 0 := by
  unfold ixZ
  rw [ixN_y h]
  rfl
def atM (a d b e c : Int) : Int × Int := if c = a then (d, 1) else if c = b then (e, 1) else (d * (b - c) + e * (c - a), b - a)
theorem atM_1 {a d b e c : Int} (h : c = a) : atM a d b e c = (d, 1) := if_pos h
theorem atM_2 {a d b e c : Int} (h : ¬ c = a) (h2 : c = b) : atM a d b e c = (e, 1) := by unfold atM; rw [if_neg h, if_pos h2]
theorem atM_3 {a d b e c : Int} (h : ¬ c = a) (h2 : ¬ c = b) : atM a d b e c = (d * (b - c) + e * (c - a), b - a) := by unfold atM; rw [if_neg h, if_neg h2]
theorem kept_in {k : Nat} {x : Int} (h : ([0, 2, 3] : List Int)[k]? = some x) : 0 ≤ x ∧ x ≤ 3 := by
  have hk := (List.getElem?_eq_some_iff.1 h).1
  have : k = 0 ∨ k = 1 ∨ k = 2 := by simp at hk; omega
  rcases this with rfl | rfl | rfl <;> (injection h with h; omega)
theorem ckGs_all : ∀ {gs : List Gs}, (∀ g ∈ gs, ckGas g.o g.h = 0) → ckGs gs = 0
  | [], _ => rfl
  | a :: t, h => by
    have h1 := h a List.mem_cons_self
    unfold ckGs
    rw [if_neg (by omega)]
    exact ckGs_all fun g hg => h g (List.mem_cons_of_mem _ hg)
theorem ckPl_of {nm : ByteArray} {sf : Int} {gs : List Gs} {ls : List Dl} (hn : nameP nm) (H : okPl sf gs ls) : ckPl nm sf gs ls = (0, 0) := by
  have hgl := H.gl; have hll := H.ll
  rw [ckPl_7 hn H.sf (by omega) (by omega) (ckGs_all H.g) (by omega)]
  exact ckLegs_zero (ls := ls) (n := (gs.length : Int)) ls.length 0 (by omega) (fun j _ hj => ⟨H.at hj, (H.e (j + 1) (by omega)).2⟩)
theorem loK_s (ls : List Dl) (k : Nat) : loK ls (k + 1) = min (loK ls k) (depAt ls k) := rfl
theorem hiK_s (ls : List Dl) (k : Nat) : hiK ls (k + 1) = max (hiK ls k) (depAt ls k) := rfl
theorem nf_sec {sf : Int} {gs : List Gs} {ls : List Dl} (H : okPl sf gs ls) : secAt (nfL gs ls) (nfL gs ls).length = secAt ls ls.length := (nf_same H).s.symm
theorem nf_pos {sf : Int} {gs : List Gs} {ls : List Dl} (H : okPl sf gs ls) (h : 0 < ls.length) : 0 < (nfL gs ls).length := (nf_ok H ls.length (Nat.le_refl _)).ne h
theorem nf_hx {sf : Int} {gs : List Gs} {ls : List Dl} (H : okPl sf gs ls) (h : 0 < ls.length) : ∀ σ : Nat, (σ : Int) ≤ secAt ls ls.length → (atR ls σ).1 * (atR (nfL gs ls) σ).2 = (atR (nfL gs ls) σ).1 * (atR ls σ).2 := fun _ h1 => nf_at H h h1
end Go.Proofs.Ytdmnejfpbbmcaaa
