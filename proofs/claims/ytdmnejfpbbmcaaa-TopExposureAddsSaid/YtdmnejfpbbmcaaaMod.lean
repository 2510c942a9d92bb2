/-
  Plain models of chapter 3: what the functions compute, on numbers and lists. Conditions: none; no program in sight.
-/
namespace Go.Proofs.Ytdmnejfpbbmcaaa

def upZ (n b : Int) : Int := (n + b - 1) / b
def firstE : List Int → Int
  | [] => 0
  | e :: t => if e = 0 then firstE t else e
def ckGas (o h : Int) : Int := if ¬ (0 ≤ o ∧ o ≤ 1000 ∧ 0 ≤ h ∧ h ≤ 1000) then 2 else if o + h > 1000 then 23 else 0
structure Cp where
  n : Int
  h : Int
  b : Int
  s : Int
structure Rg where
  lo : Int
  hi : Int
structure Ld where
  n : Rg
  h : Rg
structure Gs where
  o : Int
  h : Int
structure Lg where
  f : Int
  t : Int
  s : Int
  g : Gs
def okCp (c : Cp) : Prop := 1 ≤ c.n ∧ c.n ≤ 100000 ∧ 1 ≤ c.h ∧ c.h ≤ 100000 ∧ 0 ≤ c.b ∧ c.b ≤ 10000 ∧ 1000 ≤ c.s ∧ c.s ≤ 10000
instance (c : Cp) : Decidable (okCp c) := by unfold okCp; infer_instance
def okPr (p : Int) : Prop := 400 ≤ p ∧ p ≤ 31100
instance (p : Int) : Decidable (okPr p) := by unfold okPr; infer_instance
/-! ### Square roots -/
/-! ### Lists -/
theorem drop_cons {α : Type} {l : List α} {k : Nat} {x : α} (h : l[k]? = some x) : l.drop k = x :: l.drop (k + 1) := by
  obtain ⟨hk, hx⟩ := List.getElem?_eq_some_iff.1 h
  rw [List.drop_eq_getElem_cons hk, hx]
theorem get_some {α : Type} (l : List α) {k : Nat} (h : k < l.length) : ∃ x, l[k]? = some x := ⟨l[k], List.getElem?_eq_getElem h⟩
theorem map_get {α β : Type} (f : α → β) {l : List α} {k : Nat} {x : α} (h : l[k]? = some x) : (l.map f)[k]? = some (f x) := by rw [List.getElem?_map, h]; rfl
theorem drop_all {α : Type} {l : List α} {k : Nat} (h : l.length ≤ k) : l.drop k = [] := List.drop_eq_nil_of_le h
theorem firstE_step {es : List Int} {k : Nat} {e : Int} (h : es[k]? = some e) : firstE (es.drop k) = if e = 0 then firstE (es.drop (k + 1)) else e := by rw [drop_cons h]; rfl
/-! ### Closing lemmas -/
theorem ckGas_e (o h : Int) : firstE [if 0 ≤ o ∧ o ≤ 1000 then 0 else 2, if 0 ≤ h ∧ h ≤ 1000 then 0 else 2] = if 0 ≤ o ∧ o ≤ 1000 ∧ 0 ≤ h ∧ h ≤ 1000 then 0 else 2 := by
  simp only [firstE]
  (repeat' split) <;> omega
theorem ckGas_a {o h : Int} (hc : firstE [if 0 ≤ o ∧ o ≤ 1000 then 0 else 2, if 0 ≤ h ∧ h ≤ 1000 then 0 else 2] ≠ 0) : firstE [if 0 ≤ o ∧ o ≤ 1000 then 0 else 2, if 0 ≤ h ∧ h ≤ 1000 then 0 else 2] = ckGas o h := by
  rw [ckGas_e] at hc ⊢
  unfold ckGas
  split at hc
  · omega
  · rename_i hn; rw [if_neg hn, if_pos hn]
theorem ckGas_b {o h : Int} (hc : ¬ firstE [if 0 ≤ o ∧ o ≤ 1000 then 0 else 2, if 0 ≤ h ∧ h ≤ 1000 then 0 else 2] ≠ 0) : ckGas o h = if 1000 < o + h then 23 else 0 := by
  rw [ckGas_e] at hc
  unfold ckGas
  split at hc
  · rename_i hp; rw [if_neg (by omega)]
  · omega
theorem ckGas_c {o h : Int} (hc : ¬ firstE [if 0 ≤ o ∧ o ≤ 1000 then 0 else 2, if 0 ≤ h ∧ h ≤ 1000 then 0 else 2] ≠ 0) : 0 ≤ o ∧ o ≤ 1000 ∧ 0 ≤ h ∧ h ≤ 1000 := by
  rw [ckGas_e] at hc
  split at hc
  · assumption
  · omega
end Go.Proofs.Ytdmnejfpbbmcaaa
