/-
  The normal form step by step: what one leg makes of it, and the bounds that hold. Conditions: those in front of each theorem; no program in sight.
-/
import Derived.Test.YtdmnejfpbbmcaaaPg
namespace Go.Proofs.Ytdmnejfpbbmcaaa
open Go.RowKit
section
variable {sf : Int} {gs : List Gs} {ls : List Dl} {k : Nat}
theorem nfGs_1 {G : List Gs} {x : Dl} (h : ¬ gIx G (gasAt gs x.g) < G.length) : nfGs gs G x = G ++ [gasAt gs x.g] := if_neg h
theorem nfGs_0 {G : List Gs} {x : Dl} (h : gIx G (gasAt gs x.g) < G.length) : nfGs gs G x = G := if_pos h
theorem nfGs_len {G : List Gs} {x : Dl} : (nfGs gs G x).length ≤ G.length + 1 := by
  unfold nfGs
  split
  · omega
  · rw [List.length_append, List.length_singleton]; exact Nat.le_refl _
theorem nfIx_n {G : List Gs} {x : Dl} (h : ¬ gIx G (gasAt gs x.g) < G.length) : nfIx gs G x = (G.length : Int) := by
  have := gIx_le G (gasAt gs x.g)
  unfold nfIx
  omega
theorem nfL_1 {M : List Dl} {i : Int} {x : Dl} (h : mrgP M i x) : nfLs M i x = mrgL M i x := if_pos h
theorem nfL_0 {M : List Dl} {i : Int} {x : Dl} (h : ¬ mrgP M i x) : nfLs M i x = M ++ [⟨x.s, x.d, i⟩] := if_neg h
theorem nfK_s2 : (nfK gs ls (k + 1)).2 = nfLs (nfK gs ls k).2 (nfIx gs (nfK gs ls k).1 (dlAt ls k)) (dlAt ls k) := rfl
structure NfB (ls : List Dl) (k : Nat) (M : List Dl) : Prop where
  s : secAt M M.length = secAt ls k
  l : M.length ≤ 60
  d : 0 ≤ depAt M M.length ∧ depAt M M.length ≤ 30000
  p : 0 < M.length → 0 ≤ secAt M (M.length - 1) ∧ secAt M (M.length - 1) + (dlAt M (M.length - 1)).s = secAt M M.length ∧ 1 ≤ (dlAt M (M.length - 1)).s ∧ 0 ≤ depAt M (M.length - 1) ∧ depAt M (M.length - 1) ≤ 30000
theorem nf_b (H : okPl sf gs ls) (hk : k ≤ ls.length) : NfB ls k (nfK gs ls k).2 := by
  have h := nf_ok H k hk
  have hll := H.ll; have h2 := h.ll
  have e1 : secAt (nfK gs ls k).2 (nfK gs ls k).2.length = secAt ls k := by
    have h3 := h.sm.s
    have h4 : (ls.take k).length = k := by rw [List.length_take]; omega
    rw [← h3, h4]
    have : ∀ j, j ≤ k → secAt (ls.take k) j = secAt ls j := by
      intro j
      induction j with
      | zero => intro _; rfl
      | succ j ih =>
        intro hj
        show secAt (ls.take k) j + (dlAt (ls.take k) j).s = secAt ls j + (dlAt ls j).s
        rw [ih (by omega)]
        unfold dlAt
        rw [List.getElem?_take_of_lt (by omega)]
    exact this k (Nat.le_refl _)
  have hde : ∀ i, i ≤ (nfK gs ls k).2.length → 0 ≤ depAt (nfK gs ls k).2 i ∧ depAt (nfK gs ls k).2 i ≤ 30000 := by
    intro i hi
    cases i with
    | zero => show (0 : Int) ≤ 0 ∧ (0 : Int) ≤ 30000; omega
    | succ i => exact h.de i hi
  refine ⟨e1, by omega, hde _ (Nat.le_refl _), fun h0 => ?_⟩
  obtain ⟨m, hm⟩ : ∃ m, (nfK gs ls k).2.length = m + 1 := ⟨_, (Nat.sub_add_cancel h0).symm⟩
  have a5 := sec_up h.po (i := 0) m (by omega) (by omega)
  have a7 : secAt (nfK gs ls k).2 0 = 0 := rfl
  have a8 := hde m (by omega)
  rw [hm, Nat.add_sub_cancel]
  exact ⟨by omega, rfl, h.po m (by omega), a8.1, a8.2⟩
theorem nf_g8 (H : okPl sf gs ls) (hk : k ≤ ls.length) : (nfK gs ls k).1.length ≤ 8 := by
  have h := nf_ok H k hk
  have := sub_len h.nd h.sb
  have := H.gl
  omega
theorem nfG_0 (h : (nfK gs ls ls.length).2.length = 0) : nfG gs ls = [gasAt gs 0] := if_pos h
theorem nfG_1 (h : ¬ (nfK gs ls ls.length).2.length = 0) : nfG gs ls = (nfK gs ls ls.length).1 := if_neg h
theorem set_at {α : Type} {l : List α} {i : Nat} {a b : α} (h : l[i]? = some a) : (l.set i b)[i]? = some b := List.getElem?_set_self (List.getElem?_eq_some_iff.1 h).1
theorem set_set {α : Type} {l : List α} {i : Nat} {a b : α} : (l.set i a).set i b = l.set i b := List.set_set a
end
end Go.Proofs.Ytdmnejfpbbmcaaa
