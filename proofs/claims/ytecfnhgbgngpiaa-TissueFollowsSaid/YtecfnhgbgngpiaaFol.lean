/-
  Plain models of chapter 3: the loads behind each of several legs. Conditions: none; no program in sight.
-/
import Derived.Test.YtecfnhgbgngpiaaEnc2
import Derived.Test.YtecfnhgbgngpiaaShPut
namespace Go.Proofs.Ytecfnhgbgngpiaa
open Go.RowKit

def folM (ts : List Cp) (ls : List Ld) (xs : List Lg) (f : Nat) : Nat → List Ld
  | 0 => ls
  | k + 1 => match xs[k]? with
    | some x => loadedM ts (folM ts ls xs f k) x f
    | none => folM ts ls xs f k
section
variable {ts : List Cp} {ls : List Ld} {xs : List Lg} {x : Lg} {f k : Nat} {fi : Int}
theorem folM_step (h : xs[k]? = some x) : folM ts ls xs f (k + 1) = loadedM ts (folM ts ls xs f k) x f := by
  rw [folM, h]
def ckLgs : List Lg → Int
  | [] => 0
  | x :: t => if ckLeg x ≠ 0 then ckLeg x else ckLgs t
theorem ckLgs_step (h : xs[k]? = some x) : ckLgs (xs.drop k) = if ckLeg x ≠ 0 then ckLeg x else ckLgs (xs.drop (k + 1)) := by rw [drop_cons h]; rfl
theorem ckLgs_yes (h : xs[k]? = some x) (hx : ckLeg x ≠ 0) : ckLgs (xs.drop k) = ckLeg x := by rw [ckLgs_step h, if_pos hx]
theorem ckLgs_no (h : xs[k]? = some x) (hx : ¬ ckLeg x ≠ 0) : ckLgs (xs.drop k) = ckLgs (xs.drop (k + 1)) := by rw [ckLgs_step h, if_neg hx]
theorem ckLgs_end (h : xs.length ≤ k) : ckLgs (xs.drop k) = 0 := by rw [drop_all h]; rfl
theorem ckLgs_ok : ∀ {xs : List Lg}, ckLgs xs = 0 → ∀ x ∈ xs, ckLeg x = 0
  | [], _, x, hx => by cases hx
  | d :: t, h, x, hx => by
    unfold ckLgs at h
    split at h
    · rename_i hd; exact absurd h hd
    · rename_i hd
      rcases List.mem_cons.1 hx with rfl | hx
      · exact Decidable.not_not.1 hd
      · exact ckLgs_ok h x hx
theorem folM_ok (h : okTL ts ls) (hx : ckLgs xs = 0) (hf : f ≤ 6) : ∀ k, okTL ts (folM ts ls xs f k)
  | 0 => h
  | k + 1 => by
    rcases he : xs[k]? with _ | x
    · rw [folM, he]; exact folM_ok h hx hf k
    · rw [folM_step he]; exact loaded_ok (folM_ok h hx hf k) (ckLeg_ok (ckLgs_ok hx x (List.mem_of_getElem? he))).1 hf
theorem folM_E (h : okTL ts ls) (hx : ckLgs xs = 0) (hf : f ≤ 6) (he : xs[k]? = some x) : loadedE ts (folM ts ls xs f k) x (f : Int) = (folM ts ls xs f (k + 1), 0) := by
  rw [folM_step he]
  have hk := folM_ok h hx hf k
  exact loadedE_4 (fun hh => hh (ckLoads_mk hk)) (fun hh => hh (ckLgs_ok hx x (List.mem_of_getElem? he))) hf
def folC (ts : List Cp) (ls : List Ld) (xs : List Lg) (f : Int) : Int :=
  if ckLoads ts ls ≠ 0 then ckLoads ts ls else if xs.length > 200 then 8 else if ckLgs xs ≠ 0 then ckLgs xs else if 0 ≤ f ∧ f ≤ 6 then 0 else 2
structure okFol (ts : List Cp) (ls : List Ld) (xs : List Lg) (fi : Int) : Prop where
  k : okTL ts ls
  l : xs.length ≤ 200
  c : ckLgs xs = 0
  f : 0 ≤ fi ∧ fi ≤ 6
theorem folC_ok (h : folC ts ls xs fi = 0) : okFol ts ls xs fi := by
  unfold folC at h
  split at h
  · rename_i h1; exact absurd h h1
  · rename_i h1
    split at h
    · cases h
    · rename_i h2
      split at h
      · rename_i h3; exact absurd h h3
      · rename_i h3
        split at h
        · rename_i h4; exact ⟨ckLoads_ok (Decidable.not_not.1 h1), by omega, Decidable.not_not.1 h3, h4⟩
        · cases h
theorem folC_0 (h : ¬ ckLoads ts ls ≠ 0) (h2 : ¬ xs.length > 200) (h3 : ¬ ckLgs xs ≠ 0) (h4 : 0 ≤ fi ∧ fi ≤ 6) : folC ts ls xs fi = 0 := by unfold folC; rw [if_neg h, if_neg h2, if_neg h3, if_pos h4]
theorem folC_1 (h : ckLoads ts ls ≠ 0) : folC ts ls xs fi = ckLoads ts ls := if_pos h
theorem folC_2 (h : ¬ ckLoads ts ls ≠ 0) (h2 : xs.length > 200) : folC ts ls xs fi = 8 := by unfold folC; rw [if_neg h, if_pos h2]
theorem folC_3 (h : ¬ ckLoads ts ls ≠ 0) (h2 : ¬ xs.length > 200) (h3 : ckLgs xs ≠ 0) : folC ts ls xs fi = ckLgs xs := by unfold folC; rw [if_neg h, if_neg h2, if_pos h3]
theorem folC_4 (h : ¬ ckLoads ts ls ≠ 0) (h2 : ¬ xs.length > 200) (h3 : ¬ ckLgs xs ≠ 0) (h4 : ¬ (0 ≤ fi ∧ fi ≤ 6)) : folC ts ls xs fi = 2 := by unfold folC; rw [if_neg h, if_neg h2, if_neg h3, if_neg h4]
/-- The slices of loads that were made, the newest first. -/
def rlR (u : Nat) (ts : List Cp) (ls : List Ld) (xs : List Lg) (f : Nat) : List Value → List Res
  | [] => []
  | v :: t => sl v u 4 ((folM ts ls xs f (t.length + 1)).map cLd) :: rlR u ts ls xs f t
theorem rlR_mem {u i : Nat} {v : Value} : ∀ {vs : List Value}, vs.reverse[i]? = some v → sl v u 4 ((folM ts ls xs f (i + 1)).map cLd) ∈ rlR u ts ls xs f vs
  | [], h => by simp at h
  | a :: t, h => by
    rw [List.reverse_cons] at h
    unfold rlR
    rcases Nat.lt_or_ge i t.length with hi | hi
    · rw [List.getElem?_append_left (by simpa using hi)] at h
      exact List.mem_cons_of_mem _ (rlR_mem h)
    · rw [List.getElem?_append_right (by simpa using hi)] at h
      have h0 : i - t.reverse.length = 0 := by
        rcases Nat.eq_zero_or_pos (i - t.reverse.length) with h9 | h9
        · exact h9
        · rw [List.getElem?_eq_none (by simp at h9 ⊢; omega)] at h; cases h
      rw [h0] at h
      have hv : a = v := by simpa using h
      have hi2 : i = t.length := by simp at h0; omega
      subst hv
      subst hi2
      exact List.mem_cons_self
theorem rlR_own {u : Nat} : ∀ {vs : List Value}, ∀ r ∈ rlR u ts ls xs f vs, r.own = true
  | [], r, h => by cases h
  | a :: t, r, h => by
    unfold rlR at h
    rcases List.mem_cons.1 h with rfl | h
    · exact sl_own _ _ _ _
    · exact rlR_own r h
theorem rlR_sinks {u : Nat} : ∀ {vs : List Value}, ∀ r ∈ rlR u ts ls xs f vs, Sinks r
  | [], r, h => by cases h
  | a :: t, r, h => by
    unfold rlR at h
    rcases List.mem_cons.1 h with rfl | h
    · exact sl_sinks _ _ _ _
    · exact rlR_sinks r h
def FolP (o u : Nat) (ts : List Cp) (ls : List Ld) (xs : List Lg) (fi : Int) (v : Value) (rs' : List Res) : Prop :=
  ∃ s vs, v = .tuple #[s, .int .i64 (folC ts ls xs fi)] ∧ rs' = sl s o 1 (vs.reverse.map fun x => [x]) :: rlR u ts ls xs fi.toNat vs ∧ vs.length = if folC ts ls xs fi = 0 then xs.length else 0
theorem FolP_bad {o u : Nat} {c : Int} (h : folC ts ls xs fi = c) (hc : c ≠ 0) : FolP o u ts ls xs fi (.tuple #[.slice none 0 0, .int .i64 c]) [sl (.slice none 0 0) o 1 []] := ⟨_, [], by rw [h], rfl, by rw [h, if_neg hc]; rfl⟩
theorem FolP_own {o u : Nat} {s : Value} {vs : List Value} : ∀ r ∈ sl s o 1 (vs.reverse.map fun x => [x]) :: rlR u ts ls xs f vs, r.own = true := by
  intro r hr
  rcases List.mem_cons.1 hr with rfl | hr
  · exact sl_own _ _ _ _
  · exact rlR_own r hr
theorem FolP_sinks {o u : Nat} : ∀ v rs', FolP o u ts ls xs fi v rs' → ∀ r ∈ rs', Sinks r := by
  rintro v rs' ⟨s, vs, _, rfl, _⟩ r hr
  rcases List.mem_cons.1 hr with rfl | hr
  · exact sl_sinks _ _ _ _
  · exact rlR_sinks r hr
/-- The answers of the law's own way through the errors. -/
def folC1 (ts : List Cp) (ls : List Ld) (xs : List Lg) : Int := if ckLoads ts ls = 0 ∧ xs.length > 200 then 8 else ckLoads ts ls
def folC2 (ts : List Cp) (ls : List Ld) (xs : List Lg) : Int := if folC1 ts ls xs ≠ 0 then folC1 ts ls xs else ckLgs xs
theorem folC_eq : (if folC2 ts ls xs = 0 ∧ ¬ (0 ≤ fi ∧ fi ≤ 6) then 2 else folC2 ts ls xs) = folC ts ls xs fi := by
  unfold folC folC2 folC1
  by_cases h1 : ckLoads ts ls = 0 <;> by_cases h2 : xs.length > 200 <;> by_cases h3 : ckLgs xs = 0 <;> by_cases h4 : 0 ≤ fi ∧ fi ≤ 6 <;> simp [h1, h2, h3, h4]
theorem folL_step {c : Int} (h : xs[k]? = some x) (hc : c = 0) (he : (if c ≠ 0 then c else ckLgs (xs.drop k)) = folC2 ts ls xs) : (if ckLeg x ≠ 0 then ckLeg x else ckLgs (xs.drop (k + 1))) = folC2 ts ls xs := by
  rw [← he, if_neg (show ¬ c ≠ 0 from fun hh => hh hc), ckLgs_step h]
theorem folL_end {c : Int} (h : xs.length ≤ k ∨ c ≠ 0) (he : (if c ≠ 0 then c else ckLgs (xs.drop k)) = folC2 ts ls xs) : c = folC2 ts ls xs := by
  by_cases hc : c = 0
  · rcases h with h | h
    · rw [if_neg (fun hh => hh hc), ckLgs_end h] at he
      omega
    · exact absurd hc h
  · rw [if_pos hc] at he
    exact he
theorem rev_get {k n : Nat} {vs : List Value} (hv : vs.length = n) (h : k < n) : ∃ v, vs.reverse[k]? = some v := get_some _ (by rw [List.length_reverse]; omega)
theorem gv_rl {u i : Nat} {v : Value} {vs : List Value} (h : vs.reverse[i]? = some v) : GvR (rlR u ts ls xs f vs) v 4 ((folM ts ls xs f (i + 1)).map cLd) := ⟨_, rlR_mem h, sl_gives _ _ _ _⟩
end
section
variable {rs rs1 t s : List Res} {r : Res}
instance (priority := low) rmBC {g : Nat} {u : TypeId} {xs : List Value} [h : RmB t g u xs rs1] : RmB (s ++ t) g u xs (s ++ rs1) := ⟨List.perm_middle.symm.trans (h.out.append_left s)⟩
instance (priority := low) rmRC {v : Value} {size : Nat} {l : List (List Value)} [h : RmR t v size l rs1] : RmR (s ++ t) v size l (s ++ rs1) := ⟨List.perm_middle.symm.trans (h.out.append_left s)⟩
instance (priority := low) rmSC {v : Value} {e size : Nat} {l : List (List Value)} [h : RmS t v e size l rs1] : RmS (s ++ t) v e size l (s ++ rs1) := ⟨List.perm_middle.symm.trans (h.out.append_left s)⟩
instance (priority := low) tlC [h : Tl rs t] : Tl (rs ++ s) t := ⟨by
  obtain ⟨d, hd⟩ := h.out
  exact ⟨d ++ s, by rw [← List.append_assoc]; exact hd.append_right s⟩⟩
end
end Go.Proofs.Ytecfnhgbgngpiaa
