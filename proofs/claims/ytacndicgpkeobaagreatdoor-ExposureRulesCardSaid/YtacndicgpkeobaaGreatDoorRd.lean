/-
  Plain laws of reading texts: pieces at a mark, lines, numbers as the library reads them. Conditions: those in front of each theorem; no program in sight.
-/
import Derived.Test.YtacndicgpkeobaaGreatDoorTx2
import Derived.Lib.Bytealg
import Derived.Lib.IndexLaws
import Derived.Lib.Strings
import Derived.Lib.ConvBytes
import Derived.Test.YtacndicgpkeobaaGreatDoorShBld
namespace Go.Proofs.YtacndicgpkeobaaGreatDoor
open Go.RowKit
theorem idx_two (c : UInt8) : ∀ l : Tx, (Lib.indexByte l c = -1 ∧ ∀ x ∈ l, x ≠ c) ∨ ∃ j : Nat, Lib.indexByte l c = j ∧ j < l.length ∧ l = l.take j ++ c :: l.drop (j + 1) ∧ ∀ x ∈ l.take j, x ≠ c
  | [] => .inl ⟨rfl, fun x hx => by cases hx⟩
  | b :: l => by
    by_cases h : b = c
    · subst h
      refine .inr ⟨0, ?_, by simp, by simp, by simp⟩
      unfold Lib.indexByte
      rw [if_pos (by simp)]
      rfl
    · have h9 : ¬ (b == c) = true := by simpa using h
      rcases idx_two c l with ⟨h1, h2⟩ | ⟨j, h1, h2, h3, h4⟩
      · refine .inl ⟨by unfold Lib.indexByte; rw [if_neg h9, h1]; rfl, fun x hx => ?_⟩
        rcases List.mem_cons.1 hx with rfl | hx
        · exact h
        · exact h2 x hx
      · refine .inr ⟨j + 1, ?_, by simp; omega, ?_, fun x hx => ?_⟩
        · unfold Lib.indexByte; rw [if_neg h9, h1, if_neg (by simp <;> omega)]; omega
        · rw [List.take_succ_cons, List.drop_succ_cons, List.cons_append, ← h3]
        · rw [List.take_succ_cons] at hx
          rcases List.mem_cons.1 hx with rfl | hx
          · exact h
          · exact h4 x hx
theorem cutF_i0 {m : UInt8} {l : Tx} (h : Lib.indexByte l m < 0) : cutF m [] l = [l] := by
  rcases idx_two m l with ⟨_, h2⟩ | ⟨j, h1, _⟩
  · rw [cutF_no h2, List.nil_append]
  · omega
theorem cutF_ij {m : UInt8} {l : Tx} (h : ¬ Lib.indexByte l m < 0) : ∃ j : Nat, Lib.indexByte l m = j ∧ j < l.length ∧ l[j]? = some m ∧ (∀ x ∈ l.take j, x ≠ m) ∧ cutF m [] l = l.take j :: cutF m [] (l.drop (j + 1)) := by
  rcases idx_two m l with ⟨h1, _⟩ | ⟨j, h1, h2, h3, h4⟩
  · omega
  · refine ⟨j, h1, h2, ?_, h4, ?_⟩
    · rw [h3, List.getElem?_append_right (by rw [List.length_take]; omega), show j - (l.take j).length = 0 by rw [List.length_take]; omega]
      rfl
    · conv => lhs; rw [h3]
      rw [cutF_at h4, List.nil_append]
theorem cutF_cnt {m : UInt8} : ∀ (l cur : Tx), (cutF m cur l).length = Lib.countByte l m + 1
  | [], cur => rfl
  | c :: r, cur => by
    unfold cutF Lib.countByte
    by_cases h : c = m
    · subst h
      rw [if_pos rfl, List.length_cons, cutF_cnt r [], List.count_cons_self]
      rfl
    · rw [if_neg h, cutF_cnt r _, List.count_cons_of_ne h]
      rfl
theorem cutF_one {m : UInt8} {l z : Tx} (h : cutF m [] l = [z]) : z = l := by
  by_cases h1 : Lib.indexByte l m < 0
  · rw [cutF_i0 h1, List.cons.injEq] at h
    exact h.1.symm
  · obtain ⟨j, _, _, _, _, h2⟩ := cutF_ij h1
    rw [h2, List.cons.injEq] at h
    have h9 := cutF_cnt (m := m) (l.drop (j + 1)) []
    rw [h.2] at h9
    simp at h9
theorem cnt_le (l : Tx) (m : UInt8) : Lib.countByte l m ≤ l.length := List.count_le_length
theorem cutF_ne {m : UInt8} {l cur : Tx} : 1 ≤ (cutF m cur l).length := by rw [cutF_cnt]; omega
theorem cutF_le {m : UInt8} : ∀ (l cur : Tx), ∀ p ∈ cutF m cur l, p.length ≤ cur.length + l.length
  | [], cur, p, hp => by
    rw [cutF, List.mem_singleton] at hp
    subst hp
    exact Nat.le_add_right _ _
  | c :: r, cur, p, hp => by
    unfold cutF at hp
    rw [List.length_cons]
    by_cases h : c = m
    · rw [if_pos h] at hp
      rcases List.mem_cons.1 hp with rfl | hp
      · omega
      · have := cutF_le r [] p hp
        rw [List.length_nil] at this
        omega
    · rw [if_neg h] at hp
      have := cutF_le r _ p hp
      rw [List.length_append, List.length_singleton] at this
      omega
/-! ### Pieces that are laid one behind the other -/
theorem pc_step {ps : List Tx} {i : Nat} {p : Tx} {t : List Tx} (h : ps.drop i = p :: t) : ps.take (i + 1) = ps.take i ++ [p] ∧ ps.drop (i + 1) = t ∧ i < ps.length := by
  have h1 : ps[i]? = some p := by
    have := List.getElem?_drop (xs := ps) (i := i) (j := 0)
    rw [h, Nat.add_zero] at this
    exact this.symm
  refine ⟨?_, ?_, (List.getElem?_eq_some_iff.1 h1).1⟩
  · rw [List.take_add_one, h1]
    rfl
  · rw [← List.drop_drop, h]
    rfl
def pcR (ps : List Tx) (i : Nat) : List (List Value) := (ps.take i).map cT ++ List.replicate (ps.length - i) (cT [])
theorem pcR_len {ps : List Tx} {i : Nat} (h : i ≤ ps.length) : (pcR ps i).length = ps.length := by
  unfold pcR
  rw [List.length_append, List.length_map, List.length_take, List.length_replicate]
  omega
theorem pcR_all {ps : List Tx} : pcR ps ps.length = ps.map cT := by
  unfold pcR
  rw [List.take_length, Nat.sub_self]
  exact List.append_nil _
theorem pcR_s {ps : List Tx} {i : Nat} {p : Tx} {t : List Tx} (h : ps.drop i = p :: t) : (pcR ps i).set i (cT p) = pcR ps (i + 1) := by
  obtain ⟨h1, _, h3⟩ := pc_step h
  unfold pcR
  have hl : ((ps.take i).map cT).length = i := by rw [List.length_map, List.length_take]; omega
  rw [List.set_append_right _ _ (by omega), hl, Nat.sub_self, h1, List.map_append, List.append_assoc, show ps.length - i = (ps.length - (i + 1)) + 1 by omega, List.replicate_succ]
  rfl
theorem ln_get {ls : List Tx} {i : Nat} {p : Tx} {t : List Tx} (h : ls.drop i = p :: t) : ls[i]? = some p ∧ ls.drop (i + 1) = t ∧ i < ls.length := by
  have h1 : ls[i]? = some p := by
    have := List.getElem?_drop (xs := ls) (i := i) (j := 0)
    rw [h, Nat.add_zero] at this
    exact this.symm
  exact ⟨h1, (pc_step h).2.1, (pc_step h).2.2⟩
/-! ### Lines -/
def lnsP : List Tx → List Tx
  | [] => []
  | [p] => if p = [] then [] else [p]
  | p :: q :: t => (p ++ [10]) :: lnsP (q :: t)
def lnsF (t : Tx) : List Tx := lnsP (cutF 10 [] t)
theorem lnsF_1 {r : Tx} (h0 : 0 < r.length) (h : Lib.indexByte r 10 < 0) : lnsF r = [r] := by
  unfold lnsF
  rw [cutF_i0 h]
  unfold lnsP
  rw [if_neg (fun hh => by rw [hh] at h0; cases h0)]
theorem takeC_at {l : Tx} {j : Nat} {c : UInt8} (h : l[j]? = some c) : l.take (j + 1) = l.take j ++ [c] := by rw [List.take_add_one, h]; rfl
theorem lnsF_2 {r : Tx} (h : ¬ Lib.indexByte r 10 < 0) : ∃ j : Nat, Lib.indexByte r 10 = j ∧ j < r.length ∧ (r.take (j + 1)).length = j + 1 ∧ lnsF r = r.take (j + 1) :: lnsF (r.drop (j + 1)) := by
  obtain ⟨j, h1, h2, h3, h4, h5⟩ := cutF_ij h
  refine ⟨j, h1, h2, by rw [List.length_take]; omega, ?_⟩
  unfold lnsF
  rw [h5, takeC_at h3]
  obtain ⟨q, t, hq⟩ : ∃ q t, cutF 10 [] (r.drop (j + 1)) = q :: t := by
    cases hc : cutF 10 [] (r.drop (j + 1)) with
    | nil => have := cutF_ne (m := 10) (l := r.drop (j + 1)) (cur := []); rw [hc] at this; cases this
    | cons q t => exact ⟨q, t, rfl⟩
  rw [hq]
  rfl
def lnE (l : Tx) : Bool := Lib.hasSuffix l [10]
def lnB (l : Tx) : Tx := Lib.trimSuffix l [10]
theorem lnE_app (p : Tx) : lnE (p ++ [10]) = true ∧ lnB (p ++ [10]) = p := by
  have h : lnE (p ++ [10]) = true := by
    unfold lnE Lib.hasSuffix
    rw [List.isSuffixOf_iff_suffix]
    exact List.suffix_append _ _
  refine ⟨h, ?_⟩
  have h2 : lnB (p ++ [10]) = (p ++ [10]).take ((p ++ [10]).length - [(10 : UInt8)].length) := if_pos h
  rw [h2]
  simp
theorem lnE_no {p : Tx} (h : ∀ c ∈ p, c ≠ 10) : lnE p = false := by
  cases h9 : lnE p with
  | false => rfl
  | true =>
    unfold lnE Lib.hasSuffix at h9
    rw [List.isSuffixOf_iff_suffix] at h9
    exact absurd rfl (h 10 (h9.subset (List.mem_singleton.2 rfl)))
theorem lnB_len (l : Tx) : (lnB l).length ≤ l.length := by
  unfold lnB Lib.trimSuffix
  split
  · rw [List.length_take]; omega
  · exact Nat.le_refl _
theorem cutF_all {m : UInt8} : ∀ (l cur : Tx), (∀ c ∈ cur, c ≠ m) → ∀ p ∈ cutF m cur l, ∀ c ∈ p, c ≠ m
  | [], cur, h, p, hp, c, hc => by
    rw [cutF, List.mem_singleton] at hp
    subst hp
    exact h c hc
  | a :: r, cur, h, p, hp, c, hc => by
    unfold cutF at hp
    by_cases h1 : a = m
    · rw [if_pos h1] at hp
      rcases List.mem_cons.1 hp with rfl | hp
      · exact h c hc
      · exact cutF_all r [] (fun _ hx => by cases hx) p hp c hc
    · rw [if_neg h1] at hp
      refine cutF_all r _ (fun x hx => ?_) p hp c hc
      rcases List.mem_append.1 hx with hx | hx
      · exact h x hx
      · rw [List.mem_singleton.1 hx]; exact h1
theorem modify_pushT {α : Type} (a : Array α) (x : α) (f : α → α) : (a.push x).modify a.size f = a.push (f x) := by
  apply Array.ext
  · simp
  · intro i h1 h2
    simp only [Array.getElem_modify, Array.getElem_push]
    by_cases h : a.size = i
    · subst h; simp
    · have hi : i < a.size := by simp at h1; omega
      simp [h, hi]
theorem below_byT (w : World) (e : TypeId) (s : ByteArray) : Below w.heap.size w (Lib.bytesWorld w e s) := by
  unfold Lib.bytesWorld World.freeze
  rw [if_neg (by decide)]
  refine ⟨rfl, rfl, rfl, ?_, fun k hk => ?_⟩
  · show w.heap.size ≤ ((w.heap.push _).modify w.heap.size _).size
    simp
  · show ((w.heap.push _).modify w.heap.size _)[k]? = _
    rw [modify_pushT, Array.getElem?_push_lt hk, Array.getElem?_eq_getElem hk]
theorem lnsP_len : ∀ ps : List Tx, (lnsP ps).length ≤ ps.length
  | [] => Nat.le_refl _
  | [p] => by
    unfold lnsP
    split
    · exact Nat.zero_le _
    · exact Nat.le_refl _
  | p :: q :: t => by
    have := lnsP_len (q :: t)
    rw [lnsP, List.length_cons, List.length_cons]
    omega
theorem lnsF_len (t : Tx) : (lnsF t).length ≤ t.length + 1 := by
  have h1 := lnsP_len (cutF 10 [] t)
  have h2 := cutF_cnt (m := 10) t []
  have h3 := cnt_le t 10
  unfold lnsF
  omega
theorem lnsP_le {n : Nat} : ∀ ps : List Tx, (∀ p ∈ ps, p.length ≤ n) → ∀ p ∈ lnsP ps, p.length ≤ n + 1
  | [], _, p, hp => by cases hp
  | [q], h, p, hp => by
    unfold lnsP at hp
    split at hp
    · cases hp
    · have := h p hp
      omega
  | a :: q :: t, h, p, hp => by
    rw [lnsP] at hp
    rcases List.mem_cons.1 hp with rfl | hp
    · have := h a List.mem_cons_self
      rw [List.length_append, List.length_singleton]
      omega
    · exact lnsP_le (q :: t) (fun x hx => h x (List.mem_cons_of_mem _ hx)) p hp
theorem lnsF_le {t p : Tx} {i : Nat} (h : (lnsF t)[i]? = some p) : p.length ≤ t.length + 1 := by
  refine lnsP_le _ (fun x hx => ?_) p (List.mem_of_getElem? h)
  have := cutF_le (m := 10) t [] x hx
  rw [List.length_nil] at this
  omega
/-! ### Numbers as the library reads them -/
def azB (l : Tx) : Bool := match Lib.atoiAll l with
  | .ok _ => false
  | _ => true
def azN (l : Tx) : Int := match Lib.atoiAll l with
  | .ok v => v
  | .syntax => 0
  | .range => Lib.atoiSat l
def AzP (t : TypeId) (l : Tx) (y : Value) (rs : List Res) : Prop := ∃ N, y = .tuple #[.int .i64 (azN l), errV t N (azB l)] ∧ rs = []
theorem AzP_sinks {t : TypeId} {l : Tx} : ∀ y rs, AzP t l y rs → ∀ r ∈ rs, Sinks r := by
  rintro y rs ⟨N, _, rfl⟩ r hr
  cases hr
section
variable {l : Tx} {d : Nat}
theorem az_1 (hd : d ≤ 17) (h : azB l = true) : numM l d = none := by
  rw [← rd_num hd]
  unfold azB at h
  unfold rdNum
  split
  · rename_i n hn; rw [hn] at h; cases h
  · rfl
theorem az_0 (h : azB l = false) : Lib.atoiAll l = .ok (azN l) := by
  unfold azB at h
  unfold azN
  generalize Lib.atoiAll l = q at h ⊢
  match q with
  | .ok v => rfl
  | .syntax => cases h
  | .range => cases h
theorem az_2 (hd : d ≤ 17) (h : azB l = false) (h2 : Lib.itoa (azN l) ≠ l) : numM l d = none := by
  rw [← rd_num hd]
  unfold rdNum
  rw [az_0 h]
  exact if_neg fun hh => h2 hh.1
theorem az_3 (hd : d ≤ 17) (h : azB l = false) (h2 : (Lib.trimPrefix l [45]).length > d) : numM l d = none := by
  rw [← rd_num hd]
  unfold rdNum
  rw [az_0 h]
  exact if_neg fun hh => by omega
theorem az_4 (hd : d ≤ 17) (h : azB l = false) (h2 : ¬ Lib.itoa (azN l) ≠ l) (h3 : ¬ (Lib.trimPrefix l [45]).length > d) : numM l d = some (azN l) := by
  rw [← rd_num hd]
  unfold rdNum
  rw [az_0 h]
  exact if_pos ⟨Decidable.not_not.1 h2, by omega⟩
theorem az_in (h : azB l = false) : -9223372036854775808 ≤ azN l ∧ azN l ≤ 9223372036854775807 := Lib.atoiAll_bounds (az_0 h)
end
end Go.Proofs.YtacndicgpkeobaaGreatDoor
