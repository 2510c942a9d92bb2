/-
  Opening a law's arguments: what a value that reads by its type looks like, and what its slices read as. Conditions: none; no program in sight.
-/
import Derived.Test.YtdmnejfpbbmcaaaRow
import Derived.Deep.Slices
import Derived.OpenShut
namespace Go.Proofs.Ytdmnejfpbbmcaaa
open Go.RowKit Go.ChangeShapes Go.WideShapes Go.Deep

def i64 (n : Int) : Prop := -9223372036854775808 ≤ n ∧ n ≤ 9223372036854775807
def Opn (P : Program) (W : World) (t : TypeId) (Φ : List Value → Prop) : Prop :=
  ∀ (H : Type) (enc : TypeId × Value → H) (fuel : Nat) (cs : List Value) (x : DataW H × List MemPlace), DataW.trod enc P W 0 (fun _ => true) true fuel t cs = some x → Φ cs
section
variable {P : Program} {W : World} {t e : TypeId} {Φ Ψ : List Value → Prop}
theorem Opn.mono (h : Opn P W t Φ) (hm : ∀ cs, Φ cs → Ψ cs) : Opn P W t Ψ := fun H enc fuel cs x hx => hm cs (h H enc fuel cs x hx)
theorem Opn.and (h : Opn P W t Φ) (h2 : Opn P W t Ψ) : Opn P W t (fun cs => Φ cs ∧ Ψ cs) := fun H enc fuel cs x hx => ⟨h H enc fuel cs x hx, h2 H enc fuel cs x hx⟩
theorem opn_int (ht : P.underlying t = some (.int .i64)) : Opn P W t (fun cs => ∃ n, i64 n ∧ cs = [.int .i64 n]) := fun H enc fuel cs x hx => by
  obtain ⟨n, rfl, _, hw⟩ := DataW.trod_int ht hx
  exact ⟨n, bounds_i64 hw, rfl⟩
theorem opn_str (ht : P.underlying t = some .string) : Opn P W t (fun cs => ∃ s, s.size ≤ maxLen ∧ cs = [.string s]) := fun H enc fuel cs x hx => by
  obtain ⟨s, rfl, _, hw⟩ := DataW.trod_string ht hx
  exact ⟨s, hw, rfl⟩
def fsC (P : Program) (t : TypeId) : Option (List (Nat × Nat × Nat)) := match P.underlying t with
  | some (.struct fs) => some (fs.toList.map fun f => (f.offset, P.cellsOf f.type, f.type))
  | _ => none
theorem fsC_of {l : List (Nat × Nat × Nat)} (h : fsC P t = some l) : ∃ fs : Array Field, P.underlying t = some (.struct fs) ∧ fs.toList.map (fun f => (f.offset, P.cellsOf f.type, f.type)) = l := by
  unfold fsC at h
  split at h
  · rename_i fs hfs
    injection h with h
    exact ⟨fs, hfs, h⟩
  · cases h
theorem opn_len {l : List (Nat × Nat × Nat)} (h : fsC P t = some l) : Opn P W t (fun cs => cs.length = P.cellsOf t) := fun H enc fuel cs x hx => by
  obtain ⟨fs, hfs, _⟩ := fsC_of h
  obtain ⟨_, _, _, _, hl, _⟩ := DataW.trod_struct hfs hx
  exact hl
theorem opn_field {l : List (Nat × Nat × Nat)} (h : fsC P t = some l) {o k ty : Nat} (hm : (o, k, ty) ∈ l) (hΦ : Opn P W ty Φ) : Opn P W t (fun cs => Φ ((cs.drop o).take k)) := fun H enc fuel cs x hx => by
  obtain ⟨fs, hfs, rfl⟩ := fsC_of h
  obtain ⟨xs, n, _, _, _, hlen, hf⟩ := DataW.trod_struct hfs hx
  obtain ⟨f, hfm, he⟩ := List.mem_map.1 hm
  simp only [Prod.mk.injEq] at he
  obtain ⟨rfl, rfl, rfl⟩ := he
  obtain ⟨i, hi, hfi⟩ := List.getElem_of_mem hfm
  have hfi' : fs[i]? = some f := by rw [← hfi]; simp only [Array.getElem_toList]; exact Array.getElem?_eq_getElem _
  have h1 := hf i f hfi'
  have hil : i < xs.length := by rw [hlen]; simpa using hi
  rw [List.getElem?_eq_getElem hil] at h1
  exact hΦ H enc n _ _ h1
def IT (P : Program) (t n : Nat) : Prop := ∀ W, Opn P W t (fun cs => ∃ xs : List Int, xs.length = n ∧ (∀ x ∈ xs, i64 x) ∧ cs = xs.map iV)
theorem it_int (ht : P.underlying t = some (.int .i64)) : IT P t 1 := fun W => (opn_int ht).mono fun cs ⟨n, h1, h2⟩ => ⟨[n], rfl, fun x hx => by simp only [List.mem_singleton] at hx; subst hx; exact h1, h2⟩
inductive ITF (P : Program) : Nat → List (Nat × Nat × Nat) → Nat → Prop
  | nil (n : Nat) : ITF P n [] n
  | cons {o k ty n : Nat} {l : List (Nat × Nat × Nat)} : IT P ty k → ITF P (o + k) l n → ITF P o ((o, k, ty) :: l) n
theorem ITF.le {o n : Nat} {l : List (Nat × Nat × Nat)} (h : ITF P o l n) : o ≤ n := by
  induction h with
  | nil => exact Nat.le_refl _
  | cons _ _ ih => omega
theorem itf_cells {o n : Nat} {l : List (Nat × Nat × Nat)} (h : ITF P o l n) {H : Type} {enc : TypeId × Value → H} {fuel : Nat} {cs : List Value} (hn : cs.length = n)
    (hf : ∀ p ∈ l, ∃ y, DataW.trod enc P W 0 (fun _ => true) true fuel p.2.2 ((cs.drop p.1).take p.2.1) = some y) : ∃ xs : List Int, xs.length = n - o ∧ (∀ x ∈ xs, i64 x) ∧ cs.drop o = xs.map iV := by
  induction h with
  | nil m => exact ⟨[], by simp, fun x hx => (by cases hx), by rw [List.drop_eq_nil_of_le (by omega)]; rfl⟩
  | @cons o k ty m l hi ht ih =>
    obtain ⟨ys, hy1, hy2, hy3⟩ := ih hn (fun p hp => hf p (List.mem_cons_of_mem _ hp))
    obtain ⟨y, hy⟩ := hf _ List.mem_cons_self
    obtain ⟨xs, hx1, hx2, hx3⟩ := hi W H enc fuel _ _ hy
    have hle := ht.le
    refine ⟨xs ++ ys, by rw [List.length_append, hx1, hy1]; omega, fun x hx => ?_, ?_⟩
    · rcases List.mem_append.1 hx with h | h
      · exact hx2 x h
      · exact hy2 x h
    · rw [List.map_append, ← hx3, ← hy3]
      simp only
      rw [← List.drop_drop, List.take_append_drop]
theorem it_struct {n : Nat} {l : List (Nat × Nat × Nat)} (h : fsC P t = some l) (hC : P.cellsOf t = n) (hl : ITF P 0 l n) : IT P t n := fun W H enc fuel cs x hx => by
  obtain ⟨fs, hfs, rfl⟩ := fsC_of h
  obtain ⟨xs, m, _, _, hlen, hxl, hf⟩ := DataW.trod_struct hfs hx
  obtain ⟨ys, h1, h2, h3⟩ := itf_cells (W := W) hl (cs := cs) (H := H) (enc := enc) (fuel := m) (by rw [hlen, hC]) (fun p hp => by
    obtain ⟨f, hfm, rfl⟩ := List.mem_map.1 hp
    obtain ⟨i, hi, hfi⟩ := List.getElem_of_mem hfm
    have hfi' : fs[i]? = some f := by rw [← hfi]; simp only [Array.getElem_toList]; exact Array.getElem?_eq_getElem _
    have h1 := hf i f hfi'
    have hil : i < xs.length := by rw [hxl]; simpa using hi
    rw [List.getElem?_eq_getElem hil] at h1
    exact ⟨_, h1⟩)
  exact ⟨ys, by simpa using h1, h2, by simpa using h3⟩
theorem opn_slice {k : Nat} (ht : P.underlying t = some (.slice e)) (hk : P.cellsOf e = k) (hk1 : 1 ≤ k) (h : Opn P W e Φ) : Opn P W t (fun cs => ∃ v l, cs = [v] ∧ Rdd W v k l ∧ ∀ c ∈ l, Φ c) := fun H enc fuel cs x hx => by
  rcases open_slice ht hx with ⟨rfl, _⟩ | ⟨a, len, cap, m, n, D, Pl, rfl, _, hl, hc, hm, _, hi⟩
  · exact ⟨_, [], rfl, ⟨⟨none, 0, rfl, by simp, by simp⟩, fun x hx => (by cases hx), fun h => by simp at h⟩, fun c hc => by cases hc⟩
  · have hm' : m = cap := by simpa using hm
    subst hm'
    rw [hk] at hi
    obtain ⟨F, hF⟩ := choose_lt (p := fun i (cs' : List Value) => W.cells? 0 (a.add (i * k)) k = some cs' ∧ DataW.trod enc P W 0 (fun _ => true) true n e cs' = some (D i, Pl i)) (fun i him => hi i him)
    have hlen : ((List.range len).map F).length = len := by simp
    have hge : ∀ i, i < len → ((List.range len).map F)[i]? = some (F i) := fun i hil => by rw [List.getElem?_map, List.getElem?_range hil]; rfl
    have heach : ∀ x ∈ (List.range len).map F, x.length = k := fun x hx => by
      obtain ⟨i, hi, rfl⟩ := List.mem_map.1 hx
      have hi := List.mem_range.1 hi
      exact (World.cells?_some (hF i (by omega)).1).2.1
    refine ⟨_, (List.range len).map F, rfl, ⟨⟨some a, m, by rw [hlen], by rw [hlen]; exact hl, hc⟩, heach, fun h0 => ?_⟩, fun c hcm => ?_⟩
    · rw [hlen] at h0
      refine ⟨a, rfl, ⟨len, m, rfl⟩, ?_, fun j u hj => ?_⟩
      · obtain ⟨_, h1, h2⟩ := World.cells?_some (hF 0 (by omega)).1
        have h3 := h2 0 (by omega)
        rw [List.getElem?_eq_getElem (by omega)] at h3
        have := World.block_lt_of_cell? _ _ h3
        rwa [add_block, add_block] at this
      · have hjl := (List.getElem?_eq_some_iff.1 hj).1
        have hfl : ((List.range len).map F).flatten.length = len * k := by
          rw [List.length_flatten, List.map_congr_left heach, List.map_const', List.sum_replicate_nat, hlen]
        rw [hfl] at hjl
        have hk0 : 0 < k := hk1
        have hq : j / k < len := (Nat.div_lt_iff_lt_mul hk0).2 hjl
        have hr := Nat.mod_lt j hk0
        obtain ⟨_, h1, h2⟩ := World.cells?_some (hF (j / k) (by omega)).1
        have h3 : (F (j / k))[j % k]? = some ((F (j / k))[j % k]'(by omega)) := List.getElem?_eq_getElem _
        have h4 := flat_get _ k heach (j / k) (j % k) _ (hge _ hq) _ h3
        have h5 : j / k * k + j % k = j := by have := Nat.div_add_mod j k; rw [Nat.mul_comm] at this; exact this
        rw [h5, hj] at h4
        injection h4 with h4
        rw [h4, ← h3, ← h2 _ hr, Ytdmnejfpbbmcaaa.add_add, h5]
    · obtain ⟨i, hi', rfl⟩ := List.mem_map.1 hcm
      have hi' := List.mem_range.1 hi'
      exact h H enc n _ _ (hF i (by omega)).2
theorem all_map {α β : Type} (f : α → β) {Q : α → Prop} : ∀ {l : List β}, (∀ c ∈ l, ∃ a, Q a ∧ c = f a) → ∃ xs_ : List α, l = xs_.map f ∧ ∀ a ∈ xs_, Q a
  | [], _ => ⟨[], rfl, fun a ha => (by cases ha)⟩
  | c :: t, h => by
    obtain ⟨xs_, h1, h2⟩ := all_map f (fun c hc => h c (List.mem_cons_of_mem _ hc))
    obtain ⟨a, h3, h4⟩ := h c List.mem_cons_self
    refine ⟨a :: xs_, by rw [List.map_cons, ← h1, ← h4], fun b hb => ?_⟩
    rcases List.mem_cons.1 hb with rfl | hb
    · exact h3
    · exact h2 b hb
theorem opn_list {α : Type} (f : α → List Value) {Q : α → Prop} {k : Nat} (ht : P.underlying t = some (.slice e)) (hk : P.cellsOf e = k) (hk1 : 1 ≤ k) (h : Opn P W e (fun cs => ∃ a, Q a ∧ cs = f a)) :
    Opn P W t (fun cs => ∃ (v : Value) (xs_ : List α), cs = [v] ∧ Rdd W v k (xs_.map f) ∧ ∀ a ∈ xs_, Q a) := (opn_slice ht hk hk1 h).mono fun cs ⟨v, l, h1, h2, h3⟩ => by
  obtain ⟨xs_, rfl, h5⟩ := all_map f h3
  exact ⟨v, xs_, h1, h2, h5⟩
theorem opn_arg {H : Type} {enc : TypeId × Value → H} {v : Value} {d : DataW H} {p : List MemPlace} (h : Opn P W t Φ) (ht : DataW.Trod enc P W 0 (fun _ => true) true t v d p) : Φ v.cells.toList := by
  obtain ⟨fuel, hf⟩ := ht
  exact h H enc fuel _ _ hf
theorem agg_of {fs : List (Nat × Nat × Nat)} {r : Reach} {b0 : Nat} {v : Value} (h : fsC P t = some fs) (hv : Value.okWide P W r b0 t v) : ∃ cs : List Value, v = .agg cs.toArray ∧ v.cells.toList = cs := by
  obtain ⟨fs', hfs, _⟩ := fsC_of h
  obtain ⟨cs, rfl, _⟩ := okWide_struct hfs hv
  exact ⟨cs.toList, by simp, rfl⟩
end
end Go.Proofs.Ytdmnejfpbbmcaaa
