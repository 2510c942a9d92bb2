/-
  Opening the data of chapter 4: tasks, rules, schedules, changes, as arguments of a statement. Conditions: those in front of each theorem.
-/
import Derived.Test.YtacndicgpkeobaaGreatDoorRow
import Derived.Deep.Slices
import Derived.OpenShut
import Derived.Test.YtacndicgpkeobaaGreatDoorAs1
import Derived.Test.YtacndicgpkeobaaGreatDoorShCopy
import Derived.Test.YtacndicgpkeobaaGreatDoorFol
namespace Go.Proofs.YtacndicgpkeobaaGreatDoor
open Go.RowKit Go.ChangeShapes Go.WideShapes Go.Deep

def i64 (n : Int) : Prop := -9223372036854775808 ≤ n ∧ n ≤ 9223372036854775807
def Opn (P : Program) (W : World) (t : TypeId) (Φ : List Value → Prop) : Prop :=
  ∀ (H : Type) (enc : TypeId × Value → H) (fuel : Nat) (cs : List Value) (x : DataW H × List MemPlace), DataW.trod enc P W 0 (fun _ => true) true fuel t cs = some x → Φ cs
section
variable {P : Program} {W : World} {t e : TypeId} {Φ Ψ : List Value → Prop}
theorem Opn.mono (h : Opn P W t Φ) (hm : ∀ cs, Φ cs → Ψ cs) : Opn P W t Ψ := fun H enc fuel cs x hx => hm cs (h H enc fuel cs x hx)
theorem Opn.and (h : Opn P W t Φ) (h2 : Opn P W t Ψ) : Opn P W t (fun cs => Φ cs ∧ Ψ cs) := fun H enc fuel cs x hx => ⟨h H enc fuel cs x hx, h2 H enc fuel cs x hx⟩
theorem opn_int (ht : P.underlying t = some (.int .i64)) : Opn P W t (fun cs => ∃ n, i64 n ∧ cs = [.int .i64 n]) := fun H enc fuel cs x hx => by
  obtain ⟨n, rfl, _, hw⟩ := DataW.trod_int ht hx
  exact ⟨n, bounds_i64 hw, rfl⟩
def fsC (P : Program) (t : TypeId) : Option (List (Nat × Nat × Nat)) := match P.underlying t with
  | some (.struct fs) => some (fs.toList.map fun f => (f.offset, P.cellsOf f.type, f.type))
  | _ => none
theorem fsC_of {l : List (Nat × Nat × Nat)} (h : fsC P t = some l) : ∃ fs : Array Field, P.underlying t = some (.struct fs) ∧ fs.toList.map (fun f => (f.offset, P.cellsOf f.type, f.type)) = l := by
  unfold fsC at h
  split at h
  · rename_i fs hfs
    injection h with h
    exact ⟨fs, hfs, h⟩
  · cases h
theorem opn_len {l : List (Nat × Nat × Nat)} (h : fsC P t = some l) : Opn P W t (fun cs => cs.length = P.cellsOf t) := fun H enc fuel cs x hx => by
  obtain ⟨fs, hfs, _⟩ := fsC_of h
  obtain ⟨_, _, _, _, hl, _⟩ := DataW.trod_struct hfs hx
  exact hl
theorem opn_field {l : List (Nat × Nat × Nat)} (h : fsC P t = some l) {o k ty : Nat} (hm : (o, k, ty) ∈ l) (hΦ : Opn P W ty Φ) : Opn P W t (fun cs => Φ ((cs.drop o).take k)) := fun H enc fuel cs x hx => by
  obtain ⟨fs, hfs, rfl⟩ := fsC_of h
  obtain ⟨xs, n, _, _, _, hlen, hf⟩ := DataW.trod_struct hfs hx
  obtain ⟨f, hfm, he⟩ := List.mem_map.1 hm
  simp only [Prod.mk.injEq] at he
  obtain ⟨rfl, rfl, rfl⟩ := he
  obtain ⟨i, hi, hfi⟩ := List.getElem_of_mem hfm
  have hfi' : fs[i]? = some f := by rw [← hfi]; simp only [Array.getElem_toList]; exact Array.getElem?_eq_getElem _
  have h1 := hf i f hfi'
  have hil : i < xs.length := by rw [hlen]; simpa using hi
  rw [List.getElem?_eq_getElem hil] at h1
  exact hΦ H enc n _ _ h1
def IT (P : Program) (t n : Nat) : Prop := ∀ W, Opn P W t (fun cs => ∃ xs : List Int, xs.length = n ∧ (∀ x ∈ xs, i64 x) ∧ cs = xs.map iV)
theorem it_int (ht : P.underlying t = some (.int .i64)) : IT P t 1 := fun W => (opn_int ht).mono fun cs ⟨n, h1, h2⟩ => ⟨[n], rfl, fun x hx => by simp only [List.mem_singleton] at hx; subst hx; exact h1, h2⟩
inductive ITF (P : Program) : Nat → List (Nat × Nat × Nat) → Nat → Prop
  | nil (n : Nat) : ITF P n [] n
  | cons {o k ty n : Nat} {l : List (Nat × Nat × Nat)} : IT P ty k → ITF P (o + k) l n → ITF P o ((o, k, ty) :: l) n
theorem ITF.le {o n : Nat} {l : List (Nat × Nat × Nat)} (h : ITF P o l n) : o ≤ n := by
  induction h with
  | nil => exact Nat.le_refl _
  | cons _ _ ih => omega
theorem itf_cells {o n : Nat} {l : List (Nat × Nat × Nat)} (h : ITF P o l n) {H : Type} {enc : TypeId × Value → H} {fuel : Nat} {cs : List Value} (hn : cs.length = n)
    (hf : ∀ p ∈ l, ∃ y, DataW.trod enc P W 0 (fun _ => true) true fuel p.2.2 ((cs.drop p.1).take p.2.1) = some y) : ∃ xs : List Int, xs.length = n - o ∧ (∀ x ∈ xs, i64 x) ∧ cs.drop o = xs.map iV := by
  induction h with
  | nil m => exact ⟨[], by simp, fun x hx => (by cases hx), by rw [List.drop_eq_nil_of_le (by omega)]; rfl⟩
  | @cons o k ty m l hi ht ih =>
    obtain ⟨ys, hy1, hy2, hy3⟩ := ih hn (fun p hp => hf p (List.mem_cons_of_mem _ hp))
    obtain ⟨y, hy⟩ := hf _ List.mem_cons_self
    obtain ⟨xs, hx1, hx2, hx3⟩ := hi W H enc fuel _ _ hy
    have hle := ht.le
    refine ⟨xs ++ ys, by rw [List.length_append, hx1, hy1]; omega, fun x hx => ?_, ?_⟩
    · rcases List.mem_append.1 hx with h | h
      · exact hx2 x h
      · exact hy2 x h
    · rw [List.map_append, ← hx3, ← hy3]
      simp only
      rw [← List.drop_drop, List.take_append_drop]
theorem it_struct {n : Nat} {l : List (Nat × Nat × Nat)} (h : fsC P t = some l) (hC : P.cellsOf t = n) (hl : ITF P 0 l n) : IT P t n := fun W H enc fuel cs x hx => by
  obtain ⟨fs, hfs, rfl⟩ := fsC_of h
  obtain ⟨xs, m, _, _, hlen, hxl, hf⟩ := DataW.trod_struct hfs hx
  obtain ⟨ys, h1, h2, h3⟩ := itf_cells (W := W) hl (cs := cs) (H := H) (enc := enc) (fuel := m) (by rw [hlen, hC]) (fun p hp => by
    obtain ⟨f, hfm, rfl⟩ := List.mem_map.1 hp
    obtain ⟨i, hi, hfi⟩ := List.getElem_of_mem hfm
    have hfi' : fs[i]? = some f := by rw [← hfi]; simp only [Array.getElem_toList]; exact Array.getElem?_eq_getElem _
    have h1 := hf i f hfi'
    have hil : i < xs.length := by rw [hxl]; simpa using hi
    rw [List.getElem?_eq_getElem hil] at h1
    exact ⟨_, h1⟩)
  exact ⟨ys, by simpa using h1, h2, by simpa using h3⟩
theorem opn_slice {k : Nat} (ht : P.underlying t = some (.slice e)) (hk : P.cellsOf e = k) (hk1 : 1 ≤ k) (h : Opn P W e Φ) : Opn P W t (fun cs => ∃ v l, cs = [v] ∧ Rdd W v k l ∧ ∀ c ∈ l, Φ c) := fun H enc fuel cs x hx => by
  rcases open_slice ht hx with ⟨rfl, _⟩ | ⟨a, len, cap, m, n, D, Pl, rfl, _, hl, hc, hm, _, hi⟩
  · exact ⟨_, [], rfl, ⟨⟨none, 0, rfl, by simp, by simp⟩, fun x hx => (by cases hx), fun h => by simp at h⟩, fun c hc => by cases hc⟩
  · have hm' : m = cap := by simpa using hm
    subst hm'
    rw [hk] at hi
    obtain ⟨F, hF⟩ := choose_lt (p := fun i (cs' : List Value) => W.cells? 0 (a.add (i * k)) k = some cs' ∧ DataW.trod enc P W 0 (fun _ => true) true n e cs' = some (D i, Pl i)) (fun i him => hi i him)
    have hlen : ((List.range len).map F).length = len := by simp
    have hge : ∀ i, i < len → ((List.range len).map F)[i]? = some (F i) := fun i hil => by rw [List.getElem?_map, List.getElem?_range hil]; rfl
    have heach : ∀ x ∈ (List.range len).map F, x.length = k := fun x hx => by
      obtain ⟨i, hi, rfl⟩ := List.mem_map.1 hx
      have hi := List.mem_range.1 hi
      exact (World.cells?_some (hF i (by omega)).1).2.1
    refine ⟨_, (List.range len).map F, rfl, ⟨⟨some a, m, by rw [hlen], by rw [hlen]; exact hl, hc⟩, heach, fun h0 => ?_⟩, fun c hcm => ?_⟩
    · rw [hlen] at h0
      refine ⟨a, rfl, ⟨len, m, rfl⟩, ?_, fun j u hj => ?_⟩
      · obtain ⟨_, h1, h2⟩ := World.cells?_some (hF 0 (by omega)).1
        have h3 := h2 0 (by omega)
        rw [List.getElem?_eq_getElem (by omega)] at h3
        have := World.block_lt_of_cell? _ _ h3
        rwa [add_block, add_block] at this
      · have hjl := (List.getElem?_eq_some_iff.1 hj).1
        have hfl : ((List.range len).map F).flatten.length = len * k := by
          rw [List.length_flatten, List.map_congr_left heach, List.map_const', List.sum_replicate_nat, hlen]
        rw [hfl] at hjl
        have hk0 : 0 < k := hk1
        have hq : j / k < len := (Nat.div_lt_iff_lt_mul hk0).2 hjl
        have hr := Nat.mod_lt j hk0
        obtain ⟨_, h1, h2⟩ := World.cells?_some (hF (j / k) (by omega)).1
        have h3 : (F (j / k))[j % k]? = some ((F (j / k))[j % k]'(by omega)) := List.getElem?_eq_getElem _
        have h4 := flat_get _ k heach (j / k) (j % k) _ (hge _ hq) _ h3
        have h5 : j / k * k + j % k = j := by have := Nat.div_add_mod j k; rw [Nat.mul_comm] at this; exact this
        rw [h5, hj] at h4
        injection h4 with h4
        rw [h4, ← h3, ← h2 _ hr, YtacndicgpkeobaaGreatDoor.add_add, h5]
    · obtain ⟨i, hi', rfl⟩ := List.mem_map.1 hcm
      have hi' := List.mem_range.1 hi'
      exact h H enc n _ _ (hF i (by omega)).2
theorem all_map {α β : Type} (f : α → β) {Q : α → Prop} : ∀ {l : List β}, (∀ c ∈ l, ∃ a, Q a ∧ c = f a) → ∃ xs_ : List α, l = xs_.map f ∧ ∀ a ∈ xs_, Q a
  | [], _ => ⟨[], rfl, fun a ha => (by cases ha)⟩
  | c :: t, h => by
    obtain ⟨xs_, h1, h2⟩ := all_map f (fun c hc => h c (List.mem_cons_of_mem _ hc))
    obtain ⟨a, h3, h4⟩ := h c List.mem_cons_self
    refine ⟨a :: xs_, by rw [List.map_cons, ← h1, ← h4], fun b hb => ?_⟩
    rcases List.mem_cons.1 hb with rfl | hb
    · exact h3
    · exact h2 b hb
theorem opn_list {α : Type} (f : α → List Value) {Q : α → Prop} {k : Nat} (ht : P.underlying t = some (.slice e)) (hk : P.cellsOf e = k) (hk1 : 1 ≤ k) (h : Opn P W e (fun cs => ∃ a, Q a ∧ cs = f a)) :
    Opn P W t (fun cs => ∃ (v : Value) (xs_ : List α), cs = [v] ∧ Rdd W v k (xs_.map f) ∧ ∀ a ∈ xs_, Q a) := (opn_slice ht hk hk1 h).mono fun cs ⟨v, l, h1, h2, h3⟩ => by
  obtain ⟨xs_, rfl, h5⟩ := all_map f h3
  exact ⟨v, xs_, h1, h2, h5⟩
theorem opn_arg {H : Type} {enc : TypeId × Value → H} {v : Value} {d : DataW H} {p : List MemPlace} (h : Opn P W t Φ) (ht : DataW.Trod enc P W 0 (fun _ => true) true t v d p) : Φ v.cells.toList := by
  obtain ⟨fuel, hf⟩ := ht
  exact h H enc fuel _ _ hf
theorem agg_of {fs : List (Nat × Nat × Nat)} {r : Reach} {b0 : Nat} {v : Value} (h : fsC P t = some fs) (hv : Value.okWide P W r b0 t v) : ∃ cs : List Value, v = .agg cs.toArray ∧ v.cells.toList = cs := by
  obtain ⟨fs', hfs, _⟩ := fsC_of h
  obtain ⟨cs, rfl, _⟩ := okWide_struct hfs hv
  exact ⟨cs.toList, by simp, rfl⟩
end
end Go.Proofs.YtacndicgpkeobaaGreatDoor
namespace Go.Proofs.YtacndicgpkeobaaGreatDoor
/-! ### Schedules -/
def dlA (L : List Dl) (k : Nat) : Dl := (L[k]?).getD ⟨0, 0, 0⟩
theorem dlA_get {L : List Dl} {k : Nat} {y : Dl} (h : L[k]? = some y) : dlA L k = y := by unfold dlA; rw [h]; rfl
def okAn (y : Dl) (f : Int) : Prop := (1 ≤ y.s ∧ y.s ≤ 100000) ∧ (0 ≤ y.d ∧ y.d ≤ 30000) ∧ (0 ≤ y.g ∧ y.g ≤ 8) ∧ 0 ≤ f ∧ f ≤ 6
instance (y : Dl) (f : Int) : Decidable (okAn y f) := by unfold okAn; infer_instance
def ckSch (L : List Dl) (F : List Int) : Int := if L.length > 400 then 8 else if F.length ≠ L.length then 10 else if all2 okAn L F then 0 else 2
section
variable {L : List Dl} {F : List Int} {k : Nat} {y : Dl} {f : Int}
theorem sch_8 (h : L.length > 400) : ckSch L F = 8 := if_pos h
theorem sch_10 (h : ¬ L.length > 400) (h2 : F.length ≠ L.length) : ckSch L F = 10 := by unfold ckSch; rw [if_neg h, if_pos h2]
theorem sch_2 (h : ¬ L.length > 400) (h2 : ¬ F.length ≠ L.length) (h3 : ¬ all2 okAn L F) : ckSch L F = 2 := by unfold ckSch; rw [if_neg h, if_neg h2, if_neg h3]
theorem sch_0 (h : ¬ L.length > 400) (h2 : ¬ F.length ≠ L.length) (h3 : all2 okAn L F) : ckSch L F = 0 := by unfold ckSch; rw [if_neg h, if_neg h2, if_pos h3]
structure okSch (L : List Dl) (F : List Int) : Prop where
  n : L.length ≤ 400
  l : F.length = L.length
  a : all2 okAn L F
theorem ckSch_ok (h : ckSch L F = 0) : okSch L F := by
  by_cases h1 : L.length > 400
  · rw [sch_8 h1] at h; exact absurd h (by decide)
  by_cases h2 : F.length ≠ L.length
  · rw [sch_10 h1 h2] at h; exact absurd h (by decide)
  by_cases h3 : all2 okAn L F
  · exact ⟨by omega, by omega, h3⟩
  · rw [sch_2 h1 h2 h3] at h; exact absurd h (by decide)
theorem okSch.ck (h : okSch L F) : ckSch L F = 0 := by
  have h1 := h.n; have h2 := h.l
  exact sch_0 (by omega) (by omega) h.a
def smS (L : List Dl) : Nat → Int
  | 0 => 0
  | k + 1 => smS L k + (dlA L k).s
theorem smS_s (h : L[k]? = some y) : smS L k + y.s = smS L (k + 1) := by show _ = smS L k + (dlA L k).s; rw [dlA_get h]
def okSec (L : List Dl) : Prop := ∀ y ∈ L, 0 ≤ y.s ∧ y.s ≤ 100000
theorem smS_in (h : okSec L) : ∀ k, k ≤ L.length → 0 ≤ smS L k ∧ smS L k ≤ k * 100000
  | 0, _ => by show (0 : Int) ≤ 0 ∧ (0 : Int) ≤ ((0 : Nat) : Int) * 100000; omega
  | k + 1, hk => by
    obtain ⟨y, hy⟩ := get_some L (k := k) (by omega)
    have := h y (List.mem_of_getElem? hy)
    have := smS_in h k (by omega)
    rw [← smS_s hy]
    omega
theorem an_get : ∀ {L : List Dl} {F : List Int} {k : Nat} {y : Dl} {f : Int}, all2 okAn L F → L[k]? = some y → F[k]? = some f → okAn y f
  | [], _, _, _, _, _, h, _ => by simp at h
  | _ :: _, [], _, _, _, _, _, h => by simp at h
  | a :: L, b :: F, 0, y, f, h, h1, h2 => by
    simp at h1 h2
    subst h1 h2
    exact h.1
  | a :: L, b :: F, k + 1, y, f, h, h1, h2 => an_get h.2 (by simpa using h1) (by simpa using h2)
theorem sch_at (h : okSch L F) (hk : k < L.length) : ∃ y f, L[k]? = some y ∧ F[k]? = some f ∧ okAn y f := by
  have h2 := h.l
  obtain ⟨y, hy⟩ := get_some L hk
  obtain ⟨f, hf⟩ := get_some F (k := k) (by omega)
  exact ⟨y, f, hy, hf, an_get h.a hy hf⟩
theorem sch_sec (h : okSch L F) : okSec L := fun y hy => by
  obtain ⟨k, hk, e⟩ := List.mem_iff_getElem.1 hy
  obtain ⟨z, f, h1, _, h3⟩ := sch_at h hk
  rw [List.getElem?_eq_getElem hk, e] at h1
  obtain rfl := Option.some.inj h1
  have := h3.1
  omega
def chkF (t : Int) : Asc → List Dl → List Int → Int → Int × Int
  | x, y :: L, f :: F, k => if ckAl x y ≠ 0 then (k, ckAl x y) else if f > x.r.fi then (k, 2) else if keptT x.ts x.ls (lgA x y) (faA x) f.toNat ≠ 2 then (k, 22) else chkF t (bhA x y) L F (k + 1)
  | x, [], _, _ => if x.de ≠ 0 then (0, 25) else (t, 0)
  | x, _ :: _, [], _ => if x.de ≠ 0 then (0, 25) else (t, 0)
variable {x : Asc} {t j : Int}
def chkA (x : Asc) (L : List Dl) (F : List Int) : Int × Int := if ckSch L F ≠ 0 then (0, ckSch L F) else chkF (smS L L.length) x L F 0
theorem chkA_2 (h : ckSch L F = 0) : chkA x L F = chkF (smS L L.length) x L F 0 := if_neg (fun hh => hh h)
end
/-! ### How long one may stay -/
def nsF (g : Int) : Nat → Asc → Int → Int
  | 0, _, k => k
  | n + 1, x, k => if (dcA x (syA x g)).1 ≠ 2 then k else if (dirA (bhA x (syA x g))).1 ≠ 2 then k else nsF g n (bhA x (syA x g)) (k + 1)
def nsA (x : Asc) : Int × Int := if (dirA x).2 ≠ 0 then (0, (dirA x).2) else if (dirA x).1 ≠ 2 then (0, 12) else (nsF (gasA x x.de) 60 x 0 * x.r.st, 0)
section
variable {x : Asc} {g k : Int} {n : Nat}
theorem ns_1 (hn : 1 ≤ n) (h : (dcA x (syA x g)).1 ≠ 2) : nsF g n x k = k := by
  obtain ⟨m, rfl⟩ : ∃ m, n = m + 1 := ⟨n - 1, by omega⟩
  unfold nsF
  rw [if_pos h]
theorem ns_2 (hn : 1 ≤ n) (h : ¬ (dcA x (syA x g)).1 ≠ 2) (h2 : (dirA (bhA x (syA x g))).1 ≠ 2) : nsF g n x k = k := by
  obtain ⟨m, rfl⟩ : ∃ m, n = m + 1 := ⟨n - 1, by omega⟩
  unfold nsF
  rw [if_neg h, if_pos h2]
theorem ns_3 (hn : 1 ≤ n) (h : ¬ (dcA x (syA x g)).1 ≠ 2) (h2 : ¬ (dirA (bhA x (syA x g))).1 ≠ 2) : nsF g n x k = nsF g (n - 1) (bhA x (syA x g)) (k + 1) := by
  obtain ⟨m, rfl⟩ : ∃ m, n = m + 1 := ⟨n - 1, by omega⟩
  rw [Nat.add_sub_cancel]
  conv => lhs; unfold nsF
  rw [if_neg h, if_neg h2]
theorem nsA_1 (h : (dirA x).2 ≠ 0) : nsA x = (0, (dirA x).2) := if_pos h
theorem nsA_2 (h : (dirA x).2 = 0) (h2 : (dirA x).1 ≠ 2) : nsA x = (0, 12) := by unfold nsA; rw [if_neg (fun hh => hh h), if_pos h2]
theorem nsA_3 (h : (dirA x).2 = 0) (h2 : ¬ (dirA x).1 ≠ 2) : nsA x = (nsF (gasA x x.de) 60 x 0 * x.r.st, 0) := by unfold nsA; rw [if_neg (fun hh => hh h), if_neg h2]
theorem gas_top (H : okAsc x) (h : x.de = 0) : 0 ≤ gasA x x.de := by
  have h1 := H.g1
  have key : ∀ k, k ≤ x.gs.length → 1 ≤ k → 0 ≤ bsA x.gs x.de k := by
    intro k
    induction k with
    | zero => intro _ h; omega
    | succ k ih =>
      intro hk _
      have hb := bsA_in x.gs x.de k
      obtain ⟨a, ha⟩ := get_some x.gs (k := k) (by omega)
      have hd := (H.gg a (List.mem_of_getElem? ha)).2
      unfold bsA
      split
      · omega
      · rename_i h9
        rw [agAt_get ha] at h9
        rcases Nat.lt_or_ge k 1 with h8 | h8
        · obtain rfl : k = 0 := by omega
          exact absurd ⟨by omega, .inl (show (-1 : Int) < 0 by decide)⟩ h9
        · exact ih (by omega) h8
  exact key _ (Nat.le_refl _) h1
theorem dir_gas (H : okAsc x) (h : (dirA x).2 = 0) : ¬ gasA x x.de < 0 := by
  by_cases h1 : x.de = 0
  · have := gas_top H h1; omega
  · intro h2
    rw [dir_2 h1 h2] at h
    exact absurd h (by decide)
end
/-! ### The ends of plans, rests, changes -/
def zAsc : Asc := ⟨[], [], 0, 0, [], ⟨0, 0, 0, 0, 0, 0, 0⟩⟩
def chgE (x : Asc) (kd v : Int) : Int :=
  if kd = 0 then (if ¬ (1 ≤ v ∧ v ≤ 100000) then 2 else if gasA x x.de < 0 then 14 else 0)
  else if kd = 1 then (if ¬ (0 ≤ v ∧ v ≤ (x.gs.length : Int) - 1) then 6 else if x.gs.length = 1 then 10 else 0)
  else if kd = 2 then ckRl { x.r with lo := v } else 15
def chgT (x : Asc) (kd v : Int) : Asc := if kd = 0 then bhA x ⟨v, x.de, gasA x x.de⟩ else if kd = 1 then { x with gs := x.gs.take v.toNat ++ x.gs.drop (v.toNat + 1) } else { x with r := { x.r with lo := v } }
def chgA (x : Asc) (kd v : Int) : Asc := if chgE x kd v ≠ 0 then zAsc else chgT x kd v
def varA (x : Asc) : Int := if (genA x).2 ≠ 0 then -1 else smS (genA x).1.1 (genA x).1.1.length
def varC (x : Asc) (kv : Int × Int) : Int := if chgE x kv.1 kv.2 ≠ 0 then -1 else varA (chgT x kv.1 kv.2)
section
variable {x : Asc}
theorem chg_ok (H : okAsc x) {kd v : Int} (h : chgE x kd v = 0) : okAsc (chgT x kd v) := by
  unfold chgE at h
  unfold chgT
  by_cases h0 : kd = 0
  · rw [if_pos h0] at h ⊢
    by_cases h1 : 1 ≤ v ∧ v ≤ 100000
    · rw [if_neg (fun hh => hh h1)] at h
      by_cases h2 : gasA x x.de < 0
      · rw [if_pos h2] at h; exact absurd h (by decide)
      · have h3 := gasA_in x x.de
        exact bh_ok H ⟨h1, H.de, by show 0 ≤ gasA x x.de ∧ gasA x x.de ≤ (x.gs.length : Int) - 1; omega⟩
    · rw [if_pos h1] at h; exact absurd h (by decide)
  · rw [if_neg h0] at h ⊢
    by_cases h1 : kd = 1
    · rw [if_pos h1] at h ⊢
      by_cases h2 : 0 ≤ v ∧ v ≤ (x.gs.length : Int) - 1
      · rw [if_neg (fun hh => hh h2)] at h
        by_cases h3 : x.gs.length = 1
        · rw [if_pos h3] at h; exact absurd h (by decide)
        · have g1 := H.g1; have g8 := H.g8
          refine ⟨H.k, H.su, H.de, ?_, ?_, ?_, H.r⟩
          · show 1 ≤ (x.gs.take v.toNat ++ x.gs.drop (v.toNat + 1)).length
            rw [List.length_append, List.length_take, List.length_drop]; omega
          · show (x.gs.take v.toNat ++ x.gs.drop (v.toNat + 1)).length ≤ 8
            rw [List.length_append, List.length_take, List.length_drop]; omega
          · intro y hy
            rcases List.mem_append.1 hy with hy | hy
            · exact H.gg y (List.mem_of_mem_take hy)
            · exact H.gg y (List.mem_of_mem_drop hy)
      · rw [if_pos h2] at h; exact absurd h (by decide)
    · rw [if_neg h1] at h ⊢
      by_cases h2 : kd = 2
      · rw [if_pos h2] at h
        exact ⟨H.k, H.su, H.de, H.g1, H.g8, H.gg, ckRl_ok h⟩
      · rw [if_neg h2] at h; exact absurd h (by decide)
end
end Go.Proofs.YtacndicgpkeobaaGreatDoor
namespace Go.Proofs.YtacndicgpkeobaaGreatDoor
open Go.RowKit
def cAg (x : Ag) : List Value := [.int .i64 x.g.o, .int .i64 x.g.h, .int .i64 x.d]
def cRl (r : Rl) : List Value := [.int .i64 r.sp, .int .i64 r.gr, .int .i64 r.st, .int .i64 r.lo, .int .i64 r.hi, .int .i64 r.an, .int .i64 r.fi]
def cAt (v u w : Value) (x : Asc) : List Value := [v, u, .int .i64 x.su, .int .i64 x.de, w, .int .i64 x.r.sp, .int .i64 x.r.gr, .int .i64 x.r.st, .int .i64 x.r.lo, .int .i64 x.r.hi, .int .i64 x.r.an, .int .i64 x.r.fi]
def cSp (p : Int × Int) : List Value := [.int .i64 p.1, .int .i64 p.2]
theorem one_ag (l : List Ag) : ∀ c ∈ (l.map cAg).flatten, c.oneCell' = true := one_map cAg (fun _ _ h => by simp only [cAg, List.mem_cons, List.not_mem_nil, or_false] at h; rcases h with rfl | rfl | rfl <;> rfl) l
theorem one_sp (l : List (Int × Int)) : ∀ c ∈ (l.map cSp).flatten, c.oneCell' = true := one_map cSp (fun _ _ h => by simp only [cSp, List.mem_cons, List.not_mem_nil, or_false] at h; rcases h with rfl | rfl <;> rfl) l
def isTk (tc tl tg : TypeId) (X : Asc) (e : Int) (y : Value) (rs : List Res) : Prop := ∃ A1 n1 c1 A2 n2 c2 A3 n3 c3, y = .tuple #[.agg (cAt (.slice A1 n1 c1) (.slice A2 n2 c2) (.slice A3 n3 c3) X).toArray, .int .i64 e] ∧ rs = [sl (.slice A1 n1 c1) tc 4 (X.ts.map cCp), sl (.slice A2 n2 c2) tl 4 (X.ls.map cLd), sl (.slice A3 n3 c3) tg 3 (X.gs.map cAg)]
theorem isTk_sinks {tc tl tg : TypeId} {X : Asc} {e : Int} : ∀ y rs, isTk tc tl tg X e y rs → ∀ r ∈ rs, Sinks r := by
  rintro y rs ⟨A1, n1, c1, A2, n2, c2, A3, n3, c3, _, rfl⟩ r hr
  simp only [List.mem_cons, List.not_mem_nil, or_false] at hr
  rcases hr with rfl | rfl | rfl <;> exact sl_sinks _ _ _ _
theorem own3 {v u w : Value} {tc tl tg : TypeId} {a b d : List (List Value)} : ∀ r ∈ [sl v tc 4 a, sl u tl 4 b, sl w tg 3 d], r.own = true := by
  intro r hr
  simp only [List.mem_cons, List.not_mem_nil, or_false] at hr
  rcases hr with rfl | rfl | rfl <;> exact sl_own _ _ _ _
def isTo (tc tl tg : TypeId) (X : Asc) (y : Value) (rs : List Res) : Prop := ∃ A1 n1 c1 A2 n2 c2 A3 n3 c3, y = .agg (cAt (.slice A1 n1 c1) (.slice A2 n2 c2) (.slice A3 n3 c3) X).toArray ∧ rs = [sl (.slice A1 n1 c1) tc 4 (X.ts.map cCp), sl (.slice A2 n2 c2) tl 4 (X.ls.map cLd), sl (.slice A3 n3 c3) tg 3 (X.gs.map cAg)]
theorem isTo_sinks {tc tl tg : TypeId} {X : Asc} : ∀ y rs, isTo tc tl tg X y rs → ∀ r ∈ rs, Sinks r := by
  rintro y rs ⟨A1, n1, c1, A2, n2, c2, A3, n3, c3, _, rfl⟩ r hr
  simp only [List.mem_cons, List.not_mem_nil, or_false] at hr
  rcases hr with rfl | rfl | rfl <;> exact sl_sinks _ _ _ _
def isBh (tl : TypeId) (v w : Value) (X : Asc) (y : Value) (rs : List Res) : Prop := ∃ A n c, y = .agg (cAt v (.slice A n c) w X).toArray ∧ rs = [sl (.slice A n c) tl 4 (X.ls.map cLd)]
theorem isBh_sinks {tl : TypeId} {v w : Value} {X : Asc} : ∀ y rs, isBh tl v w X y rs → ∀ r ∈ rs, Sinks r := by
  rintro y rs ⟨A, n, c, _, rfl⟩ r hr
  simp only [List.mem_cons, List.not_mem_nil, or_false] at hr
  subst hr
  exact sl_sinks _ _ _ _
def isSc (td ti : TypeId) (S : Sch) (y : Value) (rs : List Res) : Prop := ∃ A1 n1 c1 A2 n2 c2, y = .tuple #[.agg #[.slice A1 n1 c1, .slice A2 n2 c2], .int .i64 S.2] ∧ rs = [sl (.slice A1 n1 c1) td 3 (S.1.1.map cDl), sl (.slice A2 n2 c2) ti 1 (S.1.2.map cI)]
theorem isSc_sinks {td ti : TypeId} {S : Sch} : ∀ y rs, isSc td ti S y rs → ∀ r ∈ rs, Sinks r := by
  rintro y rs ⟨A1, n1, c1, A2, n2, c2, _, rfl⟩ r hr
  simp only [List.mem_cons, List.not_mem_nil, or_false] at hr
  rcases hr with rfl | rfl <;> exact sl_sinks _ _ _ _
theorem own2 {v u : Value} {tc tl : TypeId} {p q : Nat} {a b : List (List Value)} : ∀ r ∈ [sl v tc p a, sl u tl q b], r.own = true := by
  intro r hr
  simp only [List.mem_cons, List.not_mem_nil, or_false] at hr
  rcases hr with rfl | rfl <;> exact sl_own _ _ _ _
def isTt (tc tl : TypeId) (ts : List Cp) (ls : List Ld) (z : Lg) (fa : Int) (y : Value) (rs : List Res) : Prop := ∃ A1 n1 c1 A2 n2 c2, y = .agg (cDv (.slice A1 n1 c1) (.slice A2 n2 c2) z fa).toArray ∧ rs = [sl (.slice A1 n1 c1) tc 4 (ts.map cCp), sl (.slice A2 n2 c2) tl 4 (ls.map cLd)]
theorem isTt_sinks {tc tl : TypeId} {ts : List Cp} {ls : List Ld} {z : Lg} {fa : Int} : ∀ y rs, isTt tc tl ts ls z fa y rs → ∀ r ∈ rs, Sinks r := by
  rintro y rs ⟨A1, n1, c1, A2, n2, c2, _, rfl⟩ r hr
  simp only [List.mem_cons, List.not_mem_nil, or_false] at hr
  rcases hr with rfl | rfl <;> exact sl_sinks _ _ _ _
end Go.Proofs.YtacndicgpkeobaaGreatDoor
namespace Go.Proofs.YtacndicgpkeobaaGreatDoor
open Go.RowKit Go.ChangeShapes Go.WideShapes Go.Deep

section
variable {P : Program} {W : World} {t e : TypeId}
def i64Cp (c : Cp) : Prop := i64 c.n ∧ i64 c.h ∧ i64 c.b ∧ i64 c.s
def i64Rg (r : Rg) : Prop := i64 r.lo ∧ i64 r.hi
def i64Ld (l : Ld) : Prop := i64Rg l.n ∧ i64Rg l.h
theorem opn_cp (h : IT P t 4) : Opn P W t (fun cs => ∃ c, i64Cp c ∧ cs = cCp c) := (h W).mono fun cs ⟨xs, hl, hq, hc⟩ => by
  match xs, hl with
  | [a, b, c, d], _ => exact ⟨⟨a, b, c, d⟩, ⟨hq a (by simp), hq b (by simp), hq c (by simp), hq d (by simp)⟩, hc⟩
theorem opn_ld (h : IT P t 4) : Opn P W t (fun cs => ∃ c, i64Ld c ∧ cs = cLd c) := (h W).mono fun cs ⟨xs, hl, hq, hc⟩ => by
  match xs, hl with
  | [a, b, c, d], _ => exact ⟨⟨⟨a, b⟩, ⟨c, d⟩⟩, ⟨⟨hq a (by simp), hq b (by simp)⟩, ⟨hq c (by simp), hq d (by simp)⟩⟩, hc⟩
theorem opn_i2 (h : IT P t 2) : Opn P W t (fun cs => ∃ a b, (i64 a ∧ i64 b) ∧ cs = [.int .i64 a, .int .i64 b]) := (h W).mono fun cs ⟨xs, hl, hq, hc⟩ => by
  match xs, hl with
  | [a, b], _ => exact ⟨a, b, ⟨hq a (by simp), hq b (by simp)⟩, hc⟩
theorem opn_tab (ht : P.underlying t = some (.slice e)) (hk : P.cellsOf e = 4) (h : IT P e 4) : Opn P W t (fun cs => ∃ (v : Value) (ts : List Cp), cs = [v] ∧ Rdd W v 4 (ts.map cCp) ∧ ∀ c ∈ ts, i64Cp c) := opn_list cCp ht hk (by decide) (opn_cp h)
theorem opn_lds (ht : P.underlying t = some (.slice e)) (hk : P.cellsOf e = 4) (h : IT P e 4) : Opn P W t (fun cs => ∃ (v : Value) (ls : List Ld), cs = [v] ∧ Rdd W v 4 (ls.map cLd) ∧ ∀ c ∈ ls, i64Ld c) := opn_list cLd ht hk (by decide) (opn_ld h)
theorem slice_val {b0 : Nat} {r : Reach} {v u : Value} (ht : P.underlying t = some (.slice e)) (hv : Value.okWide P W r b0 t v) (h : v.cells.toList = [u]) : v = u := by
  obtain ⟨a, n, c, rfl⟩ := okWide_slice ht hv
  simpa [Value.cells] using h
theorem struct_val {fs : List (Nat × Nat × Nat)} {b0 : Nat} {r : Reach} {v : Value} {cs : List Value} (hf : fsC P t = some fs) (hv : Value.okWide P W r b0 t v) (h : v.cells.toList = cs) : v = .agg cs.toArray := by
  obtain ⟨cs', rfl, h'⟩ := agg_of hf hv
  rw [← h, h']
end
end Go.Proofs.YtacndicgpkeobaaGreatDoor
namespace Go.Proofs.YtacndicgpkeobaaGreatDoor
open Go.RowKit Go.ChangeShapes Go.WideShapes Go.Deep
section
variable {P : Program} {W : World} {t e : TypeId}
theorem opn_rl (h : IT P t 7) : Opn P W t (fun cs => ∃ r : Rl, cs = cRl r) := (h W).mono fun cs ⟨xs, hl, hq, hc⟩ => by
  match xs, hl with
  | [a, b, c, d, f, g, i], _ => exact ⟨⟨a, b, c, d, f, g, i⟩, hc⟩
theorem opn_ag (h : IT P t 3) : Opn P W t (fun cs => ∃ c : Ag, (i64 c.g.o ∧ i64 c.g.h ∧ i64 c.d) ∧ cs = cAg c) := (h W).mono fun cs ⟨xs, hl, hq, hc⟩ => by
  match xs, hl with
  | [a, b, c], _ => exact ⟨⟨⟨a, b⟩, c⟩, ⟨hq a (by simp), hq b (by simp), hq c (by simp)⟩, hc⟩
theorem opn_ags (ht : P.underlying t = some (.slice e)) (hk : P.cellsOf e = 3) (h : IT P e 3) : Opn P W t (fun cs => ∃ (v : Value) (ls : List Ag), cs = [v] ∧ Rdd W v 3 (ls.map cAg) ∧ ∀ c ∈ ls, i64 c.g.o ∧ i64 c.g.h ∧ i64 c.d) := opn_list cAg ht hk (by decide) (opn_ag h)
theorem opn_sp (h : IT P t 2) : Opn P W t (fun cs => ∃ c : Int × Int, (i64 c.1 ∧ i64 c.2) ∧ cs = cSp c) := (h W).mono fun cs ⟨xs, hl, hq, hc⟩ => by
  match xs, hl with
  | [a, b], _ => exact ⟨(a, b), ⟨hq a (by simp), hq b (by simp)⟩, hc⟩
theorem opn_sps (ht : P.underlying t = some (.slice e)) (hk : P.cellsOf e = 2) (h : IT P e 2) : Opn P W t (fun cs => ∃ (v : Value) (ls : List (Int × Int)), cs = [v] ∧ Rdd W v 2 (ls.map cSp) ∧ ∀ c ∈ ls, i64 c.1 ∧ i64 c.2) := opn_list cSp ht hk (by decide) (opn_sp h)
theorem opn_asc {tC tL tG tR tI : TypeId} (hfs : fsC P t = some [(0, 1, tC), (1, 1, tL), (2, 1, tI), (3, 1, tI), (4, 1, tG), (5, 7, tR)]) (hC : P.cellsOf t = 12)
    (hT : Opn P W tC (fun cs => ∃ (v : Value) (ts : List Cp), cs = [v] ∧ Rdd W v 4 (ts.map cCp) ∧ ∀ c ∈ ts, i64Cp c)) (hL : Opn P W tL (fun cs => ∃ (v : Value) (ls : List Ld), cs = [v] ∧ Rdd W v 4 (ls.map cLd) ∧ ∀ c ∈ ls, i64Ld c))
    (hG : Opn P W tG (fun cs => ∃ (v : Value) (ls : List Ag), cs = [v] ∧ Rdd W v 3 (ls.map cAg) ∧ ∀ c ∈ ls, i64 c.g.o ∧ i64 c.g.h ∧ i64 c.d)) (hR : IT P tR 7) (hI : P.underlying tI = some (.int .i64)) :
    Opn P W t (fun cs => ∃ (v u w : Value) (x : Asc), cs = cAt v u w x ∧ Rdd W v 4 (x.ts.map cCp) ∧ Rdd W u 4 (x.ls.map cLd) ∧ Rdd W w 3 (x.gs.map cAg)) :=
  (((((opn_len hfs).and (opn_field hfs (o := 0) (k := 1) (by simp) hT)).and (opn_field hfs (o := 1) (k := 1) (by simp) hL)).and ((opn_field hfs (o := 2) (k := 1) (by simp) (opn_int hI)).and (opn_field hfs (o := 3) (k := 1) (by simp) (opn_int hI)))).and
    ((opn_field hfs (o := 4) (k := 1) (by simp) hG).and (opn_field hfs (o := 5) (k := 7) (by simp) (opn_rl hR)))).mono
    fun cs ⟨⟨⟨⟨hl, v, ts, h1, h2, _⟩, u, ls, h3, h4, _⟩, ⟨su, _, h5⟩, de, _, h6⟩, ⟨w, gs, h7, h8, _⟩, r, h9⟩ => by
      rw [hC] at hl
      match cs, hl with
      | [a, b, c, d, f, g, i, j, k, l, m, n], _ =>
        simp only [List.drop_zero, List.drop_succ_cons, List.take_succ_cons, List.take_zero, List.cons.injEq, and_true, cRl] at h1 h3 h5 h6 h7 h9
        obtain ⟨rfl, rfl, rfl, rfl, rfl, rfl, rfl⟩ := h9
        subst h1; subst h3; subst h5; subst h6; subst h7
        exact ⟨_, _, _, ⟨ts, ls, su, de, gs, r⟩, rfl, h2, h4, h8⟩
end
end Go.Proofs.YtacndicgpkeobaaGreatDoor
