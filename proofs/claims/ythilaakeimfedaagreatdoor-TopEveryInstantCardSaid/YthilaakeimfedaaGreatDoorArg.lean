/-
  Opening the data of chapter 3: tables, loads, legs, dives, as arguments of a statement. Conditions: none; no program in sight.
-/
import Derived.Test.YthilaakeimfedaaGreatDoorRow
import Derived.Deep.Slices
import Derived.OpenShut
import Derived.Test.YthilaakeimfedaaGreatDoorJ
import Derived.Test.YthilaakeimfedaaGreatDoorEnc
import Derived.Test.YthilaakeimfedaaGreatDoorMod8
namespace Go.Proofs.YthilaakeimfedaaGreatDoor
open Go.RowKit Go.ChangeShapes Go.WideShapes Go.Deep

def i64 (n : Int) : Prop := -9223372036854775808 ≤ n ∧ n ≤ 9223372036854775807
def Opn (P : Program) (W : World) (t : TypeId) (Φ : List Value → Prop) : Prop :=
  ∀ (H : Type) (enc : TypeId × Value → H) (fuel : Nat) (cs : List Value) (x : DataW H × List MemPlace), DataW.trod enc P W 0 (fun _ => true) true fuel t cs = some x → Φ cs
section
variable {P : Program} {W : World} {t e : TypeId} {Φ Ψ : List Value → Prop}
theorem Opn.mono (h : Opn P W t Φ) (hm : ∀ cs, Φ cs → Ψ cs) : Opn P W t Ψ := fun H enc fuel cs x hx => hm cs (h H enc fuel cs x hx)
theorem Opn.and (h : Opn P W t Φ) (h2 : Opn P W t Ψ) : Opn P W t (fun cs => Φ cs ∧ Ψ cs) := fun H enc fuel cs x hx => ⟨h H enc fuel cs x hx, h2 H enc fuel cs x hx⟩
theorem opn_int (ht : P.underlying t = some (.int .i64)) : Opn P W t (fun cs => ∃ n, i64 n ∧ cs = [.int .i64 n]) := fun H enc fuel cs x hx => by
  obtain ⟨n, rfl, _, hw⟩ := DataW.trod_int ht hx
  exact ⟨n, bounds_i64 hw, rfl⟩
theorem opn_str (ht : P.underlying t = some .string) : Opn P W t (fun cs => ∃ s, s.size ≤ maxLen ∧ cs = [.string s]) := fun H enc fuel cs x hx => by
  obtain ⟨s, rfl, _, hw⟩ := DataW.trod_string ht hx
  exact ⟨s, hw, rfl⟩
def fsC (P : Program) (t : TypeId) : Option (List (Nat × Nat × Nat)) := match P.underlying t with
  | some (.struct fs) => some (fs.toList.map fun f => (f.offset, P.cellsOf f.type, f.type))
  | _ => none
theorem fsC_of {l : List (Nat × Nat × Nat)} (h : fsC P t = some l) : ∃ fs : Array Field, P.underlying t = some (.struct fs) ∧ fs.toList.map (fun f => (f.offset, P.cellsOf f.type, f.type)) = l := by
  unfold fsC at h
  split at h
  · rename_i fs hfs
    injection h with h
    exact ⟨fs, hfs, h⟩
  · cases h
theorem opn_len {l : List (Nat × Nat × Nat)} (h : fsC P t = some l) : Opn P W t (fun cs => cs.length = P.cellsOf t) := fun H enc fuel cs x hx => by
  obtain ⟨fs, hfs, _⟩ := fsC_of h
  obtain ⟨_, _, _, _, hl, _⟩ := DataW.trod_struct hfs hx
  exact hl
theorem opn_field {l : List (Nat × Nat × Nat)} (h : fsC P t = some l) {o k ty : Nat} (hm : (o, k, ty) ∈ l) (hΦ : Opn P W ty Φ) : Opn P W t (fun cs => Φ ((cs.drop o).take k)) := fun H enc fuel cs x hx => by
  obtain ⟨fs, hfs, rfl⟩ := fsC_of h
  obtain ⟨xs, n, _, _, _, hlen, hf⟩ := DataW.trod_struct hfs hx
  obtain ⟨f, hfm, he⟩ := List.mem_map.1 hm
  simp only [Prod.mk.injEq] at he
  obtain ⟨rfl, rfl, rfl⟩ := he
  obtain ⟨i, hi, hfi⟩ := List.getElem_of_mem hfm
  have hfi' : fs[i]? = some f := by rw [← hfi]; simp only [Array.getElem_toList]; exact Array.getElem?_eq_getElem _
  have h1 := hf i f hfi'
  have hil : i < xs.length := by rw [hlen]; simpa using hi
  rw [List.getElem?_eq_getElem hil] at h1
  exact hΦ H enc n _ _ h1
def IT (P : Program) (t n : Nat) : Prop := ∀ W, Opn P W t (fun cs => ∃ xs : List Int, xs.length = n ∧ (∀ x ∈ xs, i64 x) ∧ cs = xs.map iV)
theorem it_int (ht : P.underlying t = some (.int .i64)) : IT P t 1 := fun W => (opn_int ht).mono fun cs ⟨n, h1, h2⟩ => ⟨[n], rfl, fun x hx => by simp only [List.mem_singleton] at hx; subst hx; exact h1, h2⟩
inductive ITF (P : Program) : Nat → List (Nat × Nat × Nat) → Nat → Prop
  | nil (n : Nat) : ITF P n [] n
  | cons {o k ty n : Nat} {l : List (Nat × Nat × Nat)} : IT P ty k → ITF P (o + k) l n → ITF P o ((o, k, ty) :: l) n
theorem ITF.le {o n : Nat} {l : List (Nat × Nat × Nat)} (h : ITF P o l n) : o ≤ n := by
  induction h with
  | nil => exact Nat.le_refl _
  | cons _ _ ih => omega
theorem itf_cells {o n : Nat} {l : List (Nat × Nat × Nat)} (h : ITF P o l n) {H : Type} {enc : TypeId × Value → H} {fuel : Nat} {cs : List Value} (hn : cs.length = n)
    (hf : ∀ p ∈ l, ∃ y, DataW.trod enc P W 0 (fun _ => true) true fuel p.2.2 ((cs.drop p.1).take p.2.1) = some y) : ∃ xs : List Int, xs.length = n - o ∧ (∀ x ∈ xs, i64 x) ∧ cs.drop o = xs.map iV := by
  induction h with
  | nil m => exact ⟨[], by simp, fun x hx => (by cases hx), by rw [List.drop_eq_nil_of_le (by omega)]; rfl⟩
  | @cons o k ty m l hi ht ih =>
    obtain ⟨ys, hy1, hy2, hy3⟩ := ih hn (fun p hp => hf p (List.mem_cons_of_mem _ hp))
    obtain ⟨y, hy⟩ := hf _ List.mem_cons_self
    obtain ⟨xs, hx1, hx2, hx3⟩ := hi W H enc fuel _ _ hy
    have hle := ht.le
    refine ⟨xs ++ ys, by rw [List.length_append, hx1, hy1]; omega, fun x hx => ?_, ?_⟩
    · rcases List.mem_append.1 hx with h | h
      · exact hx2 x h
      · exact hy2 x h
    · rw [List.map_append, ← hx3, ← hy3]
      simp only
      rw [← List.drop_drop, List.take_append_drop]
theorem it_struct {n : Nat} {l : List (Nat × Nat × Nat)} (h : fsC P t = some l) (hC : P.cellsOf t = n) (hl : ITF P 0 l n) : IT P t n := fun W H enc fuel cs x hx => by
  obtain ⟨fs, hfs, rfl⟩ := fsC_of h
  obtain ⟨xs, m, _, _, hlen, hxl, hf⟩ := DataW.trod_struct hfs hx
  obtain ⟨ys, h1, h2, h3⟩ := itf_cells (W := W) hl (cs := cs) (H := H) (enc := enc) (fuel := m) (by rw [hlen, hC]) (fun p hp => by
    obtain ⟨f, hfm, rfl⟩ := List.mem_map.1 hp
    obtain ⟨i, hi, hfi⟩ := List.getElem_of_mem hfm
    have hfi' : fs[i]? = some f := by rw [← hfi]; simp only [Array.getElem_toList]; exact Array.getElem?_eq_getElem _
    have h1 := hf i f hfi'
    have hil : i < xs.length := by rw [hxl]; simpa using hi
    rw [List.getElem?_eq_getElem hil] at h1
    exact ⟨_, h1⟩)
  exact ⟨ys, by simpa using h1, h2, by simpa using h3⟩
theorem opn_slice {k : Nat} (ht : P.underlying t = some (.slice e)) (hk : P.cellsOf e = k) (hk1 : 1 ≤ k) (h : Opn P W e Φ) : Opn P W t (fun cs => ∃ v l, cs = [v] ∧ Rdd W v k l ∧ ∀ c ∈ l, Φ c) := fun H enc fuel cs x hx => by
  rcases open_slice ht hx with ⟨rfl, _⟩ | ⟨a, len, cap, m, n, D, Pl, rfl, _, hl, hc, hm, _, hi⟩
  · exact ⟨_, [], rfl, ⟨⟨none, 0, rfl, by simp, by simp⟩, fun x hx => (by cases hx), fun h => by simp at h⟩, fun c hc => by cases hc⟩
  · have hm' : m = cap := by simpa using hm
    subst hm'
    rw [hk] at hi
    obtain ⟨F, hF⟩ := choose_lt (p := fun i (cs' : List Value) => W.cells? 0 (a.add (i * k)) k = some cs' ∧ DataW.trod enc P W 0 (fun _ => true) true n e cs' = some (D i, Pl i)) (fun i him => hi i him)
    have hlen : ((List.range len).map F).length = len := by simp
    have hge : ∀ i, i < len → ((List.range len).map F)[i]? = some (F i) := fun i hil => by rw [List.getElem?_map, List.getElem?_range hil]; rfl
    have heach : ∀ x ∈ (List.range len).map F, x.length = k := fun x hx => by
      obtain ⟨i, hi, rfl⟩ := List.mem_map.1 hx
      have hi := List.mem_range.1 hi
      exact (World.cells?_some (hF i (by omega)).1).2.1
    refine ⟨_, (List.range len).map F, rfl, ⟨⟨some a, m, by rw [hlen], by rw [hlen]; exact hl, hc⟩, heach, fun h0 => ?_⟩, fun c hcm => ?_⟩
    · rw [hlen] at h0
      refine ⟨a, rfl, ⟨len, m, rfl⟩, ?_, fun j u hj => ?_⟩
      · obtain ⟨_, h1, h2⟩ := World.cells?_some (hF 0 (by omega)).1
        have h3 := h2 0 (by omega)
        rw [List.getElem?_eq_getElem (by omega)] at h3
        have := World.block_lt_of_cell? _ _ h3
        rwa [add_block, add_block] at this
      · have hjl := (List.getElem?_eq_some_iff.1 hj).1
        have hfl : ((List.range len).map F).flatten.length = len * k := by
          rw [List.length_flatten, List.map_congr_left heach, List.map_const', List.sum_replicate_nat, hlen]
        rw [hfl] at hjl
        have hk0 : 0 < k := hk1
        have hq : j / k < len := (Nat.div_lt_iff_lt_mul hk0).2 hjl
        have hr := Nat.mod_lt j hk0
        obtain ⟨_, h1, h2⟩ := World.cells?_some (hF (j / k) (by omega)).1
        have h3 : (F (j / k))[j % k]? = some ((F (j / k))[j % k]'(by omega)) := List.getElem?_eq_getElem _
        have h4 := flat_get _ k heach (j / k) (j % k) _ (hge _ hq) _ h3
        have h5 : j / k * k + j % k = j := by have := Nat.div_add_mod j k; rw [Nat.mul_comm] at this; exact this
        rw [h5, hj] at h4
        injection h4 with h4
        rw [h4, ← h3, ← h2 _ hr, YthilaakeimfedaaGreatDoor.add_add, h5]
    · obtain ⟨i, hi', rfl⟩ := List.mem_map.1 hcm
      have hi' := List.mem_range.1 hi'
      exact h H enc n _ _ (hF i (by omega)).2
theorem all_map {α β : Type} (f : α → β) {Q : α → Prop} : ∀ {l : List β}, (∀ c ∈ l, ∃ a, Q a ∧ c = f a) → ∃ xs_ : List α, l = xs_.map f ∧ ∀ a ∈ xs_, Q a
  | [], _ => ⟨[], rfl, fun a ha => (by cases ha)⟩
  | c :: t, h => by
    obtain ⟨xs_, h1, h2⟩ := all_map f (fun c hc => h c (List.mem_cons_of_mem _ hc))
    obtain ⟨a, h3, h4⟩ := h c List.mem_cons_self
    refine ⟨a :: xs_, by rw [List.map_cons, ← h1, ← h4], fun b hb => ?_⟩
    rcases List.mem_cons.1 hb with rfl | hb
    · exact h3
    · exact h2 b hb
theorem opn_list {α : Type} (f : α → List Value) {Q : α → Prop} {k : Nat} (ht : P.underlying t = some (.slice e)) (hk : P.cellsOf e = k) (hk1 : 1 ≤ k) (h : Opn P W e (fun cs => ∃ a, Q a ∧ cs = f a)) :
    Opn P W t (fun cs => ∃ (v : Value) (xs_ : List α), cs = [v] ∧ Rdd W v k (xs_.map f) ∧ ∀ a ∈ xs_, Q a) := (opn_slice ht hk hk1 h).mono fun cs ⟨v, l, h1, h2, h3⟩ => by
  obtain ⟨xs_, rfl, h5⟩ := all_map f h3
  exact ⟨v, xs_, h1, h2, h5⟩
theorem opn_arg {H : Type} {enc : TypeId × Value → H} {v : Value} {d : DataW H} {p : List MemPlace} (h : Opn P W t Φ) (ht : DataW.Trod enc P W 0 (fun _ => true) true t v d p) : Φ v.cells.toList := by
  obtain ⟨fuel, hf⟩ := ht
  exact h H enc fuel _ _ hf
theorem agg_of {fs : List (Nat × Nat × Nat)} {r : Reach} {b0 : Nat} {v : Value} (h : fsC P t = some fs) (hv : Value.okWide P W r b0 t v) : ∃ cs : List Value, v = .agg cs.toArray ∧ v.cells.toList = cs := by
  obtain ⟨fs', hfs, _⟩ := fsC_of h
  obtain ⟨cs, rfl, _⟩ := okWide_struct hfs hv
  exact ⟨cs.toList, by simp, rfl⟩
end
end Go.Proofs.YthilaakeimfedaaGreatDoor
namespace Go.Proofs.YthilaakeimfedaaGreatDoor
open Go.RowKit

set_option maxRecDepth 100000 in
theorem ct_tissue_limit (c : Cp) (p f : Int) (hc : okCp c) (hp : 0 ≤ p ∧ p ≤ 50000) (hf : 0 ≤ f ∧ f ≤ 1000) : Ct Tryz.prog 184 [.agg (cCp c).toArray, .int .i64 p, .int .i64 f] [] (isV (.int .i64 (limM c p f))) := by
 refine Ct.of (N := 21) Tryz.func184 rfl rfl rfl fun w => ?_
 refine C_weak (E' := [(0, .agg (cCp c).toArray), (1, .int .i64 p), (2, .int .i64 f)]) (rs' := []) ⟨rfl, rfl, rfl, trivial⟩ (fun _ h => h) ?_
 have hi := lim_in hc hp hf
 have hc5 := hc.2.2.2.2.1; have hc6 := hc.2.2.2.2.2.1; have hc7 := hc.2.2.2.2.2.2
 refine C_seq ?_
 refine C_region ?_
 refine L_box rfl rfl rfl fun g3 => ?_
 refine Jq (q_assign rfl) ?_
 refine L_then ?_
 refine C_seq ?_
 refine C_region ?_
 refine Jq (q_move rfl) ?_
 refine Jq (q_mul rfl rfl (by first | exact IntWalk.i64_in _ (by omega) | rfl)) ?_
 refine Jq (q_move rfl) ?_
 refine Jq (q_field tb rfl rfl rfl) ?_
 refine Jq (q_load tb rfl rfl bxo rfl) ?_
 refine Jq (q_mul rfl rfl (by first | exact IntWalk.i64_in _ (by omega) | rfl)) ?_
 refine Jq (q_field tb rfl rfl rfl) ?_
 refine Jq (q_load tb rfl rfl bxo rfl) ?_
 refine Jq (q_sub rfl rfl (by first | exact IntWalk.i64_in _ (by omega) | rfl)) ?_
 refine Jq (q_move rfl) ?_
 refine Jq (q_mul rfl rfl (by first | exact IntWalk.i64_in _ (by omega) | rfl)) ?_
 refine Jq (q_add rfl rfl (by first | exact IntWalk.i64_in _ (by omega) | rfl)) ?_
 refine Jq (q_mul rfl rfl (by first | exact IntWalk.i64_in _ (by omega) | rfl)) ?_
 refine Jq (q_add rfl rfl (by first | exact IntWalk.i64_in _ (by omega) | rfl)) ?_
 refine Jq (q_assign rfl) ?_
 refine L_then ?_
 refine C_ret ?_
 exact ret_of (res1 rfl rfl) sub_nil (by intro r hr; cases hr) ⟨rfl, rfl⟩
set_option maxRecDepth 100000 in
theorem ct_tissue_total (x : Ld) (hx : inLd x) : Ct Tryz.prog 185 [.agg (cLd x).toArray] [] (isV (.agg #[.int .i64 (x.n.lo + x.h.lo), .int .i64 (x.n.hi + x.h.hi)])) := by
 refine Ct.of (N := 18) Tryz.func185 rfl rfl rfl fun w => ?_
 refine C_weak (E' := [(0, .agg (cLd x).toArray)]) (rs' := []) ⟨rfl, trivial⟩ (fun _ h => h) ?_
 have h1 := hx.1.a; have h2 := hx.1.b; have h3 := hx.1.c; have h4 := hx.1.e; have h5 := hx.2.a; have h6 := hx.2.b; have h7 := hx.2.c; have h8 := hx.2.e
 refine C_seq ?_
 refine C_region ?_
 refine L_box rfl rfl rfl fun g1 => ?_
 refine L_alloc tb rfl rfl fun g2 => ?_
 refine L_then ?_
 refine C_seq ?_
 refine C_region ?_
 refine Jq (q_field tb rfl rfl rfl) ?_
 refine Jq (q_field tb rfl rfl rfl) ?_
 refine Jq (q_load tb rfl rfl bxo rfl) ?_
 refine Jq (q_field tb rfl rfl rfl) ?_
 refine Jq (q_field tb rfl rfl rfl) ?_
 refine Jq (q_load tb rfl rfl bxo rfl) ?_
 refine Jq (q_add rfl rfl (by first | exact IntWalk.i64_in _ (by omega) | rfl)) ?_
 refine Jq (q_field tb rfl rfl rfl) ?_
 refine Jq (q_field tb rfl rfl rfl) ?_
 refine Jq (q_load tb rfl rfl bxo rfl) ?_
 refine Jq (q_field tb rfl rfl rfl) ?_
 refine Jq (q_field tb rfl rfl rfl) ?_
 refine Jq (q_load tb rfl rfl bxo rfl) ?_
 refine Jq (q_add rfl rfl (by first | exact IntWalk.i64_in _ (by omega) | rfl)) ?_
 refine Jq (by first | exact q_build tb rfl rfl rfl rfl | exact q_buildArr tb rfl rfl rfl rfl rfl) ?_
 refine L_st tb rfl rfl ?_
 refine L_then ?_
 refine C_ret ?_
 exact ret_of (resC tb rfl rfl rfl m0 rfl) sub_nil (by intro r hr; cases hr) ⟨rfl, rfl⟩
set_option maxRecDepth 100000 in
theorem ct_tissue_Loaded (v u : Value) (x : Lg) (f : Int) (ts : List Cp) (ls : List Ld) (hle : ts.length ≤ 1000000) (hle2 : ls.length ≤ 1000000) : Ct Tryz.prog 69 [v, u, .agg (cLg x).toArray, .int .i64 f] [(v, 4, ts.map cCp), (u, 4, ls.map cLd)] (isSlN 139 4 ((loadedE ts ls x f).1.map cLd) (.int .i64 (loadedE ts ls x f).2)) := by
 refine Ct.of (N := 31) Tryz.func69 rfl rfl rfl fun w => ?_
 refine C_weak (E' := [(0, v), (1, u), (2, .agg (cLg x).toArray), (3, .int .i64 f)]) (rs' := [rd v 4 (ts.map cCp), rd u 4 (ls.map cLd)]) ⟨rfl, rfl, rfl, rfl, trivial⟩ (fun _ h => h) ?_
 refine C_seq ?_
 refine C_region ?_
 refine L_box rfl rfl rfl fun g6 => ?_
 refine Jq (q_assign rfl) ?_
 refine Jq (q_assign rfl) ?_
 refine L_then ?_
 refine C_seq ?_
 refine C_seq ?_
 refine C_region ?_
 refine Jq (q_move rfl) ?_
 refine Jq (q_move rfl) ?_
 refine L_call tb rfl rfl (ct_tissue_CheckLoads _ _ ts ls hle hle2) (ps_cons gvo (ps_cons gvo no_ps)) rfl ?_
 refine Jq (q_assign rfl) ?_
 refine L_then ?_
 refine C_seq ?_
 refine C_region ?_
 refine Jq (q_move rfl) ?_
 refine Jq (q_neq rfl rfl) ?_
 refine L_then ?_
 refine C_dec rfl (fun h1 => ?_) (fun h1 => ?_)
 refine C_seq ?_
 refine C_region ?_
 refine Jq (q_move rfl) ?_
 refine Jq (q_assign rfl) ?_
 refine Jq (q_assign rfl) ?_
 refine L_then ?_
 refine C_ret ?_
 rw [loadedE_1 h1]
 exact ret_of (rs' := [sl (.slice none 0 0) 139 4 []]) (res2 rfl rfl rfl) (fun w_ h_ => ws_nil (sub_nil w_ h_)) own1 ⟨_, rfl, rfl⟩
 refine C_skip_then ?_
 refine C_seq ?_
 refine C_seq ?_
 refine C_region ?_
 refine Jq (q_loadA tb rfl rfl bxo rfl rfl) ?_
 refine L_call tb rfl rfl (ct_tissue_CheckLeg x) no_ps rfl ?_
 refine Jq (q_assign rfl) ?_
 refine L_then ?_
 refine C_seq ?_
 refine C_region ?_
 refine Jq (q_move rfl) ?_
 refine Jq (q_neq rfl rfl) ?_
 refine L_then ?_
 refine C_dec rfl (fun h2 => ?_) (fun h2 => ?_)
 refine C_seq ?_
 refine C_region ?_
 refine Jq (q_move rfl) ?_
 refine Jq (q_assign rfl) ?_
 refine Jq (q_assign rfl) ?_
 refine L_then ?_
 refine C_ret ?_
 rw [loadedE_2 h1 h2]
 exact ret_of (rs' := [sl (.slice none 0 0) 139 4 []]) (res2 rfl rfl rfl) (fun w_ h_ => ws_nil (sub_nil w_ h_)) own1 ⟨_, rfl, rfl⟩
 refine C_skip_then ?_
 refine C_seq ?_
 refine C_seq ?_
 refine C_region ?_
 refine Jq (q_move rfl) ?_
 refine L_call tb rfl rfl (ct_tissue_isFine _) no_ps rfl ?_
 refine Jq (q_not rfl decide_not.symm) ?_
 refine L_then ?_
 refine C_dec rfl (fun h3 => ?_) (fun h3 => ?_)
 refine C_seq ?_
 refine C_region ?_
 refine Jq (q_assign rfl) ?_
 refine Jq (q_assign rfl) ?_
 refine L_then ?_
 refine C_ret ?_
 rw [loadedE_3 h1 h2 h3]
 exact ret_of (rs' := [sl (.slice none 0 0) 139 4 []]) (res2 rfl rfl rfl) (fun w_ h_ => ws_nil (sub_nil w_ h_)) own1 ⟨_, rfl, rfl⟩
 have hk := ckLoads_ok (Decidable.not_not.1 h1)
 have hkb := hk.b
 obtain ⟨n, rfl⟩ := Int.eq_ofNat_of_zero_le (show 0 ≤ f by omega)
 refine C_skip_then ?_
 refine C_seq ?_
 refine C_region ?_
 refine Jq (q_move rfl) ?_
 refine Jq (q_move rfl) ?_
 refine Jq (q_loadA tb rfl rfl bxo rfl rfl) ?_
 refine Jq (q_move rfl) ?_
 refine L_callS tb rfl rfl (ct_tissue_loaded _ _ x n ts ls (by omega) (ckLeg_ok (Decidable.not_not.1 h2)).1 hk.len (by omega) hk.c hk.x) (ps_cons gvo (ps_cons gvo no_ps)) rfl fun v30 => ?_
 refine Jq (q_assign rfl) ?_
 refine Jq (q_assign rfl) ?_
 refine L_then ?_
 refine C_ret ?_
 rw [loadedE_4 h1 h2 (show n ≤ 6 by omega)]
 exact ret_of (rs' := [sl v30 139 4 ((loadedM ts ls x n).map cLd)]) (res2 rfl rfl rfl) (fun _ h => h.sub (by repeat (first | exact List.Sublist.refl _ | apply List.Sublist.cons_cons | apply List.Sublist.cons))) own1 ⟨_, rfl, rfl⟩
end Go.Proofs.YthilaakeimfedaaGreatDoor
namespace Go.Proofs.YthilaakeimfedaaGreatDoor
theorem rootS_at {a b c d e : Int} (h1 : 0 ≤ c ∧ c * c ≤ 1000000000 * a ∧ 1000000000 * a < (c + 1) * (c + 1)) (h2 : 0 ≤ d ∧ d * d ≤ 1000000000 * b ∧ 1000000000 * b < (d + 1) * (d + 1)) (he : (if d * d < 1000000000 * b then d + 1 else d) = e) : rootS ⟨a, b⟩ = ⟨c, e⟩ := by
  unfold rootS
  rw [← sqrZ_uniq (r := c) h1.1 h1.2.1 h1.2.2, ← sqrZ_uniq (r := d) h2.1 h2.2.1 h2.2.2, he]
theorem rv0 : rootR 0 = ⟨500000000, 500000000⟩ := rfl
theorem rv1 : rootR 1 = ⟨707106781, 707106782⟩ := by
  show rootS (rootR 0) = _
  rw [rv0]
  exact rootS_at (d := 707106781) (by decide) (by decide) (by decide)
theorem rv2 : rootR 2 = ⟨840896415, 840896416⟩ := by
  show rootS (rootR 1) = _
  rw [rv1]
  exact rootS_at (d := 840896415) (by decide) (by decide) (by decide)
theorem rv3 : rootR 3 = ⟨917004043, 917004044⟩ := by
  show rootS (rootR 2) = _
  rw [rv2]
  exact rootS_at (d := 917004043) (by decide) (by decide) (by decide)
theorem rv4 : rootR 4 = ⟨957603280, 957603282⟩ := by
  show rootS (rootR 3) = _
  rw [rv3]
  exact rootS_at (d := 957603281) (by decide) (by decide) (by decide)
theorem rv5 : rootR 5 = ⟨978572061, 978572063⟩ := by
  show rootS (rootR 4) = _
  rw [rv4]
  exact rootS_at (d := 978572062) (by decide) (by decide) (by decide)
theorem rv6 : rootR 6 = ⟨989228012, 989228014⟩ := by
  show rootS (rootR 5) = _
  rw [rv5]
  exact rootS_at (d := 989228013) (by decide) (by decide) (by decide)
theorem rv7 : rootR 7 = ⟨994599422, 994599424⟩ := by
  show rootS (rootR 6) = _
  rw [rv6]
  exact rootS_at (d := 994599423) (by decide) (by decide) (by decide)
theorem rv8 : rootR 8 = ⟨997296055, 997296057⟩ := by
  show rootS (rootR 7) = _
  rw [rv7]
  exact rootS_at (d := 997296056) (by decide) (by decide) (by decide)
theorem rv9 : rootR 9 = ⟨998647112, 998647114⟩ := by
  show rootS (rootR 8) = _
  rw [rv8]
  exact rootS_at (d := 998647113) (by decide) (by decide) (by decide)
theorem rv10 : rootR 10 = ⟨999323327, 999323329⟩ := by
  show rootS (rootR 9) = _
  rw [rv9]
  exact rootS_at (d := 999323328) (by decide) (by decide) (by decide)
theorem rts10 : rts 10 = [⟨500000000, 500000000⟩, ⟨707106781, 707106782⟩, ⟨840896415, 840896416⟩, ⟨917004043, 917004044⟩, ⟨957603280, 957603282⟩, ⟨978572061, 978572063⟩, ⟨989228012, 989228014⟩, ⟨994599422, 994599424⟩, ⟨997296055, 997296057⟩, ⟨998647112, 998647114⟩, ⟨999323327, 999323329⟩] := by
  show [rootR 0, rootR 1, rootR 2, rootR 3, rootR 4, rootR 5, rootR 6, rootR 7, rootR 8, rootR 9, rootR 10] = _
  rw [rv0, rv1, rv2, rv3, rv4, rv5, rv6, rv7, rv8, rv9, rv10]
theorem dv600 : decM 300 600 10 = ⟨707106781, 707106782⟩ := by
  unfold decM
  rw [rts10, rv10]
  kernel_rfl
end Go.Proofs.YthilaakeimfedaaGreatDoor
namespace Go.Proofs.YthilaakeimfedaaGreatDoor
set_option maxRecDepth 100000
set_option maxHeartbeats 4000000
open Go.RowKit

end Go.Proofs.YthilaakeimfedaaGreatDoor
namespace Go.Proofs.YthilaakeimfedaaGreatDoor
def cDv (v u : Value) (x : Lg) (fi : Int) : List Value := [v, u, .int .i64 x.f, .int .i64 x.t, .int .i64 x.s, .int .i64 x.g.o, .int .i64 x.g.h, .int .i64 fi]
def cDl (x : Dl) : List Value := [.int .i64 x.s, .int .i64 x.d, .int .i64 x.g]
def cPl (nm : ByteArray) (sf : Int) (v u : Value) : List Value := [.string nm, .int .i64 sf, v, u]
theorem oneGs (l : List Gs) : ∀ c ∈ (l.map cGs).flatten, c.oneCell' = true := one_map cGs (fun a c hc => by
  simp only [cGs, List.mem_cons, List.not_mem_nil, or_false] at hc
  rcases hc with rfl | rfl <;> rfl) l
theorem oneDl (l : List Dl) : ∀ c ∈ (l.map cDl).flatten, c.oneCell' = true := one_map cDl (fun a c hc => by
  simp only [cDl, List.mem_cons, List.not_mem_nil, or_false] at hc
  rcases hc with rfl | rfl | rfl <;> rfl) l
theorem gas_cell {gs : List Gs} {i : Int} (h0 : 0 ≤ i) (h1 : i ≤ gs.length - 1) : (gs.map cGs)[i.toNat]? = some (cGs (gasAt gs i)) := by
  have : i.toNat < gs.length := by omega
  unfold gasAt
  rw [List.getElem?_map, List.getElem?_eq_getElem this]
  rfl
theorem leg_cells (L : List Lg) (x : Lg) : L.map cLg ++ [cLg x] = (L ++ [x]).map cLg := by rw [List.map_append]; rfl
end Go.Proofs.YthilaakeimfedaaGreatDoor
namespace Go.Proofs.YthilaakeimfedaaGreatDoor
open Go.RowKit Go.ChangeShapes Go.WideShapes Go.Deep

section
variable {P : Program} {W : World} {t e : TypeId}
def i64Cp (c : Cp) : Prop := i64 c.n ∧ i64 c.h ∧ i64 c.b ∧ i64 c.s
def i64Rg (r : Rg) : Prop := i64 r.lo ∧ i64 r.hi
def i64Ld (l : Ld) : Prop := i64Rg l.n ∧ i64Rg l.h
theorem opn_cp (h : IT P t 4) : Opn P W t (fun cs => ∃ c, i64Cp c ∧ cs = cCp c) := (h W).mono fun cs ⟨xs, hl, hq, hc⟩ => by
  match xs, hl with
  | [a, b, c, d], _ => exact ⟨⟨a, b, c, d⟩, ⟨hq a (by simp), hq b (by simp), hq c (by simp), hq d (by simp)⟩, hc⟩
theorem opn_ld (h : IT P t 4) : Opn P W t (fun cs => ∃ c, i64Ld c ∧ cs = cLd c) := (h W).mono fun cs ⟨xs, hl, hq, hc⟩ => by
  match xs, hl with
  | [a, b, c, d], _ => exact ⟨⟨⟨a, b⟩, ⟨c, d⟩⟩, ⟨⟨hq a (by simp), hq b (by simp)⟩, ⟨hq c (by simp), hq d (by simp)⟩⟩, hc⟩
theorem opn_gs (h : IT P t 2) : Opn P W t (fun cs => ∃ c : Gs, (i64 c.o ∧ i64 c.h) ∧ cs = cGs c) := (h W).mono fun cs ⟨xs, hl, hq, hc⟩ => by
  match xs, hl with
  | [a, b], _ => exact ⟨⟨a, b⟩, ⟨hq a (by simp), hq b (by simp)⟩, hc⟩
theorem opn_tab (ht : P.underlying t = some (.slice e)) (hk : P.cellsOf e = 4) (h : IT P e 4) : Opn P W t (fun cs => ∃ (v : Value) (ts : List Cp), cs = [v] ∧ Rdd W v 4 (ts.map cCp) ∧ ∀ c ∈ ts, i64Cp c) := opn_list cCp ht hk (by decide) (opn_cp h)
theorem opn_lds (ht : P.underlying t = some (.slice e)) (hk : P.cellsOf e = 4) (h : IT P e 4) : Opn P W t (fun cs => ∃ (v : Value) (ls : List Ld), cs = [v] ∧ Rdd W v 4 (ls.map cLd) ∧ ∀ c ∈ ls, i64Ld c) := opn_list cLd ht hk (by decide) (opn_ld h)
theorem opn_gss (ht : P.underlying t = some (.slice e)) (hk : P.cellsOf e = 2) (h : IT P e 2) : Opn P W t (fun cs => ∃ (v : Value) (ls : List Gs), cs = [v] ∧ Rdd W v 2 (ls.map cGs) ∧ ∀ c ∈ ls, i64 c.o ∧ i64 c.h) := opn_list cGs ht hk (by decide) (opn_gs h)
def i64Dl (x : Dl) : Prop := i64 x.s ∧ i64 x.d ∧ i64 x.g
theorem opn_dl (h : IT P t 3) : Opn P W t (fun cs => ∃ c, i64Dl c ∧ cs = cDl c) := (h W).mono fun cs ⟨xs, hl, hq, hc⟩ => by
  match xs, hl with
  | [a, b, c], _ => exact ⟨⟨a, b, c⟩, ⟨hq a (by simp), hq b (by simp), hq c (by simp)⟩, hc⟩
theorem opn_dls (ht : P.underlying t = some (.slice e)) (hk : P.cellsOf e = 3) (h : IT P e 3) : Opn P W t (fun cs => ∃ (v : Value) (ls : List Dl), cs = [v] ∧ Rdd W v 3 (ls.map cDl) ∧ ∀ c ∈ ls, i64Dl c) := opn_list cDl ht hk (by decide) (opn_dl h)
theorem opn_plan {tN tS tG tL : TypeId} (hfs : fsC P t = some [(0, 1, tN), (1, 1, tS), (2, 1, tG), (3, 1, tL)]) (hC : P.cellsOf t = 4) (hN : P.underlying tN = some .string) (hS : P.underlying tS = some (.int .i64)) (hG : Opn P W tG (fun cs => ∃ (v : Value) (ls : List Gs), cs = [v] ∧ Rdd W v 2 (ls.map cGs) ∧ ∀ c ∈ ls, i64 c.o ∧ i64 c.h))
    (hL : Opn P W tL (fun cs => ∃ (v : Value) (ls : List Dl), cs = [v] ∧ Rdd W v 3 (ls.map cDl) ∧ ∀ c ∈ ls, i64Dl c)) :
    Opn P W t (fun cs => ∃ (nm : ByteArray) (sf : Int) (v u : Value) (gs : List Gs) (ls : List Dl), cs = cPl nm sf v u ∧ Rdd W v 2 (gs.map cGs) ∧ Rdd W u 3 (ls.map cDl) ∧ (∀ c ∈ gs, i64 c.o ∧ i64 c.h) ∧ (∀ c ∈ ls, i64Dl c) ∧ nm.size ≤ maxLen ∧ i64 sf) :=
  ((((opn_len hfs).and (opn_field hfs (o := 0) (k := 1) (by simp) (opn_str hN))).and (opn_field hfs (o := 1) (k := 1) (by simp) (opn_int hS))).and ((opn_field hfs (o := 2) (k := 1) (by simp) hG).and (opn_field hfs (o := 3) (k := 1) (by simp) hL))).mono
    fun cs ⟨⟨⟨hl, nm, h1, h2⟩, sf, h3, h4⟩, ⟨v, gs, h5, h6, h7⟩, u, ls, h8, h9, h10⟩ => by
      rw [hC] at hl
      match cs, hl with
      | [a, b, c, d], _ =>
        simp only [List.drop_zero, List.drop_succ_cons, List.take_succ_cons, List.take_zero, List.cons.injEq, and_true] at h2 h4 h5 h8
        subst h2; subst h4; subst h5; subst h8
        exact ⟨nm, sf, _, _, gs, ls, rfl, h6, h9, h7, h10, h1, h3⟩
theorem struct_val {fs : List (Nat × Nat × Nat)} {b0 : Nat} {r : Reach} {v : Value} {cs : List Value} (hf : fsC P t = some fs) (hv : Value.okWide P W r b0 t v) (h : v.cells.toList = cs) : v = .agg cs.toArray := by
  obtain ⟨cs', rfl, h'⟩ := agg_of hf hv
  rw [← h, h']
end
end Go.Proofs.YthilaakeimfedaaGreatDoor
