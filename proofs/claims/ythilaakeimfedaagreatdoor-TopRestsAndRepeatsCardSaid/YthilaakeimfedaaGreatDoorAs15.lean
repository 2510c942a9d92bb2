/-
  Plain laws for TopRestsAndRepeats: a rest of no time changes nothing; a longer one draws the loads towards what is breathed. Conditions: those in front of each theorem; no program in sight.
-/
import Derived.Test.YthilaakeimfedaaGreatDoorAs14
import Derived.Test.YthilaakeimfedaaGreatDoorMod8
namespace Go.Proofs.YthilaakeimfedaaGreatDoor
theorem dF_zero {h : Int} (hh : 1 ≤ h) {d : Rg} : ∀ l : List Rg, dF h (0, d) l = (0, d)
  | [] => rfl
  | r :: l => by
    have e : dS h (0, d) r = (0, d) := by
      unfold dS
      rw [if_neg (show ¬ (h ≤ 2 * (0, d).1) by show ¬ (h ≤ 2 * 0); omega)]
      rfl
    show dF h (dS h (0, d) r) l = _
    rw [e]
    exact dF_zero hh l
theorem decM_zero {h : Int} (hh : 1 ≤ h) (n : Nat) : decM 0 h n = ⟨1000000000, 1000000000⟩ := by
  unfold decM
  rw [Int.zero_emod, Int.zero_ediv]
  show decE (dF h (0, ⟨1000000000, 1000000000⟩) _) _ = _
  rw [dF_zero hh]
  rfl
theorem near_one (l : Rg) (a : Int) : nearM l a a ⟨1000000000, 1000000000⟩ = l := by
  have h1 : (l.lo - a) * 1000000000 / 1000000000 = l.lo - a := Int.mul_ediv_cancel _ (by decide)
  have h2 : upZ ((a - l.lo) * 1000000000) 1000000000 = a - l.lo := by unfold upZ; omega
  have h3 : (a - l.hi) * 1000000000 / 1000000000 = a - l.hi := Int.mul_ediv_cancel _ (by decide)
  have h4 : upZ ((l.hi - a) * 1000000000) 1000000000 = l.hi - a := by unfold upZ; omega
  unfold nearM
  dsimp only
  rw [h1, h2, h3, h4]
  have e1 : (if l.lo ≥ a then a + (l.lo - a) else a - (a - l.lo)) = l.lo := by split <;> omega
  have e2 : (if l.hi ≥ a then a + (l.hi - a) else a - (a - l.hi)) = l.hi := by split <;> omega
  rw [e1, e2]
theorem rest_none {ts : List Cp} {ls : List Ld} {p : Int} (h : okTL ts ls) : restM ts ls p 0 = ls := by
  refine List.ext_getElem? fun i => ?_
  unfold restM stepM
  rw [List.getElem?_zipWith]
  rcases Nat.lt_or_ge i ls.length with hi | hi
  · have hlen := h.len
    obtain ⟨c, hc⟩ := get_some ts (k := i) (by omega)
    obtain ⟨z, hz⟩ := get_some ls hi
    rw [hc, hz]
    have hck := h.c c (List.mem_of_getElem? hc)
    have e : stepL 20 0 p p ⟨210, 0⟩ c z = z := by
      unfold stepL
      rw [decM_zero hck.1, decM_zero hck.2.2.1, near_one, near_one]
    exact congrArg some e
  · rw [List.getElem?_eq_none hi]
    cases ts[i]? <;> rfl
theorem near_two {l d : Rg} {a : Int} (hd : inD d) : min l.lo a ≤ (nearM l a a d).lo ∧ (nearM l a a d).hi ≤ max l.hi a := by
  obtain ⟨d1, d2, d3, d4⟩ := hd
  unfold nearM
  dsimp only
  constructor
  · by_cases hc : l.lo ≥ a
    · rw [if_pos hc]
      have : 0 ≤ (l.lo - a) * d.lo := Int.mul_nonneg (by omega) d1
      omega
    · rw [if_neg hc]
      have p := Int.mul_le_mul_of_nonneg_left d4 (show 0 ≤ a - l.lo by omega)
      unfold upZ
      omega
  · by_cases hc : l.hi ≥ a
    · rw [if_pos hc]
      have p := Int.mul_le_mul_of_nonneg_left d4 (show 0 ≤ l.hi - a by omega)
      unfold upZ
      omega
    · rw [if_neg hc]
      have : 0 ≤ (a - l.hi) * d.lo := Int.mul_nonneg (by omega) d1
      omega
structure RestOk (p : Int) (z y : Ld) : Prop where
  nl : min z.n.lo (satL ⟨210, 0⟩ p).n.lo ≤ y.n.lo
  nh : y.n.hi ≤ max z.n.hi (satL ⟨210, 0⟩ p).n.hi
  hl : min z.h.lo (satL ⟨210, 0⟩ p).h.lo ≤ y.h.lo
  hh : y.h.hi ≤ max z.h.hi (satL ⟨210, 0⟩ p).h.hi
  xn : inX y.n ∧ inX z.n ∧ inX (satL ⟨210, 0⟩ p).n
  xh : inX y.h ∧ inX z.h ∧ inX (satL ⟨210, 0⟩ p).h
theorem rest_two {ts : List Cp} {ls : List Ld} {p s : Int} {i : Nat} {z : Ld} (h : okTL ts ls) (hp : 400 ≤ p ∧ p ≤ 1100) (hz : ls[i]? = some z) : ∃ y, (restM ts ls p s)[i]? = some y ∧ RestOk p z y := by
  have hlen := h.len
  have hi := (List.getElem?_eq_some_iff.1 hz).1
  obtain ⟨y, hy⟩ := get_some (restM ts ls p s) (k := i) (by unfold restM; rw [stepM_len hlen]; omega)
  refine ⟨y, hy, ?_⟩
  obtain ⟨c, w, hc, hw, rfl⟩ := rest_get hlen hy
  obtain rfl := Option.some.inj (hz.symm.trans hw)
  have hx := h.x z (List.mem_of_getElem? hz)
  have a := near_two (l := z.n) (a := (1000 - 210 - 0) * (p - 63)) (decM_in s c.n 20)
  have b := near_two (l := z.h) (a := 0 * (p - 63)) (decM_in s c.h 20)
  have hin := step_in (n := 20) (s := s) (lo := p) (hi := p) (g := ⟨210, 0⟩) (c := c) (x := z) ⟨by omega, by omega, by omega, by omega⟩ ⟨by decide, by decide, by decide⟩ hx
  refine ⟨a.1, a.2, b.1, b.2, ⟨hin.1, hx.1, ?_⟩, hin.2, hx.2, ?_⟩
  · constructor <;> (unfold satL; dsimp only; omega)
  · constructor <;> (unfold satL; dsimp only; omega)
theorem sat_get {ts : List Cp} {g : Gs} {p : Int} {i : Nat} (h : i < ts.length) : (satM ts g p)[i]? = some (satL g p) := by
  unfold satM
  rw [List.getElem?_replicate, if_pos h]
theorem sat_ok {x : Asc} (H : okAsc x) : satE x.ts ⟨210, 0⟩ x.su = (satM x.ts ⟨210, 0⟩ x.su, 0) := by
  have h1 := H.su
  refine satE_4 ?_ (by decide) (show 400 ≤ x.su ∧ x.su ≤ 31100 by omega)
  have h2 := ckLoads_mk H.k
  unfold ckLoads at h2
  split at h2
  · rename_i h3; exact absurd h2 h3
  · omega
theorem gen_last {x : Asc} (H : okAsc x) (h : (genA x).2 = 0) : okAsc (behA x (genA x).1.1 (genA x).1.1.length) ∧ (behA x (genA x).1.1 (genA x).1.1.length).de = 0 := by
  have hg := (gen_chk H h).1
  have hfl := gen_flw H h
  have h4 : (chkF (smS (genA x).1.1 (genA x).1.1.length) x (genA x).1.1 (genA x).1.2 0).2 = 0 := by
    rw [← chkA_2 hg.ck, ← csE_2 H.ck, hfl.2.2]
  have h5 := chk_end hg.l h4
  refine ⟨beh_ok H (Nat.le_refl _) fun i _ => flw_all hfl.1 i, ?_⟩
  cases hL : (genA x).1.1 with
  | nil => rw [hL] at h5; exact h5
  | cons a l => rw [hL] at h5; exact h5
theorem rev_hd {α : Type} {a : α} {t : List α} {n : Nat} (h : t.length + 1 = n) : (a :: t).reverse[n - 1]? = some a := by
  subst h
  rw [List.reverse_cons, List.getElem?_append_right (by rw [List.length_reverse]; omega), List.length_reverse]
  simp
theorem dup3 {B : Nat} {w0 w : World} {r1 r2 r3 a b c d e : Res} (h : WS B w0 [a, b, c, d, e, r1, r2, r3] w) (h1 : r1.own = false) (h2 : r2.own = false) (h3 : r3.own = false) : WS B w0 [r1, r2, r3, a, b, c, d, e, r1, r2, r3] w :=
  h.dups (K := [r1, r2, r3]) fun k hk => by
    rcases List.mem_cons.1 hk with rfl | hk
    · exact ⟨by simp, h1⟩
    rcases List.mem_cons.1 hk with rfl | hk
    · exact ⟨by simp, h2⟩
    · rw [List.mem_singleton.1 hk]; exact ⟨by simp, h3⟩
end Go.Proofs.YthilaakeimfedaaGreatDoor
