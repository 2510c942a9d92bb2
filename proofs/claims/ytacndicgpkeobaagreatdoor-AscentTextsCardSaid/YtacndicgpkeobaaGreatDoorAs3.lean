/-
  The examples of chapter 4: what the models say of them. Conditions: none; no program in sight.
-/
import Derived.Test.YtacndicgpkeobaaGreatDoorArgB
import Derived.Test.YtacndicgpkeobaaGreatDoorR
namespace Go.Proofs.YtacndicgpkeobaaGreatDoor
open Go.RowKit
abbrev oneA : Cp := ⟨600, 600, 500, 1500⟩
def exA (z : Ld) (d : Int) : Asc := ⟨[oneA], [z], 1000, d, [⟨⟨210, 0⟩, 30000⟩], ⟨500, 500, 600, 1000, 1000, 1000, 1⟩⟩
/-! ### Surely kept with the least fineness -/
theorem ediv_up {a s : Int} (hs : 1 ≤ s) : upZ (a * s) s = a := by
  unfold upZ
  rw [show a * s + s - 1 = (s - 1) + a * s by omega, Int.add_mul_ediv_right _ _ (by omega), Int.ediv_eq_zero_of_lt (by omega) (by omega)]
  omega
theorem mk_0 {x : Lg} {n : Int} (hs : 1 ≤ x.s) : (mkM x n 0).p = ⟨x.f, x.f⟩ ∧ (mkM x n 0).s = 0 := by
  have e : (0 : Int) * x.s / n = 0 := by rw [Int.zero_mul, Int.zero_ediv]
  have e2 : sumM x 0 = x.f * x.s := by unfold sumM; rw [Int.sub_zero, Int.mul_zero, Int.add_zero]
  unfold mkM
  dsimp only
  rw [e, if_pos (by omega), e2, ediv_up hs, Int.mul_ediv_cancel _ (by omega)]
  exact ⟨rfl, rfl⟩
theorem mk_n {x : Lg} {n : Int} (hs : 1 ≤ x.s) (hn : n ≠ 0) : (mkM x n n).p = ⟨x.t, x.t⟩ ∧ (mkM x n n).s = x.s := by
  have e : n * x.s / n = x.s := Int.mul_ediv_cancel_left _ hn
  have e2 : sumM x x.s = x.t * x.s := by unfold sumM; rw [Int.sub_self, Int.mul_zero, Int.zero_add]
  unfold mkM
  dsimp only
  rw [e, if_pos (by omega), e2, ediv_up hs, Int.mul_ediv_cancel _ (by omega)]
  exact ⟨rfl, rfl⟩
theorem mk_st {x : Lg} {n j : Int} (hs : 1 ≤ x.s) (h : x.f = x.t) : (mkM x n j).p = ⟨x.f, x.f⟩ := by
  have e2 : ∀ q, sumM x q = x.f * x.s := fun q => by unfold sumM; rw [← h]; grind
  unfold mkM
  dsimp only
  rw [if_pos (by omega), e2, ediv_up hs, Int.mul_ediv_cancel _ (by omega)]
theorem near_le {l d : Rg} {a b : Int} (hd : inD d) : (nearM l a b d).hi ≤ max l.hi b := by
  have h1 := hd.a; have h2 := hd.b; have h3 := hd.c; have h4 := hd.e
  have key : ∀ p q : Int, 0 ≤ q → 0 ≤ p ∧ p ≤ 1000000000 → upZ (q * p) 1000000000 ≤ q ∧ 0 ≤ q * p / 1000000000 := by
    intro p q hq hp
    have h5 : q * p ≤ q * 1000000000 := Int.mul_le_mul_of_nonneg_left hp.2 hq
    have h6 : 0 ≤ q * p := Int.mul_nonneg hq hp.1
    unfold upZ
    omega
  by_cases hb : l.hi ≥ b
  · have k := key d.hi (l.hi - b) (by omega) (by omega)
    by_cases ha : l.lo ≥ a
    · rw [← near_tt ha hb]; dsimp only; omega
    · rw [← near_ft ha hb]; dsimp only; omega
  · have k := key d.lo (b - l.hi) (by omega) (by omega)
    by_cases ha : l.lo ≥ a
    · rw [← near_tf ha hb]; dsimp only; omega
    · rw [← near_ff ha hb]; dsimp only; omega
theorem step_le {c : Cp} {z : Ld} {n : Nat} {s lo hi H : Int} (h1 : z.n.hi ≤ H) (h2 : z.h.hi ≤ 0) (h4 : 790 * (hi - 63) ≤ H) : (stepL n s lo hi ⟨210, 0⟩ c z).n.hi ≤ H ∧ (stepL n s lo hi ⟨210, 0⟩ c z).h.hi ≤ 0 := by
  have k1 := near_le (l := z.n) (a := (1000 - 210 - 0) * (lo - 63)) (b := (1000 - 210 - 0) * (hi - 63)) (decM_in s c.n n)
  have k2 := near_le (l := z.h) (a := 0 * (lo - 63)) (b := 0 * (hi - 63)) (decM_in s c.h n)
  unfold stepL
  dsimp only
  omega
theorem kept_0 {c : Cp} {z : Ld} {x : Lg} {H fa : Int} (hc : okCp c) (hs : 1 ≤ x.s) (hg : x.g = ⟨210, 0⟩) (hfa : 0 ≤ fa ∧ fa ≤ 1000) (h1 : z.n.hi ≤ H) (h2 : z.h.hi ≤ 0) (h4 : 790 * (max x.f x.t - 63) ≤ H) (h5 : 1000 * H ≤ limM c (min x.f x.t) fa) : keptT [c] [z] x fa 0 = 2 := by
  have hr : rmkN x (2 ^ 0) = 2 := by unfold rmkN; rw [if_neg (by omega)]
  have m0 := mk_0 (n := 1) hs; have m1 := mk_n (n := 1) hs (by decide)
  have hl : ∀ p, min x.f x.t ≤ p → 1000 * H ≤ limM c p fa := fun p hp => Int.le_trans h5 (lim_up hc hfa hp)
  have l0 : lowM x 1 0 = x.f := by show (mkM x 1 0).p.lo = _; rw [m0.1]
  have l1 : lowM x 1 1 = min x.f x.t := by show min (mkM x 1 0).p.lo (mkM x 1 1).p.lo = _; rw [m0.1, m1.1]
  have s1 : stM 0 [c] [z] x 1 1 = [stepL 8 ((mkM x 1 1).s - (mkM x 1 0).s) (min (mkM x 1 0).p.lo (mkM x 1 1).p.lo) (max (mkM x 1 0).p.hi (mkM x 1 1).p.hi) x.g c z] := rfl
  have hy : yesB fa 0 [c] [z] x 1 2 = true := by
    rw [yesB_iff]
    intro j hj
    rcases (show j = 0 ∨ j = 1 by omega) with rfl | rfl
    · rw [l0]
      refine ⟨?_, trivial⟩
      show 1000 * (max z.n.hi z.n.hi + max z.h.hi z.h.hi) ≤ _
      have := hl x.f (by omega)
      omega
    · rw [l1, s1, m0.1, m1.1, hg]
      refine ⟨?_, trivial⟩
      have k := step_le (c := c) (z := z) (n := 8) (s := (mkM x 1 1).s - (mkM x 1 0).s) (lo := min x.f x.t) (hi := max x.f x.t) h1 h2 h4
      show 1000 * (max z.n.hi _ + max z.h.hi _) ≤ _
      have := hl (min x.f x.t) (by omega)
      dsimp only at k ⊢
      omega
  unfold keptT
  rw [hr, show (2 ^ 0 : Nat) = 1 from rfl, hy]
  rfl
theorem dec_2 {ts : List Cp} {ls : List Ld} {x : Lg} {fa : Int} (h : keptT ts ls x fa 0 = 2) : decT ts ls x fa 1 = (2, 0) := by
  show decF ts ls x fa 1 2 = _
  rw [decF, show 1 - 1 = 0 from rfl, h]
  rfl
theorem dec_n {ts : List Cp} {ls : List Ld} {x : Lg} {fa : Int} (h : keptT ts ls x fa 0 ≠ 2) (h2 : keptT ts ls x fa 1 ≠ 2) : ¬ (decT ts ls x fa 1).1 = 2 := by
  show ¬ (decF ts ls x fa 1 2).1 = 2
  rw [decF, show 1 - 1 = 0 from rfl]
  split
  · exact h
  · rw [decF, show 1 - 0 = 1 from rfl]
    split
    · exact h2
    · show ¬ (1 : Int) = 2
      decide
theorem kept_not {ts : List Cp} {ls : List Ld} {x : Lg} {fa : Int} {f : Nat} (h : ¬ yesB fa f ts ls x (2 ^ f) (rmkN x (2 ^ f)) = true) : keptT ts ls x fa f ≠ 2 := by
  unfold keptT ansM
  rw [if_neg h]
  split <;> decide
/-! ### How long one may stay -/
structure onEx (z : Ld) : Prop where
  n : z.n.hi ≤ 2000000
  h : z.h.hi ≤ 0
theorem lim_a : limM oneA 1000 1000 = 2000000000 ∧ limM oneA 1500 1000 = 2750000000 ∧ limM oneA 2000 1000 = 3500000000 := by decide
theorem ex_stay {z : Ld} (H : onEx z) : (dcA (exA z 1000) (syA (exA z 1000) 0)).1 = 2 ∧ (dirA (exA z 1000)) = (2, 0) ∧ ∃ y, onEx y ∧ bhA (exA z 1000) (syA (exA z 1000) 0) = exA y 1000 := by
  have l := lim_a
  have k1 : keptT [oneA] [z] ⟨2000, 2000, 600, ⟨210, 0⟩⟩ 1000 0 = 2 := kept_0 (H := 2000000) (by decide) (by decide) rfl (by decide) H.n H.h (by decide) (by
    show 1000 * 2000000 ≤ limM oneA 2000 1000
    omega)
  have k2 : keptT [oneA] [z] ⟨2000, 1000, 120, ⟨210, 0⟩⟩ 1000 0 = 2 := kept_0 (H := 2000000) (by decide) (by decide) rfl (by decide) H.n H.h (by decide) (by
    show 1000 * 2000000 ≤ limM oneA 1000 1000
    omega)
  refine ⟨congrArg Prod.fst (dec_2 k1), ?_, ?_⟩
  · have e : (dcA (exA z 1000) (upA (exA z 1000) 0 (gasA (exA z 1000) 1000))).1 = 2 := congrArg Prod.fst (dec_2 k2)
    rw [dir_3 (x := exA z 1000) (show ¬ (1000 : Int) = 0 by decide) (show ¬ bsA [⟨⟨210, 0⟩, 30000⟩] 1000 1 < 0 by decide)]
    exact congrArg (fun q : Int => (q, (0 : Int))) e
  · have hs : ∀ k, k ≤ 2 → ∃ y, onEx y ∧ stM 1 [oneA] [z] ⟨2000, 2000, 600, ⟨210, 0⟩⟩ 2 k = [y] := by
      intro k
      induction k with
      | zero => exact fun _ => ⟨z, H, rfl⟩
      | succ k ih =>
        intro hk
        obtain ⟨y, hy, e⟩ := ih (by omega)
        have m1 := mk_st (x := ⟨2000, 2000, 600, ⟨210, 0⟩⟩) (n := ((2 : Nat) : Int)) (j := (k : Int)) (by decide) rfl
        have m2 := mk_st (x := ⟨2000, 2000, 600, ⟨210, 0⟩⟩) (n := ((2 : Nat) : Int)) (j := (k : Int) + 1) (by decide) rfl
        refine ⟨_, ?_, by unfold stM; rw [e, m1, m2]; rfl⟩
        have k9 := step_le (c := oneA) (z := y) (n := 8 + 2 * 1) (s := (mkM ⟨2000, 2000, 600, ⟨210, 0⟩⟩ ((2 : Nat) : Int) ((k : Int) + 1)).s - (mkM ⟨2000, 2000, 600, ⟨210, 0⟩⟩ ((2 : Nat) : Int) (k : Int)).s) (lo := min 2000 2000) (hi := max 2000 2000) hy.n hy.h (by decide)
        exact ⟨k9.1, k9.2⟩
    obtain ⟨y, hy, e⟩ := hs 2 (Nat.le_refl _)
    refine ⟨y, hy, ?_⟩
    have e2 : loadedM [oneA] [z] ⟨2000, 2000, 600, ⟨210, 0⟩⟩ 1 = [y] := by rw [loadedM_pos (n := 2) (by decide) rfl]; exact e
    show (⟨[oneA], loadedM [oneA] [z] ⟨2000, 2000, 600, ⟨210, 0⟩⟩ 1, 1000, 1000, [⟨⟨210, 0⟩, 30000⟩], ⟨500, 500, 600, 1000, 1000, 1000, 1⟩⟩ : Asc) = _
    rw [e2]
    rfl
theorem ns_run : ∀ (n : Nat) (z : Ld) (k : Int), onEx z → nsF 0 n (exA z 1000) k = k + n
  | 0, z, k, _ => by show k = k + ((0 : Nat) : Int); omega
  | n + 1, z, k, H => by
    obtain ⟨h1, _, y, hy, e⟩ := ex_stay H
    rw [ns_3 (by omega) (fun h => h h1) (by rw [e, (ex_stay hy).2.1]; decide), e, Nat.add_sub_cancel, ns_run n y (k + 1) hy]
    omega
def ldA (a b : Int) : Ld := ⟨⟨a, b⟩, ⟨0, 0⟩⟩
theorem ns_ex : nsA (exA (ldA 740230 740230) 1000) = (36000, 0) := by
  have H : onEx (ldA 740230 740230) := ⟨by decide, by decide⟩
  have h1 := (ex_stay H).2.1
  rw [nsA_3 (by rw [h1]) (by rw [h1]; decide)]
  rw [show gasA (exA (ldA 740230 740230) 1000) (exA (ldA 740230 740230) 1000).de = 0 by decide, ns_run 60 _ 0 H]
  decide
theorem dir_ex : dirA (exA (ldA 2000000 2000000) 1000) = (2, 0) := (ex_stay ⟨by decide, by decide⟩).2.1
/-! ### The schedule that is found -/
theorem dv30 : decM 30 600 10 = ⟨965413389, 966067112⟩ := by
  unfold decM
  rw [rts10, rv10]
  kernel_rfl
theorem l1a : stM 1 [oneA] [ldA 2400000 2400000] ⟨2000, 1500, 60, ⟨210, 0⟩⟩ 2 1 = [ldA 2363086 2370487] := by
  have e : stM 1 [oneA] [ldA 2400000 2400000] ⟨2000, 1500, 60, ⟨210, 0⟩⟩ 2 1 = [⟨nearM ⟨2400000, 2400000⟩ 1332730 1530230 (decM 30 600 10), nearM ⟨0, 0⟩ 0 0 (decM 30 600 10)⟩] := by kernel_rfl
  rw [e, dv30]
  rfl
theorem l1b : stM 1 [oneA] [ldA 2400000 2400000] ⟨2000, 1500, 60, ⟨210, 0⟩⟩ 2 2 = [ldA 2320618 2335273] := by
  have e : stM 1 [oneA] [ldA 2400000 2400000] ⟨2000, 1500, 60, ⟨210, 0⟩⟩ 2 2 = stepM 10 30 1500 1750 ⟨210, 0⟩ [oneA] (stM 1 [oneA] [ldA 2400000 2400000] ⟨2000, 1500, 60, ⟨210, 0⟩⟩ 2 1) := by kernel_rfl
  rw [e, l1a]
  have e2 : stepM 10 30 1500 1750 ⟨210, 0⟩ [oneA] [ldA 2363086 2370487] = [⟨nearM ⟨2363086, 2370487⟩ 1135230 1332730 (decM 30 600 10), nearM ⟨0, 0⟩ 0 0 (decM 30 600 10)⟩] := by kernel_rfl
  rw [e2, dv30]
  rfl
theorem l2a : stM 1 [oneA] [ldA 2320618 2335273] ⟨1500, 1500, 600, ⟨210, 0⟩⟩ 2 1 = [ldA 1973425 1983789] := by
  have e : stM 1 [oneA] [ldA 2320618 2335273] ⟨1500, 1500, 600, ⟨210, 0⟩⟩ 2 1 = [⟨nearM ⟨2320618, 2335273⟩ 1135230 1135230 (decM 300 600 10), nearM ⟨0, 0⟩ 0 0 (decM 300 600 10)⟩] := by kernel_rfl
  rw [e, dv600]
  rfl
theorem l2b : stM 1 [oneA] [ldA 2320618 2335273] ⟨1500, 1500, 600, ⟨210, 0⟩⟩ 2 2 = [ldA 1727923 1735252] := by
  have e : stM 1 [oneA] [ldA 2320618 2335273] ⟨1500, 1500, 600, ⟨210, 0⟩⟩ 2 2 = stepM 10 300 1500 1500 ⟨210, 0⟩ [oneA] (stM 1 [oneA] [ldA 2320618 2335273] ⟨1500, 1500, 600, ⟨210, 0⟩⟩ 2 1) := by kernel_rfl
  rw [e, l2a]
  have e2 : stepM 10 300 1500 1500 ⟨210, 0⟩ [oneA] [ldA 1973425 1983789] = [⟨nearM ⟨1973425, 1983789⟩ 1135230 1135230 (decM 300 600 10), nearM ⟨0, 0⟩ 0 0 (decM 300 600 10)⟩] := by kernel_rfl
  rw [e2, dv600]
  rfl
theorem l3a : stM 1 [oneA] [ldA 2320618 2335273] ⟨1500, 1000, 60, ⟨210, 0⟩⟩ 2 1 = [ldA 2272788 2294553] := by
  have e : stM 1 [oneA] [ldA 2320618 2335273] ⟨1500, 1000, 60, ⟨210, 0⟩⟩ 2 1 = [⟨nearM ⟨2320618, 2335273⟩ 937730 1135230 (decM 30 600 10), nearM ⟨0, 0⟩ 0 0 (decM 30 600 10)⟩] := by kernel_rfl
  rw [e, dv30]
  rfl
theorem not_yes {z : Ld} {f n k : Nat} {x : Lg} (hn : n = 2 ^ f) (hk : rmkN x n = k + 1) (hl : lowM x n k = 1000) {a b : Ld} (hp : prevM f [oneA] [z] x n k = [a]) (hst : stM f [oneA] [z] x n k = [b]) (ha : 2000000 < a.n.hi) (hb : 0 ≤ a.h.hi) : keptT [oneA] [z] x 1000 f ≠ 2 := by
  refine kept_not ?_
  rw [← hn, hk, yesB_iff]
  intro h
  have := h k (by omega)
  rw [hl, hp, hst] at this
  have h9 : 1000 * (max a.n.hi b.n.hi + max a.h.hi b.h.hi) ≤ limM oneA 1000 1000 := this.1
  have := lim_a
  omega
theorem st_one {f : Nat} {z : Ld} {x : Lg} {n : Nat} : ∀ k, ∃ b, stM f [oneA] [z] x n k = [b]
  | 0 => ⟨z, rfl⟩
  | k + 1 => by
    obtain ⟨b, e⟩ := st_one (f := f) (z := z) (x := x) (n := n) k
    exact ⟨_, by unfold stM; rw [e]; rfl⟩
theorem no_up : ¬ (dcA (exA (ldA 2320618 2335273) 500) (gUp (exA (ldA 2320618 2335273) 500))).1 = 2 := by
  have k0 : keptT [oneA] [ldA 2320618 2335273] ⟨1500, 1000, 60, ⟨210, 0⟩⟩ 1000 0 ≠ 2 := by
    obtain ⟨b, e⟩ := st_one (f := 0) (z := ldA 2320618 2335273) (x := ⟨1500, 1000, 60, ⟨210, 0⟩⟩) (n := 1) 1
    exact not_yes (n := 1) (k := 1) rfl rfl (by decide) (a := ldA 2320618 2335273) rfl e (by decide) (by decide)
  have k1 : keptT [oneA] [ldA 2320618 2335273] ⟨1500, 1000, 60, ⟨210, 0⟩⟩ 1000 1 ≠ 2 := by
    obtain ⟨b, e⟩ := st_one (f := 1) (z := ldA 2320618 2335273) (x := ⟨1500, 1000, 60, ⟨210, 0⟩⟩) (n := 2) 2
    exact not_yes (n := 2) (k := 2) rfl rfl (by decide) (a := ldA 2272788 2294553) l3a e (by decide) (by decide)
  exact dec_n k0 k1
theorem gen_ex : genA (exA (ldA 2400000 2400000) 1000) = (([⟨60, 500, 0⟩, ⟨600, 500, 0⟩, ⟨60, 0, 0⟩], [0, 0, 0]), 0) := by
  have l := lim_a
  have a1 : dcA (exA (ldA 2400000 2400000) 1000) (gUp (exA (ldA 2400000 2400000) 1000)) = (2, 0) := dec_2 (kept_0 (H := 2400000) (by decide) (by decide) rfl (by decide) (by decide) (by decide) (by decide) (by
    show 1000 * 2400000 ≤ limM oneA 1500 1000
    omega))
  have b1 : bhA (exA (ldA 2400000 2400000) 1000) (gUp (exA (ldA 2400000 2400000) 1000)) = exA (ldA 2320618 2335273) 500 := by
    have e2 : loadedM [oneA] [ldA 2400000 2400000] ⟨2000, 1500, 60, ⟨210, 0⟩⟩ 1 = [ldA 2320618 2335273] := by rw [loadedM_pos (n := 2) (by decide) rfl]; exact l1b
    show (⟨[oneA], loadedM [oneA] [ldA 2400000 2400000] ⟨2000, 1500, 60, ⟨210, 0⟩⟩ 1, 1000, 500, [⟨⟨210, 0⟩, 30000⟩], ⟨500, 500, 600, 1000, 1000, 1000, 1⟩⟩ : Asc) = _
    rw [e2]
    rfl
  have a2 : dcA (exA (ldA 2320618 2335273) 500) (gSy (exA (ldA 2320618 2335273) 500)) = (2, 0) := dec_2 (kept_0 (H := 2400000) (by decide) (by decide) rfl (by decide) (by decide) (by decide) (by decide) (by
    show 1000 * 2400000 ≤ limM oneA 1500 1000
    omega))
  have b2 : bhA (exA (ldA 2320618 2335273) 500) (gSy (exA (ldA 2320618 2335273) 500)) = exA (ldA 1727923 1735252) 500 := by
    have e2 : loadedM [oneA] [ldA 2320618 2335273] ⟨1500, 1500, 600, ⟨210, 0⟩⟩ 1 = [ldA 1727923 1735252] := by rw [loadedM_pos (n := 2) (by decide) rfl]; exact l2b
    show (⟨[oneA], loadedM [oneA] [ldA 2320618 2335273] ⟨1500, 1500, 600, ⟨210, 0⟩⟩ 1, 1000, 500, [⟨⟨210, 0⟩, 30000⟩], ⟨500, 500, 600, 1000, 1000, 1000, 1⟩⟩ : Asc) = _
    rw [e2]
    rfl
  have a3 : dcA (exA (ldA 1727923 1735252) 500) (gUp (exA (ldA 1727923 1735252) 500)) = (2, 0) := dec_2 (kept_0 (H := 2000000) (by decide) (by decide) rfl (by decide) (by decide) (by decide) (by decide) (by
    show 1000 * 2000000 ≤ limM oneA 1000 1000
    omega))
  unfold genA
  rw [gen_up (by decide) (by decide) (by decide) (by rw [a1]), a1, b1, gen_sy (by decide) (by decide) (by decide) no_up (by decide) (by rw [a2]), a2, b2, gen_up (by decide) (by decide) (by decide) (by rw [a3]), a3, gen_0 rfl]
  rfl
end Go.Proofs.YtacndicgpkeobaaGreatDoor
