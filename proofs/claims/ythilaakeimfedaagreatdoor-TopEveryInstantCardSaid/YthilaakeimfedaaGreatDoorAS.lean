/-
  Walks: each function named returns what its model says. Conditions: those in front of each theorem.
-/
import Derived.Test.YthilaakeimfedaaGreatDoorArgB
import Derived.Test.YthilaakeimfedaaGreatDoorArg
import Derived.Test.YthilaakeimfedaaGreatDoorAP
namespace Go.Proofs.YthilaakeimfedaaGreatDoor
open Go.RowKit
abbrev oneA : Cp := ⟨600, 600, 500, 1500⟩
def exA (z : Ld) (d : Int) : Asc := ⟨[oneA], [z], 1000, d, [⟨⟨210, 0⟩, 30000⟩], ⟨500, 500, 600, 1000, 1000, 1000, 1⟩⟩
/-! ### Surely kept with the least fineness -/
theorem ediv_up {a s : Int} (hs : 1 ≤ s) : upZ (a * s) s = a := by
  unfold upZ
  rw [show a * s + s - 1 = (s - 1) + a * s by omega, Int.add_mul_ediv_right _ _ (by omega), Int.ediv_eq_zero_of_lt (by omega) (by omega)]
  omega
theorem mk_0 {x : Lg} {n : Int} (hs : 1 ≤ x.s) : (mkM x n 0).p = ⟨x.f, x.f⟩ ∧ (mkM x n 0).s = 0 := by
  have e : (0 : Int) * x.s / n = 0 := by rw [Int.zero_mul, Int.zero_ediv]
  have e2 : sumM x 0 = x.f * x.s := by unfold sumM; rw [Int.sub_zero, Int.mul_zero, Int.add_zero]
  unfold mkM
  dsimp only
  rw [e, if_pos (by omega), e2, ediv_up hs, Int.mul_ediv_cancel _ (by omega)]
  exact ⟨rfl, rfl⟩
theorem mk_n {x : Lg} {n : Int} (hs : 1 ≤ x.s) (hn : n ≠ 0) : (mkM x n n).p = ⟨x.t, x.t⟩ ∧ (mkM x n n).s = x.s := by
  have e : n * x.s / n = x.s := Int.mul_ediv_cancel_left _ hn
  have e2 : sumM x x.s = x.t * x.s := by unfold sumM; rw [Int.sub_self, Int.mul_zero, Int.zero_add]
  unfold mkM
  dsimp only
  rw [e, if_pos (by omega), e2, ediv_up hs, Int.mul_ediv_cancel _ (by omega)]
  exact ⟨rfl, rfl⟩
theorem near_le {l d : Rg} {a b : Int} (hd : inD d) : (nearM l a b d).hi ≤ max l.hi b := by
  have h1 := hd.a; have h2 := hd.b; have h3 := hd.c; have h4 := hd.e
  have key : ∀ p q : Int, 0 ≤ q → 0 ≤ p ∧ p ≤ 1000000000 → upZ (q * p) 1000000000 ≤ q ∧ 0 ≤ q * p / 1000000000 := by
    intro p q hq hp
    have h5 : q * p ≤ q * 1000000000 := Int.mul_le_mul_of_nonneg_left hp.2 hq
    have h6 : 0 ≤ q * p := Int.mul_nonneg hq hp.1
    unfold upZ
    omega
  by_cases hb : l.hi ≥ b
  · have k := key d.hi (l.hi - b) (by omega) (by omega)
    by_cases ha : l.lo ≥ a
    · rw [← near_tt ha hb]; dsimp only; omega
    · rw [← near_ft ha hb]; dsimp only; omega
  · have k := key d.lo (b - l.hi) (by omega) (by omega)
    by_cases ha : l.lo ≥ a
    · rw [← near_tf ha hb]; dsimp only; omega
    · rw [← near_ff ha hb]; dsimp only; omega
theorem step_le {c : Cp} {z : Ld} {n : Nat} {s lo hi H : Int} (h1 : z.n.hi ≤ H) (h2 : z.h.hi ≤ 0) (h4 : 790 * (hi - 63) ≤ H) : (stepL n s lo hi ⟨210, 0⟩ c z).n.hi ≤ H ∧ (stepL n s lo hi ⟨210, 0⟩ c z).h.hi ≤ 0 := by
  have k1 := near_le (l := z.n) (a := (1000 - 210 - 0) * (lo - 63)) (b := (1000 - 210 - 0) * (hi - 63)) (decM_in s c.n n)
  have k2 := near_le (l := z.h) (a := 0 * (lo - 63)) (b := 0 * (hi - 63)) (decM_in s c.h n)
  unfold stepL
  dsimp only
  omega
theorem kept_0 {c : Cp} {z : Ld} {x : Lg} {H fa : Int} (hc : okCp c) (hs : 1 ≤ x.s) (hg : x.g = ⟨210, 0⟩) (hfa : 0 ≤ fa ∧ fa ≤ 1000) (h1 : z.n.hi ≤ H) (h2 : z.h.hi ≤ 0) (h4 : 790 * (max x.f x.t - 63) ≤ H) (h5 : 1000 * H ≤ limM c (min x.f x.t) fa) : keptT [c] [z] x fa 0 = 2 := by
  have hr : rmkN x (2 ^ 0) = 2 := by unfold rmkN; rw [if_neg (by omega)]
  have m0 := mk_0 (n := 1) hs; have m1 := mk_n (n := 1) hs (by decide)
  have hl : ∀ p, min x.f x.t ≤ p → 1000 * H ≤ limM c p fa := fun p hp => Int.le_trans h5 (lim_up hc hfa hp)
  have l0 : lowM x 1 0 = x.f := by show (mkM x 1 0).p.lo = _; rw [m0.1]
  have l1 : lowM x 1 1 = min x.f x.t := by show min (mkM x 1 0).p.lo (mkM x 1 1).p.lo = _; rw [m0.1, m1.1]
  have s1 : stM 0 [c] [z] x 1 1 = [stepL 8 ((mkM x 1 1).s - (mkM x 1 0).s) (min (mkM x 1 0).p.lo (mkM x 1 1).p.lo) (max (mkM x 1 0).p.hi (mkM x 1 1).p.hi) x.g c z] := rfl
  have hy : yesB fa 0 [c] [z] x 1 2 = true := by
    rw [yesB_iff]
    intro j hj
    rcases (show j = 0 ∨ j = 1 by omega) with rfl | rfl
    · rw [l0]
      refine ⟨?_, trivial⟩
      show 1000 * (max z.n.hi z.n.hi + max z.h.hi z.h.hi) ≤ _
      have := hl x.f (by omega)
      omega
    · rw [l1, s1, m0.1, m1.1, hg]
      refine ⟨?_, trivial⟩
      have k := step_le (c := c) (z := z) (n := 8) (s := (mkM x 1 1).s - (mkM x 1 0).s) (lo := min x.f x.t) (hi := max x.f x.t) h1 h2 h4
      show 1000 * (max z.n.hi _ + max z.h.hi _) ≤ _
      have := hl (min x.f x.t) (by omega)
      dsimp only at k ⊢
      omega
  unfold keptT
  rw [hr, show (2 ^ 0 : Nat) = 1 from rfl, hy]
  rfl
theorem dec_2 {ts : List Cp} {ls : List Ld} {x : Lg} {fa : Int} (h : keptT ts ls x fa 0 = 2) : decT ts ls x fa 1 = (2, 0) := by
  show decF ts ls x fa 1 2 = _
  rw [decF, show 1 - 1 = 0 from rfl, h]
  rfl
theorem dec_n {ts : List Cp} {ls : List Ld} {x : Lg} {fa : Int} (h : keptT ts ls x fa 0 ≠ 2) (h2 : keptT ts ls x fa 1 ≠ 2) : ¬ (decT ts ls x fa 1).1 = 2 := by
  show ¬ (decF ts ls x fa 1 2).1 = 2
  rw [decF, show 1 - 1 = 0 from rfl]
  split
  · exact h
  · rw [decF, show 1 - 0 = 1 from rfl]
    split
    · exact h2
    · show ¬ (1 : Int) = 2
      decide
theorem kept_not {ts : List Cp} {ls : List Ld} {x : Lg} {fa : Int} {f : Nat} (h : ¬ yesB fa f ts ls x (2 ^ f) (rmkN x (2 ^ f)) = true) : keptT ts ls x fa f ≠ 2 := by
  unfold keptT ansM
  rw [if_neg h]
  split <;> decide
/-! ### How long one may stay -/
structure onEx (z : Ld) : Prop where
  n : z.n.hi ≤ 2000000
  h : z.h.hi ≤ 0
theorem lim_a : limM oneA 1000 1000 = 2000000000 ∧ limM oneA 1500 1000 = 2750000000 ∧ limM oneA 2000 1000 = 3500000000 := by decide
def ldA (a b : Int) : Ld := ⟨⟨a, b⟩, ⟨0, 0⟩⟩
/-! ### The schedule that is found -/
theorem dv30 : decM 30 600 10 = ⟨965413389, 966067112⟩ := by
  unfold decM
  rw [rts10, rv10]
  kernel_rfl
theorem l1a : stM 1 [oneA] [ldA 2400000 2400000] ⟨2000, 1500, 60, ⟨210, 0⟩⟩ 2 1 = [ldA 2363086 2370487] := by
  have e : stM 1 [oneA] [ldA 2400000 2400000] ⟨2000, 1500, 60, ⟨210, 0⟩⟩ 2 1 = [⟨nearM ⟨2400000, 2400000⟩ 1332730 1530230 (decM 30 600 10), nearM ⟨0, 0⟩ 0 0 (decM 30 600 10)⟩] := by kernel_rfl
  rw [e, dv30]
  rfl
theorem l1b : stM 1 [oneA] [ldA 2400000 2400000] ⟨2000, 1500, 60, ⟨210, 0⟩⟩ 2 2 = [ldA 2320618 2335273] := by
  have e : stM 1 [oneA] [ldA 2400000 2400000] ⟨2000, 1500, 60, ⟨210, 0⟩⟩ 2 2 = stepM 10 30 1500 1750 ⟨210, 0⟩ [oneA] (stM 1 [oneA] [ldA 2400000 2400000] ⟨2000, 1500, 60, ⟨210, 0⟩⟩ 2 1) := by kernel_rfl
  rw [e, l1a]
  have e2 : stepM 10 30 1500 1750 ⟨210, 0⟩ [oneA] [ldA 2363086 2370487] = [⟨nearM ⟨2363086, 2370487⟩ 1135230 1332730 (decM 30 600 10), nearM ⟨0, 0⟩ 0 0 (decM 30 600 10)⟩] := by kernel_rfl
  rw [e2, dv30]
  rfl
theorem l2a : stM 1 [oneA] [ldA 2320618 2335273] ⟨1500, 1500, 600, ⟨210, 0⟩⟩ 2 1 = [ldA 1973425 1983789] := by
  have e : stM 1 [oneA] [ldA 2320618 2335273] ⟨1500, 1500, 600, ⟨210, 0⟩⟩ 2 1 = [⟨nearM ⟨2320618, 2335273⟩ 1135230 1135230 (decM 300 600 10), nearM ⟨0, 0⟩ 0 0 (decM 300 600 10)⟩] := by kernel_rfl
  rw [e, dv600]
  rfl
theorem l2b : stM 1 [oneA] [ldA 2320618 2335273] ⟨1500, 1500, 600, ⟨210, 0⟩⟩ 2 2 = [ldA 1727923 1735252] := by
  have e : stM 1 [oneA] [ldA 2320618 2335273] ⟨1500, 1500, 600, ⟨210, 0⟩⟩ 2 2 = stepM 10 300 1500 1500 ⟨210, 0⟩ [oneA] (stM 1 [oneA] [ldA 2320618 2335273] ⟨1500, 1500, 600, ⟨210, 0⟩⟩ 2 1) := by kernel_rfl
  rw [e, l2a]
  have e2 : stepM 10 300 1500 1500 ⟨210, 0⟩ [oneA] [ldA 1973425 1983789] = [⟨nearM ⟨1973425, 1983789⟩ 1135230 1135230 (decM 300 600 10), nearM ⟨0, 0⟩ 0 0 (decM 300 600 10)⟩] := by kernel_rfl
  rw [e2, dv600]
  rfl
theorem l3a : stM 1 [oneA] [ldA 2320618 2335273] ⟨1500, 1000, 60, ⟨210, 0⟩⟩ 2 1 = [ldA 2272788 2294553] := by
  have e : stM 1 [oneA] [ldA 2320618 2335273] ⟨1500, 1000, 60, ⟨210, 0⟩⟩ 2 1 = [⟨nearM ⟨2320618, 2335273⟩ 937730 1135230 (decM 30 600 10), nearM ⟨0, 0⟩ 0 0 (decM 30 600 10)⟩] := by kernel_rfl
  rw [e, dv30]
  rfl
theorem not_yes {z : Ld} {f n k : Nat} {x : Lg} (hn : n = 2 ^ f) (hk : rmkN x n = k + 1) (hl : lowM x n k = 1000) {a b : Ld} (hp : prevM f [oneA] [z] x n k = [a]) (hst : stM f [oneA] [z] x n k = [b]) (ha : 2000000 < a.n.hi) (hb : 0 ≤ a.h.hi) : keptT [oneA] [z] x 1000 f ≠ 2 := by
  refine kept_not ?_
  rw [← hn, hk, yesB_iff]
  intro h
  have := h k (by omega)
  rw [hl, hp, hst] at this
  have h9 : 1000 * (max a.n.hi b.n.hi + max a.h.hi b.h.hi) ≤ limM oneA 1000 1000 := this.1
  have := lim_a
  omega
theorem st_one {f : Nat} {z : Ld} {x : Lg} {n : Nat} : ∀ k, ∃ b, stM f [oneA] [z] x n k = [b]
  | 0 => ⟨z, rfl⟩
  | k + 1 => by
    obtain ⟨b, e⟩ := st_one (f := f) (z := z) (x := x) (n := n) k
    exact ⟨_, by unfold stM; rw [e]; rfl⟩
theorem no_up : ¬ (dcA (exA (ldA 2320618 2335273) 500) (gUp (exA (ldA 2320618 2335273) 500))).1 = 2 := by
  have k0 : keptT [oneA] [ldA 2320618 2335273] ⟨1500, 1000, 60, ⟨210, 0⟩⟩ 1000 0 ≠ 2 := by
    obtain ⟨b, e⟩ := st_one (f := 0) (z := ldA 2320618 2335273) (x := ⟨1500, 1000, 60, ⟨210, 0⟩⟩) (n := 1) 1
    exact not_yes (n := 1) (k := 1) rfl rfl (by decide) (a := ldA 2320618 2335273) rfl e (by decide) (by decide)
  have k1 : keptT [oneA] [ldA 2320618 2335273] ⟨1500, 1000, 60, ⟨210, 0⟩⟩ 1000 1 ≠ 2 := by
    obtain ⟨b, e⟩ := st_one (f := 1) (z := ldA 2320618 2335273) (x := ⟨1500, 1000, 60, ⟨210, 0⟩⟩) (n := 2) 2
    exact not_yes (n := 2) (k := 2) rfl rfl (by decide) (a := ldA 2272788 2294553) l3a e (by decide) (by decide)
  exact dec_n k0 k1
theorem gen_ex : genA (exA (ldA 2400000 2400000) 1000) = (([⟨60, 500, 0⟩, ⟨600, 500, 0⟩, ⟨60, 0, 0⟩], [0, 0, 0]), 0) := by
  have l := lim_a
  have a1 : dcA (exA (ldA 2400000 2400000) 1000) (gUp (exA (ldA 2400000 2400000) 1000)) = (2, 0) := dec_2 (kept_0 (H := 2400000) (by decide) (by decide) rfl (by decide) (by decide) (by decide) (by decide) (by
    show 1000 * 2400000 ≤ limM oneA 1500 1000
    omega))
  have b1 : bhA (exA (ldA 2400000 2400000) 1000) (gUp (exA (ldA 2400000 2400000) 1000)) = exA (ldA 2320618 2335273) 500 := by
    have e2 : loadedM [oneA] [ldA 2400000 2400000] ⟨2000, 1500, 60, ⟨210, 0⟩⟩ 1 = [ldA 2320618 2335273] := by rw [loadedM_pos (n := 2) (by decide) rfl]; exact l1b
    show (⟨[oneA], loadedM [oneA] [ldA 2400000 2400000] ⟨2000, 1500, 60, ⟨210, 0⟩⟩ 1, 1000, 500, [⟨⟨210, 0⟩, 30000⟩], ⟨500, 500, 600, 1000, 1000, 1000, 1⟩⟩ : Asc) = _
    rw [e2]
    rfl
  have a2 : dcA (exA (ldA 2320618 2335273) 500) (gSy (exA (ldA 2320618 2335273) 500)) = (2, 0) := dec_2 (kept_0 (H := 2400000) (by decide) (by decide) rfl (by decide) (by decide) (by decide) (by decide) (by
    show 1000 * 2400000 ≤ limM oneA 1500 1000
    omega))
  have b2 : bhA (exA (ldA 2320618 2335273) 500) (gSy (exA (ldA 2320618 2335273) 500)) = exA (ldA 1727923 1735252) 500 := by
    have e2 : loadedM [oneA] [ldA 2320618 2335273] ⟨1500, 1500, 600, ⟨210, 0⟩⟩ 1 = [ldA 1727923 1735252] := by rw [loadedM_pos (n := 2) (by decide) rfl]; exact l2b
    show (⟨[oneA], loadedM [oneA] [ldA 2320618 2335273] ⟨1500, 1500, 600, ⟨210, 0⟩⟩ 1, 1000, 500, [⟨⟨210, 0⟩, 30000⟩], ⟨500, 500, 600, 1000, 1000, 1000, 1⟩⟩ : Asc) = _
    rw [e2]
    rfl
  have a3 : dcA (exA (ldA 1727923 1735252) 500) (gUp (exA (ldA 1727923 1735252) 500)) = (2, 0) := dec_2 (kept_0 (H := 2000000) (by decide) (by decide) rfl (by decide) (by decide) (by decide) (by decide) (by
    show 1000 * 2000000 ≤ limM oneA 1000 1000
    omega))
  unfold genA
  rw [gen_up (by decide) (by decide) (by decide) (by rw [a1]), a1, b1, gen_sy (by decide) (by decide) (by decide) no_up (by decide) (by rw [a2]), a2, b2, gen_up (by decide) (by decide) (by decide) (by rw [a3]), a3, gen_0 rfl]
  rfl
end Go.Proofs.YthilaakeimfedaaGreatDoor
namespace Go.Proofs.YthilaakeimfedaaGreatDoor
set_option maxRecDepth 100000
set_option maxHeartbeats 4000000
open Go.RowKit

set_option maxRecDepth 100000 in
set_option maxHeartbeats 4000000 in
theorem ct_ascent_Print (a b : Value) (L : List Dl) (F : List Int) (hla : L.length ≤ 1000000) (hlb : F.length ≤ 1000000) : CtQ KQ Tryz.prog 78 [.agg #[a, b]] [(a, 3, L.map cDl), (b, 1, F.map cI)] (isV (.tuple #[.string (bs (prE L F)), .int .i64 (ckSch L F)])) := by
 refine CtQ.of (N := 47) Tryz.func78 rfl rfl rfl fun w hQ => ?_
 refine C_weak (E' := [(0, .agg #[a, b])]) (rs' := [rd a 3 (L.map cDl), rd b 1 (F.map cI)]) ⟨rfl, trivial⟩ (fun _ h => h) ?_
 have hl4 := len_map cDl L
 have hl5 := len_map cI F
 refine C_seq ?_
 refine C_region ?_
 refine L_box rfl rfl rfl fun g1 => ?_
 refine Jq (q_assign rfl) ?_
 refine Jq (q_assign rfl) ?_
 refine L_then ?_
 refine C_seq ?_
 refine C_seq ?_
 refine C_region ?_
 refine Jq (q_loadA tb rfl rfl bxo rfl rfl) ?_
 refine L_call tb rfl rfl (ct_ascent_checkAlone _ _ L F (by omega) (by omega)) (ps_cons gvo (ps_cons gvo no_ps)) rfl ?_
 refine Jq (q_assign rfl) ?_
 refine L_then ?_
 refine C_seq ?_
 refine C_region ?_
 refine Jq (q_move rfl) ?_
 refine Jq (q_neq rfl rfl) ?_
 refine L_then ?_
 refine C_dec rfl (fun h1 => ?_) (fun h1 => ?_)
 refine C_seq ?_
 refine C_region ?_
 refine Jq (q_move rfl) ?_
 refine Jq (q_assign rfl) ?_
 refine Jq (q_assign rfl) ?_
 refine L_then ?_
 refine C_ret ?_
 rw [prE_1 h1]
 exact ret_of (res2 rfl rfl rfl) sub_nil (by intro r hr; cases hr) ⟨rfl, rfl⟩
 have hz := Decidable.not_not.1 h1
 have hS := ckSch_ok hz
 have hSn := hS.n; have hSl := hS.l
 refine C_skip_then ?_
 refine C_seq ?_
 refine C_region ?_
 refine L_alloc tb rfl rfl fun g5 => ?_
 refine L_then ?_
 refine C_seq ?_
 refine C_seq ?_
 refine C_region ?_
 refine Jq (q_field tb rfl rfl rfl) ?_
 refine Jq (q_load tb rfl rfl bxo rfl) ?_
 refine Jq (q_len tb rfl rfl gvo) ?_
 refine Jq (q_move rfl) ?_
 refine L_then ?_
 refine C_block ?_
 refine C_nil 5 1 ?_
 refine C_loop (ι := Nat × Value × Value) (fun q => ([(1, .pointer (some ⟨g1, 0, none⟩)), (5, .pointer (some ⟨g5, 0, none⟩)), (16, a), (17, .int .i64 (L.map cDl).length), (18, .int .i64 (q.1 : Int))], [box g5 211 [q.2.1, q.2.2], sl q.2.2 5 1 ((prK L F q.1).map cU), box g1 74 [a, b], rd a 3 (L.map cDl), rd b 1 (F.map cI)])) (fun q => q.1 ≤ L.length ∧ (q.2.1 = .pointer none ∨ q.2.1 = .pointer (some ⟨g5, 0, none⟩))) (fun q => L.length - q.1) (0, .pointer none, .slice none 0 0) ⟨Nat.zero_le _, .inl rfl⟩ (fun a w hs => hs.weak ⟨rfl, rfl, rfl, rfl, rfl, trivial⟩ (fun h => h.pk (by repeat (first | with_reducible exact pk_nil | refine pk_box rfl ?_ | refine pk_rd rfl ?_ | refine pk_sl rfl ?_ | with_reducible refine pk_app ?_ | with_reducible refine pk_app0 ?_ | with_reducible refine pk_app0L ?_ | with_reducible exact pk_tl | refine pk_var ?_)))) ?_
 rintro ⟨k, p9, v9⟩ ⟨hk, hp⟩
 dsimp only at hk hp ⊢
 have hpk := prK_len hS k hk
 refine C_seq ?_
 refine C_region ?_
 refine Jq (q_lss rfl rfl) ?_
 refine L_then ?_
 refine C_seq ?_
 refine C_dec rfl (fun h2 => ?_) (fun h2 => ?_)
 obtain ⟨y, f, he, hf9, han⟩ := sch_at hS (k := k) (by omega); have hel := map_get cDl he; have hef := map_get cI hf9
 refine C_skip_then ?_
 refine C_seq ?_
 refine C_block ?_
 refine C_seq ?_
 refine C_region ?_
 refine Jq (q_move rfl) ?_
 refine Jq (by first | exact q_index tb rfl rfl rfl rfl gvo (by omega) (by first | omega | (simp; done) | (simp; omega)) | exact q_indexP tb rfl rfl rfl rfl (by omega) (by omega)) ?_
 refine Jq (q_loadEA tb rfl rfl gvo (i := k) (o := 0) (by omega) hel rfl rfl) ?_
 refine L_alloc tb rfl rfl fun g7 => ?_
 refine Jq (q_assign rfl) ?_
 refine L_st tb rfl rfl ?_
 refine L_then ?_
 refine C_seq ?_
 refine C_region ?_
 refine L_res (rs' := [box g5 211 [p9, v9], sl v9 5 1 ((prK L F k).map cU), box g7 51 (cDl y), box g1 74 [a, b], rd a 3 (L.map cDl), rd b 1 (F.map cI)]) (fun _ h_ => h_.pk (by repeat (first | with_reducible exact pk_nil | refine pk_box rfl ?_ | refine pk_rd rfl ?_ | refine pk_sl rfl ?_ | with_reducible refine pk_app ?_ | with_reducible refine pk_app0 ?_ | with_reducible refine pk_app0L ?_ | with_reducible exact pk_tl | refine pk_var ?_))) ?_
 refine L_callI tb (post := fun _ rs9 => ∃ A n c, rs9 = box g5 211 [.pointer (some ⟨g5, 0, none⟩), .slice A n c] :: sl (.slice A n c) 5 1 ((prK L F k ++ [108, 101, 103]).map cU) :: [box g7 51 (cDl y), box g1 74 [a, b], rd a 3 (L.map cDl), rd b 1 (F.map cI)]) rfl rfl rfl (ct_WriteString _ _ _ g5 p9 v9 (prK L F k) hp [108, 101, 103] (by rw [show ([108, 101, 103] : List UInt8).length = 3 from rfl]; omega)) (fun y9 rs9 hy9 => ?_)
 obtain ⟨A23, n23, c23, rfl⟩ := hy9
 refine L_then ?_
 refine C_seq ?_
 refine C_seq ?_
 refine C_draw (n := 13) [(0, false), (1, false), (2, false), (3, false), (4, false), (5, false), (6, false), (7, false), (8, false), (9, false), (10, false), (11, false), (12, false)] mixed (by kernel_rfl) ?_
 refine Yq rfl (q_field tb rfl rfl rfl) ?_
 refine Yq rfl (q_load tb rfl rfl bxo rfl) ?_
 refine Yq rfl (q_field tb rfl rfl rfl) ?_
 refine Yq rfl (q_load tb rfl rfl bxo rfl) ?_
 refine Yq rfl (q_field tb rfl rfl rfl) ?_
 refine Yq rfl (q_load tb rfl rfl bxo rfl) ?_
 refine Yq rfl (q_field tb rfl rfl rfl) ?_
 refine Yq rfl (q_load tb rfl rfl bxo rfl) ?_
 refine Yq rfl (q_move rfl) ?_
 refine Yq rfl (by first | exact q_index tb rfl rfl rfl rfl gvo (by omega) (by first | omega | (simp; done) | (simp; omega)) | exact q_indexP tb rfl rfl rfl rfl (by omega) (by omega)) ?_
 refine Yq rfl (q_loadE tb rfl rfl gvo (i := k) (o := 0) (by omega) hef rfl) ?_
 refine Yq rfl (by first | exact q_build tb rfl rfl rfl rfl | exact q_buildArr tb rfl rfl rfl rfl rfl) ?_
 refine Yq rfl (q_move rfl) ?_
 refine W_nil ?_
 refine L_then ?_
 refine C_block ?_
 refine C_loop (ι := Nat × Value) (fun q => ([(1, .pointer (some ⟨g1, 0, none⟩)), (5, .pointer (some ⟨g5, 0, none⟩)), (16, a), (17, .int .i64 (L.map cDl).length), (18, .int .i64 (k : Int)), (35, .agg (cNum y f).toArray), (36, .int .i64 (q.1 : Int))], [box g5 211 [.pointer (some ⟨g5, 0, none⟩), q.2], sl q.2 5 1 ((prK L F k ++ ptJ y f q.1).map cU), box g1 74 [a, b], rd a 3 (L.map cDl), rd b 1 (F.map cI)])) (fun q => q.1 ≤ 4) (fun q => 4 - q.1) (0, .slice A23 n23 c23) (Nat.zero_le _) (fun a w hs => hs.weak ⟨rfl, rfl, rfl, rfl, rfl, rfl, rfl, trivial⟩ (fun h => h.pk (by repeat (first | with_reducible exact pk_nil | refine pk_box rfl ?_ | refine pk_rd rfl ?_ | refine pk_sl rfl ?_ | with_reducible refine pk_app ?_ | with_reducible refine pk_app0 ?_ | with_reducible refine pk_app0L ?_ | with_reducible exact pk_tl | refine pk_var ?_)))) ?_
 rintro ⟨j, u9⟩ hj
 dsimp only at hj ⊢
 have hpj := ptJ_len han j; have hnl := num_len han j
 refine C_seq ?_
 refine C_region ?_
 refine Jq (q_lss rfl rfl) ?_
 refine L_then ?_
 refine C_seq ?_
 refine C_dec rfl (fun h3 => ?_) (fun h3 => ?_)
 refine C_skip_then ?_
 refine C_seq ?_
 refine C_block ?_
 refine C_seq ?_
 refine C_region ?_
 refine Jq (q_indexV tb rfl rfl rfl rfl (by omega) (by omega) (num_cell y f (by omega))) ?_
 refine Jq (q_assign rfl) ?_
 refine L_then ?_
 refine C_region ?_
 refine Jq (q_move rfl) ?_
 refine L_lo rfl rfl rfl (lo_callQ tb stQ hQ rfl rfl (ct_ItoaQ (nuA y f j) (num_in han j)) no_ps isV_sinks) ?_
 rintro _ _ ⟨rfl, rfl⟩
 refine Jq (t_cat (a := [32]) (b := Lib.itoa (nuA y f j)) rfl rfl (by rw [List.length_singleton]; omega) rfl) ?_
 refine L_callI tb (post := fun _ rs9 => ∃ A n c, rs9 = box g5 211 [.pointer (some ⟨g5, 0, none⟩), .slice A n c] :: sl (.slice A n c) 5 1 ((prK L F k ++ ptJ y f j ++ ([32] ++ Lib.itoa (nuA y f j))).map cU) :: [box g1 74 [a, b], rd a 3 (L.map cDl), rd b 1 (F.map cI)]) rfl rfl rfl (ct_WriteString _ _ _ g5 (.pointer (some ⟨g5, 0, none⟩)) u9 (prK L F k ++ ptJ y f j) (.inr rfl) ([32] ++ Lib.itoa (nuA y f j)) (by simp only [List.length_append, List.length_cons, List.length_nil]; omega)) (fun y9 rs9 hy9 => ?_)
 obtain ⟨A42, n42, c42, rfl⟩ := hy9
 refine L_blk ?_
 refine C_region ?_
 refine Jq (q_add rfl rfl (by first | exact IntWalk.i64_in _ (by omega) | rfl)) ?_
 refine Jq (q_move rfl) ?_
 refine L_end ?_
 rw [ptJ_s]
 exact fun ac_ wo_ hs_ => ⟨(j + 1, .slice A42 n42 c42), (by dsimp only; omega), (by dsimp only; omega), hs_.weak ⟨rfl, rfl, rfl, rfl, rfl, rfl, rfl, trivial⟩ (fun h => h.pk (by repeat (first | with_reducible exact pk_nil | refine pk_box rfl ?_ | refine pk_rd rfl ?_ | refine pk_sl rfl ?_ | with_reducible refine pk_app ?_ | with_reducible refine pk_app0 ?_ | with_reducible refine pk_app0L ?_ | with_reducible exact pk_tl | refine pk_var ?_)))⟩
 obtain rfl : j = 4 := by omega
 refine C_exit ?_
 change C Tryz.prog _ _ _ _ _ _ _
 refine C_region ?_
 refine L_callI tb (post := fun _ rs9 => ∃ A n c, rs9 = box g5 211 [.pointer (some ⟨g5, 0, none⟩), .slice A n c] :: sl (.slice A n c) 5 1 ((prK L F k ++ ptJ y f 4 ++ [10]).map cU) :: [box g1 74 [a, b], rd a 3 (L.map cDl), rd b 1 (F.map cI)]) rfl rfl rfl (ct_WriteNl _ _ _ g5 (.pointer (some ⟨g5, 0, none⟩)) u9 (prK L F k ++ ptJ y f 4) (.inr rfl) (by rw [List.length_append]; omega)) (fun y9 rs9 hy9 => ?_)
 obtain ⟨A44, n44, c44, rfl⟩ := hy9
 refine L_blk ?_
 refine C_region ?_
 refine Jq (q_add rfl rfl (by first | exact IntWalk.i64_in _ (by omega) | rfl)) ?_
 refine Jq (q_move rfl) ?_
 refine L_end ?_
 rw [prK_s he hf9]
 exact fun ac_ wo_ hs_ => ⟨(k + 1, .pointer (some ⟨g5, 0, none⟩), .slice A44 n44 c44), ⟨by dsimp only; omega, .inr rfl⟩, (by dsimp only; omega), hs_.weak ⟨rfl, rfl, rfl, rfl, rfl, trivial⟩ (fun h => h.pk (by repeat (first | with_reducible exact pk_nil | refine pk_box rfl ?_ | refine pk_rd rfl ?_ | refine pk_sl rfl ?_ | with_reducible refine pk_app ?_ | with_reducible refine pk_app0 ?_ | with_reducible refine pk_app0L ?_ | with_reducible exact pk_tl | refine pk_var ?_)))⟩
 obtain rfl : k = L.length := by omega
 refine C_exit ?_
 change C Tryz.prog _ _ _ _ _ _ _
 refine C_seq ?_
 refine C_region ?_
 refine L_res (rs' := [box g5 211 [p9, v9], sl v9 5 1 ((prK L F L.length).map cU)]) (fun _ h_ => h_.pk (by repeat (first | with_reducible exact pk_nil | refine pk_box rfl ?_ | refine pk_rd rfl ?_ | refine pk_sl rfl ?_ | with_reducible refine pk_app ?_ | with_reducible refine pk_app0 ?_ | with_reducible refine pk_app0L ?_ | with_reducible exact pk_tl | refine pk_var ?_))) ?_
 refine L_bsU tb rfl rfl rfl hp (fun w_ h1_ h2_ => Tryz.Builder_String_any _ g5 (prK L F L.length) w_ h1_ h2_) ?_
 refine Jq (q_assign rfl) ?_
 refine Jq (q_assign rfl) ?_
 refine L_then ?_
 refine C_ret ?_
 rw [prE_2 hz, hz]
 exact ret_of (res2 rfl rfl rfl) sub_nil (by intro r hr; cases hr) ⟨rfl, rfl⟩
set_option maxRecDepth 100000 in
set_option maxHeartbeats 1000000 in
theorem ct_shotlinelaw04_At1000 (n : Int) : Ct Tryz.prog 91 [.int .i64 n] [] (isTo 66 139 144 (exA (ldA n n) 1000)) := by
 refine Ct.of (N := 15) Tryz.func91 rfl rfl rfl fun w => ?_
 refine C_weak (E' := [(0, .int .i64 n)]) (rs' := []) ⟨rfl, trivial⟩ (fun _ h => h) ?_
 refine C_seq ?_
 refine C_region ?_
 refine L_alloc tb rfl rfl fun g2 => ?_
 refine L_then ?_
 refine C_seq ?_
 refine C_region ?_
 refine Jq (by first | exact q_build tb rfl rfl rfl rfl | exact q_buildArr tb rfl rfl rfl rfl rfl) ?_
 refine L_mk (lo_bslice tb rfl rfl rfl (xs := [cCp oneA]) rfl rfl (by simp [cCp]) rfl (by omega) rfl) rfl rfl rfl fun v4 => ?_
 refine L_form (v := v4) gvo (fun A4 c4 hv4 _ => ?_)
 subst hv4
 refine Jq (q_move rfl) ?_
 refine Jq (q_move rfl) ?_
 refine Jq (by first | exact q_build tb rfl rfl rfl rfl | exact q_buildArr tb rfl rfl rfl rfl rfl) ?_
 refine Jq (by first | exact q_build tb rfl rfl rfl rfl | exact q_buildArr tb rfl rfl rfl rfl rfl) ?_
 refine L_mk (lo_bslice tb rfl rfl rfl (xs := [cLd (ldA n n)]) rfl rfl (by simp [cLd]) rfl (by omega) rfl) rfl rfl rfl fun v9 => ?_
 refine L_form (v := v9) gvo (fun A9 c9 hv9 _ => ?_)
 subst hv9
 refine Jq (by first | exact q_build tb rfl rfl rfl rfl | exact q_buildArr tb rfl rfl rfl rfl rfl) ?_
 refine Jq (by first | exact q_build tb rfl rfl rfl rfl | exact q_buildArr tb rfl rfl rfl rfl rfl) ?_
 refine L_mk (lo_bslice tb rfl rfl rfl (xs := [cAg ⟨⟨210, 0⟩, 30000⟩]) rfl rfl (by simp [cAg]) rfl (by omega) rfl) rfl rfl rfl fun v12 => ?_
 refine L_form (v := v12) gvo (fun A12 c12 hv12 _ => ?_)
 subst hv12
 refine Jq (by first | exact q_build tb rfl rfl rfl rfl | exact q_buildArr tb rfl rfl rfl rfl rfl) ?_
 refine Jq (by first | exact q_build tb rfl rfl rfl rfl | exact q_buildArr tb rfl rfl rfl rfl rfl) ?_
 refine L_st tb rfl rfl ?_
 refine L_then ?_
 refine C_ret ?_
 exact ret_of (rs' := [sl _ 66 4 ((exA (ldA n n) 1000).ts.map cCp), sl _ 139 4 ((exA (ldA n n) 1000).ls.map cLd), sl _ 144 3 ((exA (ldA n n) 1000).gs.map cAg)]) (resC tb rfl rfl rfl bxo rfl) (fun w_ h_ => h_.pk (by repeat (first | with_reducible exact pk_nil | refine pk_box rfl ?_ | refine pk_rd rfl ?_ | refine pk_sl rfl ?_ | with_reducible refine pk_app ?_ | with_reducible refine pk_app0 ?_ | with_reducible refine pk_app0L ?_ | with_reducible exact pk_tl | refine pk_var ?_))) own3 ⟨_, _, _, _, _, _, _, _, _, rfl, rfl⟩
end Go.Proofs.YthilaakeimfedaaGreatDoor
namespace Go.Proofs.YthilaakeimfedaaGreatDoor
set_option maxRecDepth 100000
set_option maxHeartbeats 4000000
open Go.RowKit

end Go.Proofs.YthilaakeimfedaaGreatDoor
