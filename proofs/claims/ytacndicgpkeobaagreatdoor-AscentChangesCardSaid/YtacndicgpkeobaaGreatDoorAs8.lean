/-
  Small laws of chapter 4 that the walks ask. Conditions: those in front of each theorem; no program in sight.
-/
import Derived.Test.YtacndicgpkeobaaGreatDoorMod7
import Derived.Test.YtacndicgpkeobaaGreatDoorMod8
import Derived.Test.YtacndicgpkeobaaGreatDoorArgB
namespace Go.Proofs.YtacndicgpkeobaaGreatDoor

theorem mk_find {x : Lg} {n : Nat} (hx : okLg x) (hn : 1 ≤ n) {t : Int} (h0 : 0 ≤ t) (h1 : t ≤ x.s) : ∃ k : Nat, k < n ∧ (mkM x n k).s ≤ t ∧ t ≤ (mkM x n ((k : Int) + 1)).s := by
  have key : ∀ j : Nat, j ≤ n → (∃ k : Nat, k < n ∧ (mkM x n k).s ≤ t ∧ t ≤ (mkM x n ((k : Int) + 1)).s) ∨ (mkM x n j).s ≤ t := by
    intro j
    induction j with
    | zero =>
      intro _
      have e0 : (mkM x n ((0 : Nat) : Int)).s = 0 := by unfold mkM; simp
      exact .inr (by rw [e0]; exact h0)
    | succ j ih =>
      intro hj
      rcases ih (by omega) with h | h
      · exact .inl h
      · by_cases h2 : t ≤ (mkM x n ((j : Int) + 1)).s
        · exact .inl ⟨j, by omega, h, h2⟩
        · refine .inr ?_
          rw [show (((j + 1 : Nat) : Int)) = (j : Int) + 1 by omega]
          omega
  rcases key n (Nat.le_refl _) with h | h
  · exact h
  · rw [mk_end hn] at h
    have h3 := mk_mono hx hn (n - 1)
    have e : ((n - 1 : Nat) : Int) + 1 = (n : Int) := by omega
    rw [e, mk_end hn] at h3
    exact ⟨n - 1, by omega, by omega, by rw [e, mk_end hn]; exact h1⟩
end Go.Proofs.YtacndicgpkeobaaGreatDoor
namespace Go.Proofs.YtacndicgpkeobaaGreatDoor
section
variable {ts : List Cp} {ls : List Ld} {z : Lg} {fa : Int} {m : Nat}
theorem decF_fine : ∀ j, (decF ts ls z fa m j).1 ≠ 1 → keptT ts ls z fa (decF ts ls z fa m j).2.toNat = (decF ts ls z fa m j).1
  | 0, h => absurd rfl h
  | j + 1, h => by
    unfold decF at h ⊢
    by_cases hk : keptT ts ls z fa (m - j) ≠ 1
    · rw [if_pos hk]; rfl
    · rw [if_neg hk] at h ⊢; exact decF_fine j h
end
section
variable {x : Asc} {y : Dl}
theorem dc_kept (h : (dcA x y).1 = 2) : keptT x.ts x.ls (lgA x y) (faA x) (dcA x y).2.toNat = 2 := by
  have e : dcA x y = decF x.ts x.ls (lgA x y) (faA x) (fnA x) (fnA x + 1) := rfl
  rw [e] at h ⊢
  have := decF_fine (ts := x.ts) (ls := x.ls) (z := lgA x y) (fa := faA x) (m := fnA x) (fnA x + 1) (by rw [h]; decide)
  rw [this, h]
theorem ris_0 {r : Rl} (h : okRl r) (a : Int) : risR r a a = 0 := by
  have := h.sp
  unfold risR upZ
  rw [Int.sub_self, Int.mul_zero]
  exact Int.ediv_eq_zero_of_lt (by omega) (by omega)
theorem ckAl_mk (h : okAl x y) (h2 : x.de ≤ (agAt x.gs y.g.toNat).d) (h3 : y.d ≤ x.de) (h4 : risR x.r x.de y.d ≤ y.s) : ckAl x y = 0 := by
  rw [al_3 ⟨h.s, h.d⟩ h.g, if_neg (by omega), if_neg (by omega), if_neg (by omega)]
theorem up_ck (H : okAsc x) {to : Int} (ht : 0 ≤ to ∧ to < x.de) (hg : ¬ gasA x x.de < 0) : ckAl x (upA x to (gasA x x.de)) = 0 := by
  have h1 := gasA_in x x.de
  exact ckAl_mk (up_ok H ht (by omega)) (bsA_dep x.gs x.de x.gs.length (show 0 ≤ gasA x x.de by omega)) (show to ≤ x.de by omega) (Int.le_refl _)
theorem sy_ck (H : okAsc x) (hg : ¬ gasA x x.de < 0) : ckAl x (gSy x) = 0 := by
  have h1 := gasA_in x x.de
  have h2 := H.r.st
  refine ckAl_mk (gSy_ok H hg) (bsA_dep x.gs x.de x.gs.length (show 0 ≤ gasA x x.de by omega)) (Int.le_refl _) ?_
  show risR x.r x.de x.de ≤ x.r.st
  rw [ris_0 H.r]
  omega
theorem gUp_ck (H : okAsc x) (hd : ¬ x.de = 0) (hg : ¬ gasA x x.de < 0) : ckAl x (gUp x) = 0 := by
  have := H.de
  exact up_ck H (nxt_in H.r (by omega)) hg
theorem chk_one (H : okAsc x) (h : ckAl x y = 0) (h2 : (dcA x y).1 = 2) (t : Int) (L : List Dl) (F : List Int) (k : Int) : chkF t x (y :: L) ((dcA x y).2 :: F) k = chkF t (bhA x y) L F (k + 1) := by
  have h3 := dc_in (y := y) H
  rw [chkF, if_neg (fun hh => hh h), if_neg (by omega), if_neg (fun hh => hh (dc_kept h2))]
theorem an_one (H : okAsc x) (h : okAl x y) : okAn y (dcA x y).2 := by
  have h1 := h.s; have h2 := h.d; have h3 := h.g; have h4 := dc_in (y := y) H; have h5 := H.r.fi; have h6 := H.g8
  exact ⟨h1, h2, by omega, by omega⟩
theorem gen_acc : ∀ (n : Nat) (x : Asc) (s : Int) (L : List Dl) (F : List Int) (S : List Dl × List Int), okAsc x → genN n x s L F = (S, 0) →
    ∃ A B, S = (L ++ A, F ++ B) ∧ B.length = A.length ∧ A.length ≤ n ∧ (∀ t k, chkF t x A B k = (t, 0)) ∧ all2 okAn A B
  | n, x, s, L, F, S, H, h => by
    by_cases hd : x.de = 0
    · rw [gen_0 hd] at h
      injection h with h _
      refine ⟨[], [], by simp [← h], rfl, Nat.zero_le _, fun t k => ?_, trivial⟩
      rw [chkF, if_neg (fun hh => hh hd)]
    match n, h with
    | 0, h =>
      rw [gen_8 hd] at h
      injection h with _ h
      exact absurd h (by decide)
    | n + 1, h =>
      by_cases hg : gasA x x.de < 0
      · rw [gen_14 hd (by omega) hg] at h
        injection h with _ h
        exact absurd h (by decide)
      by_cases h1 : (dcA x (gUp x)).1 = 2
      · rw [gen_up hd (by omega) hg h1, Nat.add_sub_cancel] at h
        obtain ⟨A, B, e, hl, hn, hc, ha⟩ := gen_acc n _ _ _ _ S (bh_ok H (gUp_ok H hd hg)) h
        refine ⟨gUp x :: A, (dcA x (gUp x)).2 :: B, by rw [e]; simp, by simp [hl], by simp; omega, fun t k => ?_, an_one H (gUp_ok H hd hg), ha⟩
        rw [chk_one H (gUp_ck H hd hg) h1]
        exact hc _ _
      by_cases hs : s = 60
      · rw [gen_12 hd (by omega) hg h1 hs] at h
        injection h with _ h
        exact absurd h (by decide)
      by_cases h2 : (dcA x (gSy x)).1 = 2
      · rw [gen_sy hd (by omega) hg h1 hs h2, Nat.add_sub_cancel] at h
        obtain ⟨A, B, e, hl, hn, hc, ha⟩ := gen_acc n _ _ _ _ S (bh_ok H (gSy_ok H hg)) h
        refine ⟨gSy x :: A, (dcA x (gSy x)).2 :: B, by rw [e]; simp, by simp [hl], by simp; omega, fun t k => ?_, an_one H (gSy_ok H hg), ha⟩
        rw [chk_one H (sy_ck H hg) h2]
        exact hc _ _
      · rw [gen_26 hd (by omega) hg h1 hs h2] at h
        injection h with _ h
        exact absurd h (by decide)
theorem gen_chk (H : okAsc x) (h : (genA x).2 = 0) : okSch (genA x).1.1 (genA x).1.2 ∧ chkA x (genA x).1.1 (genA x).1.2 = (smS (genA x).1.1 (genA x).1.1.length, 0) := by
  obtain ⟨A, B, e, hl, hn, hc, ha⟩ := gen_acc 400 x 0 [] [] (genA x).1 H (show genA x = ((genA x).1, 0) from Prod.ext rfl h)
  have e2 : (genA x).1 = (A, B) := by simpa using e
  rw [e2]
  have hs : okSch A B := ⟨hn, hl, ha⟩
  exact ⟨hs, by rw [chkA_2 hs.ck]; exact hc _ _⟩
end
/-! ### The tasks behind the legs -/
inductive Found : Asc → List Dl → Prop
  | nil {x : Asc} : x.de = 0 → Found x []
  | up {x : Asc} {A : List Dl} : okAsc x → ¬ x.de = 0 → ¬ gasA x x.de < 0 → (dcA x (gUp x)).1 = 2 → Found (bhA x (gUp x)) A → Found x (gUp x :: A)
  | sy {x : Asc} {A : List Dl} : okAsc x → ¬ x.de = 0 → ¬ gasA x x.de < 0 → ¬ (dcA x (gUp x)).1 = 2 → Found (bhA x (gSy x)) A → Found x (gSy x :: A)
end Go.Proofs.YtacndicgpkeobaaGreatDoor
namespace Go.Proofs.YtacndicgpkeobaaGreatDoor
/-! ### Depths -/
def okD (n : Int) : Prop := 0 ≤ n ∧ n ≤ 30000
instance (n : Int) : Decidable (okD n) := by unfold okD; infer_instance
def ixD : List Int → Nat → Int
  | [], _ => -1
  | n :: t, k => if okD n then ixD t (k + 1) else k
section
variable {es : List Int} {k : Nat} {e : Int}
theorem ixD_yes (h : es[k]? = some e) (he : okD e) : ixD (es.drop k) k = ixD (es.drop (k + 1)) (k + 1) := by rw [drop_cons h]; exact if_pos he
theorem ixD_no (h : es[k]? = some e) (he : ¬ okD e) : ixD (es.drop k) k = k := by rw [drop_cons h]; exact if_neg he
theorem ixD_end (h : es.length ≤ k) : ixD (es.drop k) k = -1 := by rw [drop_all h]; rfl
end
def depE (es : List Int) : Int := if ixD es 0 ≥ 0 then 2 else 0
theorem dep_1 (d : Int) : depE [d] = if 0 ≤ d ∧ d ≤ 30000 then 0 else 2 := by
  by_cases h : okD d
  · have e : ixD [d] 0 = -1 := by unfold ixD; rw [if_pos h]; rfl
    unfold depE
    rw [e, if_neg (by decide)]
    exact (if_pos h).symm
  · have e : ixD [d] 0 = 0 := by unfold ixD; rw [if_neg h]; rfl
    unfold depE
    rw [e, if_pos (by decide)]
    exact (if_neg h).symm
/-! ### What is asked of rules -/
def erR (r : Rl) (es : List Int) : Int := if ckRl r ≠ 0 then ckRl r else depE es
theorem first_2 (a b : Int) : firstE [a, b] = if a ≠ 0 then a else b := by
  show (if a = 0 then (if b = 0 then 0 else b) else a) = if a ≠ 0 then a else b
  by_cases h : a = 0
  · rw [if_pos h, if_neg (show ¬ a ≠ 0 from fun hh => hh h)]
    by_cases h2 : b = 0
    · rw [if_pos h2, h2]
    · rw [if_neg h2]
  · rw [if_neg h, if_pos h]
theorem erR_first (r : Rl) (es : List Int) : firstE [ckRl r, depE es] = erR r es := first_2 _ _
theorem erR_ok {r : Rl} {es : List Int} (h : erR r es = 0) : okRl r ∧ depE es = 0 := by
  unfold erR at h
  by_cases h1 : ckRl r ≠ 0
  · rw [if_pos h1] at h; exact absurd h h1
  · rw [if_neg h1] at h; exact ⟨ckRl_ok (Decidable.not_not.1 h1), h⟩
theorem dep1_ok {d : Int} (h : depE [d] = 0) : 0 ≤ d ∧ d ≤ 30000 := by
  rw [dep_1] at h
  split at h
  · assumption
  · exact absurd h (by decide)
def facE (r : Rl) (d : Int) : Int × Int := if erR r [d] ≠ 0 then (0, erR r [d]) else (facR r d, 0)
section
variable {r : Rl} {d a b : Int}
theorem facE_1 (h : erR r [d] ≠ 0) : facE r d = (0, erR r [d]) := if_pos h
theorem facE_2 (h : erR r [d] = 0) : facE r d = (facR r d, 0) := if_neg (fun hh => hh h)
end
section
variable {x : Asc} {d : Int}
end
/-! ### The limits of the statements -/
def lightP (x : Asc) : Prop :=
  ¬ (2 < x.ts.length ∧ x.ts.length ≤ 16 ∨ 18 < x.ts.length ∨ 18 < x.ls.length) ∧ ¬ (3 < x.gs.length ∧ x.gs.length ≤ 8 ∨ 10 < x.gs.length ∨ 1 < x.r.fi ∧ x.r.fi ≤ 6) ∧ (¬ (0 ≤ x.de ∧ x.de ≤ 30000) ∨ ¬ (1 ≤ x.r.gr ∧ x.r.gr ≤ 3000) ∨ x.de ≤ 12 * x.r.gr)
instance (x : Asc) : Decidable (lightP x) := by unfold lightP; infer_instance
theorem light_len {x : Asc} (h : lightP x) : x.ts.length ≤ 18 ∧ x.ls.length ≤ 18 ∧ x.gs.length ≤ 10 := by
  obtain ⟨h1, h2, _⟩ := h
  omega
def shortP (L : List Dl) (F : List Int) : Prop := (L.length ≤ 30 ∨ 400 < L.length ∧ L.length ≤ 402) ∧ F.length ≤ 402
instance (L : List Dl) (F : List Int) : Decidable (shortP L F) := by unfold shortP; infer_instance
/-! ### Stops -/
section
variable {L : List Dl} {k : Nat} {y : Dl} {d : Int} {st : Bool} {out : List (Int × Int)}
end
end Go.Proofs.YtacndicgpkeobaaGreatDoor
namespace Go.Proofs.YtacndicgpkeobaaGreatDoor
open Go.RowKit
section
variable {x : Asc} {L : List Dl} {tc tl tg : TypeId}
end
/-! ### The error of the legs of a schedule -/
section
variable {x : Asc} {L : List Dl} {F : List Int} {k : Nat} {y : Dl}
end
/-! ### What functions give back -/
theorem ag_first (x : Ag) : firstE [ckGas x.g.o x.g.h, depE [x.d]] = ckAg x := by
  rw [first_2, dep_1]
  rfl
end Go.Proofs.YtacndicgpkeobaaGreatDoor
namespace Go.Proofs.YtacndicgpkeobaaGreatDoor
open Go.RowKit
theorem fac_quo {r : Rl} (h : okRl r) {d : Int} (hd : 0 ≤ d ∧ d ≤ 30000) (h6 : ¬ d ≥ r.an) : 0 ≤ ((r.hi - r.lo) * d + r.an - 1) / r.an ∧ ((r.hi - r.lo) * d + r.an - 1) / r.an ≤ 1000 := by
  have h1 := h.lo; have h2 := h.hi; have h3 := h.le; have h4 := h.an
  have h5 := fac_prod h hd
  have h7 : 0 ≤ ((r.hi - r.lo) * d + r.an - 1) / r.an := Int.ediv_nonneg (by omega) (by omega)
  refine ⟨h7, ?_⟩
  have h9 : (r.hi - r.lo) * d ≤ (r.hi - r.lo) * r.an := Int.mul_le_mul_of_nonneg_left (by omega) (by omega)
  have : ((r.hi - r.lo) * d + r.an - 1) / r.an < r.hi - r.lo + 1 := Int.ediv_lt_of_lt_mul (by omega) (by rw [Int.add_mul, Int.one_mul]; omega)
  omega
theorem hi_an {r : Rl} (h : okRl r) : 0 ≤ r.hi * r.an ∧ r.hi * r.an ≤ 30000000 := by
  have h2 := h.hi; have h4 := h.an
  have h5 : r.hi * r.an ≤ 1000 * r.an := Int.mul_le_mul_of_nonneg_right h2.2 (by omega)
  have h6 : 0 ≤ r.hi * r.an := Int.mul_nonneg h2.1 (by omega)
  omega
section
variable {l : List Ag} {k : Nat} {a : Ag} {d : Int}
theorem bsA_y (h : l[k]? = some a) (h1 : d ≤ a.d ∧ (bsA l d k < 0 ∨ a.g.o > (agAt l (bsA l d k).toNat).g.o)) : (k : Int) = bsA l d (k + 1) := by
  rw [← agAt_get h] at h1
  exact (if_pos h1).symm
theorem bsA_n (h : l[k]? = some a) (h1 : ¬ (d ≤ a.d ∧ (bsA l d k < 0 ∨ a.g.o > (agAt l (bsA l d k).toNat).g.o))) : bsA l d k = bsA l d (k + 1) := by
  rw [← agAt_get h] at h1
  exact (if_neg h1).symm
theorem ag_cell {i : Int} (h0 : 0 ≤ i) (h1 : i < l.length) : (l.map cAg)[i.toNat]? = some (cAg (agAt l i.toNat)) := by
  obtain ⟨a, ha⟩ := get_some l (k := i.toNat) (by omega)
  rw [agAt_get ha]
  exact map_get cAg ha
theorem ags_y1 (h : l[k]? = some a) (hx : ckGas a.g.o a.g.h ≠ 0) : ckAgs (l.drop k) = ckGas a.g.o a.g.h := by rw [ags_yes h (by rw [ckAg_1 hx]; exact hx), ckAg_1 hx]
theorem ags_y2 (h : l[k]? = some a) (hx : ¬ ckGas a.g.o a.g.h ≠ 0) (h2 : ¬ (0 ≤ a.d ∧ a.d ≤ 30000)) : ckAgs (l.drop k) = 2 := by
  have e : ckAg a = 2 := by rw [ckAg_2 hx, if_neg h2]
  rw [ags_yes h (by rw [e]; decide), e]
theorem ags_n2 (h : l[k]? = some a) (hx : ¬ ckGas a.g.o a.g.h ≠ 0) (h2 : 0 ≤ a.d ∧ a.d ≤ 30000) : ckAgs (l.drop k) = ckAgs (l.drop (k + 1)) := by
  have e : ckAg a = 0 := by rw [ckAg_2 hx, if_pos h2]
  exact ags_no h (fun hh => hh e)
end
def opA (x : Asc) : Asc := if ckAsc x ≠ 0 then zAsc else x
theorem opA_1 {x : Asc} (h : ckAsc x ≠ 0) : opA x = zAsc := if_pos h
theorem opA_2 {x : Asc} (h : ckAsc x = 0) : opA x = x := if_neg (fun hh => hh h)
theorem oneAg (l : List Ag) : ∀ c ∈ (l.map cAg).flatten, c.oneCell' = true := one_ag l
theorem kept_su {x : Asc} (H : okAsc x) : keptE x.ts x.ls x.su x.r.hi = (keptM x.ts x.ls x.su x.r.hi, 0) := by
  have h1 := H.su; have h2 := H.r.hi
  exact keptE_3 (fun hh => hh (ckLoads_mk H.k)) ⟨by unfold okPr; omega, h2⟩
def drE (x : Asc) : Int × Int := if ckAsc x ≠ 0 then (0, ckAsc x) else dirA x
theorem drE_1 {x : Asc} (h : ckAsc x ≠ 0) : drE x = (0, ckAsc x) := if_pos h
theorem drE_2 {x : Asc} (h : ckAsc x = 0) : drE x = dirA x := if_neg (fun hh => hh h)
theorem dir_up {x : Asc} (H : okAsc x) (hd : ¬ x.de = 0) (hg : ¬ gasA x x.de < 0) : okAl x (upA x 0 (gasA x x.de)) := by
  have h1 := gasA_in x x.de; have h2 := H.de
  exact up_ok H (by omega) (by omega)
theorem beh_len {x : Asc} (H : okAsc x) : x.ts.length ≤ 16 ∧ x.ls.length = x.ts.length ∧ x.gs.length ≤ 8 := ⟨H.k.b, H.k.len, H.g8⟩
theorem dl_snoc (L : List Dl) (y : Dl) : L.map cDl ++ [cDl y] = (L ++ [y]).map cDl := by rw [List.map_append]; rfl
theorem ci_snoc (F : List Int) (f : Int) : F.map cI ++ [[Value.int .i64 f]] = (F ++ [f]).map cI := by rw [List.map_append]; rfl
def gnE (x : Asc) : Sch := if ckAsc x ≠ 0 then (([], []), ckAsc x) else genA x
theorem gnE_1 {x : Asc} (h : ckAsc x ≠ 0) : gnE x = (([], []), ckAsc x) := if_pos h
theorem gnE_2 {x : Asc} (h : ckAsc x = 0) : gnE x = genA x := if_neg (fun hh => hh h)
def nsE (x : Asc) : Int × Int := if ckAsc x ≠ 0 then (0, ckAsc x) else nsA x
theorem nsE_1 {x : Asc} (h : ckAsc x ≠ 0) : nsE x = (0, ckAsc x) := if_pos h
theorem nsE_2 {x : Asc} (h : ckAsc x = 0) : nsE x = nsA x := if_neg (fun hh => hh h)
end Go.Proofs.YtacndicgpkeobaaGreatDoor
