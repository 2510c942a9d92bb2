/-
  Lists of tasks behind legs among what is known; stops; schedules that were not found. Conditions: those in front of each theorem; no program in sight.
-/
import Derived.Test.YthilaakeimfedaaGreatDoorAs7
import Derived.Test.YthilaakeimfedaaGreatDoorShBld
import Derived.Lib.ItoaLen
import Derived.Test.YthilaakeimfedaaGreatDoorAs3
import Derived.Test.YthilaakeimfedaaGreatDoorTraj5
namespace Go.Proofs.YthilaakeimfedaaGreatDoor
open Go.RowKit
theorem fac_quo {r : Rl} (h : okRl r) {d : Int} (hd : 0 ≤ d ∧ d ≤ 30000) (h6 : ¬ d ≥ r.an) : 0 ≤ ((r.hi - r.lo) * d + r.an - 1) / r.an ∧ ((r.hi - r.lo) * d + r.an - 1) / r.an ≤ 1000 := by
  have h1 := h.lo; have h2 := h.hi; have h3 := h.le; have h4 := h.an
  have h5 := fac_prod h hd
  have h7 : 0 ≤ ((r.hi - r.lo) * d + r.an - 1) / r.an := Int.ediv_nonneg (by omega) (by omega)
  refine ⟨h7, ?_⟩
  have h9 : (r.hi - r.lo) * d ≤ (r.hi - r.lo) * r.an := Int.mul_le_mul_of_nonneg_left (by omega) (by omega)
  have : ((r.hi - r.lo) * d + r.an - 1) / r.an < r.hi - r.lo + 1 := Int.ediv_lt_of_lt_mul (by omega) (by rw [Int.add_mul, Int.one_mul]; omega)
  omega
theorem hi_an {r : Rl} (h : okRl r) : 0 ≤ r.hi * r.an ∧ r.hi * r.an ≤ 30000000 := by
  have h2 := h.hi; have h4 := h.an
  have h5 : r.hi * r.an ≤ 1000 * r.an := Int.mul_le_mul_of_nonneg_right h2.2 (by omega)
  have h6 : 0 ≤ r.hi * r.an := Int.mul_nonneg h2.1 (by omega)
  omega
section
variable {l : List Ag} {k : Nat} {a : Ag} {d : Int}
theorem bsA_y (h : l[k]? = some a) (h1 : d ≤ a.d ∧ (bsA l d k < 0 ∨ a.g.o > (agAt l (bsA l d k).toNat).g.o)) : (k : Int) = bsA l d (k + 1) := by
  rw [← agAt_get h] at h1
  exact (if_pos h1).symm
theorem bsA_n (h : l[k]? = some a) (h1 : ¬ (d ≤ a.d ∧ (bsA l d k < 0 ∨ a.g.o > (agAt l (bsA l d k).toNat).g.o))) : bsA l d k = bsA l d (k + 1) := by
  rw [← agAt_get h] at h1
  exact (if_neg h1).symm
theorem ag_cell {i : Int} (h0 : 0 ≤ i) (h1 : i < l.length) : (l.map cAg)[i.toNat]? = some (cAg (agAt l i.toNat)) := by
  obtain ⟨a, ha⟩ := get_some l (k := i.toNat) (by omega)
  rw [agAt_get ha]
  exact map_get cAg ha
theorem ags_y1 (h : l[k]? = some a) (hx : ckGas a.g.o a.g.h ≠ 0) : ckAgs (l.drop k) = ckGas a.g.o a.g.h := by rw [ags_yes h (by rw [ckAg_1 hx]; exact hx), ckAg_1 hx]
theorem ags_y2 (h : l[k]? = some a) (hx : ¬ ckGas a.g.o a.g.h ≠ 0) (h2 : ¬ (0 ≤ a.d ∧ a.d ≤ 30000)) : ckAgs (l.drop k) = 2 := by
  have e : ckAg a = 2 := by rw [ckAg_2 hx, if_neg h2]
  rw [ags_yes h (by rw [e]; decide), e]
theorem ags_n2 (h : l[k]? = some a) (hx : ¬ ckGas a.g.o a.g.h ≠ 0) (h2 : 0 ≤ a.d ∧ a.d ≤ 30000) : ckAgs (l.drop k) = ckAgs (l.drop (k + 1)) := by
  have e : ckAg a = 0 := by rw [ckAg_2 hx, if_pos h2]
  exact ags_no h (fun hh => hh e)
end
def opA (x : Asc) : Asc := if ckAsc x ≠ 0 then zAsc else x
theorem opA_1 {x : Asc} (h : ckAsc x ≠ 0) : opA x = zAsc := if_pos h
theorem opA_2 {x : Asc} (h : ckAsc x = 0) : opA x = x := if_neg (fun hh => hh h)
theorem oneAg (l : List Ag) : ∀ c ∈ (l.map cAg).flatten, c.oneCell' = true := one_ag l
theorem cI_flat : ∀ l : List Int, ∀ c ∈ (l.map cI).flatten, c.oneCell' = true := one_map cI (fun a c hc => by
  simp only [cI, List.mem_cons, List.not_mem_nil, or_false] at hc
  subst hc
  rfl)
theorem kept_su {x : Asc} (H : okAsc x) : keptE x.ts x.ls x.su x.r.hi = (keptM x.ts x.ls x.su x.r.hi, 0) := by
  have h1 := H.su; have h2 := H.r.hi
  exact keptE_3 (fun hh => hh (ckLoads_mk H.k)) ⟨by unfold okPr; omega, h2⟩
def drE (x : Asc) : Int × Int := if ckAsc x ≠ 0 then (0, ckAsc x) else dirA x
theorem drE_1 {x : Asc} (h : ckAsc x ≠ 0) : drE x = (0, ckAsc x) := if_pos h
theorem drE_2 {x : Asc} (h : ckAsc x = 0) : drE x = dirA x := if_neg (fun hh => hh h)
def toTs (x : Asc) (y : Dl) : List Cp := if alE x y ≠ 0 then [] else x.ts
def toLs (x : Asc) (y : Dl) : List Ld := if alE x y ≠ 0 then [] else x.ls
def toLg (x : Asc) (y : Dl) : Lg := if alE x y ≠ 0 then ⟨0, 0, 0, ⟨0, 0⟩⟩ else lgA x y
def toFa (x : Asc) (y : Dl) : Int := if alE x y ≠ 0 then 0 else faA x
theorem to_1 {x : Asc} {y : Dl} (h : alE x y ≠ 0) : toTs x y = [] ∧ toLs x y = [] ∧ toLg x y = ⟨0, 0, 0, ⟨0, 0⟩⟩ ∧ toFa x y = 0 := ⟨if_pos h, if_pos h, if_pos h, if_pos h⟩
theorem to_2 {x : Asc} {y : Dl} (h : alE x y = 0) : toTs x y = x.ts ∧ toLs x y = x.ls ∧ toLg x y = lgA x y ∧ toFa x y = faA x := ⟨if_neg (fun hh => hh h), if_neg (fun hh => hh h), if_neg (fun hh => hh h), if_neg (fun hh => hh h)⟩
theorem dir_up {x : Asc} (H : okAsc x) (hd : ¬ x.de = 0) (hg : ¬ gasA x x.de < 0) : okAl x (upA x 0 (gasA x x.de)) := by
  have h1 := gasA_in x x.de; have h2 := H.de
  exact up_ok H (by omega) (by omega)
theorem beh_len {x : Asc} (H : okAsc x) : x.ts.length ≤ 16 ∧ x.ls.length = x.ts.length ∧ x.gs.length ≤ 8 := ⟨H.k.b, H.k.len, H.g8⟩
theorem dl_snoc (L : List Dl) (y : Dl) : L.map cDl ++ [cDl y] = (L ++ [y]).map cDl := by rw [List.map_append]; rfl
theorem ci_snoc (F : List Int) (f : Int) : F.map cI ++ [[Value.int .i64 f]] = (F ++ [f]).map cI := by rw [List.map_append]; rfl
def gnE (x : Asc) : Sch := if ckAsc x ≠ 0 then (([], []), ckAsc x) else genA x
theorem gnE_1 {x : Asc} (h : ckAsc x ≠ 0) : gnE x = (([], []), ckAsc x) := if_pos h
theorem gnE_2 {x : Asc} (h : ckAsc x = 0) : gnE x = genA x := if_neg (fun hh => hh h)
def soE (L : List Dl) (F : List Int) : Int × Int := if ckSch L F ≠ 0 then (0, ckSch L F) else (smS L L.length, 0)
theorem soE_1 {L : List Dl} {F : List Int} (h : ckSch L F ≠ 0) : soE L F = (0, ckSch L F) := if_pos h
theorem soE_2 {L : List Dl} {F : List Int} (h : ckSch L F = 0) : soE L F = (smS L L.length, 0) := if_neg (fun hh => hh h)
def wsE (x : Asc) (L : List Dl) (F : List Int) : Int := if ckAsc x ≠ 0 then ckAsc x else ckSch L F
theorem wsE_1 {x : Asc} {L : List Dl} {F : List Int} (h : ckAsc x ≠ 0) : wsE x L F = ckAsc x := if_pos h
theorem wsE_2 {x : Asc} {L : List Dl} {F : List Int} (h : ckAsc x = 0) : wsE x L F = ckSch L F := if_neg (fun hh => hh h)
theorem flw_ws {x : Asc} {L : List Dl} {F : List Int} (h : wsE x L F ≠ 0) : flwE x L F = wsE x L F := by
  by_cases h1 : ckAsc x ≠ 0
  · rw [wsE_1 h1, flwE_1 h1]
  · have h2 := Decidable.not_not.1 h1
    rw [wsE_2 h2] at h ⊢
    exact flwE_2 h2 h
theorem wsE_bad {x : Asc} {L : List Dl} {F : List Int} (h : wsE x L F ≠ 0) : csE x L F = (0, wsE x L F) := by
  by_cases h1 : ckAsc x ≠ 0
  · rw [csE_1 h1, wsE_1 h1]
  · have h2 := Decidable.not_not.1 h1
    rw [wsE_2 h2] at h ⊢
    rw [csE_2 h2, chkA_1 h]
theorem wsE_ok {x : Asc} {L : List Dl} {F : List Int} (h : wsE x L F = 0) : okAsc x ∧ okSch L F ∧ csE x L F = chkF (smS L L.length) x L F 0 := by
  by_cases h1 : ckAsc x ≠ 0
  · rw [wsE_1 h1] at h; exact absurd h h1
  · have h2 := Decidable.not_not.1 h1
    rw [wsE_2 h2] at h
    exact ⟨ckAsc_ok h2, ckSch_ok h, by rw [csE_2 h2, chkA_2 h]⟩
def nsE (x : Asc) : Int × Int := if ckAsc x ≠ 0 then (0, ckAsc x) else nsA x
theorem nsE_1 {x : Asc} (h : ckAsc x ≠ 0) : nsE x = (0, ckAsc x) := if_pos h
theorem nsE_2 {x : Asc} (h : ckAsc x = 0) : nsE x = nsA x := if_neg (fun hh => hh h)
theorem kp_E {x : Asc} {y : Dl} (H : okAsc x) (hy : okAl x y) {f : Int} (hf : 0 ≤ f ∧ f ≤ 6) : keptTE x.ts x.ls (lgA x y) (faA x) f = (keptT x.ts x.ls (lgA x y) (faA x) f.toNat, 0) := by
  obtain ⟨n, rfl⟩ := Int.eq_ofNat_of_zero_le hf.1
  exact keptTE_2 (tk_fine H hy hf)
end Go.Proofs.YthilaakeimfedaaGreatDoor
namespace Go.Proofs.YthilaakeimfedaaGreatDoor
open Go.RowKit
def nuA (y : Dl) (f : Int) : Nat → Int
  | 0 => y.s
  | 1 => y.d
  | 2 => y.g
  | _ => f
def cNum (y : Dl) (f : Int) : List Value := [.int .i64 y.s, .int .i64 y.d, .int .i64 y.g, .int .i64 f]
theorem num_cell (y : Dl) (f : Int) {j : Nat} (h : j < 4) : (cNum y f)[(j : Int).toNat * 1]? = some (.int .i64 (nuA y f j)) := by
  match j, h with
  | 0, _ => rfl
  | 1, _ => rfl
  | 2, _ => rfl
  | 3, _ => rfl
def ptJ (y : Dl) (f : Int) : Nat → Tx
  | 0 => [108, 101, 103]
  | j + 1 => ptJ y f j ++ ([32] ++ Lib.itoa (nuA y f j))
def lnT (y : Dl) (f : Int) : Tx := ptJ y f 4 ++ [10]
def fiA (F : List Int) (k : Nat) : Int := (F[k]?).getD 0
theorem fiA_get {F : List Int} {k : Nat} {f : Int} (h : F[k]? = some f) : fiA F k = f := by unfold fiA; rw [h]; rfl
def prK (L : List Dl) (F : List Int) : Nat → Tx
  | 0 => []
  | k + 1 => prK L F k ++ lnT (dlA L k) (fiA F k)
def prT (L : List Dl) (F : List Int) : Tx := prK L F L.length
def prE (L : List Dl) (F : List Int) : Tx := if ckSch L F ≠ 0 then [] else prT L F
theorem prE_1 {L : List Dl} {F : List Int} (h : ckSch L F ≠ 0) : prE L F = [] := if_pos h
theorem prE_2 {L : List Dl} {F : List Int} (h : ckSch L F = 0) : prE L F = prT L F := if_neg (fun hh => hh h)
theorem prK_s {L : List Dl} {F : List Int} {k : Nat} {y : Dl} {f : Int} (h : L[k]? = some y) (h2 : F[k]? = some f) : prK L F k ++ ptJ y f 4 ++ [10] = prK L F (k + 1) := by
  rw [prK, dlA_get h, fiA_get h2, lnT, List.append_assoc]
theorem ptJ_s (t : Tx) (y : Dl) (f : Int) (j : Nat) : t ++ ptJ y f j ++ ([32] ++ Lib.itoa (nuA y f j)) = t ++ ptJ y f (j + 1) := by rw [List.append_assoc]; rfl
theorem num_in {y : Dl} {f : Int} (h : okAn y f) (j : Nat) : -9223372036854775808 ≤ nuA y f j ∧ nuA y f j ≤ 9223372036854775807 := by
  obtain ⟨h1, h2, h3, h4⟩ := h
  match j with
  | 0 => show _ ≤ y.s ∧ y.s ≤ _; omega
  | 1 => show _ ≤ y.d ∧ y.d ≤ _; omega
  | 2 => show _ ≤ y.g ∧ y.g ≤ _; omega
  | j + 3 => show _ ≤ f ∧ f ≤ _; omega
theorem num_len {y : Dl} {f : Int} (h : okAn y f) (j : Nat) : (Lib.itoa (nuA y f j)).length ≤ 21 := Lib.itoa_length_le _ (num_in h j).1 (num_in h j).2
theorem ptJ_len {y : Dl} {f : Int} (h : okAn y f) : ∀ j, (ptJ y f j).length ≤ 3 + 22 * j
  | 0 => Nat.le_refl _
  | j + 1 => by
    have h1 := ptJ_len h j
    have h2 := num_len h j
    rw [ptJ, List.length_append, List.length_append, List.length_singleton]
    omega
theorem prK_len {L : List Dl} {F : List Int} (h : okSch L F) : ∀ k, k ≤ L.length → (prK L F k).length ≤ 92 * k
  | 0, _ => Nat.le_refl _
  | k + 1, hk => by
    obtain ⟨y, f, h1, h2, h3⟩ := sch_at h (k := k) (by omega)
    have h4 := prK_len h k (by omega)
    have h5 := ptJ_len h3 4
    rw [← prK_s h1 h2, List.length_append, List.length_append, List.length_singleton]
    omega
theorem k_st {k : Nat} {s : Int} (hk : k ≤ 60) (hs : 1 ≤ s ∧ s ≤ 3600) : 0 ≤ (k : Int) * s ∧ (k : Int) * s ≤ 216000 := by
  have h1 : (k : Int) * s ≤ 60 * s := Int.mul_le_mul_of_nonneg_right (by omega) (by omega)
  have h2 : 0 ≤ (k : Int) * s := Int.mul_nonneg (by omega) (by omega)
  omega
theorem sy_eq {X x : Asc} {g : Int} (h1 : X.de = x.de) (h2 : X.r = x.r) : syA X g = syA x g := by unfold syA; rw [h1, h2]
end Go.Proofs.YthilaakeimfedaaGreatDoor
namespace Go.Proofs.YthilaakeimfedaaGreatDoor
open Go.RowKit
theorem ex_ck1 : ckAsc (exA (ldA 2400000 2400000) 1000) = 0 := by decide
theorem ex_ck2 : ckAsc (exA (ldA 2000000 2000000) 1000) = 0 := by decide
theorem ex_ck3 : ckAsc (exA (ldA 740230 740230) 1000) = 0 := by decide
abbrev exL : List Dl := [⟨60, 500, 0⟩, ⟨600, 500, 0⟩, ⟨60, 0, 0⟩]
abbrev exF : List Int := [0, 0, 0]
theorem sc_ex : ckSch exL exF = 0 := sch_0 (by decide) (by decide) (by unfold all2 all2 all2 all2 okAn; decide)
abbrev exT : Tx := [108, 101, 103, 32, 54, 48, 32, 53, 48, 48, 32, 48, 32, 48, 10, 108, 101, 103, 32, 54, 48, 48, 32, 53, 48, 48, 32, 48, 32, 48, 10, 108, 101, 103, 32, 54, 48, 32, 48, 32, 48, 32, 48, 10]
theorem it_0 : Lib.itoa 0 = [48] := by kernel_rfl
theorem it_60 : Lib.itoa 60 = [54, 48] := by kernel_rfl
theorem it_600 : Lib.itoa 600 = [54, 48, 48] := by kernel_rfl
theorem it_500 : Lib.itoa 500 = [53, 48, 48] := by kernel_rfl
theorem ln_1 : lnT ⟨60, 500, 0⟩ 0 = [108, 101, 103, 32, 54, 48, 32, 53, 48, 48, 32, 48, 32, 48, 10] := by
  show ([108, 101, 103] ++ ([32] ++ Lib.itoa 60) ++ ([32] ++ Lib.itoa 500) ++ ([32] ++ Lib.itoa 0) ++ ([32] ++ Lib.itoa 0)) ++ [10] = _
  rw [it_0, it_60, it_500]
  rfl
theorem ln_2 : lnT ⟨600, 500, 0⟩ 0 = [108, 101, 103, 32, 54, 48, 48, 32, 53, 48, 48, 32, 48, 32, 48, 10] := by
  show ([108, 101, 103] ++ ([32] ++ Lib.itoa 600) ++ ([32] ++ Lib.itoa 500) ++ ([32] ++ Lib.itoa 0) ++ ([32] ++ Lib.itoa 0)) ++ [10] = _
  rw [it_0, it_600, it_500]
  rfl
theorem ln_3 : lnT ⟨60, 0, 0⟩ 0 = [108, 101, 103, 32, 54, 48, 32, 48, 32, 48, 32, 48, 10] := by
  show ([108, 101, 103] ++ ([32] ++ Lib.itoa 60) ++ ([32] ++ Lib.itoa 0) ++ ([32] ++ Lib.itoa 0) ++ ([32] ++ Lib.itoa 0)) ++ [10] = _
  rw [it_0, it_60]
  rfl
theorem pr_ex : prE exL exF = exT := by
  rw [prE_2 sc_ex]
  show ([] ++ lnT ⟨60, 500, 0⟩ 0) ++ lnT ⟨600, 500, 0⟩ 0 ++ lnT ⟨60, 0, 0⟩ 0 = _
  rw [ln_1, ln_2, ln_3]
  rfl
theorem fa_ex : facE ⟨500, 500, 60, 300, 800, 1000, 0⟩ 333 = (633, 0) := by decide
end Go.Proofs.YthilaakeimfedaaGreatDoor
namespace Go.Proofs.YthilaakeimfedaaGreatDoor
open Go.RowKit
section
variable {r : Rl} {a b : Int}
end
end Go.Proofs.YthilaakeimfedaaGreatDoor
namespace Go.Proofs.YthilaakeimfedaaGreatDoor

/-! ### Loads out of numbers -/
end Go.Proofs.YthilaakeimfedaaGreatDoor
namespace Go.Proofs.YthilaakeimfedaaGreatDoor
/-! ### Stops of a schedule that is found -/
def gdS (D gr st : Int) (p : Int × Int) : Prop := (p.1 = D ∨ p.1 % gr = 0) ∧ st ≤ p.2 ∧ 0 ≤ p.1
theorem bump_all {R : Int × Int → Prop} {out : List (Int × Int)} {s : Int} (h : ∀ p ∈ out, R p) (hs : ∀ p, R p → R (p.1, p.2 + s)) : ∀ p ∈ bump out s, R p := by
  unfold bump
  cases hl : out.getLast? with
  | none => exact h
  | some q =>
    intro p hp
    have hq : q ∈ out := List.mem_of_getLast? hl
    rcases List.mem_append.1 hp with hp | hp
    · exact h p (List.dropLast_subset _ hp)
    · rw [List.mem_singleton.1 hp]
      exact hs q (h q hq)
theorem stp_found {x : Asc} {A : List Dl} (h : Found x A) : ∀ {D : Int} {st : Bool} {out : List (Int × Int)}, (x.de = D ∨ x.de % x.r.gr = 0) → (∀ p ∈ out, gdS D x.r.gr x.r.st p) → ∀ p ∈ stpF A x.de st out, gdS D x.r.gr x.r.st p := by
  induction h with
  | nil _ =>
    intro D st out _ h
    rw [stpF]
    exact h
  | @up x A H hd hg h1 hf ih =>
    intro D st out h0 ho
    have := gUp_lt H hd
    rw [stpF, if_neg (show ¬ (gUp x).d = x.de by omega)]
    exact ih (D := D) (.inr (show (x.de - 1) / x.r.gr * x.r.gr % x.r.gr = 0 from Int.mul_emod_left _ _)) ho
  | @sy x A H hd hg h1 hf ih =>
    intro D st out h0 ho
    have h9 := H.r.st
    rw [stpF, if_pos (show (gSy x).d = x.de from rfl)]
    cases st with
    | true =>
      rw [if_pos rfl]
      exact ih (D := D) h0 (bump_all ho fun p hp => ⟨hp.1, by have := hp.2.1; show _ ≤ p.2 + x.r.st; omega, hp.2.2⟩)
    | false =>
      rw [if_neg (by decide)]
      refine ih (D := D) h0 fun p hp => ?_
      rcases List.mem_append.1 hp with hp | hp
      · exact ho p hp
      · rw [List.mem_singleton.1 hp]
        exact ⟨h0, Int.le_refl _, H.de.1⟩
theorem stp_ok {x : Asc} {A : List Dl} (h : Found x A) : ∀ p ∈ stpA x A, gdS x.de x.r.gr x.r.st p := stp_found h (.inl rfl) (fun p hp => by cases hp)
/-! ### How many seconds stops have -/
theorem bump_set {out : List (Int × Int)} {s : Int} {i : Nat} {p : Int × Int} (hn : out.length = i + 1) (h : out[i]? = some p) : out.set i (p.1, p.2 + s) = bump out s := by
  obtain ⟨t, q, rfl⟩ : ∃ t q, out = t ++ [q] := ⟨out.dropLast, out.getLast (by intro h0; rw [h0] at hn; cases hn), (List.dropLast_concat_getLast _).symm⟩
  have hl : t.length = i := by simpa using hn
  subst hl
  have hq : q = p := by simpa using h
  subst hq
  unfold bump
  simp
/-! ### A surely kept leg, at every instant -/
theorem at_inst {x : Asc} {y : Dl} {f g : Nat} {s d : Int} (H : okAsc x) (hy : okAl x y) (hf : f ≤ 6) (hg : g ≤ 6) (hs : 1 ≤ s ∧ s ≤ y.s) (hd : (y.d - x.de) * s = y.s * d) (h2 : keptT x.ts x.ls (lgA x y) (faA x) f = 2) :
    ckLeg ⟨x.su + x.de, x.su + x.de + d, s, (agAt x.gs y.g.toNat).g⟩ = 0 ∧ okPr (x.su + x.de + d) ∧ okTL x.ts (loadedM x.ts x.ls ⟨x.su + x.de, x.su + x.de + d, s, (agAt x.gs y.g.toNat).g⟩ g) ∧ keptM x.ts (loadedM x.ts x.ls ⟨x.su + x.de, x.su + x.de + d, s, (agAt x.gs y.g.toNat).g⟩ g) (x.su + x.de + d) (faA x) ≠ 0 := by
  have T := tk_ok H hy
  have hb : begins (lgA x y) ⟨x.su + x.de, x.su + x.de + d, s, (agAt x.gs y.g.toNat).g⟩ := begin_mk (x := lgA x y) hs (show (x.su + y.d - (x.su + x.de)) * s = y.s * d by rw [show x.su + y.d - (x.su + x.de) = y.d - x.de by omega]; exact hd)
  have hO := hb.ok T.xx
  exact ⟨ckLeg_yes hO hs.1, hO.t, loaded_ok H.k hO hg, hb.kept T hf hg h2⟩
/-! ### The direct ascent as a schedule -/
end Go.Proofs.YthilaakeimfedaaGreatDoor
namespace Go.Proofs.YthilaakeimfedaaGreatDoor
open Go.RowKit
section
variable {rs t s : List Res}
instance (priority := low) gvC {v : Value} {size : Nat} {l : List (List Value)} [h : Gv t v size l] : Gv (s ++ t) v size l := ⟨by
  obtain ⟨r, hr, hg⟩ := h.out
  exact ⟨r, List.mem_append_right _ hr, hg⟩⟩
instance (priority := low) bxC {g : Nat} {u : TypeId} {xs : List Value} [h : Bx t g u xs] : Bx (s ++ t) g u xs := ⟨List.mem_append_right _ h.out⟩
theorem gv_l {v : Value} {size : Nat} {l : List (List Value)} (h : GvR s v size l) : GvR (s ++ t) v size l := by
  obtain ⟨r, hr, hg⟩ := h
  exact ⟨r, List.mem_append_left _ hr, hg⟩
theorem gv_r {v : Value} {size : Nat} {l : List (List Value)} (h : GvR t v size l) : GvR (s ++ t) v size l := by
  obtain ⟨r, hr, hg⟩ := h
  exact ⟨r, List.mem_append_right _ hr, hg⟩
end
theorem bump_len (out : List (Int × Int)) (s : Int) : (bump out s).length = out.length := by
  unfold bump
  cases hl : out.getLast? with
  | none => rfl
  | some q =>
    have : out ≠ [] := by
      intro h0
      rw [h0] at hl
      cases hl
    have hp : 0 < out.length := List.length_pos_iff.2 this
    show (out.dropLast ++ [_]).length = _
    rw [List.length_append, List.length_dropLast, List.length_singleton]
    omega
def stW (k : Nat) (p : Int × Int) : Prop := 0 ≤ p.2 ∧ p.2 ≤ (k : Int) * 100000
theorem stW_s {k : Nat} {s : Int} {out : List (Int × Int)} (hs : 0 ≤ s ∧ s ≤ 100000) (h : ∀ p ∈ out, stW k p) : ∀ p ∈ bump out s, stW (k + 1) p := by
  unfold bump
  cases hl : out.getLast? with
  | none => exact fun p hp => by have := h p hp; unfold stW at this ⊢; omega
  | some q =>
    intro p hp
    have hq := h q (List.mem_of_getLast? hl)
    unfold stW at hq
    rcases List.mem_append.1 hp with hp | hp
    · have := h p (List.dropLast_subset _ hp)
      unfold stW at this ⊢
      omega
    · rw [List.mem_singleton.1 hp]
      unfold stW
      dsimp only
      omega
theorem stW_a {k : Nat} {s d : Int} {out : List (Int × Int)} (hs : 0 ≤ s ∧ s ≤ 100000) (h : ∀ p ∈ out, stW k p) : ∀ p ∈ out ++ [(d, s)], stW (k + 1) p := by
  intro p hp
  rcases List.mem_append.1 hp with hp | hp
  · have := h p hp
    unfold stW at this ⊢
    omega
  · rw [List.mem_singleton.1 hp]
    unfold stW
    dsimp only
    omega
theorem stW_n {k : Nat} {out : List (Int × Int)} (h : ∀ p ∈ out, stW k p) : ∀ p ∈ out, stW (k + 1) p := fun p hp => by
  have := h p hp
  unfold stW at this ⊢
  omega
theorem stW_0 (k : Nat) : ∀ p ∈ ([] : List (Int × Int)), stW k p := fun p hp => by cases hp
theorem sp_bump {out : List (Int × Int)} {s : Int} {p : Int × Int} (h1 : 1 ≤ out.length) (h : out[out.length - 1]? = some p) : (out.map cSp).set (out.length - 1) (lay (cSp p) 1 [.int .i64 (p.2 + s)]) = (bump out s).map cSp := by
  rw [← bump_set (i := out.length - 1) (by omega) h, List.map_set]
  rfl
theorem sp_snoc (out : List (Int × Int)) (p : Int × Int) : out.map cSp ++ [cSp p] = (out ++ [p]).map cSp := by rw [List.map_append]; rfl
def spL (x : Asc) (L : List Dl) (F : List Int) : List (Int × Int) := if wsE x L F ≠ 0 then [] else stpA x L
section
variable {x : Asc} {L : List Dl} {F : List Int}
theorem spL_1 (h : wsE x L F ≠ 0) : spL x L F = [] := if_pos h
theorem spL_2 (h : wsE x L F = 0) : spL x L F = stpA x L := if_neg (fun hh => hh h)
theorem so_2 : (soE L F).2 = ckSch L F := by
  by_cases h : ckSch L F ≠ 0
  · rw [soE_1 h]
  · rw [soE_2 (Decidable.not_not.1 h)]
    exact (Decidable.not_not.1 h).symm
theorem gen_bad : ∀ (n : Nat) (x : Asc) (s : Int) (L : List Dl) (F : List Int), (genN n x s L F).2 ≠ 0 → (genN n x s L F).1 = ([], [])
  | n, x, s, L, F, h => by
    by_cases hd : x.de = 0
    · rw [gen_0 hd] at h
      exact absurd rfl h
    match n, h with
    | 0, _ => rw [gen_8 hd]
    | n + 1, h =>
      by_cases hg : gasA x x.de < 0
      · rw [gen_14 hd (by omega) hg]
      by_cases h1 : (dcA x (gUp x)).1 = 2
      · rw [gen_up hd (by omega) hg h1, Nat.add_sub_cancel] at h ⊢
        exact gen_bad n _ _ _ _ h
      by_cases hs : s = 60
      · rw [gen_12 hd (by omega) hg h1 hs]
      by_cases h2 : (dcA x (gSy x)).1 = 2
      · rw [gen_sy hd (by omega) hg h1 hs h2, Nat.add_sub_cancel] at h ⊢
        exact gen_bad n _ _ _ _ h
      · rw [gen_26 hd (by omega) hg h1 hs h2]
theorem gen_flw (H : okAsc x) (h : (genA x).2 = 0) : flwF x (genA x).1.1 = 0 ∧ wsE x (genA x).1.1 (genA x).1.2 = 0 ∧ csE x (genA x).1.1 (genA x).1.2 = (smS (genA x).1.1 (genA x).1.1.length, 0) := by
  obtain ⟨hS, hc⟩ := gen_chk H h
  refine ⟨?_, by rw [wsE_2 H.ck]; exact hS.ck, by rw [csE_2 H.ck]; exact hc⟩
  rw [chkA_2 hS.ck] at hc
  exact chk_flw hS.l (by rw [hc])
theorem gn_ok (h : (gnE x).2 = 0) : ckAsc x = 0 ∧ (genA x).2 = 0 := by
  by_cases h1 : ckAsc x ≠ 0
  · rw [gnE_1 h1] at h
    exact absurd h h1
  · have h2 := Decidable.not_not.1 h1
    rw [gnE_2 h2] at h
    exact ⟨h2, h⟩
theorem gn_bad (h : (gnE x).2 ≠ 0) : (gnE x).1 = ([], []) := by
  by_cases h1 : ckAsc x ≠ 0
  · rw [gnE_1 h1]
  · have h2 := Decidable.not_not.1 h1
    rw [gnE_2 h2] at h ⊢
    exact gen_bad 400 x 0 [] [] h
theorem cs_ok (h : (csE x L F).2 = 0) : okAsc x ∧ okSch L F ∧ flwF x L = 0 ∧ ∀ i y f, L[i]? = some y → F[i]? = some f → f ≤ x.r.fi ∧ keptT (behA x L i).ts (behA x L i).ls (lgA (behA x L i) y) (faA (behA x L i)) f.toNat = 2 := by
  by_cases h1 : ckAsc x ≠ 0
  · rw [csE_1 h1] at h
    exact absurd h h1
  · have h2 := Decidable.not_not.1 h1
    rw [csE_2 h2] at h
    by_cases h3 : ckSch L F ≠ 0
    · rw [chkA_1 h3] at h
      exact absurd h h3
    · have h4 := Decidable.not_not.1 h3
      rw [chkA_2 h4] at h
      have hS := ckSch_ok h4
      exact ⟨ckAsc_ok h2, hS, chk_flw hS.l h, fun i y f hy hf => chk_at hS.l h i y f hy hf⟩
theorem rev_at {α : Type} {T : List α} {n k : Nat} (h : T.length = n) (hk : k < n) : ∃ q, T.reverse[k]? = some q := get_some _ (by rw [List.length_reverse]; omega)
theorem stp_len : ∀ (L : List Dl) (d : Int) (st : Bool) (out : List (Int × Int)), (stpF L d st out).length ≤ out.length + L.length
  | [], d, st, out => by rw [stpF]; exact Nat.le_refl _
  | y :: t, d, st, out => by
    rw [stpF, List.length_cons]
    split
    · split
      · have := stp_len t y.d true (bump out y.s)
        rw [bump_len] at this
        omega
      · have := stp_len t y.d true (out ++ [(d, y.s)])
        rw [List.length_append, List.length_singleton] at this
        omega
    · have := stp_len t y.d false out
      omega
theorem stpA_len (x : Asc) (L : List Dl) : (stpA x L).length ≤ L.length := by
  have := stp_len L x.de false []
  rw [List.length_nil, Nat.zero_add] at this
  exact this
theorem tk_cons {v w u : Value} {T : List Value} : tkC x L (T.map fun u => (v, u, w)) ++ [cAt v u w (behA x L (T.length + 1))] = tkC x L ((u :: T).map fun u => (v, u, w)) := by
  rw [List.map_cons, tkC, List.length_map]
theorem tk_at {v w : Value} {T : List Value} {k : Nat} {u : Value} (h : T.reverse[k]? = some u) : (tkC x L (T.map fun u => (v, u, w)))[k]? = some (cAt v u w (behA x L (k + 1))) :=
  tkC_get (q := (v, u, w)) (by rw [← List.map_reverse, List.getElem?_map, h]; rfl)
end
end Go.Proofs.YthilaakeimfedaaGreatDoor
