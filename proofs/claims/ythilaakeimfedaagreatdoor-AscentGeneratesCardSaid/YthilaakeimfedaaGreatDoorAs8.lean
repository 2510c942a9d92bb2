/-
  Small laws of chapter 4 that the walks ask. Conditions: those in front of each theorem; no program in sight.
-/
import Derived.Test.YthilaakeimfedaaGreatDoorTraj5
import Derived.Test.YthilaakeimfedaaGreatDoorArgB
namespace Go.Proofs.YthilaakeimfedaaGreatDoor
/-! ### Depths -/
def okD (n : Int) : Prop := 0 ≤ n ∧ n ≤ 30000
instance (n : Int) : Decidable (okD n) := by unfold okD; infer_instance
def ixD : List Int → Nat → Int
  | [], _ => -1
  | n :: t, k => if okD n then ixD t (k + 1) else k
section
variable {es : List Int} {k : Nat} {e : Int}
theorem ixD_yes (h : es[k]? = some e) (he : okD e) : ixD (es.drop k) k = ixD (es.drop (k + 1)) (k + 1) := by rw [drop_cons h]; exact if_pos he
theorem ixD_no (h : es[k]? = some e) (he : ¬ okD e) : ixD (es.drop k) k = k := by rw [drop_cons h]; exact if_neg he
theorem ixD_end (h : es.length ≤ k) : ixD (es.drop k) k = -1 := by rw [drop_all h]; rfl
end
def depE (es : List Int) : Int := if ixD es 0 ≥ 0 then 2 else 0
theorem dep_1 (d : Int) : depE [d] = if 0 ≤ d ∧ d ≤ 30000 then 0 else 2 := by
  by_cases h : okD d
  · have e : ixD [d] 0 = -1 := by unfold ixD; rw [if_pos h]; rfl
    unfold depE
    rw [e, if_neg (by decide)]
    exact (if_pos h).symm
  · have e : ixD [d] 0 = 0 := by unfold ixD; rw [if_neg h]; rfl
    unfold depE
    rw [e, if_pos (by decide)]
    exact (if_neg h).symm
/-! ### What is asked of rules -/
def erR (r : Rl) (es : List Int) : Int := if ckRl r ≠ 0 then ckRl r else depE es
theorem first_2 (a b : Int) : firstE [a, b] = if a ≠ 0 then a else b := by
  show (if a = 0 then (if b = 0 then 0 else b) else a) = if a ≠ 0 then a else b
  by_cases h : a = 0
  · rw [if_pos h, if_neg (show ¬ a ≠ 0 from fun hh => hh h)]
    by_cases h2 : b = 0
    · rw [if_pos h2, h2]
    · rw [if_neg h2]
  · rw [if_neg h, if_pos h]
theorem erR_first (r : Rl) (es : List Int) : firstE [ckRl r, depE es] = erR r es := first_2 _ _
theorem erR_ok {r : Rl} {es : List Int} (h : erR r es = 0) : okRl r ∧ depE es = 0 := by
  unfold erR at h
  by_cases h1 : ckRl r ≠ 0
  · rw [if_pos h1] at h; exact absurd h h1
  · rw [if_neg h1] at h; exact ⟨ckRl_ok (Decidable.not_not.1 h1), h⟩
theorem dep1_ok {d : Int} (h : depE [d] = 0) : 0 ≤ d ∧ d ≤ 30000 := by
  rw [dep_1] at h
  split at h
  · assumption
  · exact absurd h (by decide)
def facE (r : Rl) (d : Int) : Int × Int := if erR r [d] ≠ 0 then (0, erR r [d]) else (facR r d, 0)
section
variable {r : Rl} {d a b : Int}
theorem facE_1 (h : erR r [d] ≠ 0) : facE r d = (0, erR r [d]) := if_pos h
theorem facE_2 (h : erR r [d] = 0) : facE r d = (facR r d, 0) := if_neg (fun hh => hh h)
end
section
variable {x : Asc} {d : Int}
end
/-! ### The limits of the statements -/
def lightP (x : Asc) : Prop :=
  ¬ (2 < x.ts.length ∧ x.ts.length ≤ 16 ∨ 18 < x.ts.length ∨ 18 < x.ls.length) ∧ ¬ (3 < x.gs.length ∧ x.gs.length ≤ 8 ∨ 10 < x.gs.length ∨ 1 < x.r.fi ∧ x.r.fi ≤ 6) ∧ (¬ (0 ≤ x.de ∧ x.de ≤ 30000) ∨ ¬ (1 ≤ x.r.gr ∧ x.r.gr ≤ 3000) ∨ x.de ≤ 12 * x.r.gr)
instance (x : Asc) : Decidable (lightP x) := by unfold lightP; infer_instance
theorem light_len {x : Asc} (h : lightP x) : x.ts.length ≤ 18 ∧ x.ls.length ≤ 18 ∧ x.gs.length ≤ 10 := by
  obtain ⟨h1, h2, _⟩ := h
  omega
def shortP (L : List Dl) (F : List Int) : Prop := (L.length ≤ 30 ∨ 400 < L.length ∧ L.length ≤ 402) ∧ F.length ≤ 402
instance (L : List Dl) (F : List Int) : Decidable (shortP L F) := by unfold shortP; infer_instance
/-! ### Stops -/
section
variable {L : List Dl} {k : Nat} {y : Dl} {d : Int} {st : Bool} {out : List (Int × Int)}
end
end Go.Proofs.YthilaakeimfedaaGreatDoor
namespace Go.Proofs.YthilaakeimfedaaGreatDoor
open Go.RowKit
section
variable {x : Asc} {L : List Dl} {tc tl tg : TypeId}
end
/-! ### The error of the legs of a schedule -/
def flwF : Asc → List Dl → Int
  | _, [] => 0
  | x, y :: t => if ckAl x y ≠ 0 then ckAl x y else flwF (bhA x y) t
section
variable {x : Asc} {L : List Dl} {F : List Int} {k : Nat} {y : Dl}
theorem chk_flw {t : Int} : ∀ {L : List Dl} {F : List Int} {x : Asc} {j : Int}, F.length = L.length → (chkF t x L F j).2 = 0 → flwF x L = 0
  | [], _, _, _, _, _ => rfl
  | z :: l, [], x, j, hl, h => by simp at hl
  | z :: l, f :: F, x, j, hl, h => by
    rw [chkF] at h
    by_cases h1 : ckAl x z ≠ 0
    · rw [if_pos h1] at h; exact absurd h h1
    rw [if_neg h1] at h
    by_cases h2 : f > x.r.fi
    · rw [if_pos h2] at h; exact absurd (show (2 : Int) = 0 from h) (by decide)
    rw [if_neg h2] at h
    by_cases h3 : keptT x.ts x.ls (lgA x z) (faA x) f.toNat ≠ 2
    · rw [if_pos h3] at h; exact absurd (show (22 : Int) = 0 from h) (by decide)
    rw [if_neg h3] at h
    rw [flwF, if_neg h1]
    exact chk_flw (by simpa using hl) h
end
/-! ### What functions give back -/
def csE (x : Asc) (L : List Dl) (F : List Int) : Int × Int := if ckAsc x ≠ 0 then (0, ckAsc x) else chkA x L F
theorem csE_1 {x : Asc} {L : List Dl} {F : List Int} (h : ckAsc x ≠ 0) : csE x L F = (0, ckAsc x) := if_pos h
theorem csE_2 {x : Asc} {L : List Dl} {F : List Int} (h : ckAsc x = 0) : csE x L F = chkA x L F := if_neg (fun hh => hh h)
theorem ag_first (x : Ag) : firstE [ckGas x.g.o x.g.h, depE [x.d]] = ckAg x := by
  rw [first_2, dep_1]
  rfl
end Go.Proofs.YthilaakeimfedaaGreatDoor
namespace Go.Proofs.YthilaakeimfedaaGreatDoor
open Go.RowKit
theorem fac_quo {r : Rl} (h : okRl r) {d : Int} (hd : 0 ≤ d ∧ d ≤ 30000) (h6 : ¬ d ≥ r.an) : 0 ≤ ((r.hi - r.lo) * d + r.an - 1) / r.an ∧ ((r.hi - r.lo) * d + r.an - 1) / r.an ≤ 1000 := by
  have h1 := h.lo; have h2 := h.hi; have h3 := h.le; have h4 := h.an
  have h5 := fac_prod h hd
  have h7 : 0 ≤ ((r.hi - r.lo) * d + r.an - 1) / r.an := Int.ediv_nonneg (by omega) (by omega)
  refine ⟨h7, ?_⟩
  have h9 : (r.hi - r.lo) * d ≤ (r.hi - r.lo) * r.an := Int.mul_le_mul_of_nonneg_left (by omega) (by omega)
  have : ((r.hi - r.lo) * d + r.an - 1) / r.an < r.hi - r.lo + 1 := Int.ediv_lt_of_lt_mul (by omega) (by rw [Int.add_mul, Int.one_mul]; omega)
  omega
theorem hi_an {r : Rl} (h : okRl r) : 0 ≤ r.hi * r.an ∧ r.hi * r.an ≤ 30000000 := by
  have h2 := h.hi; have h4 := h.an
  have h5 : r.hi * r.an ≤ 1000 * r.an := Int.mul_le_mul_of_nonneg_right h2.2 (by omega)
  have h6 : 0 ≤ r.hi * r.an := Int.mul_nonneg h2.1 (by omega)
  omega
section
variable {l : List Ag} {k : Nat} {a : Ag} {d : Int}
theorem bsA_y (h : l[k]? = some a) (h1 : d ≤ a.d ∧ (bsA l d k < 0 ∨ a.g.o > (agAt l (bsA l d k).toNat).g.o)) : (k : Int) = bsA l d (k + 1) := by
  rw [← agAt_get h] at h1
  exact (if_pos h1).symm
theorem bsA_n (h : l[k]? = some a) (h1 : ¬ (d ≤ a.d ∧ (bsA l d k < 0 ∨ a.g.o > (agAt l (bsA l d k).toNat).g.o))) : bsA l d k = bsA l d (k + 1) := by
  rw [← agAt_get h] at h1
  exact (if_neg h1).symm
theorem ag_cell {i : Int} (h0 : 0 ≤ i) (h1 : i < l.length) : (l.map cAg)[i.toNat]? = some (cAg (agAt l i.toNat)) := by
  obtain ⟨a, ha⟩ := get_some l (k := i.toNat) (by omega)
  rw [agAt_get ha]
  exact map_get cAg ha
theorem ags_y1 (h : l[k]? = some a) (hx : ckGas a.g.o a.g.h ≠ 0) : ckAgs (l.drop k) = ckGas a.g.o a.g.h := by rw [ags_yes h (by rw [ckAg_1 hx]; exact hx), ckAg_1 hx]
theorem ags_y2 (h : l[k]? = some a) (hx : ¬ ckGas a.g.o a.g.h ≠ 0) (h2 : ¬ (0 ≤ a.d ∧ a.d ≤ 30000)) : ckAgs (l.drop k) = 2 := by
  have e : ckAg a = 2 := by rw [ckAg_2 hx, if_neg h2]
  rw [ags_yes h (by rw [e]; decide), e]
theorem ags_n2 (h : l[k]? = some a) (hx : ¬ ckGas a.g.o a.g.h ≠ 0) (h2 : 0 ≤ a.d ∧ a.d ≤ 30000) : ckAgs (l.drop k) = ckAgs (l.drop (k + 1)) := by
  have e : ckAg a = 0 := by rw [ckAg_2 hx, if_pos h2]
  exact ags_no h (fun hh => hh e)
end
def opA (x : Asc) : Asc := if ckAsc x ≠ 0 then zAsc else x
theorem opA_1 {x : Asc} (h : ckAsc x ≠ 0) : opA x = zAsc := if_pos h
theorem opA_2 {x : Asc} (h : ckAsc x = 0) : opA x = x := if_neg (fun hh => hh h)
theorem oneAg (l : List Ag) : ∀ c ∈ (l.map cAg).flatten, c.oneCell' = true := one_ag l
theorem cI_flat : ∀ l : List Int, ∀ c ∈ (l.map cI).flatten, c.oneCell' = true := one_map cI (fun a c hc => by
  simp only [cI, List.mem_cons, List.not_mem_nil, or_false] at hc
  subst hc
  rfl)
theorem kept_su {x : Asc} (H : okAsc x) : keptE x.ts x.ls x.su x.r.hi = (keptM x.ts x.ls x.su x.r.hi, 0) := by
  have h1 := H.su; have h2 := H.r.hi
  exact keptE_3 (fun hh => hh (ckLoads_mk H.k)) ⟨by unfold okPr; omega, h2⟩
def drE (x : Asc) : Int × Int := if ckAsc x ≠ 0 then (0, ckAsc x) else dirA x
theorem drE_1 {x : Asc} (h : ckAsc x ≠ 0) : drE x = (0, ckAsc x) := if_pos h
theorem drE_2 {x : Asc} (h : ckAsc x = 0) : drE x = dirA x := if_neg (fun hh => hh h)
theorem dir_up {x : Asc} (H : okAsc x) (hd : ¬ x.de = 0) (hg : ¬ gasA x x.de < 0) : okAl x (upA x 0 (gasA x x.de)) := by
  have h1 := gasA_in x x.de; have h2 := H.de
  exact up_ok H (by omega) (by omega)
theorem beh_len {x : Asc} (H : okAsc x) : x.ts.length ≤ 16 ∧ x.ls.length = x.ts.length ∧ x.gs.length ≤ 8 := ⟨H.k.b, H.k.len, H.g8⟩
theorem dl_snoc (L : List Dl) (y : Dl) : L.map cDl ++ [cDl y] = (L ++ [y]).map cDl := by rw [List.map_append]; rfl
theorem ci_snoc (F : List Int) (f : Int) : F.map cI ++ [[Value.int .i64 f]] = (F ++ [f]).map cI := by rw [List.map_append]; rfl
def gnE (x : Asc) : Sch := if ckAsc x ≠ 0 then (([], []), ckAsc x) else genA x
theorem gnE_1 {x : Asc} (h : ckAsc x ≠ 0) : gnE x = (([], []), ckAsc x) := if_pos h
theorem gnE_2 {x : Asc} (h : ckAsc x = 0) : gnE x = genA x := if_neg (fun hh => hh h)
def soE (L : List Dl) (F : List Int) : Int × Int := if ckSch L F ≠ 0 then (0, ckSch L F) else (smS L L.length, 0)
theorem soE_1 {L : List Dl} {F : List Int} (h : ckSch L F ≠ 0) : soE L F = (0, ckSch L F) := if_pos h
theorem soE_2 {L : List Dl} {F : List Int} (h : ckSch L F = 0) : soE L F = (smS L L.length, 0) := if_neg (fun hh => hh h)
def wsE (x : Asc) (L : List Dl) (F : List Int) : Int := if ckAsc x ≠ 0 then ckAsc x else ckSch L F
theorem wsE_1 {x : Asc} {L : List Dl} {F : List Int} (h : ckAsc x ≠ 0) : wsE x L F = ckAsc x := if_pos h
theorem wsE_2 {x : Asc} {L : List Dl} {F : List Int} (h : ckAsc x = 0) : wsE x L F = ckSch L F := if_neg (fun hh => hh h)
theorem wsE_bad {x : Asc} {L : List Dl} {F : List Int} (h : wsE x L F ≠ 0) : csE x L F = (0, wsE x L F) := by
  by_cases h1 : ckAsc x ≠ 0
  · rw [csE_1 h1, wsE_1 h1]
  · have h2 := Decidable.not_not.1 h1
    rw [wsE_2 h2] at h ⊢
    rw [csE_2 h2, chkA_1 h]
theorem wsE_ok {x : Asc} {L : List Dl} {F : List Int} (h : wsE x L F = 0) : okAsc x ∧ okSch L F ∧ csE x L F = chkF (smS L L.length) x L F 0 := by
  by_cases h1 : ckAsc x ≠ 0
  · rw [wsE_1 h1] at h; exact absurd h h1
  · have h2 := Decidable.not_not.1 h1
    rw [wsE_2 h2] at h
    exact ⟨ckAsc_ok h2, ckSch_ok h, by rw [csE_2 h2, chkA_2 h]⟩
def nsE (x : Asc) : Int × Int := if ckAsc x ≠ 0 then (0, ckAsc x) else nsA x
theorem nsE_1 {x : Asc} (h : ckAsc x ≠ 0) : nsE x = (0, ckAsc x) := if_pos h
theorem nsE_2 {x : Asc} (h : ckAsc x = 0) : nsE x = nsA x := if_neg (fun hh => hh h)
theorem kp_E {x : Asc} {y : Dl} (H : okAsc x) (hy : okAl x y) {f : Int} (hf : 0 ≤ f ∧ f ≤ 6) : keptTE x.ts x.ls (lgA x y) (faA x) f = (keptT x.ts x.ls (lgA x y) (faA x) f.toNat, 0) := by
  obtain ⟨n, rfl⟩ := Int.eq_ofNat_of_zero_le hf.1
  exact keptTE_2 (tk_fine H hy hf)
end Go.Proofs.YthilaakeimfedaaGreatDoor
