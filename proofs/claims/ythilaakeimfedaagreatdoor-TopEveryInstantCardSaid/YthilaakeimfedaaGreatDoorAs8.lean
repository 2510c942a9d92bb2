/-
  Small laws of chapter 4 that the walks ask. Conditions: those in front of each theorem; no program in sight.
-/
import Derived.Test.YthilaakeimfedaaGreatDoorTraj5
import Derived.Test.YthilaakeimfedaaGreatDoorArgB
namespace Go.Proofs.YthilaakeimfedaaGreatDoor
open Go.RowKit
abbrev Tri := Value × Value × Value
def tkC (x : Asc) (L : List Dl) : List Tri → List (List Value)
  | [] => []
  | q :: t => tkC x L t ++ [cAt q.1 q.2.1 q.2.2 (behA x L (t.length + 1))]
def tkR (tc tl tg : TypeId) (x : Asc) (L : List Dl) : List Tri → List Res
  | [] => []
  | q :: t => sl q.1 tc 4 ((behA x L (t.length + 1)).ts.map cCp) :: sl q.2.1 tl 4 ((behA x L (t.length + 1)).ls.map cLd) :: sl q.2.2 tg 3 ((behA x L (t.length + 1)).gs.map cAg) :: tkR tc tl tg x L t
section
variable {x : Asc} {L : List Dl} {tc tl tg : TypeId}
theorem tkC_len : ∀ T : List Tri, (tkC x L T).length = T.length
  | [] => rfl
  | q :: t => by rw [tkC, List.length_append, tkC_len t]; rfl
theorem tkC_get {i : Nat} {q : Tri} : ∀ {T : List Tri}, T.reverse[i]? = some q → (tkC x L T)[i]? = some (cAt q.1 q.2.1 q.2.2 (behA x L (i + 1)))
  | [], h => by simp at h
  | a :: t, h => by
    rw [List.reverse_cons] at h
    unfold tkC
    rcases Nat.lt_or_ge i t.length with hi | hi
    · rw [List.getElem?_append_left (by simpa using hi)] at h
      rw [List.getElem?_append_left (by rw [tkC_len]; exact hi)]
      exact tkC_get h
    · rw [List.getElem?_append_right (by simpa using hi)] at h
      have h0 : i - t.reverse.length = 0 := by
        rcases Nat.eq_zero_or_pos (i - t.reverse.length) with h9 | h9
        · exact h9
        · rw [List.getElem?_eq_none (by simp at h9 ⊢; omega)] at h; cases h
      rw [h0] at h
      have hv : a = q := by simpa using h
      have hi2 : i = t.length := by simp at h0; omega
      subst hv
      subst hi2
      rw [List.getElem?_append_right (by rw [tkC_len]; exact Nat.le_refl _), tkC_len, Nat.sub_self]
      rfl
theorem tkR_mem {i : Nat} {q : Tri} : ∀ {T : List Tri}, T.reverse[i]? = some q → sl q.1 tc 4 ((behA x L (i + 1)).ts.map cCp) ∈ tkR tc tl tg x L T ∧ sl q.2.1 tl 4 ((behA x L (i + 1)).ls.map cLd) ∈ tkR tc tl tg x L T ∧ sl q.2.2 tg 3 ((behA x L (i + 1)).gs.map cAg) ∈ tkR tc tl tg x L T
  | [], h => by simp at h
  | a :: t, h => by
    rw [List.reverse_cons] at h
    unfold tkR
    rcases Nat.lt_or_ge i t.length with hi | hi
    · rw [List.getElem?_append_left (by simpa using hi)] at h
      obtain ⟨h1, h2, h3⟩ := tkR_mem h
      exact ⟨.tail _ (.tail _ (.tail _ h1)), .tail _ (.tail _ (.tail _ h2)), .tail _ (.tail _ (.tail _ h3))⟩
    · rw [List.getElem?_append_right (by simpa using hi)] at h
      have h0 : i - t.reverse.length = 0 := by
        rcases Nat.eq_zero_or_pos (i - t.reverse.length) with h9 | h9
        · exact h9
        · rw [List.getElem?_eq_none (by simp at h9 ⊢; omega)] at h; cases h
      rw [h0] at h
      have hv : a = q := by simpa using h
      have hi2 : i = t.length := by simp at h0; omega
      subst hv
      subst hi2
      exact ⟨.head _, .tail _ (.head _), .tail _ (.tail _ (.head _))⟩
theorem tkR_own : ∀ {T : List Tri}, ∀ r ∈ tkR tc tl tg x L T, r.own = true
  | [], r, h => by cases h
  | a :: t, r, h => by
    unfold tkR at h
    rcases List.mem_cons.1 h with rfl | h
    · exact sl_own _ _ _ _
    rcases List.mem_cons.1 h with rfl | h
    · exact sl_own _ _ _ _
    rcases List.mem_cons.1 h with rfl | h
    · exact sl_own _ _ _ _
    · exact tkR_own r h
theorem tkR_sinks : ∀ {T : List Tri}, ∀ r ∈ tkR tc tl tg x L T, Sinks r
  | [], r, h => by cases h
  | a :: t, r, h => by
    unfold tkR at h
    rcases List.mem_cons.1 h with rfl | h
    · exact sl_sinks _ _ _ _
    rcases List.mem_cons.1 h with rfl | h
    · exact sl_sinks _ _ _ _
    rcases List.mem_cons.1 h with rfl | h
    · exact sl_sinks _ _ _ _
    · exact tkR_sinks r h
theorem gv_tk2 {i : Nat} {q : Tri} {T : List Tri} (h : T.reverse[i]? = some q) : GvR (tkR tc tl tg x L T) q.2.1 4 ((behA x L (i + 1)).ls.map cLd) := ⟨_, (tkR_mem h).2.1, sl_gives _ _ _ _⟩
theorem beh_ok (H : okAsc x) : ∀ {L : List Dl} {k : Nat}, k ≤ L.length → (∀ i, i < k → ∀ y, L[i]? = some y → ckAl (behA x L i) y = 0) → okAsc (behA x L k)
  | _, 0, _, _ => H
  | L, k + 1, hk, h => by
    obtain ⟨y, hy⟩ := get_some L (k := k) (by omega)
    rw [behA_s hy]
    exact bh_ok (beh_ok H (by omega) fun i hi => h i (by omega)) (ckAl_ok (h k (by omega) y hy)).1
end
/-! ### The error of the legs of a schedule -/
def flwF : Asc → List Dl → Int
  | _, [] => 0
  | x, y :: t => if ckAl x y ≠ 0 then ckAl x y else flwF (bhA x y) t
def flwE (x : Asc) (L : List Dl) (F : List Int) : Int := if ckAsc x ≠ 0 then ckAsc x else if ckSch L F ≠ 0 then ckSch L F else flwF x L
section
variable {x : Asc} {L : List Dl} {F : List Int} {k : Nat} {y : Dl}
theorem flw_yes (h : L[k]? = some y) (h1 : ckAl x y ≠ 0) : flwF x (L.drop k) = ckAl x y := by rw [drop_cons h]; exact if_pos h1
theorem flw_no (h : L[k]? = some y) (h1 : ¬ ckAl x y ≠ 0) : flwF x (L.drop k) = flwF (bhA x y) (L.drop (k + 1)) := by rw [drop_cons h]; exact if_neg h1
theorem flw_end (h : L.length ≤ k) : flwF x (L.drop k) = 0 := by rw [drop_all h]; rfl
theorem flwE_1 (h : ckAsc x ≠ 0) : flwE x L F = ckAsc x := if_pos h
theorem flwE_2 (h : ckAsc x = 0) (h2 : ckSch L F ≠ 0) : flwE x L F = ckSch L F := by unfold flwE; rw [if_neg (fun hh => hh h), if_pos h2]
theorem flwE_3 (h : ckAsc x = 0) (h2 : ckSch L F = 0) : flwE x L F = flwF x L := by unfold flwE; rw [if_neg (fun hh => hh h), if_neg (fun hh => hh h2)]
theorem flw_all : ∀ {L : List Dl} {x : Asc}, flwF x L = 0 → ∀ i y, L[i]? = some y → ckAl (behA x L i) y = 0
  | [], _, _, i, y, h => by simp at h
  | z :: t, x, h, i, y, hy => by
    have h1 : ckAl x z = 0 := by
      apply Decidable.byContradiction
      intro hh
      rw [flwF, if_pos hh] at h
      exact hh h
    rw [flwF, if_neg (fun hh => hh h1)] at h
    match i with
    | 0 => obtain rfl : z = y := by simpa using hy
           exact h1
    | i + 1 => rw [behA_cons]; exact flw_all h i y (by simpa using hy)
theorem chk_flw {t : Int} : ∀ {L : List Dl} {F : List Int} {x : Asc} {j : Int}, F.length = L.length → (chkF t x L F j).2 = 0 → flwF x L = 0
  | [], _, _, _, _, _ => rfl
  | z :: l, [], x, j, hl, h => by simp at hl
  | z :: l, f :: F, x, j, hl, h => by
    rw [chkF] at h
    by_cases h1 : ckAl x z ≠ 0
    · rw [if_pos h1] at h; exact absurd h h1
    rw [if_neg h1] at h
    by_cases h2 : f > x.r.fi
    · rw [if_pos h2] at h; exact absurd (show (2 : Int) = 0 from h) (by decide)
    rw [if_neg h2] at h
    by_cases h3 : keptT x.ts x.ls (lgA x z) (faA x) f.toNat ≠ 2
    · rw [if_pos h3] at h; exact absurd (show (22 : Int) = 0 from h) (by decide)
    rw [if_neg h3] at h
    rw [flwF, if_neg h1]
    exact chk_flw (by simpa using hl) h
theorem chk_at {t : Int} : ∀ {L : List Dl} {F : List Int} {x : Asc} {j : Int}, F.length = L.length → (chkF t x L F j).2 = 0 → ∀ i y f, L[i]? = some y → F[i]? = some f → f ≤ x.r.fi ∧ keptT (behA x L i).ts (behA x L i).ls (lgA (behA x L i) y) (faA (behA x L i)) f.toNat = 2
  | [], _, _, _, _, _, i, y, f, h, _ => by simp at h
  | z :: l, [], x, j, hl, h, _, _, _, _, _ => by simp at hl
  | z :: l, g :: F, x, j, hl, h, i, y, f, hy, hf => by
    rw [chkF] at h
    by_cases h1 : ckAl x z ≠ 0
    · rw [if_pos h1] at h; exact absurd h h1
    rw [if_neg h1] at h
    by_cases h2 : g > x.r.fi
    · rw [if_pos h2] at h; exact absurd (show (2 : Int) = 0 from h) (by decide)
    rw [if_neg h2] at h
    by_cases h3 : keptT x.ts x.ls (lgA x z) (faA x) g.toNat ≠ 2
    · rw [if_pos h3] at h; exact absurd (show (22 : Int) = 0 from h) (by decide)
    rw [if_neg h3] at h
    match i with
    | 0 =>
      obtain rfl : z = y := by simpa using hy
      obtain rfl : g = f := by simpa using hf
      exact ⟨by omega, Decidable.not_not.1 h3⟩
    | i + 1 =>
      rw [behA_cons]
      exact chk_at (x := bhA x z) (by simpa using hl) h i y f (by simpa using hy) (by simpa using hf)
end
/-! ### What functions give back -/
def FlwP (ta tc tl tg : TypeId) (x : Asc) (L : List Dl) (e : Int) (y : Value) (rs' : List Res) : Prop := ∃ s T, y = .tuple #[s, .int .i64 e] ∧ rs' = sl s ta 12 (tkC x L T) :: tkR tc tl tg x L T ∧ T.length = if e = 0 then L.length else 0
theorem FlwP_bad {ta tc tl tg : TypeId} {x : Asc} {L : List Dl} {e : Int} (he : e ≠ 0) : FlwP ta tc tl tg x L e (.tuple #[.slice none 0 0, .int .i64 e]) [sl (.slice none 0 0) ta 12 []] := ⟨_, [], rfl, rfl, by rw [if_neg he]; rfl⟩
theorem FlwP_own {ta tc tl tg : TypeId} {x : Asc} {L : List Dl} {s : Value} {T : List Tri} : ∀ r ∈ sl s ta 12 (tkC x L T) :: tkR tc tl tg x L T, r.own = true := by
  intro r hr
  rcases List.mem_cons.1 hr with rfl | hr
  · exact sl_own _ _ _ _
  · exact tkR_own r hr
theorem FlwP_sinks {ta tc tl tg : TypeId} {x : Asc} {L : List Dl} {e : Int} : ∀ y rs, FlwP ta tc tl tg x L e y rs → ∀ r ∈ rs, Sinks r := by
  rintro y rs ⟨s, T, _, rfl, _⟩ r hr
  rcases List.mem_cons.1 hr with rfl | hr
  · exact sl_sinks _ _ _ _
  · exact tkR_sinks r hr
def csE (x : Asc) (L : List Dl) (F : List Int) : Int × Int := if ckAsc x ≠ 0 then (0, ckAsc x) else chkA x L F
theorem csE_1 {x : Asc} {L : List Dl} {F : List Int} (h : ckAsc x ≠ 0) : csE x L F = (0, ckAsc x) := if_pos h
theorem csE_2 {x : Asc} {L : List Dl} {F : List Int} (h : ckAsc x = 0) : csE x L F = chkA x L F := if_neg (fun hh => hh h)
theorem ag_first (x : Ag) : firstE [ckGas x.g.o x.g.h, depE [x.d]] = ckAg x := by
  rw [first_2, dep_1]
  rfl
end Go.Proofs.YthilaakeimfedaaGreatDoor
namespace Go.Proofs.YthilaakeimfedaaGreatDoor
open Go.RowKit
theorem fac_quo {r : Rl} (h : okRl r) {d : Int} (hd : 0 ≤ d ∧ d ≤ 30000) (h6 : ¬ d ≥ r.an) : 0 ≤ ((r.hi - r.lo) * d + r.an - 1) / r.an ∧ ((r.hi - r.lo) * d + r.an - 1) / r.an ≤ 1000 := by
  have h1 := h.lo; have h2 := h.hi; have h3 := h.le; have h4 := h.an
  have h5 := fac_prod h hd
  have h7 : 0 ≤ ((r.hi - r.lo) * d + r.an - 1) / r.an := Int.ediv_nonneg (by omega) (by omega)
  refine ⟨h7, ?_⟩
  have h9 : (r.hi - r.lo) * d ≤ (r.hi - r.lo) * r.an := Int.mul_le_mul_of_nonneg_left (by omega) (by omega)
  have : ((r.hi - r.lo) * d + r.an - 1) / r.an < r.hi - r.lo + 1 := Int.ediv_lt_of_lt_mul (by omega) (by rw [Int.add_mul, Int.one_mul]; omega)
  omega
theorem hi_an {r : Rl} (h : okRl r) : 0 ≤ r.hi * r.an ∧ r.hi * r.an ≤ 30000000 := by
  have h2 := h.hi; have h4 := h.an
  have h5 : r.hi * r.an ≤ 1000 * r.an := Int.mul_le_mul_of_nonneg_right h2.2 (by omega)
  have h6 : 0 ≤ r.hi * r.an := Int.mul_nonneg h2.1 (by omega)
  omega
section
variable {l : List Ag} {k : Nat} {a : Ag} {d : Int}
theorem bsA_y (h : l[k]? = some a) (h1 : d ≤ a.d ∧ (bsA l d k < 0 ∨ a.g.o > (agAt l (bsA l d k).toNat).g.o)) : (k : Int) = bsA l d (k + 1) := by
  rw [← agAt_get h] at h1
  exact (if_pos h1).symm
theorem bsA_n (h : l[k]? = some a) (h1 : ¬ (d ≤ a.d ∧ (bsA l d k < 0 ∨ a.g.o > (agAt l (bsA l d k).toNat).g.o))) : bsA l d k = bsA l d (k + 1) := by
  rw [← agAt_get h] at h1
  exact (if_neg h1).symm
theorem ag_cell {i : Int} (h0 : 0 ≤ i) (h1 : i < l.length) : (l.map cAg)[i.toNat]? = some (cAg (agAt l i.toNat)) := by
  obtain ⟨a, ha⟩ := get_some l (k := i.toNat) (by omega)
  rw [agAt_get ha]
  exact map_get cAg ha
theorem ags_y1 (h : l[k]? = some a) (hx : ckGas a.g.o a.g.h ≠ 0) : ckAgs (l.drop k) = ckGas a.g.o a.g.h := by rw [ags_yes h (by rw [ckAg_1 hx]; exact hx), ckAg_1 hx]
theorem ags_y2 (h : l[k]? = some a) (hx : ¬ ckGas a.g.o a.g.h ≠ 0) (h2 : ¬ (0 ≤ a.d ∧ a.d ≤ 30000)) : ckAgs (l.drop k) = 2 := by
  have e : ckAg a = 2 := by rw [ckAg_2 hx, if_neg h2]
  rw [ags_yes h (by rw [e]; decide), e]
theorem ags_n2 (h : l[k]? = some a) (hx : ¬ ckGas a.g.o a.g.h ≠ 0) (h2 : 0 ≤ a.d ∧ a.d ≤ 30000) : ckAgs (l.drop k) = ckAgs (l.drop (k + 1)) := by
  have e : ckAg a = 0 := by rw [ckAg_2 hx, if_pos h2]
  exact ags_no h (fun hh => hh e)
end
def opA (x : Asc) : Asc := if ckAsc x ≠ 0 then zAsc else x
theorem opA_1 {x : Asc} (h : ckAsc x ≠ 0) : opA x = zAsc := if_pos h
theorem opA_2 {x : Asc} (h : ckAsc x = 0) : opA x = x := if_neg (fun hh => hh h)
theorem oneAg (l : List Ag) : ∀ c ∈ (l.map cAg).flatten, c.oneCell' = true := one_ag l
theorem beh_len {x : Asc} (H : okAsc x) : x.ts.length ≤ 16 ∧ x.ls.length = x.ts.length ∧ x.gs.length ≤ 8 := ⟨H.k.b, H.k.len, H.g8⟩
theorem dl_snoc (L : List Dl) (y : Dl) : L.map cDl ++ [cDl y] = (L ++ [y]).map cDl := by rw [List.map_append]; rfl
theorem ci_snoc (F : List Int) (f : Int) : F.map cI ++ [[Value.int .i64 f]] = (F ++ [f]).map cI := by rw [List.map_append]; rfl
def gnE (x : Asc) : Sch := if ckAsc x ≠ 0 then (([], []), ckAsc x) else genA x
theorem gnE_1 {x : Asc} (h : ckAsc x ≠ 0) : gnE x = (([], []), ckAsc x) := if_pos h
theorem gnE_2 {x : Asc} (h : ckAsc x = 0) : gnE x = genA x := if_neg (fun hh => hh h)
def wsE (x : Asc) (L : List Dl) (F : List Int) : Int := if ckAsc x ≠ 0 then ckAsc x else ckSch L F
theorem wsE_1 {x : Asc} {L : List Dl} {F : List Int} (h : ckAsc x ≠ 0) : wsE x L F = ckAsc x := if_pos h
theorem wsE_2 {x : Asc} {L : List Dl} {F : List Int} (h : ckAsc x = 0) : wsE x L F = ckSch L F := if_neg (fun hh => hh h)
theorem flw_ws {x : Asc} {L : List Dl} {F : List Int} (h : wsE x L F ≠ 0) : flwE x L F = wsE x L F := by
  by_cases h1 : ckAsc x ≠ 0
  · rw [wsE_1 h1, flwE_1 h1]
  · have h2 := Decidable.not_not.1 h1
    rw [wsE_2 h2] at h ⊢
    exact flwE_2 h2 h
theorem wsE_bad {x : Asc} {L : List Dl} {F : List Int} (h : wsE x L F ≠ 0) : csE x L F = (0, wsE x L F) := by
  by_cases h1 : ckAsc x ≠ 0
  · rw [csE_1 h1, wsE_1 h1]
  · have h2 := Decidable.not_not.1 h1
    rw [wsE_2 h2] at h ⊢
    rw [csE_2 h2, chkA_1 h]
theorem wsE_ok {x : Asc} {L : List Dl} {F : List Int} (h : wsE x L F = 0) : okAsc x ∧ okSch L F ∧ csE x L F = chkF (smS L L.length) x L F 0 := by
  by_cases h1 : ckAsc x ≠ 0
  · rw [wsE_1 h1] at h; exact absurd h h1
  · have h2 := Decidable.not_not.1 h1
    rw [wsE_2 h2] at h
    exact ⟨ckAsc_ok h2, ckSch_ok h, by rw [csE_2 h2, chkA_2 h]⟩
theorem kp_E {x : Asc} {y : Dl} (H : okAsc x) (hy : okAl x y) {f : Int} (hf : 0 ≤ f ∧ f ≤ 6) : keptTE x.ts x.ls (lgA x y) (faA x) f = (keptT x.ts x.ls (lgA x y) (faA x) f.toNat, 0) := by
  obtain ⟨n, rfl⟩ := Int.eq_ofNat_of_zero_le hf.1
  exact keptTE_2 (tk_fine H hy hf)
end Go.Proofs.YthilaakeimfedaaGreatDoor
