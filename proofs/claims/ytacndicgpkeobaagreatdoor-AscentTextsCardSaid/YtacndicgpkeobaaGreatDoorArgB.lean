/-
  Opening the data of chapter 4: tasks, rules, schedules, changes, as arguments of a statement. Conditions: those in front of each theorem.
-/
import Derived.Test.YtacndicgpkeobaaGreatDoorR
import Derived.Test.YtacndicgpkeobaaGreatDoorShTree
import Derived.Test.YtacndicgpkeobaaGreatDoorOpn
namespace Go.Proofs.YtacndicgpkeobaaGreatDoor
/-! ### Rules -/
structure Rl where
  sp : Int
  gr : Int
  st : Int
  lo : Int
  hi : Int
  an : Int
  fi : Int
structure okRl (r : Rl) : Prop where
  sp : 30 ≤ r.sp ∧ r.sp ≤ 6000
  gr : 1 ≤ r.gr ∧ r.gr ≤ 3000
  st : 1 ≤ r.st ∧ r.st ≤ 3600
  lo : 0 ≤ r.lo ∧ r.lo ≤ 1000
  hi : 0 ≤ r.hi ∧ r.hi ≤ 1000
  an : 1 ≤ r.an ∧ r.an ≤ 30000
  fi : 0 ≤ r.fi ∧ r.fi ≤ 6
  le : r.lo ≤ r.hi
def inRl (r : Rl) : Prop := (30 ≤ r.sp ∧ r.sp ≤ 6000) ∧ (1 ≤ r.gr ∧ r.gr ≤ 3000) ∧ (1 ≤ r.st ∧ r.st ≤ 3600) ∧ (0 ≤ r.lo ∧ r.lo ≤ 1000) ∧ (0 ≤ r.hi ∧ r.hi ≤ 1000) ∧ (1 ≤ r.an ∧ r.an ≤ 30000) ∧ (0 ≤ r.fi ∧ r.fi ≤ 6)
instance (r : Rl) : Decidable (inRl r) := by unfold inRl; infer_instance
def ckRl (r : Rl) : Int := if inRl r then (if r.lo > r.hi then 9 else 0) else 2
theorem ckRl_ok {r : Rl} (h : ckRl r = 0) : okRl r := by
  unfold ckRl at h
  by_cases h1 : inRl r
  · rw [if_pos h1] at h
    by_cases h2 : r.lo > r.hi
    · rw [if_pos h2] at h; exact absurd h (by decide)
    · obtain ⟨a, b, c, d, e, f, g⟩ := h1
      exact ⟨a, b, c, d, e, f, g, by omega⟩
  · rw [if_neg h1] at h; exact absurd h (by decide)
theorem okRl.ck {r : Rl} (h : okRl r) : ckRl r = 0 := by
  have h1 : inRl r := ⟨h.sp, h.gr, h.st, h.lo, h.hi, h.an, h.fi⟩
  have := h.le
  unfold ckRl
  rw [if_pos h1, if_neg (by omega)]
theorem ckRl_2 {r : Rl} (h : ¬ inRl r) : ckRl r = 2 := if_neg h
theorem ckRl_9 {r : Rl} (h : inRl r) (h2 : r.lo > r.hi) : ckRl r = 9 := by unfold ckRl; rw [if_pos h, if_pos h2]
theorem ckRl_0 {r : Rl} (h : inRl r) (h2 : ¬ r.lo > r.hi) : ckRl r = 0 := by unfold ckRl; rw [if_pos h, if_neg h2]
def facR (r : Rl) (d : Int) : Int := if d ≥ r.an then r.lo else r.hi - upZ ((r.hi - r.lo) * d) r.an
def risR (r : Rl) (a b : Int) : Int := upZ (60 * (a - b)) r.sp
def nxtR (r : Rl) (d : Int) : Int := (d - 1) / r.gr * r.gr
theorem fac_prod {r : Rl} (h : okRl r) {d : Int} (hd : 0 ≤ d ∧ d ≤ 30000) : 0 ≤ (r.hi - r.lo) * d ∧ (r.hi - r.lo) * d ≤ 30000000 := by
  have h1 := h.lo; have h2 := h.hi; have h3 := h.le
  have h4 : 0 ≤ (r.hi - r.lo) * d := Int.mul_nonneg (by omega) hd.1
  have h5 : (r.hi - r.lo) * d ≤ 1000 * d := Int.mul_le_mul_of_nonneg_right (by omega) hd.1
  omega
theorem fac_in {r : Rl} (h : okRl r) {d : Int} (hd : 0 ≤ d ∧ d ≤ 30000) : 0 ≤ facR r d ∧ facR r d ≤ 1000 := by
  have h1 := h.lo; have h2 := h.hi; have h3 := h.le; have h4 := h.an
  have h5 := fac_prod h hd
  unfold facR
  split
  · exact h1
  · rename_i h6
    have h7 : 0 ≤ upZ ((r.hi - r.lo) * d) r.an := Int.ediv_nonneg (by omega) (by omega)
    have h8 : upZ ((r.hi - r.lo) * d) r.an ≤ r.hi - r.lo := by
      have h9 : (r.hi - r.lo) * d ≤ (r.hi - r.lo) * r.an := Int.mul_le_mul_of_nonneg_left (by omega) (by omega)
      have : ((r.hi - r.lo) * d + r.an - 1) / r.an < r.hi - r.lo + 1 := Int.ediv_lt_of_lt_mul (by omega) (by rw [Int.add_mul, Int.one_mul]; omega)
      show ((r.hi - r.lo) * d + r.an - 1) / r.an ≤ _
      omega
    omega
theorem ris_in {r : Rl} (h : okRl r) {a b : Int} (ha : a ≤ 30000) (hb : 0 ≤ b) (hab : b ≤ a) : 0 ≤ risR r a b ∧ risR r a b ≤ 60000 ∧ (b < a → 1 ≤ risR r a b) := by
  have h1 := h.sp
  have h2 : 0 ≤ risR r a b := Int.ediv_nonneg (by omega) (by omega)
  refine ⟨h2, ?_, fun h3 => ?_⟩
  · have : (60 * (a - b) + r.sp - 1) / r.sp < 60001 := Int.ediv_lt_of_lt_mul (by omega) (by omega)
    show (60 * (a - b) + r.sp - 1) / r.sp ≤ 60000
    omega
  · exact Int.le_ediv_of_mul_le (by omega) (by omega)
theorem nxt_in {r : Rl} (h : okRl r) {d : Int} (hd : 1 ≤ d) : 0 ≤ nxtR r d ∧ nxtR r d < d := by
  have h1 := h.gr
  have h2 := Int.ediv_mul_le (d - 1) (show r.gr ≠ 0 by omega)
  have h3 : 0 ≤ (d - 1) / r.gr := Int.ediv_nonneg (by omega) (by omega)
  have h4 := Int.mul_nonneg h3 (show 0 ≤ r.gr by omega)
  unfold nxtR
  omega
/-! ### Tasks -/
structure Ag where
  g : Gs
  d : Int
structure Asc where
  ts : List Cp
  ls : List Ld
  su : Int
  de : Int
  gs : List Ag
  r : Rl
def okAg (x : Ag) : Prop := ckGas x.g.o x.g.h = 0 ∧ 0 ≤ x.d ∧ x.d ≤ 30000
def ckAg (x : Ag) : Int := if ckGas x.g.o x.g.h ≠ 0 then ckGas x.g.o x.g.h else if 0 ≤ x.d ∧ x.d ≤ 30000 then 0 else 2
theorem ckAg_ok {x : Ag} (h : ckAg x = 0) : okAg x := by
  unfold ckAg at h
  by_cases h1 : ckGas x.g.o x.g.h ≠ 0
  · rw [if_pos h1] at h; exact absurd h h1
  · rw [if_neg h1] at h
    by_cases h2 : 0 ≤ x.d ∧ x.d ≤ 30000
    · exact ⟨Decidable.not_not.1 h1, h2⟩
    · rw [if_neg h2] at h; exact absurd h (by decide)
theorem ckAg_2 {x : Ag} (h : ¬ ckGas x.g.o x.g.h ≠ 0) : ckAg x = if 0 ≤ x.d ∧ x.d ≤ 30000 then 0 else 2 := if_neg h
def ckAgs : List Ag → Int
  | [] => 0
  | x :: t => if ckAg x ≠ 0 then ckAg x else ckAgs t
section
variable {l : List Ag} {k : Nat} {x : Ag}
theorem ags_yes (h : l[k]? = some x) (hx : ckAg x ≠ 0) : ckAgs (l.drop k) = ckAg x := by rw [drop_cons h]; exact if_pos hx
theorem ags_no (h : l[k]? = some x) (hx : ¬ ckAg x ≠ 0) : ckAgs (l.drop k) = ckAgs (l.drop (k + 1)) := by rw [drop_cons h]; exact if_neg hx
theorem ags_end (h : l.length ≤ k) : ckAgs (l.drop k) = 0 := by rw [drop_all h]; rfl
theorem ags_ok : ∀ {l : List Ag}, ckAgs l = 0 → ∀ x ∈ l, okAg x
  | [], _, x, hx => by cases hx
  | d :: t, h, x, hx => by
    unfold ckAgs at h
    split at h
    · rename_i hd; exact absurd h hd
    · rename_i hd
      rcases List.mem_cons.1 hx with rfl | hx
      · exact ckAg_ok (Decidable.not_not.1 hd)
      · exact ags_ok h x hx
theorem ags_mk : ∀ {l : List Ag}, (∀ x ∈ l, okAg x) → ckAgs l = 0
  | [], _ => rfl
  | x :: t, h => by
    obtain ⟨h1, h2⟩ := h x (List.mem_cons_self ..)
    unfold ckAgs
    rw [ckAg_2 (fun hh => hh h1), if_pos h2, if_neg (fun hh => hh rfl)]
    exact ags_mk fun y hy => h y (List.mem_cons_of_mem _ hy)
end
def ckAsc (x : Asc) : Int :=
  if ckLoads x.ts x.ls ≠ 0 then ckLoads x.ts x.ls else if ¬ ((400 ≤ x.su ∧ x.su ≤ 1100) ∧ 0 ≤ x.de ∧ x.de ≤ 30000) then 2 else if x.gs.length = 0 then 10 else if x.gs.length > 8 then 8 else if ckAgs x.gs ≠ 0 then ckAgs x.gs else ckRl x.r
structure okAsc (x : Asc) : Prop where
  k : okTL x.ts x.ls
  su : 400 ≤ x.su ∧ x.su ≤ 1100
  de : 0 ≤ x.de ∧ x.de ≤ 30000
  g1 : 1 ≤ x.gs.length
  g8 : x.gs.length ≤ 8
  gg : ∀ y ∈ x.gs, okAg y
  r : okRl x.r
section
variable {x : Asc}
theorem asc_1 (h : ckLoads x.ts x.ls ≠ 0) : ckAsc x = ckLoads x.ts x.ls := if_pos h
theorem asc_2 (h : ¬ ckLoads x.ts x.ls ≠ 0) (h2 : ¬ ((400 ≤ x.su ∧ x.su ≤ 1100) ∧ 0 ≤ x.de ∧ x.de ≤ 30000)) : ckAsc x = 2 := by unfold ckAsc; rw [if_neg h, if_pos h2]
theorem asc_3 (h : ¬ ckLoads x.ts x.ls ≠ 0) (h2 : (400 ≤ x.su ∧ x.su ≤ 1100) ∧ 0 ≤ x.de ∧ x.de ≤ 30000) (h3 : x.gs.length = 0) : ckAsc x = 10 := by unfold ckAsc; rw [if_neg h, if_neg (fun hh => hh h2), if_pos h3]
theorem asc_4 (h : ¬ ckLoads x.ts x.ls ≠ 0) (h2 : (400 ≤ x.su ∧ x.su ≤ 1100) ∧ 0 ≤ x.de ∧ x.de ≤ 30000) (h3 : ¬ x.gs.length = 0) (h4 : x.gs.length > 8) : ckAsc x = 8 := by unfold ckAsc; rw [if_neg h, if_neg (fun hh => hh h2), if_neg h3, if_pos h4]
theorem asc_5 (h : ¬ ckLoads x.ts x.ls ≠ 0) (h2 : (400 ≤ x.su ∧ x.su ≤ 1100) ∧ 0 ≤ x.de ∧ x.de ≤ 30000) (h3 : ¬ x.gs.length = 0) (h4 : ¬ x.gs.length > 8) (h5 : ckAgs x.gs ≠ 0) : ckAsc x = ckAgs x.gs := by unfold ckAsc; rw [if_neg h, if_neg (fun hh => hh h2), if_neg h3, if_neg h4, if_pos h5]
theorem asc_6 (h : ¬ ckLoads x.ts x.ls ≠ 0) (h2 : (400 ≤ x.su ∧ x.su ≤ 1100) ∧ 0 ≤ x.de ∧ x.de ≤ 30000) (h3 : ¬ x.gs.length = 0) (h4 : ¬ x.gs.length > 8) (h5 : ¬ ckAgs x.gs ≠ 0) : ckAsc x = ckRl x.r := by unfold ckAsc; rw [if_neg h, if_neg (fun hh => hh h2), if_neg h3, if_neg h4, if_neg h5]
theorem ckAsc_ok (h : ckAsc x = 0) : okAsc x := by
  by_cases h1 : ckLoads x.ts x.ls ≠ 0
  · rw [asc_1 h1] at h; exact absurd h h1
  by_cases h2 : (400 ≤ x.su ∧ x.su ≤ 1100) ∧ 0 ≤ x.de ∧ x.de ≤ 30000
  · by_cases h3 : x.gs.length = 0
    · rw [asc_3 h1 h2 h3] at h; exact absurd h (by decide)
    by_cases h4 : x.gs.length > 8
    · rw [asc_4 h1 h2 h3 h4] at h; exact absurd h (by decide)
    by_cases h5 : ckAgs x.gs ≠ 0
    · rw [asc_5 h1 h2 h3 h4 h5] at h; exact absurd h h5
    rw [asc_6 h1 h2 h3 h4 h5] at h
    exact ⟨ckLoads_ok (Decidable.not_not.1 h1), h2.1, h2.2, by omega, by omega, ags_ok (Decidable.not_not.1 h5), ckRl_ok h⟩
  · rw [asc_2 h1 h2] at h; exact absurd h (by decide)
theorem okAsc.ck (h : okAsc x) : ckAsc x = 0 := by
  have h1 := h.g1; have h2 := h.g8
  rw [asc_6 (fun hh => hh (ckLoads_mk h.k)) ⟨h.su, h.de⟩ (by omega) (by omega) (fun hh => hh (ags_mk h.gg))]
  exact h.r.ck
end
def agAt (l : List Ag) (k : Nat) : Ag := (l[k]?).getD ⟨⟨0, 0⟩, 0⟩
theorem agAt_get {l : List Ag} {k : Nat} {x : Ag} (h : l[k]? = some x) : agAt l k = x := by unfold agAt; rw [h]; rfl
def bsA (l : List Ag) (d : Int) : Nat → Int
  | 0 => -1
  | k + 1 => if d ≤ (agAt l k).d ∧ (bsA l d k < 0 ∨ (agAt l k).g.o > (agAt l (bsA l d k).toNat).g.o) then k else bsA l d k
theorem bsA_in (l : List Ag) (d : Int) : ∀ k, -1 ≤ bsA l d k ∧ bsA l d k < k
  | 0 => by unfold bsA; omega
  | k + 1 => by
    have := bsA_in l d k
    unfold bsA
    split <;> omega
def gasA (x : Asc) (d : Int) : Int := bsA x.gs d x.gs.length
theorem gasA_in (x : Asc) (d : Int) : -1 ≤ gasA x d ∧ gasA x d < x.gs.length := bsA_in _ _ _
/-! ### Legs -/
structure okAl (x : Asc) (y : Dl) : Prop where
  s : 1 ≤ y.s ∧ y.s ≤ 100000
  d : 0 ≤ y.d ∧ y.d ≤ 30000
  g : 0 ≤ y.g ∧ y.g ≤ (x.gs.length : Int) - 1
section
variable {x : Asc} {y : Dl}
end
def lgA (x : Asc) (y : Dl) : Lg := ⟨x.su + x.de, x.su + y.d, y.s, (agAt x.gs y.g.toNat).g⟩
def faA (x : Asc) : Int := facR x.r x.de
def fnA (x : Asc) : Nat := x.r.fi.toNat
def bhA (x : Asc) (y : Dl) : Asc := ⟨x.ts, loadedM x.ts x.ls (lgA x y) (fnA x), x.su, y.d, x.gs, x.r⟩
def dcA (x : Asc) (y : Dl) : Int × Int := decT x.ts x.ls (lgA x y) (faA x) (fnA x)
section
variable {x : Asc} {y : Dl}
theorem fnA_in (H : okAsc x) : (fnA x : Int) = x.r.fi ∧ fnA x ≤ 6 := by
  have := H.r.fi
  unfold fnA
  omega
theorem agAt_ok (H : okAsc x) {g : Int} (h : 0 ≤ g ∧ g ≤ (x.gs.length : Int) - 1) : okAg (agAt x.gs g.toNat) := by
  obtain ⟨a, ha⟩ := get_some x.gs (k := g.toNat) (by omega)
  rw [agAt_get ha]
  exact H.gg a (List.mem_of_getElem? ha)
theorem ckLeg_mk {z : Lg} (h1 : okPr z.f) (h2 : okPr z.t) (h3 : 1 ≤ z.s ∧ z.s ≤ 100000) (h4 : ckGas z.g.o z.g.h = 0) : ckLeg z = 0 := by
  unfold ckLeg
  rw [if_neg (fun hh => hh ⟨h1, h2, by omega, h3.2⟩), if_neg (fun hh => hh h4), if_neg (by omega)]
theorem lg_ok (H : okAsc x) (h : okAl x y) : ckLeg (lgA x y) = 0 := by
  have h1 := H.su; have h2 := H.de; have h3 := h.d
  exact ckLeg_mk (by unfold okPr; show 400 ≤ x.su + x.de ∧ x.su + x.de ≤ 31100; omega) (by unfold okPr; show 400 ≤ x.su + y.d ∧ x.su + y.d ≤ 31100; omega) h.s (agAt_ok H h.g).1
theorem tk_ok (H : okAsc x) (h : okAl x y) : okTask x.ts x.ls (lgA x y) (faA x) := ⟨H.k, ckLoads_mk H.k, (ckLeg_ok (lg_ok H h)).1, lg_ok H h, fac_in H.r H.de⟩
theorem tk_fine (H : okAsc x) (h : okAl x y) {f : Int} (hf : 0 ≤ f ∧ f ≤ 6) : ckFine x.ts x.ls (lgA x y) (faA x) f = 0 := by
  have T := tk_ok H h
  have h1 : ckTask x.ts x.ls (lgA x y) (faA x) = 0 := by
    unfold ckTask
    rw [if_neg (fun hh => hh T.ct), if_neg (fun hh => hh T.cx), if_pos T.fa]
  unfold ckFine
  rw [if_neg (fun hh => hh h1), if_pos hf]
theorem bh_ok (H : okAsc x) (h : okAl x y) : okAsc (bhA x y) := ⟨loaded_ok H.k (tk_ok H h).xx (fnA_in H).2, H.su, h.d, H.g1, H.g8, H.gg, H.r⟩
theorem bh_E (H : okAsc x) (h : okAl x y) : loadedE x.ts x.ls (lgA x y) x.r.fi = ((bhA x y).ls, 0) := by
  have e := fnA_in H
  rw [← e.1]
  exact loadedE_4 (fun hh => hh (ckLoads_mk H.k)) (fun hh => hh (lg_ok H h)) e.2
theorem dc_E (H : okAsc x) (h : okAl x y) : decE_ x.ts x.ls (lgA x y) (faA x) x.r.fi = (dcA x y, 0) := by
  have e := fnA_in H
  rw [← e.1]
  exact decE_2 (tk_fine H h (by omega))
end
/-! ### The schedule that is found -/
def upA (x : Asc) (to g : Int) : Dl := ⟨risR x.r x.de to, to, g⟩
def syA (x : Asc) (g : Int) : Dl := ⟨x.r.st, x.de, g⟩
section
variable {x : Asc}
theorem up_ok (H : okAsc x) {to g : Int} (ht : 0 ≤ to ∧ to < x.de) (hg : 0 ≤ g ∧ g ≤ (x.gs.length : Int) - 1) : okAl x (upA x to g) := by
  have h1 := H.de
  have h2 := ris_in H.r (a := x.de) (b := to) (by omega) ht.1 (by omega)
  exact ⟨⟨h2.2.2 ht.2, by show risR x.r x.de to ≤ 100000; omega⟩, by show 0 ≤ to ∧ to ≤ 30000; omega, hg⟩
theorem sy_ok (H : okAsc x) {g : Int} (hg : 0 ≤ g ∧ g ≤ (x.gs.length : Int) - 1) : okAl x (syA x g) := by
  have h1 := H.de; have h2 := H.r.st
  exact ⟨by show 1 ≤ x.r.st ∧ x.r.st ≤ 100000; omega, h1, hg⟩
end
def dirA (x : Asc) : Int × Int := if x.de = 0 then (keptM x.ts x.ls x.su x.r.hi, 0) else if gasA x x.de < 0 then (0, 14) else ((dcA x (upA x 0 (gasA x x.de))).1, 0)
theorem dir_1 {x : Asc} (h : x.de = 0) : dirA x = (keptM x.ts x.ls x.su x.r.hi, 0) := if_pos h
theorem dir_2 {x : Asc} (h : ¬ x.de = 0) (h2 : gasA x x.de < 0) : dirA x = (0, 14) := by unfold dirA; rw [if_neg h, if_pos h2]
theorem dir_3 {x : Asc} (h : ¬ x.de = 0) (h2 : ¬ gasA x x.de < 0) : dirA x = ((dcA x (upA x 0 (gasA x x.de))).1, 0) := by unfold dirA; rw [if_neg h, if_neg h2]
abbrev gUp (x : Asc) : Dl := upA x (nxtR x.r x.de) (gasA x x.de)
abbrev gSy (x : Asc) : Dl := syA x (gasA x x.de)
abbrev Sch := (List Dl × List Int) × Int
def genN : Nat → Asc → Int → List Dl → List Int → Sch
  | 0, x, _, L, F => if x.de = 0 then ((L, F), 0) else (([], []), 8)
  | n + 1, x, s, L, F =>
    if x.de = 0 then ((L, F), 0) else if gasA x x.de < 0 then (([], []), 14) else
    if (dcA x (gUp x)).1 = 2 then genN n (bhA x (gUp x)) 0 (L ++ [gUp x]) (F ++ [(dcA x (gUp x)).2]) else
    if s = 60 then (([], []), 12) else
    if (dcA x (gSy x)).1 = 2 then genN n (bhA x (gSy x)) (s + 1) (L ++ [gSy x]) (F ++ [(dcA x (gSy x)).2]) else (([], []), 26)
def genA (x : Asc) : Sch := genN 400 x 0 [] []
section
variable {x : Asc} {s : Int} {L : List Dl} {F : List Int} {n : Nat}
theorem gen_0 (h : x.de = 0) : genN n x s L F = ((L, F), 0) := by
  cases n with
  | zero => exact if_pos h
  | succ n => exact if_pos h
theorem gen_8 (h : ¬ x.de = 0) : genN 0 x s L F = (([], []), 8) := if_neg h
theorem gen_14 (h : ¬ x.de = 0) (hn : 1 ≤ n) (h2 : gasA x x.de < 0) : genN n x s L F = (([], []), 14) := by
  obtain ⟨m, rfl⟩ : ∃ m, n = m + 1 := ⟨n - 1, by omega⟩
  unfold genN
  rw [if_neg h, if_pos h2]
theorem gen_up (h : ¬ x.de = 0) (hn : 1 ≤ n) (h2 : ¬ gasA x x.de < 0) (h3 : (dcA x (gUp x)).1 = 2) : genN n x s L F = genN (n - 1) (bhA x (gUp x)) 0 (L ++ [gUp x]) (F ++ [(dcA x (gUp x)).2]) := by
  obtain ⟨m, rfl⟩ : ∃ m, n = m + 1 := ⟨n - 1, by omega⟩
  rw [Nat.add_sub_cancel]
  conv => lhs; unfold genN
  rw [if_neg h, if_neg h2, if_pos h3]
theorem gen_12 (h : ¬ x.de = 0) (hn : 1 ≤ n) (h2 : ¬ gasA x x.de < 0) (h3 : ¬ (dcA x (gUp x)).1 = 2) (h4 : s = 60) : genN n x s L F = (([], []), 12) := by
  obtain ⟨m, rfl⟩ : ∃ m, n = m + 1 := ⟨n - 1, by omega⟩
  unfold genN
  rw [if_neg h, if_neg h2, if_neg h3, if_pos h4]
theorem gen_sy (h : ¬ x.de = 0) (hn : 1 ≤ n) (h2 : ¬ gasA x x.de < 0) (h3 : ¬ (dcA x (gUp x)).1 = 2) (h4 : ¬ s = 60) (h5 : (dcA x (gSy x)).1 = 2) : genN n x s L F = genN (n - 1) (bhA x (gSy x)) (s + 1) (L ++ [gSy x]) (F ++ [(dcA x (gSy x)).2]) := by
  obtain ⟨m, rfl⟩ : ∃ m, n = m + 1 := ⟨n - 1, by omega⟩
  rw [Nat.add_sub_cancel]
  conv => lhs; unfold genN
  rw [if_neg h, if_neg h2, if_neg h3, if_neg h4, if_pos h5]
theorem gen_26 (h : ¬ x.de = 0) (hn : 1 ≤ n) (h2 : ¬ gasA x x.de < 0) (h3 : ¬ (dcA x (gUp x)).1 = 2) (h4 : ¬ s = 60) (h5 : ¬ (dcA x (gSy x)).1 = 2) : genN n x s L F = (([], []), 26) := by
  obtain ⟨m, rfl⟩ : ∃ m, n = m + 1 := ⟨n - 1, by omega⟩
  unfold genN
  rw [if_neg h, if_neg h2, if_neg h3, if_neg h4, if_neg h5]
theorem gUp_ok (H : okAsc x) (h : ¬ x.de = 0) (h2 : ¬ gasA x x.de < 0) : okAl x (gUp x) := by
  have h1 := H.de; have h3 := gasA_in x x.de
  exact up_ok H (nxt_in H.r (by omega)) (by omega)
theorem gSy_ok (H : okAsc x) (h2 : ¬ gasA x x.de < 0) : okAl x (gSy x) := by
  have h3 := gasA_in x x.de
  exact sy_ok H (by omega)
end
end Go.Proofs.YtacndicgpkeobaaGreatDoor
namespace Go.Proofs.YtacndicgpkeobaaGreatDoor
/-! ### Schedules -/
def dlA (L : List Dl) (k : Nat) : Dl := (L[k]?).getD ⟨0, 0, 0⟩
theorem dlA_get {L : List Dl} {k : Nat} {y : Dl} (h : L[k]? = some y) : dlA L k = y := by unfold dlA; rw [h]; rfl
def okAn (y : Dl) (f : Int) : Prop := (1 ≤ y.s ∧ y.s ≤ 100000) ∧ (0 ≤ y.d ∧ y.d ≤ 30000) ∧ (0 ≤ y.g ∧ y.g ≤ 8) ∧ 0 ≤ f ∧ f ≤ 6
instance (y : Dl) (f : Int) : Decidable (okAn y f) := by unfold okAn; infer_instance
def ckSch (L : List Dl) (F : List Int) : Int := if L.length > 400 then 8 else if F.length ≠ L.length then 10 else if all2 okAn L F then 0 else 2
section
variable {L : List Dl} {F : List Int} {k : Nat} {y : Dl} {f : Int}
theorem sch_8 (h : L.length > 400) : ckSch L F = 8 := if_pos h
theorem sch_10 (h : ¬ L.length > 400) (h2 : F.length ≠ L.length) : ckSch L F = 10 := by unfold ckSch; rw [if_neg h, if_pos h2]
theorem sch_2 (h : ¬ L.length > 400) (h2 : ¬ F.length ≠ L.length) (h3 : ¬ all2 okAn L F) : ckSch L F = 2 := by unfold ckSch; rw [if_neg h, if_neg h2, if_neg h3]
theorem sch_0 (h : ¬ L.length > 400) (h2 : ¬ F.length ≠ L.length) (h3 : all2 okAn L F) : ckSch L F = 0 := by unfold ckSch; rw [if_neg h, if_neg h2, if_pos h3]
structure okSch (L : List Dl) (F : List Int) : Prop where
  n : L.length ≤ 400
  l : F.length = L.length
  a : all2 okAn L F
theorem ckSch_ok (h : ckSch L F = 0) : okSch L F := by
  by_cases h1 : L.length > 400
  · rw [sch_8 h1] at h; exact absurd h (by decide)
  by_cases h2 : F.length ≠ L.length
  · rw [sch_10 h1 h2] at h; exact absurd h (by decide)
  by_cases h3 : all2 okAn L F
  · exact ⟨by omega, by omega, h3⟩
  · rw [sch_2 h1 h2 h3] at h; exact absurd h (by decide)
theorem okSch.ck (h : okSch L F) : ckSch L F = 0 := by
  have h1 := h.n; have h2 := h.l
  exact sch_0 (by omega) (by omega) h.a
theorem an_get : ∀ {L : List Dl} {F : List Int} {k : Nat} {y : Dl} {f : Int}, all2 okAn L F → L[k]? = some y → F[k]? = some f → okAn y f
  | [], _, _, _, _, _, h, _ => by simp at h
  | _ :: _, [], _, _, _, _, _, h => by simp at h
  | a :: L, b :: F, 0, y, f, h, h1, h2 => by
    simp at h1 h2
    subst h1 h2
    exact h.1
  | a :: L, b :: F, k + 1, y, f, h, h1, h2 => an_get h.2 (by simpa using h1) (by simpa using h2)
theorem sch_at (h : okSch L F) (hk : k < L.length) : ∃ y f, L[k]? = some y ∧ F[k]? = some f ∧ okAn y f := by
  have h2 := h.l
  obtain ⟨y, hy⟩ := get_some L hk
  obtain ⟨f, hf⟩ := get_some F (k := k) (by omega)
  exact ⟨y, f, hy, hf, an_get h.a hy hf⟩
variable {x : Asc} {t j : Int}
end
/-! ### How long one may stay -/
def nsF (g : Int) : Nat → Asc → Int → Int
  | 0, _, k => k
  | n + 1, x, k => if (dcA x (syA x g)).1 ≠ 2 then k else if (dirA (bhA x (syA x g))).1 ≠ 2 then k else nsF g n (bhA x (syA x g)) (k + 1)
def nsA (x : Asc) : Int × Int := if (dirA x).2 ≠ 0 then (0, (dirA x).2) else if (dirA x).1 ≠ 2 then (0, 12) else (nsF (gasA x x.de) 60 x 0 * x.r.st, 0)
section
variable {x : Asc} {g k : Int} {n : Nat}
theorem ns_1 (hn : 1 ≤ n) (h : (dcA x (syA x g)).1 ≠ 2) : nsF g n x k = k := by
  obtain ⟨m, rfl⟩ : ∃ m, n = m + 1 := ⟨n - 1, by omega⟩
  unfold nsF
  rw [if_pos h]
theorem ns_2 (hn : 1 ≤ n) (h : ¬ (dcA x (syA x g)).1 ≠ 2) (h2 : (dirA (bhA x (syA x g))).1 ≠ 2) : nsF g n x k = k := by
  obtain ⟨m, rfl⟩ : ∃ m, n = m + 1 := ⟨n - 1, by omega⟩
  unfold nsF
  rw [if_neg h, if_pos h2]
theorem ns_3 (hn : 1 ≤ n) (h : ¬ (dcA x (syA x g)).1 ≠ 2) (h2 : ¬ (dirA (bhA x (syA x g))).1 ≠ 2) : nsF g n x k = nsF g (n - 1) (bhA x (syA x g)) (k + 1) := by
  obtain ⟨m, rfl⟩ : ∃ m, n = m + 1 := ⟨n - 1, by omega⟩
  rw [Nat.add_sub_cancel]
  conv => lhs; unfold nsF
  rw [if_neg h, if_neg h2]
theorem nsA_1 (h : (dirA x).2 ≠ 0) : nsA x = (0, (dirA x).2) := if_pos h
theorem nsA_2 (h : (dirA x).2 = 0) (h2 : (dirA x).1 ≠ 2) : nsA x = (0, 12) := by unfold nsA; rw [if_neg (fun hh => hh h), if_pos h2]
theorem nsA_3 (h : (dirA x).2 = 0) (h2 : ¬ (dirA x).1 ≠ 2) : nsA x = (nsF (gasA x x.de) 60 x 0 * x.r.st, 0) := by unfold nsA; rw [if_neg (fun hh => hh h), if_neg h2]
theorem gas_top (H : okAsc x) (h : x.de = 0) : 0 ≤ gasA x x.de := by
  have h1 := H.g1
  have key : ∀ k, k ≤ x.gs.length → 1 ≤ k → 0 ≤ bsA x.gs x.de k := by
    intro k
    induction k with
    | zero => intro _ h; omega
    | succ k ih =>
      intro hk _
      have hb := bsA_in x.gs x.de k
      obtain ⟨a, ha⟩ := get_some x.gs (k := k) (by omega)
      have hd := (H.gg a (List.mem_of_getElem? ha)).2
      unfold bsA
      split
      · omega
      · rename_i h9
        rw [agAt_get ha] at h9
        rcases Nat.lt_or_ge k 1 with h8 | h8
        · obtain rfl : k = 0 := by omega
          exact absurd ⟨by omega, .inl (show (-1 : Int) < 0 by decide)⟩ h9
        · exact ih (by omega) h8
  exact key _ (Nat.le_refl _) h1
theorem dir_gas (H : okAsc x) (h : (dirA x).2 = 0) : ¬ gasA x x.de < 0 := by
  by_cases h1 : x.de = 0
  · have := gas_top H h1; omega
  · intro h2
    rw [dir_2 h1 h2] at h
    exact absurd h (by decide)
end
/-! ### The ends of plans, rests, changes -/
def zAsc : Asc := ⟨[], [], 0, 0, [], ⟨0, 0, 0, 0, 0, 0, 0⟩⟩
section
variable {x : Asc}
end
end Go.Proofs.YtacndicgpkeobaaGreatDoor
namespace Go.Proofs.YtacndicgpkeobaaGreatDoor
open Go.RowKit
def cAg (x : Ag) : List Value := [.int .i64 x.g.o, .int .i64 x.g.h, .int .i64 x.d]
def cRl (r : Rl) : List Value := [.int .i64 r.sp, .int .i64 r.gr, .int .i64 r.st, .int .i64 r.lo, .int .i64 r.hi, .int .i64 r.an, .int .i64 r.fi]
def cAt (v u w : Value) (x : Asc) : List Value := [v, u, .int .i64 x.su, .int .i64 x.de, w, .int .i64 x.r.sp, .int .i64 x.r.gr, .int .i64 x.r.st, .int .i64 x.r.lo, .int .i64 x.r.hi, .int .i64 x.r.an, .int .i64 x.r.fi]
theorem one_ag (l : List Ag) : ∀ c ∈ (l.map cAg).flatten, c.oneCell' = true := one_map cAg (fun _ _ h => by simp only [cAg, List.mem_cons, List.not_mem_nil, or_false] at h; rcases h with rfl | rfl | rfl <;> rfl) l
def isTk (tc tl tg : TypeId) (X : Asc) (e : Int) (y : Value) (rs : List Res) : Prop := ∃ A1 n1 c1 A2 n2 c2 A3 n3 c3, y = .tuple #[.agg (cAt (.slice A1 n1 c1) (.slice A2 n2 c2) (.slice A3 n3 c3) X).toArray, .int .i64 e] ∧ rs = [sl (.slice A1 n1 c1) tc 4 (X.ts.map cCp), sl (.slice A2 n2 c2) tl 4 (X.ls.map cLd), sl (.slice A3 n3 c3) tg 3 (X.gs.map cAg)]
theorem isTk_sinks {tc tl tg : TypeId} {X : Asc} {e : Int} : ∀ y rs, isTk tc tl tg X e y rs → ∀ r ∈ rs, Sinks r := by
  rintro y rs ⟨A1, n1, c1, A2, n2, c2, A3, n3, c3, _, rfl⟩ r hr
  simp only [List.mem_cons, List.not_mem_nil, or_false] at hr
  rcases hr with rfl | rfl | rfl <;> exact sl_sinks _ _ _ _
theorem own3 {v u w : Value} {tc tl tg : TypeId} {a b d : List (List Value)} : ∀ r ∈ [sl v tc 4 a, sl u tl 4 b, sl w tg 3 d], r.own = true := by
  intro r hr
  simp only [List.mem_cons, List.not_mem_nil, or_false] at hr
  rcases hr with rfl | rfl | rfl <;> exact sl_own _ _ _ _
def isTo (tc tl tg : TypeId) (X : Asc) (y : Value) (rs : List Res) : Prop := ∃ A1 n1 c1 A2 n2 c2 A3 n3 c3, y = .agg (cAt (.slice A1 n1 c1) (.slice A2 n2 c2) (.slice A3 n3 c3) X).toArray ∧ rs = [sl (.slice A1 n1 c1) tc 4 (X.ts.map cCp), sl (.slice A2 n2 c2) tl 4 (X.ls.map cLd), sl (.slice A3 n3 c3) tg 3 (X.gs.map cAg)]
theorem isTo_sinks {tc tl tg : TypeId} {X : Asc} : ∀ y rs, isTo tc tl tg X y rs → ∀ r ∈ rs, Sinks r := by
  rintro y rs ⟨A1, n1, c1, A2, n2, c2, A3, n3, c3, _, rfl⟩ r hr
  simp only [List.mem_cons, List.not_mem_nil, or_false] at hr
  rcases hr with rfl | rfl | rfl <;> exact sl_sinks _ _ _ _
def isBh (tl : TypeId) (v w : Value) (X : Asc) (y : Value) (rs : List Res) : Prop := ∃ A n c, y = .agg (cAt v (.slice A n c) w X).toArray ∧ rs = [sl (.slice A n c) tl 4 (X.ls.map cLd)]
theorem isBh_sinks {tl : TypeId} {v w : Value} {X : Asc} : ∀ y rs, isBh tl v w X y rs → ∀ r ∈ rs, Sinks r := by
  rintro y rs ⟨A, n, c, _, rfl⟩ r hr
  simp only [List.mem_cons, List.not_mem_nil, or_false] at hr
  subst hr
  exact sl_sinks _ _ _ _
def isSc (td ti : TypeId) (S : Sch) (y : Value) (rs : List Res) : Prop := ∃ A1 n1 c1 A2 n2 c2, y = .tuple #[.agg #[.slice A1 n1 c1, .slice A2 n2 c2], .int .i64 S.2] ∧ rs = [sl (.slice A1 n1 c1) td 3 (S.1.1.map cDl), sl (.slice A2 n2 c2) ti 1 (S.1.2.map cI)]
theorem isSc_sinks {td ti : TypeId} {S : Sch} : ∀ y rs, isSc td ti S y rs → ∀ r ∈ rs, Sinks r := by
  rintro y rs ⟨A1, n1, c1, A2, n2, c2, _, rfl⟩ r hr
  simp only [List.mem_cons, List.not_mem_nil, or_false] at hr
  rcases hr with rfl | rfl <;> exact sl_sinks _ _ _ _
theorem own2 {v u : Value} {tc tl : TypeId} {p q : Nat} {a b : List (List Value)} : ∀ r ∈ [sl v tc p a, sl u tl q b], r.own = true := by
  intro r hr
  simp only [List.mem_cons, List.not_mem_nil, or_false] at hr
  rcases hr with rfl | rfl <;> exact sl_own _ _ _ _
def isTt (tc tl : TypeId) (ts : List Cp) (ls : List Ld) (z : Lg) (fa : Int) (y : Value) (rs : List Res) : Prop := ∃ A1 n1 c1 A2 n2 c2, y = .agg (cDv (.slice A1 n1 c1) (.slice A2 n2 c2) z fa).toArray ∧ rs = [sl (.slice A1 n1 c1) tc 4 (ts.map cCp), sl (.slice A2 n2 c2) tl 4 (ls.map cLd)]
theorem isTt_sinks {tc tl : TypeId} {ts : List Cp} {ls : List Ld} {z : Lg} {fa : Int} : ∀ y rs, isTt tc tl ts ls z fa y rs → ∀ r ∈ rs, Sinks r := by
  rintro y rs ⟨A1, n1, c1, A2, n2, c2, _, rfl⟩ r hr
  simp only [List.mem_cons, List.not_mem_nil, or_false] at hr
  rcases hr with rfl | rfl <;> exact sl_sinks _ _ _ _
def isSo (td ti : TypeId) (L : List Dl) (F : List Int) (y : Value) (rs : List Res) : Prop := ∃ A1 n1 c1 A2 n2 c2, y = .agg #[.slice A1 n1 c1, .slice A2 n2 c2] ∧ rs = [sl (.slice A1 n1 c1) td 3 (L.map cDl), sl (.slice A2 n2 c2) ti 1 (F.map cI)]
theorem isSo_sinks {td ti : TypeId} {L : List Dl} {F : List Int} : ∀ y rs, isSo td ti L F y rs → ∀ r ∈ rs, Sinks r := by
  rintro y rs ⟨A1, n1, c1, A2, n2, c2, _, rfl⟩ r hr
  simp only [List.mem_cons, List.not_mem_nil, or_false] at hr
  rcases hr with rfl | rfl <;> exact sl_sinks _ _ _ _
end Go.Proofs.YtacndicgpkeobaaGreatDoor
namespace Go.Proofs.YtacndicgpkeobaaGreatDoor
open Go.RowKit Go.ChangeShapes Go.WideShapes Go.Deep

section
variable {P : Program} {W : World} {t e : TypeId}
def i64Cp (c : Cp) : Prop := i64 c.n ∧ i64 c.h ∧ i64 c.b ∧ i64 c.s
theorem opn_cp (h : IT P t 4) : Opn P W t (fun cs => ∃ c, i64Cp c ∧ cs = cCp c) := (h W).mono fun cs ⟨xs, hl, hq, hc⟩ => by
  match xs, hl with
  | [a, b, c, d], _ => exact ⟨⟨a, b, c, d⟩, ⟨hq a (by simp), hq b (by simp), hq c (by simp), hq d (by simp)⟩, hc⟩
theorem opn_tab (ht : P.underlying t = some (.slice e)) (hk : P.cellsOf e = 4) (h : IT P e 4) : Opn P W t (fun cs => ∃ (v : Value) (ts : List Cp), cs = [v] ∧ Rdd W v 4 (ts.map cCp) ∧ ∀ c ∈ ts, i64Cp c) := opn_list cCp ht hk (by decide) (opn_cp h)
theorem opn_ints (ht : P.underlying t = some (.slice e)) (hk : P.cellsOf e = 1) (he : P.underlying e = some (.int .i64)) : Opn P W t (fun cs => ∃ (v : Value) (ls : List Int), cs = [v] ∧ Rdd W v 1 (ls.map cI) ∧ ∀ c ∈ ls, i64 c) :=
  opn_list cI ht hk (by decide) ((opn_int he).mono fun _ ⟨n, h, hc⟩ => ⟨n, h, hc⟩)
def i64Dl (x : Dl) : Prop := i64 x.s ∧ i64 x.d ∧ i64 x.g
theorem opn_dl (h : IT P t 3) : Opn P W t (fun cs => ∃ c, i64Dl c ∧ cs = cDl c) := (h W).mono fun cs ⟨xs, hl, hq, hc⟩ => by
  match xs, hl with
  | [a, b, c], _ => exact ⟨⟨a, b, c⟩, ⟨hq a (by simp), hq b (by simp), hq c (by simp)⟩, hc⟩
theorem opn_dls (ht : P.underlying t = some (.slice e)) (hk : P.cellsOf e = 3) (h : IT P e 3) : Opn P W t (fun cs => ∃ (v : Value) (ls : List Dl), cs = [v] ∧ Rdd W v 3 (ls.map cDl) ∧ ∀ c ∈ ls, i64Dl c) := opn_list cDl ht hk (by decide) (opn_dl h)
theorem slice_val {b0 : Nat} {r : Reach} {v u : Value} (ht : P.underlying t = some (.slice e)) (hv : Value.okWide P W r b0 t v) (h : v.cells.toList = [u]) : v = u := by
  obtain ⟨a, n, c, rfl⟩ := okWide_slice ht hv
  simpa [Value.cells] using h
theorem struct_val {fs : List (Nat × Nat × Nat)} {b0 : Nat} {r : Reach} {v : Value} {cs : List Value} (hf : fsC P t = some fs) (hv : Value.okWide P W r b0 t v) (h : v.cells.toList = cs) : v = .agg cs.toArray := by
  obtain ⟨cs', rfl, h'⟩ := agg_of hf hv
  rw [← h, h']
end
end Go.Proofs.YtacndicgpkeobaaGreatDoor
namespace Go.Proofs.YtacndicgpkeobaaGreatDoor
open Go.RowKit Go.ChangeShapes Go.WideShapes Go.Deep
section
variable {P : Program} {W : World} {t e : TypeId}
theorem opn_sch {tD tI : TypeId} (hfs : fsC P t = some [(0, 1, tD), (1, 1, tI)]) (hC : P.cellsOf t = 2) (hD : Opn P W tD (fun cs => ∃ (v : Value) (ls : List Dl), cs = [v] ∧ Rdd W v 3 (ls.map cDl) ∧ ∀ c ∈ ls, i64Dl c))
    (hI : Opn P W tI (fun cs => ∃ (v : Value) (ls : List Int), cs = [v] ∧ Rdd W v 1 (ls.map cI) ∧ ∀ c ∈ ls, i64 c)) :
    Opn P W t (fun cs => ∃ (v u : Value) (L : List Dl) (F : List Int), cs = [v, u] ∧ Rdd W v 3 (L.map cDl) ∧ Rdd W u 1 (F.map cI)) :=
  (((opn_len hfs).and (opn_field hfs (o := 0) (k := 1) (by simp) hD)).and (opn_field hfs (o := 1) (k := 1) (by simp) hI)).mono
    fun cs ⟨⟨hl, v, L, h1, h2, _⟩, u, F, h4, h5, _⟩ => by
      rw [hC] at hl
      match cs, hl with
      | [a, b], _ =>
        simp only [List.drop_zero, List.drop_succ_cons, List.take_succ_cons, List.take_zero, List.cons.injEq, and_true] at h1 h4
        subst h1; subst h4
        exact ⟨_, _, L, F, rfl, h2, h5⟩
end
end Go.Proofs.YtacndicgpkeobaaGreatDoor
