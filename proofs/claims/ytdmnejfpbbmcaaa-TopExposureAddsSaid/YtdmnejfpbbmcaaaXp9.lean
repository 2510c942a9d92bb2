/-
  Plain laws of chapter 5: the breaks of a plan's legs, and the depths for a leg's gas. Conditions: none; no program in sight.
-/
import Derived.Test.YtdmnejfpbbmcaaaXp4
namespace Go.Proofs.Ytdmnejfpbbmcaaa
def nmD : ByteArray := ⟨#[112]⟩
def gsD : List Gs := [⟨210, 0⟩, ⟨500, 0⟩]
def lsD : List Dl := [⟨60, 1800, 0⟩, ⟨600, 1800, 0⟩, ⟨120, 600, 0⟩, ⟨300, 600, 1⟩]
theorem nameD : nameP nmD := by decide
theorem ckPD : ckPl nmD 1013 gsD lsD = (0, 0) := by
  rw [ckPl_7 nameD (by decide) (by decide) (by decide) (by decide) (by decide)]
  rfl
theorem cons_ex : consE nmD 1013 gsD lsD 20000 = ([689380, 161300], 0) := by
  rw [consE_3 (by rw [ckPD]) (by decide)]
  decide
end Go.Proofs.Ytdmnejfpbbmcaaa
namespace Go.Proofs.Ytdmnejfpbbmcaaa
section
variable {nm : ByteArray} {sf n b c : Int} {gs : List Gs} {ls : List Dl} {r : Ru} {k : Nat}
/-! ### Switches -/
abbrev sameG (a b : Gs) : Prop := a.o = b.o ∧ a.h = b.h
/-! ### Single legs -/
/-! ### Points -/
def ptsK (ls : List Dl) (k : Nat) : List (Int × Int) := (List.range (k + 1)).map fun i => (secAt ls i, depAt ls i)
theorem ptsK_len (ls : List Dl) (k : Nat) : (ptsK ls k).length = k + 1 := by simp [ptsK]
theorem ptsK_get {i : Nat} (h : i ≤ k) : (ptsK ls k)[i]? = some (secAt ls i, depAt ls i) := by
  unfold ptsK
  rw [List.getElem?_map, List.getElem?_range (by omega)]
  rfl
theorem ptsK_succ (ls : List Dl) (k : Nat) : ptsK ls (k + 1) = ptsK ls k ++ [(secAt ls (k + 1), depAt ls (k + 1))] := by
  unfold ptsK
  rw [List.range_succ, List.map_append]
  rfl
def atN (ls : List Dl) (k : Nat) (c : Int) : Int := depAt ls k * (secAt ls (k + 1) - secAt ls k) + (depAt ls (k + 1) - depAt ls k) * (c - secAt ls k)
theorem atN_dp (sf : Int) (gs : List Gs) (ls : List Dl) (k : Nat) (c : Int) : atN ls k c = dpS (legAt sf gs ls k) (c - secAt ls k) := by
  have e1 : (legAt sf gs ls k).f - (legAt sf gs ls k).sf = depAt ls k := by show sf + depAt ls k - sf = _; omega
  have e2 : (legAt sf gs ls k).t - (legAt sf gs ls k).sf = depAt ls (k + 1) := by show sf + (dlAt ls k).d - sf = (dlAt ls k).d; omega
  have e3 : (legAt sf gs ls k).x.s = (dlAt ls k).s := rfl
  unfold atN dpS
  rw [e1, e2, e3, secAt_succ]
  grind
theorem atN_in (H : okPl sf gs ls) (hk : k < ls.length) (h0 : secAt ls k ≤ c) (h1 : c ≤ secAt ls (k + 1)) :
    (0 ≤ depAt ls k * (secAt ls (k + 1) - secAt ls k) ∧ depAt ls k * (secAt ls (k + 1) - secAt ls k) ≤ 30000000000) ∧ (-30000000000 ≤ (depAt ls (k + 1) - depAt ls k) * (c - secAt ls k) ∧ (depAt ls (k + 1) - depAt ls k) * (c - secAt ls k) ≤ 30000000000) ∧ 0 ≤ atN ls k c ∧ atN ls k c ≤ 30000 * (secAt ls (k + 1) - secAt ls k) := by
  have hd := H.dep (k := k) (by omega)
  have hd2 := H.dep (k := k + 1) (by omega)
  have hs := (H.at hk).s
  have e := secAt_succ ls k
  have a := mulB (a := depAt ls k) (b := secAt ls (k + 1) - secAt ls k) (A := 30000) (B := 1000000) (by omega) (by omega)
  have b1 := mulB (a := depAt ls (k + 1)) (b := c - secAt ls k) (A := 30000) (B := 1000000) (by omega) (by omega)
  have b2 := mulB (a := depAt ls k) (b := c - secAt ls k) (A := 30000) (B := 1000000) (by omega) (by omega)
  have e2 : (depAt ls (k + 1) - depAt ls k) * (c - secAt ls k) = depAt ls (k + 1) * (c - secAt ls k) - depAt ls k * (c - secAt ls k) := by rw [Int.sub_mul]
  have h9 := (dpS_in (H.le hk) (s := c - secAt ls k) (by show 0 ≤ c - secAt ls k ∧ c - secAt ls k ≤ (dlAt ls k).s; omega)).2.2
  rw [← atN_dp] at h9
  have e3 : (legAt sf gs ls k).x.s = (dlAt ls k).s := rfl
  rw [e3] at h9
  exact ⟨⟨a.1, by omega⟩, by omega, h9.1, by omega⟩
theorem dp_at (H : okPl sf gs ls) (hk : k < ls.length) : upZ (atN ls k c) (secAt ls (k + 1) - secAt ls k) = dpM (legAt sf gs ls k) (c - secAt ls k) := by
  have e3 : (legAt sf gs ls k).x.s = (dlAt ls k).s := rfl
  unfold dpM
  rw [atN_dp sf gs ls, e3, secAt_succ]
  congr 1
  omega
/-! ### Short plans -/
abbrev shortP (nm : ByteArray) (gs : List Gs) (ls : List Dl) : Prop := nm.size ≤ 30 ∧ (ls.length ≤ 8 ∨ (ls.length > 60 ∧ ls.length ≤ 62)) ∧ (gs.length ≤ 5 ∨ (gs.length > 8 ∧ gs.length ≤ 10))
abbrev briefP (nm : ByteArray) (sf : Int) (gs : List Gs) (ls : List Dl) : Prop := (nm.size ≤ 30 ∧ (ls.length ≤ 8 ∨ (ls.length > 60 ∧ ls.length ≤ 62)) ∧ (gs.length ≤ 5 ∨ (gs.length > 8 ∧ gs.length ≤ 10))) ∧ ((ckPl nm sf gs ls).2 ≠ 0 ∨ secAt ls ls.length ≤ 400 ∨ secAt ls ls.length > 20000)
end
end Go.Proofs.Ytdmnejfpbbmcaaa
namespace Go.Proofs.Ytdmnejfpbbmcaaa
section
variable {nm : ByteArray} {sf n b c : Int} {gs : List Gs} {ls : List Dl} {r : Ru} {k : Nat}
end
end Go.Proofs.Ytdmnejfpbbmcaaa
namespace Go.Proofs.Ytdmnejfpbbmcaaa
section
variable {g : Gs} {sf a b : Int} {r : Ru} {k : Nat}
def brkL (g : Gs) (sf a b : Int) (r : Ru) : List Int :=
  (if g.o * min a b < 1000 * r.lo then [1] else []) ++ ((if g.o * max a b > 1000 * r.hi then [2] else []) ++ ((if (narM g sf (max a b - sf)).hi > r.na then [3] else []) ++ (if (denM g (max a b)).hi > r.de then [4] else [])))
theorem brkL_len (g : Gs) (sf a b : Int) (r : Ru) : (brkL g sf a b r).length ≤ 4 := by
  unfold brkL
  split <;> split <;> split <;> split <;> decide
theorem brkL_0 : (brkL g sf a b r).length = 0 ↔ ¬ poorP g (min a b) r ∧ heavyB g sf (max a b) r = false := by
  have e : heavyB g sf (max a b) r = false ↔ (¬ g.o * max a b > 1000 * r.hi ∧ ¬ (narM g sf (max a b - sf)).hi > r.na ∧ ¬ (denM g (max a b)).hi > r.de) := by
    unfold heavyB richB narcB denB
    simp only [Bool.or_eq_false_iff, decide_eq_false_iff_not, and_assoc]
  rw [e]
  unfold brkL poorP
  by_cases h1 : g.o * min a b < 1000 * r.lo
  · simp [h1]
  · by_cases h2 : g.o * max a b > 1000 * r.hi
    · simp [h1, h2]
    · by_cases h3 : (narM g sf (max a b - sf)).hi > r.na
      · simp [h1, h2, h3]
      · by_cases h4 : (denM g (max a b)).hi > r.de
        · simp [h1, h2, h3, h4]
        · simp [h1, h2, h3, h4]
end
end Go.Proofs.Ytdmnejfpbbmcaaa
namespace Go.Proofs.Ytdmnejfpbbmcaaa
section
variable {nm : ByteArray} {g : Gs} {sf a b : Int} {r : Ru} {k j : Nat} {gs : List Gs} {ls : List Dl}
def brkK (g : Gs) (sf a b : Int) (r : Ru) : Nat → List Int
  | 0 => if g.o * min a b < 1000 * r.lo then [1] else []
  | 1 => (if g.o * min a b < 1000 * r.lo then [1] else []) ++ (if richB g (max a b) r = true then [2] else [])
  | 2 => ((if g.o * min a b < 1000 * r.lo then [1] else []) ++ (if richB g (max a b) r = true then [2] else [])) ++ (if narcB g sf (max a b) r = true then [3] else [])
  | _ => (((if g.o * min a b < 1000 * r.lo then [1] else []) ++ (if richB g (max a b) r = true then [2] else [])) ++ (if narcB g sf (max a b) r = true then [3] else [])) ++ (if denB g (max a b) r = true then [4] else [])
theorem brkK_3 : brkK g sf a b r 3 = brkL g sf a b r := by
  unfold brkL
  show (((if g.o * min a b < 1000 * r.lo then [1] else []) ++ (if richB g (max a b) r = true then [2] else [])) ++ (if narcB g sf (max a b) r = true then [3] else [])) ++ (if denB g (max a b) r = true then [4] else []) = _
  unfold richB narcB denB
  simp only [decide_eq_true_eq, List.append_assoc]
theorem brkK_len : ∀ k, (brkK g sf a b r k).length ≤ 4
  | 0 => by show (if _ then _ else _ : List Int).length ≤ 4; split <;> decide
  | 1 => by show ((if _ then _ else _ : List Int) ++ (if _ then _ else _)).length ≤ 4; split <;> split <;> decide
  | 2 => by show (((if _ then _ else _ : List Int) ++ (if _ then _ else _)) ++ (if _ then _ else _)).length ≤ 4; split <;> split <;> split <;> decide
  | k + 3 => by show ((((if _ then _ else _ : List Int) ++ (if _ then _ else _)) ++ (if _ then _ else _)) ++ (if _ then _ else _)).length ≤ 4; split <;> split <;> split <;> split <;> decide
def brkA (r : Ru) (sf : Int) (gs : List Gs) (ls : List Dl) (k : Nat) : List Int := brkL (gasAt gs (dlAt ls k).g) sf (sf + depAt ls k) (sf + (dlAt ls k).d) r
def brs (r : Ru) (sf : Int) (gs : List Gs) (ls : List Dl) : Nat → List (Int × Int)
  | 0 => []
  | k + 1 => brs r sf gs ls k ++ (brkA r sf gs ls k).map (fun c => ((k : Int), c))
def brp (r : Ru) (sf : Int) (gs : List Gs) (ls : List Dl) (k j : Nat) : List (Int × Int) := brs r sf gs ls k ++ ((brkA r sf gs ls k).take j).map (fun c => ((k : Int), c))
theorem brp_0 : brp r sf gs ls k 0 = brs r sf gs ls k := by unfold brp; simp
theorem brp_end (h : (brkA r sf gs ls k).length ≤ j) : brp r sf gs ls k j = brs r sf gs ls (k + 1) := by
  unfold brp
  rw [List.take_of_length_le h]
  rfl
theorem brp_step {x : Int} (h : (brkA r sf gs ls k)[j]? = some x) : brp r sf gs ls k (j + 1) = brp r sf gs ls k j ++ [((k : Int), x)] := by
  unfold brp
  rw [List.take_add_one, h, List.map_append, ← List.append_assoc]
  rfl
theorem brs_len : ∀ k, (brs r sf gs ls k).length ≤ 4 * k
  | 0 => Nat.le_refl _
  | k + 1 => by
    have := brs_len k
    have h := brkL_len (gasAt gs (dlAt ls k).g) sf (sf + depAt ls k) (sf + (dlAt ls k).d) r
    unfold brs
    rw [List.length_append, List.length_map]
    unfold brkA
    omega
theorem brp_len : (brp r sf gs ls k j).length ≤ 4 * k + j := by
  have := brs_len (r := r) (sf := sf) (gs := gs) (ls := ls) k
  unfold brp
  rw [List.length_append, List.length_map, List.length_take]
  omega
def brE (nm : ByteArray) (sf : Int) (gs : List Gs) (ls : List Dl) (r : Ru) : List (Int × Int) × Int := if bothE nm sf gs ls r ≠ 0 then ([], bothE nm sf gs ls r) else (brs r sf gs ls ls.length, 0)
theorem brE_1 (h : bothE nm sf gs ls r ≠ 0) : brE nm sf gs ls r = ([], bothE nm sf gs ls r) := if_pos h
theorem brE_2 (h : bothE nm sf gs ls r = 0) : brE nm sf gs ls r = (brs r sf gs ls ls.length, 0) := if_neg (fun hh => hh h)
def fwE (nm : ByteArray) (sf : Int) (gs : List Gs) (ls : List Dl) (r : Ru) : Int × Int := if bothE nm sf gs ls r ≠ 0 then (0, bothE nm sf gs ls r) else if (brs r sf gs ls ls.length).length = 0 then (0, 12) else (((brs r sf gs ls ls.length)[0]?.getD (0, 0)).1, 0)
theorem fwE_1 (h : bothE nm sf gs ls r ≠ 0) : fwE nm sf gs ls r = (0, bothE nm sf gs ls r) := if_pos h
theorem fwE_2 (h : bothE nm sf gs ls r = 0) (h2 : (brs r sf gs ls ls.length).length = 0) : fwE nm sf gs ls r = (0, 12) := by unfold fwE; rw [if_neg (fun hh => hh h), if_pos h2]
theorem fwE_3 {x : Int × Int} (h : bothE nm sf gs ls r = 0) (h2 : (brs r sf gs ls ls.length)[0]? = some x) : fwE nm sf gs ls r = (x.1, 0) := by
  have h3 := (List.getElem?_eq_some_iff.1 h2).1
  unfold fwE
  rw [if_neg (fun hh => hh h), if_neg (by omega), h2]
  rfl
/-! ### Within the depths -/
theorem brk_within (hg : 0 ≤ g.o ∧ 0 ≤ g.h ∧ g.o + g.h ≤ 1000) (ha : 0 ≤ a ∧ a ≤ 30000) (hb : 0 ≤ b ∧ b ≤ 30000) :
    (brkL g sf (sf + a) (sf + b) r).length = 0 ↔ ((dLo g sf r : Int) ≤ a ∧ a ≤ dHi g sf r - 1) ∧ ((dLo g sf r : Int) ≤ b ∧ b ≤ dHi g sf r - 1) := by
  obtain ⟨x, rfl⟩ := Int.eq_ofNat_of_zero_le ha.1
  obtain ⟨y, rfl⟩ := Int.eq_ofNat_of_zero_le hb.1
  have e1 : min (sf + (x : Int)) (sf + (y : Int)) = sf + ((min x y : Nat) : Int) := by omega
  have e2 : max (sf + (x : Int)) (sf + (y : Int)) = sf + ((max x y : Nat) : Int) := by omega
  rw [brkL_0, e1, e2]
  have h1 := firstB_iff (p := notPoor g sf r) (notPoor_mono (by omega)) (n := 30001) (i := min x y) (by omega)
  have h2 := firstB_iff (p := isHeavy g sf r) (isHeavy_mono hg) (n := 30001) (i := max x y) (by omega)
  have h3 : heavyB g sf (sf + ((max x y : Nat) : Int)) r = isHeavy g sf r (max x y) := rfl
  have h4 : (¬ poorP g (sf + ((min x y : Nat) : Int)) r) ↔ notPoor g sf r (min x y) = true := by unfold notPoor; rw [decide_eq_true_iff]
  rw [h3, h4, h1, h2, decide_eq_true_iff, decide_eq_false_iff_not]
  unfold dLo dHi
  generalize firstB (notPoor g sf r) 30001 = p
  generalize firstB (isHeavy g sf r) 30001 = q
  omega
theorem both_ru {nm : ByteArray} (h : bothE nm sf gs ls r = 0) : ckRu r = 0 := by
  have h1 := (bothE_ok h).2.2.2
  rw [bothE_2 h1] at h
  exact h
end
end Go.Proofs.Ytdmnejfpbbmcaaa
