/-
  Plain models of chapter 1: a mixture lies between its parts, however they are ordered; its thirds add up. Conditions: none; no program in sight.
-/
import Derived.Test.YtibohfipgjljhaaDoorGe
namespace Go.Proofs.YtibohfipgjljhaaDoor
variable {l : List Gp} {j i : Nat} {x : Gp}
/-! ### The order does not matter -/
def suL (f : Gp → Int) : List Gp → Int
  | [] => 0
  | x :: t => f x + suL f t
theorem suL_app (f : Gp → Int) : ∀ a b : List Gp, suL f (a ++ b) = suL f a + suL f b
  | [], b => by show suL f b = 0 + _; omega
  | x :: t, b => by
    have h := suL_app f t b
    show f x + suL f (t ++ b) = f x + suL f t + _
    omega
theorem suL_rev (f : Gp → Int) : ∀ a : List Gp, suL f a.reverse = suL f a
  | [] => rfl
  | x :: t => by
    have h := suL_rev f t
    rw [List.reverse_cons, suL_app, h]
    show suL f t + (f x + 0) = f x + suL f t
    omega
theorem gpAt_s (x : Gp) (t : List Gp) (k : Nat) : gpAt (x :: t) (k + 1) = gpAt t k := rfl
theorem smA_s (x : Gp) (t : List Gp) : ∀ k, smA (x :: t) (k + 1) = x.a + smA t k
  | 0 => by show 0 + x.a = x.a + 0; omega
  | k + 1 => by
    have h := smA_s x t k
    show smA (x :: t) (k + 1) + (gpAt t k).a = x.a + (smA t k + (gpAt t k).a)
    omega
theorem smO_s (x : Gp) (t : List Gp) : ∀ k, smO (x :: t) (k + 1) = x.o * x.a + smO t k
  | 0 => by show 0 + x.o * x.a = x.o * x.a + 0; omega
  | k + 1 => by
    have h := smO_s x t k
    show smO (x :: t) (k + 1) + (gpAt t k).o * (gpAt t k).a = x.o * x.a + (smO t k + (gpAt t k).o * (gpAt t k).a)
    omega
theorem smH_s (x : Gp) (t : List Gp) : ∀ k, smH (x :: t) (k + 1) = x.h * x.a + smH t k
  | 0 => by show 0 + x.h * x.a = x.h * x.a + 0; omega
  | k + 1 => by
    have h := smH_s x t k
    show smH (x :: t) (k + 1) + (gpAt t k).h * (gpAt t k).a = x.h * x.a + (smH t k + (gpAt t k).h * (gpAt t k).a)
    omega
theorem sm_su : ∀ l : List Gp, smA l l.length = suL (·.a) l ∧ smO l l.length = suL (fun x => x.o * x.a) l ∧ smH l l.length = suL (fun x => x.h * x.a) l
  | [] => ⟨rfl, rfl, rfl⟩
  | x :: t => by
    obtain ⟨h1, h2, h3⟩ := sm_su t
    refine ⟨?_, ?_, ?_⟩
    · rw [List.length_cons, smA_s, h1]; rfl
    · rw [List.length_cons, smO_s, h2]; rfl
    · rw [List.length_cons, smH_s, h3]; rfl
theorem sm_rev (l : List Gp) : smA l.reverse l.reverse.length = smA l l.length ∧ smO l.reverse l.reverse.length = smO l l.length ∧ smH l.reverse l.reverse.length = smH l l.length ∧ smN l.reverse l.reverse.length = smN l l.length := by
  obtain ⟨h1, h2, h3⟩ := sm_su l; obtain ⟨h4, h5, h6⟩ := sm_su l.reverse
  rw [suL_rev] at h4 h5 h6
  have h7 := smN_eq l l.length; have h8 := smN_eq l.reverse l.reverse.length
  omega
theorem ps_all : ∀ {l : List Gp}, (∀ x ∈ l, ckPt x = 0) → ckPs l = 0
  | [], _ => rfl
  | x :: t, h => by
    unfold ckPs
    rw [if_neg (fun hh => hh (h x (List.mem_cons_self ..)))]
    exact ps_all fun y hy => h y (List.mem_cons_of_mem _ hy)
theorem pa_rev (hz : ckPa l = 0) : ckPa l.reverse = 0 := by
  have H := pa_ok hz
  have h1 := (sm_rev l).1
  have h2 := H.a0; have h3 := H.le
  refine pa_4 (by rw [List.length_reverse]; omega) (ps_all fun x hx => ?_) (by omega)
  have hx := H.ok x (List.mem_reverse.1 hx)
  exact pt_3 hx.1 hx.2
theorem mxX_rev (l : List Gp) (i : Nat) : mxX l.reverse i = mxX l i := by
  obtain ⟨_, h2, h3, h4⟩ := sm_rev l
  unfold mxX
  split <;> assumption
theorem mi_rev (l : List Gp) (i : Nat) : mnI l.reverse i = mnI l i ∧ mdI l.reverse i = mdI l i := by
  have h1 : alM l.reverse = alM l := by unfold alM; rw [(sm_rev l).1]
  unfold mnI mdI
  rw [h1, mxX_rev]
  exact ⟨rfl, rfl⟩
theorem mix_rev (hz : ckPa l = 0) : mixC l.reverse = mixC l ∧ mixV l.reverse = mixV l := by
  have hr := pa_rev hz
  have hb : ∀ i, mbg l.reverse i ↔ mbg l i := fun i => by unfold mbg; rw [(mi_rev l i).1, (mi_rev l i).2]
  by_cases h : mall l
  · have h9 : mall l.reverse := ⟨fun hh => h.1 ((hb 0).1 hh), fun hh => h.2.1 ((hb 1).1 hh), fun hh => h.2.2 ((hb 2).1 hh)⟩
    rw [(mix_3 hz h).1, (mix_3 hz h).2, (mix_3 hr h9).1, (mix_3 hr h9).2]
    simp only [(mi_rev l _).1, (mi_rev l _).2]
    exact ⟨trivial, trivial⟩
  · have h9 : ¬ mall l.reverse := fun hh => h ⟨fun h8 => hh.1 ((hb 0).2 h8), fun h8 => hh.2.1 ((hb 1).2 h8), fun h8 => hh.2.2 ((hb 2).2 h8)⟩
    rw [(mix_2 hz h).1, (mix_2 hz h).2, (mix_2 hr h9).1, (mix_2 hr h9).2]
    exact ⟨rfl, rfl⟩
/-! ### On the way back through the parts -/
def loO (l : List Gp) : Nat → Int
  | 0 => 1000
  | j + 1 => min (loO l j) (gpAt l.reverse j).o
def loH (l : List Gp) : Nat → Int
  | 0 => 1000
  | j + 1 => min (loH l j) (gpAt l.reverse j).h
def hiO (l : List Gp) : Nat → Int
  | 0 => 0
  | j + 1 => max (hiO l j) (gpAt l.reverse j).o
def hiH (l : List Gp) : Nat → Int
  | 0 => 0
  | j + 1 => max (hiH l j) (gpAt l.reverse j).h
theorem rv_at (hj : j < l.length) (hi : (l.length : Int) - 1 - j = i) (h : l[i]? = some x) : l.reverse[j]? = some x := by
  rw [List.getElem?_reverse hj, show l.length - 1 - j = i by omega]
  exact h
theorem loO_s (h : l.reverse[j]? = some x) : min (loO l j) x.o = loO l (j + 1) := by show _ = min (loO l j) (gpAt l.reverse j).o; rw [gpAt_get h]
theorem loH_s (h : l.reverse[j]? = some x) : min (loH l j) x.h = loH l (j + 1) := by show _ = min (loH l j) (gpAt l.reverse j).h; rw [gpAt_get h]
theorem hiO_s (h : l.reverse[j]? = some x) : max (hiO l j) x.o = hiO l (j + 1) := by show _ = max (hiO l j) (gpAt l.reverse j).o; rw [gpAt_get h]
theorem hiH_s (h : l.reverse[j]? = some x) : max (hiH l j) x.h = hiH l (j + 1) := by show _ = max (hiH l j) (gpAt l.reverse j).h; rw [gpAt_get h]
theorem rv_s (h : l.reverse[j]? = some x) : (l.reverse.take j).map cGp ++ [cGp x] = (l.reverse.take (j + 1)).map cGp := by
  rw [List.take_add_one, h]
  simp
theorem rv_all (h : l.length ≤ j) : l.reverse.take j = l.reverse := List.take_of_length_le (by rw [List.length_reverse]; exact h)
structure bdP (l : List Gp) (j : Nat) : Prop where
  a : 0 ≤ loO l j ∧ loO l j ≤ 1000
  b : 0 ≤ loH l j ∧ loH l j ≤ 1000
  c : 0 ≤ hiO l j ∧ hiO l j ≤ 1000
  d : 0 ≤ hiH l j ∧ hiH l j ≤ 1000
  p : ∀ i, i < j → (loO l j ≤ (gpAt l.reverse i).o ∧ (gpAt l.reverse i).o ≤ hiO l j) ∧ loH l j ≤ (gpAt l.reverse i).h ∧ (gpAt l.reverse i).h ≤ hiH l j
theorem gp_in (H : okPa l) (j : Nat) : (0 ≤ (gpAt l.reverse j).o ∧ (gpAt l.reverse j).o ≤ 1000) ∧ (0 ≤ (gpAt l.reverse j).h ∧ (gpAt l.reverse j).h ≤ 1000) ∧ 0 ≤ (gpAt l.reverse j).a := by
  by_cases h : j < l.reverse.length
  · obtain ⟨x, hx⟩ := get_some _ h
    rw [gpAt_get hx]
    obtain ⟨h1, h2, _⟩ := H.ok x (List.mem_reverse.1 (List.mem_of_getElem? hx))
    have := ckGas_ok h1
    omega
  · have e : gpAt l.reverse j = ⟨0, 0, 0⟩ := by unfold gpAt; rw [List.getElem?_eq_none (by omega)]; rfl
    rw [e]
    decide
theorem bd_all (H : okPa l) : ∀ j, bdP l j
  | 0 => ⟨by show (0 : Int) ≤ 1000 ∧ (1000 : Int) ≤ 1000; decide, by show (0 : Int) ≤ 1000 ∧ (1000 : Int) ≤ 1000; decide, by show (0 : Int) ≤ 0 ∧ (0 : Int) ≤ 1000; decide, by show (0 : Int) ≤ 0 ∧ (0 : Int) ≤ 1000; decide, fun i h => absurd h (Nat.not_lt_zero _)⟩
  | j + 1 => by
    obtain ⟨a, b, c, d, p⟩ := bd_all H j
    obtain ⟨g1, g2, _⟩ := gp_in H j
    have e1 : loO l (j + 1) = min (loO l j) (gpAt l.reverse j).o := rfl
    have e2 : loH l (j + 1) = min (loH l j) (gpAt l.reverse j).h := rfl
    have e3 : hiO l (j + 1) = max (hiO l j) (gpAt l.reverse j).o := rfl
    have e4 : hiH l (j + 1) = max (hiH l j) (gpAt l.reverse j).h := rfl
    refine ⟨by omega, by omega, by omega, by omega, fun i hi => ?_⟩
    rcases Nat.lt_or_ge i j with h | h
    · have := p i h; omega
    · obtain rfl : i = j := by omega
      omega
theorem sm_bd {c : Int} (r : List Gp) (ha : ∀ i, 0 ≤ (gpAt r i).a) : ∀ k, ((∀ i, i < k → c ≤ (gpAt r i).o) → c * smA r k ≤ smO r k) ∧ ((∀ i, i < k → (gpAt r i).o ≤ c) → smO r k ≤ c * smA r k) ∧ ((∀ i, i < k → c ≤ (gpAt r i).h) → c * smA r k ≤ smH r k) ∧ ((∀ i, i < k → (gpAt r i).h ≤ c) → smH r k ≤ c * smA r k)
  | 0 => ⟨fun _ => by show c * 0 ≤ 0; omega, fun _ => by show 0 ≤ c * 0; omega, fun _ => by show c * 0 ≤ 0; omega, fun _ => by show 0 ≤ c * 0; omega⟩
  | k + 1 => by
    obtain ⟨h1, h2, h3, h4⟩ := sm_bd (c := c) r ha k
    have ea : smA r (k + 1) = smA r k + (gpAt r k).a := rfl
    have eo : smO r (k + 1) = smO r k + (gpAt r k).o * (gpAt r k).a := rfl
    have eh : smH r (k + 1) = smH r k + (gpAt r k).h * (gpAt r k).a := rfl
    rw [ea, eo, eh, Int.mul_add]
    have hk := ha k
    refine ⟨fun h => ?_, fun h => ?_, fun h => ?_, fun h => ?_⟩
    · have := h1 fun i hi => h i (by omega)
      have := Int.mul_le_mul_of_nonneg_right (h k (by omega)) hk
      omega
    · have := h2 fun i hi => h i (by omega)
      have := Int.mul_le_mul_of_nonneg_right (h k (by omega)) hk
      omega
    · have := h3 fun i hi => h i (by omega)
      have := Int.mul_le_mul_of_nonneg_right (h k (by omega)) hk
      omega
    · have := h4 fun i hi => h i (by omega)
      have := Int.mul_le_mul_of_nonneg_right (h k (by omega)) hk
      omega
theorem sc_le {c n d g a s : Int} (hg : 1 ≤ g) (hn : s = n * g) (hd : 1000 * a = d * g) (h : c * a ≤ s) : c * d ≤ 1000 * n := by
  refine Int.le_of_mul_le_mul_right (a := g) ?_ (by omega)
  rw [Int.mul_assoc, ← hd, Int.mul_assoc, ← hn, show c * (1000 * a) = 1000 * (c * a) by grind]
  omega
theorem sc_ge {c n d g a s : Int} (hg : 1 ≤ g) (hn : s = n * g) (hd : 1000 * a = d * g) (h : s ≤ c * a) : 1000 * n ≤ c * d := by
  refine Int.le_of_mul_le_mul_right (a := g) ?_ (by omega)
  rw [Int.mul_assoc 1000, ← hn, Int.mul_assoc, ← hd, show c * (1000 * a) = 1000 * (c * a) by grind]
  omega
theorem btw (H : okPa l) : (loO l l.length * mdI l 0 ≤ 1000 * mnI l 0 ∧ 1000 * mnI l 0 ≤ hiO l l.length * mdI l 0) ∧ loH l l.length * mdI l 1 ≤ 1000 * mnI l 1 ∧ 1000 * mnI l 1 ≤ hiH l l.length * mdI l 1 := by
  obtain ⟨h1, h2, h3, h4⟩ := mx_in H
  obtain ⟨r1, r2, r3, _⟩ := sm_rev l
  have hb := (bd_all H l.length).p
  have ha := fun i => (gp_in H i).2.2
  have hl : l.reverse.length = l.length := List.length_reverse
  have g0 := gcdI_pos (x := mxX l 0) (y := alM l) (by omega); have g1 := gcdI_pos (x := mxX l 1) (y := alM l) (by omega)
  obtain ⟨m1, m2⟩ := lw_mul h2.1 (show 1 ≤ alM l by omega); obtain ⟨m3, m4⟩ := lw_mul h3.1 (show 1 ≤ alM l by omega)
  have s1 := (sm_bd (c := loO l l.length) l.reverse ha l.reverse.length).1 fun i hi => (hb i (by omega)).1.1
  have s2 := (sm_bd (c := hiO l l.length) l.reverse ha l.reverse.length).2.1 fun i hi => (hb i (by omega)).1.2
  have s3 := (sm_bd (c := loH l l.length) l.reverse ha l.reverse.length).2.2.1 fun i hi => (hb i (by omega)).2.1
  have s4 := (sm_bd (c := hiH l l.length) l.reverse ha l.reverse.length).2.2.2 fun i hi => (hb i (by omega)).2.2
  rw [r1, r2] at s1 s2
  rw [r1, r3] at s3 s4
  exact ⟨⟨sc_le g0 m1 m2 s1, sc_ge g0 m1 m2 s2⟩, sc_le g1 m3 m4 s3, sc_ge g1 m3 m4 s4⟩
/-! ### The thirds add up -/
def btG (l : List Gp) : Int := gcdI (mdI l 0) (mdI l 1)
def btE (l : List Gp) : Int := mdI l 0 / btG l
def btF (l : List Gp) : Int := mdI l 1 / btG l
def btX (l : List Gp) : Int := mnI l 0 * btF l + mnI l 1 * btE l
def btY (l : List Gp) : Int := btE l * mdI l 1
theorem mi_cross (H : okPa l) (i : Nat) : mnI l i * alM l = mxX l i * mdI l i := by
  have hx := mxX_in H i; have h1 := (mx_in H).1
  obtain ⟨m1, m2⟩ := lw_mul hx.1 (show 1 ≤ alM l by omega)
  have e1 : mnI l i = lwN (mxX l i) (alM l) := rfl
  have e2 : mdI l i = lwD (mxX l i) (alM l) := rfl
  rw [← e1] at m1; rw [← e2] at m2
  generalize gcdI (mxX l i) (alM l) = g at *
  rw [m1]
  conv => lhs; rw [m2]
  grind
structure btP (l : List Gp) : Prop where
  g : 1 ≤ btG l
  n0 : 0 ≤ mnI l 0 ∧ mnI l 0 ≤ 1000000000
  n1 : 0 ≤ mnI l 1 ∧ mnI l 1 ≤ 1000000000
  n2 : 0 ≤ mnI l 2 ∧ mnI l 2 ≤ mdI l 2
  d0 : 1 ≤ mdI l 0 ∧ mdI l 0 ≤ 1000000000
  d1 : 1 ≤ mdI l 1 ∧ mdI l 1 ≤ 1000000000
  d2 : 1 ≤ mdI l 2 ∧ mdI l 2 ≤ 1000000000
  e : 1 ≤ btE l ∧ btE l ≤ 1000000000
  f : 1 ≤ btF l ∧ btF l ≤ 1000000000
  x1 : 0 ≤ mnI l 0 * btF l ∧ mnI l 0 * btF l ≤ 1000000000000000000
  x2 : 0 ≤ mnI l 1 * btE l ∧ mnI l 1 * btE l ≤ 1000000000000000000
  y : 1 ≤ btY l ∧ btY l ≤ 1000000000000000000
  eq : [lwN (btX l) (btY l), lwD (btX l) (btY l)] = [lwN (mdI l 2 - mnI l 2) (mdI l 2), lwD (mdI l 2 - mnI l 2) (mdI l 2)]
theorem bt_ok (H : okPa l) (h : mall l) : btP l := by
  obtain ⟨h0, h1, h2⟩ := h
  unfold mbg at h0 h1 h2
  have i0 := mi_in H 0; have i1 := mi_in H 1; have i2 := mi_in H 2
  have c0 := mi_cross H 0; have c1 := mi_cross H 1; have c2 := mi_cross H 2
  have hal := (mx_in H).1
  have hsn := smN_eq l l.length
  have hs : mxX l 0 + mxX l 1 + mxX l 2 = alM l := by
    show smO l l.length + smH l l.length + smN l l.length = 1000 * smA l l.length
    omega
  have hx2 := mxX_in H 2
  have hg : 1 ≤ btG l := gcdI_pos (by omega)
  have hd := gcdI_dvd (x := mdI l 0) (y := mdI l 1) (by omega) (by omega)
  have e0 : mdI l 0 = btE l * btG l := (Int.ediv_mul_cancel hd.1).symm
  have e1 : mdI l 1 = btF l * btG l := (Int.ediv_mul_cancel hd.2).symm
  have b1 : 0 ≤ btE l := Int.ediv_nonneg (by omega) (by omega)
  have b2 : 0 ≤ btF l := Int.ediv_nonneg (by omega) (by omega)
  have b3 : btE l ≤ mdI l 0 := Int.ediv_le_self _ (by omega)
  have b4 : btF l ≤ mdI l 1 := Int.ediv_le_self _ (by omega)
  have b5 : btE l ≠ 0 := fun hh => by rw [hh, Int.zero_mul] at e0; omega
  have b6 : btF l ≠ 0 := fun hh => by rw [hh, Int.zero_mul] at e1; omega
  have p1 := mulB (a := mnI l 0) (b := btF l) (A := 1000000000) (B := 1000000000) (by omega) (by omega)
  have p2 := mulB (a := mnI l 1) (b := btE l) (A := 1000000000) (B := 1000000000) (by omega) (by omega)
  have p3 := mulB (a := btE l) (b := mdI l 1) (A := 1000000000) (B := 1000000000) (by omega) (by omega)
  have p4 : 1 ≤ btY l := by
    have : 0 < btE l * mdI l 1 := Int.mul_pos (by omega) (by omega)
    exact this
  have n2 : mnI l 2 ≤ mdI l 2 := by
    refine Int.le_of_mul_le_mul_right (a := alM l) ?_ (by omega)
    rw [c2, Int.mul_comm]
    exact Int.mul_le_mul_of_nonneg_left hx2.2 (by omega)
  refine ⟨hg, by omega, by omega, by omega, by omega, by omega, by omega, by omega, by omega, by omega, by omega, ⟨p4, by have : btY l = btE l * mdI l 1 := rfl; omega⟩, ?_⟩
  have hx0 : 0 ≤ btX l := by have : btX l = mnI l 0 * btF l + mnI l 1 * btE l := rfl; omega
  have hc : btX l * mdI l 2 = (mdI l 2 - mnI l 2) * btY l := by
    have hw : alM l ≠ 0 := by omega
    refine Int.eq_of_mul_eq_mul_right hw ?_
    have f1 : btX l * alM l = (mxX l 0 + mxX l 1) * btY l := by
      have : btX l * alM l = (mnI l 0 * alM l) * btF l + (mnI l 1 * alM l) * btE l := by unfold btX; grind
      rw [this, c0, c1]
      unfold btY
      rw [e0, e1]
      grind
    have f2 : (mdI l 2 - mnI l 2) * alM l = (mxX l 0 + mxX l 1) * mdI l 2 := by
      rw [Int.sub_mul, c2, ← hs]
      grind
    have f3 : btX l * mdI l 2 * alM l = btX l * alM l * mdI l 2 := by grind
    have f4 : (mdI l 2 - mnI l 2) * btY l * alM l = (mdI l 2 - mnI l 2) * alM l * btY l := by grind
    rw [f3, f4, f1, f2]
    grind
  obtain ⟨r1, r2⟩ := lw_eq hx0 p4 (show 0 ≤ mdI l 2 - mnI l 2 by omega) (show 1 ≤ mdI l 2 by omega) hc
  rw [r1, r2]
end Go.Proofs.YtibohfipgjljhaaDoor
