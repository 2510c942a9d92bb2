/-
  Plain models of chapter 1: the mixture of parts is that of some of them with the rest; what its parts weigh. Conditions: none; no program in sight.
-/
import Derived.Test.YtibohfipgjljhaaDoorGf
import Derived.Test.YtibohfipgjljhaaDoorGa
namespace Go.Proofs.YtibohfipgjljhaaDoor
variable {l : List Gp} {k : Nat} {x : Gp}
/-! ### Small parts -/
def lowA (l : List Gp) (k : Nat) : Prop := ∀ i, i < k → (gpAt l i).a ≤ 100000
theorem lowA_0 (l : List Gp) : lowA l 0 := fun i h => absurd h (Nat.not_lt_zero _)
theorem lowA_s (h : lowA l k) (hx : l[k]? = some x) (ha : ¬ x.a > 100000) : lowA l (k + 1) := fun i hi => by
  rcases Nat.lt_or_ge i k with h1 | h1
  · exact h i h1
  · rw [show i = k by omega, gpAt_get hx]; omega
theorem sm_low (hok : ∀ x ∈ l, okGp x) (h : lowA l l.length) : ∀ j, j ≤ l.length → smA l j ≤ j * 100000
  | 0, _ => by show (0 : Int) ≤ ((0 : Nat) : Int) * 100000; omega
  | j + 1, hj => by
    have h1 := sm_low hok h j (by omega)
    have h2 := h j (by omega)
    show smA l j + (gpAt l j).a ≤ _
    omega
theorem all_low (H : okPa l) (h : smA l l.length ≤ 600000) : mall l := by
  have hi : ∀ i, ¬ mbg l i := fun i => by
    have h1 := mxX_in H i; have h2 := (mx_in H).1
    have h3 := lw_in h1.1 (show 1 ≤ alM l by omega)
    have e : alM l = 1000 * smA l l.length := rfl
    unfold mbg mnI mdI
    omega
  exact ⟨hi 0, hi 1, hi 2⟩
/-! ### Some of them -/
theorem gp_take {i : Nat} (h : i < k) : gpAt (l.take k) i = gpAt l i := by unfold gpAt; rw [List.getElem?_take, if_pos h]
theorem sm_take : ∀ j, j ≤ k → smA (l.take k) j = smA l j ∧ smO (l.take k) j = smO l j ∧ smH (l.take k) j = smH l j
  | 0, _ => ⟨rfl, rfl, rfl⟩
  | j + 1, h => by
    obtain ⟨h1, h2, h3⟩ := sm_take j (by omega)
    have e := gp_take (l := l) (show j < k by omega)
    refine ⟨?_, ?_, ?_⟩
    · show smA (l.take k) j + (gpAt (l.take k) j).a = _; rw [h1, e]; rfl
    · show smO (l.take k) j + (gpAt (l.take k) j).o * (gpAt (l.take k) j).a = _; rw [h2, e]; rfl
    · show smH (l.take k) j + (gpAt (l.take k) j).h * (gpAt (l.take k) j).a = _; rw [h3, e]; rfl
theorem sm_tk (hk : k ≤ l.length) : smA (l.take k) (l.take k).length = smA l k ∧ smO (l.take k) (l.take k).length = smO l k ∧ smH (l.take k) (l.take k).length = smH l k := by
  rw [show (l.take k).length = k by rw [List.length_take]; omega]
  exact sm_take k (Nat.le_refl _)
theorem lw_back {x y x' y' : Int} (hx : 0 ≤ x) (hy : 1 ≤ y) (hx' : 0 ≤ x') (hy' : 1 ≤ y') (h1 : lwN x y = lwN x' y') (h2 : lwD x y = lwD x' y') : x * y' = x' * y := by
  obtain ⟨m1, m2⟩ := lw_mul hx hy; obtain ⟨m3, m4⟩ := lw_mul hx' hy'
  rw [← h1] at m3; rw [← h2] at m4
  generalize lwN x y = m at *; generalize lwD x y = e at *; generalize gcdI x y = g at *; generalize gcdI x' y' = g' at *
  rw [m1, m2, m3, m4]
  grind
/-- the first parts as one -/
def asOne (l : List Gp) (k : Nat) : List Gp := ⟨nrO (l.take k), nrH (l.take k), smA l k⟩ :: l.drop k
theorem su_split (f : Gp → Int) (l : List Gp) (k : Nat) : suL f l = suL f (l.take k) + suL f (l.drop k) := by
  rw [← suL_app, List.take_append_drop]
theorem one_sums (hk : k ≤ l.length) (h1 : smO l k = nrO (l.take k) * smA l k) (h2 : smH l k = nrH (l.take k) * smA l k) : smA (asOne l k) (asOne l k).length = smA l l.length ∧ smO (asOne l k) (asOne l k).length = smO l l.length ∧ smH (asOne l k) (asOne l k).length = smH l l.length := by
  obtain ⟨a1, a2, a3⟩ := sm_su l; obtain ⟨b1, b2, b3⟩ := sm_su (asOne l k); obtain ⟨c1, c2, c3⟩ := sm_su (l.take k)
  obtain ⟨d1, d2, d3⟩ := sm_tk (l := l) hk
  rw [su_split _ l k] at a1 a2 a3
  have e1 : suL (·.a) (asOne l k) = smA l k + suL (·.a) (l.drop k) := rfl
  have e2 : suL (fun x => x.o * x.a) (asOne l k) = nrO (l.take k) * smA l k + suL (fun x => x.o * x.a) (l.drop k) := rfl
  have e3 : suL (fun x => x.h * x.a) (asOne l k) = nrH (l.take k) * smA l k + suL (fun x => x.h * x.a) (l.drop k) := rfl
  rw [e1] at b1; rw [e2] at b2; rw [e3] at b3
  omega
theorem one_len (hk : k ≤ l.length) : (asOne l k).length = l.length - k + 1 := by unfold asOne; rw [List.length_cons, List.length_drop]
theorem one_ok (H : okPa l) (Hk : okPa (l.take k)) (hk : k ≤ l.length) (h6 : l.length ≤ 6) (hs : smA (asOne l k) (asOne l k).length = smA l l.length) (h9 : smA l k ≤ 600000) : ckPa (asOne l k) = 0 := by
  have h1 := H.a0
  have hl := one_len hk
  have hn := (nr_in Hk).2.2
  have hp := (sm_in H.ok k hk).1
  refine pa_4 (by omega) (ps_all fun x hx => ?_) (by omega)
  rcases List.mem_cons.1 hx with rfl | hx
  · exact pt_3 hn (by dsimp only; omega)
  · have hx := H.ok x (List.mem_of_mem_drop hx)
    exact pt_3 hx.1 hx.2
theorem mi_same {a b : List Gp} (h1 : smA a a.length = smA b b.length) (h2 : smO a a.length = smO b b.length) (h3 : smH a a.length = smH b b.length) (i : Nat) : mnI a i = mnI b i ∧ mdI a i = mdI b i := by
  have h4 : smN a a.length = smN b b.length := by rw [smN_eq, smN_eq, h1, h2, h3]
  have e1 : alM a = alM b := by unfold alM; rw [h1]
  have e2 : mxX a i = mxX b i := by unfold mxX; split <;> assumption
  unfold mnI mdI
  rw [e1, e2]
  exact ⟨rfl, rfl⟩
theorem one_mix (H : okPa l) (Hk : okPa (l.take k)) (hk : k ≤ l.length) (h6 : l.length ≤ 6) (hl : smA l l.length ≤ 600000) (h9 : smA l k ≤ 600000)
    (e0 : [mnI (l.take k) 0, mdI (l.take k) 0] = [lwN (nrO (l.take k)) 1000, lwD (nrO (l.take k)) 1000]) (e1 : [mnI (l.take k) 1, mdI (l.take k) 1] = [lwN (nrH (l.take k)) 1000, lwD (nrH (l.take k)) 1000]) : mixC (asOne l k) = 0 ∧ mixV (asOne l k) = mixV l := by
  obtain ⟨d1, d2, d3⟩ := sm_tk (l := l) hk
  obtain ⟨m1, m2, m3, _⟩ := mx_in Hk
  obtain ⟨n1, n2, n3⟩ := nr_in Hk
  have n4 := ckGas_ok n3
  simp only [List.cons.injEq, and_true] at e0 e1
  have q0 := lw_back m2.1 (show 1 ≤ alM (l.take k) by omega) n4.1 (by decide) e0.1 e0.2
  have q1 := lw_back m3.1 (show 1 ≤ alM (l.take k) by omega) n4.2.2.1 (by decide) e1.1 e1.2
  have ea : alM (l.take k) = 1000 * smA l k := by unfold alM; rw [d1]
  rw [ea, d2] at q0
  rw [ea, d3] at q1
  have s0 : smO l k = nrO (l.take k) * smA l k := by
    have : nrO (l.take k) * (1000 * smA l k) = 1000 * (nrO (l.take k) * smA l k) := by grind
    omega
  have s1 : smH l k = nrH (l.take k) * smA l k := by
    have : nrH (l.take k) * (1000 * smA l k) = 1000 * (nrH (l.take k) * smA l k) := by grind
    omega
  obtain ⟨t1, t2, t3⟩ := one_sums hk s0 s1
  have hz := one_ok H Hk hk h6 t1 h9
  have H2 := pa_ok hz
  have ha := all_low H2 (by omega)
  obtain ⟨x1, x2⟩ := mix_3 hz ha
  obtain ⟨y1, y2⟩ := mix_3 H.ck9 (all_low H hl)
  rw [x1, x2, y2]
  simp only [(mi_same t1 t2 t3 _).1, (mi_same t1 t2 t3 _).2]
  exact ⟨trivial, trivial⟩
/-! ### The nearest, and what the parts weigh -/
theorem nr_half (H : okPa l) : max (2 * (nrO l * smA l l.length - smO l l.length)) (0 - 2 * (nrO l * smA l l.length - smO l l.length)) ≤ smA l l.length ∧ 0 ≤ nrO l * smA l l.length ∧ nrO l * smA l l.length ≤ 12000000000000 := by
  have h0 := H.a0
  obtain ⟨m1, m2, _⟩ := mx_in H
  have hn := (nr_in H).1
  have e : nrO l = (2 * smO l l.length + smA l l.length) / (2 * smA l l.length) := rfl
  have k1 := Int.mul_ediv_self_le (x := 2 * smO l l.length + smA l l.length) (k := 2 * smA l l.length) (by omega)
  have k2 := Int.lt_mul_ediv_self_add (x := 2 * smO l l.length + smA l l.length) (k := 2 * smA l l.length) (by omega)
  rw [← e] at k1 k2
  have e2 : 2 * smA l l.length * nrO l = 2 * (nrO l * smA l l.length) := by grind
  rw [e2] at k1 k2
  have h3 := Int.mul_nonneg hn.1 (show 0 ≤ smA l l.length by omega)
  have h4 : nrO l * smA l l.length ≤ 1000 * smA l l.length := Int.mul_le_mul_of_nonneg_right hn.2 (by omega)
  have e3 : alM l = 1000 * smA l l.length := rfl
  omega
def wLo (x : Gp) : Int := wgM ⟨x.o, x.h⟩ * x.a / 1013000
def wHi (x : Gp) : Int := upZ (wgM ⟨x.o, x.h⟩ * x.a) 1013000
def lwS (l : List Gp) : Nat → Int
  | 0 => 0
  | k + 1 => lwS l k + wLo (gpAt l k)
def hwS (l : List Gp) : Nat → Int
  | 0 => 0
  | k + 1 => hwS l k + wHi (gpAt l k)
theorem w_in (hg : ckGas x.o x.h = 0) (ha : 0 ≤ x.a ∧ x.a ≤ 100000) : (0 ≤ wgM ⟨x.o, x.h⟩ * x.a ∧ wgM ⟨x.o, x.h⟩ * x.a ≤ 142900000000) ∧ (0 ≤ wLo x ∧ wLo x ≤ wHi x ∧ wHi x ≤ 200000) ∧ wLo x * 1013000 ≤ wgM ⟨x.o, x.h⟩ * x.a ∧ wgM ⟨x.o, x.h⟩ * x.a ≤ wHi x * 1013000 := by
  have h1 := wgt_in (g := ⟨x.o, x.h⟩) hg
  have h2 := mulB (a := wgM ⟨x.o, x.h⟩) (b := x.a) (A := 1429000) (B := 100000) h1 ha
  have e1 : wLo x = wgM ⟨x.o, x.h⟩ * x.a / 1013000 := rfl
  have e2 : wHi x = (wgM ⟨x.o, x.h⟩ * x.a + 1013000 - 1) / 1013000 := rfl
  omega
theorem ws_in (hok : ∀ x ∈ l, okGp x) (h : lowA l l.length) : ∀ j, j ≤ l.length → (0 ≤ lwS l j ∧ lwS l j ≤ j * 200000) ∧ (0 ≤ hwS l j ∧ hwS l j ≤ j * 200000) ∧ lwS l j * 1013000 ≤ 1429 * smO l j + 179 * smH l j + 1251 * smN l j ∧ 1429 * smO l j + 179 * smH l j + 1251 * smN l j ≤ hwS l j * 1013000
  | 0, _ => by
    refine ⟨?_, ?_, ?_, ?_⟩
    · show (0 : Int) ≤ 0 ∧ (0 : Int) ≤ ((0 : Nat) : Int) * 200000; omega
    · show (0 : Int) ≤ 0 ∧ (0 : Int) ≤ ((0 : Nat) : Int) * 200000; omega
    · show (0 : Int) * 1013000 ≤ 1429 * 0 + 179 * 0 + 1251 * 0; decide
    · show (1429 : Int) * 0 + 179 * 0 + 1251 * 0 ≤ 0 * 1013000; decide
  | j + 1, hj => by
    obtain ⟨h1, h2, h3, h4⟩ := ws_in hok h j (by omega)
    obtain ⟨x, hx⟩ := get_some l (show j < l.length by omega)
    have e := gpAt_get hx
    obtain ⟨hg, ha, _⟩ := hok x (List.mem_of_getElem? hx)
    have hla := h j (by omega)
    rw [e] at hla
    obtain ⟨w1, w2, w3, w4⟩ := w_in hg ⟨ha, hla⟩
    have e1 : lwS l (j + 1) = lwS l j + wLo x := by show _ + wLo (gpAt l j) = _; rw [e]
    have e2 : hwS l (j + 1) = hwS l j + wHi x := by show _ + wHi (gpAt l j) = _; rw [e]
    have e3 : smO l (j + 1) = smO l j + x.o * x.a := by show _ + (gpAt l j).o * (gpAt l j).a = _; rw [e]
    have e4 : smH l (j + 1) = smH l j + x.h * x.a := by show _ + (gpAt l j).h * (gpAt l j).a = _; rw [e]
    have e5 : smN l (j + 1) = smN l j + (1000 - x.o - x.h) * x.a := by show _ + (1000 - (gpAt l j).o - (gpAt l j).h) * (gpAt l j).a = _; rw [e]
    have e6 : wgM ⟨x.o, x.h⟩ * x.a = 1429 * (x.o * x.a) + 179 * (x.h * x.a) + 1251 * ((1000 - x.o - x.h) * x.a) := by unfold wgM; grind
    rw [e1, e2, e3, e4, e5]
    rw [e6] at w3 w4
    refine ⟨by omega, by omega, by omega, by omega⟩
theorem mod_yes {n b : Int} (hb : 1 ≤ b) (h : n.tmod b < 0) : n.tmod b + b = n % b := by
  have h1 := Int.mul_tdiv_add_tmod n b
  have h2 := Int.lt_tmod_of_pos n (show 0 < b by omega)
  have h3 : (n.tmod b + b) + b * (n.tdiv b - 1) = n := by rw [Int.mul_sub, Int.mul_one]; omega
  exact ((Int.ediv_emod_unique (show 0 < b by omega)).2 ⟨h3, by omega, by omega⟩).2.symm
theorem mod_no {n b : Int} (hb : 1 ≤ b) (h : ¬ n.tmod b < 0) : n.tmod b = n % b := by
  have h1 := Int.mul_tdiv_add_tmod n b
  have h2 := Int.tmod_lt_of_pos n (show 0 < b by omega)
  have h3 : n.tmod b + b * n.tdiv b = n := by omega
  exact ((Int.ediv_emod_unique (show 0 < b by omega)).2 ⟨h3, by omega, by omega⟩).2.symm
end Go.Proofs.YtibohfipgjljhaaDoor
