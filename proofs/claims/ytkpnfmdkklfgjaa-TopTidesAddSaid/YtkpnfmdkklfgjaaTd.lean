/-
  Plain laws of chapter 8: cosines, angles and levels of tides. Conditions: none; no program in sight.
-/
import Derived.Test.YtkpnfmdkklfgjaaXp3
import Derived.Test.YtkpnfmdkklfgjaaEncQ
import Derived.Test.YtkpnfmdkklfgjaaShTd
namespace Go.Proofs.Ytkpnfmdkklfgjaa
theorem mod_yes {n b : Int} (hb : 1 ≤ b) (h : n.tmod b < 0) : n.tmod b + b = n % b := by
  have h1 := Int.mul_tdiv_add_tmod n b
  have h2 := Int.lt_tmod_of_pos n (show 0 < b by omega)
  have h3 : (n.tmod b + b) + b * (n.tdiv b - 1) = n := by rw [Int.mul_sub, Int.mul_one]; omega
  exact ((Int.ediv_emod_unique (show 0 < b by omega)).2 ⟨h3, by omega, by omega⟩).2.symm
theorem mod_no {n b : Int} (hb : 1 ≤ b) (h : ¬ n.tmod b < 0) : n.tmod b = n % b := by
  have h1 := Int.mul_tdiv_add_tmod n b
  have h2 := Int.tmod_lt_of_pos n (show 0 < b by omega)
  have h3 : n.tmod b + b * n.tdiv b = n := by omega
  exact ((Int.ediv_emod_unique (show 0 < b by omega)).2 ⟨h3, by omega, by omega⟩).2.symm
variable {nm : ByteArray} {sf : Int} {r : Ru} {gs : List Gs} {ls : List Dl} {L : List (Int × Int)} {n σ : Nat}
theorem down_neg {n b : Int} (hb : 1 ≤ b) : 0 - (0 - n + b - 1) / b = n / b := by
  have h1 := Int.mul_ediv_add_emod n b
  have h2 := Int.emod_nonneg n (show b ≠ 0 by omega)
  have h3 := Int.emod_lt_of_pos n (show 0 < b by omega)
  have e : 0 - n + b - 1 = (b - 1 - n % b) + b * (-(n / b)) := by rw [Int.mul_neg]; omega
  rw [e, Int.add_mul_ediv_left _ _ (by omega), Int.ediv_eq_zero_of_lt (by omega) (by omega)]
  omega
theorem up_down {n b : Int} (hb : 1 ≤ b) : 0 - (0 - n) / b = upZ n b := by
  have h := down_neg (n := 0 - n) hb
  rw [← h]
  unfold upZ
  rw [show 0 - (0 - n) + b - 1 = n + b - 1 by omega]
  omega
structure Ry where
  cl : Int
  ch : Int
  sl : Int
  sh : Int
structure Wv where
  h : Int
  p : Int
  f : Int
def ry0 : Ry := ⟨100000000, 100000000, 0, 0⟩
/-- the rays of the halves of a quarter turn -/
def crc : Nat → Ry
  | 0 => ⟨0, 0, 100000000, 100000000⟩
  | 1 => ⟨70710678, 70710679, 70710678, 70710679⟩
  | 2 => ⟨92387953, 92387954, 38268342, 38268344⟩
  | 3 => ⟨98078527, 98078529, 19509031, 19509033⟩
  | 4 => ⟨99518472, 99518473, 9801711, 9801717⟩
  | 5 => ⟨99879545, 99879546, 4906765, 4906771⟩
  | 6 => ⟨99969881, 99969882, 2454118, 2454130⟩
  | 7 => ⟨99992469, 99992471, 1227151, 1227172⟩
  | 8 => ⟨99998117, 99998118, 613555, 613637⟩
  | 9 => ⟨99999529, 99999530, 306757, 306839⟩
  | _ => ⟨99999882, 99999883, 153297, 153461⟩
def turnM (a b : Ry) : Ry :=
  ⟨max 0 ((a.cl * b.cl - a.sh * b.sh) / 100000000), upZ (a.ch * b.ch - a.sl * b.sl) 100000000, (a.sl * b.cl + a.cl * b.sl) / 100000000, min 100000000 (upZ (a.sh * b.ch + a.ch * b.sh) 100000000)⟩
def okRy (r : Ry) : Prop := (0 ≤ r.cl ∧ r.cl ≤ 100000000) ∧ (0 ≤ r.ch ∧ r.ch ≤ 100000000) ∧ (0 ≤ r.sl ∧ r.sl ≤ 100000000) ∧ 0 ≤ r.sh ∧ r.sh ≤ 100000000
instance (r : Ry) : Decidable (okRy r) := by unfold okRy; infer_instance
def bitP (a : Int) (k : Nat) : Prop := andM a ((1024 : Int).fdiv (2 ^ (min ((k : Int)).toNat IntKind.i64.bits))) ≠ 0
instance (a : Int) (k : Nat) : Decidable (bitP a k) := by unfold bitP; infer_instance
def rayK (a : Int) : Nat → Ry
  | 0 => ry0
  | k + 1 => if bitP a (k + 1) then turnM (rayK a k) (crc (k + 1)) else rayK a k
theorem rayK_yes {a : Int} {k : Nat} (h : bitP a (k + 1)) : rayK a (k + 1) = turnM (rayK a k) (crc (k + 1)) := if_pos h
theorem rayK_no {a : Int} {k : Nat} (h : ¬ bitP a (k + 1)) : rayK a (k + 1) = rayK a k := if_neg h
def trOk : Nat → Nat → Ry → Bool
  | 0, _, r => decide (okRy r)
  | n + 1, k, r => decide (okRy r) && trOk n (k + 1) r && trOk n (k + 1) (turnM r (crc k))
theorem tr_all : trOk 10 1 ry0 = true := by decide +kernel
theorem tr_k (a : Int) : ∀ k n : Nat, k + n = 10 → trOk n (k + 1) (rayK a k) = true
  | 0, n, h => by
    obtain rfl : n = 10 := by omega
    exact tr_all
  | k + 1, n, h => by
    have ih := tr_k a k (n + 1) (by omega)
    unfold trOk at ih
    simp only [Bool.and_eq_true] at ih
    by_cases hb : bitP a (k + 1)
    · rw [rayK_yes hb]; exact ih.2
    · rw [rayK_no hb]; exact ih.1.2
theorem ray_ok (a : Int) {k : Nat} (hk : k ≤ 10) : okRy (rayK a k) := by
  have h := tr_k a k (10 - k) (by omega)
  cases hn : 10 - k with
  | zero => rw [hn] at h; unfold trOk at h; exact of_decide_eq_true h
  | succ n => rw [hn] at h; unfold trOk at h; simp only [Bool.and_eq_true] at h; exact of_decide_eq_true h.1.1
theorem crc_ok {k : Nat} (h1 : 1 ≤ k) (hk : k ≤ 10) : okRy (crc k) := by
  obtain rfl | rfl | rfl | rfl | rfl | rfl | rfl | rfl | rfl | rfl : k = 1 ∨ k = 2 ∨ k = 3 ∨ k = 4 ∨ k = 5 ∨ k = 6 ∨ k = 7 ∨ k = 8 ∨ k = 9 ∨ k = 10 := by omega
  all_goals decide
theorem turn_in {a b : Ry} (ha : okRy a) (hb : okRy b) : ((0 ≤ a.cl * b.cl ∧ a.cl * b.cl ≤ 10000000000000000) ∧ (0 ≤ a.sh * b.sh ∧ a.sh * b.sh ≤ 10000000000000000)) ∧ ((0 ≤ a.ch * b.ch ∧ a.ch * b.ch ≤ 10000000000000000) ∧ (0 ≤ a.sl * b.sl ∧ a.sl * b.sl ≤ 10000000000000000)) ∧
    ((0 ≤ a.sl * b.cl ∧ a.sl * b.cl ≤ 10000000000000000) ∧ (0 ≤ a.cl * b.sl ∧ a.cl * b.sl ≤ 10000000000000000)) ∧ (0 ≤ a.sh * b.ch ∧ a.sh * b.ch ≤ 10000000000000000) ∧ 0 ≤ a.ch * b.sh ∧ a.ch * b.sh ≤ 10000000000000000 := by
  obtain ⟨a1, a2, a3, a4⟩ := ha
  obtain ⟨b1, b2, b3, b4⟩ := hb
  exact ⟨⟨mulB a1 b1, mulB a4 b4⟩, ⟨mulB a2 b2, mulB a3 b3⟩, ⟨mulB a3 b1, mulB a1 b3⟩, mulB a4 b2, mulB a2 b4⟩
/-! ### Roots -/
structure isRt (n r : Int) : Prop where
  r0 : 0 ≤ r
  le : r * r ≤ n
  lt : n < (r + 1) * (r + 1)
theorem rt_in {n r : Int} (h : isRt n r) (hn : n ≤ 100000000000000000) : r ≤ n ∧ r ≤ 400000000 := by
  have h1 := h.le; have h2 := h.r0
  constructor
  · by_cases hr : r = 0
    · have := Int.mul_nonneg h2 h2
      omega
    · have := Int.mul_le_mul_of_nonneg_left (show 1 ≤ r by omega) h2
      omega
  · by_cases hr : r ≤ 400000000
    · exact hr
    · have := Int.mul_le_mul (show 400000001 ≤ r by omega) (show 400000001 ≤ r by omega) (by decide) h2
      omega
/-- a step comes down, but not below the root -/
theorem rt_step {n r x : Int} (h : isRt n r) (hx : r ≤ x) (h0 : 1 ≤ x) : r ≤ (x + n / x) / 2 := by
  have hd := Int.mul_ediv_add_emod n x
  have hm := Int.emod_lt_of_pos n (show 0 < x by omega)
  have h1 := h.le
  have e : (x - r) * (x - r) = x * x - 2 * (x * r) + r * r := by grind
  have p : 0 ≤ (x - r) * (x - r) := Int.mul_nonneg (by omega) (by omega)
  have k : 2 * r ≤ x + n / x := by
    by_cases hk : 2 * r ≤ x + n / x
    · exact hk
    · have q := Int.mul_le_mul_of_nonneg_left (show n / x ≤ 2 * r - x - 1 by omega) (show 0 ≤ x by omega)
      have e2 : x * (2 * r - x - 1) = 2 * (x * r) - x * x - x := by grind
      omega
  omega
theorem rt_end {n r x : Int} (h : isRt n r) (hx : r ≤ x) (h0 : 1 ≤ x) (hy : ¬ (x + n / x) / 2 < x) : x = r := by
  have hd := Int.mul_ediv_add_emod n x
  have hm := Int.emod_nonneg n (show x ≠ 0 by omega)
  have k : x ≤ n / x := by omega
  have q := Int.mul_le_mul_of_nonneg_left k (show 0 ≤ x by omega)
  by_cases hr : x = r
  · exact hr
  · have := Int.mul_le_mul (show r + 1 ≤ x by omega) (show r + 1 ≤ x by omega) (by have := h.r0; omega) (by omega)
    have := h.lt
    omega
theorem rt_small {n r : Int} (h : isRt n r) (hn : n < 2) (h0 : 0 ≤ n) : n = r := by
  have := (rt_in h (by omega)).1
  have h1 := h.lt
  have h2 := h.r0
  by_cases hr : r = n
  · omega
  · obtain rfl : r = 0 := by omega
    omega
/-! ### Angles -/
def rayM (a : Int) : Ry := rayK a 10
def cosM (a : Int) : Rg := if a / 1024 % 4 = 0 then ⟨(rayM (a % 1024)).cl, (rayM (a % 1024)).ch⟩ else if a / 1024 % 4 = 1 then ⟨0 - (rayM (a % 1024)).sh, 0 - (rayM (a % 1024)).sl⟩ else if a / 1024 % 4 = 2 then ⟨0 - (rayM (a % 1024)).ch, 0 - (rayM (a % 1024)).cl⟩ else ⟨(rayM (a % 1024)).sl, (rayM (a % 1024)).sh⟩
theorem cosM_in (a : Int) : (-100000000 ≤ (cosM a).lo ∧ (cosM a).lo ≤ 100000000) ∧ -100000000 ≤ (cosM a).hi ∧ (cosM a).hi ≤ 100000000 := by
  obtain ⟨h1, h2, h3, h4⟩ := ray_ok (a % 1024) (k := 10) (Nat.le_refl _)
  unfold cosM rayM
  split
  · exact ⟨by dsimp only; omega, by dsimp only; omega⟩
  · split
    · exact ⟨by dsimp only; omega, by dsimp only; omega⟩
    · split
      · exact ⟨by dsimp only; omega, by dsimp only; omega⟩
      · exact ⟨by dsimp only; omega, by dsimp only; omega⟩
/-- half a turn later -/
theorem cosM_half {a b : Int} (h : b = a + 2048 ∨ b = a - 2048) : (cosM b).lo = 0 - (cosM a).hi ∧ (cosM b).hi = 0 - (cosM a).lo := by
  have e1 : b % 1024 = a % 1024 := by omega
  have e2 : b / 1024 % 4 = (a / 1024 + 2) % 4 := by omega
  have h4 : a / 1024 % 4 = 0 ∨ a / 1024 % 4 = 1 ∨ a / 1024 % 4 = 2 ∨ a / 1024 % 4 = 3 := by omega
  unfold cosM
  rw [e1]
  rcases h4 with h4 | h4 | h4 | h4
  · rw [show b / 1024 % 4 = 2 by omega, h4, if_neg (by decide), if_neg (by decide), if_pos rfl, if_pos rfl]
    exact ⟨rfl, rfl⟩
  · rw [show b / 1024 % 4 = 3 by omega, h4, if_neg (by decide), if_neg (by decide), if_neg (by decide), if_neg (by decide), if_pos rfl]
    exact ⟨by dsimp only; omega, by dsimp only; omega⟩
  · rw [show b / 1024 % 4 = 0 by omega, h4, if_pos rfl, if_neg (by decide), if_neg (by decide), if_pos rfl]
    exact ⟨by dsimp only; omega, by dsimp only; omega⟩
  · rw [show b / 1024 % 4 = 1 by omega, h4, if_neg (by decide), if_pos rfl, if_neg (by decide), if_neg (by decide), if_neg (by decide)]
    exact ⟨rfl, rfl⟩
structure okWv (w : Wv) : Prop where
  h : 0 ≤ w.h ∧ w.h ≤ 100000
  p : 1 ≤ w.p ∧ w.p ≤ 100000
  f : 0 ≤ w.f ∧ w.f ≤ 4095
def angN (w : Wv) (m : Int) : Int := (w.f * w.p + 4096 * m) % (4096 * w.p)
theorem ang_in {w : Wv} (H : okWv w) {m : Int} (hm : 0 ≤ m ∧ m ≤ 1000000) : (0 ≤ w.f * w.p ∧ w.f * w.p ≤ 409500000) ∧ (0 ≤ angN w m ∧ angN w m < 4096 * w.p) ∧ (0 ≤ angN w m / w.p ∧ angN w m / w.p ≤ 4095) ∧ 0 ≤ upZ (angN w m) w.p ∧ upZ (angN w m) w.p ≤ 4096 := by
  have hp := H.p; have hf := H.f
  have h1 := mulB hf (show 0 ≤ w.p ∧ w.p ≤ 100000 by omega)
  have h2 : 0 ≤ angN w m ∧ angN w m < 4096 * w.p := ⟨Int.emod_nonneg _ (by omega), Int.emod_lt_of_pos _ (by omega)⟩
  refine ⟨by omega, h2, ⟨Int.ediv_nonneg h2.1 (by omega), ?_⟩, Int.ediv_nonneg (by omega) (by omega), ?_⟩
  · have : angN w m / w.p < 4095 + 1 := Int.ediv_lt_of_lt_mul (by omega) (by omega)
    omega
  · have : (angN w m + w.p - 1) / w.p < 4096 + 1 := Int.ediv_lt_of_lt_mul (by omega) (by rw [Int.add_mul]; omega)
    unfold upZ
    omega
/-- a wave that is turned over -/
def ovW (w : Wv) : Wv := ⟨w.h, w.p, (w.f + 2048) % 4096⟩
theorem ovW_ok {w : Wv} (H : okWv w) : okWv (ovW w) := ⟨H.h, H.p, by show 0 ≤ (w.f + 2048) % 4096 ∧ (w.f + 2048) % 4096 ≤ 4095; omega⟩
theorem ov_ang {w : Wv} (H : okWv w) {m : Int} (hm : 0 ≤ m ∧ m ≤ 1000000) : angN (ovW w) m = angN w m + 2048 * w.p ∨ angN (ovW w) m = angN w m - 2048 * w.p := by
  have hp := H.p; have hf := H.f
  have h1 := Int.mul_ediv_add_emod (w.f * w.p + 4096 * m) (4096 * w.p)
  have h2 := (ang_in H hm).2.1
  obtain ⟨e, he⟩ : ∃ e : Int, (w.f + 2048) % 4096 = w.f + 2048 - 4096 * e := ⟨(w.f + 2048) / 4096, by omega⟩
  have h3 : angN (ovW w) m = (angN w m + 2048 * w.p) % (4096 * w.p) := by
    show ((w.f + 2048) % 4096 * w.p + 4096 * m) % (4096 * w.p) = _
    rw [he]
    have h4 : angN w m = w.f * w.p + 4096 * m - 4096 * w.p * ((w.f * w.p + 4096 * m) / (4096 * w.p)) := by
      unfold angN
      omega
    have e1 : (w.f + 2048 - 4096 * e) * w.p + 4096 * m = (angN w m + 2048 * w.p) + 4096 * w.p * ((w.f * w.p + 4096 * m) / (4096 * w.p) - e) := by
      rw [h4]
      grind
    rw [e1, Int.add_mul_emod_self_left]
  rw [h3]
  by_cases hc : angN w m + 2048 * w.p < 4096 * w.p
  · left
    exact Int.emod_eq_of_lt (by omega) hc
  · right
    have e2 : angN w m + 2048 * w.p = (angN w m - 2048 * w.p) + 4096 * w.p * 1 := by omega
    rw [e2, Int.add_mul_emod_self_left]
    exact Int.emod_eq_of_lt (by omega) (by omega)
def wLo (w : Wv) (m : Int) : Int := min (cosM (angN w m / w.p)).lo (cosM (upZ (angN w m) w.p)).lo
def wHi (w : Wv) (m : Int) : Int := max (cosM (angN w m / w.p)).hi (cosM (upZ (angN w m) w.p)).hi
theorem w_in (w : Wv) (m : Int) : (-100000000 ≤ wLo w m ∧ wLo w m ≤ 100000000) ∧ -100000000 ≤ wHi w m ∧ wHi w m ≤ 100000000 := by
  have h1 := cosM_in (angN w m / w.p); have h2 := cosM_in (upZ (angN w m) w.p)
  unfold wLo wHi
  omega
theorem ov_w {w : Wv} (H : okWv w) {m : Int} (hm : 0 ≤ m ∧ m ≤ 1000000) : wLo (ovW w) m = 0 - wHi w m ∧ wHi (ovW w) m = 0 - wLo w m := by
  have hp := H.p
  have hd : ∀ n : Int, (n + 2048 * w.p) / w.p = n / w.p + 2048 := fun n => by rw [Int.add_mul_ediv_right _ _ (by omega)]
  have hd2 : ∀ n : Int, (n - 2048 * w.p) / w.p = n / w.p - 2048 := fun n => by
    have := hd (n - 2048 * w.p)
    rw [show n - 2048 * w.p + 2048 * w.p = n by omega] at this
    omega
  have a1 : angN (ovW w) m / w.p = angN w m / w.p + 2048 ∨ angN (ovW w) m / w.p = angN w m / w.p - 2048 := by
    rcases ov_ang H hm with h | h
    · left; rw [h, hd]
    · right; rw [h, hd2]
  have a2 : upZ (angN (ovW w) m) w.p = upZ (angN w m) w.p + 2048 ∨ upZ (angN (ovW w) m) w.p = upZ (angN w m) w.p - 2048 := by
    unfold upZ
    rcases ov_ang H hm with h | h
    · left; rw [h, show angN w m + 2048 * w.p + w.p - 1 = (angN w m + w.p - 1) + 2048 * w.p by omega, hd]
    · right; rw [h, show angN w m - 2048 * w.p + w.p - 1 = (angN w m + w.p - 1) - 2048 * w.p by omega, hd2]
  have c1 := cosM_half a1
  have c2 := cosM_half a2
  show min (cosM (angN (ovW w) m / w.p)).lo (cosM (upZ (angN (ovW w) m) w.p)).lo = _ ∧ max (cosM (angN (ovW w) m / w.p)).hi (cosM (upZ (angN (ovW w) m) w.p)).hi = _
  rw [c1.1, c1.2, c2.1, c2.2]
  unfold wLo wHi
  omega
/-! ### Levels -/
def wvAt (l : List Wv) (k : Nat) : Wv := (l[k]?).getD ⟨0, 1, 0⟩
theorem wvAt_get {l : List Wv} {k : Nat} {x : Wv} (h : l[k]? = some x) : wvAt l k = x := by unfold wvAt; rw [h]; rfl
def loS (l : List Wv) (m : Int) : Nat → Int
  | 0 => 0
  | k + 1 => loS l m k + (wvAt l k).h * wLo (wvAt l k) m
def hiS (l : List Wv) (m : Int) : Nat → Int
  | 0 => 0
  | k + 1 => hiS l m k + (wvAt l k).h * wHi (wvAt l k) m
theorem h_in {h x : Int} (hh : 0 ≤ h ∧ h ≤ 100000) (hx : -100000000 ≤ x ∧ x ≤ 100000000) : -10000000000000 ≤ h * x ∧ h * x ≤ 10000000000000 := by
  have a := mulB hh (show 0 ≤ x + 100000000 ∧ x + 100000000 ≤ 200000000 by omega)
  have b := mulB hh (show 0 ≤ 100000000 - x ∧ 100000000 - x ≤ 200000000 by omega)
  rw [Int.mul_add] at a
  rw [Int.mul_sub] at b
  omega
theorem lev_in {l : List Wv} (h : ∀ x ∈ l, okWv x) (m : Int) : ∀ k : Nat, k ≤ l.length → (-(10000000000000 * (k : Int)) ≤ loS l m k ∧ loS l m k ≤ 10000000000000 * (k : Int)) ∧ -(10000000000000 * (k : Int)) ≤ hiS l m k ∧ hiS l m k ≤ 10000000000000 * (k : Int)
  | 0, _ => by
    have e1 : loS l m 0 = 0 := rfl
    have e2 : hiS l m 0 = 0 := rfl
    rw [e1, e2]
    omega
  | k + 1, hk => by
    have ih := lev_in h m k (by omega)
    obtain ⟨x, hx⟩ := get_some l (show k < l.length by omega)
    have hw := h x (List.mem_of_getElem? hx)
    have e := wvAt_get hx
    have e1 : loS l m (k + 1) = loS l m k + x.h * wLo x m := by show _ + (wvAt l k).h * wLo (wvAt l k) m = _; rw [e]
    have e2 : hiS l m (k + 1) = hiS l m k + x.h * wHi x m := by show _ + (wvAt l k).h * wHi (wvAt l k) m = _; rw [e]
    have a := h_in hw.h (w_in x m).1
    have b := h_in hw.h (w_in x m).2
    rw [e1, e2]
    omega
def levM (me : Int) (l : List Wv) (m : Int) : Rg := ⟨me + loS l m l.length / 100000000, me + upZ (hiS l m l.length) 100000000⟩
theorem sum_app {a b : List Wv} {m : Int} : ∀ k : Nat, k ≤ b.length → loS (a ++ b) m (a.length + k) = loS a m a.length + loS b m k ∧ hiS (a ++ b) m (a.length + k) = hiS a m a.length + hiS b m k
  | 0, _ => by
    have : ∀ j : Nat, j ≤ a.length → loS (a ++ b) m j = loS a m j ∧ hiS (a ++ b) m j = hiS a m j := fun j => by
      induction j with
      | zero => exact fun _ => ⟨rfl, rfl⟩
      | succ j ih =>
        intro hj
        have e : wvAt (a ++ b) j = wvAt a j := by unfold wvAt; rw [List.getElem?_append_left (by omega)]
        obtain ⟨i1, i2⟩ := ih (by omega)
        refine ⟨?_, ?_⟩
        · show loS (a ++ b) m j + (wvAt (a ++ b) j).h * wLo (wvAt (a ++ b) j) m = loS a m j + (wvAt a j).h * wLo (wvAt a j) m
          rw [e, i1]
        · show hiS (a ++ b) m j + (wvAt (a ++ b) j).h * wHi (wvAt (a ++ b) j) m = hiS a m j + (wvAt a j).h * wHi (wvAt a j) m
          rw [e, i2]
    obtain ⟨h1, h2⟩ := this a.length (Nat.le_refl _)
    have z1 : loS b m 0 = 0 := rfl
    have z2 : hiS b m 0 = 0 := rfl
    rw [Nat.add_zero, h1, h2, z1, z2]
    omega
  | k + 1, hk => by
    obtain ⟨i1, i2⟩ := sum_app (a := a) (b := b) (m := m) k (by omega)
    have e : wvAt (a ++ b) (a.length + k) = wvAt b k := by unfold wvAt; rw [List.getElem?_append_right (by omega), Nat.add_sub_cancel_left]
    refine ⟨?_, ?_⟩
    · show loS (a ++ b) m (a.length + k) + (wvAt (a ++ b) (a.length + k)).h * wLo (wvAt (a ++ b) (a.length + k)) m = loS a m a.length + (loS b m k + (wvAt b k).h * wLo (wvAt b k) m)
      rw [e, i1]; omega
    · show hiS (a ++ b) m (a.length + k) + (wvAt (a ++ b) (a.length + k)).h * wHi (wvAt (a ++ b) (a.length + k)) m = hiS a m a.length + (hiS b m k + (wvAt b k).h * wHi (wvAt b k) m)
      rw [e, i2]; omega
theorem sum_ov {l : List Wv} (h : ∀ x ∈ l, okWv x) {m : Int} (hm : 0 ≤ m ∧ m ≤ 1000000) : ∀ k : Nat, k ≤ l.length → loS (l.map ovW) m k = 0 - hiS l m k ∧ hiS (l.map ovW) m k = 0 - loS l m k
  | 0, _ => ⟨rfl, rfl⟩
  | k + 1, hk => by
    obtain ⟨i1, i2⟩ := sum_ov h hm k (by omega)
    obtain ⟨x, hx⟩ := get_some l (show k < l.length by omega)
    have hw := h x (List.mem_of_getElem? hx)
    obtain ⟨o1, o2⟩ := ov_w hw hm
    have e := wvAt_get hx
    have e2 : wvAt (l.map ovW) k = ovW x := wvAt_get (by rw [List.getElem?_map, hx]; rfl)
    refine ⟨?_, ?_⟩
    · show loS (l.map ovW) m k + (wvAt (l.map ovW) k).h * wLo (wvAt (l.map ovW) k) m = 0 - (hiS l m k + (wvAt l k).h * wHi (wvAt l k) m)
      rw [e, e2, i1, o1]
      show _ + x.h * (0 - wHi x m) = _
      rw [Int.mul_sub, Int.mul_zero]
      omega
    · show hiS (l.map ovW) m k + (wvAt (l.map ovW) k).h * wHi (wvAt (l.map ovW) k) m = 0 - (loS l m k + (wvAt l k).h * wLo (wvAt l k) m)
      rw [e, e2, i2, o2]
      show _ + x.h * (0 - wLo x m) = _
      rw [Int.mul_sub, Int.mul_zero]
      omega
theorem lev_add {a b : List Wv} {ma mb m : Int} : ((levM ma a m).lo + (levM mb b m).lo ≤ (levM (ma + mb) (a ++ b) m).lo ∧ (levM (ma + mb) (a ++ b) m).lo ≤ (levM ma a m).lo + (levM mb b m).lo + 2) ∧
    (levM ma a m).hi + (levM mb b m).hi - 2 ≤ (levM (ma + mb) (a ++ b) m).hi ∧ (levM (ma + mb) (a ++ b) m).hi ≤ (levM ma a m).hi + (levM mb b m).hi := by
  obtain ⟨h1, h2⟩ := sum_app (a := a) (b := b) (m := m) b.length (Nat.le_refl _)
  unfold levM upZ
  dsimp only
  rw [List.length_append, h1, h2]
  omega
theorem lev_ov {l : List Wv} (h : ∀ x ∈ l, okWv x) {ma m : Int} (hm : 0 ≤ m ∧ m ≤ 1000000) : (levM (0 - ma) (l.map ovW) m).lo = 0 - (levM ma l m).hi ∧ (levM (0 - ma) (l.map ovW) m).hi = 0 - (levM ma l m).lo := by
  obtain ⟨h1, h2⟩ := sum_ov h hm l.length (Nat.le_refl _)
  unfold levM upZ
  dsimp only
  rw [List.length_map, h1, h2]
  omega
theorem lev_bd {l : List Wv} (h : ∀ x ∈ l, okWv x) (hl : l.length ≤ 10) {ma m : Int} (hm : -100000 ≤ ma ∧ ma ≤ 100000) : (-10000000 ≤ (levM ma l m).lo ∧ (levM ma l m).lo ≤ 10000000) ∧ -10000000 ≤ (levM ma l m).hi ∧ (levM ma l m).hi ≤ 10000000 := by
  have := lev_in h m l.length (Nat.le_refl _)
  unfold levM upZ
  dsimp only
  omega
theorem lev_ex : (levM 200 [⟨100, 4096, 0⟩] 512).lo = 270 ∧ (levM 200 [⟨100, 4096, 0⟩] 512).hi = 271 := by decide +kernel
/-! ### Tables, and how they lie in memory -/
def cRy (r : Ry) : List Value := [.int .i64 r.cl, .int .i64 r.ch, .int .i64 r.sl, .int .i64 r.sh]
def cWv (w : Wv) : List Value := [.int .i64 w.h, .int .i64 w.p, .int .i64 w.f]
def crcL (k : Nat) : List Value := ((List.range 11).map fun i => if i ≤ k then cRy (crc i) else cRy ⟨0, 0, 0, 0⟩).flatten
theorem crc_cut {k : Nat} (h1 : 1 ≤ k) (h2 : k ≤ 10) : cut (crcL 10) (k * 4) 4 = cRy (crc k) := by
  obtain rfl | rfl | rfl | rfl | rfl | rfl | rfl | rfl | rfl | rfl : k = 1 ∨ k = 2 ∨ k = 3 ∨ k = 4 ∨ k = 5 ∨ k = 6 ∨ k = 7 ∨ k = 8 ∨ k = 9 ∨ k = 10 := by omega
  all_goals rfl
theorem oneWv (l : List Wv) : ∀ c ∈ (l.map cWv).flatten, c.oneCell' = true := one_map cWv (fun a c hc => by
  simp only [cWv, List.mem_cons, List.not_mem_nil, or_false] at hc
  rcases hc with rfl | rfl | rfl <;> rfl) l
abbrev okWvP (w : Wv) : Prop := (0 ≤ w.h ∧ w.h ≤ 100000) ∧ (1 ≤ w.p ∧ w.p ≤ 100000) ∧ 0 ≤ w.f ∧ w.f ≤ 4095
def ckWs : List Wv → Int
  | [] => 0
  | w :: t => if okWvP w then ckWs t else 2
theorem ckWs_step {l : List Wv} {k : Nat} {w : Wv} (h : l[k]? = some w) : ckWs (l.drop k) = if okWvP w then ckWs (l.drop (k + 1)) else 2 := by rw [drop_cons h]; rfl
theorem ckWs_ok : ∀ {l : List Wv}, ckWs l = 0 → ∀ w ∈ l, okWv w
  | [], _, w, hw => by cases hw
  | x :: t, h, w, hw => by
    unfold ckWs at h
    by_cases hx : okWvP x
    · rw [if_pos hx] at h
      rcases List.mem_cons.1 hw with rfl | hw
      · exact ⟨hx.1, hx.2.1, hx.2.2⟩
      · exact ckWs_ok h w hw
    · rw [if_neg hx] at h; exact absurd h (by decide)
def ckTd (me : Int) (l : List Wv) : Int := if ¬ (-100000 ≤ me ∧ me ≤ 100000) then 2 else if l.length > 10 then 8 else ckWs l
theorem ckTd_1 {me : Int} {l : List Wv} (h : ¬ (-100000 ≤ me ∧ me ≤ 100000)) : ckTd me l = 2 := if_pos h
theorem ckTd_2 {me : Int} {l : List Wv} (h : -100000 ≤ me ∧ me ≤ 100000) (h2 : l.length > 10) : ckTd me l = 8 := by unfold ckTd; rw [if_neg (fun hh => hh h), if_pos h2]
theorem ckTd_3 {me : Int} {l : List Wv} (h : -100000 ≤ me ∧ me ≤ 100000) (h2 : ¬ l.length > 10) : ckTd me l = ckWs l := by unfold ckTd; rw [if_neg (fun hh => hh h), if_neg h2]
theorem ckTd_ok {me : Int} {l : List Wv} (h : ckTd me l = 0) : (-100000 ≤ me ∧ me ≤ 100000) ∧ l.length ≤ 10 ∧ ∀ w ∈ l, okWv w := by
  by_cases h1 : -100000 ≤ me ∧ me ≤ 100000
  · by_cases h2 : l.length > 10
    · rw [ckTd_2 h1 h2] at h; exact absurd h (by decide)
    · rw [ckTd_3 h1 h2] at h
      exact ⟨h1, by omega, ckWs_ok h⟩
  · rw [ckTd_1 h1] at h; exact absurd h (by decide)
theorem ov_cells {l : List Wv} {k : Nat} {z : Wv} (h : l[k]? = some z) : ((l.map ovW).take k).map cWv ++ [cWv (ovW z)] = ((l.map ovW).take (k + 1)).map cWv := by
  have h2 : (l.map ovW)[k]? = some (ovW z) := by rw [List.getElem?_map, h]; rfl
  rw [List.take_add_one, h2, List.map_append]
  rfl
theorem ov_all (l : List Wv) : (l.map ovW).take l.length = l.map ovW := List.take_of_length_le (by rw [List.length_map]; exact Nat.le_refl _)
theorem ov_ok {l : List Wv} (h : ∀ x ∈ l, okWv x) : ∀ x ∈ l.map ovW, okWv x := fun x hx => by
  obtain ⟨y, hy, rfl⟩ := List.mem_map.1 hx
  exact ovW_ok (h y hy)
theorem app_ok {a b : List Wv} (h1 : ∀ x ∈ a, okWv x) (h2 : ∀ x ∈ b, okWv x) : ∀ x ∈ a ++ b, okWv x := fun x hx => by
  rcases List.mem_append.1 hx with h | h
  · exact h1 x h
  · exact h2 x h
end Go.Proofs.Ytkpnfmdkklfgjaa
