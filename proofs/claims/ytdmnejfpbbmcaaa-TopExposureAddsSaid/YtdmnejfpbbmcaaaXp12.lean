/-
  Plain laws of chapter 5: a leg that is divided in two. Conditions: none; no program in sight.
-/
import Derived.Test.YtdmnejfpbbmcaaaArgP
namespace Go.Proofs.Ytdmnejfpbbmcaaa
theorem upZ_add {a b c : Int} (hc : 1 ≤ c) : upZ (a + b) c ≤ upZ a c + upZ b c ∧ upZ a c + upZ b c ≤ upZ (a + b) c + 1 := by
  have h1 := Int.mul_ediv_add_emod (a + c - 1) c
  have h2 := Int.emod_nonneg (a + c - 1) (show c ≠ 0 by omega)
  have h3 := Int.emod_lt_of_pos (a + c - 1) (show 0 < c by omega)
  have h4 := Int.mul_ediv_add_emod (b + c - 1) c
  have h5 := Int.emod_nonneg (b + c - 1) (show c ≠ 0 by omega)
  have h6 := Int.emod_lt_of_pos (b + c - 1) (show 0 < c by omega)
  unfold upZ
  generalize (a + c - 1) / c = p at *
  generalize (b + c - 1) / c = q at *
  generalize (a + c - 1) % c = s at *
  generalize (b + c - 1) % c = t at *
  have e : a + b + c - 1 = (s + t - c + 1) + c * (p + q) := by rw [Int.mul_add]; omega
  rw [e, Int.add_mul_ediv_left _ _ (by omega)]
  have l1 : -1 ≤ (s + t - c + 1) / c := by
    refine Int.le_ediv_of_mul_le (by omega) ?_
    omega
  have l2 : (s + t - c + 1) / c ≤ 0 := by
    have : (s + t - c + 1) / c < 1 := Int.ediv_lt_of_lt_mul (by omega) (by omega)
    omega
  omega
section
variable {nm : ByteArray} {sf : Int} {r : Ru} {gs : List Gs} {ls : List Dl} {k i : Nat} {c : Int} {tb : List Ow}
def dvP (ls : List Dl) (k : Nat) (c : Int) : Prop := 0 < c ∧ c < (dlAt ls k).s ∧ (((dlAt ls k).d - depAt ls k) * c) % (dlAt ls k).s = 0
instance (ls : List Dl) (k : Nat) (c : Int) : Decidable (dvP ls k c) := by unfold dvP; infer_instance
def dvM (ls : List Dl) (k : Nat) (c : Int) : Int := depAt ls k + (((dlAt ls k).d - depAt ls k) * c) / (dlAt ls k).s
def dvA (ls : List Dl) (k : Nat) (c : Int) : Dl := ⟨c, dvM ls k c, (dlAt ls k).g⟩
def dvB (ls : List Dl) (k : Nat) (c : Int) : Dl := ⟨(dlAt ls k).s - c, (dlAt ls k).d, (dlAt ls k).g⟩
def dvL (ls : List Dl) (k : Nat) (c : Int) : List Dl := (ls.take k ++ [dvA ls k c, dvB ls k c]) ++ ls.drop (k + 1)
theorem dvL_len (hk : k < ls.length) : (dvL ls k c).length = ls.length + 1 := by
  unfold dvL
  simp only [List.length_append, List.length_take, List.length_drop, List.length_cons, List.length_nil]
  omega
theorem dv_lo (hk : k < ls.length) (hi : i < k) : dlAt (dvL ls k c) i = dlAt ls i := by
  unfold dlAt dvL
  rw [List.append_assoc, List.getElem?_append_left (by rw [List.length_take]; omega), List.getElem?_take_of_lt hi]
theorem dv_a (hk : k < ls.length) : dlAt (dvL ls k c) k = dvA ls k c := by
  have e : (ls.take k).length = k := by rw [List.length_take]; omega
  unfold dvL
  unfold dlAt
  rw [List.append_assoc, List.getElem?_append_right (by omega), e, Nat.sub_self]
  rfl
theorem dv_b (hk : k < ls.length) : dlAt (dvL ls k c) (k + 1) = dvB ls k c := by
  have e : (ls.take k).length = k := by rw [List.length_take]; omega
  unfold dvL
  unfold dlAt
  rw [List.append_assoc, List.getElem?_append_right (by omega), e, show k + 1 - k = 1 by omega]
  rfl
theorem dv_hi (hk : k < ls.length) (hi : k + 2 ≤ i) : dlAt (dvL ls k c) i = dlAt ls (i - 1) := by
  have e : (ls.take k ++ [dvA ls k c, dvB ls k c]).length = k + 2 := by rw [List.length_append, List.length_take]; simp; omega
  unfold dlAt dvL
  rw [List.getElem?_append_right (by omega), e, List.getElem?_drop]
  congr 2
  omega
theorem dv_sec_lo (hk : k < ls.length) : ∀ i, i ≤ k → secAt (dvL ls k c) i = secAt ls i
  | 0, _ => rfl
  | i + 1, h => by rw [secAt_succ, secAt_succ, dv_sec_lo hk i (by omega), dv_lo hk (by omega)]
theorem dv_sec_hi (hk : k < ls.length) : ∀ i, secAt (dvL ls k c) (k + 2 + i) = secAt ls (k + 1 + i)
  | 0 => by
    show secAt (dvL ls k c) (k + 1 + 1) = secAt ls (k + 1)
    rw [secAt_succ, secAt_succ, secAt_succ, dv_sec_lo hk k (Nat.le_refl _), dv_a hk, dv_b hk]
    show secAt ls k + c + ((dlAt ls k).s - c) = _
    omega
  | i + 1 => by
    show secAt (dvL ls k c) (k + 2 + i + 1) = secAt ls (k + 1 + i + 1)
    rw [secAt_succ, secAt_succ, dv_sec_hi hk i, dv_hi hk (by omega)]
    congr 3
    omega
theorem ckLegs_zero {n : Int} : ∀ (m k : Nat), k + m = ls.length → (∀ j, k ≤ j → j < ls.length → okDl n (dlAt ls j) ∧ secAt ls (j + 1) ≤ 1000000) → ckLegs n k (secAt ls k) (ls.drop k) = (0, 0)
  | 0, k, hm, _ => ckLegs_end (by omega)
  | m + 1, k, hm, h => by
    obtain ⟨x, hx⟩ := get_some ls (show k < ls.length by omega)
    have h1 := h k (Nat.le_refl _) (by omega)
    rw [dlAt_get hx, secAt_succ, dlAt_get hx] at h1
    have hc : ckDl1 n (secAt ls k) x = 0 := by
      have a := h1.1.s; have b := h1.1.d; have g := h1.1.g
      unfold ckDl1
      rw [if_neg (fun hh => hh ⟨a.1, a.2, b.1, b.2⟩), if_neg (fun hh => hh g), if_neg (by omega)]
    have e1 : secAt ls (k + 1) = secAt ls k + x.s := by rw [secAt_succ, dlAt_get hx]
    rw [ckLegs_ok hx hc, ← e1]
    exact ckLegs_zero m (k + 1) (by omega) (fun j hj hl => h j (by omega) hl)
theorem dv_mid (H : okPl sf gs ls) (hk : k < ls.length) (hd : dvP ls k c) : dvM ls k c * (dlAt ls k).s = depAt ls k * (dlAt ls k).s + ((dlAt ls k).d - depAt ls k) * c ∧ min (depAt ls k) (dlAt ls k).d ≤ dvM ls k c ∧ dvM ls k c ≤ max (depAt ls k) (dlAt ls k).d := by
  obtain ⟨h0, h1, h2⟩ := hd
  have hs := (H.at hk).s
  have h3 := Int.mul_ediv_add_emod (((dlAt ls k).d - depAt ls k) * c) (dlAt ls k).s
  rw [h2, Int.add_zero] at h3
  have e : dvM ls k c * (dlAt ls k).s = depAt ls k * (dlAt ls k).s + ((dlAt ls k).d - depAt ls k) * c := by
    unfold dvM
    rw [Int.add_mul, Int.mul_comm (_ / _) (dlAt ls k).s, h3]
  refine ⟨e, ?_, ?_⟩
  · by_cases hlt : dvM ls k c < min (depAt ls k) (dlAt ls k).d
    · have p1 := Int.mul_lt_mul_of_pos_right hlt (show 0 < (dlAt ls k).s by omega)
      have p2 : min (depAt ls k) (dlAt ls k).d * (dlAt ls k).s ≤ depAt ls k * (dlAt ls k).s + ((dlAt ls k).d - depAt ls k) * c := by
        have a := Int.mul_nonneg (show 0 ≤ depAt ls k - min (depAt ls k) (dlAt ls k).d by omega) (show 0 ≤ (dlAt ls k).s - c by omega)
        have b := Int.mul_nonneg (show 0 ≤ (dlAt ls k).d - min (depAt ls k) (dlAt ls k).d by omega) (show 0 ≤ c by omega)
        generalize min (depAt ls k) (dlAt ls k).d = m at *
        have e2 : depAt ls k * (dlAt ls k).s + ((dlAt ls k).d - depAt ls k) * c = m * (dlAt ls k).s + ((depAt ls k - m) * ((dlAt ls k).s - c) + ((dlAt ls k).d - m) * c) := by grind
        omega
      omega
    · omega
  · by_cases hlt : max (depAt ls k) (dlAt ls k).d < dvM ls k c
    · have p1 := Int.mul_lt_mul_of_pos_right hlt (show 0 < (dlAt ls k).s by omega)
      have p2 : depAt ls k * (dlAt ls k).s + ((dlAt ls k).d - depAt ls k) * c ≤ max (depAt ls k) (dlAt ls k).d * (dlAt ls k).s := by
        have a := Int.mul_nonneg (show 0 ≤ max (depAt ls k) (dlAt ls k).d - depAt ls k by omega) (show 0 ≤ (dlAt ls k).s - c by omega)
        have b := Int.mul_nonneg (show 0 ≤ max (depAt ls k) (dlAt ls k).d - (dlAt ls k).d by omega) (show 0 ≤ c by omega)
        generalize max (depAt ls k) (dlAt ls k).d = m at *
        have e2 : depAt ls k * (dlAt ls k).s + ((dlAt ls k).d - depAt ls k) * c = m * (dlAt ls k).s - ((m - depAt ls k) * ((dlAt ls k).s - c) + (m - (dlAt ls k).d) * c) := by grind
        omega
      omega
    · omega
theorem dv_ok (H : okPl sf gs ls) (hk : k < ls.length) (hd : dvP ls k c) (hl : ls.length + 1 ≤ 60) (hb : bothE nm sf gs ls r = 0) : bothE nm sf gs (dvL ls k c) r = 0 := by
  obtain ⟨hn, _, _, hz⟩ := bothE_ok hb
  have hm := (dv_mid H hk hd).2
  obtain ⟨h0, h1, h2⟩ := hd
  have hat := H.at hk
  have ha1 := hat.s; have ha2 := hat.d; have hdep := H.dep (k := k) (by omega)
  have e : ckPl nm sf gs (dvL ls k c) = (0, 0) := by
    have hg0 : ckGs gs = 0 := by
      have h3 := hz
      by_cases h4 : gs.length = 0
      · have := H.gl; omega
      · by_cases h5 : gs.length > 8
        · have := H.gl; omega
        · by_cases h6 : ckGs gs = 0
          · exact h6
          · rw [ckPl_5 hn H.sf h4 h5 h6] at h3; exact absurd h3 h6
    have hgl := H.gl
    rw [ckPl_7 hn H.sf (by omega) (by omega) hg0 (by rw [dvL_len hk]; omega)]
    refine ckLegs_zero (ls := dvL ls k c) (n := (gs.length : Int)) (dvL ls k c).length 0 (by omega) (fun j _ hj => ?_)
    rw [dvL_len hk] at hj
    rcases Nat.lt_trichotomy j k with h | h | h
    · rw [dv_lo hk h, dv_sec_lo hk (j + 1) (by omega)]
      exact ⟨H.at (by omega), (H.e (j + 1) (by omega)).2⟩
    · subst h
      rw [dv_a hk, secAt_succ, dv_sec_lo hk j (Nat.le_refl _), dv_a hk]
      have := H.e (j + 1) (by omega)
      rw [secAt_succ] at this
      refine ⟨⟨?_, ?_, hat.g⟩, ?_⟩
      · show 1 ≤ c ∧ c ≤ 1000000; omega
      · show 0 ≤ dvM ls j c ∧ dvM ls j c ≤ 30000; omega
      · show secAt ls j + c ≤ 1000000; omega
    · rcases Nat.lt_or_eq_of_le (show k + 1 ≤ j by omega) with h5 | h5
      · obtain ⟨q, rfl⟩ : ∃ q, j = k + 2 + q := ⟨j - k - 2, by omega⟩
        rw [dv_hi hk (by omega), show k + 2 + q + 1 = k + 2 + (q + 1) by omega, dv_sec_hi hk (q + 1)]
        exact ⟨H.at (by omega), (H.e _ (by omega)).2⟩
      · subst h5
        have e2 := dv_sec_hi (c := c) hk 0
        rw [dv_b hk, show k + 1 + 1 = k + 2 + 0 by omega, e2]
        refine ⟨⟨?_, ?_, hat.g⟩, (H.e _ (by omega)).2⟩
        · show 1 ≤ (dlAt ls k).s - c ∧ (dlAt ls k).s - c ≤ 1000000; omega
        · show 0 ≤ (dlAt ls k).d ∧ (dlAt ls k).d ≤ 30000; omega
  rw [bothE_2 (by rw [e]), both_ru hb]
/-! ### Costs -/
theorem cut_add (hT : okTb tb) {lo m hi : Int} (h1 : lo ≤ m) (h2 : m ≤ hi) (hk : i < tb.length) :
    max 0 (cutHi tb m i - max lo (1000 * (owAt tb i).f)) + max 0 (cutHi tb hi i - max m (1000 * (owAt tb i).f)) = max 0 (cutHi tb hi i - max lo (1000 * (owAt tb i).f)) := by
  unfold cutHi
  by_cases hc : i + 1 < tb.length
  · have := hT.o i hc
    rw [if_pos hc, if_pos hc]
    omega
  · rw [if_neg hc, if_neg hc]
    omega
theorem sumK_add (hT : okTb tb) {lo m hi : Int} (h1 : lo ≤ m) (h2 : m ≤ hi) : ∀ k, k ≤ tb.length → sumK tb lo m k + sumK tb m hi k = sumK tb lo hi k
  | 0, _ => rfl
  | k + 1, hk => by
    have ih := sumK_add hT h1 h2 k (by omega)
    have hc := cut_add hT h1 h2 (i := k) (by omega)
    unfold sumK
    rw [← ih, ← hc, Int.mul_add]
    omega
theorem clk_scale {s S d D w : Int} (hd : 1 ≤ d) (hs : 1 ≤ s) (hS : 1 ≤ S) (e : s * D = S * d) (hD : 1 ≤ D) : upZ (s * w) d = upZ (S * w) D := by
  have e1 : upZ (s * w * D) (d * D) = upZ (s * w) d := upZ_mul hd hD
  have e2 : upZ (S * w * d) (D * d) = upZ (S * w) D := upZ_mul hD hd
  rw [← e1, ← e2, Int.mul_comm D d]
  have : s * w * D = S * w * d := by
    have h1 : s * w * D = w * (s * D) := by grind
    have h2 : S * w * d = w * (S * d) := by grind
    rw [h1, h2, e]
  rw [this]
def clkN (tb : List Ow) (o f t S : Int) : Int := if o * min f t = o * max f t then S * rateM tb (o * min f t) else upZ (S * sumK tb (o * min f t) (o * max f t) tb.length) (o * max f t - o * min f t)
theorem clkN_same {tb : List Ow} {o f S : Int} : clkN tb o f f S = S * rateM tb (o * f) := by
  unfold clkN
  rw [show min f f = f by omega, show max f f = f by omega, if_pos rfl]
theorem clkN_zero {tb : List Ow} {f t S : Int} : clkN tb 0 f t S = S * rateM tb 0 := by
  unfold clkN
  rw [Int.zero_mul, Int.zero_mul, if_pos rfl]
theorem clkN_up {tb : List Ow} {o f t S : Int} (ho : 1 ≤ o) (h : f < t) : clkN tb o f t S = upZ (S * sumK tb (o * f) (o * t) tb.length) (o * t - o * f) ∧ clkN tb o t f S = upZ (S * sumK tb (o * f) (o * t) tb.length) (o * t - o * f) := by
  have h1 := Int.mul_lt_mul_of_pos_left h (show 0 < o by omega)
  unfold clkN
  rw [show min f t = f by omega, show max f t = t by omega, show min t f = f by omega, show max t f = t by omega, if_neg (by omega)]
  exact ⟨rfl, rfl⟩
theorem clk_split1 (hT : okTb tb) {o f t m S c1 : Int} (ho : 1 ≤ o) (h : f < t) (hc : 0 < c1 ∧ c1 < S) (e : m * S = f * S + (t - f) * c1) :
    upZ (S * sumK tb (o * f) (o * t) tb.length) (o * t - o * f) ≤ upZ (c1 * sumK tb (o * f) (o * m) tb.length) (o * m - o * f) + upZ ((S - c1) * sumK tb (o * m) (o * t) tb.length) (o * t - o * m) ∧
    upZ (c1 * sumK tb (o * f) (o * m) tb.length) (o * m - o * f) + upZ ((S - c1) * sumK tb (o * m) (o * t) tb.length) (o * t - o * m) ≤ upZ (S * sumK tb (o * f) (o * t) tb.length) (o * t - o * f) + 1 ∧ f < m ∧ m < t := by
  have p1 := Int.mul_pos (show 0 < t - f by omega) hc.1
  have p2 := Int.mul_pos (show 0 < t - f by omega) (show 0 < S - c1 by omega)
  have e2 : (m - f) * S = (t - f) * c1 := by rw [Int.sub_mul]; omega
  have e3 : (t - m) * S = (t - f) * (S - c1) := by
    have : (t - m) * S = (t - f) * S - (m - f) * S := by grind
    rw [this, e2]; grind
  have m1 : f < m := by
    by_cases hh : f < m
    · exact hh
    · have := Int.mul_nonneg (show 0 ≤ f - m by omega) (show 0 ≤ S by omega)
      have e4 : (f - m) * S = -((m - f) * S) := by grind
      omega
  have m2 : m < t := by
    by_cases hh : m < t
    · exact hh
    · have := Int.mul_nonneg (show 0 ≤ m - t by omega) (show 0 ≤ S by omega)
      have e4 : (m - t) * S = -((t - m) * S) := by grind
      omega
  have q1 := Int.mul_le_mul_of_nonneg_left (show f + 1 ≤ m by omega) (show 0 ≤ o by omega)
  have q2 := Int.mul_le_mul_of_nonneg_left (show m + 1 ≤ t by omega) (show 0 ≤ o by omega)
  rw [Int.mul_add] at q1 q2
  have s1 : upZ (c1 * sumK tb (o * f) (o * m) tb.length) (o * m - o * f) = upZ (S * sumK tb (o * f) (o * m) tb.length) (o * t - o * f) :=
    clk_scale (by omega) (by omega) (by omega) (by
      have a : c1 * (o * t - o * f) = o * ((t - f) * c1) := by grind
      have b : S * (o * m - o * f) = o * ((m - f) * S) := by grind
      rw [a, b, e2]) (by omega)
  have s2 : upZ ((S - c1) * sumK tb (o * m) (o * t) tb.length) (o * t - o * m) = upZ (S * sumK tb (o * m) (o * t) tb.length) (o * t - o * f) :=
    clk_scale (by omega) (by omega) (by omega) (by
      have a : (S - c1) * (o * t - o * f) = o * ((t - f) * (S - c1)) := by grind
      have b : S * (o * t - o * m) = o * ((t - m) * S) := by grind
      rw [a, b, e3]) (by omega)
  rw [s1, s2, ← sumK_add hT (lo := o * f) (m := o * m) (hi := o * t) (by omega) (by omega) tb.length (Nat.le_refl _), Int.mul_add]
  have := upZ_add (a := S * sumK tb (o * f) (o * m) tb.length) (b := S * sumK tb (o * m) (o * t) tb.length) (c := o * t - o * f) (by omega)
  exact ⟨this.1, this.2, m1, m2⟩
theorem clk_split (hT : okTb tb) {o f t m S c1 : Int} (ho : 0 ≤ o) (hc : 0 < c1 ∧ c1 < S) (e : m * S = f * S + (t - f) * c1) :
    clkN tb o f t S ≤ clkN tb o f m c1 + clkN tb o m t (S - c1) ∧ clkN tb o f m c1 + clkN tb o m t (S - c1) ≤ clkN tb o f t S + 1 := by
  have ring : ∀ R : Int, c1 * R + (S - c1) * R = S * R := fun R => by grind
  by_cases h0 : o = 0
  · subst h0
    rw [clkN_zero, clkN_zero, clkN_zero, ring]
    omega
  · rcases Int.lt_trichotomy f t with h | h | h
    · obtain ⟨a, b, m1, m2⟩ := clk_split1 hT (show 1 ≤ o by omega) h hc e
      rw [(clkN_up (by omega) h).1, (clkN_up (by omega) m1).1, (clkN_up (by omega) m2).1]
      exact ⟨a, b⟩
    · subst h
      have hm : m = f := by
        have e2 : (m - f) * S = 0 := by rw [Int.sub_mul]; rw [Int.sub_self, Int.zero_mul] at e; omega
        rcases Int.mul_eq_zero.1 e2 with h9 | h9 <;> omega
      subst hm
      rw [clkN_same, clkN_same, clkN_same, ring]
      omega
    · have e2 : m * S = t * S + (f - t) * (S - c1) := by
        have : t * S + (f - t) * (S - c1) = f * S + (t - f) * c1 := by grind
        rw [this]; exact e
      obtain ⟨a, b, m1, m2⟩ := clk_split1 hT (show 1 ≤ o by omega) h (show 0 < S - c1 ∧ S - c1 < S by omega) e2
      rw [show S - (S - c1) = c1 by omega] at a b
      rw [(clkN_up (by omega) h).2, (clkN_up (by omega) m2).2, (clkN_up (by omega) m1).2]
      omega
theorem br_split {b f t m S c1 : Int} (e : m * S = f * S + (t - f) * c1) :
    upZ (b * (f + t) * S) 120000 ≤ upZ (b * (f + m) * c1) 120000 + upZ (b * (m + t) * (S - c1)) 120000 ∧ upZ (b * (f + m) * c1) 120000 + upZ (b * (m + t) * (S - c1)) 120000 ≤ upZ (b * (f + t) * S) 120000 + 1 := by
  have e2 : b * (f + t) * S = b * (f + m) * c1 + b * (m + t) * (S - c1) := by
    have a : b * (f + m) * c1 + b * (m + t) * (S - c1) = b * (m * S + f * c1 + t * S - t * c1) := by grind
    rw [a, e]
    grind
  rw [e2]
  exact upZ_add (by omega)
/-! ### The legs of the divided plan -/
theorem dv_dep (hk : k < ls.length) : depAt (dvL ls k c) k = depAt ls k ∧ depAt (dvL ls k c) (k + 1) = dvM ls k c := by
  refine ⟨?_, by show (dlAt (dvL ls k c) k).d = _; rw [dv_a hk]; rfl⟩
  cases k with
  | zero => rfl
  | succ k => show (dlAt (dvL ls (k + 1) c) k).d = (dlAt ls k).d; rw [dv_lo hk (by omega)]
theorem dv_leg (hk : k < ls.length) : legAt sf gs (dvL ls k c) k = ⟨dvA ls k c, secAt ls k, sf + depAt ls k, sf + dvM ls k c, sf, gasAt gs (dlAt ls k).g⟩ ∧
    legAt sf gs (dvL ls k c) (k + 1) = ⟨dvB ls k c, secAt ls k + c, sf + dvM ls k c, sf + (dlAt ls k).d, sf, gasAt gs (dlAt ls k).g⟩ := by
  have h1 := dv_dep (c := c) hk
  refine ⟨?_, ?_⟩
  · unfold legAt
    rw [dv_a hk, h1.1, dv_sec_lo hk k (Nat.le_refl _)]
    rfl
  · unfold legAt
    rw [dv_b hk, h1.2, secAt_succ, dv_sec_lo hk k (Nat.le_refl _), dv_a hk]
    rfl
theorem dv_clk (H : okPl sf gs ls) (hT : okTb tb) (hk : k < ls.length) (hd : dvP ls k c) : clkM tb (legAt sf gs ls k) ≤ clkM tb (legAt sf gs (dvL ls k c) k) + clkM tb (legAt sf gs (dvL ls k c) (k + 1)) ∧
    clkM tb (legAt sf gs (dvL ls k c) k) + clkM tb (legAt sf gs (dvL ls k c) (k + 1)) ≤ clkM tb (legAt sf gs ls k) + 1 := by
  have hm := (dv_mid H hk hd).1
  have hg := ckGas_ok (H.gas_ok hk)
  rw [(dv_leg hk).1, (dv_leg hk).2]
  have e : (sf + dvM ls k c) * (dlAt ls k).s = (sf + depAt ls k) * (dlAt ls k).s + ((sf + (dlAt ls k).d) - (sf + depAt ls k)) * c := by
    rw [Int.add_mul, Int.add_mul, hm, show sf + (dlAt ls k).d - (sf + depAt ls k) = (dlAt ls k).d - depAt ls k by omega]
    omega
  exact clk_split (S := (dlAt ls k).s) hT hg.1 ⟨hd.1, hd.2.1⟩ e
theorem dv_br (H : okPl sf gs ls) (hk : k < ls.length) (hd : dvP ls k c) (b : Int) : brM b (dlAt ls k).s (legAt sf gs ls k) ≤ brM b (dlAt (dvL ls k c) k).s (legAt sf gs (dvL ls k c) k) + brM b (dlAt (dvL ls k c) (k + 1)).s (legAt sf gs (dvL ls k c) (k + 1)) ∧
    brM b (dlAt (dvL ls k c) k).s (legAt sf gs (dvL ls k c) k) + brM b (dlAt (dvL ls k c) (k + 1)).s (legAt sf gs (dvL ls k c) (k + 1)) ≤ brM b (dlAt ls k).s (legAt sf gs ls k) + 1 := by
  have hm := (dv_mid H hk hd).1
  rw [(dv_leg hk).1, (dv_leg hk).2, dv_a hk, dv_b hk]
  have e : (sf + dvM ls k c) * (dlAt ls k).s = (sf + depAt ls k) * (dlAt ls k).s + ((sf + (dlAt ls k).d) - (sf + depAt ls k)) * c := by
    rw [Int.add_mul, Int.add_mul, hm, show sf + (dlAt ls k).d - (sf + depAt ls k) = (dlAt ls k).d - depAt ls k by omega]
    omega
  have f : ∀ (S : Int) (x : Le), S = x.x.s → brM b S x = upZ (b * (x.f + x.t) * S) 120000 := fun S x h => by unfold brM; exact if_pos h
  rw [f (dlAt ls k).s (legAt sf gs ls k) rfl, f (dvA ls k c).s _ rfl, f (dvB ls k c).s _ rfl]
  exact br_split e
end
end Go.Proofs.Ytdmnejfpbbmcaaa
