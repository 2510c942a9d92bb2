/-
  The legs of a divided plan as they lie in memory. Conditions: none; no program in sight.
-/
import Derived.Test.YtdmnejfpbbmcaaaXp12
import Derived.Test.YtdmnejfpbbmcaaaArgP
namespace Go.Proofs.Ytdmnejfpbbmcaaa
theorem upZ_cross {a b c d : Int} (hb : 1 ≤ b) (hd : 1 ≤ d) (e : a * d = c * b) : upZ a b = upZ c d := by
  have e1 : upZ (a * d) (b * d) = upZ a b := upZ_mul hb hd
  have e2 : upZ (c * b) (d * b) = upZ c d := upZ_mul hd hb
  rw [← e1, ← e2, e, Int.mul_comm b d]
theorem upZ_one (a : Int) : upZ a 1 = a := by unfold upZ; omega
theorem up_whole {n b : Int} (hb : 1 ≤ b) (h : n / b = upZ n b) : n / b * b = n := by
  by_cases hc : n / b * b = n
  · exact hc
  · have := up_ne hb hc
    omega
section
variable {nm : ByteArray} {sf : Int} {r : Ru} {gs : List Gs} {ls : List Dl} {σ : Nat}
def atR (ls : List Dl) (σ : Nat) : Int × Int :=
  if σ = 0 then (0, 1) else if (σ : Int) = secAt ls (kAt ls σ + 1) then (depAt ls (kAt ls σ + 1), 1) else (depAt ls (kAt ls σ) * (secAt ls (kAt ls σ + 1) - σ) + depAt ls (kAt ls σ + 1) * (σ - secAt ls (kAt ls σ)), secAt ls (kAt ls σ + 1) - secAt ls (kAt ls σ))
theorem atR_1 (h : σ = 0) : atR ls σ = (0, 1) := if_pos h
theorem atR_2 (h : ¬ σ = 0) (h2 : (σ : Int) = secAt ls (kAt ls σ + 1)) : atR ls σ = (depAt ls (kAt ls σ + 1), 1) := by unfold atR; rw [if_neg h, if_pos h2]
theorem atR_3 (h : ¬ σ = 0) (h2 : ¬ (σ : Int) = secAt ls (kAt ls σ + 1)) : atR ls σ = (depAt ls (kAt ls σ) * (secAt ls (kAt ls σ + 1) - σ) + depAt ls (kAt ls σ + 1) * (σ - secAt ls (kAt ls σ)), secAt ls (kAt ls σ + 1) - secAt ls (kAt ls σ)) := by unfold atR; rw [if_neg h, if_neg h2]
def dpL (ls : List Dl) (σ : Nat) : Int := atN ls (kAt ls σ) σ / (dlAt ls (kAt ls σ)).s
def dpH (ls : List Dl) (σ : Nat) : Int := upZ (atN ls (kAt ls σ) σ) (dlAt ls (kAt ls σ)).s
theorem dpH_m (H : okPl sf gs ls) (h : 0 < ls.length) (h1 : (σ : Int) ≤ secAt ls ls.length) : dpH ls σ = dpM (legAt sf gs ls (kAt ls σ)) ((σ : Int) - secAt ls (kAt ls σ)) := by
  have e := dp_at (c := (σ : Int)) H (kAt_in H h h1).1
  rw [secAt_succ] at e
  unfold dpH
  rw [← e]
  congr 1
  omega
theorem atR_spec (H : okPl sf gs ls) (h : 0 < ls.length) (h1 : (σ : Int) ≤ secAt ls ls.length) : (1 ≤ (atR ls σ).2 ∧ (atR ls σ).2 ≤ 1000000) ∧ (0 ≤ (atR ls σ).1 ∧ (atR ls σ).1 ≤ 30000000000) ∧ (atR ls σ).1 / (atR ls σ).2 = dpL ls σ ∧ upZ (atR ls σ).1 (atR ls σ).2 = dpH ls σ := by
  obtain ⟨a1, a2, a3⟩ := kAt_in H h h1
  have hs := (H.at a1).s
  have hd := H.dep (k := kAt ls σ + 1) (by omega)
  have he := secAt_succ ls (kAt ls σ)
  unfold dpL dpH
  by_cases c1 : σ = 0
  · rw [atR_1 c1]
    subst c1
    have hk : kAt ls 0 = 0 := kAt_eq H h (.inr rfl) (by have := (H.e 1 (by omega)).1; show (0 : Int) ≤ _; omega)
    have e0 : atN ls (kAt ls 0) ((0 : Nat) : Int) = 0 := by
      rw [hk]
      unfold atN
      show 0 * _ + _ * ((0 : Int) - 0) = 0
      omega
    rw [e0]
    dsimp only
    rw [upZ_one, Int.zero_ediv, Int.zero_ediv]
    refine ⟨by omega, by omega, rfl, ?_⟩
    unfold upZ
    exact (Int.ediv_eq_zero_of_lt (by omega) (by omega)).symm
  · have hlo : secAt ls (kAt ls σ) ≤ (σ : Int) := by
      rcases a3 with h9 | h9
      · omega
      · rw [h9]; show (0 : Int) ≤ _; omega
    obtain ⟨b1, b2, b3⟩ := atN_in H a1 hlo a2
    by_cases c2 : (σ : Int) = secAt ls (kAt ls σ + 1)
    · rw [atR_2 c1 c2]
      have e0 : atN ls (kAt ls σ) (σ : Int) = depAt ls (kAt ls σ + 1) * (dlAt ls (kAt ls σ)).s := by
        unfold atN
        rw [c2, he]
        grind
      rw [e0]
      dsimp only
      rw [Int.mul_ediv_cancel _ (by omega), upZ_one]
      refine ⟨by omega, by omega, by rw [Int.ediv_one], ?_⟩
      exact (upZ_one _).symm.trans (upZ_cross (by omega) (by omega) (by omega))
    · rw [atR_3 c1 c2]
      have e0 : depAt ls (kAt ls σ) * (secAt ls (kAt ls σ + 1) - σ) + depAt ls (kAt ls σ + 1) * (σ - secAt ls (kAt ls σ)) = atN ls (kAt ls σ) (σ : Int) := by
        unfold atN
        grind
      dsimp only
      rw [e0, show secAt ls (kAt ls σ + 1) - secAt ls (kAt ls σ) = (dlAt ls (kAt ls σ)).s by omega]
      rw [show secAt ls (kAt ls σ + 1) - secAt ls (kAt ls σ) = (dlAt ls (kAt ls σ)).s by omega] at b3
      exact ⟨hs, by omega, rfl, rfl⟩
/-! ### The plan up to a second -/
def bfL (ls : List Dl) (σ : Nat) : List Dl := if σ = 0 then [] else ls.take (kAt ls σ) ++ [⟨(σ : Int) - secAt ls (kAt ls σ), dpL ls σ, (dlAt ls (kAt ls σ)).g⟩]
theorem bfL_0 (h : σ = 0) : bfL ls σ = [] := if_pos h
theorem bfL_1 (h : ¬ σ = 0) : bfL ls σ = ls.take (kAt ls σ) ++ [⟨(σ : Int) - secAt ls (kAt ls σ), dpL ls σ, (dlAt ls (kAt ls σ)).g⟩] := if_neg h
section
variable {k : Nat} {x : Dl} {i : Nat}
def ctL (ls : List Dl) (k : Nat) (x : Dl) : List Dl := ls.take k ++ [x]
theorem ctL_len (hk : k < ls.length) : (ctL ls k x).length = k + 1 := by
  unfold ctL
  simp only [List.length_append, List.length_take, List.length_cons, List.length_nil]
  omega
theorem ct_lo (hk : k < ls.length) (hi : i < k) : dlAt (ctL ls k x) i = dlAt ls i := by
 unfold dlAt ctL
 rw [List.getElem?_append_left (by rw [List.length_take]; omega), List.getElem?_take_of_lt hi]
theorem ct_at (hk : k < ls.length) : dlAt (ctL ls k x) k = x := by
 have e : (ls.take k).length = k := by rw [List.length_take]; omega
 unfold dlAt ctL
 rw [List.getElem?_append_right (by omega), e, Nat.sub_self]
 rfl
theorem ct_sec (hk : k < ls.length) : ∀ i, i ≤ k → secAt (ctL ls k x) i = secAt ls i
 | 0, _ => rfl
 | i + 1, h => by rw [secAt_succ, secAt_succ, ct_sec hk i (by omega), ct_lo hk (by omega)]
theorem ct_ok (H : okPl sf gs ls) (hk : k < ls.length) (h1 : 1 ≤ x.s ∧ x.s ≤ (dlAt ls k).s) (h2 : 0 ≤ x.d ∧ x.d ≤ 30000) (h3 : x.g = (dlAt ls k).g) (hb : bothE nm sf gs ls r = 0) : bothE nm sf gs (ctL ls k x) r = 0 := by
 obtain ⟨hn, _, _, hz⟩ := bothE_ok hb
 have hat := H.at hk
 have ha1 := hat.s; have hll := H.ll
 have e : ckPl nm sf gs (ctL ls k x) = (0, 0) := by
  have hg0 : ckGs gs = 0 := by
   have h3 := hz
   by_cases h4 : gs.length = 0
   · have := H.gl; omega
   · by_cases h5 : gs.length > 8
     · have := H.gl; omega
     · by_cases h6 : ckGs gs = 0
       · exact h6
       · rw [ckPl_5 hn H.sf h4 h5 h6] at h3; exact absurd h3 h6
  have hgl := H.gl
  rw [ckPl_7 hn H.sf (by omega) (by omega) hg0 (by rw [ctL_len hk]; omega)]
  refine ckLegs_zero (ls := ctL ls k x) (n := (gs.length : Int)) (ctL ls k x).length 0 (by omega) (fun j _ hj => ?_)
  rw [ctL_len hk] at hj
  rcases Nat.lt_or_eq_of_le (show j ≤ k by omega) with h | h
  · rw [ct_lo hk h, ct_sec hk (j + 1) (by omega)]
    exact ⟨H.at (by omega), (H.e (j + 1) (by omega)).2⟩
  · subst h
    rw [ct_at hk, secAt_succ, ct_sec hk j (Nat.le_refl _), ct_at hk]
    have := H.e (j + 1) (by omega)
    rw [secAt_succ] at this
    refine ⟨⟨by omega, h2, ?_⟩, by omega⟩
    rw [h3]
    exact hat.g
 rw [bothE_2 (by rw [e]), both_ru hb]
theorem consK_cong2 {n : Nat} {l1 l2 : List Dl} {a1 a2 : Nat → Int} : ∀ k, (∀ i, i < k → (dlAt l1 i).g = (dlAt l2 i).g ∧ a1 i = a2 i) → consK n l1 a1 k = consK n l2 a2 k
  | 0, _ => rfl
  | k + 1, h => by
    show addAt (consK n l1 a1 k) (dlAt l1 k).g.toNat (a1 k) = addAt (consK n l2 a2 k) (dlAt l2 k).g.toNat (a2 k)
    rw [consK_cong2 k (fun i hi => h i (by omega)), (h k (by omega)).1, (h k (by omega)).2]
end
theorem br_cut {b s f t m S c : Int} (hS : 1 ≤ S) (hc : 1 ≤ c) (e : (m - f) * S = (t - f) * c) :
    upZ (b * s * (2 * f * c + (m - f) * s)) (120000 * c) = upZ (b * s * (2 * f * S + (t - f) * s)) (120000 * S) := by
  refine upZ_cross (by omega) (by omega) ?_
  have e1 : b * s * (2 * f * c + (m - f) * s) * (120000 * S) = 120000 * (b * s) * (2 * f * c * S + (m - f) * S * s) := by grind
  have e2 : b * s * (2 * f * S + (t - f) * s) * (120000 * c) = 120000 * (b * s) * (2 * f * c * S + (t - f) * c * s) := by grind
  rw [e1, e2, e]
end
section
variable {nm : ByteArray} {sf : Int} {r : Ru} {gs : List Gs} {ls : List Dl} {σ : Nat}
theorem bf_facts (H : okPl sf gs ls) (h : 0 < ls.length) (h1 : (σ : Int) ≤ secAt ls ls.length) (h0 : ¬ σ = 0) (hw : dpL ls σ = dpH ls σ) :
    kAt ls σ < ls.length ∧ (1 ≤ (σ : Int) - secAt ls (kAt ls σ) ∧ (σ : Int) - secAt ls (kAt ls σ) ≤ (dlAt ls (kAt ls σ)).s) ∧ (0 ≤ dpL ls σ ∧ dpL ls σ ≤ 30000) ∧ (dpL ls σ - depAt ls (kAt ls σ)) * (dlAt ls (kAt ls σ)).s = ((dlAt ls (kAt ls σ)).d - depAt ls (kAt ls σ)) * ((σ : Int) - secAt ls (kAt ls σ)) := by
  obtain ⟨a1, a2, a3⟩ := kAt_in H h h1
  have hs := (H.at a1).s
  have he := secAt_succ ls (kAt ls σ)
  have hlo : secAt ls (kAt ls σ) < (σ : Int) := by
    rcases a3 with h9 | h9
    · exact h9
    · rw [h9]; show (0 : Int) < _; omega
  refine ⟨a1, by omega, ?_, ?_⟩
  · rw [hw, dpH_m H h h1]
    exact dpM_in (H.le a1) (by show 0 ≤ (σ : Int) - secAt ls (kAt ls σ) ∧ (σ : Int) - secAt ls (kAt ls σ) ≤ (dlAt ls (kAt ls σ)).s; omega)
  · have hw2 : dpL ls σ * (dlAt ls (kAt ls σ)).s = atN ls (kAt ls σ) σ := up_whole (by omega) hw
    rw [Int.sub_mul, hw2]
    unfold atN
    rw [he]
    show depAt ls (kAt ls σ) * (secAt ls (kAt ls σ) + (dlAt ls (kAt ls σ)).s - secAt ls (kAt ls σ)) + ((dlAt ls (kAt ls σ)).d - depAt ls (kAt ls σ)) * ((σ : Int) - secAt ls (kAt ls σ)) - _ = _
    grind
theorem bf_ok (H : okPl sf gs ls) (h : 0 < ls.length) (h1 : (σ : Int) ≤ secAt ls ls.length) (hw : dpL ls σ = dpH ls σ) (hb : bothE nm sf gs ls r = 0) : bothE nm sf gs (bfL ls σ) r = 0 := by
  by_cases h0 : σ = 0
  · rw [bfL_0 h0]
    obtain ⟨hn, _, _, hz⟩ := bothE_ok hb
    have hg0 : ckGs gs = 0 := by
      have h3 := hz
      by_cases h4 : gs.length = 0
      · have := H.gl; omega
      · by_cases h5 : gs.length > 8
        · have := H.gl; omega
        · by_cases h6 : ckGs gs = 0
          · exact h6
          · rw [ckPl_5 hn H.sf h4 h5 h6] at h3; exact absurd h3 h6
    have hgl := H.gl
    have e : ckPl nm sf gs [] = (0, 0) := by
      rw [ckPl_7 hn H.sf (by omega) (by omega) hg0 (by simp)]
      exact ckLegs_zero (ls := []) (n := (gs.length : Int)) 0 0 rfl (fun j _ hj => absurd hj (Nat.not_lt_zero _))
    rw [bothE_2 (by rw [e]), both_ru hb]
  · obtain ⟨a1, a2, a3, _⟩ := bf_facts H h h1 h0 hw
    rw [bfL_1 h0]
    exact ct_ok H a1 a2 a3 rfl hb
theorem bf_len (H : okPl sf gs ls) (h : 0 < ls.length) (h1 : (σ : Int) ≤ secAt ls ls.length) : (bfL ls σ).length ≤ ls.length := by
  by_cases h0 : σ = 0
  · rw [bfL_0 h0]; exact Nat.zero_le _
  · obtain ⟨a1, _, _⟩ := kAt_in H h h1
    have e := ctL_len (x := ⟨(σ : Int) - secAt ls (kAt ls σ), dpL ls σ, (dlAt ls (kAt ls σ)).g⟩) a1
    rw [bfL_1 h0]
    show (ctL ls (kAt ls σ) _).length ≤ _
    omega
def sumT (ns : List Int) : Nat → Int
  | 0 => 0
  | k + 1 => sumT ns k + (ns[k]?).getD 0
theorem sumT_in {ns : List Int} (h : ∀ x ∈ ns, 0 ≤ x ∧ x ≤ 100000000000000) : ∀ k : Nat, 0 ≤ sumT ns k ∧ sumT ns k ≤ k * 100000000000000
  | 0 => by show (0 : Int) ≤ 0 ∧ (0 : Int) ≤ _; omega
  | k + 1 => by
    have ih := sumT_in h k
    have e : sumT ns (k + 1) = sumT ns k + (ns[k]?).getD 0 := rfl
    cases hx : ns[k]? with
    | none => rw [e, hx]; show 0 ≤ sumT ns k + 0 ∧ sumT ns k + 0 ≤ _; omega
    | some x =>
      have := h x (List.mem_of_getElem? hx)
      rw [e, hx]
      show 0 ≤ sumT ns k + x ∧ sumT ns k + x ≤ _
      omega
end
end Go.Proofs.Ytdmnejfpbbmcaaa
namespace Go.Proofs.Ytdmnejfpbbmcaaa
theorem bf_cells {ls : List Dl} {k : Nat} (hk : k < ls.length) (a b : Int) : ((((ls.take (k + 1)).map cDl).set k (lay (cDl (dlAt ls k)) 0 [.int .i64 a])).set k (lay (lay (cDl (dlAt ls k)) 0 [.int .i64 a]) 1 [.int .i64 b])) = (ls.take k ++ [(⟨a, b, (dlAt ls k).g⟩ : Dl)]).map cDl := by
  obtain ⟨x, hx⟩ := get_some ls hk
  have hd := dlAt_get hx
  have e1 : ls.take (k + 1) = ls.take k ++ [x] := by rw [List.take_add_one, hx]; rfl
  have e2 : (ls.take k).length = k := by rw [List.length_take]; omega
  rw [List.set_set, e1, List.map_append, List.map_append, List.set_append_right _ _ (by rw [List.length_map, e2]; omega), List.length_map, e2, Nat.sub_self]
  rfl
theorem bf_cells2 {ls : List Dl} {σ : Nat} (hk : kAt ls σ < ls.length) (h0 : ¬ σ = 0) : ((((ls.take (kAt ls σ + 1)).map cDl).set (kAt ls σ) (lay (cDl (dlAt ls (kAt ls σ))) 0 [.int .i64 ((σ : Int) - secAt ls (kAt ls σ))])).set (kAt ls σ) (lay (lay (cDl (dlAt ls (kAt ls σ))) 0 [.int .i64 ((σ : Int) - secAt ls (kAt ls σ))]) 1 [.int .i64 (dpL ls σ)])) = (bfL ls σ).map cDl := by
  rw [bf_cells hk, bfL_1 h0]
theorem take_cell {ls : List Dl} {k : Nat} (hk : k < ls.length) : ((ls.take (k + 1)).map cDl)[k]? = some (cDl (dlAt ls k)) := by
  rw [List.getElem?_map, List.getElem?_take_of_lt (by omega), ← List.getElem?_map]
  exact dl_cell hk
end Go.Proofs.Ytdmnejfpbbmcaaa
