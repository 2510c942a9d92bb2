/-
  A plan that is cut at a second and goes on as before: its legs, its normal form, what it costs and breathes. Conditions: those in front of each theorem; no program in sight.
-/
import Derived.Test.YtdmnejfpbbmcaaaNf
namespace Go.Proofs.Ytdmnejfpbbmcaaa
section
variable {nm : ByteArray} {sf : Int} {r : Ru} {gs : List Gs} {ls : List Dl} {σ k : Nat} {c : Int} {tb : List Ow}
def rsK (ls : List Dl) (σ : Nat) : Nat → List Dl
  | 0 => []
  | k + 1 => if secAt ls (k + 1) ≤ (σ : Int) then rsK ls σ k else rsK ls σ k ++ [⟨secAt ls (k + 1) - max (secAt ls k) (σ : Int), (dlAt ls k).d, (dlAt ls k).g⟩]
theorem rsK_skip (h : secAt ls (k + 1) ≤ (σ : Int)) : rsK ls σ (k + 1) = rsK ls σ k := if_pos h
theorem rsK_take (h : ¬ secAt ls (k + 1) ≤ (σ : Int)) : rsK ls σ (k + 1) = rsK ls σ k ++ [⟨secAt ls (k + 1) - max (secAt ls k) (σ : Int), (dlAt ls k).d, (dlAt ls k).g⟩] := if_neg h
theorem rsK_len : ∀ k, (rsK ls σ k).length ≤ k
  | 0 => Nat.le_refl _
  | k + 1 => by
    have := rsK_len k
    by_cases h : secAt ls (k + 1) ≤ (σ : Int)
    · rw [rsK_skip h]; omega
    · rw [rsK_take h, List.length_append, List.length_singleton]; omega
theorem rsK_none (H : okPl sf gs ls) : ∀ n, n ≤ ls.length → secAt ls n ≤ (σ : Int) → rsK ls σ n = []
  | 0, _, _ => rfl
  | n + 1, hn, h => by
    have := (H.at (k := n) (by omega)).s
    have e := secAt_succ ls n
    rw [rsK_skip h]
    exact rsK_none H n (by omega) (by omega)
theorem rsK_all (H : okPl sf gs ls) {m : Nat} (hm : (σ : Int) ≤ secAt ls m) : ∀ n, m + n ≤ ls.length → rsK ls σ (m + n) = rsK ls σ m ++ (ls.drop m).take n
  | 0, _ => by rw [List.take_zero, List.append_nil]; rfl
  | n + 1, h => by
    have ih := rsK_all H hm n (by omega)
    have h1 := secAt_mono H (i := m) (m + n) (by omega) (by omega)
    have h2 := (H.at (k := m + n) (by omega)).s
    have e := secAt_succ ls (m + n)
    obtain ⟨x, hx⟩ := get_some ls (k := m + n) (by omega)
    have e2 : (⟨secAt ls (m + n + 1) - max (secAt ls (m + n)) (σ : Int), (dlAt ls (m + n)).d, (dlAt ls (m + n)).g⟩ : Dl) = x := by
      rw [e, Int.max_eq_left (by omega), dlAt_get hx]
      cases x
      dsimp only
      congr 1
      omega
    show rsK ls σ (m + n + 1) = _
    rw [rsK_take (by omega), ih, e2, List.take_add_one, List.getElem?_drop, hx, List.append_assoc]
    rfl
def adL (ls : List Dl) (σ : Nat) : List Dl := bfL ls σ ++ rsK ls σ ls.length
theorem ad_0 (h : ls.length = 0) (h1 : (σ : Int) ≤ secAt ls ls.length) : adL ls σ = ls := by
  have e : ls = [] := List.eq_nil_of_length_eq_zero h
  subst e
  have : σ = 0 := by
    have : secAt ([] : List Dl) ([] : List Dl).length = 0 := rfl
    omega
  unfold adL
  rw [bfL_0 this]
  rfl
theorem ad_or (H : okPl sf gs ls) (h1 : (σ : Int) ≤ secAt ls ls.length) (hw : 0 < ls.length → dpL ls σ = dpH ls σ) :
    adL ls σ = ls ∨ ∃ k c, k < ls.length ∧ dvP ls k c ∧ secAt ls k + c = (σ : Int) ∧ adL ls σ = dvL ls k c := by
  rcases Nat.eq_zero_or_pos ls.length with h | h
  · exact .inl (ad_0 h h1)
  have hw := hw h
  by_cases h0 : σ = 0
  · left
    have e := rsK_all H (σ := σ) (m := 0) (by rw [h0]; exact Int.le_refl _) ls.length (by omega)
    unfold adL
    rw [Nat.zero_add] at e
    rw [bfL_0 h0, e, List.drop_zero, List.take_length]
    rfl
  · obtain ⟨a1, a2, a3, a4⟩ := bf_facts H h h1 h0 hw
    obtain ⟨_, b2, b3⟩ := kAt_in H h h1
    obtain ⟨_, _, q3, q4⟩ := atR_spec H h h1
    generalize hk : kAt ls σ = k at *
    have hs := (H.at a1).s
    have he := secAt_succ ls k
    have hn := rsK_none H (σ := σ) k (by omega) (by omega)
    have hd : (ls.drop (k + 1)).take (ls.length - (k + 1)) = ls.drop (k + 1) := List.take_of_length_le (by rw [List.length_drop]; omega)
    have hall := rsK_all H (σ := σ) (m := k + 1) b2 (ls.length - (k + 1)) (by omega)
    rw [show k + 1 + (ls.length - (k + 1)) = ls.length by omega, hd] at hall
    unfold adL
    rw [bfL_1 h0, hk, hall]
    obtain ⟨x, hx⟩ := get_some ls a1
    have hsplit : ls = ls.take k ++ (dlAt ls k :: ls.drop (k + 1)) := by
      rw [dlAt_get hx, ← drop_cons hx, List.take_append_drop]
    by_cases hc : (σ : Int) = secAt ls (k + 1)
    · left
      have e1 : dpL ls σ = (dlAt ls k).d := by
        rw [← q3, atR_2 h0 (by rw [hk]; exact hc), hk]
        dsimp only
        rw [Int.ediv_one]
        rfl
      rw [rsK_skip (by omega), hn, e1, List.nil_append]
      conv => rhs; rw [hsplit]
      rw [List.append_assoc, List.singleton_append]
      congr 2
      rw [dlAt_get hx]
      rw [dlAt_get hx] at he
      cases x
      dsimp only at he ⊢
      congr 1
      omega
    · right
      have hlt : (σ : Int) < secAt ls (k + 1) := by omega
      refine ⟨k, (σ : Int) - secAt ls k, a1, ⟨by omega, by omega, ?_⟩, by omega, ?_⟩
      · rw [← a4]
        exact Int.mul_emod_left _ _
      · have e1 : dvM ls k ((σ : Int) - secAt ls k) = dpL ls σ := by
          unfold dvM
          rw [← a4, Int.mul_ediv_cancel _ (by omega)]
          omega
        rw [rsK_take (by omega), hn, List.nil_append]
        unfold dvL dvA dvB
        rw [e1, Int.max_eq_right (by omega), show secAt ls (k + 1) - (σ : Int) = (dlAt ls k).s - ((σ : Int) - secAt ls k) by omega]
        simp only [List.append_assoc, List.cons_append, List.nil_append]
def ccL (a b : List Dl) : Nat → List Dl
  | 0 => []
  | 1 => a
  | _ => a ++ b
def ccN (a b : List Dl) : Nat → Nat
  | 0 => 0
  | 1 => a.length
  | _ => a.length + b.length
/-! ### The same dive -/
theorem nfK_fold : ∀ n, n ≤ ls.length → nfK gs ls n = (ls.take n).foldl (nfS gs) ([], [])
  | 0, _ => by rw [List.take_zero]; rfl
  | n + 1, h => by
    rw [take_s (by omega), List.foldl_append, ← nfK_fold n (by omega)]
    rfl
theorem gIx_app {G : List Gs} {g : Gs} (h : ¬ gIx G g < G.length) : gIx (G ++ [g]) g = gIx G g ∧ gIx (G ++ [g]) g < (G ++ [g]).length := by
  induction G with
  | nil =>
    have e : gIx ([] ++ [g]) g = 0 := if_pos ⟨rfl, rfl⟩
    rw [e]
    exact ⟨rfl, show 0 < 1 by omega⟩
  | cons a t ih =>
    unfold gIx at h
    by_cases hs : sameG a g
    · rw [if_pos hs] at h
      exact absurd (by simp) h
    · rw [if_neg hs, List.length_cons] at h
      obtain ⟨i1, i2⟩ := ih (by omega)
      have e1 : gIx (a :: t ++ [g]) g = gIx (t ++ [g]) g + 1 := if_neg hs
      have e2 : gIx (a :: t) g = gIx t g + 1 := if_neg hs
      rw [e1, e2, i1]
      refine ⟨rfl, ?_⟩
      rw [i1] at i2
      show gIx t g + 1 < (a :: (t ++ [g])).length
      rw [List.length_cons]
      omega
theorem nf_g2 {G : List Gs} {x y : Dl} (hg : y.g = x.g) : nfGs gs (nfGs gs G x) y = nfGs gs G x ∧ nfIx gs (nfGs gs G x) y = nfIx gs G x := by
  unfold nfIx
  rw [hg]
  by_cases h : gIx G (gasAt gs x.g) < G.length
  · have e : nfGs gs G x = G := if_pos h
    rw [e]
    exact ⟨by unfold nfGs; rw [hg, if_pos h], rfl⟩
  · have e : nfGs gs G x = G ++ [gasAt gs x.g] := if_neg h
    obtain ⟨h1, h2⟩ := gIx_app h
    rw [e, h1]
    refine ⟨?_, rfl⟩
    unfold nfGs
    rw [hg, if_pos h2]
theorem mrg_two {z e S d m c zs : Int} (hS : 1 ≤ S) (hc : 1 ≤ c) (h : (m - z) * S = (d - z) * c) :
    ((z - e) * c = (m - z) * zs ↔ (z - e) * S = (d - z) * zs) ∧ ((z - e) * S = (d - z) * zs → (m - e) * (S - c) = (d - m) * (zs + c)) := by
  have key : (z - e) * S = (d - z) * zs ↔ (z - e) * c = (m - z) * zs := by
    constructor
    · intro h2
      refine cancel hS ?_
      have f1 : S * ((z - e) * c) = c * ((z - e) * S) := by grind
      have f2 : S * ((m - z) * zs) = ((m - z) * S) * zs := by grind
      rw [f1, f2, h2, h]
      grind
    · intro h2
      refine cancel hc ?_
      have f1 : c * ((z - e) * S) = S * ((z - e) * c) := by grind
      have f2 : c * ((d - z) * zs) = ((d - z) * c) * zs := by grind
      rw [f1, f2, h2, ← h]
      grind
  refine ⟨key.symm, fun h2 => ?_⟩
  refine cancel hS ?_
  have g1 : (m - e) * S = (d - z) * (c + zs) := by
    have : (m - e) * S = (m - z) * S + (z - e) * S := by grind
    rw [this, h, h2]; grind
  have g2 : (d - m) * S = (d - z) * (S - c) := by
    have : (d - m) * S = (d - z) * S - (m - z) * S := by grind
    rw [this, h]; grind
  have f1 : S * ((m - e) * (S - c)) = ((m - e) * S) * (S - c) := by grind
  have f2 : S * ((d - m) * (zs + c)) = ((d - m) * S) * (zs + c) := by grind
  rw [f1, f2, g1, g2]
  grind
theorem nf_two {M : List Dl} {i a : Int} {x : Dl} {m : Int} (hpo : posS M) (ha : depAt M M.length = a) (hS : 1 ≤ c ∧ c < x.s) (h : (m - a) * x.s = (x.d - a) * c) :
    nfLs (nfLs M i ⟨c, m, x.g⟩) i ⟨x.s - c, x.d, x.g⟩ = nfLs M i x := by
  by_cases hM : 0 < M.length
  · obtain ⟨e1, e2⟩ := last_split hM
    have hz := hpo (M.length - 1) (by omega)
    have haz : (dlAt M (M.length - 1)).d = a := by
      rw [← ha, depAt_pos hM]
    generalize hze : dlAt M (M.length - 1) = z at *
    generalize hne : M.dropLast = N at *
    have hdep : depAt M (M.length - 1) = depAt N N.length := by
      rw [e1, ap_len, Nat.add_sub_cancel]
      exact ap_dep _ (Nat.le_refl _)
    obtain ⟨k1, k2⟩ := mrg_two (z := a) (e := depAt N N.length) (zs := z.s) (by omega) hS.1 h
    have p1 : mrgP M i ⟨c, m, x.g⟩ ↔ mrgP M i x := by
      unfold mrgP strt
      rw [hze, hdep, haz]
      dsimp only
      rw [k1]
    by_cases hp : mrgP M i x
    · have hp1 := p1.2 hp
      obtain ⟨_, hi, hst⟩ := hp
      unfold strt at hst
      rw [hze, hdep, haz] at hst
      rw [hze] at hi
      have n1 : nfLs M i ⟨c, m, x.g⟩ = N ++ [⟨z.s + c, m, i⟩] := by unfold nfLs; rw [if_pos hp1, hze, hne]
      have n2 : nfLs M i x = N ++ [⟨z.s + x.s, x.d, i⟩] := by unfold nfLs; rw [if_pos ⟨hM, by rw [hze]; exact hi, by unfold strt; rw [hze, hdep, haz]; exact hst⟩, hze, hne]
      rw [n1, n2]
      have hl : (N ++ [(⟨z.s + c, m, i⟩ : Dl)]).length = N.length + 1 := ap_len
      have q : mrgP (N ++ [⟨z.s + c, m, i⟩]) i ⟨x.s - c, x.d, x.g⟩ := by
        unfold mrgP strt
        rw [hl, Nat.add_sub_cancel, ap_dl0, ap_dep _ (Nat.le_refl _)]
        exact ⟨by omega, rfl, k2 hst⟩
      unfold nfLs
      rw [if_pos q, hl, Nat.add_sub_cancel, ap_dl0, List.dropLast_concat]
      dsimp only
      rw [show z.s + c + (x.s - c) = z.s + x.s by omega]
    · have n1 : nfLs M i ⟨c, m, x.g⟩ = M ++ [⟨c, m, i⟩] := by unfold nfLs; rw [if_neg (fun hh => hp (p1.1 hh))]
      have n2 : nfLs M i x = M ++ [⟨x.s, x.d, i⟩] := by unfold nfLs; rw [if_neg hp]
      rw [n1, n2]
      have hl : (M ++ [(⟨c, m, i⟩ : Dl)]).length = M.length + 1 := ap_len
      have q : mrgP (M ++ [⟨c, m, i⟩]) i ⟨x.s - c, x.d, x.g⟩ := by
        unfold mrgP strt
        rw [hl, Nat.add_sub_cancel, ap_dl0, ap_dep _ (Nat.le_refl _), ha]
        refine ⟨by omega, rfl, ?_⟩
        dsimp only
        have g2 : (x.d - m) * c = (x.d - a) * c - (m - a) * c := by grind
        have g3 : (m - a) * (x.s - c) = (m - a) * x.s - (m - a) * c := by grind
        omega
      unfold nfLs
      rw [if_pos q, hl, Nat.add_sub_cancel, ap_dl0, List.dropLast_concat]
      dsimp only
      rw [show c + (x.s - c) = x.s by omega]
  · have e : M = [] := List.eq_nil_of_length_eq_zero (by omega)
    subst e
    have ha0 : a = 0 := ha.symm
    have n1 : nfLs [] i ⟨c, m, x.g⟩ = [⟨c, m, i⟩] := by unfold nfLs; rw [if_neg (fun hh => hM hh.1)]; rfl
    have n2 : nfLs [] i x = [⟨x.s, x.d, i⟩] := by unfold nfLs; rw [if_neg (fun hh => hM hh.1)]; rfl
    rw [n1, n2]
    have q : mrgP [⟨c, m, i⟩] i ⟨x.s - c, x.d, x.g⟩ := by
      refine ⟨by show 0 < 1; omega, rfl, ?_⟩
      show (m - 0) * (x.s - c) = (x.d - m) * c
      rw [ha0] at h
      have g2 : (x.d - m) * c = x.d * c - m * c := by grind
      have g3 : (m - 0) * (x.s - c) = m * x.s - m * c := by grind
      have g4 : m * x.s = x.d * c := by
        have : (m - 0) * x.s = (x.d - 0) * c := h
        rwa [Int.sub_zero, Int.sub_zero] at this
      omega
    unfold nfLs
    rw [if_pos q]
    show [(⟨c + (x.s - c), x.d, i⟩ : Dl)] = _
    rw [show c + (x.s - c) = x.s by omega]
theorem dv_nf (H : okPl sf gs ls) (hk : k < ls.length) (hd : dvP ls k c) : nfK gs (dvL ls k c) (dvL ls k c).length = nfK gs ls ls.length := by
  have hok := nf_ok H k (by omega)
  have hm := (dv_mid H hk hd).1
  obtain ⟨h0, h1, h2⟩ := hd
  obtain ⟨x, hx⟩ := get_some ls hk
  have hsplit : ls = ls.take k ++ (dlAt ls k :: ls.drop (k + 1)) := by
    rw [dlAt_get hx, ← drop_cons hx, List.take_append_drop]
  rw [nfK_fold _ (Nat.le_refl _), nfK_fold _ (Nat.le_refl _), List.take_length, List.take_length]
  have e1 : (dvL ls k c).foldl (nfS gs) ([], []) = (ls.drop (k + 1)).foldl (nfS gs) (nfS gs (nfS gs (nfK gs ls k) (dvA ls k c)) (dvB ls k c)) := by
    unfold dvL
    rw [List.foldl_append, List.foldl_append, ← nfK_fold k (by omega)]
    rfl
  have e2 : ls.foldl (nfS gs) ([], []) = (ls.drop (k + 1)).foldl (nfS gs) (nfS gs (nfK gs ls k) (dlAt ls k)) := by
    conv => lhs; rw [hsplit]
    rw [List.foldl_append, ← nfK_fold k (by omega)]
    rfl
  rw [e1, e2]
  congr 1
  have hdep : depAt (nfK gs ls k).2 (nfK gs ls k).2.length = depAt ls k := by
    have h3 := hok.sm.d
    have h4 : (ls.take k).length = k := by rw [List.length_take]; omega
    rw [← h3, h4]
    cases k with
    | zero => rfl
    | succ j =>
      show (dlAt (ls.take (j + 1)) j).d = (dlAt ls j).d
      unfold dlAt
      rw [List.getElem?_take_of_lt (by omega)]
  have g1 := nf_g2 (gs := gs) (G := (nfK gs ls k).1) (x := dvA ls k c) (y := dvB ls k c) rfl
  unfold nfS
  dsimp only
  rw [g1.1, g1.2]
  have g3 : nfGs gs (nfK gs ls k).1 (dvA ls k c) = nfGs gs (nfK gs ls k).1 (dlAt ls k) := rfl
  have g4 : nfIx gs (nfK gs ls k).1 (dvA ls k c) = nfIx gs (nfK gs ls k).1 (dlAt ls k) := rfl
  rw [g3, g4]
  congr 1
  refine nf_two (a := depAt ls k) hok.po hdep (by omega) ?_
  rw [Int.sub_mul, hm]
  omega
theorem ad_nf (H : okPl sf gs ls) (h1 : (σ : Int) ≤ secAt ls ls.length) (hw : 0 < ls.length → dpL ls σ = dpH ls σ) : nfG gs (adL ls σ) = nfG gs ls ∧ nfL gs (adL ls σ) = nfL gs ls := by
  rcases ad_or H h1 hw with e | ⟨k, c, hk, hd, _, e⟩
  · rw [e]; exact ⟨rfl, rfl⟩
  · have e1 := dv_nf H hk hd
    rw [e]
    unfold nfG nfL
    rw [e1]
    exact ⟨rfl, rfl⟩
theorem ad_len (H : okPl sf gs ls) (h1 : (σ : Int) ≤ secAt ls ls.length) (hw : 0 < ls.length → dpL ls σ = dpH ls σ) : (adL ls σ).length ≤ ls.length + 1 := by
  rcases ad_or H h1 hw with e | ⟨k, c, hk, hd, _, e⟩
  · rw [e]; omega
  · rw [e, dvL_len hk]; omega
theorem ad_ok (H : okPl sf gs ls) (h1 : (σ : Int) ≤ secAt ls ls.length) (hw : 0 < ls.length → dpL ls σ = dpH ls σ) (hl : ls.length + 1 ≤ 60) (hb : bothE nm sf gs ls r = 0) : bothE nm sf gs (adL ls σ) r = 0 := by
  rcases ad_or H h1 hw with e | ⟨k, c, hk, hd, _, e⟩
  · rw [e]; exact hb
  · rw [e]; exact dv_ok H hk hd hl hb
/-! ### Sums -/
def sumF (f : Nat → Int) : Nat → Int
  | 0 => 0
  | k + 1 => sumF f k + f k
theorem sumF_cong {f g : Nat → Int} : ∀ n, (∀ i, i < n → f i = g i) → sumF f n = sumF g n
  | 0, _ => rfl
  | n + 1, h => by
    show sumF f n + f n = sumF g n + g n
    rw [sumF_cong n (fun i hi => h i (by omega)), h n (by omega)]
theorem sumT_F {ns : List Int} {f : Nat → Int} : ∀ n, (∀ i, i < n → ns[i]? = some (f i)) → sumT ns n = sumF f n
  | 0, _ => rfl
  | n + 1, h => by
    show sumT ns n + (ns[n]?).getD 0 = sumF f n + f n
    rw [sumT_F n (fun i hi => h i (by omega)), h n (by omega)]
    rfl
theorem sumF_div {f g : Nat → Int} (h : k < ls.length) (h1 : ∀ i, i < k → g i = f i) (h2 : ∀ i, k + 2 ≤ i → g i = f (i - 1)) (h3 : f k ≤ g k + g (k + 1) ∧ g k + g (k + 1) ≤ f k + 1) : ∀ n, sumF f (k + 1 + n) ≤ sumF g (k + 2 + n) ∧ sumF g (k + 2 + n) ≤ sumF f (k + 1 + n) + 1
  | 0 => by
    have e := sumF_cong (f := g) (g := f) k h1
    show sumF f k + f k ≤ sumF g k + g k + g (k + 1) ∧ sumF g k + g k + g (k + 1) ≤ sumF f k + f k + 1
    omega
  | n + 1 => by
    have ih := sumF_div h h1 h2 h3 n
    have e := h2 (k + 2 + n) (by omega)
    rw [show k + 2 + n - 1 = k + 1 + n by omega] at e
    show sumF f (k + 1 + n) + f (k + 1 + n) ≤ sumF g (k + 2 + n) + g (k + 2 + n) ∧ sumF g (k + 2 + n) + g (k + 2 + n) ≤ sumF f (k + 1 + n) + f (k + 1 + n) + 1
    omega
theorem dv_leg_lo (hk : k < ls.length) {i : Nat} (hi : i < k) : legAt sf gs (dvL ls k c) i = legAt sf gs ls i := by
  have e : depAt (dvL ls k c) i = depAt ls i := by
    cases i with
    | zero => rfl
    | succ j => show (dlAt (dvL ls k c) j).d = (dlAt ls j).d; rw [dv_lo hk (by omega)]
  unfold legAt
  rw [dv_lo hk hi, e, dv_sec_lo hk i (by omega)]
theorem dv_leg_hi (hk : k < ls.length) {i : Nat} (hi : k + 2 ≤ i) : legAt sf gs (dvL ls k c) i = legAt sf gs ls (i - 1) := by
  obtain ⟨q, rfl⟩ : ∃ q, i = k + 2 + q := ⟨i - k - 2, by omega⟩
  have e : depAt (dvL ls k c) (k + 2 + q) = depAt ls (k + 1 + q) := by
    cases q with
    | zero => show (dlAt (dvL ls k c) (k + 1)).d = (dlAt ls k).d; rw [dv_b hk]; rfl
    | succ j =>
      show (dlAt (dvL ls k c) (k + 2 + j)).d = (dlAt ls (k + 1 + j)).d
      rw [dv_hi hk (by omega), show k + 2 + j - 1 = k + 1 + j by omega]
  rw [show k + 2 + q - 1 = k + 1 + q by omega]
  unfold legAt
  rw [dv_hi hk (by omega), e, dv_sec_hi hk q, show k + 2 + q - 1 = k + 1 + q by omega]
theorem clk_sum (L : List Dl) : sumT (clksK tb sf gs L L.length) (clksK tb sf gs L L.length).length = sumF (fun i => clkM tb (legAt sf gs L i)) L.length := by
  rw [clksK_len]
  exact sumT_F _ (fun i hi => clksK_get hi)
theorem ad_clk (H : okPl sf gs ls) (hT : okTb tb) (h1 : (σ : Int) ≤ secAt ls ls.length) (hw : 0 < ls.length → dpL ls σ = dpH ls σ) :
    sumT (clksK tb sf gs ls ls.length) (clksK tb sf gs ls ls.length).length ≤ sumT (clksK tb sf gs (adL ls σ) (adL ls σ).length) (clksK tb sf gs (adL ls σ) (adL ls σ).length).length ∧
    sumT (clksK tb sf gs (adL ls σ) (adL ls σ).length) (clksK tb sf gs (adL ls σ) (adL ls σ).length).length ≤ sumT (clksK tb sf gs ls ls.length) (clksK tb sf gs ls ls.length).length + 1 := by
  rcases ad_or H h1 hw with e | ⟨k, c, hk, hd, _, e⟩
  · rw [e]; omega
  · rw [e, clk_sum, clk_sum, dvL_len hk]
    have h3 := dv_clk H hT hk hd
    have := sumF_div (f := fun i => clkM tb (legAt sf gs ls i)) (g := fun i => clkM tb (legAt sf gs (dvL ls k c) i)) hk (fun i hi => by rw [dv_leg_lo hk hi]) (fun i hi => by rw [dv_leg_hi hk hi]) h3 (ls.length - (k + 1))
    rw [show k + 1 + (ls.length - (k + 1)) = ls.length by omega, show k + 2 + (ls.length - (k + 1)) = ls.length + 1 by omega] at this
    exact this
theorem sumT_set : ∀ {L : List Int} {i : Nat} {a u : Int} (n : Nat), L[i]? = some u → sumT (L.set i (u + a)) n = sumT L n + (if i < n then a else 0)
  | L, i, a, u, 0, _ => by show (0 : Int) = 0 + _; rw [if_neg (by omega)]; rfl
  | L, i, a, u, n + 1, h => by
    have ih := sumT_set (a := a) n h
    show sumT (L.set i (u + a)) n + ((L.set i (u + a))[n]?).getD 0 = sumT L n + (L[n]?).getD 0 + _
    rw [ih]
    have hi := (List.getElem?_eq_some_iff.1 h).1
    by_cases hin : i = n
    · subst hin
      rw [List.getElem?_set_self hi, h, if_neg (by omega), if_pos (by omega)]
      show sumT L i + 0 + (u + a) = sumT L i + u + a
      omega
    · rw [List.getElem?_set_ne hin]
      by_cases hlt : i < n
      · rw [if_pos hlt, if_pos (by omega)]; omega
      · rw [if_neg hlt, if_neg (by omega)]; omega
theorem consK_sum {n : Nat} {L : List Dl} {amt : Nat → Int} : ∀ k, (∀ i, i < k → (dlAt L i).g.toNat < n) → sumT (consK n L amt k) n = sumF amt k
  | 0, _ => by
    have e : ∀ m, sumT (List.replicate n (0 : Int)) m = 0 := by
      intro m
      induction m with
      | zero => rfl
      | succ m ih =>
        show sumT _ m + ((List.replicate n (0 : Int))[m]?).getD 0 = 0
        rw [ih, List.getElem?_replicate]
        split <;> rfl
    exact e n
  | k + 1, h => by
    have ih := consK_sum k (fun i hi => h i (by omega)) (amt := amt)
    have hg := h k (by omega)
    obtain ⟨u, hu⟩ := get_some (consK n L amt k) (k := (dlAt L k).g.toNat) (by rw [consK_len]; exact hg)
    show sumT (addAt (consK n L amt k) (dlAt L k).g.toNat (amt k)) n = sumF amt k + amt k
    unfold addAt
    rw [hu]
    show sumT ((consK n L amt k).set _ (u + amt k)) n = _
    rw [sumT_set n hu, ih, if_pos hg]
theorem okPl.gt {L : List Dl} (H : okPl sf gs L) {i : Nat} (hi : i < L.length) : (dlAt L i).g.toNat < gs.length := by
  have := (H.at hi).g
  omega
theorem ad_cons {b : Int} (H : okPl sf gs ls) (H2 : okPl sf gs (adL ls σ)) (h1 : (σ : Int) ≤ secAt ls ls.length) (hw : 0 < ls.length → dpL ls σ = dpH ls σ) :
    sumT (consK gs.length ls (amtS sf gs ls b) ls.length) (consK gs.length ls (amtS sf gs ls b) ls.length).length ≤ sumT (consK gs.length (adL ls σ) (amtS sf gs (adL ls σ) b) (adL ls σ).length) (consK gs.length (adL ls σ) (amtS sf gs (adL ls σ) b) (adL ls σ).length).length ∧
    sumT (consK gs.length (adL ls σ) (amtS sf gs (adL ls σ) b) (adL ls σ).length) (consK gs.length (adL ls σ) (amtS sf gs (adL ls σ) b) (adL ls σ).length).length ≤ sumT (consK gs.length ls (amtS sf gs ls b) ls.length) (consK gs.length ls (amtS sf gs ls b) ls.length).length + 1 := by
  rcases ad_or H h1 hw with e | ⟨k, c, hk, hd, _, e⟩
  · rw [e]; omega
  · rw [e] at H2 ⊢
    rw [consK_len, consK_len, consK_sum _ (fun i hi => H.gt hi), consK_sum _ (fun i hi => H2.gt hi), dvL_len hk]
    have h3 := dv_br H hk hd b
    have := sumF_div (f := amtS sf gs ls b) (g := amtS sf gs (dvL ls k c) b) hk (fun i hi => by unfold amtS; rw [dv_leg_lo hk hi, dv_lo hk hi]) (fun i hi => by unfold amtS; rw [dv_leg_hi hk hi, dv_hi hk hi]) h3 (ls.length - (k + 1))
    rw [show k + 1 + (ls.length - (k + 1)) = ls.length by omega, show k + 2 + (ls.length - (k + 1)) = ls.length + 1 by omega] at this
    exact this
/-! ### What is broken -/
theorem brs_0 {L : List Dl} : ∀ n, (brs r sf gs L n).length = 0 ↔ ∀ i, i < n → (brkA r sf gs L i).length = 0
  | 0 => ⟨fun _ i hi => absurd hi (Nat.not_lt_zero _), fun _ => rfl⟩
  | n + 1 => by
    unfold brs
    rw [List.length_append, List.length_map]
    have ih := brs_0 (L := L) n
    constructor
    · intro h i hi
      rcases Nat.lt_or_eq_of_le (Nat.le_of_lt_succ hi) with h9 | rfl
      · exact (ih.1 (by omega)) i h9
      · omega
    · intro h
      have h1 := ih.2 (fun i hi => h i (by omega))
      have h2 := h n (by omega)
      omega
theorem brkA_leg {L K : List Dl} {i j : Nat} (h : legAt sf gs L i = legAt sf gs K j) : brkA r sf gs L i = brkA r sf gs K j := by
  have h1 : sf + depAt L i = sf + depAt K j := congrArg Le.f h
  have h2 : sf + (dlAt L i).d = sf + (dlAt K j).d := congrArg Le.t h
  have h3 : gasAt gs (dlAt L i).g = gasAt gs (dlAt K j).g := congrArg Le.g h
  unfold brkA
  rw [h1, h2, h3]
theorem dv_brk (H : okPl sf gs ls) (hk : k < ls.length) (hd : dvP ls k c) : (brkA r sf gs ls k).length = 0 ↔ (brkA r sf gs (dvL ls k c) k).length = 0 ∧ (brkA r sf gs (dvL ls k c) (k + 1)).length = 0 := by
  obtain ⟨_, m1, m2⟩ := dv_mid H hk hd
  have hg := ckGas_ok (H.gas_ok hk)
  have hg' : 0 ≤ (gasAt gs (dlAt ls k).g).o ∧ 0 ≤ (gasAt gs (dlAt ls k).g).h ∧ (gasAt gs (dlAt ls k).g).o + (gasAt gs (dlAt ls k).g).h ≤ 1000 := ⟨hg.1, hg.2.2.1, hg.2.2.2.2⟩
  have d1 := H.dep (k := k) (by omega)
  have d2 := (H.at hk).d
  have e1 : (brkA r sf gs (dvL ls k c) k) = brkL (gasAt gs (dlAt ls k).g) sf (sf + depAt ls k) (sf + dvM ls k c) r := by
    unfold brkA
    rw [dv_a hk, (dv_dep hk).1]
    rfl
  have e2 : (brkA r sf gs (dvL ls k c) (k + 1)) = brkL (gasAt gs (dlAt ls k).g) sf (sf + dvM ls k c) (sf + (dlAt ls k).d) r := by
    unfold brkA
    rw [dv_b hk, (dv_dep hk).2]
    rfl
  rw [e1, e2]
  unfold brkA
  rw [brk_within hg' d1 d2, brk_within hg' d1 (by omega), brk_within hg' (by omega) d2]
  omega
theorem ad_brs (H : okPl sf gs ls) (h1 : (σ : Int) ≤ secAt ls ls.length) (hw : 0 < ls.length → dpL ls σ = dpH ls σ) : (brs r sf gs (adL ls σ) (adL ls σ).length).length = 0 ↔ (brs r sf gs ls ls.length).length = 0 := by
  rcases ad_or H h1 hw with e | ⟨k, c, hk, hd, _, e⟩
  · rw [e]
  · rw [e, brs_0, brs_0, dvL_len hk]
    have hb := dv_brk (r := r) H hk hd
    constructor
    · intro h i hi
      rcases Nat.lt_trichotomy i k with h9 | h9 | h9
      · rw [← brkA_leg (dv_leg_lo (c := c) hk h9)]
        exact h i (by omega)
      · subst h9
        exact hb.2 ⟨h i (by omega), h (i + 1) (by omega)⟩
      · have := h (i + 1) (by omega)
        rw [brkA_leg (dv_leg_hi (c := c) hk (i := i + 1) (by omega))] at this
        exact this
    · intro h i hi
      have hb' := hb.1 (h k hk)
      rcases Nat.lt_trichotomy i k with h9 | h9 | h9
      · rw [brkA_leg (dv_leg_lo (c := c) hk h9)]
        exact h i (by omega)
      · subst h9
        exact hb'.1
      · rcases Nat.lt_or_eq_of_le (show k + 1 ≤ i by omega) with h8 | h8
        · rw [brkA_leg (dv_leg_hi (c := c) hk (i := i) (by omega))]
          exact h (i - 1) (by omega)
        · subst h8
          exact hb'.2
theorem fw_err {L : List Dl} (hb : bothE nm sf gs L r = 0) : (fwE nm sf gs L r).2 = if (brs r sf gs L L.length).length = 0 then 12 else 0 := by
  by_cases h : (brs r sf gs L L.length).length = 0
  · rw [fwE_2 hb h, if_pos h]
  · obtain ⟨x, hx⟩ := get_some (brs r sf gs L L.length) (k := 0) (by omega)
    rw [fwE_3 hb hx, if_neg h]
theorem ad_fw (H : okPl sf gs ls) (h1 : (σ : Int) ≤ secAt ls ls.length) (hw : 0 < ls.length → dpL ls σ = dpH ls σ) (hb : bothE nm sf gs ls r = 0) (hb2 : bothE nm sf gs (adL ls σ) r = 0) : (fwE nm sf gs (adL ls σ) r).2 = (fwE nm sf gs ls r).2 := by
  have := ad_brs (r := r) H h1 hw
  rw [fw_err hb, fw_err hb2]
  by_cases h : (brs r sf gs ls ls.length).length = 0
  · rw [if_pos h, if_pos (this.2 h)]
  · rw [if_neg h, if_neg (fun hh => h (this.1 hh))]
/-! ### What is breathed up to a second before the cut -/
theorem ad_amt {b : Int} {τ : Nat} (H : okPl sf gs ls) (H2 : okPl sf gs (adL ls σ)) (h1 : (σ : Int) ≤ secAt ls ls.length) (hw : 0 < ls.length → dpL ls σ = dpH ls σ) (ht : τ ≤ σ) :
    consK gs.length (adL ls σ) (amtT sf gs (adL ls σ) b τ) (adL ls σ).length = consK gs.length ls (amtT sf gs ls b τ) ls.length := by
  rcases ad_or H h1 hw with e | ⟨k, c, hk, hd, hs, e⟩
  · rw [e]
  · rw [e] at H2 ⊢
    have hc := hd
    obtain ⟨c0, c1, _⟩ := hc
    have hm := (dv_mid H hk hd).1
    have hlen := dvL_len (c := c) hk
    have a1 : consK gs.length (dvL ls k c) (amtT sf gs (dvL ls k c) b τ) (dvL ls k c).length = consK gs.length (dvL ls k c) (amtT sf gs (dvL ls k c) b τ) (k + 1) := by
      refine consK_upto (L := (dvL ls k c).length) (fun i hi hl => ?_) _ (by omega) (Nat.le_refl _)
      have b1 := secAt_mono H2 (i := k + 1) i hi (by omega)
      have b2 : secAt (dvL ls k c) (k + 1) = (σ : Int) := by
        rw [secAt_succ, dv_sec_lo hk k (Nat.le_refl _), dv_a hk]
        exact hs
      unfold amtT
      rw [if_neg (by omega)]
    have a2 : consK gs.length ls (amtT sf gs ls b τ) ls.length = consK gs.length ls (amtT sf gs ls b τ) (k + 1) := by
      refine consK_upto (L := ls.length) (fun i hi hl => ?_) _ (by omega) (Nat.le_refl _)
      have b1 := secAt_mono H (i := k + 1) i hi (by omega)
      have b2 := secAt_succ ls k
      unfold amtT
      rw [if_neg (by omega)]
    rw [a1, a2]
    refine consK_cong2 _ fun i hi => ?_
    rcases Nat.lt_or_eq_of_le (Nat.le_of_lt_succ hi) with h9 | rfl
    · refine ⟨by rw [dv_lo hk h9], ?_⟩
      unfold amtT
      rw [dv_leg_lo hk h9, dv_lo hk h9, dv_sec_lo hk i (by omega)]
    · refine ⟨by rw [dv_a hk]; rfl, ?_⟩
      have hL := (dv_leg (sf := sf) (gs := gs) (c := c) hk).1
      have hO := H.le hk
      have hO2 := H2.le (k := i) (by omega)
      unfold amtT
      rw [dv_sec_lo hk i (Nat.le_refl _), dv_a hk]
      by_cases h8 : secAt ls i < (τ : Int)
      · rw [if_pos h8, if_pos h8, show (dvA ls i c).s = c from rfl, Int.min_eq_left (show (τ : Int) - secAt ls i ≤ c by omega), Int.min_eq_left (by omega), ← part_br hO2, ← part_br hO, hL]
        refine br_cut (S := (dlAt ls i).s) (c := c) (by omega) (by omega) ?_
        show (sf + dvM ls i c - (sf + depAt ls i)) * (dlAt ls i).s = (sf + (dlAt ls i).d - (sf + depAt ls i)) * c
        rw [show sf + dvM ls i c - (sf + depAt ls i) = dvM ls i c - depAt ls i by omega, show sf + (dlAt ls i).d - (sf + depAt ls i) = (dlAt ls i).d - depAt ls i by omega, Int.sub_mul, hm]
        omega
      · rw [if_neg h8, if_neg h8]
/-! ### The plans that are called with -/
theorem ad_bf (H : okPl sf gs ls) (h1 : (σ : Int) ≤ secAt ls ls.length) (hw : 0 < ls.length → dpL ls σ = dpH ls σ) (hb : bothE nm sf gs ls r = 0) : bothE nm sf gs (bfL ls σ) r = 0 := by
  rcases Nat.eq_zero_or_pos ls.length with h | h
  · have e : ls = [] := List.eq_nil_of_length_eq_zero h
    subst e
    have : secAt ([] : List Dl) ([] : List Dl).length = 0 := rfl
    rw [bfL_0 (by omega)]
    exact hb
  · exact bf_ok H h h1 (hw h) hb
theorem ad_bfl (H : okPl sf gs ls) (h1 : (σ : Int) ≤ secAt ls ls.length) : (bfL ls σ).length ≤ ls.length := by
  rcases Nat.eq_zero_or_pos ls.length with h | h
  · have e : ls = [] := List.eq_nil_of_length_eq_zero h
    subst e
    have : secAt ([] : List Dl) ([] : List Dl).length = 0 := rfl
    rw [bfL_0 (by omega)]
    exact Nat.le_refl _
  · exact bf_len H h h1
theorem ad_sec (H : okPl sf gs ls) (h1 : (σ : Int) ≤ secAt ls ls.length) (hw : 0 < ls.length → dpL ls σ = dpH ls σ) : secAt (adL ls σ) (adL ls σ).length = secAt ls ls.length := by
  rcases ad_or H h1 hw with e | ⟨k, c, hk, hd, _, e⟩
  · rw [e]
  · have := dv_sec_hi (c := c) hk (ls.length - (k + 1))
    rw [show k + 2 + (ls.length - (k + 1)) = ls.length + 1 by omega, show k + 1 + (ls.length - (k + 1)) = ls.length by omega] at this
    rw [e, dvL_len hk, this]
theorem clk_all {L : List Dl} (H : okPl sf gs L) (hT : okTb tb) : ∀ x ∈ clksK tb sf gs L L.length, 0 ≤ x ∧ x ≤ 100000000000000 := by
  intro x hx
  obtain ⟨i, hi⟩ := List.getElem?_of_mem hx
  have hl := (List.getElem?_eq_some_iff.1 hi).1
  rw [clksK_len] at hl
  rw [clksK_get hl] at hi
  injection hi with hi
  have := clkM_in (H.le hl) hT
  omega
theorem cons_all {L : List Dl} {b : Int} (H : okPl sf gs L) (hb : 1 ≤ b ∧ b ≤ 100000) : ∀ x ∈ consK gs.length L (amtS sf gs L b) L.length, 0 ≤ x ∧ x ≤ 100000000000000 := by
  intro x hx
  obtain ⟨i, hi⟩ := List.getElem?_of_mem hx
  have hll := H.ll
  have := consK_in (n := gs.length) (ls := L) (amt := amtS sf gs L b) (A := 51833333334) (by omega) L.length (fun i hi => amtS_in H hb hi) _ _ hi
  omega
end
end Go.Proofs.Ytdmnejfpbbmcaaa
