/-
  The normal form of a plan: its gases and its legs; that it is a right plan, and has the depths of the plan. Conditions: those in front of each theorem; no program in sight.
-/
import Derived.Test.YtdmnejfpbbmcaaaEncU
namespace Go.Proofs.Ytdmnejfpbbmcaaa
/-! ### Legs one behind another -/
section
variable {L M : List Dl} {x y z : Dl} {i : Nat} {σ v w : Int}
theorem ap_dl (h : i < L.length) : dlAt (L ++ [x]) i = dlAt L i := by unfold dlAt; rw [List.getElem?_append_left h]
theorem ap_dl0 : dlAt (L ++ [x]) L.length = x := by unfold dlAt; rw [List.getElem?_append_right (Nat.le_refl _), Nat.sub_self]; rfl
theorem ap_sec : ∀ i, i ≤ L.length → secAt (L ++ [x]) i = secAt L i
  | 0, _ => rfl
  | i + 1, h => by
    show secAt (L ++ [x]) i + (dlAt (L ++ [x]) i).s = secAt L i + (dlAt L i).s
    rw [ap_sec i (by omega), ap_dl (by omega)]
theorem ap_sec0 : secAt (L ++ [x]) (L.length + 1) = secAt L L.length + x.s := by
  show secAt (L ++ [x]) L.length + (dlAt (L ++ [x]) L.length).s = _
  rw [ap_sec _ (Nat.le_refl _), ap_dl0]
theorem ap_dep : ∀ i, i ≤ L.length → depAt (L ++ [x]) i = depAt L i
  | 0, _ => rfl
  | i + 1, h => by
    show (dlAt (L ++ [x]) i).d = (dlAt L i).d
    rw [ap_dl (by omega)]
theorem ap_dep0 : depAt (L ++ [x]) (L.length + 1) = x.d := by
  show (dlAt (L ++ [x]) L.length).d = _
  rw [ap_dl0]
theorem ap_len : (L ++ [x]).length = L.length + 1 := by rw [List.length_append, List.length_singleton]
def onT (L : List Dl) (σ v w : Int) : Prop := ∃ i, i < L.length ∧ secAt L i ≤ σ ∧ σ ≤ secAt L (i + 1) ∧ v * (dlAt L i).s = w * (depAt L i * (dlAt L i).s + ((dlAt L i).d - depAt L i) * (σ - secAt L i))
def posS (L : List Dl) : Prop := ∀ i, i < L.length → 1 ≤ (dlAt L i).s
theorem pos_ap (h : posS L) (hx : 1 ≤ x.s) : posS (L ++ [x]) := fun i hi => by
  rw [ap_len] at hi
  rcases Nat.lt_or_ge i L.length with h1 | h1
  · rw [ap_dl h1]; exact h i h1
  · obtain rfl : i = L.length := by omega
    rw [ap_dl0]; exact hx
theorem sec_up (h : posS L) {i : Nat} : ∀ j, i ≤ j → j ≤ L.length → secAt L i + ((j : Int) - i) ≤ secAt L j
  | 0, h1, _ => by obtain rfl : i = 0 := by omega
                   omega
  | j + 1, h1, h2 => by
    rcases Nat.lt_or_ge j i with h3 | h3
    · obtain rfl : i = j + 1 := by omega
      omega
    · have a := sec_up h j h3 (by omega)
      have b := h j (by omega)
      have c : secAt L (j + 1) = secAt L j + (dlAt L j).s := rfl
      omega
theorem cancel {a b s : Int} (hs : 1 ≤ s) (h : s * a = s * b) : a = b := Int.eq_of_mul_eq_mul_left (by omega) h
structure sameT (L M : List Dl) : Prop where
  t : ∀ σ v w, onT L σ v w → onT M σ v w
  s : secAt L L.length = secAt M M.length
  d : depAt L L.length = depAt M M.length
theorem same_0 : sameT [] [] := ⟨fun _ _ _ h => h, rfl, rfl⟩
theorem onT_ap (h : onT L σ v w) : onT (L ++ [x]) σ v w := by
  obtain ⟨i, hi, a1, a2, a3⟩ := h
  refine ⟨i, by rw [ap_len]; omega, ?_⟩
  rw [ap_sec i (by omega), ap_sec (i + 1) (by omega), ap_dl hi, ap_dep i (by omega)]
  exact ⟨a1, a2, a3⟩
theorem onT_cut (h : onT (L ++ [x]) σ v w) : onT L σ v w ∨ secAt L L.length ≤ σ ∧ σ ≤ secAt L L.length + x.s ∧ v * x.s = w * (depAt L L.length * x.s + (x.d - depAt L L.length) * (σ - secAt L L.length)) := by
  obtain ⟨i, hi, a1, a2, a3⟩ := h
  rw [ap_len] at hi
  rcases Nat.lt_or_ge i L.length with h1 | h1
  · left
    rw [ap_sec i (by omega)] at a1 a3
    rw [ap_sec (i + 1) (by omega)] at a2
    rw [ap_dl h1, ap_dep i (by omega)] at a3
    exact ⟨i, h1, a1, a2, a3⟩
  · obtain rfl : i = L.length := by omega
    right
    rw [ap_sec _ (Nat.le_refl _)] at a1 a3
    rw [ap_sec0] at a2
    rw [ap_dl0, ap_dep _ (Nat.le_refl _)] at a3
    exact ⟨a1, a2, a3⟩
theorem onT_last (h : secAt L L.length ≤ σ ∧ σ ≤ secAt L L.length + x.s ∧ v * x.s = w * (depAt L L.length * x.s + (x.d - depAt L L.length) * (σ - secAt L L.length))) : onT (L ++ [x]) σ v w := by
  refine ⟨L.length, by rw [ap_len]; omega, ?_⟩
  rw [ap_sec _ (Nat.le_refl _), ap_sec0, ap_dl0, ap_dep _ (Nat.le_refl _)]
  exact h
theorem same_ap (h : sameT L M) (hs : y.s = x.s) (hd : y.d = x.d) : sameT (L ++ [x]) (M ++ [y]) := by
  refine ⟨fun σ v w h1 => ?_, ?_, ?_⟩
  · rcases onT_cut h1 with h2 | h2
    · exact onT_ap (h.t _ _ _ h2)
    · refine onT_last ?_
      rw [← h.s, ← h.d, hs, hd]
      exact h2
  · rw [ap_len, ap_len, ap_sec0, ap_sec0, h.s, hs]
  · rw [ap_len, ap_len, ap_dep0, ap_dep0, hd]
theorem same_tr {K : List Dl} (h : sameT L M) (h2 : sameT M K) : sameT L K := ⟨fun σ v w h1 => h2.t _ _ _ (h.t _ _ _ h1), h.s.trans h2.s, h.d.trans h2.d⟩
theorem same_mrg {g : Int} (hz : 1 ≤ z.s) (hx : 1 ≤ x.s) (h : (z.d - depAt L L.length) * x.s = (x.d - z.d) * z.s) : sameT (L ++ [z] ++ [x]) (L ++ [⟨z.s + x.s, x.d, g⟩]) := by
  have e1 : secAt (L ++ [z]) (L ++ [z]).length = secAt L L.length + z.s := by rw [ap_len, ap_sec0]
  have e2 : depAt (L ++ [z]) (L ++ [z]).length = z.d := by rw [ap_len, ap_dep0]
  refine ⟨fun σ v w h1 => ?_, ?_, ?_⟩
  · rcases onT_cut h1 with h2 | h2
    · rcases onT_cut h2 with h3 | ⟨h3, h4, h5⟩
      · exact onT_ap h3
      · refine onT_last ⟨h3, by dsimp only; omega, ?_⟩
        dsimp only
        generalize depAt L L.length = a at *
        generalize σ - secAt L L.length = q at *
        refine cancel hz ?_
        have f1 : z.s * (v * (z.s + x.s)) = (v * z.s) * (z.s + x.s) := by grind
        have f2 : (x.d - a) * z.s = (z.d - a) * (z.s + x.s) := by grind
        have f3 : z.s * (w * (a * (z.s + x.s) + (x.d - a) * q)) = w * (a * z.s * (z.s + x.s) + ((x.d - a) * z.s) * q) := by grind
        rw [f1, f3, f2, h5]
        grind
    · rw [e1, e2] at h2
      obtain ⟨h3, h4, h5⟩ := h2
      refine onT_last ⟨by omega, by dsimp only; omega, ?_⟩
      dsimp only
      rw [show σ - (secAt L L.length + z.s) = (σ - secAt L L.length) - z.s by omega] at h5
      generalize depAt L L.length = a at *
      generalize σ - secAt L L.length = q at *
      refine cancel hx ?_
      have f1 : x.s * (v * (z.s + x.s)) = (v * x.s) * (z.s + x.s) := by grind
      have f2 : (x.d - z.d) * (z.s + x.s) = (x.d - a) * x.s := by grind
      have f3 : (z.d - a) * (z.s + x.s) = (x.d - a) * z.s := by grind
      rw [f1, h5]
      have f4 : w * (z.d * x.s + (x.d - z.d) * (q - z.s)) * (z.s + x.s) = w * (x.s * (z.d * (z.s + x.s)) + ((x.d - z.d) * (z.s + x.s)) * (q - z.s)) := by grind
      rw [f4, f2]
      have f5 : z.d * (z.s + x.s) = a * (z.s + x.s) + (x.d - a) * z.s := by rw [← f3]; grind
      rw [f5]
      grind
  · rw [ap_len, ap_sec0, e1, ap_len, ap_sec0]
    dsimp only
    omega
  · rw [ap_len, ap_dep0, ap_len, ap_dep0]
end
/-! ### The normal form -/
def gIx : List Gs → Gs → Nat
  | [], _ => 0
  | a :: t, g => if sameG a g then 0 else gIx t g + 1
theorem gIx_le : ∀ (G : List Gs) (g : Gs), gIx G g ≤ G.length
  | [], _ => Nat.le_refl _
  | a :: t, g => by
    have := gIx_le t g
    unfold gIx
    split
    · omega
    · rw [List.length_cons]; omega
theorem gIx_not : ∀ {G : List Gs} {g : Gs}, ¬ gIx G g < G.length → g ∉ G
  | [], _, _ => by simp
  | a :: t, g, h => by
    unfold gIx at h
    by_cases h1 : sameG a g
    · rw [if_pos h1, List.length_cons] at h; omega
    · rw [if_neg h1, List.length_cons] at h
      have := gIx_not (G := t) (g := g) (by omega)
      intro h2
      rcases List.mem_cons.1 h2 with rfl | h2
      · exact h1 ⟨rfl, rfl⟩
      · exact this h2
theorem sub_len : ∀ {G gs : List Gs}, G.Nodup → (∀ g ∈ G, g ∈ gs) → G.length ≤ gs.length
  | [], _, _, _ => Nat.zero_le _
  | g :: t, gs, hn, hs => by
    obtain ⟨h1, h2⟩ := List.nodup_cons.1 hn
    obtain ⟨a, b, rfl⟩ := List.append_of_mem (hs g (List.mem_cons_self ..))
    have := sub_len (gs := a ++ b) h2 (fun q hq => by
      have h3 := hs q (List.mem_cons_of_mem _ hq)
      rcases List.mem_append.1 h3 with h4 | h4
      · exact List.mem_append.2 (.inl h4)
      · rcases List.mem_cons.1 h4 with rfl | h4
        · exact absurd hq h1
        · exact List.mem_append.2 (.inr h4))
    rw [List.length_append] at this
    rw [List.length_cons, List.length_append, List.length_cons]
    omega
abbrev Nf := List Gs × List Dl
def strt (M : List Dl) (x : Dl) : Prop := ((dlAt M (M.length - 1)).d - depAt M (M.length - 1)) * x.s = (x.d - (dlAt M (M.length - 1)).d) * (dlAt M (M.length - 1)).s
instance (M : List Dl) (x : Dl) : Decidable (strt M x) := by unfold strt; infer_instance
def mrgP (M : List Dl) (i : Int) (x : Dl) : Prop := 0 < M.length ∧ (dlAt M (M.length - 1)).g = i ∧ strt M x
instance (M : List Dl) (i : Int) (x : Dl) : Decidable (mrgP M i x) := by unfold mrgP; infer_instance
def nfGs (gs : List Gs) (G : List Gs) (x : Dl) : List Gs := if gIx G (gasAt gs x.g) < G.length then G else G ++ [gasAt gs x.g]
def nfIx (gs : List Gs) (G : List Gs) (x : Dl) : Int := (gIx G (gasAt gs x.g) : Int)
def nfLs (M : List Dl) (i : Int) (x : Dl) : List Dl := if mrgP M i x then M.dropLast ++ [⟨(dlAt M (M.length - 1)).s + x.s, x.d, i⟩] else M ++ [⟨x.s, x.d, i⟩]
def nfS (gs : List Gs) (p : Nf) (x : Dl) : Nf := (nfGs gs p.1 x, nfLs p.2 (nfIx gs p.1 x) x)
def nfK (gs : List Gs) (ls : List Dl) : Nat → Nf
  | 0 => ([], [])
  | k + 1 => nfS gs (nfK gs ls k) (dlAt ls k)
def nfG (gs : List Gs) (ls : List Dl) : List Gs := if (nfK gs ls ls.length).2.length = 0 then [gasAt gs 0] else (nfK gs ls ls.length).1
def nfL (gs : List Gs) (ls : List Dl) : List Dl := (nfK gs ls ls.length).2
structure okNf (gs : List Gs) (ls : List Dl) (k : Nat) (p : Nf) : Prop where
  nd : p.1.Nodup
  sb : ∀ g ∈ p.1, g ∈ gs
  ll : p.2.length ≤ k
  po : posS p.2
  de : ∀ i, i < p.2.length → 0 ≤ (dlAt p.2 i).d ∧ (dlAt p.2 i).d ≤ 30000
  ga : ∀ i, i < p.2.length → 0 ≤ (dlAt p.2 i).g ∧ (dlAt p.2 i).g < p.1.length
  sm : sameT (ls.take k) p.2
  ne : 1 ≤ k → 1 ≤ p.2.length
theorem take_s {ls : List Dl} {k : Nat} (h : k < ls.length) : ls.take (k + 1) = ls.take k ++ [dlAt ls k] := by
  obtain ⟨x, hx⟩ := get_some ls h
  rw [List.take_add_one, hx, dlAt_get hx]
  rfl
theorem last_split {M : List Dl} (h : 0 < M.length) : M = M.dropLast ++ [dlAt M (M.length - 1)] ∧ M.dropLast.length = M.length - 1 := by
  have h1 : M ≠ [] := by intro h0; rw [h0] at h; cases h
  have h2 := List.dropLast_concat_getLast h1
  have h3 : dlAt M (M.length - 1) = M.getLast h1 := by
    rw [List.getLast_eq_getElem]
    exact dlAt_get (List.getElem?_eq_getElem _)
  exact ⟨by rw [h3, h2], List.length_dropLast⟩
theorem nf_ok {sf : Int} {gs : List Gs} {ls : List Dl} (H : okPl sf gs ls) : ∀ k, k ≤ ls.length → okNf gs ls k (nfK gs ls k)
  | 0, _ => ⟨List.nodup_nil, fun g hg => (by cases hg), Nat.le_refl _, fun i hi => (by cases hi), fun i hi => (by cases hi), fun i hi => (by cases hi), (by rw [List.take_zero]; exact same_0), fun h => (by omega)⟩
  | k + 1, hk => by
    have ih := nf_ok H k (by omega)
    have hx := H.at (k := k) (by omega)
    have hg := List.mem_of_getElem? (H.gas (k := k) (by omega))
    show okNf gs ls (k + 1) (nfS gs (nfK gs ls k) (dlAt ls k))
    generalize nfK gs ls k = p at *
    obtain ⟨G, M⟩ := p
    generalize hxe : dlAt ls k = x at *
    have hI := gIx_le G (gasAt gs x.g)
    have hG : (nfGs gs G x).Nodup ∧ (∀ g ∈ nfGs gs G x, g ∈ gs) ∧ G.length ≤ (nfGs gs G x).length ∧ gIx G (gasAt gs x.g) < (nfGs gs G x).length := by
      unfold nfGs
      by_cases h1 : gIx G (gasAt gs x.g) < G.length
      · rw [if_pos h1]
        exact ⟨ih.nd, ih.sb, Nat.le_refl _, h1⟩
      · rw [if_neg h1]
        refine ⟨?_, fun g h2 => ?_, by rw [List.length_append]; omega, by rw [List.length_append, List.length_singleton]; omega⟩
        · rw [List.nodup_append]
          refine ⟨ih.nd, (by simp), fun a ha b hb => ?_⟩
          rw [List.mem_singleton.1 hb]
          exact fun e => gIx_not h1 (e ▸ ha)
        · rcases List.mem_append.1 h2 with h2 | h2
          · exact ih.sb g h2
          · rw [List.mem_singleton.1 h2]; exact hg
    have hT : sameT (ls.take (k + 1)) (M ++ [x]) := by
      rw [take_s (by omega), hxe]
      exact same_ap ih.sm rfl rfl
    have hll : M.length ≤ k := ih.ll
    unfold nfS nfLs
    dsimp only
    by_cases hm : mrgP M (nfIx gs G x) x
    · rw [if_pos hm]
      obtain ⟨h1, h2, h3⟩ := hm
      obtain ⟨e1, e2⟩ := last_split h1
      have hz : 1 ≤ (dlAt M (M.length - 1)).s := ih.po _ (show M.length - 1 < M.length by omega)
      unfold strt at h3
      generalize hze : dlAt M (M.length - 1) = z at *
      generalize hne : M.dropLast = N at *
      have hdep : depAt M (M.length - 1) = depAt N N.length := by
        rw [e1, ap_len, Nat.add_sub_cancel]
        exact ap_dep _ (Nat.le_refl _)
      rw [hdep] at h3
      have hlen : (N ++ [(⟨z.s + x.s, x.d, nfIx gs G x⟩ : Dl)]).length = M.length := by rw [ap_len]; omega
      have hdl : ∀ i, i < M.length → (dlAt (N ++ [(⟨z.s + x.s, x.d, nfIx gs G x⟩ : Dl)]) i = dlAt M i ∨ dlAt (N ++ [(⟨z.s + x.s, x.d, nfIx gs G x⟩ : Dl)]) i = ⟨z.s + x.s, x.d, nfIx gs G x⟩) := by
        intro i hi
        rcases Nat.lt_or_ge i N.length with h9 | h9
        · left
          rw [ap_dl h9]
          rw [e1, ap_dl h9]
        · right
          obtain rfl : i = N.length := by omega
          exact ap_dl0
      refine ⟨hG.1, hG.2.1, by rw [hlen]; omega, fun i hi => ?_, fun i hi => ?_, fun i hi => ?_, same_tr hT ?_, fun _ => by rw [hlen]; exact h1⟩
      · rw [hlen] at hi
        rcases hdl i hi with e | e
        · rw [e]; exact ih.po i hi
        · rw [e]; have := hx.s; show 1 ≤ z.s + x.s; omega
      · rw [hlen] at hi
        rcases hdl i hi with e | e
        · rw [e]; exact ih.de i hi
        · rw [e]; exact hx.d
      · rw [hlen] at hi
        rcases hdl i hi with e | e
        · rw [e]; have := ih.ga i hi; dsimp only at this ⊢; omega
        · rw [e]; show 0 ≤ (gIx G (gasAt gs x.g) : Int) ∧ _; dsimp only; have := hG.2.2.2; constructor
          · omega
          · show (gIx G (gasAt gs x.g) : Int) < _; omega
      · have h9 := same_mrg (L := N) (z := z) (x := x) (g := nfIx gs G x) hz hx.s.1 h3
        rw [← e1] at h9
        exact h9
    · rw [if_neg hm]
      have hdl : ∀ i, i < M.length + 1 → ((i < M.length ∧ dlAt (M ++ [(⟨x.s, x.d, nfIx gs G x⟩ : Dl)]) i = dlAt M i) ∨ dlAt (M ++ [(⟨x.s, x.d, nfIx gs G x⟩ : Dl)]) i = ⟨x.s, x.d, nfIx gs G x⟩) := by
        intro i hi
        rcases Nat.lt_or_ge i M.length with h9 | h9
        · left
          exact ⟨h9, ap_dl h9⟩
        · right
          obtain rfl : i = M.length := by omega
          exact ap_dl0
      refine ⟨hG.1, hG.2.1, by rw [ap_len]; omega, pos_ap ih.po hx.s.1, fun i hi => ?_, fun i hi => ?_, ?_, fun _ => by rw [ap_len]; omega⟩
      · rw [ap_len] at hi
        rcases hdl i hi with ⟨h9, e⟩ | e
        · rw [e]; exact ih.de i h9
        · rw [e]; exact hx.d
      · rw [ap_len] at hi
        rcases hdl i hi with ⟨h9, e⟩ | e
        · rw [e]; have := ih.ga i h9; dsimp only at this ⊢; omega
        · rw [e]; dsimp only; have := hG.2.2.2; constructor
          · show 0 ≤ (gIx G (gasAt gs x.g) : Int); omega
          · show (gIx G (gasAt gs x.g) : Int) < _; omega
      · rw [take_s (by omega), hxe]
        exact same_ap ih.sm rfl rfl
theorem nf_plan {sf : Int} {gs : List Gs} {ls : List Dl} (H : okPl sf gs ls) : okPl sf (nfG gs ls) (nfL gs ls) := by
  have h := nf_ok H ls.length (Nat.le_refl _)
  have hgl := H.gl; have hll := H.ll
  have hle := sub_len h.nd h.sb
  have hend := H.e ls.length (Nat.le_refl _)
  have hs : secAt (nfL gs ls) (nfL gs ls).length = secAt ls ls.length := by
    have := h.sm.s
    rw [List.take_length] at this
    exact this.symm
  have h0 : (nfL gs ls).length = 0 ↔ ls.length = 0 := by
    have h1 := h.ll; have h2 := h.ne
    show (nfK gs ls ls.length).2.length = 0 ↔ _
    omega
  refine ⟨H.sf, ?_, ?_, ?_, fun x hx => ?_, fun k hk => ?_⟩
  · unfold nfG
    by_cases h1 : (nfK gs ls ls.length).2.length = 0
    · rw [if_pos h1]; exact ⟨Nat.le_refl _, show (1 : Nat) ≤ 8 by decide⟩
    · rw [if_neg h1]
      have := h.ga 0 (by omega)
      omega
  · unfold nfG
    by_cases h1 : (nfK gs ls ls.length).2.length = 0
    · rw [if_pos h1]
      intro g hg
      rw [List.mem_singleton.1 hg]
      obtain ⟨a, ha⟩ := get_some gs (k := 0) (by omega)
      have : gasAt gs 0 = a := by unfold gasAt; rw [show (0 : Int).toNat = 0 from rfl, ha]; rfl
      rw [this]
      exact H.g a (List.mem_of_getElem? ha)
    · rw [if_neg h1]
      exact fun g hg => H.g g (h.sb g hg)
  · have := h.ll
    show (nfK gs ls ls.length).2.length ≤ 60
    omega
  · obtain ⟨i, hi⟩ := List.getElem?_of_mem hx
    have hlt : i < (nfL gs ls).length := (List.getElem?_eq_some_iff.1 hi).1
    have e := dlAt_get hi
    have a1 := h.po i hlt; have a2 := h.de i hlt; have a3 := h.ga i hlt
    have a4 := sec_up h.po (i := i + 1) (nfL gs ls).length (by omega) (Nat.le_refl _)
    have a5 := sec_up h.po (i := 0) i (by omega) (show i ≤ (nfK gs ls ls.length).2.length by show i ≤ (nfL gs ls).length; omega)
    have a6 : secAt (nfL gs ls) (i + 1) = secAt (nfL gs ls) i + (dlAt (nfL gs ls) i).s := rfl
    have a7 : secAt (nfL gs ls) 0 = 0 := rfl
    have hne : ¬ (nfK gs ls ls.length).2.length = 0 := by show ¬ (nfL gs ls).length = 0; omega
    have hgg : nfG gs ls = (nfK gs ls ls.length).1 := if_neg hne
    change 1 ≤ (dlAt (nfL gs ls) i).s at a1
    change 0 ≤ (dlAt (nfL gs ls) i).d ∧ (dlAt (nfL gs ls) i).d ≤ 30000 at a2
    change 0 ≤ (dlAt (nfL gs ls) i).g ∧ (dlAt (nfL gs ls) i).g < _ at a3
    change secAt (nfL gs ls) (i + 1) + _ ≤ secAt (nfL gs ls) (nfL gs ls).length at a4
    change secAt (nfL gs ls) 0 + _ ≤ secAt (nfL gs ls) i at a5
    rw [e] at a1 a2 a3 a6
    rw [hgg]
    exact ⟨⟨a1, by omega⟩, a2, a3.1, by omega⟩
  · have a4 := sec_up h.po (i := k) (nfL gs ls).length hk (Nat.le_refl _)
    have a5 := sec_up h.po (i := 0) k (by omega) hk
    change secAt (nfL gs ls) k + _ ≤ secAt (nfL gs ls) (nfL gs ls).length at a4
    change secAt (nfL gs ls) 0 + _ ≤ secAt (nfL gs ls) k at a5
    have a7 : secAt (nfL gs ls) 0 = 0 := rfl
    omega
theorem okPl.pos {sf : Int} {gs : List Gs} {ls : List Dl} (H : okPl sf gs ls) : posS ls := fun i hi => (H.at hi).s.1
end Go.Proofs.Ytdmnejfpbbmcaaa
