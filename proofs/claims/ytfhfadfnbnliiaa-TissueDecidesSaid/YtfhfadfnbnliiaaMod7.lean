/-
  Plain models of chapter 3: ceilings and what they promise; the legs of a plan. Conditions: none; no program in sight.
-/
import Derived.Test.YtfhfadfnbnliiaaMod6
namespace Go.Proofs.Ytfhfadfnbnliiaa

/-! ### Ceilings -/
theorem lim_line (c : Cp) (p f : Int) : limM c p f = limM c 0 f + p * (1000000 + f * (c.s - 1000)) := by unfold limM; grind
theorem ceil_iff {c : Cp} {z f p : Int} (hc : okCp c) (hf : 0 ≤ f ∧ f ≤ 1000) (hp : 0 ≤ p) : ceilL c z f ≤ p ↔ 1000 * z ≤ limM c p f := by
  have hr := rise_in hc hf
  rw [lim_line c p f]
  unfold ceilL
  rw [lim_rise]
  have hR : 0 < 1000000 + f * (c.s - 1000) := by omega
  generalize limM c 0 f = b
  generalize 1000000 + f * (c.s - 1000) = R at hR
  have h0 : 0 ≤ p * R := Int.mul_nonneg hp (by omega)
  have key : upZ (max 0 (1000 * z - b)) R ≤ p ↔ max 0 (1000 * z - b) ≤ p * R := by
    unfold upZ
    constructor
    · intro h
      have h1 := Int.mul_ediv_add_emod (max 0 (1000 * z - b) + R - 1) R
      have h2 := Int.emod_lt_of_pos (max 0 (1000 * z - b) + R - 1) hR
      have h3 := Int.mul_le_mul_of_nonneg_left h (show 0 ≤ R by omega)
      have h4 : R * p = p * R := Int.mul_comm _ _
      omega
    · intro h
      have h9 : (p + 1) * R = p * R + R := by grind
      have h1 : (max 0 (1000 * z - b) + R - 1) / R < p + 1 := Int.ediv_lt_of_lt_mul hR (by omega)
      omega
  rw [key]
  omega
theorem ceil_nn {c : Cp} {z f : Int} (hc : okCp c) (hf : 0 ≤ f ∧ f ≤ 1000) : 0 ≤ ceilL c z f := by
  have hr := rise_in hc hf
  unfold ceilL upZ
  rw [lim_rise]
  exact Int.ediv_nonneg (by omega) (by omega)
theorem ceilF_lo {f p : Int} : ∀ {ts : List Cp} {ls : List Ld} {r : Rg}, (ceilF f ts ls r).lo ≤ p ↔ r.lo ≤ p ∧ all2 (fun c (x : Ld) => ceilL c (x.n.lo + x.h.lo) f ≤ p) ts ls
  | c :: ts, x :: ls, r => by
    unfold ceilF
    rw [ceilF_lo]
    show _ ∧ _ ↔ _ ∧ (_ ∧ _)
    dsimp only
    constructor
    · rintro ⟨h1, h2⟩; exact ⟨by omega, by omega, h2⟩
    · rintro ⟨h1, h2, h3⟩; exact ⟨by omega, h3⟩
  | [], _, r => by simp [ceilF, all2]
  | _ :: _, [], r => by simp [ceilF, all2]
theorem ceilF_hi {f p : Int} : ∀ {ts : List Cp} {ls : List Ld} {r : Rg}, (ceilF f ts ls r).hi ≤ p ↔ r.hi ≤ p ∧ all2 (fun c (x : Ld) => ceilL c (x.n.hi + x.h.hi) f ≤ p) ts ls
  | c :: ts, x :: ls, r => by
    unfold ceilF
    rw [ceilF_hi]
    show _ ∧ _ ↔ _ ∧ (_ ∧ _)
    dsimp only
    constructor
    · rintro ⟨h1, h2⟩; exact ⟨by omega, by omega, h2⟩
    · rintro ⟨h1, h2, h3⟩; exact ⟨by omega, h3⟩
  | [], _, r => by simp [ceilF, all2]
  | _ :: _, [], r => by simp [ceilF, all2]
theorem all2_iff {α β : Type} {R S : α → β → Prop} : ∀ {a : List α} {b : List β}, (∀ x ∈ a, ∀ y ∈ b, (R x y ↔ S x y)) → (all2 R a b ↔ all2 S a b)
  | x :: a, y :: b, h => by
    show _ ∧ _ ↔ _ ∧ _
    rw [h x List.mem_cons_self y List.mem_cons_self, all2_iff (a := a) (b := b) (fun u hu v hv => h u (List.mem_cons_of_mem _ hu) v (List.mem_cons_of_mem _ hv))]
  | [], _, _ => by simp [all2]
  | _ :: _, [], _ => by simp [all2]
theorem ceil_low {ts : List Cp} {ls : List Ld} {f p : Int} (h : ∀ c ∈ ts, okCp c) (hf : 0 ≤ f ∧ f ≤ 1000) (hp : 0 ≤ p) : (ceilF f ts ls ⟨0, 0⟩).lo ≤ p ↔ lowP p f ts ls := by
  rw [ceilF_lo]
  have := all2_iff (R := fun c (x : Ld) => ceilL c (x.n.lo + x.h.lo) f ≤ p) (S := lw1 p f) (a := ts) (b := ls) (fun c hc x _ => ceil_iff (h c hc) hf hp)
  rw [this]
  exact ⟨fun h => h.2, fun h => ⟨hp, h⟩⟩
theorem ceil_hold {ts : List Cp} {ls : List Ld} {f p : Int} (h : ∀ c ∈ ts, okCp c) (hf : 0 ≤ f ∧ f ≤ 1000) (hp : 0 ≤ p) : (ceilF f ts ls ⟨0, 0⟩).hi ≤ p ↔ holdP p f ts ls := by
  rw [ceilF_hi]
  have := all2_iff (R := fun c (x : Ld) => ceilL c (x.n.hi + x.h.hi) f ≤ p) (S := up1 p f) (a := ts) (b := ls) (fun c hc x _ => ceil_iff (h c hc) hf hp)
  rw [this]
  exact ⟨fun h => h.2, fun h => ⟨hp, h⟩⟩
theorem ceilF_nn {f : Int} : ∀ {ts : List Cp} {ls : List Ld} {r : Rg}, r.lo ≤ (ceilF f ts ls r).lo ∧ r.hi ≤ (ceilF f ts ls r).hi
  | c :: ts, x :: ls, r => by
    unfold ceilF
    have := ceilF_nn (f := f) (ts := ts) (ls := ls) (r := ⟨max r.lo (ceilL c (x.n.lo + x.h.lo) f), max r.hi (ceilL c (x.n.hi + x.h.hi) f)⟩)
    dsimp only at this
    omega
  | [], _, r => by simp [ceilF]
  | _ :: _, [], r => by simp [ceilF]
theorem kept_hi {ts : List Cp} {ls : List Ld} {f : Int} (h : okTL ts ls) (hf : 0 ≤ f ∧ f ≤ 1000) : keptM ts ls (ceilF f ts ls ⟨0, 0⟩).hi f = 2 := by
  have h0 := (ceilF_nn (f := f) (ts := ts) (ls := ls) (r := ⟨0, 0⟩)).2
  have hh := (ceil_hold h.c hf h0).1 (Int.le_refl _)
  unfold keptM
  rw [if_neg (fun hn => hn (hold_low h.o hh)), if_pos hh]
theorem kept_lo {ts : List Cp} {ls : List Ld} {f : Int} (h : okTL ts ls) (hf : 0 ≤ f ∧ f ≤ 1000) (hp : 0 ≤ (ceilF f ts ls ⟨0, 0⟩).lo - 1) : keptM ts ls ((ceilF f ts ls ⟨0, 0⟩).lo - 1) f = 0 := by
  unfold keptM
  rw [if_pos (fun hl => by have := (ceil_low h.c hf hp).2 hl; omega)]
theorem lim_mono {c : Cp} {p f g : Int} (hc : okCp c) (hp : 0 ≤ p) (hfg : f ≤ g) : limM c p f ≤ limM c p g := by
  obtain ⟨_, _, _, _, b1, b2, s1, s2⟩ := hc
  have h1 := Int.mul_nonneg (show 0 ≤ c.s - 1000 by omega) hp
  have h2 := Int.mul_le_mul_of_nonneg_right hfg (show 0 ≤ 1000 * c.b + (c.s - 1000) * p by omega)
  unfold limM
  omega
theorem ceil_anti {ts : List Cp} {ls : List Ld} {f g : Int} (h : okTL ts ls) (hf : 0 ≤ f ∧ f ≤ 1000) (hg : f ≤ g ∧ g ≤ 1000) : (ceilF g ts ls ⟨0, 0⟩).lo ≤ (ceilF f ts ls ⟨0, 0⟩).lo ∧ (ceilF g ts ls ⟨0, 0⟩).hi ≤ (ceilF f ts ls ⟨0, 0⟩).hi := by
  obtain ⟨h1, h2⟩ := ceilF_nn (f := f) (ts := ts) (ls := ls) (r := ⟨0, 0⟩)
  constructor
  · refine (ceil_low h.c (by omega) h1).2 (all2_get fun k c x hc hx => ?_)
    have := all2_at ((ceil_low h.c hf h1).1 (Int.le_refl _)) k c x hc hx
    unfold lw1 at *
    have := lim_mono (h.c c (List.mem_of_getElem? hc)) h1 hg.1
    omega
  · refine (ceil_hold h.c (by omega) h2).2 (all2_get fun k c x hc hx => ?_)
    have := all2_at ((ceil_hold h.c hf h2).1 (Int.le_refl _)) k c x hc hx
    unfold up1 at *
    have := lim_mono (h.c c (List.mem_of_getElem? hc)) h2 hg.1
    omega
/-- the error of loads and a factor -/
def ckFa (ts : List Cp) (ls : List Ld) (f : Int) : Int := if ckLoads ts ls ≠ 0 then ckLoads ts ls else if 0 ≤ f ∧ f ≤ 1000 then 0 else 2
theorem ceilE_snd (ts : List Cp) (ls : List Ld) (f : Int) : (ceilE ts ls f).2 = ckFa ts ls f := by
  unfold ceilE ckFa
  (repeat' split) <;> rfl
theorem ceilE_fst {ts : List Cp} {ls : List Ld} {f : Int} (h : ckFa ts ls f ≠ 0) : (ceilE ts ls f).1 = ⟨0, 0⟩ := by
  unfold ckFa at h
  unfold ceilE
  by_cases h1 : ckLoads ts ls ≠ 0
  · rw [if_pos h1]
  · rw [if_neg h1] at h ⊢
    by_cases h2 : 0 ≤ f ∧ f ≤ 1000
    · rw [if_pos h2] at h; exact absurd rfl h
    · rw [if_neg h2]
structure okFa (ts : List Cp) (ls : List Ld) (f : Int) : Prop where
  k : okTL ts ls
  ct : ckLoads ts ls = 0
  fb : 0 ≤ f ∧ f ≤ 1000
  e : ceilE ts ls f = (ceilF f ts ls ⟨0, 0⟩, 0)
theorem ckFa_ok {ts : List Cp} {ls : List Ld} {f : Int} (h : ckFa ts ls f = 0) : okFa ts ls f := by
  unfold ckFa at h
  by_cases h1 : ckLoads ts ls ≠ 0
  · rw [if_pos h1] at h; exact absurd h h1
  · rw [if_neg h1] at h
    by_cases h2 : 0 ≤ f ∧ f ≤ 1000
    · exact ⟨ckLoads_ok (Decidable.not_not.1 h1), Decidable.not_not.1 h1, h2, ceilE_3 h1 h2⟩
    · rw [if_neg h2] at h; cases h
theorem ceilF_in {ts : List Cp} {ls : List Ld} {f : Int} (h : okTL ts ls) (hf : 0 ≤ f ∧ f ≤ 1000) : 0 ≤ (ceilF f ts ls ⟨0, 0⟩).lo ∧ (ceilF f ts ls ⟨0, 0⟩).lo ≤ 1000000 ∧ 0 ≤ (ceilF f ts ls ⟨0, 0⟩).hi ∧ (ceilF f ts ls ⟨0, 0⟩).hi ≤ 1000000 := by
  obtain ⟨h1, h2⟩ := ceilF_nn (f := f) (ts := ts) (ls := ls) (r := ⟨0, 0⟩)
  refine ⟨h1, (ceil_low h.c hf (by decide)).2 (all2_get fun k c x hc hx => ?_), h2, (ceil_hold h.c hf (by decide)).2 (all2_get fun k c x hc hx => ?_)⟩
  · obtain ⟨⟨a1, a2, a3, a4⟩, ⟨b1, b2, b3, b4⟩⟩ := h.x x (List.mem_of_getElem? hx)
    have := rise_in (h.c c (List.mem_of_getElem? hc)) hf
    unfold lw1
    rw [lim_line, lim_zero]
    omega
  · obtain ⟨⟨a1, a2, a3, a4⟩, ⟨b1, b2, b3, b4⟩⟩ := h.x x (List.mem_of_getElem? hx)
    have := rise_in (h.c c (List.mem_of_getElem? hc)) hf
    unfold up1
    rw [lim_line, lim_zero]
    omega

/-! ### The legs of a plan -/
structure Dl where
  s : Int
  d : Int
  g : Int
def ckGs : List Gs → Int
  | [] => 0
  | g :: t => if ckGas g.o g.h ≠ 0 then ckGas g.o g.h else ckGs t
theorem ckGs_step {gs : List Gs} {k : Nat} {g : Gs} (h : gs[k]? = some g) : ckGs (gs.drop k) = if ckGas g.o g.h ≠ 0 then ckGas g.o g.h else ckGs (gs.drop (k + 1)) := by rw [drop_cons h]; rfl
theorem ckGas_ok {o h : Int} (hz : ckGas o h = 0) : 0 ≤ o ∧ o ≤ 1000 ∧ 0 ≤ h ∧ h ≤ 1000 ∧ o + h ≤ 1000 := by
  unfold ckGas at hz
  split at hz
  · cases hz
  · split at hz
    · cases hz
    · omega
theorem ckGs_ok : ∀ {gs : List Gs}, ckGs gs = 0 → ∀ g ∈ gs, ckGas g.o g.h = 0
  | [], _, g, hg => by cases hg
  | d :: t, h, g, hg => by
    unfold ckGs at h
    split at h
    · rename_i h1; exact absurd h h1
    · rename_i h1
      rcases List.mem_cons.1 hg with rfl | hg
      · exact Decidable.not_not.1 h1
      · exact ckGs_ok h g hg
def gasAt (gs : List Gs) (i : Int) : Gs := gs[i.toNat]?.getD ⟨0, 0⟩
def legOf (sf dep : Int) (gs : List Gs) (x : Dl) : Lg := ⟨sf + dep, sf + x.d, x.s, gasAt gs x.g⟩
def ckDl (n dep : Int) (x : Dl) : Int := if ¬ (0 ≤ x.s ∧ x.s ≤ 100000 ∧ 0 ≤ x.d ∧ x.d ≤ 30000) then 2 else if ¬ (0 ≤ x.g ∧ x.g ≤ n - 1) then 6 else if x.s = 0 ∧ x.d ≠ dep then 11 else 0
def legsF (sf : Int) (gs : List Gs) : Int → List Dl → List Lg → List Lg × Int
  | _, [], acc => (acc, 0)
  | dep, x :: t, acc => if ckDl gs.length dep x ≠ 0 then ([], ckDl gs.length dep x) else legsF sf gs x.d t (acc ++ [legOf sf dep gs x])
theorem legsF_bad {sf dep : Int} {gs : List Gs} {ls : List Dl} {acc : List Lg} {k : Nat} {x : Dl} (h : ls[k]? = some x) (hc : ckDl gs.length dep x ≠ 0) : legsF sf gs dep (ls.drop k) acc = ([], ckDl gs.length dep x) := by rw [drop_cons h]; exact if_pos hc
theorem legsF_ok {sf dep : Int} {gs : List Gs} {ls : List Dl} {acc : List Lg} {k : Nat} {x : Dl} (h : ls[k]? = some x) (hc : ckDl gs.length dep x = 0) : legsF sf gs dep (ls.drop k) acc = legsF sf gs x.d (ls.drop (k + 1)) (acc ++ [legOf sf dep gs x]) := by rw [drop_cons h]; exact if_neg (fun hh => hh hc)
theorem legsF_end {sf dep : Int} {gs : List Gs} {ls : List Dl} {acc : List Lg} {k : Nat} (h : ls.length ≤ k) : legsF sf gs dep (ls.drop k) acc = (acc, 0) := by rw [drop_all h]; rfl
def legsE (sf : Int) (gs : List Gs) (ls : List Dl) : List Lg × Int :=
  if ¬ (400 ≤ sf ∧ sf ≤ 1100) then ([], 2) else if gs.length > 8 then ([], 8) else if ckGs gs ≠ 0 then ([], ckGs gs) else if ls.length > 60 then ([], 8) else legsF sf gs 0 ls []
theorem legsE_1 {sf : Int} {gs : List Gs} {ls : List Dl} (h : ¬ (400 ≤ sf ∧ sf ≤ 1100)) : legsE sf gs ls = ([], 2) := if_pos h
theorem legsE_2 {sf : Int} {gs : List Gs} {ls : List Dl} (h : 400 ≤ sf ∧ sf ≤ 1100) (h2 : gs.length > 8) : legsE sf gs ls = ([], 8) := by unfold legsE; rw [if_neg (fun hh => hh h), if_pos h2]
theorem legsE_3 {sf : Int} {gs : List Gs} {ls : List Dl} (h : 400 ≤ sf ∧ sf ≤ 1100) (h2 : ¬ gs.length > 8) (h3 : ckGs gs ≠ 0) : legsE sf gs ls = ([], ckGs gs) := by unfold legsE; rw [if_neg (fun hh => hh h), if_neg h2, if_pos h3]
theorem legsE_4 {sf : Int} {gs : List Gs} {ls : List Dl} (h : 400 ≤ sf ∧ sf ≤ 1100) (h2 : ¬ gs.length > 8) (h3 : ckGs gs = 0) (h4 : ls.length > 60) : legsE sf gs ls = ([], 8) := by unfold legsE; rw [if_neg (fun hh => hh h), if_neg h2, if_neg (fun hh => hh h3), if_pos h4]
theorem legsE_5 {sf : Int} {gs : List Gs} {ls : List Dl} (h : 400 ≤ sf ∧ sf ≤ 1100) (h2 : ¬ gs.length > 8) (h3 : ckGs gs = 0) (h4 : ¬ ls.length > 60) : legsE sf gs ls = legsF sf gs 0 ls [] := by unfold legsE; rw [if_neg (fun hh => hh h), if_neg h2, if_neg (fun hh => hh h3), if_neg h4]
/-- legs that hang together, from a pressure on -/
def chain : Int → List Lg → Prop
  | _, [] => True
  | at_, x :: t => x.f = at_ ∧ ckLeg x = 0 ∧ chain x.t t
def lastT : Int → List Lg → Int
  | at_, [] => at_
  | _, x :: t => lastT x.t t
theorem chain_app : ∀ {a : List Lg} {at_ : Int} {x : Lg}, chain at_ a → x.f = lastT at_ a → ckLeg x = 0 → chain at_ (a ++ [x])
  | [], _, _, _, hf, hx => ⟨hf, hx, trivial⟩
  | _ :: _, _, _, h, hf, hx => ⟨h.1, h.2.1, chain_app h.2.2 hf hx⟩
theorem lastT_app : ∀ {a : List Lg} {at_ : Int} {x : Lg}, lastT at_ (a ++ [x]) = x.t
  | [], _, _ => rfl
  | y :: a, _, _ => lastT_app (a := a) (at_ := y.t)
theorem legsF_chain {sf : Int} {gs : List Gs} (hs : 400 ≤ sf ∧ sf ≤ 1100) (hg : ckGs gs = 0) : ∀ (ls : List Dl) (dep : Int) (acc : List Lg), 0 ≤ dep ∧ dep ≤ 30000 → chain sf acc → lastT sf acc = sf + dep → chain sf (legsF sf gs dep ls acc).1 ∧ (legsF sf gs dep ls acc).1.length ≤ acc.length + ls.length
  | [], _, acc, _, hc, _ => ⟨hc, by simp [legsF]⟩
  | x :: t, dep, acc, hd, hc, hl => by
    unfold legsF
    split
    · exact ⟨trivial, by simp⟩
    · rename_i hk
      have hk := Decidable.not_not.1 hk
      have hx : ckLeg (legOf sf dep gs x) = 0 := by
        unfold ckDl at hk
        split at hk
        · cases hk
        · split at hk
          · cases hk
          · split at hk
            · cases hk
            · rename_i h1 h2 h3
              have hgi : gasAt gs x.g ∈ gs := by
                unfold gasAt
                have : x.g.toNat < gs.length := by omega
                rw [List.getElem?_eq_getElem this]
                exact List.getElem_mem this
              unfold ckLeg legOf
              rw [if_neg (by unfold okPr; dsimp only; omega), if_neg (by dsimp only; exact fun hh => hh (ckGs_ok hg _ hgi)), if_neg (by dsimp only; omega)]
      have hxd : 0 ≤ x.d ∧ x.d ≤ 30000 := by
        unfold ckDl at hk
        split at hk
        · cases hk
        · omega
      obtain ⟨i1, i2⟩ := legsF_chain hs hg t x.d (acc ++ [legOf sf dep gs x]) hxd (chain_app hc (by rw [hl]; rfl) hx) (by rw [lastT_app]; rfl)
      exact ⟨i1, by rw [List.length_append, List.length_singleton] at i2; rw [List.length_cons]; omega⟩
theorem legsE_chain (sf : Int) (gs : List Gs) (ls : List Dl) : chain sf (legsE sf gs ls).1 ∧ (legsE sf gs ls).1.length ≤ 60 := by
  unfold legsE
  split
  · exact ⟨trivial, by simp⟩
  · split
    · exact ⟨trivial, by simp⟩
    · split
      · exact ⟨trivial, by simp⟩
      · split
        · exact ⟨trivial, by simp⟩
        · rename_i h1 h2 h3 h4
          have := legsF_chain (sf := sf) (gs := gs) (by omega) (Decidable.not_not.1 h3) ls 0 [] (by omega) trivial (by simp [lastT])
          exact ⟨this.1, by have := this.2; simp only [List.length_nil] at this; omega⟩
theorem chain_at : ∀ {L : List Lg} {a : Int} {k : Nat} {x : Lg}, chain a L → L[k]? = some x → x.f = lastT a (L.take k) ∧ ckLeg x = 0
  | y :: L, a, 0, x, h, hx => by
    simp only [List.getElem?_cons_zero, Option.some.injEq] at hx
    subst hx
    exact ⟨h.1, h.2.1⟩
  | y :: L, a, k + 1, x, h, hx => by
    have := chain_at (k := k) h.2.2 (by simpa using hx)
    exact ⟨by rw [List.take_succ_cons]; exact this.1, this.2⟩
  | [], _, _, _, _, hx => by simp at hx
theorem lastT_take {L : List Lg} {a : Int} {k : Nat} {x : Lg} (h : L[k]? = some x) : lastT a (L.take (k + 1)) = x.t := by
  rw [List.take_add_one, h]
  exact lastT_app
end Go.Proofs.Ytfhfadfnbnliiaa
