/-
  Plain models of chapter 5 and of plans: what the functions compute, on numbers and lists. Conditions: none; no program in sight.
-/
import Derived.Test.YtdmnejfpbbmcaaaShStop
import Derived.Test.YtdmnejfpbbmcaaaMod
namespace Go.Proofs.Ytdmnejfpbbmcaaa

/-! ### Division -/
/-! ### Names -/
abbrev ltrI (c : Int) : Prop := (97 ≤ c ∧ c ≤ 122) ∨ (65 ≤ c ∧ c ≤ 90)
abbrev okB (i : Nat) (c : Int) : Prop := ltrI c ∨ (i ≠ 0 ∧ (c = 45 ∨ (48 ≤ c ∧ c ≤ 57)))
def nameP (s : ByteArray) : Prop := 1 ≤ s.size ∧ s.size ≤ 12 ∧ ∀ i, i < s.size → okB i (bAt s i)
instance (s : ByteArray) : Decidable (nameP s) := by unfold nameP; infer_instance

/-! ### Plans -/
structure Dl where
  s : Int
  d : Int
  g : Int
def ckGs : List Gs → Int
  | [] => 0
  | g :: t => if ckGas g.o g.h ≠ 0 then ckGas g.o g.h else ckGs t
theorem ckGs_step {gs : List Gs} {k : Nat} {g : Gs} (h : gs[k]? = some g) : ckGs (gs.drop k) = if ckGas g.o g.h ≠ 0 then ckGas g.o g.h else ckGs (gs.drop (k + 1)) := by rw [drop_cons h]; rfl
theorem ckGas_ok {o h : Int} (hz : ckGas o h = 0) : 0 ≤ o ∧ o ≤ 1000 ∧ 0 ≤ h ∧ h ≤ 1000 ∧ o + h ≤ 1000 := by
  unfold ckGas at hz
  split at hz
  · cases hz
  · split at hz
    · cases hz
    · omega
theorem ckGs_ok : ∀ {gs : List Gs}, ckGs gs = 0 → ∀ g ∈ gs, ckGas g.o g.h = 0
  | [], _, g, hg => by cases hg
  | a :: t, h, g, hg => by
    unfold ckGs at h
    by_cases hc : ckGas a.o a.h ≠ 0
    · rw [if_pos hc] at h; exact absurd h hc
    · rw [if_neg hc] at h
      rcases List.mem_cons.1 hg with rfl | hg
      · omega
      · exact ckGs_ok h g hg
def gasAt (gs : List Gs) (i : Int) : Gs := gs[i.toNat]?.getD ⟨0, 0⟩
def ckDl1 (n e : Int) (x : Dl) : Int := if ¬ (1 ≤ x.s ∧ x.s ≤ 1000000 ∧ 0 ≤ x.d ∧ x.d ≤ 30000) then 2 else if ¬ (0 ≤ x.g ∧ x.g ≤ n - 1) then 6 else if e + x.s > 1000000 then 8 else 0
def ckLegs (n : Int) : Nat → Int → List Dl → Int × Int
  | _, _, [] => (0, 0)
  | i, e, x :: t => if ckDl1 n e x ≠ 0 then ((i : Int), ckDl1 n e x) else ckLegs n (i + 1) (e + x.s) t
theorem ckLegs_bad {n e : Int} {ls : List Dl} {k i : Nat} {x : Dl} (h : ls[k]? = some x) (hc : ckDl1 n e x ≠ 0) : ckLegs n i e (ls.drop k) = ((i : Int), ckDl1 n e x) := by rw [drop_cons h]; exact if_pos hc
theorem ckLegs_ok {n e : Int} {ls : List Dl} {k i : Nat} {x : Dl} (h : ls[k]? = some x) (hc : ckDl1 n e x = 0) : ckLegs n i e (ls.drop k) = ckLegs n (i + 1) (e + x.s) (ls.drop (k + 1)) := by rw [drop_cons h]; exact if_neg (fun hh => hh hc)
theorem ckLegs_end {n e : Int} {ls : List Dl} {k i : Nat} (h : ls.length ≤ k) : ckLegs n i e (ls.drop k) = (0, 0) := by rw [drop_all h]; rfl
def ckPl (nm : ByteArray) (sf : Int) (gs : List Gs) (ls : List Dl) : Int × Int :=
  if ¬ nameP nm then (0, 4) else if ¬ (400 ≤ sf ∧ sf ≤ 1100) then (0, 2) else if gs.length = 0 then (0, 10) else if gs.length > 8 then (0, 8)
  else if ckGs gs ≠ 0 then (0, ckGs gs) else if ls.length > 60 then (0, 8) else ckLegs gs.length 0 0 ls
section
variable {nm : ByteArray} {sf : Int} {gs : List Gs} {ls : List Dl}
theorem ckPl_1 (h : ¬ nameP nm) : ckPl nm sf gs ls = (0, 4) := if_pos h
theorem ckPl_2 (h : nameP nm) (h2 : ¬ (400 ≤ sf ∧ sf ≤ 1100)) : ckPl nm sf gs ls = (0, 2) := by unfold ckPl; rw [if_neg (fun hh => hh h), if_pos h2]
theorem ckPl_3 (h : nameP nm) (h2 : 400 ≤ sf ∧ sf ≤ 1100) (h3 : gs.length = 0) : ckPl nm sf gs ls = (0, 10) := by unfold ckPl; rw [if_neg (fun hh => hh h), if_neg (fun hh => hh h2), if_pos h3]
theorem ckPl_4 (h : nameP nm) (h2 : 400 ≤ sf ∧ sf ≤ 1100) (h3 : ¬ gs.length = 0) (h4 : gs.length > 8) : ckPl nm sf gs ls = (0, 8) := by unfold ckPl; rw [if_neg (fun hh => hh h), if_neg (fun hh => hh h2), if_neg h3, if_pos h4]
theorem ckPl_5 (h : nameP nm) (h2 : 400 ≤ sf ∧ sf ≤ 1100) (h3 : ¬ gs.length = 0) (h4 : ¬ gs.length > 8) (h5 : ckGs gs ≠ 0) : ckPl nm sf gs ls = (0, ckGs gs) := by unfold ckPl; rw [if_neg (fun hh => hh h), if_neg (fun hh => hh h2), if_neg h3, if_neg h4, if_pos h5]
theorem ckPl_6 (h : nameP nm) (h2 : 400 ≤ sf ∧ sf ≤ 1100) (h3 : ¬ gs.length = 0) (h4 : ¬ gs.length > 8) (h5 : ckGs gs = 0) (h6 : ls.length > 60) : ckPl nm sf gs ls = (0, 8) := by unfold ckPl; rw [if_neg (fun hh => hh h), if_neg (fun hh => hh h2), if_neg h3, if_neg h4, if_neg (fun hh => hh h5), if_pos h6]
theorem ckPl_7 (h : nameP nm) (h2 : 400 ≤ sf ∧ sf ≤ 1100) (h3 : ¬ gs.length = 0) (h4 : ¬ gs.length > 8) (h5 : ckGs gs = 0) (h6 : ¬ ls.length > 60) : ckPl nm sf gs ls = ckLegs gs.length 0 0 ls := by unfold ckPl; rw [if_neg (fun hh => hh h), if_neg (fun hh => hh h2), if_neg h3, if_neg h4, if_neg (fun hh => hh h5), if_neg h6]
end
def dlAt (ls : List Dl) (i : Nat) : Dl := ls[i]?.getD ⟨0, 0, 0⟩
def secAt (ls : List Dl) : Nat → Int
  | 0 => 0
  | k + 1 => secAt ls k + (dlAt ls k).s
def depAt (ls : List Dl) : Nat → Int
  | 0 => 0
  | k + 1 => (dlAt ls k).d
theorem dlAt_get {ls : List Dl} {k : Nat} {x : Dl} (h : ls[k]? = some x) : dlAt ls k = x := by unfold dlAt; rw [h]; rfl
structure okDl (n : Int) (x : Dl) : Prop where
  s : 1 ≤ x.s ∧ x.s ≤ 1000000
  d : 0 ≤ x.d ∧ x.d ≤ 30000
  g : 0 ≤ x.g ∧ x.g ≤ n - 1
theorem ckDl1_0 {n e : Int} {x : Dl} (h : ckDl1 n e x = 0) : okDl n x ∧ e + x.s ≤ 1000000 := by
  unfold ckDl1 at h
  by_cases h1 : ¬ (1 ≤ x.s ∧ x.s ≤ 1000000 ∧ 0 ≤ x.d ∧ x.d ≤ 30000)
  · rw [if_pos h1] at h; cases h
  · rw [if_neg h1] at h
    by_cases h2 : ¬ (0 ≤ x.g ∧ x.g ≤ n - 1)
    · rw [if_pos h2] at h; cases h
    · rw [if_neg h2] at h
      by_cases h3 : e + x.s > 1000000
      · rw [if_pos h3] at h; cases h
      · exact ⟨⟨by omega, by omega, by omega⟩, by omega⟩
structure okPl (sf : Int) (gs : List Gs) (ls : List Dl) : Prop where
  sf : 400 ≤ sf ∧ sf ≤ 1100
  gl : 1 ≤ gs.length ∧ gs.length ≤ 8
  g : ∀ g ∈ gs, ckGas g.o g.h = 0
  ll : ls.length ≤ 60
  l : ∀ x ∈ ls, okDl gs.length x
  e : ∀ k, k ≤ ls.length → 0 ≤ secAt ls k ∧ secAt ls k ≤ 1000000
theorem ckLegs_all {n : Int} {ls : List Dl} : ∀ (m k : Nat), k + m = ls.length → (ckLegs n k (secAt ls k) (ls.drop k)).2 = 0 → (∀ j, k ≤ j → j < ls.length → okDl n (dlAt ls j) ∧ secAt ls (j + 1) ≤ 1000000)
  | 0, k, hm, _, j, h1, h2 => by omega
  | m + 1, k, hm, h, j, h1, h2 => by
    obtain ⟨x, hx⟩ := get_some ls (show k < ls.length by omega)
    by_cases hc : ckDl1 n (secAt ls k) x = 0
    · have e1 : secAt ls (k + 1) = secAt ls k + x.s := by show secAt ls k + (dlAt ls k).s = _; rw [dlAt_get hx]
      rw [ckLegs_ok hx hc, ← e1] at h
      rcases Nat.lt_or_eq_of_le h1 with h3 | rfl
      · exact ckLegs_all m (k + 1) (by omega) h j h3 h2
      · rw [dlAt_get hx, e1]; exact ckDl1_0 hc
    · rw [ckLegs_bad hx hc] at h
      exact absurd h hc
theorem ckPl_ok {nm : ByteArray} {sf : Int} {gs : List Gs} {ls : List Dl} (h : (ckPl nm sf gs ls).2 = 0) : nameP nm ∧ okPl sf gs ls := by
  by_cases h1 : nameP nm
  · by_cases h2 : 400 ≤ sf ∧ sf ≤ 1100
    · by_cases h3 : gs.length = 0
      · rw [ckPl_3 h1 h2 h3] at h; cases h
      · by_cases h4 : gs.length > 8
        · rw [ckPl_4 h1 h2 h3 h4] at h; cases h
        · by_cases h5 : ckGs gs = 0
          · by_cases h6 : ls.length > 60
            · rw [ckPl_6 h1 h2 h3 h4 h5 h6] at h; cases h
            · rw [ckPl_7 h1 h2 h3 h4 h5 h6] at h
              have h7 := ckLegs_all (n := gs.length) (ls := ls) ls.length 0 (by omega) h
              have h8 : ∀ k, k ≤ ls.length → 0 ≤ secAt ls k := by
                intro k
                induction k with
                | zero => intro _; exact Int.le_refl _
                | succ k ih =>
                  intro hk
                  have a := ih (by omega)
                  have b := (h7 k (by omega) (by omega)).1.s
                  show 0 ≤ secAt ls k + (dlAt ls k).s
                  omega
              refine ⟨h1, h2, by omega, ckGs_ok h5, by omega, fun x hx => ?_, fun k hk => ⟨h8 k hk, ?_⟩⟩
              · obtain ⟨j, hj⟩ := List.getElem?_of_mem hx
                have := (h7 j (by omega) (List.getElem?_eq_some_iff.1 hj).1).1
                rwa [dlAt_get hj] at this
              · cases k with
                | zero => show (0 : Int) ≤ 1000000; omega
                | succ k => exact (h7 k (by omega) (by omega)).2
          · rw [ckPl_5 h1 h2 h3 h4 h5] at h; exact absurd h h5
    · rw [ckPl_2 h1 h2] at h; cases h
  · rw [ckPl_1 h1] at h; cases h
theorem okPl.at {sf : Int} {gs : List Gs} {ls : List Dl} (h : okPl sf gs ls) {k : Nat} (hk : k < ls.length) : okDl gs.length (dlAt ls k) := by
  obtain ⟨x, hx⟩ := get_some ls hk
  rw [dlAt_get hx]
  exact h.l x (List.mem_of_getElem? hx)
theorem okPl.dep {sf : Int} {gs : List Gs} {ls : List Dl} (h : okPl sf gs ls) {k : Nat} (hk : k ≤ ls.length) : 0 ≤ depAt ls k ∧ depAt ls k ≤ 30000 := by
  cases k with
  | zero => show (0 : Int) ≤ 0 ∧ (0 : Int) ≤ 30000; omega
  | succ k => exact (h.at (k := k) (by omega)).d
theorem okPl.gas {sf : Int} {gs : List Gs} {ls : List Dl} (h : okPl sf gs ls) {k : Nat} (hk : k < ls.length) : gs[(dlAt ls k).g.toNat]? = some (gasAt gs (dlAt ls k).g) := by
  have h1 := (h.at hk).g
  obtain ⟨x, hx⟩ := get_some gs (k := (dlAt ls k).g.toNat) (by omega)
  unfold gasAt
  rw [hx]
  rfl
theorem okPl.gas_ok {sf : Int} {gs : List Gs} {ls : List Dl} (h : okPl sf gs ls) {k : Nat} (hk : k < ls.length) : ckGas (gasAt gs (dlAt ls k).g).o (gasAt gs (dlAt ls k).g).h = 0 := h.g _ (List.mem_of_getElem? (h.gas hk))
structure Le where
  x : Dl
  b : Int
  f : Int
  t : Int
  sf : Int
  g : Gs
def legAt (sf : Int) (gs : List Gs) (ls : List Dl) (k : Nat) : Le := ⟨dlAt ls k, secAt ls k, sf + depAt ls k, sf + (dlAt ls k).d, sf, gasAt gs (dlAt ls k).g⟩
def legsK (sf : Int) (gs : List Gs) (ls : List Dl) (k : Nat) : List Le := (List.range k).map (legAt sf gs ls)
theorem legsK_succ (sf : Int) (gs : List Gs) (ls : List Dl) (k : Nat) : legsK sf gs ls (k + 1) = legsK sf gs ls k ++ [legAt sf gs ls k] := by
  unfold legsK
  rw [List.range_succ, List.map_append]
  rfl
theorem legsK_len (sf : Int) (gs : List Gs) (ls : List Dl) (k : Nat) : (legsK sf gs ls k).length = k := by simp [legsK]
theorem legsK_get {sf : Int} {gs : List Gs} {ls : List Dl} {k i : Nat} (h : i < k) : (legsK sf gs ls k)[i]? = some (legAt sf gs ls i) := by simp [legsK, h]
abbrev legsM (sf : Int) (gs : List Gs) (ls : List Dl) : List Le := legsK sf gs ls ls.length

theorem depAt_pos {ls : List Dl} {k : Nat} (h : 0 < k) : depAt ls k = (dlAt ls (k - 1)).d := by
  cases k with
  | zero => omega
  | succ k => rfl
theorem mulB {a b A B : Int} (ha : 0 ≤ a ∧ a ≤ A) (hb : 0 ≤ b ∧ b ≤ B) : 0 ≤ a * b ∧ a * b ≤ A * B :=
  ⟨Int.mul_nonneg ha.1 hb.1, Int.le_trans (Int.mul_le_mul_of_nonneg_right ha.2 hb.1) (Int.mul_le_mul_of_nonneg_left hb.2 (Int.le_trans ha.1 ha.2))⟩
structure okLe (x : Le) : Prop where
  s : 1 ≤ x.x.s ∧ x.x.s ≤ 1000000
  d : 0 ≤ x.x.d ∧ x.x.d ≤ 30000
  b : 0 ≤ x.b ∧ x.b + x.x.s ≤ 1000000
  sf : 400 ≤ x.sf ∧ x.sf ≤ 1100
  f : x.sf ≤ x.f ∧ x.f ≤ x.sf + 30000
  t : x.sf ≤ x.t ∧ x.t ≤ x.sf + 30000
  g : 0 ≤ x.g.o ∧ 0 ≤ x.g.h ∧ x.g.o + x.g.h ≤ 1000
theorem okPl.le {sf : Int} {gs : List Gs} {ls : List Dl} (h : okPl sf gs ls) {k : Nat} (hk : k < ls.length) : okLe (legAt sf gs ls k) := by
  have h1 := h.at hk
  have h2 := h.dep (k := k) (by omega)
  have h3 := h.e k (by omega)
  have h4 := h.e (k + 1) (by omega)
  have e4 : secAt ls (k + 1) = secAt ls k + (dlAt ls k).s := rfl
  have h5 := ckGas_ok (h.gas_ok hk)
  have h6 := h.sf
  exact ⟨h1.s, h1.d, ⟨h3.1, by show secAt ls k + (dlAt ls k).s ≤ _; omega⟩, h6, ⟨by show sf ≤ sf + depAt ls k; omega, by show sf + depAt ls k ≤ sf + 30000; omega⟩, ⟨by show sf ≤ sf + (dlAt ls k).d; have := h1.d; omega, by show sf + (dlAt ls k).d ≤ sf + 30000; have := h1.d; omega⟩, ⟨h5.1, h5.2.2.1, h5.2.2.2.2⟩⟩
/-! ### Rules -/
structure Ow where
  f : Int
  r : Int
structure Ru where
  tb : List Ow
  lo : Int
  hi : Int
  na : Int
  de : Int
  br : Int
  em : Int
  pa : Int
  ac : Int
def ckOw (p : Int) (x : Ow) : Int := if ¬ (0 ≤ x.f ∧ x.f ≤ 4000 ∧ 0 ≤ x.r ∧ x.r ≤ 100000) then 2 else if x.f ≤ p then 9 else 0
def ckOws : Int → List Ow → Int
  | _, [] => 0
  | p, x :: t => if ckOw p x ≠ 0 then ckOw p x else ckOws x.f t
def owAt (tb : List Ow) (i : Nat) : Ow := tb[i]?.getD ⟨0, 0⟩
theorem owAt_get {tb : List Ow} {k : Nat} {x : Ow} (h : tb[k]? = some x) : owAt tb k = x := by unfold owAt; rw [h]; rfl
def owPr (tb : List Ow) : Nat → Int
  | 0 => -1
  | k + 1 => (owAt tb k).f
theorem ckOws_bad {p : Int} {tb : List Ow} {k : Nat} {x : Ow} (h : tb[k]? = some x) (hc : ckOw p x ≠ 0) : ckOws p (tb.drop k) = ckOw p x := by rw [drop_cons h]; exact if_pos hc
theorem ckOws_ok {tb : List Ow} {k : Nat} {x : Ow} (h : tb[k]? = some x) (hc : ckOw (owPr tb k) x = 0) : ckOws (owPr tb k) (tb.drop k) = ckOws (owPr tb (k + 1)) (tb.drop (k + 1)) := by
  rw [drop_cons h]
  have e : owPr tb (k + 1) = x.f := by show (owAt tb k).f = _; rw [owAt_get h]
  rw [e]
  exact if_neg (fun hh => hh hc)
def ckLim (lo hi : Int) : Int := if ¬ (1 ≤ lo ∧ lo ≤ 4000 ∧ 1 ≤ hi ∧ hi ≤ 4000) then 2 else if lo > hi then 9 else 0
theorem ckLim_a {lo hi : Int} (hc : firstE [if 1 ≤ lo ∧ lo ≤ 4000 then 0 else 2, if 1 ≤ hi ∧ hi ≤ 4000 then 0 else 2] ≠ 0) : firstE [if 1 ≤ lo ∧ lo ≤ 4000 then 0 else 2, if 1 ≤ hi ∧ hi ≤ 4000 then 0 else 2] = ckLim lo hi := by
  unfold ckLim
  unfold firstE firstE firstE at *
  by_cases h1 : 1 ≤ lo ∧ lo ≤ 4000 <;> by_cases h2 : 1 ≤ hi ∧ hi ≤ 4000 <;> simp [h1, h2] at hc ⊢
theorem ckLim_c {lo hi : Int} (hc : ¬ firstE [if 1 ≤ lo ∧ lo ≤ 4000 then 0 else 2, if 1 ≤ hi ∧ hi ≤ 4000 then 0 else 2] ≠ 0) : 1 ≤ lo ∧ lo ≤ 4000 ∧ 1 ≤ hi ∧ hi ≤ 4000 := by
  unfold firstE firstE firstE at hc
  by_cases h1 : 1 ≤ lo ∧ lo ≤ 4000 <;> by_cases h2 : 1 ≤ hi ∧ hi ≤ 4000 <;> simp [h1, h2] at hc ⊢
theorem ckLim_b {lo hi : Int} (hc : ¬ firstE [if 1 ≤ lo ∧ lo ≤ 4000 then 0 else 2, if 1 ≤ hi ∧ hi ≤ 4000 then 0 else 2] ≠ 0) : ckLim lo hi = if lo > hi then 9 else 0 := by
  have h := ckLim_c hc
  unfold ckLim
  rw [if_neg (fun hh => hh h)]
abbrev inRu (r : Ru) : Prop := (0 ≤ r.na ∧ r.na ≤ 30000) ∧ (1 ≤ r.de ∧ r.de ≤ 100000) ∧ (1 ≤ r.br ∧ r.br ≤ 100000) ∧ (1 ≤ r.em ∧ r.em ≤ 100000) ∧ (0 ≤ r.pa ∧ r.pa ≤ 3600) ∧ (1 ≤ r.ac ∧ r.ac ≤ 3000)
def ckRu (r : Ru) : Int := if r.tb.length > 20 then 8 else if ckOws (-1) r.tb ≠ 0 then ckOws (-1) r.tb else if ckLim r.lo r.hi ≠ 0 then ckLim r.lo r.hi else if inRu r then 0 else 2
theorem ckRu_1 {r : Ru} (h : r.tb.length > 20) : ckRu r = 8 := if_pos h
theorem ckRu_2 {r : Ru} (h : ¬ r.tb.length > 20) (h2 : ckOws (-1) r.tb ≠ 0) : ckRu r = ckOws (-1) r.tb := by unfold ckRu; rw [if_neg h, if_pos h2]
theorem ckRu_3 {r : Ru} (h : ¬ r.tb.length > 20) (h2 : ckOws (-1) r.tb = 0) (h3 : ckLim r.lo r.hi ≠ 0) : ckRu r = ckLim r.lo r.hi := by unfold ckRu; rw [if_neg h, if_neg (fun hh => hh h2), if_pos h3]
theorem ckRu_4 {r : Ru} (h : ¬ r.tb.length > 20) (h2 : ckOws (-1) r.tb = 0) (h3 : ckLim r.lo r.hi = 0) : ckRu r = if inRu r then 0 else 2 := by unfold ckRu; rw [if_neg h, if_neg (fun hh => hh h2), if_neg (fun hh => hh h3)]
structure okTb (tb : List Ow) : Prop where
  n : tb.length ≤ 20
  r : ∀ k, k < tb.length → 0 ≤ (owAt tb k).f ∧ (owAt tb k).f ≤ 4000 ∧ 0 ≤ (owAt tb k).r ∧ (owAt tb k).r ≤ 100000
  o : ∀ k, k + 1 < tb.length → (owAt tb k).f < (owAt tb (k + 1)).f
structure okRu (r : Ru) : Prop where
  tb : okTb r.tb
  li : 1 ≤ r.lo ∧ r.lo ≤ r.hi ∧ r.hi ≤ 4000
  na : 0 ≤ r.na ∧ r.na ≤ 30000
  de : 1 ≤ r.de ∧ r.de ≤ 100000
  br : 1 ≤ r.br ∧ r.br ≤ 100000
  em : 1 ≤ r.em ∧ r.em ≤ 100000
  pa : 0 ≤ r.pa ∧ r.pa ≤ 3600
  ac : 1 ≤ r.ac ∧ r.ac ≤ 3000
theorem ckOw_0 {p : Int} {x : Ow} (h : ckOw p x = 0) : (0 ≤ x.f ∧ x.f ≤ 4000 ∧ 0 ≤ x.r ∧ x.r ≤ 100000) ∧ p < x.f := by
  unfold ckOw at h
  split at h
  · cases h
  · split at h
    · cases h
    · omega
theorem ckOws_all {tb : List Ow} : ∀ (m k : Nat), k + m = tb.length → ckOws (owPr tb k) (tb.drop k) = 0 → ∀ j, k ≤ j → j < tb.length → ckOw (owPr tb j) (owAt tb j) = 0
  | 0, k, hm, _, j, h1, h2 => by omega
  | m + 1, k, hm, h, j, h1, h2 => by
    obtain ⟨x, hx⟩ := get_some tb (show k < tb.length by omega)
    by_cases hc : ckOw (owPr tb k) x = 0
    · rw [ckOws_ok hx hc] at h
      rcases Nat.lt_or_eq_of_le h1 with h3 | rfl
      · exact ckOws_all m (k + 1) (by omega) h j h3 h2
      · rw [owAt_get hx]; exact hc
    · rw [ckOws_bad hx hc] at h
      exact absurd h hc
theorem ckLim_ok {lo hi : Int} (h : ckLim lo hi = 0) : 1 ≤ lo ∧ lo ≤ hi ∧ hi ≤ 4000 := by
  unfold ckLim at h
  split at h
  · cases h
  · split at h
    · cases h
    · omega
theorem ckRu_ok {r : Ru} (h : ckRu r = 0) : okRu r := by
  by_cases h1 : r.tb.length > 20
  · rw [ckRu_1 h1] at h; cases h
  · by_cases h2 : ckOws (-1) r.tb = 0
    · by_cases h3 : ckLim r.lo r.hi = 0
      · rw [ckRu_4 h1 h2 h3] at h
        by_cases h4 : inRu r
        · have h5 := ckOws_all (tb := r.tb) r.tb.length 0 (by omega) h2
          obtain ⟨a, b, c, d, e, f⟩ := h4
          refine ⟨⟨by omega, fun k hk => (ckOw_0 (h5 k (by omega) hk)).1, fun k hk => (ckOw_0 (h5 (k + 1) (by omega) hk)).2⟩, ckLim_ok h3, a, b, c, d, e, f⟩
        · rw [if_neg h4] at h; cases h
      · rw [ckRu_3 h1 h2 h3] at h; exact absurd h h3
    · rw [ckRu_2 h1 h2] at h; exact absurd h h2
theorem okTb.mono {tb : List Ow} (h : okTb tb) {i : Nat} : ∀ j, i < j → j < tb.length → (owAt tb i).f < (owAt tb j).f
  | 0, h1, _ => by omega
  | j + 1, h1, h2 => by
    have a := h.o j h2
    rcases Nat.lt_or_eq_of_le (Nat.le_of_lt_succ h1) with h3 | rfl
    · have := okTb.mono h j h3 (by omega); omega
    · exact a

def bothE (nm : ByteArray) (sf : Int) (gs : List Gs) (ls : List Dl) (r : Ru) : Int := if (ckPl nm sf gs ls).2 ≠ 0 then (ckPl nm sf gs ls).2 else ckRu r
theorem bothE_1 {nm : ByteArray} {sf : Int} {gs : List Gs} {ls : List Dl} {r : Ru} (h : (ckPl nm sf gs ls).2 ≠ 0) : bothE nm sf gs ls r = (ckPl nm sf gs ls).2 := if_pos h
theorem bothE_2 {nm : ByteArray} {sf : Int} {gs : List Gs} {ls : List Dl} {r : Ru} (h : (ckPl nm sf gs ls).2 = 0) : bothE nm sf gs ls r = ckRu r := if_neg (fun hh => hh h)
theorem bothE_ok {nm : ByteArray} {sf : Int} {gs : List Gs} {ls : List Dl} {r : Ru} (h : bothE nm sf gs ls r = 0) : nameP nm ∧ okPl sf gs ls ∧ okRu r ∧ (ckPl nm sf gs ls).2 = 0 := by
  by_cases h1 : (ckPl nm sf gs ls).2 = 0
  · rw [bothE_2 h1] at h
    exact ⟨(ckPl_ok h1).1, (ckPl_ok h1).2, ckRu_ok h, h1⟩
  · rw [bothE_1 h1] at h
    exact absurd h h1
/-! ### Rates -/
def rowsTo (tb : List Ow) (o : Int) : Nat → Nat
  | 0 => 0
  | k + 1 => if 1000 * (owAt tb k).f ≤ o then k + 1 else rowsTo tb o k
abbrev rowsN (tb : List Ow) (o : Int) : Nat := rowsTo tb o tb.length
def rateM (tb : List Ow) (o : Int) : Int := if rowsN tb o = 0 then 0 else (owAt tb (rowsN tb o - 1)).r
theorem rowsTo_le (tb : List Ow) (o : Int) : ∀ k, rowsTo tb o k ≤ k
  | 0 => Nat.le_refl _
  | k + 1 => by
    unfold rowsTo
    have := rowsTo_le tb o k
    split <;> omega
theorem rowsTo_spec {tb : List Ow} (h : okTb tb) (o : Int) : ∀ k, k ≤ tb.length → ∀ i, i < k → (1000 * (owAt tb i).f > o ↔ rowsTo tb o k ≤ i)
  | 0, _, i, hi => by omega
  | k + 1, hk, i, hi => by
    unfold rowsTo
    by_cases hc : 1000 * (owAt tb k).f ≤ o
    · rw [if_pos hc]
      rcases Nat.lt_or_eq_of_le (Nat.le_of_lt_succ hi) with h3 | rfl
      · have := h.mono k h3 (by omega); omega
      · omega
    · rw [if_neg hc]
      rcases Nat.lt_or_eq_of_le (Nat.le_of_lt_succ hi) with h3 | rfl
      · exact rowsTo_spec h o k (by omega) i h3
      · have := rowsTo_le tb o i; omega
theorem rateM_in {tb : List Ow} (h : okTb tb) (o : Int) : 0 ≤ rateM tb o ∧ rateM tb o ≤ 100000 := by
  unfold rateM
  by_cases hc : rowsN tb o = 0
  · rw [if_pos hc]; omega
  · rw [if_neg hc]
    have := rowsTo_le tb o tb.length
    have := h.r (rowsN tb o - 1) (by unfold rowsN at *; omega)
    omega

/-! ### What a leg costs -/
def cutHi (tb : List Ow) (hi : Int) (k : Nat) : Int := if k + 1 < tb.length then min hi (1000 * (owAt tb (k + 1)).f) else hi
def sumK (tb : List Ow) (lo hi : Int) : Nat → Int
  | 0 => 0
  | k + 1 => sumK tb lo hi k + (owAt tb k).r * max 0 (cutHi tb hi k - max lo (1000 * (owAt tb k).f))
def topK (tb : List Ow) (lo hi : Int) (k : Nat) : Int := if k < tb.length then max lo (min hi (1000 * (owAt tb k).f)) else hi
theorem sumK_bd {tb : List Ow} (h : okTb tb) {lo hi : Int} (hl : lo ≤ hi) : ∀ k, k ≤ tb.length → 0 ≤ sumK tb lo hi k ∧ sumK tb lo hi k ≤ 100000 * (topK tb lo hi k - lo)
  | 0, _ => by
    unfold topK sumK
    split <;> omega
  | k + 1, hk => by
    obtain ⟨a, b⟩ := sumK_bd h hl k (by omega)
    have hr := h.r k (by omega)
    have e1 : topK tb lo hi k = max lo (min hi (1000 * (owAt tb k).f)) := if_pos (by omega)
    have key : topK tb lo hi k + max 0 (cutHi tb hi k - max lo (1000 * (owAt tb k).f)) ≤ topK tb lo hi (k + 1) := by
      rw [e1]
      unfold topK cutHi
      by_cases hc : k + 1 < tb.length
      · rw [if_pos hc, if_pos hc]
        have := h.o k hc
        omega
      · rw [if_neg hc, if_neg hc]
        omega
    have m1 : 0 ≤ max 0 (cutHi tb hi k - max lo (1000 * (owAt tb k).f)) := by omega
    generalize max 0 (cutHi tb hi k - max lo (1000 * (owAt tb k).f)) = m at key m1
    have p1 : 0 ≤ (owAt tb k).r * m := Int.mul_nonneg hr.2.2.1 m1
    have p2 : (owAt tb k).r * m ≤ 100000 * m := Int.mul_le_mul_of_nonneg_right hr.2.2.2 m1
    have e2 : sumK tb lo hi (k + 1) = sumK tb lo hi k + (owAt tb k).r * max 0 (cutHi tb hi k - max lo (1000 * (owAt tb k).f)) := rfl
    unfold sumK
    constructor
    · have : 0 ≤ (owAt tb k).r * max 0 (cutHi tb hi k - max lo (1000 * (owAt tb k).f)) := Int.mul_nonneg hr.2.2.1 (by omega)
      omega
    · have : (owAt tb k).r * max 0 (cutHi tb hi k - max lo (1000 * (owAt tb k).f)) ≤ 100000 * max 0 (cutHi tb hi k - max lo (1000 * (owAt tb k).f)) := Int.mul_le_mul_of_nonneg_right hr.2.2.2 (by omega)
      have key' : topK tb lo hi k + max 0 (cutHi tb hi k - max lo (1000 * (owAt tb k).f)) ≤ topK tb lo hi (k + 1) := by
        rw [e1]
        unfold topK cutHi
        by_cases hc : k + 1 < tb.length
        · rw [if_pos hc, if_pos hc]
          have := h.o k hc
          omega
        · rw [if_neg hc, if_neg hc]
          omega
      omega
theorem sumK_in {tb : List Ow} (h : okTb tb) {lo hi : Int} (hl : lo ≤ hi) {k : Nat} (hk : k ≤ tb.length) : 0 ≤ sumK tb lo hi k ∧ sumK tb lo hi k ≤ 100000 * (hi - lo) := by
  obtain ⟨a, b⟩ := sumK_bd h hl k hk
  have : topK tb lo hi k ≤ hi := by
    unfold topK
    split <;> omega
  omega
def oxLo (x : Le) : Int := x.g.o * min x.f x.t
def oxHi (x : Le) : Int := x.g.o * max x.f x.t
theorem ox_in {x : Le} (h : okLe x) : 0 ≤ x.g.o * min x.f x.t ∧ x.g.o * min x.f x.t ≤ x.g.o * max x.f x.t ∧ x.g.o * max x.f x.t ≤ 31100000 := by
  have h1 := h.f
  have h2 := h.t
  have h3 := h.sf
  have h4 := h.g
  have a := mulB (a := x.g.o) (b := min x.f x.t) (A := 1000) (B := 31100) (by omega) (by omega)
  have b := mulB (a := x.g.o) (b := max x.f x.t) (A := 1000) (B := 31100) (by omega) (by omega)
  exact ⟨a.1, Int.mul_le_mul_of_nonneg_left (by omega) (by omega), by omega⟩
def clkM (tb : List Ow) (x : Le) : Int := if oxLo x = oxHi x then x.x.s * rateM tb (oxLo x) else upZ (x.x.s * sumK tb (oxLo x) (oxHi x) tb.length) (oxHi x - oxLo x)
def clksK (tb : List Ow) (sf : Int) (gs : List Gs) (ls : List Dl) (k : Nat) : List Int := (List.range k).map fun i => clkM tb (legAt sf gs ls i)
theorem clksK_succ (tb : List Ow) (sf : Int) (gs : List Gs) (ls : List Dl) (k : Nat) : clksK tb sf gs ls (k + 1) = clksK tb sf gs ls k ++ [clkM tb (legAt sf gs ls k)] := by
  unfold clksK
  rw [List.range_succ, List.map_append]
  rfl
theorem clksK_len (tb : List Ow) (sf : Int) (gs : List Gs) (ls : List Dl) (k : Nat) : (clksK tb sf gs ls k).length = k := by simp [clksK]
theorem clksK_get {tb : List Ow} {sf : Int} {gs : List Gs} {ls : List Dl} {k i : Nat} (h : i < k) : (clksK tb sf gs ls k)[i]? = some (clkM tb (legAt sf gs ls i)) := by simp [clksK, h]
theorem clkM_in {tb : List Ow} {x : Le} (h : okLe x) (ht : okTb tb) : 0 ≤ clkM tb x ∧ clkM tb x ≤ 100000000000 := by
  have h1 := ox_in h
  have h2 := h.s
  unfold clkM
  by_cases hc : oxLo x = oxHi x
  · rw [if_pos hc]
    have h3 := rateM_in ht (oxLo x)
    have := mulB (A := 1000000) (B := 100000) (by omega : 0 ≤ x.x.s ∧ x.x.s ≤ 1000000) h3
    omega
  · rw [if_neg hc]
    have h3 : oxLo x ≤ oxHi x := h1.2.1
    have h4 := sumK_in ht h3 (Nat.le_refl _)
    generalize sumK tb (oxLo x) (oxHi x) tb.length = S at *
    have h5 := mulB (A := 1000000) (B := 100000 * (oxHi x - oxLo x)) (by omega : 0 ≤ x.x.s ∧ x.x.s ≤ 1000000) h4
    generalize hd : oxHi x - oxLo x = d at *
    have hd1 : 1 ≤ d := by omega
    unfold upZ
    constructor
    · exact Int.ediv_nonneg (by omega) (by omega)
    · have h6 : (x.x.s * S + d - 1) / d < 100000000000 + 1 := Int.ediv_lt_of_lt_mul (by omega) (by
        have e1 : (100000000000 + 1) * d = 1000000 * (100000 * d) + d := by grind
        omega)
      omega
/-! ### Rests -/
end Go.Proofs.Ytdmnejfpbbmcaaa
