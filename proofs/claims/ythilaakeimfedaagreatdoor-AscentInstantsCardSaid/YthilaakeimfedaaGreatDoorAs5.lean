/-
  Plain laws of chapter 4: the schedule that is found is accepted; a direct ascent that is surely kept is accepted; no stay can be left out. Conditions: those in front of each theorem; no program in sight.
-/
import Derived.Test.YthilaakeimfedaaGreatDoorAs1
import Derived.Test.YthilaakeimfedaaGreatDoorTraj5
namespace Go.Proofs.YthilaakeimfedaaGreatDoor
/-! ### Schedules -/
def dlA (L : List Dl) (k : Nat) : Dl := (L[k]?).getD ⟨0, 0, 0⟩
theorem dlA_get {L : List Dl} {k : Nat} {y : Dl} (h : L[k]? = some y) : dlA L k = y := by unfold dlA; rw [h]; rfl
def okAn (y : Dl) (f : Int) : Prop := (1 ≤ y.s ∧ y.s ≤ 100000) ∧ (0 ≤ y.d ∧ y.d ≤ 30000) ∧ (0 ≤ y.g ∧ y.g ≤ 8) ∧ 0 ≤ f ∧ f ≤ 6
instance (y : Dl) (f : Int) : Decidable (okAn y f) := by unfold okAn; infer_instance
def ckSch (L : List Dl) (F : List Int) : Int := if L.length > 400 then 8 else if F.length ≠ L.length then 10 else if all2 okAn L F then 0 else 2
section
variable {L : List Dl} {F : List Int} {k : Nat} {y : Dl} {f : Int}
theorem sch_8 (h : L.length > 400) : ckSch L F = 8 := if_pos h
theorem sch_10 (h : ¬ L.length > 400) (h2 : F.length ≠ L.length) : ckSch L F = 10 := by unfold ckSch; rw [if_neg h, if_pos h2]
theorem sch_2 (h : ¬ L.length > 400) (h2 : ¬ F.length ≠ L.length) (h3 : ¬ all2 okAn L F) : ckSch L F = 2 := by unfold ckSch; rw [if_neg h, if_neg h2, if_neg h3]
theorem sch_0 (h : ¬ L.length > 400) (h2 : ¬ F.length ≠ L.length) (h3 : all2 okAn L F) : ckSch L F = 0 := by unfold ckSch; rw [if_neg h, if_neg h2, if_pos h3]
structure okSch (L : List Dl) (F : List Int) : Prop where
  n : L.length ≤ 400
  l : F.length = L.length
  a : all2 okAn L F
theorem ckSch_ok (h : ckSch L F = 0) : okSch L F := by
  by_cases h1 : L.length > 400
  · rw [sch_8 h1] at h; exact absurd h (by decide)
  by_cases h2 : F.length ≠ L.length
  · rw [sch_10 h1 h2] at h; exact absurd h (by decide)
  by_cases h3 : all2 okAn L F
  · exact ⟨by omega, by omega, h3⟩
  · rw [sch_2 h1 h2 h3] at h; exact absurd h (by decide)
theorem okSch.ck (h : okSch L F) : ckSch L F = 0 := by
  have h1 := h.n; have h2 := h.l
  exact sch_0 (by omega) (by omega) h.a
def smS (L : List Dl) : Nat → Int
  | 0 => 0
  | k + 1 => smS L k + (dlA L k).s
theorem smS_s (h : L[k]? = some y) : smS L k + y.s = smS L (k + 1) := by show _ = smS L k + (dlA L k).s; rw [dlA_get h]
def okSec (L : List Dl) : Prop := ∀ y ∈ L, 0 ≤ y.s ∧ y.s ≤ 100000
theorem smS_in (h : okSec L) : ∀ k, k ≤ L.length → 0 ≤ smS L k ∧ smS L k ≤ k * 100000
  | 0, _ => by show (0 : Int) ≤ 0 ∧ (0 : Int) ≤ ((0 : Nat) : Int) * 100000; omega
  | k + 1, hk => by
    obtain ⟨y, hy⟩ := get_some L (k := k) (by omega)
    have := h y (List.mem_of_getElem? hy)
    have := smS_in h k (by omega)
    rw [← smS_s hy]
    omega
theorem an_get : ∀ {L : List Dl} {F : List Int} {k : Nat} {y : Dl} {f : Int}, all2 okAn L F → L[k]? = some y → F[k]? = some f → okAn y f
  | [], _, _, _, _, _, h, _ => by simp at h
  | _ :: _, [], _, _, _, _, _, h => by simp at h
  | a :: L, b :: F, 0, y, f, h, h1, h2 => by
    simp at h1 h2
    subst h1 h2
    exact h.1
  | a :: L, b :: F, k + 1, y, f, h, h1, h2 => an_get h.2 (by simpa using h1) (by simpa using h2)
theorem sch_at (h : okSch L F) (hk : k < L.length) : ∃ y f, L[k]? = some y ∧ F[k]? = some f ∧ okAn y f := by
  have h2 := h.l
  obtain ⟨y, hy⟩ := get_some L hk
  obtain ⟨f, hf⟩ := get_some F (k := k) (by omega)
  exact ⟨y, f, hy, hf, an_get h.a hy hf⟩
theorem sch_sec (h : okSch L F) : okSec L := fun y hy => by
  obtain ⟨k, hk, e⟩ := List.mem_iff_getElem.1 hy
  obtain ⟨z, f, h1, _, h3⟩ := sch_at h hk
  rw [List.getElem?_eq_getElem hk, e] at h1
  obtain rfl := Option.some.inj h1
  have := h3.1
  omega
def chkF (t : Int) : Asc → List Dl → List Int → Int → Int × Int
  | x, y :: L, f :: F, k => if ckAl x y ≠ 0 then (k, ckAl x y) else if f > x.r.fi then (k, 2) else if keptT x.ts x.ls (lgA x y) (faA x) f.toNat ≠ 2 then (k, 22) else chkF t (bhA x y) L F (k + 1)
  | x, [], _, _ => if x.de ≠ 0 then (0, 25) else (t, 0)
  | x, _ :: _, [], _ => if x.de ≠ 0 then (0, 25) else (t, 0)
variable {x : Asc} {t j : Int}
theorem chk_1 (h : L[k]? = some y) (hf : F[k]? = some f) (h1 : ckAl x y ≠ 0) : chkF t x (L.drop k) (F.drop k) j = (j, ckAl x y) := by rw [drop_cons h, drop_cons hf]; exact if_pos h1
theorem chk_2 (h : L[k]? = some y) (hf : F[k]? = some f) (h1 : ¬ ckAl x y ≠ 0) (h2 : f > x.r.fi) : chkF t x (L.drop k) (F.drop k) j = (j, 2) := by rw [drop_cons h, drop_cons hf, chkF, if_neg h1, if_pos h2]
theorem chk_3 (h : L[k]? = some y) (hf : F[k]? = some f) (h1 : ¬ ckAl x y ≠ 0) (h2 : ¬ f > x.r.fi) (h3 : keptT x.ts x.ls (lgA x y) (faA x) f.toNat ≠ 2) : chkF t x (L.drop k) (F.drop k) j = (j, 22) := by rw [drop_cons h, drop_cons hf, chkF, if_neg h1, if_neg h2, if_pos h3]
theorem chk_4 (h : L[k]? = some y) (hf : F[k]? = some f) (h1 : ¬ ckAl x y ≠ 0) (h2 : ¬ f > x.r.fi) (h3 : ¬ keptT x.ts x.ls (lgA x y) (faA x) f.toNat ≠ 2) : chkF t x (L.drop k) (F.drop k) j = chkF t (bhA x y) (L.drop (k + 1)) (F.drop (k + 1)) (j + 1) := by rw [drop_cons h, drop_cons hf, chkF, if_neg h1, if_neg h2, if_neg h3]
theorem chk_5 (h : L.length ≤ k) : chkF t x (L.drop k) (F.drop k) j = if x.de ≠ 0 then (0, 25) else (t, 0) := by rw [drop_all h, chkF]
def chkA (x : Asc) (L : List Dl) (F : List Int) : Int × Int := if ckSch L F ≠ 0 then (0, ckSch L F) else chkF (smS L L.length) x L F 0
theorem chkA_1 (h : ckSch L F ≠ 0) : chkA x L F = (0, ckSch L F) := if_pos h
theorem chkA_2 (h : ckSch L F = 0) : chkA x L F = chkF (smS L L.length) x L F 0 := if_neg (fun hh => hh h)
end
/-! ### How long one may stay -/
def nsF (g : Int) : Nat → Asc → Int → Int
  | 0, _, k => k
  | n + 1, x, k => if (dcA x (syA x g)).1 ≠ 2 then k else if (dirA (bhA x (syA x g))).1 ≠ 2 then k else nsF g n (bhA x (syA x g)) (k + 1)
def nsA (x : Asc) : Int × Int := if (dirA x).2 ≠ 0 then (0, (dirA x).2) else if (dirA x).1 ≠ 2 then (0, 12) else (nsF (gasA x x.de) 60 x 0 * x.r.st, 0)
section
variable {x : Asc} {g k : Int} {n : Nat}
theorem ns_1 (hn : 1 ≤ n) (h : (dcA x (syA x g)).1 ≠ 2) : nsF g n x k = k := by
  obtain ⟨m, rfl⟩ : ∃ m, n = m + 1 := ⟨n - 1, by omega⟩
  unfold nsF
  rw [if_pos h]
theorem ns_2 (hn : 1 ≤ n) (h : ¬ (dcA x (syA x g)).1 ≠ 2) (h2 : (dirA (bhA x (syA x g))).1 ≠ 2) : nsF g n x k = k := by
  obtain ⟨m, rfl⟩ : ∃ m, n = m + 1 := ⟨n - 1, by omega⟩
  unfold nsF
  rw [if_neg h, if_pos h2]
theorem ns_3 (hn : 1 ≤ n) (h : ¬ (dcA x (syA x g)).1 ≠ 2) (h2 : ¬ (dirA (bhA x (syA x g))).1 ≠ 2) : nsF g n x k = nsF g (n - 1) (bhA x (syA x g)) (k + 1) := by
  obtain ⟨m, rfl⟩ : ∃ m, n = m + 1 := ⟨n - 1, by omega⟩
  rw [Nat.add_sub_cancel]
  conv => lhs; unfold nsF
  rw [if_neg h, if_neg h2]
theorem nsA_1 (h : (dirA x).2 ≠ 0) : nsA x = (0, (dirA x).2) := if_pos h
theorem nsA_2 (h : (dirA x).2 = 0) (h2 : (dirA x).1 ≠ 2) : nsA x = (0, 12) := by unfold nsA; rw [if_neg (fun hh => hh h), if_pos h2]
theorem nsA_3 (h : (dirA x).2 = 0) (h2 : ¬ (dirA x).1 ≠ 2) : nsA x = (nsF (gasA x x.de) 60 x 0 * x.r.st, 0) := by unfold nsA; rw [if_neg (fun hh => hh h), if_neg h2]
theorem gas_top (H : okAsc x) (h : x.de = 0) : 0 ≤ gasA x x.de := by
  have h1 := H.g1
  have key : ∀ k, k ≤ x.gs.length → 1 ≤ k → 0 ≤ bsA x.gs x.de k := by
    intro k
    induction k with
    | zero => intro _ h; omega
    | succ k ih =>
      intro hk _
      have hb := bsA_in x.gs x.de k
      obtain ⟨a, ha⟩ := get_some x.gs (k := k) (by omega)
      have hd := (H.gg a (List.mem_of_getElem? ha)).2
      unfold bsA
      split
      · omega
      · rename_i h9
        rw [agAt_get ha] at h9
        rcases Nat.lt_or_ge k 1 with h8 | h8
        · obtain rfl : k = 0 := by omega
          exact absurd ⟨by omega, .inl (show (-1 : Int) < 0 by decide)⟩ h9
        · exact ih (by omega) h8
  exact key _ (Nat.le_refl _) h1
theorem dir_gas (H : okAsc x) (h : (dirA x).2 = 0) : ¬ gasA x x.de < 0 := by
  by_cases h1 : x.de = 0
  · have := gas_top H h1; omega
  · intro h2
    rw [dir_2 h1 h2] at h
    exact absurd h (by decide)
end
/-! ### The ends of plans, rests, changes -/
def zAsc : Asc := ⟨[], [], 0, 0, [], ⟨0, 0, 0, 0, 0, 0, 0⟩⟩
def withL (x : Asc) (ls : List Ld) (d : Int) : Asc := ⟨x.ts, ls, x.su, d, x.gs, x.r⟩
def lastD (d : Int) (ls : List Dl) : Int := if ls.length = 0 then d else (dlA ls (ls.length - 1)).d
def begE (x : Asc) (sf : Int) (gs : List Gs) (ls : List Dl) : Int := if x.de ≠ 0 then 24 else if sf ≠ x.su then 13 else (legsE sf gs ls).2
def begA (x : Asc) (sf : Int) (gs : List Gs) (ls : List Dl) : Asc := if begE x sf gs ls ≠ 0 then zAsc else withL x (folM x.ts x.ls (legsE sf gs ls).1 (fnA x) (legsE sf gs ls).1.length) (lastD x.de ls)
def resE (x : Asc) (s : Int) : Int := if x.de ≠ 0 then 24 else if 0 ≤ s ∧ s ≤ 1000000 then 0 else 2
def resA (x : Asc) (s : Int) : Asc := if resE x s ≠ 0 then zAsc else withL x (restM x.ts x.ls x.su s) x.de
section
variable {x : Asc}
end
end Go.Proofs.YthilaakeimfedaaGreatDoor
namespace Go.Proofs.YthilaakeimfedaaGreatDoor
/-! ### Depths -/
def okD (n : Int) : Prop := 0 ≤ n ∧ n ≤ 30000
instance (n : Int) : Decidable (okD n) := by unfold okD; infer_instance
def ixD : List Int → Nat → Int
  | [], _ => -1
  | n :: t, k => if okD n then ixD t (k + 1) else k
section
variable {es : List Int} {k : Nat} {e : Int}
theorem ixD_yes (h : es[k]? = some e) (he : okD e) : ixD (es.drop k) k = ixD (es.drop (k + 1)) (k + 1) := by rw [drop_cons h]; exact if_pos he
theorem ixD_no (h : es[k]? = some e) (he : ¬ okD e) : ixD (es.drop k) k = k := by rw [drop_cons h]; exact if_neg he
theorem ixD_end (h : es.length ≤ k) : ixD (es.drop k) k = -1 := by rw [drop_all h]; rfl
end
def depE (es : List Int) : Int := if ixD es 0 ≥ 0 then 2 else 0
theorem dep_1 (d : Int) : depE [d] = if 0 ≤ d ∧ d ≤ 30000 then 0 else 2 := by
  by_cases h : okD d
  · have e : ixD [d] 0 = -1 := by unfold ixD; rw [if_pos h]; rfl
    unfold depE
    rw [e, if_neg (by decide)]
    exact (if_pos h).symm
  · have e : ixD [d] 0 = 0 := by unfold ixD; rw [if_neg h]; rfl
    unfold depE
    rw [e, if_pos (by decide)]
    exact (if_neg h).symm
/-! ### What is asked of rules -/
def erR (r : Rl) (es : List Int) : Int := if ckRl r ≠ 0 then ckRl r else depE es
theorem first_2 (a b : Int) : firstE [a, b] = if a ≠ 0 then a else b := by
  show (if a = 0 then (if b = 0 then 0 else b) else a) = if a ≠ 0 then a else b
  by_cases h : a = 0
  · rw [if_pos h, if_neg (show ¬ a ≠ 0 from fun hh => hh h)]
    by_cases h2 : b = 0
    · rw [if_pos h2, h2]
    · rw [if_neg h2]
  · rw [if_neg h, if_pos h]
theorem erR_first (r : Rl) (es : List Int) : firstE [ckRl r, depE es] = erR r es := first_2 _ _
theorem erR_ok {r : Rl} {es : List Int} (h : erR r es = 0) : okRl r ∧ depE es = 0 := by
  unfold erR at h
  by_cases h1 : ckRl r ≠ 0
  · rw [if_pos h1] at h; exact absurd h h1
  · rw [if_neg h1] at h; exact ⟨ckRl_ok (Decidable.not_not.1 h1), h⟩
theorem dep1_ok {d : Int} (h : depE [d] = 0) : 0 ≤ d ∧ d ≤ 30000 := by
  rw [dep_1] at h
  split at h
  · assumption
  · exact absurd h (by decide)
def facE (r : Rl) (d : Int) : Int × Int := if erR r [d] ≠ 0 then (0, erR r [d]) else (facR r d, 0)
section
variable {r : Rl} {d a b : Int}
theorem facE_1 (h : erR r [d] ≠ 0) : facE r d = (0, erR r [d]) := if_pos h
theorem facE_2 (h : erR r [d] = 0) : facE r d = (facR r d, 0) := if_neg (fun hh => hh h)
end
section
variable {x : Asc} {d : Int}
end
/-! ### The limits of the statements -/
def lightP (x : Asc) : Prop :=
  ¬ (2 < x.ts.length ∧ x.ts.length ≤ 16 ∨ 18 < x.ts.length ∨ 18 < x.ls.length) ∧ ¬ (3 < x.gs.length ∧ x.gs.length ≤ 8 ∨ 10 < x.gs.length ∨ 1 < x.r.fi ∧ x.r.fi ≤ 6) ∧ (¬ (0 ≤ x.de ∧ x.de ≤ 30000) ∨ ¬ (1 ≤ x.r.gr ∧ x.r.gr ≤ 3000) ∨ x.de ≤ 12 * x.r.gr)
instance (x : Asc) : Decidable (lightP x) := by unfold lightP; infer_instance
theorem light_len {x : Asc} (h : lightP x) : x.ts.length ≤ 18 ∧ x.ls.length ≤ 18 ∧ x.gs.length ≤ 10 := by
  obtain ⟨h1, h2, _⟩ := h
  omega
def shortP (L : List Dl) (F : List Int) : Prop := (L.length ≤ 30 ∨ 400 < L.length ∧ L.length ≤ 402) ∧ F.length ≤ 402
instance (L : List Dl) (F : List Int) : Decidable (shortP L F) := by unfold shortP; infer_instance
/-! ### Stops -/
def bump (out : List (Int × Int)) (s : Int) : List (Int × Int) := match out.getLast? with
  | some p => out.dropLast ++ [(p.1, p.2 + s)]
  | none => out
def stpF : List Dl → Int → Bool → List (Int × Int) → List (Int × Int)
  | [], _, _, out => out
  | y :: t, d, st, out => if y.d = d then (if st = true then stpF t y.d true (bump out y.s) else stpF t y.d true (out ++ [(d, y.s)])) else stpF t y.d false out
def stpA (x : Asc) (L : List Dl) : List (Int × Int) := stpF L x.de false []
section
variable {L : List Dl} {k : Nat} {y : Dl} {d : Int} {st : Bool} {out : List (Int × Int)}
theorem stp_1 (h : L[k]? = some y) (h1 : y.d = d) : stpF (L.drop k) d true out = stpF (L.drop (k + 1)) y.d true (bump out y.s) := by rw [drop_cons h, stpF, if_pos h1, if_pos rfl]
theorem stp_2 (h : L[k]? = some y) (h1 : y.d = d) : stpF (L.drop k) d false out = stpF (L.drop (k + 1)) y.d true (out ++ [(d, y.s)]) := by rw [drop_cons h, stpF, if_pos h1, if_neg (by decide)]
theorem stp_3 (h : L[k]? = some y) (h1 : ¬ y.d = d) : stpF (L.drop k) d st out = stpF (L.drop (k + 1)) y.d false out := by rw [drop_cons h, stpF, if_neg h1]
theorem stp_4 (h : L.length ≤ k) : stpF (L.drop k) d st out = out := by rw [drop_all h, stpF]
end
end Go.Proofs.YthilaakeimfedaaGreatDoor
namespace Go.Proofs.YthilaakeimfedaaGreatDoor
section
variable {ts : List Cp} {ls : List Ld} {z : Lg} {fa : Int} {m : Nat}
theorem decF_fine : ∀ j, (decF ts ls z fa m j).1 ≠ 1 → keptT ts ls z fa (decF ts ls z fa m j).2.toNat = (decF ts ls z fa m j).1
  | 0, h => absurd rfl h
  | j + 1, h => by
    unfold decF at h ⊢
    by_cases hk : keptT ts ls z fa (m - j) ≠ 1
    · rw [if_pos hk]; rfl
    · rw [if_neg hk] at h ⊢; exact decF_fine j h
theorem decF_one : ∀ j, j ≤ m + 1 → (decF ts ls z fa m j).1 = 1 → ∀ k, m + 1 - j ≤ k → k ≤ m → keptT ts ls z fa k = 1
  | 0, _, _, k, h1, h2 => by omega
  | j + 1, hj, h, k, h1, h2 => by
    unfold decF at h
    by_cases hk : keptT ts ls z fa (m - j) ≠ 1
    · rw [if_pos hk] at h; exact absurd h hk
    · rw [if_neg hk] at h
      rcases Nat.lt_or_ge k (m + 1 - j) with h5 | h5
      · have e : k = m - j := by omega
        subst e
        exact Decidable.not_not.1 hk
      · exact decF_one j (by omega) h k h5 h2
end
section
variable {x : Asc} {y : Dl}
theorem dc_kept (h : (dcA x y).1 = 2) : keptT x.ts x.ls (lgA x y) (faA x) (dcA x y).2.toNat = 2 := by
  have e : dcA x y = decF x.ts x.ls (lgA x y) (faA x) (fnA x) (fnA x + 1) := rfl
  rw [e] at h ⊢
  have := decF_fine (ts := x.ts) (ls := x.ls) (z := lgA x y) (fa := faA x) (m := fnA x) (fnA x + 1) (by rw [h]; decide)
  rw [this, h]
theorem ris_0 {r : Rl} (h : okRl r) (a : Int) : risR r a a = 0 := by
  have := h.sp
  unfold risR upZ
  rw [Int.sub_self, Int.mul_zero]
  exact Int.ediv_eq_zero_of_lt (by omega) (by omega)
theorem ckAl_mk (h : okAl x y) (h2 : x.de ≤ (agAt x.gs y.g.toNat).d) (h3 : y.d ≤ x.de) (h4 : risR x.r x.de y.d ≤ y.s) : ckAl x y = 0 := by
  rw [al_3 ⟨h.s, h.d⟩ h.g, if_neg (by omega), if_neg (by omega), if_neg (by omega)]
theorem up_ck (H : okAsc x) {to : Int} (ht : 0 ≤ to ∧ to < x.de) (hg : ¬ gasA x x.de < 0) : ckAl x (upA x to (gasA x x.de)) = 0 := by
  have h1 := gasA_in x x.de
  exact ckAl_mk (up_ok H ht (by omega)) (bsA_dep x.gs x.de x.gs.length (show 0 ≤ gasA x x.de by omega)) (show to ≤ x.de by omega) (Int.le_refl _)
theorem sy_ck (H : okAsc x) (hg : ¬ gasA x x.de < 0) : ckAl x (gSy x) = 0 := by
  have h1 := gasA_in x x.de
  have h2 := H.r.st
  refine ckAl_mk (gSy_ok H hg) (bsA_dep x.gs x.de x.gs.length (show 0 ≤ gasA x x.de by omega)) (Int.le_refl _) ?_
  show risR x.r x.de x.de ≤ x.r.st
  rw [ris_0 H.r]
  omega
theorem gUp_ck (H : okAsc x) (hd : ¬ x.de = 0) (hg : ¬ gasA x x.de < 0) : ckAl x (gUp x) = 0 := by
  have := H.de
  exact up_ck H (nxt_in H.r (by omega)) hg
theorem chk_one (H : okAsc x) (h : ckAl x y = 0) (h2 : (dcA x y).1 = 2) (t : Int) (L : List Dl) (F : List Int) (k : Int) : chkF t x (y :: L) ((dcA x y).2 :: F) k = chkF t (bhA x y) L F (k + 1) := by
  have h3 := dc_in (y := y) H
  rw [chkF, if_neg (fun hh => hh h), if_neg (by omega), if_neg (fun hh => hh (dc_kept h2))]
theorem an_one (H : okAsc x) (h : okAl x y) : okAn y (dcA x y).2 := by
  have h1 := h.s; have h2 := h.d; have h3 := h.g; have h4 := dc_in (y := y) H; have h5 := H.r.fi; have h6 := H.g8
  exact ⟨h1, h2, by omega, by omega⟩
theorem gen_acc : ∀ (n : Nat) (x : Asc) (s : Int) (L : List Dl) (F : List Int) (S : List Dl × List Int), okAsc x → genN n x s L F = (S, 0) →
    ∃ A B, S = (L ++ A, F ++ B) ∧ B.length = A.length ∧ A.length ≤ n ∧ (∀ t k, chkF t x A B k = (t, 0)) ∧ all2 okAn A B
  | n, x, s, L, F, S, H, h => by
    by_cases hd : x.de = 0
    · rw [gen_0 hd] at h
      injection h with h _
      refine ⟨[], [], by simp [← h], rfl, Nat.zero_le _, fun t k => ?_, trivial⟩
      rw [chkF, if_neg (fun hh => hh hd)]
    match n, h with
    | 0, h =>
      rw [gen_8 hd] at h
      injection h with _ h
      exact absurd h (by decide)
    | n + 1, h =>
      by_cases hg : gasA x x.de < 0
      · rw [gen_14 hd (by omega) hg] at h
        injection h with _ h
        exact absurd h (by decide)
      by_cases h1 : (dcA x (gUp x)).1 = 2
      · rw [gen_up hd (by omega) hg h1, Nat.add_sub_cancel] at h
        obtain ⟨A, B, e, hl, hn, hc, ha⟩ := gen_acc n _ _ _ _ S (bh_ok H (gUp_ok H hd hg)) h
        refine ⟨gUp x :: A, (dcA x (gUp x)).2 :: B, by rw [e]; simp, by simp [hl], by simp; omega, fun t k => ?_, an_one H (gUp_ok H hd hg), ha⟩
        rw [chk_one H (gUp_ck H hd hg) h1]
        exact hc _ _
      by_cases hs : s = 60
      · rw [gen_12 hd (by omega) hg h1 hs] at h
        injection h with _ h
        exact absurd h (by decide)
      by_cases h2 : (dcA x (gSy x)).1 = 2
      · rw [gen_sy hd (by omega) hg h1 hs h2, Nat.add_sub_cancel] at h
        obtain ⟨A, B, e, hl, hn, hc, ha⟩ := gen_acc n _ _ _ _ S (bh_ok H (gSy_ok H hg)) h
        refine ⟨gSy x :: A, (dcA x (gSy x)).2 :: B, by rw [e]; simp, by simp [hl], by simp; omega, fun t k => ?_, an_one H (gSy_ok H hg), ha⟩
        rw [chk_one H (sy_ck H hg) h2]
        exact hc _ _
      · rw [gen_26 hd (by omega) hg h1 hs h2] at h
        injection h with _ h
        exact absurd h (by decide)
theorem gen_chk (H : okAsc x) (h : (genA x).2 = 0) : okSch (genA x).1.1 (genA x).1.2 ∧ chkA x (genA x).1.1 (genA x).1.2 = (smS (genA x).1.1 (genA x).1.1.length, 0) := by
  obtain ⟨A, B, e, hl, hn, hc, ha⟩ := gen_acc 400 x 0 [] [] (genA x).1 H (show genA x = ((genA x).1, 0) from Prod.ext rfl h)
  have e2 : (genA x).1 = (A, B) := by simpa using e
  rw [e2]
  have hs : okSch A B := ⟨hn, hl, ha⟩
  exact ⟨hs, by rw [chkA_2 hs.ck]; exact hc _ _⟩
end
/-! ### The tasks behind the legs -/
def behA (x : Asc) (L : List Dl) : Nat → Asc
  | 0 => x
  | k + 1 => bhA (behA x L k) (dlA L k)
theorem behA_s {x : Asc} {L : List Dl} {k : Nat} {y : Dl} (h : L[k]? = some y) : behA x L (k + 1) = bhA (behA x L k) y := by show bhA _ (dlA L k) = _; rw [dlA_get h]
theorem behA_cons {x : Asc} {y : Dl} {L : List Dl} : ∀ k, behA x (y :: L) (k + 1) = behA (bhA x y) L k
  | 0 => rfl
  | k + 1 => by
    show bhA (behA x (y :: L) (k + 1)) (dlA (y :: L) (k + 1)) = bhA (behA (bhA x y) L k) (dlA L k)
    rw [behA_cons k]
    rfl
theorem beh_same (x : Asc) (L : List Dl) : ∀ k, (behA x L k).ts = x.ts ∧ (behA x L k).su = x.su ∧ (behA x L k).gs = x.gs ∧ (behA x L k).r = x.r
  | 0 => ⟨rfl, rfl, rfl, rfl⟩
  | k + 1 => beh_same x L k
theorem gUp_bh {x : Asc} : gUp (bhA x (gSy x)) = gUp x := rfl
inductive Found : Asc → List Dl → Prop
  | nil {x : Asc} : x.de = 0 → Found x []
  | up {x : Asc} {A : List Dl} : okAsc x → ¬ x.de = 0 → ¬ gasA x x.de < 0 → (dcA x (gUp x)).1 = 2 → Found (bhA x (gUp x)) A → Found x (gUp x :: A)
  | sy {x : Asc} {A : List Dl} : okAsc x → ¬ x.de = 0 → ¬ gasA x x.de < 0 → ¬ (dcA x (gUp x)).1 = 2 → Found (bhA x (gSy x)) A → Found x (gSy x :: A)
theorem gen_found : ∀ (n : Nat) (x : Asc) (s : Int) (L : List Dl) (F : List Int) (S : List Dl × List Int), okAsc x → genN n x s L F = (S, 0) → ∃ A, S.1 = L ++ A ∧ Found x A
  | n, x, s, L, F, S, H, h => by
    by_cases hd : x.de = 0
    · rw [gen_0 hd] at h
      injection h with h _
      exact ⟨[], by simp [← h], .nil hd⟩
    match n, h with
    | 0, h =>
      rw [gen_8 hd] at h
      injection h with _ h
      exact absurd h (by decide)
    | n + 1, h =>
      by_cases hg : gasA x x.de < 0
      · rw [gen_14 hd (by omega) hg] at h
        injection h with _ h
        exact absurd h (by decide)
      by_cases h1 : (dcA x (gUp x)).1 = 2
      · rw [gen_up hd (by omega) hg h1, Nat.add_sub_cancel] at h
        obtain ⟨A, e, hf⟩ := gen_found n _ _ _ _ S (bh_ok H (gUp_ok H hd hg)) h
        exact ⟨gUp x :: A, by rw [e]; simp, .up H hd hg h1 hf⟩
      by_cases hs : s = 60
      · rw [gen_12 hd (by omega) hg h1 hs] at h
        injection h with _ h
        exact absurd h (by decide)
      by_cases h2 : (dcA x (gSy x)).1 = 2
      · rw [gen_sy hd (by omega) hg h1 hs h2, Nat.add_sub_cancel] at h
        obtain ⟨A, e, hf⟩ := gen_found n _ _ _ _ S (bh_ok H (gSy_ok H hg)) h
        exact ⟨gSy x :: A, by rw [e]; simp, .sy H hd hg h1 hf⟩
      · rw [gen_26 hd (by omega) hg h1 hs h2] at h
        injection h with _ h
        exact absurd h (by decide)
theorem found_of {x : Asc} (H : okAsc x) (h : (genA x).2 = 0) : Found x (genA x).1.1 := by
  obtain ⟨A, e, hf⟩ := gen_found 400 x 0 [] [] (genA x).1 H (show genA x = ((genA x).1, 0) from Prod.ext rfl h)
  rw [e]
  exact hf
theorem gUp_lt {x : Asc} (H : okAsc x) (hd : ¬ x.de = 0) : (gUp x).d < x.de := by
  have := H.de
  exact (nxt_in H.r (d := x.de) (by omega)).2
theorem no_fine {x : Asc} {y : Dl} (H : okAsc x) (hy : okAl x y) (h : ¬ (dcA x y).1 = 2) : ∀ f, f ≤ fnA x → keptT x.ts x.ls (lgA x y) (faA x) f ≠ 2 := by
  intro f hf h2
  have e6 := fnA_in H
  rcases dec_other (m := fnA x) (g := f) (tk_ok H hy) (by omega) (by omega) with h3 | h3 | h3
  · exact h (show (decT x.ts x.ls (lgA x y) (faA x) (fnA x)).1 = 2 by rw [← h3, h2])
  · rw [h2] at h3; exact absurd h3 (by decide)
  · have h4 := decF_one (ts := x.ts) (ls := x.ls) (z := lgA x y) (fa := faA x) (m := fnA x) (fnA x + 1) (Nat.le_refl _) h3 f (by omega) hf
    rw [h2] at h4
    exact absurd h4 (by decide)
theorem need {x : Asc} {A : List Dl} (h : Found x A) : ∀ {i : Nat} {y z : Dl}, A[i]? = some y → A[i + 1]? = some z → y.d = (behA x A i).de → ¬ z.d = (behA x A i).de → okAsc (behA x A i) ∧ ckAl (behA x A i) z = 0 ∧ ∀ f, f ≤ fnA x → keptT (behA x A i).ts (behA x A i).ls (lgA (behA x A i) z) (faA (behA x A i)) f ≠ 2 := by
  induction h with
  | nil hd => intro i y z h1; simp at h1
  | @up x A H hd hg h1 hf ih =>
    intro i y z h2 h3 h4 h5
    match i with
    | 0 =>
      have e : gUp x = y := by simpa using h2
      rw [← e] at h4
      have := gUp_lt H hd
      have h6 : (gUp x).d = x.de := h4
      omega
    | i + 1 =>
      rw [behA_cons] at h4 h5 ⊢
      exact ih (by simpa using h2) (by simpa using h3) h4 h5
  | @sy x A H hd hg h1 hf ih =>
    intro i y z h2 h3 h4 h5
    match i with
    | 0 =>
      have hz : z = gUp x := by
        cases hf with
        | nil hd2 => simp at h3
        | up _ _ _ _ _ => exact (by simpa using h3 : gUp (bhA x (gSy x)) = z).symm.trans gUp_bh
        | sy _ _ _ _ _ =>
          have e : gSy (bhA x (gSy x)) = z := by simpa using h3
          exact absurd (by rw [← e]; rfl) h5
      subst hz
      exact ⟨H, gUp_ck H hd hg, no_fine H (gUp_ok H hd hg) h1⟩
    | i + 1 =>
      rw [behA_cons] at h4 h5 ⊢
      exact ih (by simpa using h2) (by simpa using h3) h4 h5
end Go.Proofs.YthilaakeimfedaaGreatDoor
