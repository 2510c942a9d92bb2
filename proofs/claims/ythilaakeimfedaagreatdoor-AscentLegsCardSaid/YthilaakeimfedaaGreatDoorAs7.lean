/-
  The tasks behind the legs of a schedule, as lists in memory; what is given back by the functions that make such lists. Conditions: those in front of each theorem.
-/
import Derived.Test.YthilaakeimfedaaGreatDoorAs1
import Derived.Test.YthilaakeimfedaaGreatDoorTx1
import Derived.Test.YthilaakeimfedaaGreatDoorMod7
import Derived.Test.YthilaakeimfedaaGreatDoorMod8
namespace Go.Proofs.YthilaakeimfedaaGreatDoor
/-! ### Schedules -/
def dlA (L : List Dl) (k : Nat) : Dl := (L[k]?).getD ⟨0, 0, 0⟩
theorem dlA_get {L : List Dl} {k : Nat} {y : Dl} (h : L[k]? = some y) : dlA L k = y := by unfold dlA; rw [h]; rfl
def okAn (y : Dl) (f : Int) : Prop := (1 ≤ y.s ∧ y.s ≤ 100000) ∧ (0 ≤ y.d ∧ y.d ≤ 30000) ∧ (0 ≤ y.g ∧ y.g ≤ 8) ∧ 0 ≤ f ∧ f ≤ 6
instance (y : Dl) (f : Int) : Decidable (okAn y f) := by unfold okAn; infer_instance
def ckSch (L : List Dl) (F : List Int) : Int := if L.length > 400 then 8 else if F.length ≠ L.length then 10 else if all2 okAn L F then 0 else 2
section
variable {L : List Dl} {F : List Int} {k : Nat} {y : Dl} {f : Int}
theorem sch_8 (h : L.length > 400) : ckSch L F = 8 := if_pos h
theorem sch_10 (h : ¬ L.length > 400) (h2 : F.length ≠ L.length) : ckSch L F = 10 := by unfold ckSch; rw [if_neg h, if_pos h2]
theorem sch_2 (h : ¬ L.length > 400) (h2 : ¬ F.length ≠ L.length) (h3 : ¬ all2 okAn L F) : ckSch L F = 2 := by unfold ckSch; rw [if_neg h, if_neg h2, if_neg h3]
theorem sch_0 (h : ¬ L.length > 400) (h2 : ¬ F.length ≠ L.length) (h3 : all2 okAn L F) : ckSch L F = 0 := by unfold ckSch; rw [if_neg h, if_neg h2, if_pos h3]
structure okSch (L : List Dl) (F : List Int) : Prop where
  n : L.length ≤ 400
  l : F.length = L.length
  a : all2 okAn L F
theorem ckSch_ok (h : ckSch L F = 0) : okSch L F := by
  by_cases h1 : L.length > 400
  · rw [sch_8 h1] at h; exact absurd h (by decide)
  by_cases h2 : F.length ≠ L.length
  · rw [sch_10 h1 h2] at h; exact absurd h (by decide)
  by_cases h3 : all2 okAn L F
  · exact ⟨by omega, by omega, h3⟩
  · rw [sch_2 h1 h2 h3] at h; exact absurd h (by decide)
theorem okSch.ck (h : okSch L F) : ckSch L F = 0 := by
  have h1 := h.n; have h2 := h.l
  exact sch_0 (by omega) (by omega) h.a
/-- the seconds of the first legs -/
def smS (L : List Dl) : Nat → Int
  | 0 => 0
  | k + 1 => smS L k + (dlA L k).s
theorem smS_s (h : L[k]? = some y) : smS L k + y.s = smS L (k + 1) := by show _ = smS L k + (dlA L k).s; rw [dlA_get h]
def okSec (L : List Dl) : Prop := ∀ y ∈ L, 0 ≤ y.s ∧ y.s ≤ 100000
theorem smS_in (h : okSec L) : ∀ k, k ≤ L.length → 0 ≤ smS L k ∧ smS L k ≤ k * 100000
  | 0, _ => by show (0 : Int) ≤ 0 ∧ (0 : Int) ≤ ((0 : Nat) : Int) * 100000; omega
  | k + 1, hk => by
    obtain ⟨y, hy⟩ := get_some L (k := k) (by omega)
    have := h y (List.mem_of_getElem? hy)
    have := smS_in h k (by omega)
    rw [← smS_s hy]
    omega
theorem an_get : ∀ {L : List Dl} {F : List Int} {k : Nat} {y : Dl} {f : Int}, all2 okAn L F → L[k]? = some y → F[k]? = some f → okAn y f
  | [], _, _, _, _, _, h, _ => by simp at h
  | _ :: _, [], _, _, _, _, _, h => by simp at h
  | a :: L, b :: F, 0, y, f, h, h1, h2 => by
    simp at h1 h2
    subst h1 h2
    exact h.1
  | a :: L, b :: F, k + 1, y, f, h, h1, h2 => an_get h.2 (by simpa using h1) (by simpa using h2)
theorem sch_at (h : okSch L F) (hk : k < L.length) : ∃ y f, L[k]? = some y ∧ F[k]? = some f ∧ okAn y f := by
  have h2 := h.l
  obtain ⟨y, hy⟩ := get_some L hk
  obtain ⟨f, hf⟩ := get_some F (k := k) (by omega)
  exact ⟨y, f, hy, hf, an_get h.a hy hf⟩
theorem sch_sec (h : okSch L F) : okSec L := fun y hy => by
  obtain ⟨k, hk, e⟩ := List.mem_iff_getElem.1 hy
  obtain ⟨z, f, h1, _, h3⟩ := sch_at h hk
  rw [List.getElem?_eq_getElem hk, e] at h1
  obtain rfl := Option.some.inj h1
  have := h3.1
  omega
/-- whether a schedule is accepted: its seconds, or the number and the error -/
def chkF (t : Int) : Asc → List Dl → List Int → Int → Int × Int
  | x, y :: L, f :: F, k => if ckAl x y ≠ 0 then (k, ckAl x y) else if f > x.r.fi then (k, 2) else if keptT x.ts x.ls (lgA x y) (faA x) f.toNat ≠ 2 then (k, 22) else chkF t (bhA x y) L F (k + 1)
  | x, [], _, _ => if x.de ≠ 0 then (0, 25) else (t, 0)
  | x, _ :: _, [], _ => if x.de ≠ 0 then (0, 25) else (t, 0)
variable {x : Asc} {t j : Int}
theorem chk_1 (h : L[k]? = some y) (hf : F[k]? = some f) (h1 : ckAl x y ≠ 0) : chkF t x (L.drop k) (F.drop k) j = (j, ckAl x y) := by rw [drop_cons h, drop_cons hf]; exact if_pos h1
theorem chk_2 (h : L[k]? = some y) (hf : F[k]? = some f) (h1 : ¬ ckAl x y ≠ 0) (h2 : f > x.r.fi) : chkF t x (L.drop k) (F.drop k) j = (j, 2) := by rw [drop_cons h, drop_cons hf, chkF, if_neg h1, if_pos h2]
theorem chk_3 (h : L[k]? = some y) (hf : F[k]? = some f) (h1 : ¬ ckAl x y ≠ 0) (h2 : ¬ f > x.r.fi) (h3 : keptT x.ts x.ls (lgA x y) (faA x) f.toNat ≠ 2) : chkF t x (L.drop k) (F.drop k) j = (j, 22) := by rw [drop_cons h, drop_cons hf, chkF, if_neg h1, if_neg h2, if_pos h3]
theorem chk_4 (h : L[k]? = some y) (hf : F[k]? = some f) (h1 : ¬ ckAl x y ≠ 0) (h2 : ¬ f > x.r.fi) (h3 : ¬ keptT x.ts x.ls (lgA x y) (faA x) f.toNat ≠ 2) : chkF t x (L.drop k) (F.drop k) j = chkF t (bhA x y) (L.drop (k + 1)) (F.drop (k + 1)) (j + 1) := by rw [drop_cons h, drop_cons hf, chkF, if_neg h1, if_neg h2, if_neg h3]
theorem chk_5 (h : L.length ≤ k) : chkF t x (L.drop k) (F.drop k) j = if x.de ≠ 0 then (0, 25) else (t, 0) := by rw [drop_all h, chkF]
def chkA (x : Asc) (L : List Dl) (F : List Int) : Int × Int := if ckSch L F ≠ 0 then (0, ckSch L F) else chkF (smS L L.length) x L F 0
theorem chkA_1 (h : ckSch L F ≠ 0) : chkA x L F = (0, ckSch L F) := if_pos h
theorem chkA_2 (h : ckSch L F = 0) : chkA x L F = chkF (smS L L.length) x L F 0 := if_neg (fun hh => hh h)
theorem an_ok (h : ckAl x y = 0) : okAl x y := (ckAl_ok h).1
end
/-! ### How long one may stay -/
def nsF (g : Int) : Nat → Asc → Int → Int
  | 0, _, k => k
  | n + 1, x, k => if (dcA x (syA x g)).1 ≠ 2 then k else if (dirA (bhA x (syA x g))).1 ≠ 2 then k else nsF g n (bhA x (syA x g)) (k + 1)
def nsA (x : Asc) : Int × Int := if (dirA x).2 ≠ 0 then (0, (dirA x).2) else if (dirA x).1 ≠ 2 then (0, 12) else (nsF (gasA x x.de) 60 x 0 * x.r.st, 0)
section
variable {x : Asc} {g k : Int} {n : Nat}
theorem ns_1 (hn : 1 ≤ n) (h : (dcA x (syA x g)).1 ≠ 2) : nsF g n x k = k := by
  obtain ⟨m, rfl⟩ : ∃ m, n = m + 1 := ⟨n - 1, by omega⟩
  unfold nsF
  rw [if_pos h]
theorem ns_2 (hn : 1 ≤ n) (h : ¬ (dcA x (syA x g)).1 ≠ 2) (h2 : (dirA (bhA x (syA x g))).1 ≠ 2) : nsF g n x k = k := by
  obtain ⟨m, rfl⟩ : ∃ m, n = m + 1 := ⟨n - 1, by omega⟩
  unfold nsF
  rw [if_neg h, if_pos h2]
theorem ns_3 (hn : 1 ≤ n) (h : ¬ (dcA x (syA x g)).1 ≠ 2) (h2 : ¬ (dirA (bhA x (syA x g))).1 ≠ 2) : nsF g n x k = nsF g (n - 1) (bhA x (syA x g)) (k + 1) := by
  obtain ⟨m, rfl⟩ : ∃ m, n = m + 1 := ⟨n - 1, by omega⟩
  rw [Nat.add_sub_cancel]
  conv => lhs; unfold nsF
  rw [if_neg h, if_neg h2]
theorem nsA_1 (h : (dirA x).2 ≠ 0) : nsA x = (0, (dirA x).2) := if_pos h
theorem nsA_2 (h : (dirA x).2 = 0) (h2 : (dirA x).1 ≠ 2) : nsA x = (0, 12) := by unfold nsA; rw [if_neg (fun hh => hh h), if_pos h2]
theorem nsA_3 (h : (dirA x).2 = 0) (h2 : ¬ (dirA x).1 ≠ 2) : nsA x = (nsF (gasA x x.de) 60 x 0 * x.r.st, 0) := by unfold nsA; rw [if_neg (fun hh => hh h), if_neg h2]
theorem gas_top (H : okAsc x) (h : x.de = 0) : 0 ≤ gasA x x.de := by
  have h1 := H.g1
  have key : ∀ k, k ≤ x.gs.length → 1 ≤ k → 0 ≤ bsA x.gs x.de k := by
    intro k
    induction k with
    | zero => intro _ h; omega
    | succ k ih =>
      intro hk _
      have hb := bsA_in x.gs x.de k
      obtain ⟨a, ha⟩ := get_some x.gs (k := k) (by omega)
      have hd := (H.gg a (List.mem_of_getElem? ha)).2
      unfold bsA
      split
      · omega
      · rename_i h9
        rw [agAt_get ha] at h9
        rcases Nat.lt_or_ge k 1 with h8 | h8
        · obtain rfl : k = 0 := by omega
          exact absurd ⟨by omega, .inl (show (-1 : Int) < 0 by decide)⟩ h9
        · exact ih (by omega) h8
  exact key _ (Nat.le_refl _) h1
theorem dir_gas (H : okAsc x) (h : (dirA x).2 = 0) : ¬ gasA x x.de < 0 := by
  by_cases h1 : x.de = 0
  · have := gas_top H h1; omega
  · intro h2
    rw [dir_2 h1 h2] at h
    exact absurd h (by decide)
end
/-! ### The ends of plans, rests, changes -/
def zAsc : Asc := ⟨[], [], 0, 0, [], ⟨0, 0, 0, 0, 0, 0, 0⟩⟩
section
variable {x : Asc}
end
end Go.Proofs.YthilaakeimfedaaGreatDoor
namespace Go.Proofs.YthilaakeimfedaaGreatDoor
/-! ### Depths -/
def okD (n : Int) : Prop := 0 ≤ n ∧ n ≤ 30000
instance (n : Int) : Decidable (okD n) := by unfold okD; infer_instance
def ixD : List Int → Nat → Int
  | [], _ => -1
  | n :: t, k => if okD n then ixD t (k + 1) else k
section
variable {es : List Int} {k : Nat} {e : Int}
theorem ixD_yes (h : es[k]? = some e) (he : okD e) : ixD (es.drop k) k = ixD (es.drop (k + 1)) (k + 1) := by rw [drop_cons h]; exact if_pos he
theorem ixD_no (h : es[k]? = some e) (he : ¬ okD e) : ixD (es.drop k) k = k := by rw [drop_cons h]; exact if_neg he
theorem ixD_end (h : es.length ≤ k) : ixD (es.drop k) k = -1 := by rw [drop_all h]; rfl
end
def depE (es : List Int) : Int := if ixD es 0 ≥ 0 then 2 else 0
theorem dep_1 (d : Int) : depE [d] = if 0 ≤ d ∧ d ≤ 30000 then 0 else 2 := by
  by_cases h : okD d
  · have e : ixD [d] 0 = -1 := by unfold ixD; rw [if_pos h]; rfl
    unfold depE
    rw [e, if_neg (by decide)]
    exact (if_pos h).symm
  · have e : ixD [d] 0 = 0 := by unfold ixD; rw [if_neg h]; rfl
    unfold depE
    rw [e, if_pos (by decide)]
    exact (if_neg h).symm
theorem dep_2 (d e : Int) : depE [d, e] = if (0 ≤ d ∧ d ≤ 30000) ∧ (0 ≤ e ∧ e ≤ 30000) then 0 else 2 := by
  by_cases h : okD d
  · by_cases h2 : okD e
    · have e9 : ixD [d, e] 0 = -1 := by unfold ixD ixD; rw [if_pos h, if_pos h2]; rfl
      unfold depE
      rw [e9, if_neg (by decide), if_pos ⟨h, h2⟩]
    · have e9 : ixD [d, e] 0 = 1 := by unfold ixD ixD; rw [if_pos h, if_neg h2]; rfl
      unfold depE
      rw [e9, if_pos (by decide), if_neg (fun hh => h2 hh.2)]
  · have e9 : ixD [d, e] 0 = 0 := by unfold ixD; rw [if_neg h]; rfl
    unfold depE
    rw [e9, if_pos (by decide), if_neg (fun hh => h hh.1)]
/-! ### What is asked of rules -/
def erR (r : Rl) (es : List Int) : Int := if ckRl r ≠ 0 then ckRl r else depE es
theorem first_2 (a b : Int) : firstE [a, b] = if a ≠ 0 then a else b := by
  show (if a = 0 then (if b = 0 then 0 else b) else a) = if a ≠ 0 then a else b
  by_cases h : a = 0
  · rw [if_pos h, if_neg (show ¬ a ≠ 0 from fun hh => hh h)]
    by_cases h2 : b = 0
    · rw [if_pos h2, h2]
    · rw [if_neg h2]
  · rw [if_neg h, if_pos h]
theorem erR_first (r : Rl) (es : List Int) : firstE [ckRl r, depE es] = erR r es := first_2 _ _
theorem erR_ok {r : Rl} {es : List Int} (h : erR r es = 0) : okRl r ∧ depE es = 0 := by
  unfold erR at h
  by_cases h1 : ckRl r ≠ 0
  · rw [if_pos h1] at h; exact absurd h h1
  · rw [if_neg h1] at h; exact ⟨ckRl_ok (Decidable.not_not.1 h1), h⟩
theorem dep1_ok {d : Int} (h : depE [d] = 0) : 0 ≤ d ∧ d ≤ 30000 := by
  rw [dep_1] at h
  split at h
  · assumption
  · exact absurd h (by decide)
theorem dep2_ok {d e : Int} (h : depE [d, e] = 0) : (0 ≤ d ∧ d ≤ 30000) ∧ (0 ≤ e ∧ e ≤ 30000) := by
  rw [dep_2] at h
  split at h
  · assumption
  · exact absurd h (by decide)
def facE (r : Rl) (d : Int) : Int × Int := if erR r [d] ≠ 0 then (0, erR r [d]) else (facR r d, 0)
def risE (r : Rl) (a b : Int) : Int × Int := if erR r [a, b] ≠ 0 then (0, erR r [a, b]) else if b > a then (0, 9) else (risR r a b, 0)
def nxtE (r : Rl) (d : Int) : Int × Int := if erR r [d] ≠ 0 then (0, erR r [d]) else if d = 0 then (0, 12) else (nxtR r d, 0)
section
variable {r : Rl} {d a b : Int}
theorem facE_1 (h : erR r [d] ≠ 0) : facE r d = (0, erR r [d]) := if_pos h
theorem facE_2 (h : erR r [d] = 0) : facE r d = (facR r d, 0) := if_neg (fun hh => hh h)
theorem risE_1 (h : erR r [a, b] ≠ 0) : risE r a b = (0, erR r [a, b]) := if_pos h
theorem risE_2 (h : erR r [a, b] = 0) (h2 : b > a) : risE r a b = (0, 9) := by unfold risE; rw [if_neg (fun hh => hh h), if_pos h2]
theorem risE_3 (h : erR r [a, b] = 0) (h2 : ¬ b > a) : risE r a b = (risR r a b, 0) := by unfold risE; rw [if_neg (fun hh => hh h), if_neg h2]
theorem nxtE_1 (h : erR r [d] ≠ 0) : nxtE r d = (0, erR r [d]) := if_pos h
theorem nxtE_2 (h : erR r [d] = 0) (h2 : d = 0) : nxtE r d = (0, 12) := by unfold nxtE; rw [if_neg (fun hh => hh h), if_pos h2]
theorem nxtE_3 (h : erR r [d] = 0) (h2 : ¬ d = 0) : nxtE r d = (nxtR r d, 0) := by unfold nxtE; rw [if_neg (fun hh => hh h), if_neg h2]
end
/-- the number of the gas for a depth, or the error -/
def gasE (x : Asc) (d : Int) : Int × Int := if ckAsc x ≠ 0 then (0, ckAsc x) else if depE [d] ≠ 0 then (0, depE [d]) else if gasA x d ≥ 0 then (gasA x d, 0) else (0, 14)
section
variable {x : Asc} {d : Int}
theorem gasE_1 (h : ckAsc x ≠ 0) : gasE x d = (0, ckAsc x) := if_pos h
theorem gasE_2 (h : ckAsc x = 0) (h2 : depE [d] ≠ 0) : gasE x d = (0, depE [d]) := by unfold gasE; rw [if_neg (fun hh => hh h), if_pos h2]
theorem gasE_3 (h : ckAsc x = 0) (h2 : depE [d] = 0) (h3 : gasA x d ≥ 0) : gasE x d = (gasA x d, 0) := by unfold gasE; rw [if_neg (fun hh => hh h), if_neg (fun hh => hh h2), if_pos h3]
theorem gasE_4 (h : ckAsc x = 0) (h2 : depE [d] = 0) (h3 : ¬ gasA x d ≥ 0) : gasE x d = (0, 14) := by unfold gasE; rw [if_neg (fun hh => hh h), if_neg (fun hh => hh h2), if_neg h3]
end
/-! ### The limits of the statements -/
def lightP (x : Asc) : Prop :=
  ¬ (2 < x.ts.length ∧ x.ts.length ≤ 16 ∨ 18 < x.ts.length ∨ 18 < x.ls.length) ∧ ¬ (3 < x.gs.length ∧ x.gs.length ≤ 8 ∨ 10 < x.gs.length ∨ 1 < x.r.fi ∧ x.r.fi ≤ 6) ∧ (¬ (0 ≤ x.de ∧ x.de ≤ 30000) ∨ ¬ (1 ≤ x.r.gr ∧ x.r.gr ≤ 3000) ∨ x.de ≤ 12 * x.r.gr)
instance (x : Asc) : Decidable (lightP x) := by unfold lightP; infer_instance
theorem light_len {x : Asc} (h : lightP x) : x.ts.length ≤ 18 ∧ x.ls.length ≤ 18 ∧ x.gs.length ≤ 10 := by
  obtain ⟨h1, h2, _⟩ := h
  omega
def shortP (L : List Dl) (F : List Int) : Prop := (L.length ≤ 30 ∨ 400 < L.length ∧ L.length ≤ 402) ∧ F.length ≤ 402
instance (L : List Dl) (F : List Int) : Decidable (shortP L F) := by unfold shortP; infer_instance
/-! ### Stops -/
section
variable {L : List Dl} {k : Nat} {y : Dl} {d : Int} {st : Bool} {out : List (Int × Int)}
end
end Go.Proofs.YthilaakeimfedaaGreatDoor
namespace Go.Proofs.YthilaakeimfedaaGreatDoor
open Go.RowKit
def cAg (x : Ag) : List Value := [.int .i64 x.g.o, .int .i64 x.g.h, .int .i64 x.d]
def cRl (r : Rl) : List Value := [.int .i64 r.sp, .int .i64 r.gr, .int .i64 r.st, .int .i64 r.lo, .int .i64 r.hi, .int .i64 r.an, .int .i64 r.fi]
def cAt (v u w : Value) (x : Asc) : List Value := [v, u, .int .i64 x.su, .int .i64 x.de, w, .int .i64 x.r.sp, .int .i64 x.r.gr, .int .i64 x.r.st, .int .i64 x.r.lo, .int .i64 x.r.hi, .int .i64 x.r.an, .int .i64 x.r.fi]
theorem one_ag (l : List Ag) : ∀ c ∈ (l.map cAg).flatten, c.oneCell' = true := one_map cAg (fun _ _ h => by simp only [cAg, List.mem_cons, List.not_mem_nil, or_false] at h; rcases h with rfl | rfl | rfl <;> rfl) l
/-- a task of its own, with an error -/
def isTk (tc tl tg : TypeId) (X : Asc) (e : Int) (y : Value) (rs : List Res) : Prop := ∃ A1 n1 c1 A2 n2 c2 A3 n3 c3, y = .tuple #[.agg (cAt (.slice A1 n1 c1) (.slice A2 n2 c2) (.slice A3 n3 c3) X).toArray, .int .i64 e] ∧ rs = [sl (.slice A1 n1 c1) tc 4 (X.ts.map cCp), sl (.slice A2 n2 c2) tl 4 (X.ls.map cLd), sl (.slice A3 n3 c3) tg 3 (X.gs.map cAg)]
theorem isTk_sinks {tc tl tg : TypeId} {X : Asc} {e : Int} : ∀ y rs, isTk tc tl tg X e y rs → ∀ r ∈ rs, Sinks r := by
  rintro y rs ⟨A1, n1, c1, A2, n2, c2, A3, n3, c3, _, rfl⟩ r hr
  simp only [List.mem_cons, List.not_mem_nil, or_false] at hr
  rcases hr with rfl | rfl | rfl <;> exact sl_sinks _ _ _ _
theorem own3 {v u w : Value} {tc tl tg : TypeId} {a b d : List (List Value)} : ∀ r ∈ [sl v tc 4 a, sl u tl 4 b, sl w tg 3 d], r.own = true := by
  intro r hr
  simp only [List.mem_cons, List.not_mem_nil, or_false] at hr
  rcases hr with rfl | rfl | rfl <;> exact sl_own _ _ _ _
/-- a task of its own -/
def isTo (tc tl tg : TypeId) (X : Asc) (y : Value) (rs : List Res) : Prop := ∃ A1 n1 c1 A2 n2 c2 A3 n3 c3, y = .agg (cAt (.slice A1 n1 c1) (.slice A2 n2 c2) (.slice A3 n3 c3) X).toArray ∧ rs = [sl (.slice A1 n1 c1) tc 4 (X.ts.map cCp), sl (.slice A2 n2 c2) tl 4 (X.ls.map cLd), sl (.slice A3 n3 c3) tg 3 (X.gs.map cAg)]
theorem isTo_sinks {tc tl tg : TypeId} {X : Asc} : ∀ y rs, isTo tc tl tg X y rs → ∀ r ∈ rs, Sinks r := by
  rintro y rs ⟨A1, n1, c1, A2, n2, c2, A3, n3, c3, _, rfl⟩ r hr
  simp only [List.mem_cons, List.not_mem_nil, or_false] at hr
  rcases hr with rfl | rfl | rfl <;> exact sl_sinks _ _ _ _
/-- a task that shares its table and its gases -/
def isBh (tl : TypeId) (v w : Value) (X : Asc) (y : Value) (rs : List Res) : Prop := ∃ A n c, y = .agg (cAt v (.slice A n c) w X).toArray ∧ rs = [sl (.slice A n c) tl 4 (X.ls.map cLd)]
theorem isBh_sinks {tl : TypeId} {v w : Value} {X : Asc} : ∀ y rs, isBh tl v w X y rs → ∀ r ∈ rs, Sinks r := by
  rintro y rs ⟨A, n, c, _, rfl⟩ r hr
  simp only [List.mem_cons, List.not_mem_nil, or_false] at hr
  subst hr
  exact sl_sinks _ _ _ _
/-- a schedule of its own, with an error -/
def isSc (td ti : TypeId) (S : Sch) (y : Value) (rs : List Res) : Prop := ∃ A1 n1 c1 A2 n2 c2, y = .tuple #[.agg #[.slice A1 n1 c1, .slice A2 n2 c2], .int .i64 S.2] ∧ rs = [sl (.slice A1 n1 c1) td 3 (S.1.1.map cDl), sl (.slice A2 n2 c2) ti 1 (S.1.2.map cI)]
theorem isSc_sinks {td ti : TypeId} {S : Sch} : ∀ y rs, isSc td ti S y rs → ∀ r ∈ rs, Sinks r := by
  rintro y rs ⟨A1, n1, c1, A2, n2, c2, _, rfl⟩ r hr
  simp only [List.mem_cons, List.not_mem_nil, or_false] at hr
  rcases hr with rfl | rfl <;> exact sl_sinks _ _ _ _
theorem own2 {v u : Value} {tc tl : TypeId} {p q : Nat} {a b : List (List Value)} : ∀ r ∈ [sl v tc p a, sl u tl q b], r.own = true := by
  intro r hr
  simp only [List.mem_cons, List.not_mem_nil, or_false] at hr
  rcases hr with rfl | rfl <;> exact sl_own _ _ _ _
/-- a tissue task of its own -/
def isTt (tc tl : TypeId) (ts : List Cp) (ls : List Ld) (z : Lg) (fa : Int) (y : Value) (rs : List Res) : Prop := ∃ A1 n1 c1 A2 n2 c2, y = .agg (cDv (.slice A1 n1 c1) (.slice A2 n2 c2) z fa).toArray ∧ rs = [sl (.slice A1 n1 c1) tc 4 (ts.map cCp), sl (.slice A2 n2 c2) tl 4 (ls.map cLd)]
theorem isTt_sinks {tc tl : TypeId} {ts : List Cp} {ls : List Ld} {z : Lg} {fa : Int} : ∀ y rs, isTt tc tl ts ls z fa y rs → ∀ r ∈ rs, Sinks r := by
  rintro y rs ⟨A1, n1, c1, A2, n2, c2, _, rfl⟩ r hr
  simp only [List.mem_cons, List.not_mem_nil, or_false] at hr
  rcases hr with rfl | rfl <;> exact sl_sinks _ _ _ _
def isTe (tc tl : TypeId) (ts : List Cp) (ls : List Ld) (z : Lg) (fa e : Int) (y : Value) (rs : List Res) : Prop := ∃ A1 n1 c1 A2 n2 c2, y = .tuple #[.agg (cDv (.slice A1 n1 c1) (.slice A2 n2 c2) z fa).toArray, .int .i64 e] ∧ rs = [sl (.slice A1 n1 c1) tc 4 (ts.map cCp), sl (.slice A2 n2 c2) tl 4 (ls.map cLd)]
theorem isTe_sinks {tc tl : TypeId} {ts : List Cp} {ls : List Ld} {z : Lg} {fa e : Int} : ∀ y rs, isTe tc tl ts ls z fa e y rs → ∀ r ∈ rs, Sinks r := by
  rintro y rs ⟨A1, n1, c1, A2, n2, c2, _, rfl⟩ r hr
  simp only [List.mem_cons, List.not_mem_nil, or_false] at hr
  rcases hr with rfl | rfl <;> exact sl_sinks _ _ _ _
/-- a schedule of its own -/
def isSo (td ti : TypeId) (L : List Dl) (F : List Int) (y : Value) (rs : List Res) : Prop := ∃ A1 n1 c1 A2 n2 c2, y = .agg #[.slice A1 n1 c1, .slice A2 n2 c2] ∧ rs = [sl (.slice A1 n1 c1) td 3 (L.map cDl), sl (.slice A2 n2 c2) ti 1 (F.map cI)]
theorem isSo_sinks {td ti : TypeId} {L : List Dl} {F : List Int} : ∀ y rs, isSo td ti L F y rs → ∀ r ∈ rs, Sinks r := by
  rintro y rs ⟨A1, n1, c1, A2, n2, c2, _, rfl⟩ r hr
  simp only [List.mem_cons, List.not_mem_nil, or_false] at hr
  rcases hr with rfl | rfl <;> exact sl_sinks _ _ _ _
end Go.Proofs.YthilaakeimfedaaGreatDoor
namespace Go.Proofs.YthilaakeimfedaaGreatDoor

theorem mk_find {x : Lg} {n : Nat} (hx : okLg x) (hn : 1 ≤ n) {t : Int} (h0 : 0 ≤ t) (h1 : t ≤ x.s) : ∃ k : Nat, k < n ∧ (mkM x n k).s ≤ t ∧ t ≤ (mkM x n ((k : Int) + 1)).s := by
  have key : ∀ j : Nat, j ≤ n → (∃ k : Nat, k < n ∧ (mkM x n k).s ≤ t ∧ t ≤ (mkM x n ((k : Int) + 1)).s) ∨ (mkM x n j).s ≤ t := by
    intro j
    induction j with
    | zero =>
      intro _
      have e0 : (mkM x n ((0 : Nat) : Int)).s = 0 := by unfold mkM; simp
      exact .inr (by rw [e0]; exact h0)
    | succ j ih =>
      intro hj
      rcases ih (by omega) with h | h
      · exact .inl h
      · by_cases h2 : t ≤ (mkM x n ((j : Int) + 1)).s
        · exact .inl ⟨j, by omega, h, h2⟩
        · refine .inr ?_
          rw [show (((j + 1 : Nat) : Int)) = (j : Int) + 1 by omega]
          omega
  rcases key n (Nat.le_refl _) with h | h
  · exact h
  · rw [mk_end hn] at h
    have h3 := mk_mono hx hn (n - 1)
    have e : ((n - 1 : Nat) : Int) + 1 = (n : Int) := by omega
    rw [e, mk_end hn] at h3
    exact ⟨n - 1, by omega, by omega, by rw [e, mk_end hn]; exact h1⟩
end Go.Proofs.YthilaakeimfedaaGreatDoor
namespace Go.Proofs.YthilaakeimfedaaGreatDoor
section
variable {ts : List Cp} {ls : List Ld} {z : Lg} {fa : Int} {m : Nat}
theorem decF_fine : ∀ j, (decF ts ls z fa m j).1 ≠ 1 → keptT ts ls z fa (decF ts ls z fa m j).2.toNat = (decF ts ls z fa m j).1
  | 0, h => absurd rfl h
  | j + 1, h => by
    unfold decF at h ⊢
    by_cases hk : keptT ts ls z fa (m - j) ≠ 1
    · rw [if_pos hk]; rfl
    · rw [if_neg hk] at h ⊢; exact decF_fine j h
end
section
variable {x : Asc} {y : Dl}
theorem dc_kept (h : (dcA x y).1 = 2) : keptT x.ts x.ls (lgA x y) (faA x) (dcA x y).2.toNat = 2 := by
  have e : dcA x y = decF x.ts x.ls (lgA x y) (faA x) (fnA x) (fnA x + 1) := rfl
  rw [e] at h ⊢
  have := decF_fine (ts := x.ts) (ls := x.ls) (z := lgA x y) (fa := faA x) (m := fnA x) (fnA x + 1) (by rw [h]; decide)
  rw [this, h]
theorem ckAl_mk (h : okAl x y) (h2 : x.de ≤ (agAt x.gs y.g.toNat).d) (h3 : y.d ≤ x.de) (h4 : risR x.r x.de y.d ≤ y.s) : ckAl x y = 0 := by
  rw [al_3 ⟨h.s, h.d⟩ h.g, if_neg (by omega), if_neg (by omega), if_neg (by omega)]
theorem up_ck (H : okAsc x) {to : Int} (ht : 0 ≤ to ∧ to < x.de) (hg : ¬ gasA x x.de < 0) : ckAl x (upA x to (gasA x x.de)) = 0 := by
  have h1 := gasA_in x x.de
  exact ckAl_mk (up_ok H ht (by omega)) (bsA_dep x.gs x.de x.gs.length (show 0 ≤ gasA x x.de by omega)) (show to ≤ x.de by omega) (Int.le_refl _)
/-- the direct ascent, as a schedule of one leg -/
theorem one_sch (H : okAsc x) (h : okAl x y) {f : Nat} (hf : f ≤ 6) : okSch [y] [(f : Int)] := by
  have h1 := h.s; have h2 := h.d; have h3 := h.g; have h6 := H.g8
  exact ⟨by simp, rfl, ⟨h1, h2, by omega, by omega⟩, trivial⟩
theorem dir_chk (H : okAsc x) (h : ckAl x y = 0) (hd : y.d = 0) {f : Nat} (hf : f ≤ fnA x) : chkA x [y] [(f : Int)] = if keptT x.ts x.ls (lgA x y) (faA x) f ≠ 2 then (0, 22) else (y.s, 0) := by
  have e := fnA_in H
  rw [chkA_2 (one_sch H (an_ok h) (by omega)).ck, chkF, if_neg (fun hh => hh h), if_neg (by omega), Int.toNat_natCast]
  by_cases hk : keptT x.ts x.ls (lgA x y) (faA x) f ≠ 2
  · rw [if_pos hk, if_pos hk]
  · rw [if_neg hk, if_neg hk, chkF, if_neg (fun hh => hh (show (bhA x y).de = 0 from hd))]
    have : smS [y] [y].length = y.s := by show 0 + y.s = y.s; omega
    rw [this]
theorem dir_yes (H : okAsc x) (hd : ¬ x.de = 0) (h : (dirA x).1 = 2) : ¬ gasA x x.de < 0 ∧ ∃ f : Nat, f ≤ fnA x ∧ keptT x.ts x.ls (lgA x (upA x 0 (gasA x x.de))) (faA x) f = 2 := by
  by_cases hg : gasA x x.de < 0
  · rw [dir_2 hd hg] at h
    exact absurd h (by decide)
  · rw [dir_3 hd hg] at h
    have h1 := dc_in (y := upA x 0 (gasA x x.de)) H
    have h2 := fnA_in H
    refine ⟨hg, (dcA x (upA x 0 (gasA x x.de))).2.toNat, by omega, dc_kept h⟩
end
/-! ### The tasks behind the legs -/
/-- what the schedule that is found is, leg by leg -/
inductive Found : Asc → List Dl → Prop
  | nil {x : Asc} : x.de = 0 → Found x []
  | up {x : Asc} {A : List Dl} : okAsc x → ¬ x.de = 0 → ¬ gasA x x.de < 0 → (dcA x (gUp x)).1 = 2 → Found (bhA x (gUp x)) A → Found x (gUp x :: A)
  | sy {x : Asc} {A : List Dl} : okAsc x → ¬ x.de = 0 → ¬ gasA x x.de < 0 → ¬ (dcA x (gUp x)).1 = 2 → Found (bhA x (gSy x)) A → Found x (gSy x :: A)
end Go.Proofs.YthilaakeimfedaaGreatDoor
namespace Go.Proofs.YthilaakeimfedaaGreatDoor
open Go.RowKit
section
variable {x : Asc} {L : List Dl} {tc tl tg : TypeId}
end
/-! ### The error of the legs of a schedule -/
section
variable {x : Asc} {L : List Dl} {F : List Int} {k : Nat} {y : Dl}
end
/-! ### What functions give back -/
/-- the error that a schedule is told with -/
def csE (x : Asc) (L : List Dl) (F : List Int) : Int × Int := if ckAsc x ≠ 0 then (0, ckAsc x) else chkA x L F
theorem csE_1 {x : Asc} {L : List Dl} {F : List Int} (h : ckAsc x ≠ 0) : csE x L F = (0, ckAsc x) := if_pos h
theorem csE_2 {x : Asc} {L : List Dl} {F : List Int} (h : ckAsc x = 0) : csE x L F = chkA x L F := if_neg (fun hh => hh h)
/-- what is right of a task ahead of a leg -/
def alE (x : Asc) (y : Dl) : Int := if ckAsc x ≠ 0 then ckAsc x else ckAl x y
theorem alE_1 {x : Asc} {y : Dl} (h : ckAsc x ≠ 0) : alE x y = ckAsc x := if_pos h
theorem alE_2 {x : Asc} {y : Dl} (h : ckAsc x = 0) : alE x y = ckAl x y := if_neg (fun hh => hh h)
theorem alE_ok {x : Asc} {y : Dl} (h : alE x y = 0) : okAsc x ∧ ckAl x y = 0 := by
  by_cases h1 : ckAsc x ≠ 0
  · rw [alE_1 h1] at h; exact absurd h h1
  · have h2 := Decidable.not_not.1 h1
    rw [alE_2 h2] at h
    exact ⟨ckAsc_ok h2, h⟩
/-- a task that has been moved, or the error -/
def mvE (x : Asc) (y : Dl) : Asc := if alE x y ≠ 0 then zAsc else bhA x y
theorem ag_first (x : Ag) : firstE [ckGas x.g.o x.g.h, depE [x.d]] = ckAg x := by
  rw [first_2, dep_1]
  rfl
end Go.Proofs.YthilaakeimfedaaGreatDoor
