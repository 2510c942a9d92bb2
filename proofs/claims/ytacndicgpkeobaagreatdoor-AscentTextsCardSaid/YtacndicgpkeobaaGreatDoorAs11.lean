/-
  Reading the text of a schedule: what the reference and the program read, and that what is written is read back. Conditions: those in front of each theorem; no program in sight.
-/
import Derived.Test.YtacndicgpkeobaaGreatDoorArgB
import Derived.Test.YtacndicgpkeobaaGreatDoorR
import Derived.Test.YtacndicgpkeobaaGreatDoorMod2
import Derived.Lib.ItoaLen
import Derived.Test.YtacndicgpkeobaaGreatDoorAs3
import Derived.Test.YtacndicgpkeobaaGreatDoorRd
namespace Go.Proofs.YtacndicgpkeobaaGreatDoor
/-! ### Depths -/
def okD (n : Int) : Prop := 0 ≤ n ∧ n ≤ 30000
instance (n : Int) : Decidable (okD n) := by unfold okD; infer_instance
def ixD : List Int → Nat → Int
  | [], _ => -1
  | n :: t, k => if okD n then ixD t (k + 1) else k
section
variable {es : List Int} {k : Nat} {e : Int}
theorem ixD_yes (h : es[k]? = some e) (he : okD e) : ixD (es.drop k) k = ixD (es.drop (k + 1)) (k + 1) := by rw [drop_cons h]; exact if_pos he
theorem ixD_no (h : es[k]? = some e) (he : ¬ okD e) : ixD (es.drop k) k = k := by rw [drop_cons h]; exact if_neg he
theorem ixD_end (h : es.length ≤ k) : ixD (es.drop k) k = -1 := by rw [drop_all h]; rfl
end
def depE (es : List Int) : Int := if ixD es 0 ≥ 0 then 2 else 0
theorem dep_1 (d : Int) : depE [d] = if 0 ≤ d ∧ d ≤ 30000 then 0 else 2 := by
  by_cases h : okD d
  · have e : ixD [d] 0 = -1 := by unfold ixD; rw [if_pos h]; rfl
    unfold depE
    rw [e, if_neg (by decide)]
    exact (if_pos h).symm
  · have e : ixD [d] 0 = 0 := by unfold ixD; rw [if_neg h]; rfl
    unfold depE
    rw [e, if_pos (by decide)]
    exact (if_neg h).symm
/-! ### What is asked of rules -/
def erR (r : Rl) (es : List Int) : Int := if ckRl r ≠ 0 then ckRl r else depE es
theorem first_2 (a b : Int) : firstE [a, b] = if a ≠ 0 then a else b := by
  show (if a = 0 then (if b = 0 then 0 else b) else a) = if a ≠ 0 then a else b
  by_cases h : a = 0
  · rw [if_pos h, if_neg (show ¬ a ≠ 0 from fun hh => hh h)]
    by_cases h2 : b = 0
    · rw [if_pos h2, h2]
    · rw [if_neg h2]
  · rw [if_neg h, if_pos h]
theorem erR_first (r : Rl) (es : List Int) : firstE [ckRl r, depE es] = erR r es := first_2 _ _
theorem erR_ok {r : Rl} {es : List Int} (h : erR r es = 0) : okRl r ∧ depE es = 0 := by
  unfold erR at h
  by_cases h1 : ckRl r ≠ 0
  · rw [if_pos h1] at h; exact absurd h h1
  · rw [if_neg h1] at h; exact ⟨ckRl_ok (Decidable.not_not.1 h1), h⟩
theorem dep1_ok {d : Int} (h : depE [d] = 0) : 0 ≤ d ∧ d ≤ 30000 := by
  rw [dep_1] at h
  split at h
  · assumption
  · exact absurd h (by decide)
def facE (r : Rl) (d : Int) : Int × Int := if erR r [d] ≠ 0 then (0, erR r [d]) else (facR r d, 0)
section
variable {r : Rl} {d a b : Int}
theorem facE_1 (h : erR r [d] ≠ 0) : facE r d = (0, erR r [d]) := if_pos h
theorem facE_2 (h : erR r [d] = 0) : facE r d = (facR r d, 0) := if_neg (fun hh => hh h)
end
section
variable {x : Asc} {d : Int}
end
/-! ### The limits of the statements -/
def lightP (x : Asc) : Prop :=
  ¬ (2 < x.ts.length ∧ x.ts.length ≤ 16 ∨ 18 < x.ts.length ∨ 18 < x.ls.length) ∧ ¬ (3 < x.gs.length ∧ x.gs.length ≤ 8 ∨ 10 < x.gs.length ∨ 1 < x.r.fi ∧ x.r.fi ≤ 6) ∧ (¬ (0 ≤ x.de ∧ x.de ≤ 30000) ∨ ¬ (1 ≤ x.r.gr ∧ x.r.gr ≤ 3000) ∨ x.de ≤ 12 * x.r.gr)
instance (x : Asc) : Decidable (lightP x) := by unfold lightP; infer_instance
def shortP (L : List Dl) (F : List Int) : Prop := (L.length ≤ 30 ∨ 400 < L.length ∧ L.length ≤ 402) ∧ F.length ≤ 402
instance (L : List Dl) (F : List Int) : Decidable (shortP L F) := by unfold shortP; infer_instance
/-! ### Stops -/
section
variable {L : List Dl} {k : Nat} {y : Dl} {d : Int} {st : Bool} {out : List (Int × Int)}
end
end Go.Proofs.YtacndicgpkeobaaGreatDoor
namespace Go.Proofs.YtacndicgpkeobaaGreatDoor

end Go.Proofs.YtacndicgpkeobaaGreatDoor
namespace Go.Proofs.YtacndicgpkeobaaGreatDoor
section
variable {ts : List Cp} {ls : List Ld} {z : Lg} {fa : Int} {m : Nat}
end
section
variable {x : Asc} {y : Dl}
end
/-! ### The tasks behind the legs -/
inductive Found : Asc → List Dl → Prop
  | nil {x : Asc} : x.de = 0 → Found x []
  | up {x : Asc} {A : List Dl} : okAsc x → ¬ x.de = 0 → ¬ gasA x x.de < 0 → (dcA x (gUp x)).1 = 2 → Found (bhA x (gUp x)) A → Found x (gUp x :: A)
  | sy {x : Asc} {A : List Dl} : okAsc x → ¬ x.de = 0 → ¬ gasA x x.de < 0 → ¬ (dcA x (gUp x)).1 = 2 → Found (bhA x (gSy x)) A → Found x (gSy x :: A)
end Go.Proofs.YtacndicgpkeobaaGreatDoor
namespace Go.Proofs.YtacndicgpkeobaaGreatDoor
open Go.RowKit
section
variable {x : Asc} {L : List Dl} {tc tl tg : TypeId}
end
/-! ### The error of the legs of a schedule -/
section
variable {x : Asc} {L : List Dl} {F : List Int} {k : Nat} {y : Dl}
end
/-! ### What functions give back -/
theorem ag_first (x : Ag) : firstE [ckGas x.g.o x.g.h, depE [x.d]] = ckAg x := by
  rw [first_2, dep_1]
  rfl
end Go.Proofs.YtacndicgpkeobaaGreatDoor
namespace Go.Proofs.YtacndicgpkeobaaGreatDoor
open Go.RowKit
theorem fac_quo {r : Rl} (h : okRl r) {d : Int} (hd : 0 ≤ d ∧ d ≤ 30000) (h6 : ¬ d ≥ r.an) : 0 ≤ ((r.hi - r.lo) * d + r.an - 1) / r.an ∧ ((r.hi - r.lo) * d + r.an - 1) / r.an ≤ 1000 := by
  have h1 := h.lo; have h2 := h.hi; have h3 := h.le; have h4 := h.an
  have h5 := fac_prod h hd
  have h7 : 0 ≤ ((r.hi - r.lo) * d + r.an - 1) / r.an := Int.ediv_nonneg (by omega) (by omega)
  refine ⟨h7, ?_⟩
  have h9 : (r.hi - r.lo) * d ≤ (r.hi - r.lo) * r.an := Int.mul_le_mul_of_nonneg_left (by omega) (by omega)
  have : ((r.hi - r.lo) * d + r.an - 1) / r.an < r.hi - r.lo + 1 := Int.ediv_lt_of_lt_mul (by omega) (by rw [Int.add_mul, Int.one_mul]; omega)
  omega
section
variable {l : List Ag} {k : Nat} {a : Ag} {d : Int}
theorem bsA_y (h : l[k]? = some a) (h1 : d ≤ a.d ∧ (bsA l d k < 0 ∨ a.g.o > (agAt l (bsA l d k).toNat).g.o)) : (k : Int) = bsA l d (k + 1) := by
  rw [← agAt_get h] at h1
  exact (if_pos h1).symm
theorem bsA_n (h : l[k]? = some a) (h1 : ¬ (d ≤ a.d ∧ (bsA l d k < 0 ∨ a.g.o > (agAt l (bsA l d k).toNat).g.o))) : bsA l d k = bsA l d (k + 1) := by
  rw [← agAt_get h] at h1
  exact (if_neg h1).symm
theorem ag_cell {i : Int} (h0 : 0 ≤ i) (h1 : i < l.length) : (l.map cAg)[i.toNat]? = some (cAg (agAt l i.toNat)) := by
  obtain ⟨a, ha⟩ := get_some l (k := i.toNat) (by omega)
  rw [agAt_get ha]
  exact map_get cAg ha
end
def opA (x : Asc) : Asc := if ckAsc x ≠ 0 then zAsc else x
theorem opA_1 {x : Asc} (h : ckAsc x ≠ 0) : opA x = zAsc := if_pos h
theorem opA_2 {x : Asc} (h : ckAsc x = 0) : opA x = x := if_neg (fun hh => hh h)
theorem oneAg (l : List Ag) : ∀ c ∈ (l.map cAg).flatten, c.oneCell' = true := one_ag l
theorem cI_flat : ∀ l : List Int, ∀ c ∈ (l.map cI).flatten, c.oneCell' = true := one_map cI (fun a c hc => by
  simp only [cI, List.mem_cons, List.not_mem_nil, or_false] at hc
  subst hc
  rfl)
theorem kept_su {x : Asc} (H : okAsc x) : keptE x.ts x.ls x.su x.r.hi = (keptM x.ts x.ls x.su x.r.hi, 0) := by
  have h1 := H.su; have h2 := H.r.hi
  exact keptE_3 (fun hh => hh (ckLoads_mk H.k)) ⟨by unfold okPr; omega, h2⟩
def drE (x : Asc) : Int × Int := if ckAsc x ≠ 0 then (0, ckAsc x) else dirA x
theorem drE_1 {x : Asc} (h : ckAsc x ≠ 0) : drE x = (0, ckAsc x) := if_pos h
theorem drE_2 {x : Asc} (h : ckAsc x = 0) : drE x = dirA x := if_neg (fun hh => hh h)
theorem dir_up {x : Asc} (H : okAsc x) (hd : ¬ x.de = 0) (hg : ¬ gasA x x.de < 0) : okAl x (upA x 0 (gasA x x.de)) := by
  have h1 := gasA_in x x.de; have h2 := H.de
  exact up_ok H (by omega) (by omega)
theorem beh_len {x : Asc} (H : okAsc x) : x.ts.length ≤ 16 ∧ x.ls.length = x.ts.length ∧ x.gs.length ≤ 8 := ⟨H.k.b, H.k.len, H.g8⟩
theorem dl_snoc (L : List Dl) (y : Dl) : L.map cDl ++ [cDl y] = (L ++ [y]).map cDl := by rw [List.map_append]; rfl
theorem ci_snoc (F : List Int) (f : Int) : F.map cI ++ [[Value.int .i64 f]] = (F ++ [f]).map cI := by rw [List.map_append]; rfl
def gnE (x : Asc) : Sch := if ckAsc x ≠ 0 then (([], []), ckAsc x) else genA x
theorem gnE_1 {x : Asc} (h : ckAsc x ≠ 0) : gnE x = (([], []), ckAsc x) := if_pos h
theorem gnE_2 {x : Asc} (h : ckAsc x = 0) : gnE x = genA x := if_neg (fun hh => hh h)
def nsE (x : Asc) : Int × Int := if ckAsc x ≠ 0 then (0, ckAsc x) else nsA x
theorem nsE_1 {x : Asc} (h : ckAsc x ≠ 0) : nsE x = (0, ckAsc x) := if_pos h
theorem nsE_2 {x : Asc} (h : ckAsc x = 0) : nsE x = nsA x := if_neg (fun hh => hh h)
end Go.Proofs.YtacndicgpkeobaaGreatDoor
namespace Go.Proofs.YtacndicgpkeobaaGreatDoor
open Go.RowKit
def nuA (y : Dl) (f : Int) : Nat → Int
  | 0 => y.s
  | 1 => y.d
  | 2 => y.g
  | _ => f
def cNum (y : Dl) (f : Int) : List Value := [.int .i64 y.s, .int .i64 y.d, .int .i64 y.g, .int .i64 f]
theorem num_cell (y : Dl) (f : Int) {j : Nat} (h : j < 4) : (cNum y f)[(j : Int).toNat * 1]? = some (.int .i64 (nuA y f j)) := by
  match j, h with
  | 0, _ => rfl
  | 1, _ => rfl
  | 2, _ => rfl
  | 3, _ => rfl
def ptJ (y : Dl) (f : Int) : Nat → Tx
  | 0 => [108, 101, 103]
  | j + 1 => ptJ y f j ++ ([32] ++ Lib.itoa (nuA y f j))
def lnT (y : Dl) (f : Int) : Tx := ptJ y f 4 ++ [10]
def fiA (F : List Int) (k : Nat) : Int := (F[k]?).getD 0
theorem fiA_get {F : List Int} {k : Nat} {f : Int} (h : F[k]? = some f) : fiA F k = f := by unfold fiA; rw [h]; rfl
def prK (L : List Dl) (F : List Int) : Nat → Tx
  | 0 => []
  | k + 1 => prK L F k ++ lnT (dlA L k) (fiA F k)
def prT (L : List Dl) (F : List Int) : Tx := prK L F L.length
def prE (L : List Dl) (F : List Int) : Tx := if ckSch L F ≠ 0 then [] else prT L F
theorem prE_1 {L : List Dl} {F : List Int} (h : ckSch L F ≠ 0) : prE L F = [] := if_pos h
theorem prE_2 {L : List Dl} {F : List Int} (h : ckSch L F = 0) : prE L F = prT L F := if_neg (fun hh => hh h)
theorem prK_s {L : List Dl} {F : List Int} {k : Nat} {y : Dl} {f : Int} (h : L[k]? = some y) (h2 : F[k]? = some f) : prK L F k ++ ptJ y f 4 ++ [10] = prK L F (k + 1) := by
  rw [prK, dlA_get h, fiA_get h2, lnT, List.append_assoc]
theorem ptJ_s (t : Tx) (y : Dl) (f : Int) (j : Nat) : t ++ ptJ y f j ++ ([32] ++ Lib.itoa (nuA y f j)) = t ++ ptJ y f (j + 1) := by rw [List.append_assoc]; rfl
theorem num_in {y : Dl} {f : Int} (h : okAn y f) (j : Nat) : -9223372036854775808 ≤ nuA y f j ∧ nuA y f j ≤ 9223372036854775807 := by
  obtain ⟨h1, h2, h3, h4⟩ := h
  match j with
  | 0 => show _ ≤ y.s ∧ y.s ≤ _; omega
  | 1 => show _ ≤ y.d ∧ y.d ≤ _; omega
  | 2 => show _ ≤ y.g ∧ y.g ≤ _; omega
  | j + 3 => show _ ≤ f ∧ f ≤ _; omega
theorem num_len {y : Dl} {f : Int} (h : okAn y f) (j : Nat) : (Lib.itoa (nuA y f j)).length ≤ 21 := Lib.itoa_length_le _ (num_in h j).1 (num_in h j).2
theorem ptJ_len {y : Dl} {f : Int} (h : okAn y f) : ∀ j, (ptJ y f j).length ≤ 3 + 22 * j
  | 0 => Nat.le_refl _
  | j + 1 => by
    have h1 := ptJ_len h j
    have h2 := num_len h j
    rw [ptJ, List.length_append, List.length_append, List.length_singleton]
    omega
theorem prK_len {L : List Dl} {F : List Int} (h : okSch L F) : ∀ k, k ≤ L.length → (prK L F k).length ≤ 92 * k
  | 0, _ => Nat.le_refl _
  | k + 1, hk => by
    obtain ⟨y, f, h1, h2, h3⟩ := sch_at h (k := k) (by omega)
    have h4 := prK_len h k (by omega)
    have h5 := ptJ_len h3 4
    rw [← prK_s h1 h2, List.length_append, List.length_append, List.length_singleton]
    omega
theorem k_st {k : Nat} {s : Int} (hk : k ≤ 60) (hs : 1 ≤ s ∧ s ≤ 3600) : 0 ≤ (k : Int) * s ∧ (k : Int) * s ≤ 216000 := by
  have h1 : (k : Int) * s ≤ 60 * s := Int.mul_le_mul_of_nonneg_right (by omega) (by omega)
  have h2 : 0 ≤ (k : Int) * s := Int.mul_nonneg (by omega) (by omega)
  omega
theorem sy_eq {X x : Asc} {g : Int} (h1 : X.de = x.de) (h2 : X.r = x.r) : syA X g = syA x g := by unfold syA; rw [h1, h2]
end Go.Proofs.YtacndicgpkeobaaGreatDoor
namespace Go.Proofs.YtacndicgpkeobaaGreatDoor
open Go.RowKit
theorem ex_ck1 : ckAsc (exA (ldA 2400000 2400000) 1000) = 0 := by decide
theorem ex_ck2 : ckAsc (exA (ldA 2000000 2000000) 1000) = 0 := by decide
theorem ex_ck3 : ckAsc (exA (ldA 740230 740230) 1000) = 0 := by decide
abbrev exL : List Dl := [⟨60, 500, 0⟩, ⟨600, 500, 0⟩, ⟨60, 0, 0⟩]
abbrev exF : List Int := [0, 0, 0]
theorem sc_ex : ckSch exL exF = 0 := sch_0 (by decide) (by decide) (by unfold all2 all2 all2 all2 okAn; decide)
abbrev exT : Tx := [108, 101, 103, 32, 54, 48, 32, 53, 48, 48, 32, 48, 32, 48, 10, 108, 101, 103, 32, 54, 48, 48, 32, 53, 48, 48, 32, 48, 32, 48, 10, 108, 101, 103, 32, 54, 48, 32, 48, 32, 48, 32, 48, 10]
theorem it_0 : Lib.itoa 0 = [48] := by kernel_rfl
theorem it_60 : Lib.itoa 60 = [54, 48] := by kernel_rfl
theorem it_600 : Lib.itoa 600 = [54, 48, 48] := by kernel_rfl
theorem it_500 : Lib.itoa 500 = [53, 48, 48] := by kernel_rfl
theorem ln_1 : lnT ⟨60, 500, 0⟩ 0 = [108, 101, 103, 32, 54, 48, 32, 53, 48, 48, 32, 48, 32, 48, 10] := by
  show ([108, 101, 103] ++ ([32] ++ Lib.itoa 60) ++ ([32] ++ Lib.itoa 500) ++ ([32] ++ Lib.itoa 0) ++ ([32] ++ Lib.itoa 0)) ++ [10] = _
  rw [it_0, it_60, it_500]
  rfl
theorem ln_2 : lnT ⟨600, 500, 0⟩ 0 = [108, 101, 103, 32, 54, 48, 48, 32, 53, 48, 48, 32, 48, 32, 48, 10] := by
  show ([108, 101, 103] ++ ([32] ++ Lib.itoa 600) ++ ([32] ++ Lib.itoa 500) ++ ([32] ++ Lib.itoa 0) ++ ([32] ++ Lib.itoa 0)) ++ [10] = _
  rw [it_0, it_600, it_500]
  rfl
theorem ln_3 : lnT ⟨60, 0, 0⟩ 0 = [108, 101, 103, 32, 54, 48, 32, 48, 32, 48, 32, 48, 10] := by
  show ([108, 101, 103] ++ ([32] ++ Lib.itoa 60) ++ ([32] ++ Lib.itoa 0) ++ ([32] ++ Lib.itoa 0) ++ ([32] ++ Lib.itoa 0)) ++ [10] = _
  rw [it_0, it_60]
  rfl
theorem pr_ex : prE exL exF = exT := by
  rw [prE_2 sc_ex]
  show ([] ++ lnT ⟨60, 500, 0⟩ 0) ++ lnT ⟨600, 500, 0⟩ 0 ++ lnT ⟨60, 0, 0⟩ 0 = _
  rw [ln_1, ln_2, ln_3]
  rfl
theorem fa_ex : facE ⟨500, 500, 60, 300, 800, 1000, 0⟩ 333 = (633, 0) := by decide
end Go.Proofs.YtacndicgpkeobaaGreatDoor
namespace Go.Proofs.YtacndicgpkeobaaGreatDoor
open Go.RowKit
section
variable {r : Rl} {a b : Int}
end
end Go.Proofs.YtacndicgpkeobaaGreatDoor
namespace Go.Proofs.YtacndicgpkeobaaGreatDoor
open Go.RowKit
abbrev tLeg : Tx := [108, 101, 103]
def lnR (p : Tx) : Option (Dl × Int) := match cutF 32 [] p with
  | [a, b, c, d, e] => if a = tLeg then (match numM b 7, numM c 7, numM d 7, numM e 7 with
    | some n1, some n2, some n3, some n4 => some (⟨n1, n2, n3⟩, n4)
    | _, _, _, _ => none) else none
  | _ => none
abbrev Prs := (List Dl × List Int) × Int × Int
def parF : List Tx → List Dl → List Int → Int → Prs
  | [], L, F, _ => ((L, F), 0, 0)
  | [p], L, F, i => if p = [] then ((L, F), 0, 0) else (([], []), i + 1, 7)
  | p :: q :: t, L, F, i => match lnR p with
    | some z => parF (q :: t) (L ++ [z.1]) (F ++ [z.2]) (i + 1)
    | none => (([], []), i + 1, 7)
def parA (t : Tx) : Prs :=
  if t.length > 60000 then (([], []), 0, 8) else
  if (parF (cutF 10 [] t) [] [] 0).2.2 ≠ 0 then parF (cutF 10 [] t) [] [] 0 else
  if ckSch (parF (cutF 10 [] t) [] [] 0).1.1 (parF (cutF 10 [] t) [] [] 0).1.2 ≠ 0 then (([], []), 0, ckSch (parF (cutF 10 [] t) [] [] 0).1.1 (parF (cutF 10 [] t) [] [] 0).1.2) else parF (cutF 10 [] t) [] [] 0
/-! ### What is written is read back -/
theorem dec_ne {n : Nat} {m : UInt8} (hm : m.toNat < 48) : ∀ c ∈ Lib.decDigits n, c ≠ m := fun c hc e => by
  have := (digs_all n).1 c hc
  subst e
  omega
theorem nat_itoa {v : Int} (h : 0 ≤ v) : Lib.itoa v = Lib.decDigits v.toNat := by
  obtain ⟨m, rfl⟩ := Int.eq_ofNat_of_zero_le h
  exact itoa_n m
theorem num_seven {v : Int} (h : 0 ≤ v ∧ v ≤ 100000) : numM (Lib.itoa v) 7 = some v := by
  refine (itoa_num (d := 7) (by decide) ?_).1
  have h1 : (Lib.decDigits v.toNat).length ≤ 7 := digs_len (d := 7) (by omega) (by decide)
  rw [nat_itoa h.1]
  unfold Lib.trimPrefix
  split
  · rw [List.length_drop]; omega
  · exact h1
theorem ptJ_4 (y : Dl) (f : Int) : ptJ y f 4 = tLeg ++ 32 :: (Lib.itoa y.s ++ 32 :: (Lib.itoa y.d ++ 32 :: (Lib.itoa y.g ++ 32 :: Lib.itoa f))) := by
  show ((([108, 101, 103] ++ ([32] ++ Lib.itoa y.s)) ++ ([32] ++ Lib.itoa y.d)) ++ ([32] ++ Lib.itoa y.g)) ++ ([32] ++ Lib.itoa f) = _
  simp only [List.append_assoc, List.cons_append, List.nil_append]
theorem ln_cut {y : Dl} {f : Int} (h : okAn y f) : cutF 32 [] (ptJ y f 4) = [tLeg, Lib.itoa y.s, Lib.itoa y.d, Lib.itoa y.g, Lib.itoa f] := by
  obtain ⟨h1, h2, h3, h4⟩ := h
  have k : ∀ v : Int, 0 ≤ v → ∀ c ∈ Lib.itoa v, c ≠ 32 := fun v hv => by
    rw [nat_itoa hv]
    exact dec_ne (by decide)
  rw [ptJ_4, cutF_at (by decide), cutF_at (k _ (by omega)), cutF_at (k _ (by omega)), cutF_at (k _ (by omega)), cutF_no (k _ (by omega))]
  rfl
theorem ln_no {y : Dl} {f : Int} (h : okAn y f) : ∀ c ∈ ptJ y f 4, c ≠ 10 := by
  obtain ⟨h1, h2, h3, h4⟩ := h
  have k : ∀ v : Int, 0 ≤ v → ∀ c ∈ Lib.itoa v, c ≠ 10 := fun v hv => by
    rw [nat_itoa hv]
    exact dec_ne (by decide)
  rw [ptJ_4]
  intro c hc
  simp only [List.mem_append, List.mem_cons] at hc
  rcases hc with hc | rfl | hc | rfl | hc | rfl | hc | rfl | hc
  · rcases hc with rfl | rfl | rfl | hc
    · decide
    · decide
    · decide
    · cases hc
  · decide
  · exact k _ (by omega) c hc
  · decide
  · exact k _ (by omega) c hc
  · decide
  · exact k _ (by omega) c hc
  · decide
  · exact k _ (by omega) c hc
theorem ln_read {y : Dl} {f : Int} (h : okAn y f) : lnR (ptJ y f 4) = some (y, f) := by
  have h9 := h
  obtain ⟨h1, h2, h3, h4⟩ := h
  unfold lnR
  rw [ln_cut h9]
  dsimp only
  rw [if_pos rfl, num_seven (by omega), num_seven (by omega), num_seven (by omega), num_seven (by omega)]
theorem prK_cons {y : Dl} {f : Int} {L : List Dl} {F : List Int} : ∀ k, prK (y :: L) (f :: F) (k + 1) = lnT y f ++ prK L F k
  | 0 => by
    show [] ++ lnT y f = lnT y f ++ []
    rw [List.nil_append, List.append_nil]
  | k + 1 => by
    show prK (y :: L) (f :: F) (k + 1) ++ lnT (dlA (y :: L) (k + 1)) (fiA (f :: F) (k + 1)) = lnT y f ++ (prK L F k ++ lnT (dlA L k) (fiA F k))
    rw [prK_cons k, List.append_assoc]
    rfl
theorem par_pr : ∀ {L : List Dl} {F : List Int} {A : List Dl} {B : List Int} {i : Int}, F.length = L.length → all2 okAn L F → parF (cutF 10 [] (prK L F L.length)) A B i = ((A ++ L, B ++ F), 0, 0)
  | [], [], A, B, i, _, _ => by
    show parF [[]] A B i = _
    rw [parF, if_pos rfl, List.append_nil, List.append_nil]
  | [], _ :: _, _, _, _, hl, _ => by simp at hl
  | _ :: _, [], _, _, _, hl, _ => by simp at hl
  | y :: L, f :: F, A, B, i, hl, h => by
    have hl2 : F.length = L.length := by simpa using hl
    have e : cutF 10 [] (prK (y :: L) (f :: F) (y :: L).length) = ptJ y f 4 :: cutF 10 [] (prK L F L.length) := by
      rw [List.length_cons, prK_cons]
      unfold lnT
      rw [List.append_assoc]
      show cutF 10 [] (ptJ y f 4 ++ 10 :: prK L F L.length) = _
      rw [cutF_at (ln_no h.1), List.nil_append]
    obtain ⟨q, t, hq⟩ : ∃ q t, cutF 10 [] (prK L F L.length) = q :: t := by
      cases hc : cutF 10 [] (prK L F L.length) with
      | nil =>
        have := cutF_ne1 10 (prK L F L.length) []
        rw [hc] at this
        simp at this
      | cons q t => exact ⟨q, t, rfl⟩
    rw [e, hq, parF, ln_read h.1]
    dsimp only
    rw [← hq, par_pr hl2 h.2, List.append_assoc, List.append_assoc]
    rfl
where
  cutF_ne1 (m : UInt8) : ∀ (l cur : Tx), 1 ≤ (cutF m cur l).length
    | [], cur => by unfold cutF; exact Nat.le_refl _
    | c :: r, cur => by
      unfold cutF
      split
      · rw [List.length_cons]; omega
      · exact cutF_ne1 m r _
theorem par_back {L : List Dl} {F : List Int} (h : ckSch L F = 0) (hl : (prT L F).length ≤ 60000) : parA (prT L F) = ((L, F), 0, 0) := by
  have hS := ckSch_ok h
  have e : parF (cutF 10 [] (prT L F)) [] [] 0 = ((L, F), 0, 0) := by
    unfold prT
    rw [par_pr hS.l hS.a]
    rfl
  unfold parA
  rw [if_neg (by omega), e, if_neg (fun hh => hh rfl), if_neg (fun hh => hh h)]
end Go.Proofs.YtacndicgpkeobaaGreatDoor
