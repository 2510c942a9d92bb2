/-
  Plain models of chapter 1: the texts of gases, and how a text is read. Conditions: none; no program in sight.
-/
import Derived.Test.YtibohfipgjljhaaDoorKT
import Derived.Test.YtibohfipgjljhaaDoorTx1
namespace Go.Proofs.YtibohfipgjljhaaDoor
/-! ### Names -/
def nDg (n : Int) : Tx := Lib.itoa n
def tAir : Tx := [97, 105, 114]
def tOxy : Tx := [111, 120, 121, 103, 101, 110]
def tHel : Tx := [104, 101, 108, 105, 117, 109]
def nmL (g : Gs) : Tx :=
  if g.o = 210 ∧ g.h = 0 then tAir else if g.o = 1000 ∧ g.h = 0 then tOxy else if g.o = 0 ∧ g.h = 1000 then tHel else
  if g.h = 0 ∧ g.o % 10 = 0 then 110 :: 120 :: nDg (g.o / 10) else
  if g.h % 10 = 0 ∧ g.o % 10 = 0 then 116 :: 120 :: (nDg (g.o / 10) ++ 47 :: nDg (g.h / 10)) else
  103 :: 97 :: 115 :: (nDg g.o ++ 47 :: nDg g.h)
theorem nDg_ok {n : Int} (h : 0 ≤ n ∧ n ≤ 1000) : ∃ k : Nat, n = k ∧ dgP k (nDg n) := by
  obtain ⟨k, rfl⟩ := Int.eq_ofNat_of_zero_le h.1
  refine ⟨k, rfl, ?_⟩
  have e : nDg (k : Int) = Lib.decDigits k := by unfold nDg Lib.itoa; rw [if_neg (by omega)]; rfl
  rw [e]
  exact dg_ok (by omega)
/-! ### Reading, as the program does -/
def rdB (b : Tx) : Tx := if b = [] then [48] else b
def rdN (u : Int) (r : Tx) : Option Gs := match Lib.atoiAll (cut1 47 r).1, Lib.atoiAll (rdB (cut1 47 r).2) with
  | .ok n, .ok m => if (0 ≤ n ∧ n ≤ 1000) ∧ 0 ≤ m ∧ m ≤ 1000 then some ⟨n * u, m * u⟩ else none
  | _, _ => none
def rdS (l : Tx) : Option Gs :=
  if l = tAir then some ⟨210, 0⟩ else if l = tHel then some ⟨0, 1000⟩ else if l = tOxy then some ⟨1000, 0⟩ else
  if Lib.hasPrefix l [110, 120] = true then rdN 10 (l.drop 2) else if Lib.hasPrefix l [116, 120] = true then rdN 10 (l.drop 2) else if Lib.hasPrefix l [103, 97, 115] = true then rdN 1 (l.drop 3) else none
/-- what a text is read as: a gas, or none -/
def prS (l : Tx) : Gs × Int := match rdS l with
  | some g => if ckGas g.o g.h = 0 ∧ nmL g = l then (g, 0) else (⟨0, 0⟩, 7)
  | none => (⟨0, 0⟩, 7)
/-! ### Reading, as the document does -/
def rfN (u : Int) (w : List Tx) : Option Gs := match w with
  | [a] => match numM a 4 with
    | some n => some ⟨u * n, 0⟩
    | none => none
  | [a, b] => match numM a 4, numM b 4 with
    | some n, some m => some ⟨u * n, u * m⟩
    | _, _ => none
  | _ => none
def rfS (l : Tx) : Option Gs :=
  if l = tAir then some ⟨210, 0⟩ else if l = tOxy then some ⟨1000, 0⟩ else if l = tHel then some ⟨0, 1000⟩ else
  if l.length > 3 ∧ l.take 3 = [103, 97, 115] then rfN 1 (cutF 47 [] (l.drop 3)) else
  if l.length < 3 ∨ (l.take 2 ≠ [110, 120] ∧ l.take 2 ≠ [116, 120]) then none else rfN 10 (cutF 47 [] (l.drop 2))
/-! ### What is written is read again -/
theorem rd_one {u : Int} {n : Nat} {d : Tx} (h : dgP n d) (hn : n ≤ 1000) : rdN u d = some ⟨n * u, 0⟩ := by
  have e0 : Lib.atoiAll [48] = .ok 0 := by decide
  unfold rdN rdB
  rw [cut1_no (dg_47 h.dg)]
  dsimp only
  rw [if_pos rfl, h.at_, e0]
  dsimp only
  rw [if_pos (by omega), Int.zero_mul]
theorem rd_two {u : Int} {n m : Nat} {d b : Tx} (h : dgP n d) (hb : dgP m b) (hn : n ≤ 1000) (hm : m ≤ 1000) : rdN u (d ++ 47 :: b) = some ⟨n * u, m * u⟩ := by
  have hne : ¬ b = [] := fun e => by have := hb.ne; rw [e] at this; exact absurd this (by decide)
  unfold rdN rdB
  rw [cut1_at (dg_47 h.dg)]
  dsimp only
  rw [if_neg hne, h.at_, hb.at_]
  dsimp only
  rw [if_pos (by omega)]
theorem rf_one {u : Int} {n : Nat} {d : Tx} (h : dgP n d) : rfN u (cutF 47 [] d) = some ⟨u * n, 0⟩ := by
  rw [cutF_no (dg_47 h.dg), List.nil_append]
  unfold rfN
  dsimp only
  rw [h.nu]
theorem rf_two {u : Int} {n m : Nat} {d b : Tx} (h : dgP n d) (hb : dgP m b) : rfN u (cutF 47 [] (d ++ 47 :: b)) = some ⟨u * n, u * m⟩ := by
  rw [cutF_at (dg_47 h.dg), cutF_no (dg_47 hb.dg), List.nil_append, List.nil_append]
  unfold rfN
  dsimp only
  rw [h.nu, hb.nu]
theorem nm_read {g : Gs} (hg : ckGas g.o g.h = 0) : rdS (nmL g) = some g ∧ rfS (nmL g) = some g := by
  have hk := ckGas_ok hg
  obtain ⟨o, h⟩ := g
  dsimp only at hk
  unfold nmL
  dsimp only
  by_cases h1 : o = 210 ∧ h = 0
  · rw [if_pos h1]; obtain ⟨rfl, rfl⟩ := h1; exact ⟨if_pos rfl, if_pos rfl⟩
  rw [if_neg h1]
  by_cases h2 : o = 1000 ∧ h = 0
  · rw [if_pos h2]; obtain ⟨rfl, rfl⟩ := h2; exact ⟨by unfold rdS; rw [if_neg (by decide), if_neg (by decide), if_pos rfl], by unfold rfS; rw [if_neg (by decide), if_pos rfl]⟩
  rw [if_neg h2]
  by_cases h3 : o = 0 ∧ h = 1000
  · rw [if_pos h3]; obtain ⟨rfl, rfl⟩ := h3; exact ⟨by unfold rdS; rw [if_neg (by decide), if_pos rfl], by unfold rfS; rw [if_neg (by decide), if_neg (by decide), if_pos rfl]⟩
  rw [if_neg h3]
  by_cases h4 : h = 0 ∧ o % 10 = 0
  · rw [if_pos h4]
    obtain ⟨k, hk1, hd⟩ := nDg_ok (n := o / 10) (by omega)
    generalize nDg (o / 10) = d at hd
    have hne := hd.ne
    have e1 : (⟨(k : Int) * 10, 0⟩ : Gs) = ⟨o, h⟩ := by rw [← hk1, h4.1, show o / 10 * 10 = o by omega]
    have e2 : (⟨10 * (k : Int), 0⟩ : Gs) = ⟨o, h⟩ := by rw [Int.mul_comm]; exact e1
    constructor
    · unfold rdS
      rw [if_neg (by unfold tAir; simp), if_neg (by unfold tHel; simp), if_neg (by unfold tOxy; simp), if_pos (by rfl)]
      show rdN 10 d = _
      rw [rd_one hd (by omega), e1]
    · unfold rfS
      rw [if_neg (by unfold tAir; simp), if_neg (by unfold tOxy; simp), if_neg (by unfold tHel; simp), if_neg (by simp), if_neg (by simp; omega)]
      show rfN 10 (cutF 47 [] d) = _
      rw [rf_one hd, e2]
  rw [if_neg h4]
  by_cases h5 : h % 10 = 0 ∧ o % 10 = 0
  · rw [if_pos h5]
    obtain ⟨k, hk1, hd⟩ := nDg_ok (n := o / 10) (by omega)
    obtain ⟨j, hj1, hb⟩ := nDg_ok (n := h / 10) (by omega)
    generalize nDg (o / 10) = d at hd
    generalize nDg (h / 10) = b at hb
    have hne := hd.ne
    have e1 : (⟨(k : Int) * 10, (j : Int) * 10⟩ : Gs) = ⟨o, h⟩ := by rw [← hk1, ← hj1, show o / 10 * 10 = o by omega, show h / 10 * 10 = h by omega]
    have e2 : (⟨10 * (k : Int), 10 * (j : Int)⟩ : Gs) = ⟨o, h⟩ := by rw [Int.mul_comm, Int.mul_comm 10]; exact e1
    constructor
    · unfold rdS
      rw [if_neg (by unfold tAir; simp), if_neg (by unfold tHel; simp), if_neg (by unfold tOxy; simp), if_neg (by simp [Lib.hasPrefix]), if_pos (by rfl)]
      show rdN 10 (d ++ 47 :: b) = _
      rw [rd_two hd hb (by omega) (by omega), e1]
    · unfold rfS
      rw [if_neg (by unfold tAir; simp), if_neg (by unfold tOxy; simp), if_neg (by unfold tHel; simp), if_neg (by simp), if_neg (by simp; omega)]
      show rfN 10 (cutF 47 [] (d ++ 47 :: b)) = _
      rw [rf_two hd hb, e2]
  rw [if_neg h5]
  obtain ⟨k, rfl, hd⟩ := nDg_ok (n := o) (by omega)
  obtain ⟨j, rfl, hb⟩ := nDg_ok (n := h) (by omega)
  generalize nDg (k : Int) = d at hd
  generalize nDg (j : Int) = b at hb
  have hne := hd.ne
  constructor
  · unfold rdS
    rw [if_neg (by unfold tAir; simp), if_neg (by unfold tHel; simp), if_neg (by unfold tOxy; simp), if_neg (by simp [Lib.hasPrefix]), if_neg (by simp [Lib.hasPrefix]), if_pos (by rfl)]
    show rdN 1 (d ++ 47 :: b) = _
    rw [rd_two hd hb (by omega) (by omega), Int.mul_one, Int.mul_one]
  · unfold rfS
    rw [if_neg (by unfold tAir; simp), if_neg (by unfold tOxy; simp), if_neg (by unfold tHel; simp), if_pos ⟨by simp; omega, rfl⟩]
    show rfN 1 (cutF 47 [] (d ++ 47 :: b)) = _
    rw [rf_two hd hb, Int.one_mul, Int.one_mul]
theorem pr_name {g : Gs} (hg : ckGas g.o g.h = 0) : prS (nmL g) = (g, 0) := by
  unfold prS
  rw [(nm_read hg).1]
  dsimp only
  rw [if_pos ⟨hg, rfl⟩]
theorem pr_ref (l : Tx) : prS l = match rfS l with
    | some g => if ckGas g.o g.h = 0 ∧ nmL g = l then (g, 0) else (⟨0, 0⟩, 7)
    | none => (⟨0, 0⟩, 7) := by
  by_cases h : ∃ g : Gs, ckGas g.o g.h = 0 ∧ nmL g = l
  · obtain ⟨g, hg, rfl⟩ := h
    rw [pr_name hg, (nm_read hg).2]
    dsimp only
    rw [if_pos ⟨hg, rfl⟩]
  · have h1 : ∀ o : Option Gs, (match o with
        | some g => if ckGas g.o g.h = 0 ∧ nmL g = l then (g, 0) else ((⟨0, 0⟩, 7) : Gs × Int)
        | none => (⟨0, 0⟩, 7)) = (⟨0, 0⟩, 7) := by
      intro o
      cases o with
      | none => rfl
      | some g => exact if_neg (fun hh => h ⟨g, hh⟩)
    unfold prS
    rw [h1, h1]
end Go.Proofs.YtibohfipgjljhaaDoor
