/-
  Plain models of chapter 3: roots, decays, steps, legs. Conditions: none; no program in sight.
-/
import Derived.Test.YtacndicgpkeobaaGreatDoorShBld
import Derived.Lib.ItoaNum
import Derived.Lib.AtoiAllCases
import Derived.Lib.Strings
namespace Go.Proofs.YtacndicgpkeobaaGreatDoor

def upZ (n b : Int) : Int := (n + b - 1) / b
def firstE : List Int → Int
  | [] => 0
  | e :: t => if e = 0 then firstE t else e
def ckGas (o h : Int) : Int := if ¬ (0 ≤ o ∧ o ≤ 1000 ∧ 0 ≤ h ∧ h ≤ 1000) then 2 else if o + h > 1000 then 23 else 0
structure Cp where
  n : Int
  h : Int
  b : Int
  s : Int
structure Rg where
  lo : Int
  hi : Int
structure Ld where
  n : Rg
  h : Rg
structure Gs where
  o : Int
  h : Int
structure Lg where
  f : Int
  t : Int
  s : Int
  g : Gs
def okCp (c : Cp) : Prop := 1 ≤ c.n ∧ c.n ≤ 100000 ∧ 1 ≤ c.h ∧ c.h ≤ 100000 ∧ 0 ≤ c.b ∧ c.b ≤ 10000 ∧ 1000 ≤ c.s ∧ c.s ≤ 10000
instance (c : Cp) : Decidable (okCp c) := by unfold okCp; infer_instance
def ckCps : List Cp → Int
  | [] => 0
  | c :: t => if okCp c then ckCps t else 2
def ckTab (ts : List Cp) : Int := if 1 ≤ ts.length ∧ ts.length ≤ 16 then ckCps ts else 10
def ckSpan (r : Rg) : Int := if 0 ≤ r.lo ∧ r.lo ≤ 100000000 ∧ 0 ≤ r.hi ∧ r.hi ≤ 100000000 then 0 else 2
def ckLd (l : Ld) : Int := if ckSpan l.n ≠ 0 ∨ ckSpan l.h ≠ 0 then 2 else if l.n.lo > l.n.hi ∨ l.h.lo > l.h.hi then 9 else 0
def ckLds : List Ld → Int
  | [] => 0
  | l :: t => if ckLd l ≠ 0 then ckLd l else ckLds t
def ckLoads (ts : List Cp) (ls : List Ld) : Int := if ckTab ts ≠ 0 then ckTab ts else if ls.length ≠ ts.length then 10 else ckLds ls
def okPr (p : Int) : Prop := 400 ≤ p ∧ p ≤ 31100
instance (p : Int) : Decidable (okPr p) := by unfold okPr; infer_instance
def ckLeg (x : Lg) : Int := if ¬ (okPr x.f ∧ okPr x.t ∧ 0 ≤ x.s ∧ x.s ≤ 100000) then 2 else if ckGas x.g.o x.g.h ≠ 0 then ckGas x.g.o x.g.h else if x.s = 0 ∧ x.f ≠ x.t then 11 else 0

/-! ### Square roots -/
def sqrN : Nat → Nat
  | 0 => 0
  | n + 1 => if (sqrN n + 1) * (sqrN n + 1) ≤ n + 1 then sqrN n + 1 else sqrN n
theorem sqrN_spec : ∀ n, sqrN n * sqrN n ≤ n ∧ n < (sqrN n + 1) * (sqrN n + 1)
  | 0 => by simp [sqrN]
  | n + 1 => by
    obtain ⟨h1, h2⟩ := sqrN_spec n
    simp only [sqrN]
    by_cases h : (sqrN n + 1) * (sqrN n + 1) ≤ n + 1
    · rw [if_pos h]
      refine ⟨h, ?_⟩
      have : (sqrN n + 1 + 1) * (sqrN n + 1 + 1) = (sqrN n + 1) * (sqrN n + 1) + 2 * (sqrN n + 1) + 1 := by
        simp only [Nat.add_mul, Nat.mul_add]; omega
      omega
    · rw [if_neg h]
      omega
theorem sqrN_uniq {n r : Nat} (h1 : r * r ≤ n) (h2 : n < (r + 1) * (r + 1)) : r = sqrN n := by
  obtain ⟨h3, h4⟩ := sqrN_spec n
  rcases Nat.lt_trichotomy r (sqrN n) with h | h | h
  · have : (r + 1) * (r + 1) ≤ sqrN n * sqrN n := Nat.mul_le_mul h h
    omega
  · exact h
  · have : (sqrN n + 1) * (sqrN n + 1) ≤ r * r := Nat.mul_le_mul h h
    omega
def sqrZ (n : Int) : Int := sqrN n.toNat
theorem sqrZ_uniq {n r : Int} (h0 : 0 ≤ r) (h1 : r * r ≤ n) (h2 : n < (r + 1) * (r + 1)) : r = sqrZ n := by
  obtain ⟨k, rfl⟩ := Int.eq_ofNat_of_zero_le h0
  have hn : 0 ≤ n := Int.le_trans (Int.mul_nonneg h0 h0) h1
  obtain ⟨m, rfl⟩ := Int.eq_ofNat_of_zero_le hn
  unfold sqrZ
  rw [Int.toNat_natCast]
  congr 1
  refine sqrN_uniq ?_ ?_
  · exact_mod_cast h1
  · exact_mod_cast h2
theorem sqrZ_spec {n : Int} (hn : 0 ≤ n) : 0 ≤ sqrZ n ∧ sqrZ n * sqrZ n ≤ n ∧ n < (sqrZ n + 1) * (sqrZ n + 1) := by
  obtain ⟨m, rfl⟩ := Int.eq_ofNat_of_zero_le hn
  unfold sqrZ
  rw [Int.toNat_natCast]
  obtain ⟨h1, h2⟩ := sqrN_spec m
  refine ⟨Int.natCast_nonneg _, ?_, ?_⟩
  · exact_mod_cast h1
  · exact_mod_cast h2

/-! ### Lists -/
theorem drop_cons {α : Type} {l : List α} {k : Nat} {x : α} (h : l[k]? = some x) : l.drop k = x :: l.drop (k + 1) := by
  obtain ⟨hk, hx⟩ := List.getElem?_eq_some_iff.1 h
  rw [List.drop_eq_getElem_cons hk, hx]
theorem get_some {α : Type} (l : List α) {k : Nat} (h : k < l.length) : ∃ x, l[k]? = some x := ⟨l[k], List.getElem?_eq_getElem h⟩
theorem map_get {α β : Type} (f : α → β) {l : List α} {k : Nat} {x : α} (h : l[k]? = some x) : (l.map f)[k]? = some (f x) := by rw [List.getElem?_map, h]; rfl
theorem drop_all {α : Type} {l : List α} {k : Nat} (h : l.length ≤ k) : l.drop k = [] := List.drop_eq_nil_of_le h
theorem firstE_step {es : List Int} {k : Nat} {e : Int} (h : es[k]? = some e) : firstE (es.drop k) = if e = 0 then firstE (es.drop (k + 1)) else e := by rw [drop_cons h]; rfl
theorem ckCps_step {ts : List Cp} {k : Nat} {c : Cp} (h : ts[k]? = some c) : ckCps (ts.drop k) = if okCp c then ckCps (ts.drop (k + 1)) else 2 := by rw [drop_cons h]; rfl
theorem ckLds_step {ls : List Ld} {k : Nat} {l : Ld} (h : ls[k]? = some l) : ckLds (ls.drop k) = if ckLd l ≠ 0 then ckLd l else ckLds (ls.drop (k + 1)) := by rw [drop_cons h]; rfl

/-! ### Closing lemmas -/
theorem ckGas_e (o h : Int) : firstE [if 0 ≤ o ∧ o ≤ 1000 then 0 else 2, if 0 ≤ h ∧ h ≤ 1000 then 0 else 2] = if 0 ≤ o ∧ o ≤ 1000 ∧ 0 ≤ h ∧ h ≤ 1000 then 0 else 2 := by
  simp only [firstE]
  (repeat' split) <;> omega
theorem ckGas_a {o h : Int} (hc : firstE [if 0 ≤ o ∧ o ≤ 1000 then 0 else 2, if 0 ≤ h ∧ h ≤ 1000 then 0 else 2] ≠ 0) : firstE [if 0 ≤ o ∧ o ≤ 1000 then 0 else 2, if 0 ≤ h ∧ h ≤ 1000 then 0 else 2] = ckGas o h := by
  rw [ckGas_e] at hc ⊢
  unfold ckGas
  split at hc
  · omega
  · rename_i hn; rw [if_neg hn, if_pos hn]
theorem ckGas_b {o h : Int} (hc : ¬ firstE [if 0 ≤ o ∧ o ≤ 1000 then 0 else 2, if 0 ≤ h ∧ h ≤ 1000 then 0 else 2] ≠ 0) : ckGas o h = if 1000 < o + h then 23 else 0 := by
  rw [ckGas_e] at hc
  unfold ckGas
  split at hc
  · rename_i hp; rw [if_neg (by omega)]
  · omega
theorem ckGas_c {o h : Int} (hc : ¬ firstE [if 0 ≤ o ∧ o ≤ 1000 then 0 else 2, if 0 ≤ h ∧ h ≤ 1000 then 0 else 2] ≠ 0) : 0 ≤ o ∧ o ≤ 1000 ∧ 0 ≤ h ∧ h ≤ 1000 := by
  rw [ckGas_e] at hc
  split at hc
  · assumption
  · omega
end Go.Proofs.YtacndicgpkeobaaGreatDoor
namespace Go.Proofs.YtacndicgpkeobaaGreatDoor
open Go.RowKit
abbrev Tx := List UInt8
/-! ### Numerals of at most four digits -/
def numF : Tx → Int → Option Int
  | [], n => some n
  | c :: r, n => if c.toNat < 48 ∨ c.toNat > 57 then none else numF r (10 * n + ((c.toNat : Int) - 48))
def numA (l : Tx) : Nat := if l.head?.map (·.toNat) = some 45 then 1 else 0
def numM (l : Tx) (d : Nat) : Option Int :=
  if l.length = numA l ∨ l.length - numA l > d ∨ ((l.drop (numA l)).head?.map (·.toNat) = some 48 ∧ l.length > 1) then none
  else (numF (l.drop (numA l)) 0).map fun n => if numA l = 1 then -n else n
def isD (c : UInt8) : Bool := decide (48 ≤ c.toNat ∧ c.toNat ≤ 57)
structure dgP (n : Nat) (l : Tx) : Prop where
  at_ : Lib.atoiAll l = .ok (n : Int)
  nu : numM l 4 = some (n : Int)
  dg : ∀ c ∈ l, isD c = true
  le : l.length ≤ 4
  ne : 1 ≤ l.length
/-! ### Cutting -/
def cutF (m : UInt8) : Tx → Tx → List Tx
  | cur, [] => [cur]
  | cur, c :: r => if c = m then cur :: cutF m [] r else cutF m (cur ++ [c]) r
theorem cutF_no {m : UInt8} : ∀ {l cur : Tx}, (∀ c ∈ l, c ≠ m) → cutF m cur l = [cur ++ l]
  | [], cur, _ => by unfold cutF; rw [List.append_nil]
  | c :: r, cur, h => by
    unfold cutF
    rw [if_neg (h c (List.mem_cons_self ..)), cutF_no fun x hx => h x (List.mem_cons_of_mem _ hx), List.append_assoc]
    rfl
theorem cutF_at {m : UInt8} {b : Tx} : ∀ {l cur : Tx}, (∀ c ∈ l, c ≠ m) → cutF m cur (l ++ m :: b) = (cur ++ l) :: cutF m [] b
  | [], cur, _ => by show cutF m cur (m :: b) = _; rw [cutF, if_pos rfl, List.append_nil]
  | c :: r, cur, h => by
    show cutF m cur (c :: (r ++ m :: b)) = _
    rw [cutF, if_neg (h c (List.mem_cons_self ..)), cutF_at fun x hx => h x (List.mem_cons_of_mem _ hx), List.append_assoc]
    rfl
/-! ### A number, digit by digit -/
def dgU (m : Nat) : UInt8 := UInt8.ofNat (48 + m % 10)
theorem dgU_nat (m : Nat) : ((dgU m).toNat : Int) = 48 + (m : Int) % 10 := by
  unfold dgU
  rw [UInt8.toNat_ofNat']
  omega
theorem w8 {n : Int} (h : 0 ≤ n ∧ n ≤ 255) : IntKind.u8.wrap n = n := by
  have : IntKind.u8.wrap n = n % 256 := rfl
  omega
def decJ (m : Nat) (s : Tx) : Tx := if m = 0 then s else Lib.decDigits m ++ s
theorem decJ_0 (s : Tx) : decJ 0 s = s := rfl
theorem decJ_n {n : Nat} (h : n ≠ 0) : decJ n [] = Lib.decDigits n := by unfold decJ; rw [if_neg h, List.append_nil]
theorem decJ_s {m : Nat} {s : Tx} (h : m ≠ 0) : decJ m s = decJ (m / 10) (dgU m :: s) := by
  unfold decJ
  rw [if_neg h]
  by_cases h1 : m / 10 = 0
  · rw [if_pos h1, Lib.decDigits, dif_pos (by omega)]
    unfold dgU
    rw [show m % 10 = m by omega]
    rfl
  · rw [if_neg h1, Lib.decDigits, dif_neg (by omega)]
    unfold dgU
    rw [List.append_assoc]
    rfl
theorem dig_0 : Lib.decDigits 0 = [48] := by rw [Lib.decDigits, dif_pos (by decide)]; rfl
theorem itoa_n (n : Nat) : Lib.itoa (n : Int) = Lib.decDigits n := by unfold Lib.itoa; rw [if_neg (by omega)]; rfl
section
variable {l : Tx} {k d : Nat} {c : UInt8} {n : Int}
theorem numA_le : numA l ≤ 1 ∧ numA l ≤ l.length := by
  unfold numA
  cases l with
  | nil => simp
  | cons c r => split <;> simp
theorem numA_1 (h : l[0]? = some c) (hc : (c.toNat : Int) = 45) : numA l = 1 := by
  unfold numA
  rw [List.head?_eq_getElem?, h, Option.map_some, if_pos (by rw [Option.some.injEq]; omega)]
theorem numA_0 (h : l[0]? = some c) (hc : ¬ (c.toNat : Int) = 45) : numA l = 0 := by
  unfold numA
  rw [List.head?_eq_getElem?, h, Option.map_some, if_neg (by rw [Option.some.injEq]; omega)]
theorem numA_n (h : ¬ l.length > 0) : numA l = 0 := by
  have : l = [] := List.eq_nil_of_length_eq_zero (by omega)
  subst this
  rfl
theorem num_1 (h : l.length = numA l) : numM l d = none := if_pos (.inl h)
theorem num_2 (h : l.length - numA l > d) : numM l d = none := if_pos (.inr (.inl h))
theorem head_at (hc : l[numA l]? = some c) : (l.drop (numA l)).head?.map (·.toNat) = some c.toNat := by rw [List.head?_drop, hc]; rfl
theorem num_3 (hc : l[numA l]? = some c) (h : (c.toNat : Int) = 48) (h2 : l.length > 1) : numM l d = none := by
  refine if_pos (.inr (.inr ⟨?_, h2⟩))
  rw [head_at hc]
  exact congrArg some (by omega)
theorem num_4 (h1 : ¬ l.length = numA l) (h2 : ¬ l.length - numA l > d) (hc : l[numA l]? = some c) (h3 : ¬ ((c.toNat : Int) = 48 ∧ l.length > 1)) : numM l d = (numF (l.drop (numA l)) 0).map fun n => if numA l = 1 then -n else n := by
  refine if_neg ?_
  rintro (h | h | h)
  · exact h1 h
  · exact h2 h
  · rw [head_at hc, Option.some.injEq] at h
    exact h3 ⟨by omega, h.2⟩
theorem nf_bad (hc : l[k]? = some c) (h : (c.toNat : Int) < 48 ∨ (c.toNat : Int) > 57) : numF (l.drop k) n = none := by
  rw [drop_cons hc, numF, if_pos (by omega)]
theorem nf_ok (hc : l[k]? = some c) (h1 : ¬ (c.toNat : Int) < 48) (h2 : ¬ (c.toNat : Int) > 57) : numF (l.drop k) n = numF (l.drop (k + 1)) (10 * n + ((c.toNat : Int) - 48)) := by
  rw [drop_cons hc, numF, if_neg (by omega)]
theorem nf_end (h : l.length ≤ k) : numF (l.drop k) n = some n := by rw [List.drop_eq_nil_of_le h]; rfl
theorem p10_s {a : Nat} (h : a ≤ k) : (10 : Int) ^ (k + 1 - a) = 10 * 10 ^ (k - a) := by
  rw [show k + 1 - a = (k - a) + 1 by omega, Int.pow_succ, Int.mul_comm]
theorem p10_le (h : k ≤ 17) : (1 : Int) ≤ 10 ^ k ∧ (10 : Int) ^ k ≤ 100000000000000000 := by
  have : ∀ j, j < 18 → (1 : Int) ≤ 10 ^ j ∧ (10 : Int) ^ j ≤ 100000000000000000 := by decide
  exact this k (by omega)
/-! ### Pieces -/
theorem cut_y {m : UInt8} {cur : Tx} (hc : l[k]? = some c) (h : (c.toNat : Int) = (m.toNat : Int)) : cutF m cur (l.drop k) = cur :: cutF m [] (l.drop (k + 1)) := by
  have e : c = m := UInt8.toNat_inj.1 (by omega)
  rw [drop_cons hc, cutF, if_pos e]
theorem cut_n {m : UInt8} {cur : Tx} (hc : l[k]? = some c) (h : ¬ (c.toNat : Int) = (m.toNat : Int)) : cutF m cur (l.drop k) = cutF m (cur ++ [c]) (l.drop (k + 1)) := by
  have e : c ≠ m := fun e => h (by rw [e])
  rw [drop_cons hc, cutF, if_neg e]
theorem cut_e {m : UInt8} {cur : Tx} (h : l.length ≤ k) : cutF m cur (l.drop k) = [cur] := by rw [List.drop_eq_nil_of_le h]; rfl
theorem cur_s {f : Nat} (hc : l[k]? = some c) (hf : f ≤ k) : (l.take k).drop f ++ [c] = (l.take (k + 1)).drop f := by
  have hk : k < l.length := (List.getElem?_eq_some_iff.1 hc).1
  rw [List.take_add_one, hc, List.drop_append, Option.toList_some, show f - (l.take k).length = 0 by rw [List.length_take]; omega, List.drop_zero]
theorem cur_0 : (l.take k).drop k = [] := List.drop_eq_nil_of_le (by rw [List.length_take]; omega)
theorem cur_e {f : Nat} (h : l.length ≤ k) : (l.take k).drop f = l.drop f := by rw [List.take_of_length_le h]
end
end Go.Proofs.YtacndicgpkeobaaGreatDoor
namespace Go.Proofs.YtacndicgpkeobaaGreatDoor

/-! ### Squares -/
theorem sq_le {a b : Int} (h0 : 0 ≤ b) (h : a * a ≤ b * b) : a ≤ b := by
  by_cases hab : a ≤ b
  · exact hab
  · have h1 : b + 1 ≤ a := by omega
    have h2 := Int.mul_le_mul h1 h1 (by omega) (by omega : (0:Int) ≤ a)
    have h3 : (b + 1) * (b + 1) = b * b + 2 * b + 1 := by grind
    omega
theorem sqrZ_ge {n r : Int} (hr : 0 ≤ r) (h : r * r ≤ n) : r ≤ sqrZ n := by
  obtain ⟨h0, h1, h2⟩ := sqrZ_spec (Int.le_trans (Int.mul_nonneg hr hr) h)
  have := sq_le (a := r) (b := sqrZ n) h0
  by_cases hc : r ≤ sqrZ n
  · exact hc
  · have h3 := Int.mul_le_mul (show sqrZ n + 1 ≤ r by omega) (show sqrZ n + 1 ≤ r by omega) (by omega) hr
    omega
theorem sqrZ_le {n r : Int} (hn : 0 ≤ n) (hr : 0 ≤ r) (h : n < (r + 1) * (r + 1)) : sqrZ n ≤ r := by
  obtain ⟨h0, h1, h2⟩ := sqrZ_spec hn
  by_cases hc : sqrZ n ≤ r
  · exact hc
  · have h3 := Int.mul_le_mul (show r + 1 ≤ sqrZ n by omega) (show r + 1 ≤ sqrZ n by omega) (by omega) h0
    omega

def rootS (r : Rg) : Rg := ⟨sqrZ (1000000000 * r.lo), if sqrZ (1000000000 * r.hi) * sqrZ (1000000000 * r.hi) < 1000000000 * r.hi then sqrZ (1000000000 * r.hi) + 1 else sqrZ (1000000000 * r.hi)⟩
def rootR : Nat → Rg
  | 0 => ⟨500000000, 500000000⟩
  | k + 1 => rootS (rootR k)
structure inR (r : Rg) : Prop where
  a : 500000000 ≤ r.lo
  b : r.lo ≤ r.hi
  c : r.hi ≤ 1000000000
theorem rootS_in {r : Rg} (h : inR r) : inR (rootS r) := by
  obtain ⟨h1, h2, h3⟩ := h
  have a1 : 500000000 ≤ sqrZ (1000000000 * r.lo) := sqrZ_ge (by omega) (by omega)
  have a2 : sqrZ (1000000000 * r.lo) ≤ sqrZ (1000000000 * r.hi) := by
    obtain ⟨b0, b1, b2⟩ := sqrZ_spec (n := 1000000000 * r.lo) (by omega)
    exact sqrZ_ge b0 (by omega)
  have a3 : sqrZ (1000000000 * r.hi) ≤ 1000000000 := sqrZ_le (by omega) (by omega) (by omega)
  refine ⟨a1, ?_, ?_⟩
  · simp only [rootS]; split <;> omega
  · simp only [rootS]
    split
    · rename_i hlt
      by_cases he : sqrZ (1000000000 * r.hi) = 1000000000
      · rw [he] at hlt; omega
      · omega
    · exact a3
theorem rootR_in : ∀ k, inR (rootR k)
  | 0 => ⟨by simp [rootR], by simp [rootR], by simp [rootR]⟩
  | k + 1 => rootS_in (rootR_in k)
def rts (n : Nat) : List Rg := (List.range (n + 1)).map rootR
theorem rts_len (n : Nat) : (rts n).length = n + 1 := by simp [rts]
theorem rts_get {n k : Nat} (h : k ≤ n) : (rts n)[k]? = some (rootR k) := by
  unfold rts
  rw [List.getElem?_map, List.getElem?_range (by omega)]
  rfl
def rtsL (k : Nat) : List Rg := (List.range k).map rootR
theorem rtsL_succ (k : Nat) : rtsL (k + 1) = rtsL k ++ [rootR k] := by
  unfold rtsL
  rw [List.range_succ, List.map_append]
  rfl
theorem rtsL_len (k : Nat) : (rtsL k).length = k := by simp [rtsL]

/-! ### Bits -/
def pw4 : Nat → Int
  | 0 => 0
  | k + 1 => 4 ^ k
theorem pw4_half : ∀ k, pw4 (k + 1) / 4 = pw4 k
  | 0 => by decide
  | k + 1 => by simp only [pw4, Int.pow_succ]; omega
theorem two_pos (k : Nat) : (1 : Int) ≤ 2 ^ k := by
  induction k with
  | zero => decide
  | succ k ih => rw [Int.pow_succ]; omega
theorem two_le {k m : Nat} (h : k ≤ m) : (2 : Int) ^ k ≤ 2 ^ m := by
  induction h with
  | refl => exact Int.le_refl _
  | @step m _ ih => rw [Int.pow_succ]; have := two_pos m; omega
theorem four_sq (k : Nat) : (4 : Int) ^ k = 2 ^ k * 2 ^ k := by
  induction k with
  | zero => decide
  | succ k ih => rw [Int.pow_succ, Int.pow_succ, ih]; grind
structure gSq (n : Int) (k : Nat) (R : Int) : Prop where
  k30 : k ≤ 30
  r0 : 0 ≤ R
  le : R * R ≤ n
  lt : n < (R + 2 ^ k) * (R + 2 ^ k)
theorem gSq.bounds {n R : Int} {k : Nat} (h : gSq n (k + 1) R) (hn : n ≤ 1000000000000000000) : 0 ≤ R * 2 ^ (k + 1) ∧ R * 2 ^ (k + 1) ≤ 1073741824000000000 ∧ 1 ≤ (4 : Int) ^ k ∧ (4 : Int) ^ k ≤ 288230376151711744 := by
  have h1 : R ≤ 1000000000 := sq_le (by omega) (by have := h.le; omega)
  have h2 := two_le h.k30
  have h3 := two_pos (k + 1)
  have h4 := two_pos k
  have h5 := two_le (show k ≤ 29 by have := h.k30; omega)
  have h6 := h.r0
  have h7 := Int.mul_le_mul h1 h2 (by omega) (by omega)
  have h8 := Int.mul_le_mul h5 h5 (by omega) (by omega)
  have h9 := Int.mul_le_mul h4 h4 (by omega) (by omega)
  have h10 := Int.mul_nonneg h6 (show (0:Int) ≤ 2 ^ (k+1) by omega)
  rw [four_sq]
  omega
theorem gSq.yes {n R : Int} {k : Nat} (h : gSq n (k + 1) R) (hc : n - R * R ≥ R * 2 ^ (k + 1) + 4 ^ k) : gSq n k (R + 2 ^ k) := by
  have h3 := two_pos k
  refine ⟨by have := h.k30; omega, by have := h.r0; omega, ?_, ?_⟩
  · rw [four_sq, Int.pow_succ] at hc; grind
  · have := h.lt
    rw [Int.pow_succ] at this
    have e : R + 2 ^ k + 2 ^ k = R + 2 ^ k * 2 := by omega
    rw [e]; exact this
theorem gSq.no {n R : Int} {k : Nat} (h : gSq n (k + 1) R) (hc : ¬ n - R * R ≥ R * 2 ^ (k + 1) + 4 ^ k) : gSq n k R := by
  refine ⟨by have := h.k30; omega, h.r0, h.le, ?_⟩
  rw [four_sq, Int.pow_succ] at hc
  have e : (R + 2 ^ k) * (R + 2 ^ k) = R * R + R * (2 ^ k * 2) + 2 ^ k * 2 ^ k := by grind
  omega
theorem gSq.n_yes (n R : Int) (k : Nat) : n - R * R - R * 2 ^ (k + 1) - 4 ^ k = n - (R + 2 ^ k) * (R + 2 ^ k) := by
  rw [four_sq, Int.pow_succ]; grind
theorem gSq.x_no (R : Int) (k : Nat) : R * 2 ^ (k + 1) / 2 = R * 2 ^ k := by
  rw [Int.pow_succ, ← Int.mul_assoc, Int.mul_ediv_cancel _ (by decide)]
theorem gSq.x_yes (R : Int) (k : Nat) : R * 2 ^ (k + 1) / 2 + 4 ^ k = (R + 2 ^ k) * 2 ^ k := by
  rw [gSq.x_no, four_sq]; grind
theorem gSq.ends {n R : Int} (h : gSq n 0 R) : R = sqrZ n := sqrZ_uniq h.r0 h.le (by simpa using h.lt)
theorem gSq.begin {n : Int} {k : Nat} (hk : k ≤ 29) (h0 : 4 ^ k ≤ n) (h1 : n < 4 ^ (k + 1)) : gSq n (k + 1) 0 := by
  refine ⟨by omega, Int.le_refl _, by have := two_pos k; rw [four_sq] at h0; have := Int.mul_le_mul (two_pos k) (two_pos k) (by omega) (by omega); omega, ?_⟩
  rw [four_sq] at h1
  simpa using h1
structure gRt (n : Int) (k : Nat) (R : Int) : Prop where
  k31 : k ≤ 31
  r0 : 0 ≤ R
  le : R * R ≤ n
  lt : n < (R + 2 ^ k) * (R + 2 ^ k)
theorem gRt.bounds {n R : Int} {k : Nat} (h : gRt n (k + 1) R) (hn : n ≤ 1000000000000000000) : R ≤ 1000000000 ∧ 1 ≤ (2 : Int) ^ k ∧ (2 : Int) ^ k ≤ 1073741824 ∧ 0 ≤ (R + 2 ^ k) * (R + 2 ^ k) ∧ (R + 2 ^ k) * (R + 2 ^ k) ≤ 5000000000000000000 := by
  have h1 : R ≤ 1000000000 := sq_le (by omega) (by have := h.le; omega)
  have h2 := two_pos k
  have h3 := two_le (show k ≤ 30 by have := h.k31; omega)
  have h4 := h.r0
  have h5 := Int.mul_le_mul (show R + 2 ^ k ≤ 2073741824 by omega) (show R + 2 ^ k ≤ 2073741824 by omega) (by omega) (by omega)
  have h6 := Int.mul_nonneg (show 0 ≤ R + 2 ^ k by omega) (show 0 ≤ R + 2 ^ k by omega)
  omega
theorem gRt.yes {n R : Int} {k : Nat} (h : gRt n (k + 1) R) (hc : (R + 2 ^ k) * (R + 2 ^ k) ≤ n) : gRt n k (R + 2 ^ k) := by
  have h3 := two_pos k
  refine ⟨by have := h.k31; omega, by have := h.r0; omega, hc, ?_⟩
  have := h.lt
  rw [Int.pow_succ] at this
  have e : R + 2 ^ k + 2 ^ k = R + 2 ^ k * 2 := by omega
  rw [e]; exact this
theorem gRt.no {n R : Int} {k : Nat} (h : gRt n (k + 1) R) (hc : ¬ (R + 2 ^ k) * (R + 2 ^ k) ≤ n) : gRt n k R := ⟨by have := h.k31; omega, h.r0, h.le, by omega⟩
theorem gRt.ends {n R : Int} (h : gRt n 0 R) : R = sqrZ n := sqrZ_uniq h.r0 h.le (by simpa using h.lt)
theorem gRt.begin {n : Int} (h0 : 0 ≤ n) (h1 : n ≤ 1000000000000000000) : gRt n 31 0 := ⟨by omega, Int.le_refl _, by omega, by omega⟩
theorem pw4_pos {k : Nat} (h : pw4 k > 0) : ∃ j, k = j + 1 := by
  cases k with
  | zero => exact absurd h (by decide)
  | succ j => exact ⟨j, rfl⟩
theorem four_pos (k : Nat) : (1 : Int) ≤ 4 ^ k := by
  induction k with
  | zero => decide
  | succ k ih => rw [Int.pow_succ]; omega
theorem pw4_zero {k : Nat} (h : ¬ pw4 k > 0) : k = 0 := by
  cases k with
  | zero => rfl
  | succ j => exact absurd (show pw4 (j + 1) > 0 by have := four_pos j; simp only [pw4]; omega) h
theorem pw4_le {k : Nat} (h : k ≤ 31) : (4 : Int) ^ k ≤ 4611686018427387904 := by
  have h1 := two_le h
  have h2 := two_pos k
  have := Int.mul_le_mul h1 h1 (by omega) (by omega)
  rw [four_sq]
  omega

/-! ### Division -/
theorem ediv_le {n b : Int} (hb : 1 ≤ b) (hn : 0 ≤ n) : 0 ≤ n / b ∧ n / b ≤ n := ⟨Int.ediv_nonneg hn (by omega), Int.ediv_le_self _ hn⟩
theorem sq_start {n : Int} (h : n ≤ 1000000000000000000) : n < 4 ^ (31 + 1) := by
  have : (4 : Int) ^ (31 + 1) = 18446744073709551616 := by decide
  omega
theorem four_cases {n : Int} {k : Nat} (h1 : 1 ≤ n) (h : (4 : Int) ^ k > n) : ∃ j, k = j + 1 := by
  cases k with
  | zero => rw [Int.pow_zero] at h; omega
  | succ j => exact ⟨j, rfl⟩
theorem pow_lt30 {n : Int} {k : Nat} (h : (4 : Int) ^ k ≤ n) (hn : n ≤ 1000000000000000000) : k ≤ 29 := by
  by_cases hk : k ≤ 29
  · exact hk
  · have h1 := two_le (show 30 ≤ k by omega)
    have h2 := Int.mul_le_mul h1 h1 (by decide) (by have := two_pos k; omega)
    rw [four_sq] at h
    omega
def rootOfM (l : Int) : Rg × Int := if 0 ≤ l ∧ l ≤ 24 then (rootR l.toNat, 0) else (⟨0, 0⟩, 2)
theorem root_yes {r : Rg} (h : sqrZ (1000000000 * r.hi) * sqrZ (1000000000 * r.hi) < 1000000000 * r.hi) : (⟨sqrZ (1000000000 * r.lo), sqrZ (1000000000 * r.hi) + 1⟩ : Rg) = rootS r := by unfold rootS; rw [if_pos h]
theorem root_no {r : Rg} (h : ¬ sqrZ (1000000000 * r.hi) * sqrZ (1000000000 * r.hi) < 1000000000 * r.hi) : (⟨sqrZ (1000000000 * r.lo), sqrZ (1000000000 * r.hi)⟩ : Rg) = rootS r := by unfold rootS; rw [if_neg h]

/-! ### Decays -/
structure inD (d : Rg) : Prop where
  a : 0 ≤ d.lo
  b : d.lo ≤ 1000000000
  c : 0 ≤ d.hi
  e : d.hi ≤ 1000000000
theorem inD0 : inD ⟨1000000000, 1000000000⟩ := ⟨by decide, by decide, by decide, by decide⟩
def halve : Nat → Rg → Rg
  | 0, d => d
  | k + 1, d => halve k ⟨d.lo / 2, upZ d.hi 2⟩
theorem inD.half {d : Rg} (h : inD d) : inD ⟨d.lo / 2, upZ d.hi 2⟩ := by
  obtain ⟨h1, h2, h3, h4⟩ := h
  refine ⟨?_, ?_, ?_, ?_⟩ <;> simp only [upZ] <;> omega
theorem halve_in : ∀ (k : Nat) {d : Rg}, inD d → inD (halve k d)
  | 0, _, h => h
  | k + 1, _, h => halve_in k h.half
theorem halve_add : ∀ (m k : Nat) (d : Rg), halve (m + k) d = halve k (halve m d)
  | 0, k, d => by rw [Nat.zero_add]; rfl
  | m + 1, k, d => by rw [Nat.succ_add]; exact halve_add m k _
theorem halve_end : ∀ (k : Nat), halve k ⟨0, 1⟩ = ⟨0, 1⟩
  | 0 => rfl
  | k + 1 => by simp only [halve, upZ]; exact halve_end k
set_option maxRecDepth 10000 in
theorem halve_40 : halve 40 ⟨1000000000, 1000000000⟩ = ⟨0, 1⟩ := rfl
theorem halve_min (n : Int) : halve (min n 40).toNat ⟨1000000000, 1000000000⟩ = halve n.toNat ⟨1000000000, 1000000000⟩ := by
  by_cases h : n ≤ 40
  · rw [Int.min_eq_left h]
  · rw [Int.min_eq_right (by omega), show n.toNat = 40 + (n.toNat - 40) by omega, halve_add]
    show halve 40 _ = halve _ (halve 40 _)
    rw [halve_40, halve_end]
def dS (h : Int) (x : Int × Rg) (r : Rg) : Int × Rg := if 2 * x.1 ≥ h then (2 * x.1 - h, ⟨x.2.lo * r.lo / 1000000000, upZ (x.2.hi * r.hi) 1000000000⟩) else (2 * x.1, x.2)
def dF (h : Int) (x : Int × Rg) (l : List Rg) : Int × Rg := l.foldl (dS h) x
theorem dF_step {h : Int} {x : Int × Rg} {l : List Rg} {k : Nat} {r : Rg} (hr : l[k]? = some r) : dF h x (l.drop k) = dF h (dS h x r) (l.drop (k + 1)) := by rw [drop_cons hr]; rfl
theorem prod_in {a b : Int} (ha : 0 ≤ a) (ha' : a ≤ 1000000000) (hb : 0 ≤ b) (hb' : b ≤ 1000000000) : 0 ≤ a * b ∧ a * b ≤ 1000000000000000000 := ⟨Int.mul_nonneg ha hb, by have := Int.mul_le_mul ha' hb' hb (by omega : (0:Int) ≤ 1000000000); omega⟩
theorem inD.mul {d r : Rg} (h : inD d) (hr : inR r) : inD ⟨d.lo * r.lo / 1000000000, upZ (d.hi * r.hi) 1000000000⟩ := by
  obtain ⟨h1, h2, h3, h4⟩ := h
  obtain ⟨r1, r2, r3⟩ := hr
  have p1 := prod_in h1 h2 (show 0 ≤ r.lo by omega) (by omega)
  have p2 := prod_in h3 h4 (show 0 ≤ r.hi by omega) (by omega)
  refine ⟨?_, ?_, ?_, ?_⟩ <;> simp only [upZ] <;> omega
def decE (x : Int × Rg) (r : Rg) : Rg := if x.1 ≠ 0 then ⟨x.2.lo * r.lo / 1000000000, x.2.hi⟩ else x.2
def decM (s h : Int) (n : Nat) : Rg := decE (dF h (s % h, halve (s / h).toNat ⟨1000000000, 1000000000⟩) ((rts n).drop 1)) (rootR n)
theorem rts_tail_get {n k : Nat} (h : k < n) : ((rts n).drop 1)[k]? = some (rootR (k + 1)) := by rw [List.getElem?_drop, Nat.add_comm]; exact rts_get (by omega)
theorem rts_tail_len (n : Nat) : ((rts n).drop 1).length = n := by rw [List.length_drop, rts_len]; omega
theorem halve_step {m k : Nat} {d : Rg} (h : k < m) : halve (m - (k + 1)) ⟨d.lo / 2, upZ d.hi 2⟩ = halve (m - k) d := by
  rw [show m - k = (m - (k + 1)) + 1 by omega]; rfl
theorem dS_yes {h a b : Int} {d r : Rg} (hb : b = 2 * a) (hc : b ≥ h) : dS h (a, d) r = (b - h, ⟨d.lo * r.lo / 1000000000, upZ (d.hi * r.hi) 1000000000⟩) := by subst hb; unfold dS; rw [if_pos hc]
theorem dS_no {h a b : Int} {d r : Rg} (hb : b = 2 * a) (hc : ¬ b ≥ h) : dS h (a, d) r = (b, d) := by subst hb; unfold dS; rw [if_neg hc]
theorem decM_yes {s h a : Int} {n : Nat} {d : Rg} (hf : dF h (a, d) (((rts n).drop 1).drop n) = dF h (s % h, halve (s / h).toNat ⟨1000000000, 1000000000⟩) ((rts n).drop 1)) (h0 : a ≠ 0) : (⟨d.lo * (rootR n).lo / 1000000000, d.hi⟩ : Rg) = decM s h n := by
  unfold decM
  rw [← hf, drop_all (by rw [rts_tail_len]; exact Nat.le_refl _)]
  show _ = decE (a, d) _
  unfold decE
  rw [if_pos h0]
theorem decM_no {s h a : Int} {n : Nat} {d : Rg} (hf : dF h (a, d) (((rts n).drop 1).drop n) = dF h (s % h, halve (s / h).toNat ⟨1000000000, 1000000000⟩) ((rts n).drop 1)) (h0 : ¬ a ≠ 0) : d = decM s h n := by
  unfold decM
  rw [← hf, drop_all (by rw [rts_tail_len]; exact Nat.le_refl _)]
  show _ = decE (a, d) _
  unfold decE
  rw [if_neg h0]

/-! ### Loads -/
def ldN (l : Ld) : Nat → Int
  | 0 => l.n.lo
  | 1 => l.n.hi
  | 2 => l.h.lo
  | _ => l.h.hi
theorem ckSpan_cases (r : Rg) : (ckSpan r = 0 ∧ 0 ≤ r.lo ∧ r.lo ≤ 100000000 ∧ 0 ≤ r.hi ∧ r.hi ≤ 100000000) ∨ (ckSpan r = 2 ∧ ¬ (0 ≤ r.lo ∧ r.lo ≤ 100000000 ∧ 0 ≤ r.hi ∧ r.hi ≤ 100000000)) := by
  unfold ckSpan
  split
  · exact .inl ⟨rfl, by assumption⟩
  · exact .inr ⟨rfl, by assumption⟩
def ldIn (l : Ld) (j : Nat) : Prop := ∀ i, i < j → 0 ≤ ldN l i ∧ ldN l i ≤ 100000000
theorem ldIn.next {l : Ld} {j : Nat} (h : ldIn l j) (hj : 0 ≤ ldN l j ∧ ldN l j ≤ 100000000) : ldIn l (j + 1) := fun i hi => by
  by_cases he : i = j
  · subst he; exact hj
  · exact h i (by omega)
theorem ckLd_bad {l : Ld} {j : Nat} (hj : j < 4) (h : ¬ (0 ≤ ldN l j ∧ ldN l j ≤ 100000000)) : ckLd l = 2 := by
  have h1 := ckSpan_cases l.n
  have h2 := ckSpan_cases l.h
  unfold ckLd
  rw [if_pos ?_]
  match j, hj with
  | 0, _ => simp only [ldN] at h; omega
  | 1, _ => simp only [ldN] at h; omega
  | 2, _ => simp only [ldN] at h; omega
  | 3, _ => simp only [ldN] at h; omega
theorem ldIn.spans {l : Ld} (h : ldIn l 4) : ckSpan l.n = 0 ∧ ckSpan l.h = 0 := by
  have h0 := h 0 (by omega)
  have h1 := h 1 (by omega)
  have h2 := h 2 (by omega)
  have h3 := h 3 (by omega)
  simp only [ldN] at h0 h1 h2 h3
  have h4 := ckSpan_cases l.n
  have h5 := ckSpan_cases l.h
  omega
theorem ckLd_9 {l : Ld} (h : ldIn l 4) (hc : l.n.lo > l.n.hi ∨ l.h.lo > l.h.hi) : ckLd l = 9 := by
  have := h.spans
  unfold ckLd
  rw [if_neg (by omega), if_pos hc]
theorem ckLd_0 {l : Ld} (h : ldIn l 4) (hc : ¬ (l.n.lo > l.n.hi ∨ l.h.lo > l.h.hi)) : ckLd l = 0 := by
  have := h.spans
  unfold ckLd
  rw [if_neg (by omega), if_neg hc]
theorem mul_in {a b x y : Int} (ha : 0 ≤ a) (ha' : a ≤ x) (hb : -y ≤ b) (hb' : b ≤ y) : -(x * y) ≤ a * b ∧ a * b ≤ x * y := by
  have h1 := Int.mul_nonneg ha (show 0 ≤ y - b by omega)
  have h2 := Int.mul_nonneg ha (show 0 ≤ y + b by omega)
  have h3 := Int.mul_nonneg (show 0 ≤ x - a by omega) (show 0 ≤ y by omega)
  have e1 : a * (y - b) = a * y - a * b := by grind
  have e2 : a * (y + b) = a * y + a * b := by grind
  have e3 : (x - a) * y = x * y - a * y := by grind
  omega
end Go.Proofs.YtacndicgpkeobaaGreatDoor