/-
  Plain models of texts: numerals, numbers that are read, pieces of a text. Conditions: none; no program in sight.
-/
import Derived.Test.YtibohfipgjljhaaDoorShTx
import Derived.Test.YtibohfipgjljhaaDoorXp3
import Derived.Lib.ItoaNum
import Derived.Lib.AtoiAllCases
import Derived.Lib.Strings
namespace Go.Proofs.YtibohfipgjljhaaDoor
open Go.RowKit
abbrev Tx := List UInt8
/-! ### Numerals of at most four digits -/
def dcX (n : Nat) : Tx := if n < 10 then [UInt8.ofNat (48 + n)] else if n < 100 then [UInt8.ofNat (48 + n / 10), UInt8.ofNat (48 + n % 10)] else if n < 1000 then [UInt8.ofNat (48 + n / 10 / 10), UInt8.ofNat (48 + n / 10 % 10), UInt8.ofNat (48 + n % 10)] else [UInt8.ofNat (48 + n / 10 / 10 / 10), UInt8.ofNat (48 + n / 10 / 10 % 10), UInt8.ofNat (48 + n / 10 % 10), UInt8.ofNat (48 + n % 10)]
theorem dcX_eq {n : Nat} (h : n < 10000) : Lib.decDigits n = dcX n := by
  unfold dcX
  by_cases h1 : n < 10
  · rw [if_pos h1, Lib.decDigits, dif_pos h1]
  rw [if_neg h1, Lib.decDigits, dif_neg h1]
  by_cases h2 : n < 100
  · rw [if_pos h2, Lib.decDigits, dif_pos (by omega)]; rfl
  rw [if_neg h2, Lib.decDigits, dif_neg (by omega)]
  by_cases h3 : n < 1000
  · rw [if_pos h3, Lib.decDigits, dif_pos (by omega)]; rfl
  rw [if_neg h3, Lib.decDigits, dif_neg (by omega), Lib.decDigits, dif_pos (by omega)]
  rfl
/-- a number of at most so many digits -/
def numF : Tx → Int → Option Int
  | [], n => some n
  | c :: r, n => if c.toNat < 48 ∨ c.toNat > 57 then none else numF r (10 * n + ((c.toNat : Int) - 48))
def numA (l : Tx) : Nat := if l.head?.map (·.toNat) = some 45 then 1 else 0
def numM (l : Tx) (d : Nat) : Option Int :=
  if l.length = numA l ∨ l.length - numA l > d ∨ ((l.drop (numA l)).head?.map (·.toNat) = some 48 ∧ l.length > 1) then none
  else (numF (l.drop (numA l)) 0).map fun n => if numA l = 1 then -n else n
def isD (c : UInt8) : Bool := decide (48 ≤ c.toNat ∧ c.toNat ≤ 57)
def ckD (n : Nat) : Bool := (Lib.atoiAll (dcX n) == .ok (n : Int)) && (numM (dcX n) 4 == some (n : Int)) && (dcX n).all isD && decide ((dcX n).length ≤ 4 ∧ 1 ≤ (dcX n).length)
theorem ckD_all : (List.range 1001).all ckD = true := by decide +kernel
structure dgP (n : Nat) (l : Tx) : Prop where
  at_ : Lib.atoiAll l = .ok (n : Int)
  nu : numM l 4 = some (n : Int)
  dg : ∀ c ∈ l, isD c = true
  le : l.length ≤ 4
  ne : 1 ≤ l.length
theorem dg_ok {n : Nat} (h : n ≤ 1000) : dgP n (Lib.decDigits n) := by
  have h1 := List.all_eq_true.1 ckD_all n (List.mem_range.2 (by omega))
  rw [dcX_eq (by omega)]
  unfold ckD at h1
  simp only [Bool.and_eq_true, List.all_eq_true, decide_eq_true_eq, beq_iff_eq] at h1
  obtain ⟨⟨⟨a, b⟩, c⟩, d⟩ := h1
  exact ⟨a, b, c, d.1, d.2⟩
/-! ### Cutting -/
/-- ahead of the first mark, and behind it -/
def cut1 (m : UInt8) : Tx → Tx × Tx
  | [] => ([], [])
  | c :: r => if c = m then ([], r) else (c :: (cut1 m r).1, (cut1 m r).2)
def cutF (m : UInt8) : Tx → Tx → List Tx
  | cur, [] => [cur]
  | cur, c :: r => if c = m then cur :: cutF m [] r else cutF m (cur ++ [c]) r
theorem cut1_no {m : UInt8} : ∀ {l : Tx}, (∀ c ∈ l, c ≠ m) → cut1 m l = (l, [])
  | [], _ => rfl
  | c :: r, h => by
    unfold cut1
    rw [if_neg (h c (List.mem_cons_self ..)), cut1_no fun x hx => h x (List.mem_cons_of_mem _ hx)]
theorem cut1_at {m : UInt8} {b : Tx} : ∀ {l : Tx}, (∀ c ∈ l, c ≠ m) → cut1 m (l ++ m :: b) = (l, b)
  | [], _ => by show cut1 m (m :: b) = _; unfold cut1; rw [if_pos rfl]
  | c :: r, h => by
    show cut1 m (c :: (r ++ m :: b)) = _
    unfold cut1
    rw [if_neg (h c (List.mem_cons_self ..)), cut1_at fun x hx => h x (List.mem_cons_of_mem _ hx)]
theorem cutF_no {m : UInt8} : ∀ {l cur : Tx}, (∀ c ∈ l, c ≠ m) → cutF m cur l = [cur ++ l]
  | [], cur, _ => by unfold cutF; rw [List.append_nil]
  | c :: r, cur, h => by
    unfold cutF
    rw [if_neg (h c (List.mem_cons_self ..)), cutF_no fun x hx => h x (List.mem_cons_of_mem _ hx), List.append_assoc]
    rfl
theorem cutF_at {m : UInt8} {b : Tx} : ∀ {l cur : Tx}, (∀ c ∈ l, c ≠ m) → cutF m cur (l ++ m :: b) = (cur ++ l) :: cutF m [] b
  | [], cur, _ => by show cutF m cur (m :: b) = _; rw [cutF, if_pos rfl, List.append_nil]
  | c :: r, cur, h => by
    show cutF m cur (c :: (r ++ m :: b)) = _
    rw [cutF, if_neg (h c (List.mem_cons_self ..)), cutF_at fun x hx => h x (List.mem_cons_of_mem _ hx), List.append_assoc]
    rfl
theorem dg_47 {l : Tx} (h : ∀ c ∈ l, isD c = true) : ∀ c ∈ l, c ≠ 47 := fun c hc e => by
  have := h c hc
  subst e
  exact absurd this (by decide)
/-! ### A number, digit by digit -/
def dgU (m : Nat) : UInt8 := UInt8.ofNat (48 + m % 10)
theorem dgU_nat (m : Nat) : ((dgU m).toNat : Int) = 48 + (m : Int) % 10 := by
  unfold dgU
  rw [UInt8.toNat_ofNat']
  omega
theorem w8 {n : Int} (h : 0 ≤ n ∧ n ≤ 255) : IntKind.u8.wrap n = n := by
  have : IntKind.u8.wrap n = n % 256 := rfl
  omega
def decJ (m : Nat) (s : Tx) : Tx := if m = 0 then s else Lib.decDigits m ++ s
theorem decJ_0 (s : Tx) : decJ 0 s = s := rfl
theorem decJ_n {n : Nat} (h : n ≠ 0) : decJ n [] = Lib.decDigits n := by unfold decJ; rw [if_neg h, List.append_nil]
theorem decJ_s {m : Nat} {s : Tx} (h : m ≠ 0) : decJ m s = decJ (m / 10) (dgU m :: s) := by
  unfold decJ
  rw [if_neg h]
  by_cases h1 : m / 10 = 0
  · rw [if_pos h1, Lib.decDigits, dif_pos (by omega)]
    unfold dgU
    rw [show m % 10 = m by omega]
    rfl
  · rw [if_neg h1, Lib.decDigits, dif_neg (by omega)]
    unfold dgU
    rw [List.append_assoc]
    rfl
theorem dig_0 : Lib.decDigits 0 = [48] := by rw [Lib.decDigits, dif_pos (by decide)]; rfl
theorem itoa_n (n : Nat) : Lib.itoa (n : Int) = Lib.decDigits n := by unfold Lib.itoa; rw [if_neg (by omega)]; rfl
section
variable {l : Tx} {k d : Nat} {c : UInt8} {n : Int}
theorem numA_le : numA l ≤ 1 ∧ numA l ≤ l.length := by
  unfold numA
  cases l with
  | nil => simp
  | cons c r => split <;> simp
theorem numA_1 (h : l[0]? = some c) (hc : (c.toNat : Int) = 45) : numA l = 1 := by
  unfold numA
  rw [List.head?_eq_getElem?, h, Option.map_some, if_pos (by rw [Option.some.injEq]; omega)]
theorem numA_0 (h : l[0]? = some c) (hc : ¬ (c.toNat : Int) = 45) : numA l = 0 := by
  unfold numA
  rw [List.head?_eq_getElem?, h, Option.map_some, if_neg (by rw [Option.some.injEq]; omega)]
theorem numA_n (h : ¬ l.length > 0) : numA l = 0 := by
  have : l = [] := List.eq_nil_of_length_eq_zero (by omega)
  subst this
  rfl
theorem num_1 (h : l.length = numA l) : numM l d = none := if_pos (.inl h)
theorem num_2 (h : l.length - numA l > d) : numM l d = none := if_pos (.inr (.inl h))
theorem head_at (hc : l[numA l]? = some c) : (l.drop (numA l)).head?.map (·.toNat) = some c.toNat := by rw [List.head?_drop, hc]; rfl
theorem num_3 (hc : l[numA l]? = some c) (h : (c.toNat : Int) = 48) (h2 : l.length > 1) : numM l d = none := by
  refine if_pos (.inr (.inr ⟨?_, h2⟩))
  rw [head_at hc]
  exact congrArg some (by omega)
theorem num_4 (h1 : ¬ l.length = numA l) (h2 : ¬ l.length - numA l > d) (hc : l[numA l]? = some c) (h3 : ¬ ((c.toNat : Int) = 48 ∧ l.length > 1)) : numM l d = (numF (l.drop (numA l)) 0).map fun n => if numA l = 1 then -n else n := by
  refine if_neg ?_
  rintro (h | h | h)
  · exact h1 h
  · exact h2 h
  · rw [head_at hc, Option.some.injEq] at h
    exact h3 ⟨by omega, h.2⟩
theorem nf_bad (hc : l[k]? = some c) (h : (c.toNat : Int) < 48 ∨ (c.toNat : Int) > 57) : numF (l.drop k) n = none := by
  rw [drop_cons hc, numF, if_pos (by omega)]
theorem nf_ok (hc : l[k]? = some c) (h1 : ¬ (c.toNat : Int) < 48) (h2 : ¬ (c.toNat : Int) > 57) : numF (l.drop k) n = numF (l.drop (k + 1)) (10 * n + ((c.toNat : Int) - 48)) := by
  rw [drop_cons hc, numF, if_neg (by omega)]
theorem nf_end (h : l.length ≤ k) : numF (l.drop k) n = some n := by rw [List.drop_eq_nil_of_le h]; rfl
theorem p10_s {a : Nat} (h : a ≤ k) : (10 : Int) ^ (k + 1 - a) = 10 * 10 ^ (k - a) := by
  rw [show k + 1 - a = (k - a) + 1 by omega, Int.pow_succ, Int.mul_comm]
theorem p10_le (h : k ≤ 17) : (1 : Int) ≤ 10 ^ k ∧ (10 : Int) ^ k ≤ 100000000000000000 := by
  have : ∀ j, j < 18 → (1 : Int) ≤ 10 ^ j ∧ (10 : Int) ^ j ≤ 100000000000000000 := by decide
  exact this k (by omega)
/-! ### Pieces -/
theorem cut_y {m : UInt8} {cur : Tx} (hc : l[k]? = some c) (h : (c.toNat : Int) = (m.toNat : Int)) : cutF m cur (l.drop k) = cur :: cutF m [] (l.drop (k + 1)) := by
  have e : c = m := UInt8.toNat_inj.1 (by omega)
  rw [drop_cons hc, cutF, if_pos e]
theorem cut_n {m : UInt8} {cur : Tx} (hc : l[k]? = some c) (h : ¬ (c.toNat : Int) = (m.toNat : Int)) : cutF m cur (l.drop k) = cutF m (cur ++ [c]) (l.drop (k + 1)) := by
  have e : c ≠ m := fun e => h (by rw [e])
  rw [drop_cons hc, cutF, if_neg e]
theorem cut_e {m : UInt8} {cur : Tx} (h : l.length ≤ k) : cutF m cur (l.drop k) = [cur] := by rw [List.drop_eq_nil_of_le h]; rfl
theorem cur_s {f : Nat} (hc : l[k]? = some c) (hf : f ≤ k) : (l.take k).drop f ++ [c] = (l.take (k + 1)).drop f := by
  have hk : k < l.length := (List.getElem?_eq_some_iff.1 hc).1
  rw [List.take_add_one, hc, List.drop_append, Option.toList_some, show f - (l.take k).length = 0 by rw [List.length_take]; omega, List.drop_zero]
theorem cur_0 : (l.take k).drop k = [] := List.drop_eq_nil_of_le (by rw [List.length_take]; omega)
theorem cur_e {f : Nat} (h : l.length ≤ k) : (l.take k).drop f = l.drop f := by rw [List.take_of_length_le h]
end
end Go.Proofs.YtibohfipgjljhaaDoor
