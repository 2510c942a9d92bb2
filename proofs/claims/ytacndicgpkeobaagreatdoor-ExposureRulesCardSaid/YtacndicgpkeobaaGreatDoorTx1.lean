/-
  Plain models of texts: numerals, numbers that are read, pieces of a text. Conditions: none; no program in sight.
-/
import Derived.Test.YtacndicgpkeobaaGreatDoorShKn
import Derived.Laws.Concat
import Derived.Laws.BytesArg
import Derived.Lib.ItoaNum
import Derived.Lib.AtoiAllCases
import Derived.Lib.Strings
namespace Go.Proofs.YtacndicgpkeobaaGreatDoor
open Go.RowKit
section
variable {P : Program} {N : Fr} {B : Nat} {w0 : World} {E : Env} {rs : List Res} {Q : Exit → Act → World → Prop} {ops : Array Oper} {rest : List Oper} {dst : Option Nat} {ty : TypeId} {pos : String} {aft : Array Edge} {gd : Option (Nat × Bool)}
theorem q_seq {t t' : TypeId} {x y : Operand} {s u : ByteArray} {b : Bool} (hx : ev E x = some (.string s)) (hy : ev E y = some (.string u)) (hb : (s.data.toList == u.data.toList) = b) : Qu P N B w0 E rs ⟨dst, .binOp .eql t x y t', ty, pos, aft, gd⟩ (.bool b) := by
  refine q_cmp hx hy fun w => ?_
  have g : eqGuard .eql t x y (.string s) (.string u) = pure () := rfl
  rw [g, binOp_string_eql, ByteArray.toList_eq, ByteArray.toList_eq, hb]
  rfl
theorem q_sne {t t' : TypeId} {x y : Operand} {s u : ByteArray} {b : Bool} (hx : ev E x = some (.string s)) (hy : ev E y = some (.string u)) (hb : (!(s.data.toList == u.data.toList)) = b) : Qu P N B w0 E rs ⟨dst, .binOp .neq t x y t', ty, pos, aft, gd⟩ (.bool b) := by
  refine q_cmp hx hy fun w => ?_
  have g : eqGuard .neq t x y (.string s) (.string u) = pure () := rfl
  rw [g, binOp_string_neq, ByteArray.toList_eq, ByteArray.toList_eq, hb]
  rfl
theorem q_cat {t t' : TypeId} {x y : Operand} {s u r : ByteArray} (hx : ev E x = some (.string s)) (hy : ev E y = some (.string u)) (h : s.size + u.size ≤ 9223372036854775807) (hr : s ++ u = r) : Qu P N B w0 E rs ⟨dst, .binOp .add t x y t', ty, pos, aft, gd⟩ (.string r) := by
  refine q_cmp hx hy fun w => ?_
  have g : eqGuard .add t x y (.string s) (.string u) = pure () := rfl
  have h9 := run_string_add_sum (P := P) w s u h
  rw [g, binOp_string_add]
  simp [h9, hr]
theorem q_sto {t : TypeId} {x y : Operand} {s r : ByteArray} {k : IntKind} {j : Int} (ht : P.underlying t = some .string) (hx : ev E x = some (.string s)) (hy : ev E y = some (.int k j)) (h0 : 0 ≤ j) (h1 : j ≤ s.size) (hr : s.extract 0 j.toNat = r) : Qu P N B w0 E rs ⟨dst, .slice t x none (some y) none, ty, pos, aft, gd⟩ (.string r) := by
  intro a w hs
  have h := run_slice_string_h (P := P) w t s ht k j h0 h1
  simp [execOp, hs.eval hx, hs.eval hy, Instr.sliceAt, run_underlying ht, h, hr]
theorem q_sfrom {t : TypeId} {x y : Operand} {s r : ByteArray} {k : IntKind} {j : Int} (ht : P.underlying t = some .string) (hx : ev E x = some (.string s)) (hy : ev E y = some (.int k j)) (h0 : 0 ≤ j) (h1 : j ≤ s.size) (hr : s.extract j.toNat s.size = r) : Qu P N B w0 E rs ⟨dst, .slice t x (some y) none none, ty, pos, aft, gd⟩ (.string r) := by
  intro a w hs
  have h := run_slice_string_l (P := P) w t s ht k j h0 h1
  simp [execOp, hs.eval hx, hs.eval hy, Instr.sliceAt, run_underlying ht, h, hr]
theorem ct_law {f : FuncId} {args : List Value} {ps : List (Value × Nat × List (List Value))} {v : Value} (h : ∀ w, Calls P f args.toArray w fun e w' => e = .returned v ∧ Below w.heap.size w w') : Ct P f args ps (isV v) :=
 fun w _ => (h w).mono fun _ _ ⟨he, hb⟩ => ⟨v, [], he, hb, ⟨rfl, rfl⟩, (fun r hr => by cases hr), (fun r hr => by cases hr), List.Pairwise.nil⟩
end
end Go.Proofs.YtacndicgpkeobaaGreatDoor
namespace Go.Proofs.YtacndicgpkeobaaGreatDoor
open Go.RowKit
abbrev bs (l : List UInt8) : ByteArray := ⟨l.toArray⟩
theorem bs_size (l : List UInt8) : (bs l).size = l.length := by show l.toArray.size = _; simp
theorem bs_list (l : List UInt8) : (bs l).data.toList = l := rfl
theorem bs_app (a b : List UInt8) : bs a ++ bs b = bs (a ++ b) := by
  apply ByteArray.ext
  simp
theorem bs_ext (l : List UInt8) (i j : Nat) : (bs l).extract i j = bs ((l.take j).drop i) := by
  apply ByteArray.ext
  simp [ByteArray.data_extract, List.extract_toArray]
  rw [List.drop_take]
def cU (c : UInt8) : List Value := [.int .u8 (c.toNat : Int)]
def cT (l : List UInt8) : List Value := [.string (bs l)]
section
variable {P : Program} {N : Fr} {B : Nat} {w0 : World} {E : Env} {rs : List Res} {Q : Exit → Act → World → Prop} {ops : Array Oper} {rest : List Oper} {dst : Option Nat} {ty : TypeId} {pos : String} {aft : Array Edge} {gd : Option (Nat × Bool)}
variable {t t' : TypeId} {x y z : Operand} {a b l r : List UInt8}
theorem t_len {ts : TypeId} (ht : P.underlying t = some .string) (hx : ev E x = some (.string (bs l))) : Qu P N B w0 E rs ⟨dst, .call { callee := .builtin .len, args := #[x], argTypes := #[t] }, ts, pos, aft, gd⟩ (.int .i64 (l.length : Int)) := by
  have h := q_lenS (P := P) (N := N) (B := B) (w0 := w0) (rs := rs) (dst := dst) (ts := ts) (pos := pos) (aft := aft) (gd := gd) ht hx
  rw [bs_size] at h
  exact h
theorem t_eq (hx : ev E x = some (.string (bs a))) (hy : ev E y = some (.string (bs b))) : Qu P N B w0 E rs ⟨dst, .binOp .eql t x y t', ty, pos, aft, gd⟩ (.bool (decide (a = b))) :=
  q_seq hx hy (by rw [bs_list, bs_list]; by_cases h : a = b <;> simp [h])
theorem t_ne (hx : ev E x = some (.string (bs a))) (hy : ev E y = some (.string (bs b))) : Qu P N B w0 E rs ⟨dst, .binOp .neq t x y t', ty, pos, aft, gd⟩ (.bool (decide (a ≠ b))) :=
  q_sne hx hy (by rw [bs_list, bs_list]; by_cases h : a = b <;> simp [h])
theorem t_cat (hx : ev E x = some (.string (bs a))) (hy : ev E y = some (.string (bs b))) (h : a.length + b.length ≤ 9223372036854775807) (hr : a ++ b = r) : Qu P N B w0 E rs ⟨dst, .binOp .add t x y t', ty, pos, aft, gd⟩ (.string (bs r)) :=
  q_cat hx hy (by rw [bs_size, bs_size]; exact h) (by rw [bs_app, hr])
theorem t_to {k : IntKind} {j : Nat} (ht : P.underlying t = some .string) (hx : ev E x = some (.string (bs l))) (hy : ev E y = some (.int k (j : Int))) (h1 : j ≤ l.length) (hr : l.take j = r) : Qu P N B w0 E rs ⟨dst, .slice t x none (some y) none, ty, pos, aft, gd⟩ (.string (bs r)) :=
  q_sto ht hx hy (by omega) (by rw [bs_size]; omega) (by rw [Int.toNat_natCast, bs_ext, List.drop_zero, hr])
theorem t_from {k : IntKind} {j : Nat} (ht : P.underlying t = some .string) (hx : ev E x = some (.string (bs l))) (hy : ev E y = some (.int k (j : Int))) (h1 : j ≤ l.length) (hr : l.drop j = r) : Qu P N B w0 E rs ⟨dst, .slice t x (some y) none none, ty, pos, aft, gd⟩ (.string (bs r)) :=
  q_sfrom ht hx hy (by omega) (by rw [bs_size]; omega) (by rw [Int.toNat_natCast, bs_ext, bs_size, List.take_length, hr])
theorem t_mid {k k' : IntKind} {i j : Nat} (ht : P.underlying t = some .string) (hx : ev E x = some (.string (bs l))) (hy : ev E y = some (.int k (i : Int))) (hz : ev E z = some (.int k' (j : Int))) (h0 : i ≤ j) (h1 : j ≤ l.length) (hr : (l.take j).drop i = r) : Qu P N B w0 E rs ⟨dst, .slice t x (some y) (some z) none, ty, pos, aft, gd⟩ (.string (bs r)) := by
  intro a w hs
  have h := run_slice_string (P := P) w t (bs l) k k' (i : Int) (j : Int) ht (by omega) (by omega) (by rw [bs_size]; omega)
  simp only [Int.toNat_natCast, bs_ext, hr] at h
  simp [execOp, hs.eval hx, hs.eval hy, hs.eval hz, Instr.sliceAt, run_underlying ht, h]
theorem t_idx {k : IntKind} {i : Nat} {c : UInt8} (ht : P.underlying t = some .string) (hx : ev E x = some (.string (bs l))) (hy : ev E y = some (.int k (i : Int))) (hc : l[i]? = some c) : Qu P N B w0 E rs ⟨dst, .index t x y, ty, pos, aft, gd⟩ (.int .u8 (c.toNat : Int)) := by
  have hi : i < l.length := (List.getElem?_eq_some_iff.1 hc).1
  have h := q_indexS (P := P) (N := N) (B := B) (w0 := w0) (rs := rs) (dst := dst) (ty := ty) (pos := pos) (aft := aft) (gd := gd) ht hx hy (by rw [bs_size]; exact hi)
  have e : bAt (bs l) i = (c.toNat : Int) := by
    unfold bAt
    rw [show (bs l).data[i]? = some c by simpa using hc]
    rfl
  rw [e] at h
  exact h
theorem flat_u : ∀ l : List UInt8, (l.map cU).flatten = l.map fun c => Value.int .u8 (c.toNat : Int)
  | [] => rfl
  | c :: r => by simp [cU, flat_u r]
theorem push_u (l : List UInt8) : (l.map fun c => (c.toNat : Int)).foldl (fun r n => r.push (UInt8.ofNat n.toNat)) ByteArray.empty = bs l := by
  rw [foldl_push_bytes]
  apply ByteArray.ext
  simp [ByteArray.empty, ByteArray.emptyWithCapacity, Function.comp_def]
  try rfl
theorem t_conv {u e : TypeId} {v : Value} (hne : 0 < l.length) (hu : P.underlying u = some (.slice e)) (he : P.underlying e = some (.int .u8)) (ht : P.underlying t = some .string) (hx : ev E x = some v) (hg : GvR rs v 1 (l.map cU)) : Qu P N B w0 E rs ⟨dst, .convert u t x, ty, pos, aft, gd⟩ (.string (bs l)) := by
  intro a w hs
  have hr := hs.reads hg
  obtain ⟨A, cap, hv, _, _⟩ := hr.form
  rw [List.length_map] at hv
  obtain ⟨ad, _, ⟨n, cp, hf⟩, _, hcell⟩ := hr.some (by simpa using hne)
  rw [hf] at hv
  injection hv with e1 e2 e3
  rw [flat_u] at hcell
  have hlc := run_loadCells_list (P := P) w ad (l.map fun c => Value.int .u8 (c.toNat : Int)) hcell
  rw [List.length_map] at hlc
  have h := run_convert_bytes_string (P := P) w u t e (some ad) l.length cp hu he ht
  have h2 := run_bytesToString (P := P) w ad l.length cp (l.map fun c => (c.toNat : Int)) (by rw [hlc, List.map_map]; rfl)
  rw [push_u] at h2
  have he2 : n = l.length := e2
  simp [execOp, hs.eval hx, hf, he2, h, h2]
end
end Go.Proofs.YtacndicgpkeobaaGreatDoor
namespace Go.Proofs.YtacndicgpkeobaaGreatDoor

def upZ (n b : Int) : Int := (n + b - 1) / b
def firstE : List Int → Int
  | [] => 0
  | e :: t => if e = 0 then firstE t else e
def ckGas (o h : Int) : Int := if ¬ (0 ≤ o ∧ o ≤ 1000 ∧ 0 ≤ h ∧ h ≤ 1000) then 2 else if o + h > 1000 then 23 else 0
structure Cp where
  n : Int
  h : Int
  b : Int
  s : Int
structure Rg where
  lo : Int
  hi : Int
structure Ld where
  n : Rg
  h : Rg
structure Gs where
  o : Int
  h : Int
structure Lg where
  f : Int
  t : Int
  s : Int
  g : Gs
def okCp (c : Cp) : Prop := 1 ≤ c.n ∧ c.n ≤ 100000 ∧ 1 ≤ c.h ∧ c.h ≤ 100000 ∧ 0 ≤ c.b ∧ c.b ≤ 10000 ∧ 1000 ≤ c.s ∧ c.s ≤ 10000
instance (c : Cp) : Decidable (okCp c) := by unfold okCp; infer_instance
def okPr (p : Int) : Prop := 400 ≤ p ∧ p ≤ 31100
instance (p : Int) : Decidable (okPr p) := by unfold okPr; infer_instance
/-! ### Square roots -/
/-! ### Lists -/
theorem drop_cons {α : Type} {l : List α} {k : Nat} {x : α} (h : l[k]? = some x) : l.drop k = x :: l.drop (k + 1) := by
  obtain ⟨hk, hx⟩ := List.getElem?_eq_some_iff.1 h
  rw [List.drop_eq_getElem_cons hk, hx]
theorem get_some {α : Type} (l : List α) {k : Nat} (h : k < l.length) : ∃ x, l[k]? = some x := ⟨l[k], List.getElem?_eq_getElem h⟩
theorem map_get {α β : Type} (f : α → β) {l : List α} {k : Nat} {x : α} (h : l[k]? = some x) : (l.map f)[k]? = some (f x) := by rw [List.getElem?_map, h]; rfl
theorem drop_all {α : Type} {l : List α} {k : Nat} (h : l.length ≤ k) : l.drop k = [] := List.drop_eq_nil_of_le h
theorem firstE_step {es : List Int} {k : Nat} {e : Int} (h : es[k]? = some e) : firstE (es.drop k) = if e = 0 then firstE (es.drop (k + 1)) else e := by rw [drop_cons h]; rfl
/-! ### Closing lemmas -/
theorem ckGas_e (o h : Int) : firstE [if 0 ≤ o ∧ o ≤ 1000 then 0 else 2, if 0 ≤ h ∧ h ≤ 1000 then 0 else 2] = if 0 ≤ o ∧ o ≤ 1000 ∧ 0 ≤ h ∧ h ≤ 1000 then 0 else 2 := by
  simp only [firstE]
  (repeat' split) <;> omega
theorem ckGas_a {o h : Int} (hc : firstE [if 0 ≤ o ∧ o ≤ 1000 then 0 else 2, if 0 ≤ h ∧ h ≤ 1000 then 0 else 2] ≠ 0) : firstE [if 0 ≤ o ∧ o ≤ 1000 then 0 else 2, if 0 ≤ h ∧ h ≤ 1000 then 0 else 2] = ckGas o h := by
  rw [ckGas_e] at hc ⊢
  unfold ckGas
  split at hc
  · omega
  · rename_i hn; rw [if_neg hn, if_pos hn]
theorem ckGas_b {o h : Int} (hc : ¬ firstE [if 0 ≤ o ∧ o ≤ 1000 then 0 else 2, if 0 ≤ h ∧ h ≤ 1000 then 0 else 2] ≠ 0) : ckGas o h = if 1000 < o + h then 23 else 0 := by
  rw [ckGas_e] at hc
  unfold ckGas
  split at hc
  · rename_i hp; rw [if_neg (by omega)]
  · omega
theorem ckGas_c {o h : Int} (hc : ¬ firstE [if 0 ≤ o ∧ o ≤ 1000 then 0 else 2, if 0 ≤ h ∧ h ≤ 1000 then 0 else 2] ≠ 0) : 0 ≤ o ∧ o ≤ 1000 ∧ 0 ≤ h ∧ h ≤ 1000 := by
  rw [ckGas_e] at hc
  split at hc
  · assumption
  · omega
end Go.Proofs.YtacndicgpkeobaaGreatDoor
namespace Go.Proofs.YtacndicgpkeobaaGreatDoor
open Go.RowKit
abbrev Tx := List UInt8
/-! ### Numerals of at most four digits -/
def numF : Tx → Int → Option Int
  | [], n => some n
  | c :: r, n => if c.toNat < 48 ∨ c.toNat > 57 then none else numF r (10 * n + ((c.toNat : Int) - 48))
def numA (l : Tx) : Nat := if l.head?.map (·.toNat) = some 45 then 1 else 0
def numM (l : Tx) (d : Nat) : Option Int :=
  if l.length = numA l ∨ l.length - numA l > d ∨ ((l.drop (numA l)).head?.map (·.toNat) = some 48 ∧ l.length > 1) then none
  else (numF (l.drop (numA l)) 0).map fun n => if numA l = 1 then -n else n
def isD (c : UInt8) : Bool := decide (48 ≤ c.toNat ∧ c.toNat ≤ 57)
structure dgP (n : Nat) (l : Tx) : Prop where
  at_ : Lib.atoiAll l = .ok (n : Int)
  nu : numM l 4 = some (n : Int)
  dg : ∀ c ∈ l, isD c = true
  le : l.length ≤ 4
  ne : 1 ≤ l.length
/-! ### Cutting -/
def cutF (m : UInt8) : Tx → Tx → List Tx
  | cur, [] => [cur]
  | cur, c :: r => if c = m then cur :: cutF m [] r else cutF m (cur ++ [c]) r
theorem cutF_no {m : UInt8} : ∀ {l cur : Tx}, (∀ c ∈ l, c ≠ m) → cutF m cur l = [cur ++ l]
  | [], cur, _ => by unfold cutF; rw [List.append_nil]
  | c :: r, cur, h => by
    unfold cutF
    rw [if_neg (h c (List.mem_cons_self ..)), cutF_no fun x hx => h x (List.mem_cons_of_mem _ hx), List.append_assoc]
    rfl
theorem cutF_at {m : UInt8} {b : Tx} : ∀ {l cur : Tx}, (∀ c ∈ l, c ≠ m) → cutF m cur (l ++ m :: b) = (cur ++ l) :: cutF m [] b
  | [], cur, _ => by show cutF m cur (m :: b) = _; rw [cutF, if_pos rfl, List.append_nil]
  | c :: r, cur, h => by
    show cutF m cur (c :: (r ++ m :: b)) = _
    rw [cutF, if_neg (h c (List.mem_cons_self ..)), cutF_at fun x hx => h x (List.mem_cons_of_mem _ hx), List.append_assoc]
    rfl
/-! ### A number, digit by digit -/
def dgU (m : Nat) : UInt8 := UInt8.ofNat (48 + m % 10)
theorem dgU_nat (m : Nat) : ((dgU m).toNat : Int) = 48 + (m : Int) % 10 := by
  unfold dgU
  rw [UInt8.toNat_ofNat']
  omega
theorem w8 {n : Int} (h : 0 ≤ n ∧ n ≤ 255) : IntKind.u8.wrap n = n := by
  have : IntKind.u8.wrap n = n % 256 := rfl
  omega
def decJ (m : Nat) (s : Tx) : Tx := if m = 0 then s else Lib.decDigits m ++ s
theorem decJ_0 (s : Tx) : decJ 0 s = s := rfl
theorem decJ_n {n : Nat} (h : n ≠ 0) : decJ n [] = Lib.decDigits n := by unfold decJ; rw [if_neg h, List.append_nil]
theorem decJ_s {m : Nat} {s : Tx} (h : m ≠ 0) : decJ m s = decJ (m / 10) (dgU m :: s) := by
  unfold decJ
  rw [if_neg h]
  by_cases h1 : m / 10 = 0
  · rw [if_pos h1, Lib.decDigits, dif_pos (by omega)]
    unfold dgU
    rw [show m % 10 = m by omega]
    rfl
  · rw [if_neg h1, Lib.decDigits, dif_neg (by omega)]
    unfold dgU
    rw [List.append_assoc]
    rfl
theorem dig_0 : Lib.decDigits 0 = [48] := by rw [Lib.decDigits, dif_pos (by decide)]; rfl
theorem itoa_n (n : Nat) : Lib.itoa (n : Int) = Lib.decDigits n := by unfold Lib.itoa; rw [if_neg (by omega)]; rfl
section
variable {l : Tx} {k d : Nat} {c : UInt8} {n : Int}
theorem numA_le : numA l ≤ 1 ∧ numA l ≤ l.length := by
  unfold numA
  cases l with
  | nil => simp
  | cons c r => split <;> simp
theorem numA_1 (h : l[0]? = some c) (hc : (c.toNat : Int) = 45) : numA l = 1 := by
  unfold numA
  rw [List.head?_eq_getElem?, h, Option.map_some, if_pos (by rw [Option.some.injEq]; omega)]
theorem numA_0 (h : l[0]? = some c) (hc : ¬ (c.toNat : Int) = 45) : numA l = 0 := by
  unfold numA
  rw [List.head?_eq_getElem?, h, Option.map_some, if_neg (by rw [Option.some.injEq]; omega)]
theorem numA_n (h : ¬ l.length > 0) : numA l = 0 := by
  have : l = [] := List.eq_nil_of_length_eq_zero (by omega)
  subst this
  rfl
theorem num_1 (h : l.length = numA l) : numM l d = none := if_pos (.inl h)
theorem num_2 (h : l.length - numA l > d) : numM l d = none := if_pos (.inr (.inl h))
theorem head_at (hc : l[numA l]? = some c) : (l.drop (numA l)).head?.map (·.toNat) = some c.toNat := by rw [List.head?_drop, hc]; rfl
theorem num_3 (hc : l[numA l]? = some c) (h : (c.toNat : Int) = 48) (h2 : l.length > 1) : numM l d = none := by
  refine if_pos (.inr (.inr ⟨?_, h2⟩))
  rw [head_at hc]
  exact congrArg some (by omega)
theorem num_4 (h1 : ¬ l.length = numA l) (h2 : ¬ l.length - numA l > d) (hc : l[numA l]? = some c) (h3 : ¬ ((c.toNat : Int) = 48 ∧ l.length > 1)) : numM l d = (numF (l.drop (numA l)) 0).map fun n => if numA l = 1 then -n else n := by
  refine if_neg ?_
  rintro (h | h | h)
  · exact h1 h
  · exact h2 h
  · rw [head_at hc, Option.some.injEq] at h
    exact h3 ⟨by omega, h.2⟩
theorem nf_bad (hc : l[k]? = some c) (h : (c.toNat : Int) < 48 ∨ (c.toNat : Int) > 57) : numF (l.drop k) n = none := by
  rw [drop_cons hc, numF, if_pos (by omega)]
theorem nf_ok (hc : l[k]? = some c) (h1 : ¬ (c.toNat : Int) < 48) (h2 : ¬ (c.toNat : Int) > 57) : numF (l.drop k) n = numF (l.drop (k + 1)) (10 * n + ((c.toNat : Int) - 48)) := by
  rw [drop_cons hc, numF, if_neg (by omega)]
theorem nf_end (h : l.length ≤ k) : numF (l.drop k) n = some n := by rw [List.drop_eq_nil_of_le h]; rfl
theorem p10_s {a : Nat} (h : a ≤ k) : (10 : Int) ^ (k + 1 - a) = 10 * 10 ^ (k - a) := by
  rw [show k + 1 - a = (k - a) + 1 by omega, Int.pow_succ, Int.mul_comm]
theorem p10_le (h : k ≤ 17) : (1 : Int) ≤ 10 ^ k ∧ (10 : Int) ^ k ≤ 100000000000000000 := by
  have : ∀ j, j < 18 → (1 : Int) ≤ 10 ^ j ∧ (10 : Int) ^ j ≤ 100000000000000000 := by decide
  exact this k (by omega)
/-! ### Pieces -/
theorem cut_y {m : UInt8} {cur : Tx} (hc : l[k]? = some c) (h : (c.toNat : Int) = (m.toNat : Int)) : cutF m cur (l.drop k) = cur :: cutF m [] (l.drop (k + 1)) := by
  have e : c = m := UInt8.toNat_inj.1 (by omega)
  rw [drop_cons hc, cutF, if_pos e]
theorem cut_n {m : UInt8} {cur : Tx} (hc : l[k]? = some c) (h : ¬ (c.toNat : Int) = (m.toNat : Int)) : cutF m cur (l.drop k) = cutF m (cur ++ [c]) (l.drop (k + 1)) := by
  have e : c ≠ m := fun e => h (by rw [e])
  rw [drop_cons hc, cutF, if_neg e]
theorem cut_e {m : UInt8} {cur : Tx} (h : l.length ≤ k) : cutF m cur (l.drop k) = [cur] := by rw [List.drop_eq_nil_of_le h]; rfl
theorem cur_s {f : Nat} (hc : l[k]? = some c) (hf : f ≤ k) : (l.take k).drop f ++ [c] = (l.take (k + 1)).drop f := by
  have hk : k < l.length := (List.getElem?_eq_some_iff.1 hc).1
  rw [List.take_add_one, hc, List.drop_append, Option.toList_some, show f - (l.take k).length = 0 by rw [List.length_take]; omega, List.drop_zero]
theorem cur_0 : (l.take k).drop k = [] := List.drop_eq_nil_of_le (by rw [List.length_take]; omega)
theorem cur_e {f : Nat} (h : l.length ≤ k) : (l.take k).drop f = l.drop f := by rw [List.take_of_length_le h]
end
end Go.Proofs.YtacndicgpkeobaaGreatDoor
