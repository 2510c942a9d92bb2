/-
  The calculus: a strings.Builder that a call has made itself: what is written to it, what it gives; readers of what stood ahead of the call. Conditions: those in front of each theorem.
-/
import Derived.Test.YtacndicgpkeobaaGreatDoorShCopy
import Derived.Laws.IdiomRangeMap
import Derived.Laws.Concat
import Derived.Laws.BytesArg
import Derived.Test.YtacndicgpkeobaaGreatDoorMod2
import Derived.Lib.ItoaNum
import Derived.Lib.AtoiAllCases
import Derived.Lib.Strings
import Derived.Test.YtacndicgpkeobaaGreatDoorAs8
import Derived.Lib.ItoaLen
import Derived.Test.YtacndicgpkeobaaGreatDoorAs3
import Derived.Lib.LaidTab
import Derived.Lib.SmallJoins
import Derived.Test.YtacndicgpkeobaaGreatDoorArgB
import Derived.LaidLaws
import Derived.LaidMore
import Derived.MakeChecks
import Derived.Lib.Builder
namespace Go.Proofs.YtacndicgpkeobaaGreatDoor
open Go.RowKit

structure MapE (es : Array MapEntry) (clock : Nat) (l : List (ByteArray × Value)) : Prop where
  old : ∀ e ∈ es.toList, e.born < clock
  nod : (es.toList.map (·.born)).Nodup
  sub : ∀ e ∈ es.toList, ∃ p ∈ l, e.key = .string p.1 ∧ e.val = p.2
  all : ∀ p ∈ l, ∃ e ∈ es.toList, e.key = .string p.1 ∧ e.val = p.2
def lookV (l : List (ByteArray × Value)) (z : Value) (s : ByteArray) : Value := match l.find? (fun p => p.1.data.toList == s.data.toList) with
  | some p => .tuple #[p.2, .bool true]
  | none => .tuple #[z, .bool false]
structure KnB (P : Program) (gk t : Nat) (l : List (ByteArray × Value)) (z : Value) (w : World) (bm : Nat) (es : Array MapEntry) (clock : Nat) : Prop where
  gl : w.cell? ⟨gk, 0, none⟩ = some (.map (some bm))
  hb : w.heap[bm]? = some (.map es clock)
  en : MapE es clock l
  look : ∀ w', w'.heap[bm]? = some (.map es clock) → ∀ s : ByteArray, s.size ≤ maxLen → (Instr.lookup t (.map (some bm)) (.string s) true).run P w' = .ok (lookV l z s) w'
def KnW (P : Program) (gk t : Nat) (l : List (ByteArray × Value)) (z : Value) (w : World) : Prop := ∃ bm es clock, KnB P gk t l z w bm es clock
section
variable {P : Program} {gk t : Nat} {l : List (ByteArray × Value)} {z : Value} {w w' w0 : World} {bm : Nat} {es : Array MapEntry} {clock : Nat}
theorem cell_block {w : World} {b o : Nat} {v : Value} (h : w.cell? ⟨b, o, none⟩ = some v) : b < w.heap.size := by
  rcases Nat.lt_or_ge b w.heap.size with h9 | h9
  · exact h9
  · have h8 : w.heap[b]? = none := Array.getElem?_eq_none h9
    simp [World.cell?, h8] at h
theorem KnB.later (h : KnB P gk t l z w bm es clock) (hb : Below w.heap.size w w') : KnB P gk t l z w' bm es clock := by
  have h1 := cell_block h.gl
  have h2 := (Array.getElem?_eq_some_iff.1 h.hb).1
  exact ⟨by rw [← h.gl]; exact World.cell?_of_block (hb.block gk h1), (hb.block bm h2).trans h.hb, h.en, h.look⟩
theorem KnW.later (h : KnW P gk t l z w) (hb : Below w.heap.size w w') : KnW P gk t l z w' := by
  obtain ⟨bm, es, clock, h⟩ := h
  exact ⟨bm, es, clock, h.later hb⟩
def CtK (P : Program) (gk t : Nat) (l : List (ByteArray × Value)) (z : Value) (f : FuncId) (args : List Value) (ps : List (Value × Nat × List (List Value))) (post : Value → List Res → Prop) : Prop :=
  ∀ w, KnW P gk t l z w → (∀ p ∈ ps, Rdd w p.1 p.2.1 p.2.2) → Calls P f args.toArray w fun e w' => ∃ v rs', e = .returned v ∧ Below w.heap.size w w' ∧ post v rs' ∧ (∀ r ∈ rs', r.ok w.heap.size w') ∧ (∀ r ∈ rs', r.own = true) ∧ Disj rs'
theorem CtK.of {N : Nat} {f : FuncId} {fn : Func} {c : Code} {args : List Value} {ps : List (Value × Nat × List (List Value))} {post : Value → List Res → Prop} (hf : P.funcs[f]? = some fn) (hb : fn.body = some c) (hN : fn.ntmps = N) (hle : Nat.ble args.length N = true)
    (h : ∀ w, KnW P gk t l z w → C P (bodyPost P fn (PostOf post w)) ⟨N, [], none⟩ w.heap.size w (argE 0 args) (rdOf ps) c) : CtK P gk t l z f args ps post := by
  intro w hk hw
  have h9 : Ct P f args ps post ∨ True := .inr trivial
  clear h9
  refine calls_of_wp hf hb ((wpIn_wide (n := 0)).1 (h w hk _ _ ⟨⟨Below.refl _ _, Nat.le_refl _, fun r hr => ?_, disj_rd ps⟩, ?_, rfl, fun i v hv => ?_⟩))
  · obtain ⟨p, hp, rfl⟩ := List.mem_map.1 hr
    exact rd_ok.2 (hw p hp)
  · have := Nat.ble_eq.mp hle
    simp [hN]
    omega
  · obtain ⟨_, h1⟩ := lk_argE args 0 i v hv
    simp only [Nat.sub_zero] at h1
    have hl := (List.getElem?_eq_some_iff.1 h1).1
    have h2 := List.getElem?_eq_getElem hl
    rw [h1] at h2
    injection h2 with h2
    simp [Array.getElem?_append, hl, h2]
end
section
variable {P : Program} {N : Fr} {B : Nat} {w0 : World} {E : Env} {rs : List Res} {Q : Exit → Act → World → Prop} {ops : Array Oper} {rest : List Oper} {dst : Option Nat} {ty : TypeId} {pos : String} {aft : Array Edge} {gd : Option (Nat × Bool)}
variable {gk mt : Nat} {ml : List (ByteArray × Value)} {mz : Value} {bm : Nat} {es : Array MapEntry} {clock : Nat}
end
end Go.Proofs.YtacndicgpkeobaaGreatDoor
namespace Go.Proofs.YtacndicgpkeobaaGreatDoor
open Go.RowKit
section
variable {P : Program} {N : Fr} {B : Nat} {w0 : World} {E : Env} {rs : List Res} {Q : Exit → Act → World → Prop} {ops : Array Oper} {rest : List Oper} {dst : Option Nat} {ty : TypeId} {pos : String} {aft : Array Edge} {gd : Option (Nat × Bool)}
theorem q_seq {t t' : TypeId} {x y : Operand} {s u : ByteArray} {b : Bool} (hx : ev E x = some (.string s)) (hy : ev E y = some (.string u)) (hb : (s.data.toList == u.data.toList) = b) : Qu P N B w0 E rs ⟨dst, .binOp .eql t x y t', ty, pos, aft, gd⟩ (.bool b) := by
  refine q_cmp hx hy fun w => ?_
  have g : eqGuard .eql t x y (.string s) (.string u) = pure () := rfl
  rw [g, binOp_string_eql, ByteArray.toList_eq, ByteArray.toList_eq, hb]
  rfl
theorem q_cat {t t' : TypeId} {x y : Operand} {s u r : ByteArray} (hx : ev E x = some (.string s)) (hy : ev E y = some (.string u)) (h : s.size + u.size ≤ 9223372036854775807) (hr : s ++ u = r) : Qu P N B w0 E rs ⟨dst, .binOp .add t x y t', ty, pos, aft, gd⟩ (.string r) := by
  refine q_cmp hx hy fun w => ?_
  have g : eqGuard .add t x y (.string s) (.string u) = pure () := rfl
  have h9 := run_string_add_sum (P := P) w s u h
  rw [g, binOp_string_add]
  simp [h9, hr]
end
end Go.Proofs.YtacndicgpkeobaaGreatDoor
namespace Go.Proofs.YtacndicgpkeobaaGreatDoor
open Go.RowKit
abbrev bs (l : List UInt8) : ByteArray := ⟨l.toArray⟩
theorem bs_size (l : List UInt8) : (bs l).size = l.length := by show l.toArray.size = _; simp
theorem bs_list (l : List UInt8) : (bs l).data.toList = l := rfl
theorem bs_app (a b : List UInt8) : bs a ++ bs b = bs (a ++ b) := by
  apply ByteArray.ext
  simp
def cU (c : UInt8) : List Value := [.int .u8 (c.toNat : Int)]
section
variable {P : Program} {N : Fr} {B : Nat} {w0 : World} {E : Env} {rs : List Res} {Q : Exit → Act → World → Prop} {ops : Array Oper} {rest : List Oper} {dst : Option Nat} {ty : TypeId} {pos : String} {aft : Array Edge} {gd : Option (Nat × Bool)}
variable {t t' : TypeId} {x y z : Operand} {a b l r : List UInt8}
theorem t_eq (hx : ev E x = some (.string (bs a))) (hy : ev E y = some (.string (bs b))) : Qu P N B w0 E rs ⟨dst, .binOp .eql t x y t', ty, pos, aft, gd⟩ (.bool (decide (a = b))) :=
  q_seq hx hy (by rw [bs_list, bs_list]; by_cases h : a = b <;> simp [h])
theorem t_cat (hx : ev E x = some (.string (bs a))) (hy : ev E y = some (.string (bs b))) (h : a.length + b.length ≤ 9223372036854775807) (hr : a ++ b = r) : Qu P N B w0 E rs ⟨dst, .binOp .add t x y t', ty, pos, aft, gd⟩ (.string (bs r)) :=
  q_cat hx hy (by rw [bs_size, bs_size]; exact h) (by rw [bs_app, hr])
theorem flat_u : ∀ l : List UInt8, (l.map cU).flatten = l.map fun c => Value.int .u8 (c.toNat : Int)
  | [] => rfl
  | c :: r => by simp [cU, flat_u r]
end
end Go.Proofs.YtacndicgpkeobaaGreatDoor
namespace Go.Proofs.YtacndicgpkeobaaGreatDoor
open Go.RowKit
abbrev Tx := List UInt8
/-! ### Numerals of at most four digits -/
def numF : Tx → Int → Option Int
  | [], n => some n
  | c :: r, n => if c.toNat < 48 ∨ c.toNat > 57 then none else numF r (10 * n + ((c.toNat : Int) - 48))
def numA (l : Tx) : Nat := if l.head?.map (·.toNat) = some 45 then 1 else 0
def numM (l : Tx) (d : Nat) : Option Int :=
  if l.length = numA l ∨ l.length - numA l > d ∨ ((l.drop (numA l)).head?.map (·.toNat) = some 48 ∧ l.length > 1) then none
  else (numF (l.drop (numA l)) 0).map fun n => if numA l = 1 then -n else n
def isD (c : UInt8) : Bool := decide (48 ≤ c.toNat ∧ c.toNat ≤ 57)
structure dgP (n : Nat) (l : Tx) : Prop where
  at_ : Lib.atoiAll l = .ok (n : Int)
  nu : numM l 4 = some (n : Int)
  dg : ∀ c ∈ l, isD c = true
  le : l.length ≤ 4
  ne : 1 ≤ l.length
/-! ### Cutting -/
/-! ### A number, digit by digit -/
section
variable {l : Tx} {k d : Nat} {c : UInt8} {n : Int}
/-! ### Pieces -/
end
end Go.Proofs.YtacndicgpkeobaaGreatDoor
namespace Go.Proofs.YtacndicgpkeobaaGreatDoor
open Go.RowKit
def nuA (y : Dl) (f : Int) : Nat → Int
  | 0 => y.s
  | 1 => y.d
  | 2 => y.g
  | _ => f
def cNum (y : Dl) (f : Int) : List Value := [.int .i64 y.s, .int .i64 y.d, .int .i64 y.g, .int .i64 f]
theorem num_cell (y : Dl) (f : Int) {j : Nat} (h : j < 4) : (cNum y f)[(j : Int).toNat * 1]? = some (.int .i64 (nuA y f j)) := by
  match j, h with
  | 0, _ => rfl
  | 1, _ => rfl
  | 2, _ => rfl
  | 3, _ => rfl
def ptJ (y : Dl) (f : Int) : Nat → Tx
  | 0 => [108, 101, 103]
  | j + 1 => ptJ y f j ++ ([32] ++ Lib.itoa (nuA y f j))
def lnT (y : Dl) (f : Int) : Tx := ptJ y f 4 ++ [10]
def fiA (F : List Int) (k : Nat) : Int := (F[k]?).getD 0
theorem fiA_get {F : List Int} {k : Nat} {f : Int} (h : F[k]? = some f) : fiA F k = f := by unfold fiA; rw [h]; rfl
def prK (L : List Dl) (F : List Int) : Nat → Tx
  | 0 => []
  | k + 1 => prK L F k ++ lnT (dlA L k) (fiA F k)
def prT (L : List Dl) (F : List Int) : Tx := prK L F L.length
def prE (L : List Dl) (F : List Int) : Tx := if ckSch L F ≠ 0 then [] else prT L F
theorem prE_1 {L : List Dl} {F : List Int} (h : ckSch L F ≠ 0) : prE L F = [] := if_pos h
theorem prE_2 {L : List Dl} {F : List Int} (h : ckSch L F = 0) : prE L F = prT L F := if_neg (fun hh => hh h)
theorem prK_s {L : List Dl} {F : List Int} {k : Nat} {y : Dl} {f : Int} (h : L[k]? = some y) (h2 : F[k]? = some f) : prK L F k ++ ptJ y f 4 ++ [10] = prK L F (k + 1) := by
  rw [prK, dlA_get h, fiA_get h2, lnT, List.append_assoc]
theorem ptJ_s (t : Tx) (y : Dl) (f : Int) (j : Nat) : t ++ ptJ y f j ++ ([32] ++ Lib.itoa (nuA y f j)) = t ++ ptJ y f (j + 1) := by rw [List.append_assoc]; rfl
theorem num_in {y : Dl} {f : Int} (h : okAn y f) (j : Nat) : -9223372036854775808 ≤ nuA y f j ∧ nuA y f j ≤ 9223372036854775807 := by
  obtain ⟨h1, h2, h3, h4⟩ := h
  match j with
  | 0 => show _ ≤ y.s ∧ y.s ≤ _; omega
  | 1 => show _ ≤ y.d ∧ y.d ≤ _; omega
  | 2 => show _ ≤ y.g ∧ y.g ≤ _; omega
  | j + 3 => show _ ≤ f ∧ f ≤ _; omega
theorem num_len {y : Dl} {f : Int} (h : okAn y f) (j : Nat) : (Lib.itoa (nuA y f j)).length ≤ 21 := Lib.itoa_length_le _ (num_in h j).1 (num_in h j).2
theorem ptJ_len {y : Dl} {f : Int} (h : okAn y f) : ∀ j, (ptJ y f j).length ≤ 3 + 22 * j
  | 0 => Nat.le_refl _
  | j + 1 => by
    have h1 := ptJ_len h j
    have h2 := num_len h j
    rw [ptJ, List.length_append, List.length_append, List.length_singleton]
    omega
theorem prK_len {L : List Dl} {F : List Int} (h : okSch L F) : ∀ k, k ≤ L.length → (prK L F k).length ≤ 92 * k
  | 0, _ => Nat.le_refl _
  | k + 1, hk => by
    obtain ⟨y, f, h1, h2, h3⟩ := sch_at h (k := k) (by omega)
    have h4 := prK_len h k (by omega)
    have h5 := ptJ_len h3 4
    rw [← prK_s h1 h2, List.length_append, List.length_append, List.length_singleton]
    omega
theorem k_st {k : Nat} {s : Int} (hk : k ≤ 60) (hs : 1 ≤ s ∧ s ≤ 3600) : 0 ≤ (k : Int) * s ∧ (k : Int) * s ≤ 216000 := by
  have h1 : (k : Int) * s ≤ 60 * s := Int.mul_le_mul_of_nonneg_right (by omega) (by omega)
  have h2 : 0 ≤ (k : Int) * s := Int.mul_nonneg (by omega) (by omega)
  omega
theorem sy_eq {X x : Asc} {g : Int} (h1 : X.de = x.de) (h2 : X.r = x.r) : syA X g = syA x g := by unfold syA; rw [h1, h2]
end Go.Proofs.YtacndicgpkeobaaGreatDoor
namespace Go.Proofs.YtacndicgpkeobaaGreatDoor
open Go.RowKit
theorem ex_ck1 : ckAsc (exA (ldA 2400000 2400000) 1000) = 0 := by decide
theorem ex_ck2 : ckAsc (exA (ldA 2000000 2000000) 1000) = 0 := by decide
theorem ex_ck3 : ckAsc (exA (ldA 740230 740230) 1000) = 0 := by decide
abbrev exL : List Dl := [⟨60, 500, 0⟩, ⟨600, 500, 0⟩, ⟨60, 0, 0⟩]
abbrev exF : List Int := [0, 0, 0]
theorem sc_ex : ckSch exL exF = 0 := sch_0 (by decide) (by decide) (by unfold all2 all2 all2 all2 okAn; decide)
abbrev exT : Tx := [108, 101, 103, 32, 54, 48, 32, 53, 48, 48, 32, 48, 32, 48, 10, 108, 101, 103, 32, 54, 48, 48, 32, 53, 48, 48, 32, 48, 32, 48, 10, 108, 101, 103, 32, 54, 48, 32, 48, 32, 48, 32, 48, 10]
theorem it_0 : Lib.itoa 0 = [48] := by kernel_rfl
theorem it_60 : Lib.itoa 60 = [54, 48] := by kernel_rfl
theorem it_600 : Lib.itoa 600 = [54, 48, 48] := by kernel_rfl
theorem it_500 : Lib.itoa 500 = [53, 48, 48] := by kernel_rfl
theorem ln_1 : lnT ⟨60, 500, 0⟩ 0 = [108, 101, 103, 32, 54, 48, 32, 53, 48, 48, 32, 48, 32, 48, 10] := by
  show ([108, 101, 103] ++ ([32] ++ Lib.itoa 60) ++ ([32] ++ Lib.itoa 500) ++ ([32] ++ Lib.itoa 0) ++ ([32] ++ Lib.itoa 0)) ++ [10] = _
  rw [it_0, it_60, it_500]
  rfl
theorem ln_2 : lnT ⟨600, 500, 0⟩ 0 = [108, 101, 103, 32, 54, 48, 48, 32, 53, 48, 48, 32, 48, 32, 48, 10] := by
  show ([108, 101, 103] ++ ([32] ++ Lib.itoa 600) ++ ([32] ++ Lib.itoa 500) ++ ([32] ++ Lib.itoa 0) ++ ([32] ++ Lib.itoa 0)) ++ [10] = _
  rw [it_0, it_600, it_500]
  rfl
theorem ln_3 : lnT ⟨60, 0, 0⟩ 0 = [108, 101, 103, 32, 54, 48, 32, 48, 32, 48, 32, 48, 10] := by
  show ([108, 101, 103] ++ ([32] ++ Lib.itoa 60) ++ ([32] ++ Lib.itoa 0) ++ ([32] ++ Lib.itoa 0) ++ ([32] ++ Lib.itoa 0)) ++ [10] = _
  rw [it_0, it_60]
  rfl
theorem pr_ex : prE exL exF = exT := by
  rw [prE_2 sc_ex]
  show ([] ++ lnT ⟨60, 500, 0⟩ 0) ++ lnT ⟨600, 500, 0⟩ 0 ++ lnT ⟨60, 0, 0⟩ 0 = _
  rw [ln_1, ln_2, ln_3]
  rfl
theorem fa_ex : facE ⟨500, 500, 60, 300, 800, 1000, 0⟩ 333 = (633, 0) := by decide
end Go.Proofs.YtacndicgpkeobaaGreatDoor
namespace Go.Proofs.YtacndicgpkeobaaGreatDoor
open Go.RowKit
def Stb (K : World → Prop) : Prop := ∀ w w' : World, K w → Below w.heap.size w w' → K w'
def CtQ (K : World → Prop) (P : Program) (f : FuncId) (args : List Value) (ps : List (Value × Nat × List (List Value))) (post : Value → List Res → Prop) : Prop :=
  ∀ w, K w → (∀ p ∈ ps, Rdd w p.1 p.2.1 p.2.2) → Calls P f args.toArray w fun e w' => ∃ v rs', e = .returned v ∧ Below w.heap.size w w' ∧ post v rs' ∧ (∀ r ∈ rs', r.ok w.heap.size w') ∧ (∀ r ∈ rs', r.own = true) ∧ Disj rs'
section
variable {P : Program} {K : World → Prop}
theorem CtQ.of {N : Nat} {f : FuncId} {fn : Func} {c : Code} {args : List Value} {ps : List (Value × Nat × List (List Value))} {post : Value → List Res → Prop} (hf : P.funcs[f]? = some fn) (hb : fn.body = some c) (hN : fn.ntmps = N) (hle : Nat.ble args.length N = true)
    (h : ∀ w, K w → C P (bodyPost P fn (PostOf post w)) ⟨N, [], none⟩ w.heap.size w (argE 0 args) (rdOf ps) c) : CtQ K P f args ps post := by
  intro w hk hw
  refine calls_of_wp hf hb ((wpIn_wide (n := 0)).1 (h w hk _ _ ⟨⟨Below.refl _ _, Nat.le_refl _, fun r hr => ?_, disj_rd ps⟩, ?_, rfl, fun i v hv => ?_⟩))
  · obtain ⟨p, hp, rfl⟩ := List.mem_map.1 hr
    exact rd_ok.2 (hw p hp)
  · have := Nat.ble_eq.mp hle
    simp [hN]
    omega
  · obtain ⟨_, h1⟩ := lk_argE args 0 i v hv
    simp only [Nat.sub_zero] at h1
    have hl := (List.getElem?_eq_some_iff.1 h1).1
    have h2 := List.getElem?_eq_getElem hl
    rw [h1] at h2
    injection h2 with h2
    simp [Array.getElem?_append, hl, h2]
theorem Ct.q {f : FuncId} {args : List Value} {ps : List (Value × Nat × List (List Value))} {post : Value → List Res → Prop} (h : Ct P f args ps post) : CtQ K P f args ps post := fun w _ hw => h w hw
theorem ctq_law {f : FuncId} {args : List Value} {post : Value → List Res → Prop} (h : ∀ w, K w → Calls P f args.toArray w fun e w' => (∃ v, e = .returned v ∧ post v []) ∧ Below w.heap.size w w') : CtQ K P f args [] post :=
  fun w hk _ => (h w hk).mono fun _ _ ⟨⟨v, he, hp⟩, hb⟩ => ⟨v, [], he, hb, hp, (fun r hr => by cases hr), (fun r hr => by cases hr), List.Pairwise.nil⟩
variable {N : Fr} {w0 : World} {E : Env} {rs : List Res} {dst : Option Nat} {ty : TypeId} {pos : String} {aft : Array Edge} {gd : Option (Nat × Bool)}
theorem lo_callQ (T : Tab P) (st : Stb K) {f : FuncId} {xs : Array Operand} {ts : Array TypeId} {args : List Value} {ps : List (Value × Nat × List (List Value))} {post : Value → List Res → Prop} (hk : K w0) (hen : lkT T.en f = some ()) (hx : evs E xs.toList = some args) (hc : CtQ K P f args ps post) (hps : ∀ p ∈ ps, Gives rs p)
    (hsk : ∀ v rs', post v rs' → ∀ r ∈ rs', Sinks r) : Lo P N w0.heap.size w0 E rs ⟨dst, .call { callee := .value (.func f), args := xs, argTypes := ts }, ty, pos, aft, gd⟩ post := by
  intro a w hs
  have hent : Enters P f := T.en_ok _ (lkT_mem hen)
  have hmap := hs.evals hx
  have hmap' : xs.map a.eval = args.toArray := Array.ext' (by rw [Array.toList_map, hmap])
  refine .inr ⟨f, args.toArray, ?_, ?_⟩
  · simp [execOp, resolve, invoke, Deferred.ofValue, Act.eval, hmap', hent args.toArray w]
  · refine (hc w (st _ _ hk hs.ws.bel) (fun p hp => ?_)).mono ?_
    · exact hs.reads (hps p hp)
    · rintro e w' ⟨v, rs', he, hb, hpost, hok, hown, hd⟩
      exact ⟨v, rs', he, hb, hpost, fun r hr => ⟨hsk v rs' hpost r hr _ _ _ hs.ws.bas (hok r hr), fun k hk => r.ge (hown r hr) (hok r hr) k hk⟩, hd⟩
end
/-! ### What the library's numerals ask: a table, two errors -/
theorem tab_st {P : Program} {n : String} {g : Nat} (hg : P.globalNamed n = some g) (k : IntKind) (zs : List Int) : Stb fun w => Lib.TabIs P w n k zs := fun _ _ h hb => Go.Joins.tab_stays hg h hb (Nat.le_refl _)
section
variable {P : Program} {N : Fr} {B : Nat} {w0 : World} {E : Env} {rs : List Res} {dst : Option Nat} {ty : TypeId} {pos : String} {aft : Array Edge} {gd : Option (Nat × Bool)}
end
end Go.Proofs.YtacndicgpkeobaaGreatDoor
namespace Go.Proofs.YtacndicgpkeobaaGreatDoor
open Go.ChangeShapes Go.WideShapes Go.RowKit
section
variable {P : Program} {W : World} {n : String} {g t e : TypeId} {cs : Array Value} {fuel : Nat} {p : List MemPlace}
theorem tab_of {m : Nat} {k : IntKind} {zs : List Int} (hv : W.var? P n = some cs) (ht : P.underlying t = some (.array m e)) (he : P.underlying e = some (.int k)) (hce : P.cellsOf e = 1) (hct : P.cellsOf t = m)
    (h : DataW.trod (fun _ => ()) P W 0 (fun _ => true) false fuel t cs.toList = some (Lib.tabData k zs, p)) : Lib.TabIs P W n k zs := by
  unfold Lib.TabIs
  rw [hv, ← Lib.cells_of_tab ht he hce hct h]
end
end Go.Proofs.YtacndicgpkeobaaGreatDoor
namespace Go.Proofs.YtacndicgpkeobaaGreatDoor
open Go.ChangeShapes Go.WideShapes Go.RowKit

theorem laid_mem {P : Program} {w : World} : ∀ {l : List (String × DataW Unit)} {ps : List MemPlace}, DataW.LaidVars P w l ps → ∀ {i : Nat} {n : String} {d : DataW Unit}, l[i]? = some (n, d) →
    ∃ g t cs fuel p, P.globalNamed n = some g ∧ (P.globals[g]?).map (·.type) = some t ∧ w.var? P n = some cs ∧ DataW.trod (fun _ => ()) P w 0 (fun _ => true) false fuel t cs.toList = some (d, p)
  | [], _, _, i, n, d, h => by simp at h
  | (n0, d0) :: r, ps, hl, i, n, d, h => by
    obtain ⟨g, t, cs, fuel, p, q, h1, h2, h3, h4, h5, _⟩ := hl
    cases i with
    | zero =>
      simp only [List.getElem?_cons_zero, Option.some.injEq, Prod.mk.injEq] at h
      obtain ⟨rfl, rfl⟩ := h
      exact ⟨g, t, cs, fuel, p, h1, h2, h3, h4⟩
    | succ i => exact laid_mem h5 (by simpa using h)
end Go.Proofs.YtacndicgpkeobaaGreatDoor
namespace Go.Proofs.YtacndicgpkeobaaGreatDoor
open Go.RowKit
def isBas (rs : List Res) : Prop := ∀ r ∈ rs, r.own = false ∧ ∀ B w, r.ok B w → ∀ k, r.blk = some k → k < B
theorem bas_nil : isBas [] := fun _ h => by cases h
section
variable {P : Program}
theorem flat_one : ∀ bs : List Value, (bs.map fun x => [x]).flatten = bs
  | [] => rfl
  | x :: t => by rw [List.map_cons, List.flatten_cons, flat_one t]; rfl
variable {B : Nat} {w0 w w' : World} {b : Nat} {T e : TypeId} {p q v : Value} {bs bs' : List Value} {rs : List Res}
theorem ws_isB (h : WS B w0 (box b T [p, v] :: sl v e 1 (bs.map fun x => [x]) :: rs) w) (hp : p = .pointer none ∨ p = .pointer (some ⟨b, 0, none⟩)) : Lib.IsBuilder T e B b bs w := by
  have h1 := box_ok.1 (h.res _ List.mem_cons_self)
  have h2 := (sl_ok.1 (h.res (sl v e 1 (bs.map fun x => [x])) (List.mem_cons_of_mem _ List.mem_cons_self))).1
  have h3 := (List.pairwise_cons.1 h.dis).1 _ List.mem_cons_self (.inl (box_own _ _ _))
  rw [List.length_map, flat_one] at h2
  have hA : Lib.BuilderAt T e B b p bs w := ⟨h1.1, v, h1.2, h2, fun hv => h3 b (box_blk _ _ _) (by rw [sl_blk]; exact hv)⟩
  rcases hp with rfl | rfl
  · exact .inl hA
  · exact .inr hA
theorem ws_bldX (hr : isBas rs) (h : WS B w0 (box b T [p, v] :: sl v e 1 (bs.map fun x => [x]) :: rs) w) (hb : Below B w w') : WS B w0 rs w' :=
  ⟨h.bel.trans hb, Nat.le_trans h.bas hb.size, fun r hm => r.st (h.res r (List.mem_cons_of_mem _ (List.mem_cons_of_mem _ hm))) hb.size (fun k hk => hb.block k ((hr r hm).2 B w (h.res r (List.mem_cons_of_mem _ (List.mem_cons_of_mem _ hm))) k hk)), (List.pairwise_cons.1 (List.pairwise_cons.1 h.dis).2).2⟩
variable (TT : Tab P) {Q : Exit → Act → World → Prop} {ops : Array Oper} {N : Fr} {E : Env} {rest : List Oper} {d : Nat} {ty : TypeId} {pos : String} {aft : Array Edge} {f : FuncId} {xs : Array Operand} {ts : Array TypeId} {args : List Value} {r : Value}
theorem call_enters (hen : lkT TT.en f = some ()) {a : Act} {dst : Option Nat} (hs : Sat N B w0 E rs a w) (hx : evs E xs.toList = some args) {o : Oper} (ho : o = ⟨dst, .call { callee := .value (.func f), args := xs, argTypes := ts }, ty, pos, aft, none⟩) : (execOp a.eval o).run P w = .ok (.enter f args.toArray) w := by
  subst ho
  have hmap := hs.evals hx
  have hmap' : xs.map a.eval = args.toArray := Array.ext' (by rw [Array.toList_map, hmap])
  have hent : Enters P f := TT.en_ok _ (lkT_mem hen)
  simp [execOp, resolve, invoke, Deferred.ofValue, Act.eval, hmap', hent args.toArray w]
theorem L_bs (hen : lkT TT.en f = some ()) (hx : evs E xs.toList = some args) (hd : Nat.blt d N.n = true) (hr : isBas rs) (hp : p = .pointer none ∨ p = .pointer (some ⟨b, 0, none⟩))
    (law : ∀ w, Lib.IsBuilder T e B b bs w → B ≤ w.heap.size → Calls P f args.toArray w fun x w' => x = .returned r ∧ Below B w w') (h : L P ops Q N B w0 ((d, r) :: E) rs rest) :
    L P ops Q N B w0 E (box b T [p, v] :: sl v e 1 (bs.map fun x => [x]) :: rs) (⟨some d, .call { callee := .value (.func f), args := xs, argTypes := ts }, ty, pos, aft, none⟩ :: rest) := by
  intro a w hs
  refine wpListIn_plain rfl fun K hK => ?_
  refine wpIn_calls (call_enters TT hen hs hx rfl) ((law w (ws_isB hs.ws hp) hs.ws.bas).mono ?_)
  rintro x w' ⟨rfl, hb⟩
  exact ⟨_, rfl, hK _ _ (h _ _ (hs.put hd _ (ws_bldX hr hs.ws hb)))⟩
end
end Go.Proofs.YtacndicgpkeobaaGreatDoor
