/-
  The text of a schedule. Conditions: those in front of each theorem; no program in sight.
-/
import Derived.Test.YthilaakeimfedaaGreatDoorSh
import Derived.Test.YthilaakeimfedaaGreatDoorEnc
import Derived.Laws.IdiomRangeMap
import Derived.Laws.Concat
import Derived.Laws.BytesArg
import Derived.Test.YthilaakeimfedaaGreatDoorMod2
import Derived.Lib.ItoaNum
import Derived.Lib.AtoiAllCases
import Derived.Lib.Strings
import Derived.Test.YthilaakeimfedaaGreatDoorAs8
import Derived.Lib.ItoaLen
namespace Go.Proofs.YthilaakeimfedaaGreatDoor
def bAt (s : ByteArray) (i : Nat) : Int := ((s.data[i]?.getD 0).toNat : Int)
theorem bAt_in (s : ByteArray) (i : Nat) : 0 ≤ bAt s i ∧ bAt s i ≤ 255 := by
  unfold bAt
  have := (s.data[i]?.getD 0).toNat_lt
  omega
end Go.Proofs.YthilaakeimfedaaGreatDoor
namespace Go.Proofs.YthilaakeimfedaaGreatDoor
open Go.RowKit

section
variable {P : Program} {Q : Exit → Act → World → Prop} {ops : Array Oper} {N : Fr} {B : Nat} {w0 : World} {E : Env} {rs : List Res} {rest : List Oper} {dst : Option Tmp} {ty : TypeId} {pos : String} {aft : Array Edge} {gd : Option (Nat × Bool)}
theorem lo_callC {f : FuncId} {x : Operand} {xs : Array Operand} {ts : Array TypeId} {args caps : List Value} {ps : List (Value × Nat × List (List Value))} {post : Value → List Res → Prop} (hent : Enters P f) (hf : ev E x = some (.func (.func f) #[] caps.toArray)) (hx : evs E xs.toList = some args) (hc : Ct P f (args ++ caps) ps post) (hps : ∀ p ∈ ps, Gives rs p)
    (hsk : ∀ v rs', post v rs' → ∀ r ∈ rs', Sinks r) : Lo P N B w0 E rs ⟨dst, .call { callee := .value x, args := xs, argTypes := ts }, ty, pos, aft, gd⟩ post := by
  intro a w hs
  have hmap := hs.evals hx
  have hmap' : xs.map a.eval = args.toArray := Array.ext' (by rw [Array.toList_map, hmap])
  refine .inr ⟨f, (args ++ caps).toArray, ?_, ?_⟩
  · have h9 := hent (args ++ caps).toArray w
    simp only [execOp, resolve, hs.eval hf, Deferred.ofValue, hmap', Sem.run_bind, Sem.run_pure, Result.andThen_ok]
    simp [invoke, h9]
  · refine (hc w (fun p hp => ?_)).mono ?_
    · exact hs.reads (hps p hp)
    · rintro e w' ⟨v, rs', he, hb, hpost, hok, hown, hd⟩
      exact ⟨v, rs', he, hb, hpost, fun r hr => ⟨hsk v rs' hpost r hr _ _ _ hs.ws.bas (hok r hr), fun k hk => r.ge (hown r hr) (hok r hr) k hk⟩, hd⟩
theorem L_callC {f : FuncId} {d : Nat} {x : Operand} {xs : Array Operand} {ts : Array TypeId} {args caps : List Value} {ps : List (Value × Nat × List (List Value))} {v : Value} (hent : Enters P f) (hf : ev E x = some (.func (.func f) #[] caps.toArray)) (hx : evs E xs.toList = some args) (hc : Ct P f (args ++ caps) ps (isV v)) (hps : ∀ p ∈ ps, Gives rs p)
    (hN : Nat.blt d N.n = true) (h : L P ops Q N B w0 ((d, v) :: E) rs rest) : L P ops Q N B w0 E rs (⟨some d, .call { callee := .value x, args := xs, argTypes := ts }, ty, pos, aft, none⟩ :: rest) :=
  L_lo rfl rfl hN (lo_callC hent hf hx hc hps (fun _ _ hp r hr => by rw [hp.2] at hr; cases hr)) fun u rs' hp => by
    obtain ⟨rfl, rfl⟩ := hp
    exact h
theorem q_indexS {t : TypeId} {x y : Operand} {s : ByteArray} {k : IntKind} {i : Nat} (ht : P.underlying t = some .string) (hx : ev E x = some (.string s)) (hy : ev E y = some (.int k (i : Int))) (h1 : i < s.size) :
    Qu P N B w0 E rs ⟨dst, .index t x y, ty, pos, aft, gd⟩ (.int .u8 (bAt s i)) := by
  intro a w hs
  have h2 : bAt s i = ((s[i]'h1).toNat : Int) := by
    unfold bAt
    have hi : i < s.data.size := h1
    rw [Array.getElem?_eq_getElem hi]
    rfl
  have h0 : (i : Int) < (s.size : Int) := by omega
  have e := run_index_string (P := P) (w := w) t s k (i : Int) ht
  simp only [execOp, hs.eval hx, hs.eval hy, Sem.run_bind, e]
  simp [h1, h2]
theorem q_neqE {t t' : TypeId} {x y : Operand} {s : ByteArray} (hx : ev E x = some (.string s)) (hy : ev E y = some (.string ⟨#[]⟩)) : Qu P N B w0 E rs ⟨dst, .binOp .neq t x y t', ty, pos, aft, gd⟩ (.bool (decide (1 ≤ s.size))) := by
  refine q_cmp hx hy fun w => ?_
  have g : eqGuard .neq t x y (.string s) (.string ⟨#[]⟩) = pure () := rfl
  have e0 : (⟨#[]⟩ : ByteArray).toList = [] := by simp
  have e : (!(s.toList == (⟨#[]⟩ : ByteArray).toList)) = decide (1 ≤ s.size) := by
    rw [e0]
    by_cases h : 1 ≤ s.size
    · rw [decide_eq_true h]
      have h9 : s.toList ≠ [] := fun hh => by
        have h8 := congrArg List.length hh
        rw [ByteArray.toList_eq, Array.length_toList] at h8
        have h7 : s.size = s.data.size := rfl
        have h6 : s.data.size = 0 := h8
        omega
      cases hl : s.toList with
      | nil => exact absurd hl h9
      | cons => rfl
    · have h0 : s.toList = [] := List.eq_nil_of_length_eq_zero (by rw [ByteArray.toList_eq, Array.length_toList]; have : s.size = s.data.size := rfl; omega)
      rw [decide_eq_false h, h0]
      rfl
  rw [g, binOp_string_neq, e]
  rfl
/-! ### Blocks that end together -/
variable {Q' : Exit → Act → World → Prop} {id id2 id3 : Nat} {y : Code}
end
end Go.Proofs.YthilaakeimfedaaGreatDoor
namespace Go.Proofs.YthilaakeimfedaaGreatDoor
open Go.RowKit

def rb (r : Loop) : Bool → Loop
  | true => r
  | false => { r with state := .done, pending := some .ret }
section
variable {P : Program} {N : Fr} {B : Nat} {w0 : World} {E : Env} {rs RC RC' : List Res} {Q : Exit → Act → World → Prop} {ops : Array Oper} {rest : List Oper}
def Rnd2 (P : Program) (B : Nat) (w0 : World) (l : Nat) (r : Loop) (b : Bool) (args : List Value) (K RC RC' : List Res) : Prop :=
  ∀ own w, (∀ k ∈ K, k ∈ own ∧ k.own = false) → WS B w0 (own ++ (lp l r :: RC)) w →
    RoundIn (fc none) 0 P l r.fn ((r.params.zip args.toArray).foldl (fun tmps (x : Tmp × Value) => tmps.setIfInBounds x.1 x.2) r.tmps) r.assign r.body w (fun e w' => e = .returned (.bool b) ∧ WS B w0 (own ++ (lp l (rb r b) :: RC')) w')

/-! ### The caller's side of a round -/
def RQ2 (B : Nat) (w0 : World) (own : List Res) (l : Nat) (r : Loop) (b : Bool) (RC' : List Res) (e : Ending) (w' : World) : Prop := e = .returned (.bool b) ∧ WS B w0 (own ++ (lp l (rb r b) :: RC')) w'
variable {fn : FuncId} {tmps : Array Value} {p D l : Nat} {assign body : Code} {n : Nat}
theorem Rnd2.of {x : Value} {b : Bool} {K : List Res} (htm : tmps.size = n) (hp : Nat.blt p n = true) (hE : ∀ i v, lk E i = some v → tmps.getD i undef = v)
    (h : ∀ own, C P (asQ P l (RQ2 B w0 own l (lrec fn tmps p assign body D) b RC') body) ⟨n, [], some l⟩ B w0 ((p, x) :: E) (lp l (lrec fn tmps p assign body D) :: (K ++ (RC ++ own))) assign) :
    Rnd2 P B w0 l (lrec fn tmps p assign body D) b [x] K RC RC' := by
  intro own w hK hw
  refine roundIn_of_wpIn trivial ?_
  have hp' : p < tmps.size := by rw [htm]; exact blt_lt hp
  refine h own _ w ⟨?_, by simp [htm], rfl, fun i v hv => ?_⟩
  · have h1 := hw.dups (K := K) (fun k hk => ⟨List.mem_append_left _ (hK k hk).1, (hK k hk).2⟩)
    refine h1.perm ?_
    have e1 : (lp l (lrec fn tmps p assign body D) :: (K ++ (RC ++ own))).Perm (K ++ (lp l (lrec fn tmps p assign body D) :: (RC ++ own))) := perm_front
    refine e1.trans (List.Perm.append_left K ?_)
    have e2 : (own ++ (lp l (lrec fn tmps p assign body D) :: RC)).Perm ((lp l (lrec fn tmps p assign body D) :: RC) ++ own) := List.perm_append_comm
    exact e2.symm
  · rw [lk_cons] at hv
    by_cases hi : i = p
    · rw [if_pos hi] at hv
      injection hv with hv
      subst hv; subst hi
      simp [hp']
    · rw [if_neg hi] at hv
      have := hE i v hv
      simpa [Array.getElem?_setIfInBounds_ne (Ne.symm hi)] using this
/-! ### Rounds with numbers -/
/-! ### The statement -/
/-! ### Results that lie in cells -/
theorem q_nilEl {dst : Option Tmp} {ty : TypeId} {pos : String} {aft : Array Edge} {gd : Option (Nat × Bool)} {x : Operand} {v : Value} {m size : Nat} {l : List (List Value)} (hx : ev E x = some (elP v m)) (hg : GvR rs v size l) (hl : 0 < l.length) : Qu P N B w0 E rs ⟨dst, .nilCheck x, ty, pos, aft, gd⟩ (elP v m) := by
  intro a w hs
  obtain ⟨A, cap, rfl, hA⟩ := GvR.form hs.ws hg
  cases A with
  | none =>
    rw [hA rfl] at hl
    cases hl
  | some ad =>
    have h1 := hs.eval hx
    simp only [elP] at h1 ⊢
    simp [execOp, h1]
end
end Go.Proofs.YthilaakeimfedaaGreatDoor
namespace Go.Proofs.YthilaakeimfedaaGreatDoor
open Go.RowKit

structure MapE (es : Array MapEntry) (clock : Nat) (l : List (ByteArray × Value)) : Prop where
  old : ∀ e ∈ es.toList, e.born < clock
  nod : (es.toList.map (·.born)).Nodup
  sub : ∀ e ∈ es.toList, ∃ p ∈ l, e.key = .string p.1 ∧ e.val = p.2
  all : ∀ p ∈ l, ∃ e ∈ es.toList, e.key = .string p.1 ∧ e.val = p.2
def lookV (l : List (ByteArray × Value)) (z : Value) (s : ByteArray) : Value := match l.find? (fun p => p.1.data.toList == s.data.toList) with
  | some p => .tuple #[p.2, .bool true]
  | none => .tuple #[z, .bool false]
structure KnB (P : Program) (gk t : Nat) (l : List (ByteArray × Value)) (z : Value) (w : World) (bm : Nat) (es : Array MapEntry) (clock : Nat) : Prop where
  gl : w.cell? ⟨gk, 0, none⟩ = some (.map (some bm))
  hb : w.heap[bm]? = some (.map es clock)
  en : MapE es clock l
  look : ∀ w', w'.heap[bm]? = some (.map es clock) → ∀ s : ByteArray, s.size ≤ maxLen → (Instr.lookup t (.map (some bm)) (.string s) true).run P w' = .ok (lookV l z s) w'
def KnW (P : Program) (gk t : Nat) (l : List (ByteArray × Value)) (z : Value) (w : World) : Prop := ∃ bm es clock, KnB P gk t l z w bm es clock
section
variable {P : Program} {gk t : Nat} {l : List (ByteArray × Value)} {z : Value} {w w' w0 : World} {bm : Nat} {es : Array MapEntry} {clock : Nat}
theorem cell_block {w : World} {b o : Nat} {v : Value} (h : w.cell? ⟨b, o, none⟩ = some v) : b < w.heap.size := by
  rcases Nat.lt_or_ge b w.heap.size with h9 | h9
  · exact h9
  · have h8 : w.heap[b]? = none := Array.getElem?_eq_none h9
    simp [World.cell?, h8] at h
theorem KnB.later (h : KnB P gk t l z w bm es clock) (hb : Below w.heap.size w w') : KnB P gk t l z w' bm es clock := by
  have h1 := cell_block h.gl
  have h2 := (Array.getElem?_eq_some_iff.1 h.hb).1
  exact ⟨by rw [← h.gl]; exact World.cell?_of_block (hb.block gk h1), (hb.block bm h2).trans h.hb, h.en, h.look⟩
theorem KnW.later (h : KnW P gk t l z w) (hb : Below w.heap.size w w') : KnW P gk t l z w' := by
  obtain ⟨bm, es, clock, h⟩ := h
  exact ⟨bm, es, clock, h.later hb⟩
def CtK (P : Program) (gk t : Nat) (l : List (ByteArray × Value)) (z : Value) (f : FuncId) (args : List Value) (ps : List (Value × Nat × List (List Value))) (post : Value → List Res → Prop) : Prop :=
  ∀ w, KnW P gk t l z w → (∀ p ∈ ps, Rdd w p.1 p.2.1 p.2.2) → Calls P f args.toArray w fun e w' => ∃ v rs', e = .returned v ∧ Below w.heap.size w w' ∧ post v rs' ∧ (∀ r ∈ rs', r.ok w.heap.size w') ∧ (∀ r ∈ rs', r.own = true) ∧ Disj rs'
theorem CtK.of {N : Nat} {f : FuncId} {fn : Func} {c : Code} {args : List Value} {ps : List (Value × Nat × List (List Value))} {post : Value → List Res → Prop} (hf : P.funcs[f]? = some fn) (hb : fn.body = some c) (hN : fn.ntmps = N) (hle : Nat.ble args.length N = true)
    (h : ∀ w, KnW P gk t l z w → C P (bodyPost P fn (PostOf post w)) ⟨N, [], none⟩ w.heap.size w (argE 0 args) (rdOf ps) c) : CtK P gk t l z f args ps post := by
  intro w hk hw
  have h9 : Ct P f args ps post ∨ True := .inr trivial
  clear h9
  refine calls_of_wp hf hb ((wpIn_wide (n := 0)).1 (h w hk _ _ ⟨⟨Below.refl _ _, Nat.le_refl _, fun r hr => ?_, disj_rd ps⟩, ?_, rfl, fun i v hv => ?_⟩))
  · obtain ⟨p, hp, rfl⟩ := List.mem_map.1 hr
    exact rd_ok.2 (hw p hp)
  · have := Nat.ble_eq.mp hle
    simp [hN]
    omega
  · obtain ⟨_, h1⟩ := lk_argE args 0 i v hv
    simp only [Nat.sub_zero] at h1
    have hl := (List.getElem?_eq_some_iff.1 h1).1
    have h2 := List.getElem?_eq_getElem hl
    rw [h1] at h2
    injection h2 with h2
    simp [Array.getElem?_append, hl, h2]
end
section
variable {P : Program} {N : Fr} {B : Nat} {w0 : World} {E : Env} {rs : List Res} {Q : Exit → Act → World → Prop} {ops : Array Oper} {rest : List Oper} {dst : Option Nat} {ty : TypeId} {pos : String} {aft : Array Edge} {gd : Option (Nat × Bool)}
variable {gk mt : Nat} {ml : List (ByteArray × Value)} {mz : Value} {bm : Nat} {es : Array MapEntry} {clock : Nat}
end
end Go.Proofs.YthilaakeimfedaaGreatDoor
namespace Go.Proofs.YthilaakeimfedaaGreatDoor
open Go.RowKit
section
variable {P : Program} {N : Fr} {B : Nat} {w0 : World} {E : Env} {rs : List Res} {Q : Exit → Act → World → Prop} {ops : Array Oper} {rest : List Oper} {dst : Option Nat} {ty : TypeId} {pos : String} {aft : Array Edge} {gd : Option (Nat × Bool)}
theorem q_seq {t t' : TypeId} {x y : Operand} {s u : ByteArray} {b : Bool} (hx : ev E x = some (.string s)) (hy : ev E y = some (.string u)) (hb : (s.data.toList == u.data.toList) = b) : Qu P N B w0 E rs ⟨dst, .binOp .eql t x y t', ty, pos, aft, gd⟩ (.bool b) := by
  refine q_cmp hx hy fun w => ?_
  have g : eqGuard .eql t x y (.string s) (.string u) = pure () := rfl
  rw [g, binOp_string_eql, ByteArray.toList_eq, ByteArray.toList_eq, hb]
  rfl
theorem q_cat {t t' : TypeId} {x y : Operand} {s u r : ByteArray} (hx : ev E x = some (.string s)) (hy : ev E y = some (.string u)) (h : s.size + u.size ≤ 9223372036854775807) (hr : s ++ u = r) : Qu P N B w0 E rs ⟨dst, .binOp .add t x y t', ty, pos, aft, gd⟩ (.string r) := by
  refine q_cmp hx hy fun w => ?_
  have g : eqGuard .add t x y (.string s) (.string u) = pure () := rfl
  have h9 := run_string_add_sum (P := P) w s u h
  rw [g, binOp_string_add]
  simp [h9, hr]
end
end Go.Proofs.YthilaakeimfedaaGreatDoor
namespace Go.Proofs.YthilaakeimfedaaGreatDoor
open Go.RowKit
abbrev bs (l : List UInt8) : ByteArray := ⟨l.toArray⟩
theorem bs_size (l : List UInt8) : (bs l).size = l.length := by show l.toArray.size = _; simp
theorem bs_list (l : List UInt8) : (bs l).data.toList = l := rfl
theorem bs_app (a b : List UInt8) : bs a ++ bs b = bs (a ++ b) := by
  apply ByteArray.ext
  simp
def cU (c : UInt8) : List Value := [.int .u8 (c.toNat : Int)]
section
variable {P : Program} {N : Fr} {B : Nat} {w0 : World} {E : Env} {rs : List Res} {Q : Exit → Act → World → Prop} {ops : Array Oper} {rest : List Oper} {dst : Option Nat} {ty : TypeId} {pos : String} {aft : Array Edge} {gd : Option (Nat × Bool)}
variable {t t' : TypeId} {x y z : Operand} {a b l r : List UInt8}
theorem t_eq (hx : ev E x = some (.string (bs a))) (hy : ev E y = some (.string (bs b))) : Qu P N B w0 E rs ⟨dst, .binOp .eql t x y t', ty, pos, aft, gd⟩ (.bool (decide (a = b))) :=
  q_seq hx hy (by rw [bs_list, bs_list]; by_cases h : a = b <;> simp [h])
theorem t_cat (hx : ev E x = some (.string (bs a))) (hy : ev E y = some (.string (bs b))) (h : a.length + b.length ≤ 9223372036854775807) (hr : a ++ b = r) : Qu P N B w0 E rs ⟨dst, .binOp .add t x y t', ty, pos, aft, gd⟩ (.string (bs r)) :=
  q_cat hx hy (by rw [bs_size, bs_size]; exact h) (by rw [bs_app, hr])
theorem flat_u : ∀ l : List UInt8, (l.map cU).flatten = l.map fun c => Value.int .u8 (c.toNat : Int)
  | [] => rfl
  | c :: r => by simp [cU, flat_u r]
end
end Go.Proofs.YthilaakeimfedaaGreatDoor
namespace Go.Proofs.YthilaakeimfedaaGreatDoor
open Go.RowKit
abbrev Tx := List UInt8
/-! ### Numerals of at most four digits -/
def numF : Tx → Int → Option Int
  | [], n => some n
  | c :: r, n => if c.toNat < 48 ∨ c.toNat > 57 then none else numF r (10 * n + ((c.toNat : Int) - 48))
def numA (l : Tx) : Nat := if l.head?.map (·.toNat) = some 45 then 1 else 0
def numM (l : Tx) (d : Nat) : Option Int :=
  if l.length = numA l ∨ l.length - numA l > d ∨ ((l.drop (numA l)).head?.map (·.toNat) = some 48 ∧ l.length > 1) then none
  else (numF (l.drop (numA l)) 0).map fun n => if numA l = 1 then -n else n
def isD (c : UInt8) : Bool := decide (48 ≤ c.toNat ∧ c.toNat ≤ 57)
structure dgP (n : Nat) (l : Tx) : Prop where
  at_ : Lib.atoiAll l = .ok (n : Int)
  nu : numM l 4 = some (n : Int)
  dg : ∀ c ∈ l, isD c = true
  le : l.length ≤ 4
  ne : 1 ≤ l.length
/-! ### Cutting -/
/-! ### A number, digit by digit -/
section
variable {l : Tx} {k d : Nat} {c : UInt8} {n : Int}
/-! ### Pieces -/
end
end Go.Proofs.YthilaakeimfedaaGreatDoor
namespace Go.Proofs.YthilaakeimfedaaGreatDoor
open Go.RowKit
def nuA (y : Dl) (f : Int) : Nat → Int
  | 0 => y.s
  | 1 => y.d
  | 2 => y.g
  | _ => f
def cNum (y : Dl) (f : Int) : List Value := [.int .i64 y.s, .int .i64 y.d, .int .i64 y.g, .int .i64 f]
theorem num_cell (y : Dl) (f : Int) {j : Nat} (h : j < 4) : (cNum y f)[(j : Int).toNat * 1]? = some (.int .i64 (nuA y f j)) := by
  match j, h with
  | 0, _ => rfl
  | 1, _ => rfl
  | 2, _ => rfl
  | 3, _ => rfl
def ptJ (y : Dl) (f : Int) : Nat → Tx
  | 0 => [108, 101, 103]
  | j + 1 => ptJ y f j ++ ([32] ++ Lib.itoa (nuA y f j))
def lnT (y : Dl) (f : Int) : Tx := ptJ y f 4 ++ [10]
def fiA (F : List Int) (k : Nat) : Int := (F[k]?).getD 0
theorem fiA_get {F : List Int} {k : Nat} {f : Int} (h : F[k]? = some f) : fiA F k = f := by unfold fiA; rw [h]; rfl
def prK (L : List Dl) (F : List Int) : Nat → Tx
  | 0 => []
  | k + 1 => prK L F k ++ lnT (dlA L k) (fiA F k)
def prT (L : List Dl) (F : List Int) : Tx := prK L F L.length
def prE (L : List Dl) (F : List Int) : Tx := if ckSch L F ≠ 0 then [] else prT L F
theorem prE_1 {L : List Dl} {F : List Int} (h : ckSch L F ≠ 0) : prE L F = [] := if_pos h
theorem prE_2 {L : List Dl} {F : List Int} (h : ckSch L F = 0) : prE L F = prT L F := if_neg (fun hh => hh h)
theorem prK_s {L : List Dl} {F : List Int} {k : Nat} {y : Dl} {f : Int} (h : L[k]? = some y) (h2 : F[k]? = some f) : prK L F k ++ ptJ y f 4 ++ [10] = prK L F (k + 1) := by
  rw [prK, dlA_get h, fiA_get h2, lnT, List.append_assoc]
theorem ptJ_s (t : Tx) (y : Dl) (f : Int) (j : Nat) : t ++ ptJ y f j ++ ([32] ++ Lib.itoa (nuA y f j)) = t ++ ptJ y f (j + 1) := by rw [List.append_assoc]; rfl
theorem num_in {y : Dl} {f : Int} (h : okAn y f) (j : Nat) : -9223372036854775808 ≤ nuA y f j ∧ nuA y f j ≤ 9223372036854775807 := by
  obtain ⟨h1, h2, h3, h4⟩ := h
  match j with
  | 0 => show _ ≤ y.s ∧ y.s ≤ _; omega
  | 1 => show _ ≤ y.d ∧ y.d ≤ _; omega
  | 2 => show _ ≤ y.g ∧ y.g ≤ _; omega
  | j + 3 => show _ ≤ f ∧ f ≤ _; omega
theorem num_len {y : Dl} {f : Int} (h : okAn y f) (j : Nat) : (Lib.itoa (nuA y f j)).length ≤ 21 := Lib.itoa_length_le _ (num_in h j).1 (num_in h j).2
theorem ptJ_len {y : Dl} {f : Int} (h : okAn y f) : ∀ j, (ptJ y f j).length ≤ 3 + 22 * j
  | 0 => Nat.le_refl _
  | j + 1 => by
    have h1 := ptJ_len h j
    have h2 := num_len h j
    rw [ptJ, List.length_append, List.length_append, List.length_singleton]
    omega
theorem prK_len {L : List Dl} {F : List Int} (h : okSch L F) : ∀ k, k ≤ L.length → (prK L F k).length ≤ 92 * k
  | 0, _ => Nat.le_refl _
  | k + 1, hk => by
    obtain ⟨y, f, h1, h2, h3⟩ := sch_at h (k := k) (by omega)
    have h4 := prK_len h k (by omega)
    have h5 := ptJ_len h3 4
    rw [← prK_s h1 h2, List.length_append, List.length_append, List.length_singleton]
    omega
end Go.Proofs.YthilaakeimfedaaGreatDoor
