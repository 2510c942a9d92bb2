/-
  The steps of the calculus, an operation each: what it yields, what it does to the memory that is known. Conditions: none; no program in sight.
-/
import Derived.Test.YtdmnejfpbbmcaaaShFlow
import Derived.Shelf.Abstract
namespace Go.Proofs.Ytdmnejfpbbmcaaa
open Go.RowKit

/-! ### What is asked of a program's types, as small tables -/
def lkT {α : Type} : List (Nat × α) → Nat → Option α
  | [], _ => none
  | (j, v) :: t, i => match Nat.beq i j with
    | true => some v
    | false => lkT t i
theorem lkT_mem {α : Type} : ∀ {l : List (Nat × α)} {i : Nat} {v : α}, lkT l i = some v → (i, v) ∈ l
  | [], _, _, h => by simp [lkT] at h
  | (j, u) :: t, i, v, h => by
    simp only [lkT] at h
    split at h
    · rename_i hb
      injection h with h
      have := Nat.eq_of_beq_eq_true hb
      subst this; subst h
      exact List.mem_cons_self
    · exact List.mem_cons_of_mem _ (lkT_mem h)

def isAggD : TypeDesc → Bool
  | .struct _ | .array _ _ => true
  | _ => false
def tyF (P : Program) (t : TypeId) (r : Bool × Nat × Nat × List Value) : Prop :=
  ∃ d i z, P.underlying t = some d ∧ P.info? t = some i ∧ isAggD d = r.1 ∧ i.size = r.2.1 ∧ i.bytes = r.2.2.1 ∧ i.zero = some z ∧ z.cells.toList = r.2.2.2
def flF (P : Program) (s : Nat) (off : Nat) : Prop :=
  ∃ fs f j, P.underlying (s / 100) = some (.struct fs) ∧ fs[s % 100]? = some f ∧ P.info? f.type = some j ∧ j.size ≠ 0 ∧ f.offset = off
def elF (P : Program) (t : TypeId) (r : TypeId × Nat × Bool) : Prop :=
  (r.2.2 = false ∧ P.underlying t = some (.slice r.1)) ∨ (r.2.2 = true ∧ P.underlying t = some (.array r.2.1 r.1))
def bdF (P : Program) (t : TypeId) (r : List (Nat × Nat)) : Prop :=
  ∃ fs, P.underlying t = some (.struct fs) ∧ (fs.toList.map fun f => (f.offset, (P.info? f.type).map (·.size))) = r.map fun x => (x.1, some x.2)
def kdF (P : Program) (t : TypeId) (k : IntKind) : Prop := P.underlying t = some (.int k)

structure Tab (P : Program) where
  ty : List (Nat × (Bool × Nat × Nat × List Value))
  fl : List (Nat × Nat)
  el : List (Nat × (Nat × Nat × Bool))
  bd : List (Nat × List (Nat × Nat))
  kd : List (Nat × IntKind)
  en : List (Nat × Unit)
  ty_ok : ∀ p ∈ ty, tyF P p.1 p.2
  fl_ok : ∀ p ∈ fl, flF P p.1 p.2
  el_ok : ∀ p ∈ el, elF P p.1 p.2
  bd_ok : ∀ p ∈ bd, bdF P p.1 p.2
  kd_ok : ∀ p ∈ kd, kdF P p.1 p.2
  en_ok : ∀ p ∈ en, Enters P p.1

section
variable {P : Program} (T : Tab P) {N : Fr} {B : Nat} {w0 : World} {E : Env} {rs : List Res} {dst : Option Tmp} {ty : TypeId} {pos : String} {aft : Array Edge} {gd : Option (Nat × Bool)}

theorem Tab.isAgg {t : TypeId} {r : Bool × Nat × Nat × List Value} (h : lkT T.ty t = some r) (w : World) : (isAgg t).run P w = .ok r.1 w := by
  obtain ⟨d, i, z, hd, hi, hb, hs, hy, hz, hc⟩ := T.ty_ok _ (lkT_mem h)
  simp only at hb
  unfold Go.isAgg
  rw [Sem.run_bind, run_underlying hd w]
  cases d <;> simp_all [isAggD]
theorem Tab.sizeOf {t : TypeId} {r : Bool × Nat × Nat × List Value} (h : lkT T.ty t = some r) (w : World) : (Go.sizeOf t).run P w = .ok r.2.1 w := by
  obtain ⟨d, i, z, hd, hi, hb, hs, hy, hz, hc⟩ := T.ty_ok _ (lkT_mem h)
  simp only at hi hs
  simp [Go.sizeOf, typeInfo, hi, hs]
theorem Tab.zero {t : TypeId} {r : Bool × Nat × Nat × List Value} (h : lkT T.ty t = some r) : ∃ z : Value, z.cells.toList = r.2.2.2 ∧ ∀ w, (zeroValue t).run P w = .ok z w := by
  obtain ⟨d, i, z, hd, hi, hb, hs, hy, hz, hc⟩ := T.ty_ok _ (lkT_mem h)
  simp only at hi hz hc
  exact ⟨z, hc, fun w => by simp [zeroValue, typeInfo, hi, hz]⟩
theorem Tab.field {s off : Nat} (h : lkT T.fl s = some off) (a : Addr) (w : World) : (Instr.fieldAt (s / 100) (.pointer (some a)) (s % 100)).run P w = .ok (.pointer (some (a.add off))) w := by
  obtain ⟨fs, f, j, h1, h2, h3, h4, h5⟩ := T.fl_ok _ (lkT_mem h)
  simp only at h1 h2 h5
  simp [Instr.fieldAt, run_underlying h1, h2, Instr.sureAddr, fieldPlace, Go.sizeOf, typeInfo, h3, h4, h5]

/-! ### Plain values -/
theorem q_move {x : Operand} {v : Value} (hx : ev E x = some v) : Qu P N B w0 E rs ⟨dst, .move x, ty, pos, aft, gd⟩ v := by
  intro a w hs
  simp [execOp, hs.eval hx]
theorem q_assign {x : Operand} {v : Value} (hx : ev E x = some v) : Qu P N B w0 E rs ⟨dst, .assign x, ty, pos, aft, gd⟩ v := by
  intro a w hs
  simp [execOp, hs.eval hx]
theorem q_pickT {c x y : Operand} {v : Value} (hc : ev E c = some (.bool true)) (hx : ev E x = some v) : Qu P N B w0 E rs ⟨dst, .pick c x y, ty, pos, aft, gd⟩ v := by
  intro a w hs
  simp [execOp, hs.eval hx, hs.eval hc, asBool]
theorem q_pickF {c x y : Operand} {v : Value} (hc : ev E c = some (.bool false)) (hy : ev E y = some v) : Qu P N B w0 E rs ⟨dst, .pick c x y, ty, pos, aft, gd⟩ v := by
  intro a w hs
  simp [execOp, hs.eval hy, hs.eval hc, asBool]
theorem q_not {t : TypeId} {x : Operand} {b c : Bool} (hx : ev E x = some (.bool b)) (hc : (!b) = c) : Qu P N B w0 E rs ⟨dst, .unOp .not t x, ty, pos, aft, gd⟩ (.bool c) := by
  intro a w hs
  simp [execOp, hs.eval hx, Op.unary, hc]
section
variable {x y : Operand} {k : IntKind} {m n e : Int} {t t' : TypeId}
theorem q_bin {op : BinOp} {v : Value} (hx : ev E x = some (.int k m)) (hy : ev E y = some (.int k n)) (h : ∀ w, (binOp op t (.int k m) (.int k n)).run P w = .ok v w) : Qu P N B w0 E rs ⟨dst, .binOp op t x y t', ty, pos, aft, gd⟩ v := by
  intro a w hs
  simp [execOp, hs.eval hx, hs.eval hy, eqGuard_at_int, h]
theorem q_add (hx : ev E x = some (.int k m)) (hy : ev E y = some (.int k n)) (he : k.wrap (m + n) = e) : Qu P N B w0 E rs ⟨dst, .binOp .add t x y t', ty, pos, aft, gd⟩ (.int k e) :=
  q_bin hx hy fun w => by simp [binOp_add, Op.intArith, he]
theorem q_sub (hx : ev E x = some (.int k m)) (hy : ev E y = some (.int k n)) (he : k.wrap (m - n) = e) : Qu P N B w0 E rs ⟨dst, .binOp .sub t x y t', ty, pos, aft, gd⟩ (.int k e) :=
  q_bin hx hy fun w => by simp [binOp_sub, Op.intArith, he]
theorem q_mul (hx : ev E x = some (.int k m)) (hy : ev E y = some (.int k n)) (he : k.wrap (m * n) = e) : Qu P N B w0 E rs ⟨dst, .binOp .mul t x y t', ty, pos, aft, gd⟩ (.int k e) :=
  q_bin hx hy fun w => by simp [binOp_mul, Op.intArith, he]
theorem q_quo (hx : ev E x = some (.int k m)) (hy : ev E y = some (.int k n)) (h0 : n ≠ 0) (he : k.wrap (m.tdiv n) = e) : Qu P N B w0 E rs ⟨dst, .binOp .quo t x y t', ty, pos, aft, gd⟩ (.int k e) :=
  q_bin hx hy fun w => by simp [binOp_quo, Op.intDiv, h0, he]
theorem q_rem (hx : ev E x = some (.int k m)) (hy : ev E y = some (.int k n)) (h0 : n ≠ 0) (he : m.tmod n = e) : Qu P N B w0 E rs ⟨dst, .binOp .rem t x y t', ty, pos, aft, gd⟩ (.int k e) :=
  q_bin hx hy fun w => by simp [binOp_rem, Op.intDiv, h0, he]
theorem q_lss (hx : ev E x = some (.int k m)) (hy : ev E y = some (.int k n)) : Qu P N B w0 E rs ⟨dst, .binOp .lss t x y t', ty, pos, aft, gd⟩ (.bool (decide (m < n))) :=
  q_bin hx hy fun w => by simp [binOp_lss]
theorem q_leq (hx : ev E x = some (.int k m)) (hy : ev E y = some (.int k n)) : Qu P N B w0 E rs ⟨dst, .binOp .leq t x y t', ty, pos, aft, gd⟩ (.bool (decide (m ≤ n))) :=
  q_bin hx hy fun w => by simp [binOp_leq]
theorem q_gtr (hx : ev E x = some (.int k m)) (hy : ev E y = some (.int k n)) : Qu P N B w0 E rs ⟨dst, .binOp .gtr t x y t', ty, pos, aft, gd⟩ (.bool (decide (n < m))) :=
  q_bin hx hy fun w => by simp [binOp_gtr]
theorem q_geq (hx : ev E x = some (.int k m)) (hy : ev E y = some (.int k n)) : Qu P N B w0 E rs ⟨dst, .binOp .geq t x y t', ty, pos, aft, gd⟩ (.bool (decide (n ≤ m))) :=
  q_bin hx hy fun w => by simp [binOp_geq]
theorem q_eql (hx : ev E x = some (.int k m)) (hy : ev E y = some (.int k n)) : Qu P N B w0 E rs ⟨dst, .binOp .eql t x y t', ty, pos, aft, gd⟩ (.bool (decide (m = n))) :=
  q_bin hx hy fun w => by
    rw [binOp_eql]
    show Result.ok (Value.bool (m == n)) w = _
    congr 2
theorem q_neq (hx : ev E x = some (.int k m)) (hy : ev E y = some (.int k n)) : Qu P N B w0 E rs ⟨dst, .binOp .neq t x y t', ty, pos, aft, gd⟩ (.bool (decide (m ≠ n))) :=
  q_bin hx hy fun w => by
    rw [binOp_neq]
    show Result.ok (Value.bool (m != n)) w = _
    congr 2
    by_cases h : m = n <;> simp [h]
theorem q_cmp {op : BinOp} {u v r : Value} (hx : ev E x = some u) (hy : ev E y = some v) (h : ∀ w, ((do eqGuard op t x y u v; binOp op t u v : Sem Value)).run P w = .ok r w) : Qu P N B w0 E rs ⟨dst, .binOp op t x y t', ty, pos, aft, gd⟩ r := by
  intro a w hs
  have := h w
  simp only [execOp, hs.eval hx, hs.eval hy, Sem.run_bind] at this ⊢
  rw [this]
  rfl
theorem q_shr {yk : IntKind} {s : Int} (hx : ev E x = some (.int k m)) (hy : ev E y = some (.int yk s)) (h0 : 0 ≤ s) (he : m.fdiv (2 ^ (min s.toNat k.bits)) = e) : Qu P N B w0 E rs ⟨dst, .binOp .shr t x y t', ty, pos, aft, gd⟩ (.int k e) := by
  intro a w hs
  have hn : ¬ s < 0 := by omega
  simp [execOp, hs.eval hx, hs.eval hy, eqGuard_at_int, binOp_shr, Op.shift, hn, he]
theorem q_conv {k' : IntKind} {u : TypeId} {r : Bool × Nat × Nat × List Value} (hu : lkT T.ty u = some r) (hk : lkT T.kd t = some k') (hx : ev E x = some (.int k m)) (he : k'.wrap m = e) :
    Qu P N B w0 E rs ⟨dst, .convert u t x, ty, pos, aft, gd⟩ (.int k' e) := by
  intro a w hs
  have h1 : P.underlying t = some (.int k') := T.kd_ok _ (lkT_mem hk)
  obtain ⟨d, i, z, hd, _⟩ := T.ty_ok _ (lkT_mem hu)
  simp only at hd
  simp [execOp, hs.eval hx, convert, run_underlying h1, run_underlying hd, Conv.intToInt, he]
theorem q_min {ts : Array TypeId} (hx : ev E x = some (.int k m)) (hy : ev E y = some (.int k n)) : Qu P N B w0 E rs ⟨dst, .call { callee := .builtin .min, args := #[x, y], argTypes := ts }, ty, pos, aft, gd⟩ (.int k (min m n)) := by
  intro a w hs
  have : (if n < m then n else m) = min m n := by omega
  simp [execOp, resolve, invoke, builtin, hs.eval hx, hs.eval hy, Builtin.min_, Builtin.min2, this]
theorem q_max {ts : Array TypeId} (hx : ev E x = some (.int k m)) (hy : ev E y = some (.int k n)) : Qu P N B w0 E rs ⟨dst, .call { callee := .builtin .max, args := #[x, y], argTypes := ts }, ty, pos, aft, gd⟩ (.int k (max m n)) := by
  intro a w hs
  have : (if n > m then n else m) = max m n := by omega
  simp [execOp, resolve, invoke, builtin, hs.eval hx, hs.eval hy, Builtin.max_, Builtin.max2, this]
end
theorem q_extract {x : Operand} {vs : Array Value} {i : Nat} {v : Value} (hx : ev E x = some (.tuple vs)) (hv : vs[i]? = some v) : Qu P N B w0 E rs ⟨dst, .extract x i, ty, pos, aft, gd⟩ v := by
  intro a w hs
  simp [execOp, hs.eval hx, Instr.extract, hv]
theorem q_makeFunc {fn : Fn} {xs ys : Array Operand} {us vs : List Value} (hx : evs E xs.toList = some us) (hy : evs E ys.toList = some vs) : Qu P N B w0 E rs ⟨dst, .makeFunc fn xs ys, ty, pos, aft, gd⟩ (.func fn us.toArray vs.toArray) := by
  intro a w hs
  have h1 := hs.evals hx
  have h2 := hs.evals hy
  have h3 : xs.map a.eval = us.toArray := Array.ext' (by rw [Array.toList_map, h1])
  have h4 : ys.map a.eval = vs.toArray := Array.ext' (by rw [Array.toList_map, h2])
  simp [execOp, Instr.makeFunc, h3, h4]

/-! ### Addresses -/
theorem q_field {s off g o i : Nat} {x : Operand} (hf : lkT T.fl (s * 100 + i) = some off) (hi : Nat.blt i 100 = true) (hx : ev E x = some (.pointer (some ⟨g, o, none⟩))) :
    Qu P N B w0 E rs ⟨dst, .fieldAddr s x i, ty, pos, aft, gd⟩ (.pointer (some ⟨g, o + off, none⟩)) := by
  intro a w hs
  have h1 := T.field hf ⟨g, o, none⟩ w
  have hi' := blt_lt hi
  rw [show (s * 100 + i) / 100 = s by omega, show (s * 100 + i) % 100 = i by omega] at h1
  have h2 : Addr.add ⟨g, o, none⟩ off = ⟨g, o + off, none⟩ := Addr.add_lit g o off
  simp [execOp, hs.eval hx, h1, h2]
def elP (v : Value) (n : Nat) : Value := match v with
  | .slice (some a) _ _ => .pointer (some (a.add n))
  | _ => undef
theorem add_add (a : Addr) (i j : Nat) : (a.add i).add j = a.add (i + j) := by
  unfold Addr.add
  by_cases hi : i = 0
  · subst hi; simp
  · by_cases hj : j = 0
    · subst hj; simp [hi]
    · simp [hi, hj, Nat.add_assoc]
theorem Sat.has {r : Res} {a : Act} {w : World} (hs : Sat N B w0 E rs a w) (h : r ∈ rs) : r.ok B w := hs.ws.res r h
theorem Sat.reads {v : Value} {size : Nat} {l : List (List Value)} {a : Act} {w : World} (hs : Sat N B w0 E rs a w) (h : GvR rs v size l) : Rdd w v size l := by
  obtain ⟨r, hr, hg⟩ := h
  exact hg _ _ (hs.ws.res r hr)
theorem q_fieldE {s off i n size : Nat} {v : Value} {x : Operand} {l : List (List Value)} (hf : lkT T.fl (s * 100 + i) = some off) (hi : Nat.blt i 100 = true) (hx : ev E x = some (elP v n)) (hg : GvR rs v size l) (h0 : 0 < l.length) :
    Qu P N B w0 E rs ⟨dst, .fieldAddr s x i, ty, pos, aft, gd⟩ (elP v (n + off)) := by
  intro a w hs
  obtain ⟨ad, _, ⟨m, c, hv⟩, _⟩ := (hs.reads hg).some h0
  subst hv
  have h1 := T.field hf (ad.add n) w
  have hi' := blt_lt hi
  rw [show (s * 100 + i) / 100 = s by omega, show (s * 100 + i) % 100 = i by omega, add_add] at h1
  have hx' : a.eval x = .pointer (some (ad.add n)) := hs.eval hx
  simp [execOp, hx', h1, elP]

theorem q_index {t e m : TypeId} {sz bs : Nat} {ag : Bool} {zs : List Value} {x y : Operand} {v : Value} {size : Nat} {l : List (List Value)} {k : IntKind} {i : Int} (he : lkT T.el t = some (e, m, false)) (hsz : lkT T.ty e = some (ag, sz, bs, zs)) (hx : ev E x = some v) (hy : ev E y = some (.int k i)) (hg : GvR rs v size l)
    (h0 : 0 ≤ i) (h1 : i < l.length) : Qu P N B w0 E rs ⟨dst, .indexAddr t x y, ty, pos, aft, gd⟩ (elP v (i.toNat * sz)) := by
  intro a w hs
  have hrd := hs.reads hg
  obtain ⟨A, cap, hv, _, _⟩ := hrd.form
  obtain ⟨ad, _, ⟨n', cap', hv'⟩, _, _⟩ := hrd.some (by omega)
  have hA : A = some ad := by rw [hv] at hv'; injection hv'
  subst hA
  have ht : P.underlying t = some (.slice e) := by
    rcases T.el_ok _ (lkT_mem he) with ⟨_, h⟩ | ⟨h, _⟩
    · exact h
    · cases h
  have hsz' := T.sizeOf hsz w
  simp [execOp, hs.eval hx, hs.eval hy, hv, Instr.indexAt, run_underlying ht, asIntOf, h0, h1, hsz', elP]
theorem q_indexP {t e m : TypeId} {sz bs : Nat} {ag : Bool} {zs : List Value} {x y : Operand} {g o : Nat} {k : IntKind} {i : Int} (he : lkT T.el t = some (e, m, true)) (hsz : lkT T.ty e = some (ag, sz, bs, zs))
    (hx : ev E x = some (.pointer (some ⟨g, o, none⟩))) (hy : ev E y = some (.int k i)) (h0 : 0 ≤ i) (h1 : i < m) : Qu P N B w0 E rs ⟨dst, .indexAddr t x y, ty, pos, aft, gd⟩ (.pointer (some ⟨g, o + i.toNat * sz, none⟩)) := by
  intro a w hs
  have ht : P.underlying t = some (.array m e) := by
    rcases T.el_ok _ (lkT_mem he) with ⟨h, _⟩ | ⟨_, h⟩
    · cases h
    · exact h
  have hsz' := T.sizeOf hsz w
  have h2 : Addr.add ⟨g, o, none⟩ (i.toNat * sz) = ⟨g, o + i.toNat * sz, none⟩ := Addr.add_lit g o _
  simp [execOp, hs.eval hx, hs.eval hy, Instr.indexAt, run_underlying ht, asIntOf, Instr.sureAddr, h0, h1, hsz', h2]

/-! ### Loads -/
theorem box_cell {g : Nat} {bt : TypeId} {xs : List Value} {w : World} (h : (box g bt xs).ok B w) (i : Nat) : w.cell? ⟨g, i, none⟩ = xs[i]? := by
  rw [cell_of_row w g i _ _ _ (box_ok.1 h).2]
  simp
theorem run_loadVar1 {t : TypeId} {sz bs : Nat} {zs : List Value} {ad : Addr} {w : World} {v : Value} (ht : lkT T.ty t = some (false, sz, bs, zs)) (hc : w.cell? ad = some v) : (loadVar t ad).run P w = .ok v w := by
  have h1 := T.isAgg ht w
  simp only at h1
  simp [loadVar, h1, hc]
theorem run_loadVarA {t : TypeId} {sz bs : Nat} {zs : List Value} {ad : Addr} {w : World} {cs : List Value} (ht : lkT T.ty t = some (true, sz, bs, zs)) (hl : cs.length = sz) (hc : ∀ j v, cs[j]? = some v → w.cell? (ad.add j) = some v) :
    (loadVar t ad).run P w = .ok (.agg cs.toArray) w := by
  have h1 := T.isAgg ht w
  have h2 := T.sizeOf ht w
  have h3 := run_loadCells_list (P := P) w ad cs hc
  simp only at h1 h2
  rw [hl] at h3
  simp [loadVar, h1, h2, h3]
theorem q_load {t bt : TypeId} {sz bs : Nat} {zs : List Value} {x : Operand} {g o : Nat} {xs : List Value} {v : Value} (ht : lkT T.ty t = some (false, sz, bs, zs)) (hx : ev E x = some (.pointer (some ⟨g, o, none⟩))) (hr : box g bt xs ∈ rs) (hv : xs[o]? = some v) :
    Qu P N B w0 E rs ⟨dst, .load t x, ty, pos, aft, gd⟩ v := by
  intro a w hs
  have hc := box_cell (hs.has hr) o
  rw [hv] at hc
  simp [execOp, hs.eval hx, Instr.loadAt, Instr.sureAddr, run_loadVar1 T ht hc]
def cut (xs : List Value) (o n : Nat) : List Value := (xs.drop o).take n
theorem cut_get {xs : List Value} {o n j : Nat} {v : Value} (h : (cut xs o n)[j]? = some v) : xs[o + j]? = some v := by
  unfold cut at h
  rw [List.getElem?_take] at h
  split at h
  · rwa [List.getElem?_drop] at h
  · cases h
theorem q_loadA {t bt : TypeId} {sz bs : Nat} {zs : List Value} {x : Operand} {g o : Nat} {xs cs : List Value} (ht : lkT T.ty t = some (true, sz, bs, zs)) (hx : ev E x = some (.pointer (some ⟨g, o, none⟩))) (hr : box g bt xs ∈ rs) (hv : cut xs o sz = cs) (hl : cs.length = sz) :
    Qu P N B w0 E rs ⟨dst, .load t x, ty, pos, aft, gd⟩ (.agg cs.toArray) := by
  intro a w hs
  have h1 := run_loadVarA T (w := w) (ad := ⟨g, o, none⟩) (cs := cs) ht hl (fun j v hj => by
    rw [Addr.add_lit, box_cell (hs.has hr) (o + j)]
    rw [← hv] at hj
    exact cut_get hj)
  simp [execOp, hs.eval hx, Instr.loadAt, Instr.sureAddr, h1]
theorem flat_get : ∀ (l : List (List Value)) (size : Nat), (∀ x ∈ l, x.length = size) → ∀ (i j : Nat) (c : List Value), l[i]? = some c → ∀ u, c[j]? = some u → l.flatten[i * size + j]? = some u
  | [], _, _, i, j, c, hi, _, _ => by simp at hi
  | x :: t, size, he, 0, j, c, hi, u, hj => by
    simp only [List.getElem?_cons_zero, Option.some.injEq] at hi
    subst hi
    have hjl := (List.getElem?_eq_some_iff.1 hj).1
    rw [List.flatten_cons, Nat.zero_mul, Nat.zero_add, List.getElem?_append_left hjl, hj]
  | x :: t, size, he, i + 1, j, c, hi, u, hj => by
    have hx := he x List.mem_cons_self
    have ih := flat_get t size (fun y hy => he y (List.mem_cons_of_mem _ hy)) i j c (by simpa using hi) u hj
    rw [List.flatten_cons, List.getElem?_append_right (by rw [hx, Nat.succ_mul]; omega), hx, ← ih]
    congr 1
    rw [Nat.succ_mul]; omega
theorem rdd_cell {w : World} {v : Value} {size : Nat} {l : List (List Value)} (h : Rdd w v size l) {i j : Nat} {c : List Value} (hi : l[i]? = some c) {u : Value} (hj : c[j]? = some u) :
    ∃ ad m cp, v = .slice (some ad) m cp ∧ w.cell? (ad.add (i * size + j)) = some u := by
  have hil : i < l.length := (List.getElem?_eq_some_iff.1 hi).1
  obtain ⟨ad, _, ⟨n, cap, hv⟩, _, hc⟩ := h.some (by omega)
  refine ⟨ad, n, cap, hv, hc _ _ ?_⟩
  have hcl : c.length = size := h.each c (List.mem_of_getElem? hi)
  have hjl : j < c.length := (List.getElem?_eq_some_iff.1 hj).1
  exact flat_get l size h.each i j c hi u hj
theorem q_loadE {t : TypeId} {sz bs : Nat} {zs : List Value} {x : Operand} {v u : Value} {size i o n : Nat} {l : List (List Value)} {c : List Value} (ht : lkT T.ty t = some (false, sz, bs, zs)) (hx : ev E x = some (elP v n)) (hg : GvR rs v size l)
    (hn : n = i * size + o) (hi : l[i]? = some c) (hu : c[o]? = some u) : Qu P N B w0 E rs ⟨dst, .load t x, ty, pos, aft, gd⟩ u := by
  intro a w hs
  obtain ⟨ad, m, cp, hv, hc⟩ := rdd_cell (hs.reads hg) hi hu
  have hx' := hs.eval hx
  subst hn
  rw [hv] at hx'
  simp only [elP] at hx'
  simp [execOp, hx', Instr.loadAt, Instr.sureAddr, run_loadVar1 T ht hc]
theorem q_loadEA {t : TypeId} {sz bs : Nat} {zs : List Value} {x : Operand} {v : Value} {size i o n : Nat} {l : List (List Value)} {c cs : List Value} (ht : lkT T.ty t = some (true, sz, bs, zs)) (hx : ev E x = some (elP v n)) (hg : GvR rs v size l)
    (hn : n = i * size + o) (hi : l[i]? = some c) (hu : cut c o sz = cs) (hl : cs.length = sz) : Qu P N B w0 E rs ⟨dst, .load t x, ty, pos, aft, gd⟩ (.agg cs.toArray) := by
  intro a w hs
  have hrd := hs.reads hg
  have hil : i < l.length := (List.getElem?_eq_some_iff.1 hi).1
  obtain ⟨ad, _, ⟨m, cap, hv⟩, _, hc⟩ := hrd.some (by omega)
  have hx' := hs.eval hx
  subst hn
  rw [hv] at hx'
  simp only [elP] at hx'
  have h1 := run_loadVarA T (w := w) (ad := ad.add (i * size + o)) (cs := cs) ht hl (fun j u hj => by
    rw [add_add]
    rw [← hu] at hj
    have h2 := cut_get hj
    obtain ⟨ad', m', cp', hv', hc'⟩ := rdd_cell hrd hi h2
    rw [hv] at hv'
    injection hv' with hv' _ _
    injection hv' with hv'
    subst hv'
    rw [← hc', Nat.add_assoc])
  simp [execOp, hx', Instr.loadAt, Instr.sureAddr, h1]
theorem q_len {t e m ts : TypeId} {x : Operand} {v : Value} {size : Nat} {l : List (List Value)} (he : lkT T.el t = some (e, m, false)) (hx : ev E x = some v) (hg : GvR rs v size l) :
    Qu P N B w0 E rs ⟨dst, .call { callee := .builtin .len, args := #[x], argTypes := #[t] }, ts, pos, aft, gd⟩ (.int .i64 l.length) := by
  intro a w hs
  obtain ⟨A, cap, hv, _, _⟩ := (hs.reads hg).form
  have ht : P.underlying t = some (.slice e) := by
    rcases T.el_ok _ (lkT_mem he) with ⟨_, h⟩ | ⟨h, _⟩
    · exact h
    · cases h
  simp [execOp, resolve, invoke, builtin, hs.eval hx, hv, Builtin.len_, run_underlying ht, goInt]
end
end Go.Proofs.Ytdmnejfpbbmcaaa
