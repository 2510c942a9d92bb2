/-
  The calculus: texts: are two alike, one behind the other, a piece of one; an element of an array of structs; calls of functions that are values. Conditions: none; no program in sight.
-/
import Derived.Test.YtibohfipgjljhaaDoorShKn
import Derived.Laws.Concat
namespace Go.Proofs.YtibohfipgjljhaaDoor
open Go.RowKit
section
variable {P : Program} {N : Fr} {B : Nat} {w0 : World} {E : Env} {rs : List Res} {Q : Exit → Act → World → Prop} {ops : Array Oper} {rest : List Oper} {dst : Option Nat} {ty : TypeId} {pos : String} {aft : Array Edge} {gd : Option (Nat × Bool)}
theorem q_seq {t t' : TypeId} {x y : Operand} {s u : ByteArray} {b : Bool} (hx : ev E x = some (.string s)) (hy : ev E y = some (.string u)) (hb : (s.data.toList == u.data.toList) = b) : Qu P N B w0 E rs ⟨dst, .binOp .eql t x y t', ty, pos, aft, gd⟩ (.bool b) := by
  refine q_cmp hx hy fun w => ?_
  have g : eqGuard .eql t x y (.string s) (.string u) = pure () := rfl
  rw [g, binOp_string_eql, ByteArray.toList_eq, ByteArray.toList_eq, hb]
  rfl
theorem q_sne {t t' : TypeId} {x y : Operand} {s u : ByteArray} {b : Bool} (hx : ev E x = some (.string s)) (hy : ev E y = some (.string u)) (hb : (!(s.data.toList == u.data.toList)) = b) : Qu P N B w0 E rs ⟨dst, .binOp .neq t x y t', ty, pos, aft, gd⟩ (.bool b) := by
  refine q_cmp hx hy fun w => ?_
  have g : eqGuard .neq t x y (.string s) (.string u) = pure () := rfl
  rw [g, binOp_string_neq, ByteArray.toList_eq, ByteArray.toList_eq, hb]
  rfl
theorem q_cat {t t' : TypeId} {x y : Operand} {s u r : ByteArray} (hx : ev E x = some (.string s)) (hy : ev E y = some (.string u)) (h : s.size + u.size ≤ 9223372036854775807) (hr : s ++ u = r) : Qu P N B w0 E rs ⟨dst, .binOp .add t x y t', ty, pos, aft, gd⟩ (.string r) := by
  refine q_cmp hx hy fun w => ?_
  have g : eqGuard .add t x y (.string s) (.string u) = pure () := rfl
  have h9 := run_string_add_sum (P := P) w s u h
  rw [g, binOp_string_add]
  simp [h9, hr]
theorem q_sto {t : TypeId} {x y : Operand} {s r : ByteArray} {k : IntKind} {j : Int} (ht : P.underlying t = some .string) (hx : ev E x = some (.string s)) (hy : ev E y = some (.int k j)) (h0 : 0 ≤ j) (h1 : j ≤ s.size) (hr : s.extract 0 j.toNat = r) : Qu P N B w0 E rs ⟨dst, .slice t x none (some y) none, ty, pos, aft, gd⟩ (.string r) := by
  intro a w hs
  have h := run_slice_string_h (P := P) w t s ht k j h0 h1
  simp [execOp, hs.eval hx, hs.eval hy, Instr.sliceAt, run_underlying ht, h, hr]
theorem q_sfrom {t : TypeId} {x y : Operand} {s r : ByteArray} {k : IntKind} {j : Int} (ht : P.underlying t = some .string) (hx : ev E x = some (.string s)) (hy : ev E y = some (.int k j)) (h0 : 0 ≤ j) (h1 : j ≤ s.size) (hr : s.extract j.toNat s.size = r) : Qu P N B w0 E rs ⟨dst, .slice t x (some y) none none, ty, pos, aft, gd⟩ (.string r) := by
  intro a w hs
  have h := run_slice_string_l (P := P) w t s ht k j h0 h1
  simp [execOp, hs.eval hx, hs.eval hy, Instr.sliceAt, run_underlying ht, h, hr]
theorem q_indexVA (T : Tab P) {t e m : TypeId} {sz bs : Nat} {zs : List Value} {x y : Operand} {cs ds : List Value} {k : IntKind} {i : Int} (he : lkT T.el t = some (e, m, true)) (ht : lkT T.ty e = some (true, sz, bs, zs)) (hx : ev E x = some (.agg cs.toArray)) (hy : ev E y = some (.int k i))
    (h0 : 0 ≤ i) (h1 : i < m) (hu : cut cs (i.toNat * sz) sz = ds) : Qu P N B w0 E rs ⟨dst, .index t x y, ty, pos, aft, gd⟩ (.agg ds.toArray) := by
  intro a w hs
  have hu' : P.underlying t = some (.array m e) := by
    rcases T.el_ok _ (lkT_mem he) with ⟨h, _⟩ | ⟨_, h⟩
    · cases h
    · exact h
  have h2 := T.isAgg ht w
  have h3 := T.sizeOf ht w
  simp only at h2 h3
  simp [execOp, hs.eval hx, hs.eval hy, Instr.index, run_underlying hu', asIntOf, h0, h1, h3, part, h2]
  exact hu
theorem W_callC {fin : Env → List Res → Prop} {tl : List (Nat × Bool)} {k d : Nat} {o : Oper} {f : FuncId} {x : Operand} {xs : Array Operand} {ts : Array TypeId} {args caps : List Value} {ps : List (Value × Nat × List (List Value))} {v : Value} (ho : ops[k]? = some o) (hop : o = ⟨some d, .call { callee := .value x, args := xs, argTypes := ts }, ty, pos, aft, none⟩) (hent : Enters P f) (hf : ev E x = some (.func (.func f) #[] caps.toArray)) (hx : evs E xs.toList = some args) (hc : Ct P f (args ++ caps) ps (isV v)) (hps : ∀ p ∈ ps, Gives rs p)
    (hN : Nat.blt d N.n = true) (h : W P ops N B w0 fin tl ((d, v) :: E) rs) : W P ops N B w0 fin ((k, true) :: tl) E rs := by
  subst hop
  exact W_lo ho rfl rfl hN (lo_callC hent hf hx hc hps (fun _ _ hp r hr => by rw [hp.2] at hr; cases hr)) fun u rs' hp => by
    obtain ⟨rfl, rfl⟩ := hp
    exact h
/-- A contract out of a law that says just the value and how the world grows. -/
theorem ct_law {f : FuncId} {args : List Value} {ps : List (Value × Nat × List (List Value))} {v : Value} (h : ∀ w, Calls P f args.toArray w fun e w' => e = .returned v ∧ Below w.heap.size w w') : Ct P f args ps (isV v) :=
  fun w _ => (h w).mono fun _ _ ⟨he, hb⟩ => ⟨v, [], he, hb, ⟨rfl, rfl⟩, (fun r hr => by cases hr), (fun r hr => by cases hr), List.Pairwise.nil⟩
theorem look_eq {ml : List (ByteArray × Value)} {mz v : Value} {gk mt bm clock : Nat} {es : Array MapEntry} {x y : Operand} {s : ByteArray} (hs9 : s.size ≤ maxLen) (hx : ev E x = some (.map (some bm))) (hy : ev E y = some (.string s)) (h : KnB P gk mt ml mz w0 bm es clock) (hv : lookV ml mz s = v) : Qu P N w0.heap.size w0 E rs ⟨dst, .lookup mt x y true, ty, pos, aft, gd⟩ v := hv ▸ q_look hs9 hx hy h
end
end Go.Proofs.YtibohfipgjljhaaDoor
