/-
  The calculus: arrays as values, slices of slices, structs compared. Conditions: none; no program in sight.
-/
import Derived.Test.YtdmnejfpbbmcaaaShUse
import Derived.Laws.StructEq
import Derived.Laws.Slices
namespace Go.Proofs.Ytdmnejfpbbmcaaa
open Go.RowKit

section
variable {P : Program} (T : Tab P) {N : Fr} {B : Nat} {w0 : World} {E : Env} {rs : List Res} {dst : Option Tmp} {ty : TypeId} {pos : String} {aft : Array Edge} {gd : Option (Nat × Bool)}

theorem q_indexV {t e m : TypeId} {sz bs : Nat} {zs : List Value} {x y : Operand} {cs : List Value} {k : IntKind} {i : Int} {u : Value} (he : lkT T.el t = some (e, m, true)) (ht : lkT T.ty e = some (false, sz, bs, zs)) (hx : ev E x = some (.agg cs.toArray)) (hy : ev E y = some (.int k i))
    (h0 : 0 ≤ i) (h1 : i < m) (hu : cs[i.toNat * sz]? = some u) : Qu P N B w0 E rs ⟨dst, .index t x y, ty, pos, aft, gd⟩ u := by
  intro a w hs
  have hu' : P.underlying t = some (.array m e) := by
    rcases T.el_ok _ (lkT_mem he) with ⟨h, _⟩ | ⟨_, h⟩
    · cases h
    · exact h
  have h2 := T.isAgg ht w
  have h3 := T.sizeOf ht w
  simp only at h2 h3
  simp [execOp, hs.eval hx, hs.eval hy, Instr.index, run_underlying hu', asIntOf, h0, h1, h3, part, h2, hu]

theorem q_buildArr {t e m : TypeId} {ag ag' : Bool} {sz bs sz' bs' : Nat} {zs zs' : List Value} {ps : Array (Nat × Operand)} {l : List (Nat × Value)} {r : List Value} (he : lkT T.el t = some (e, m, true)) (ht : lkT T.ty t = some (ag, sz, bs, zs)) (hte : lkT T.ty e = some (ag', sz', bs', zs')) (hp : Ytdmnejfpbbmcaaa.parts E ps.toList = some l)
    (hr : fillL ((List.range m).map fun i => (i * sz', sz')) zs (cellsOfParts l) = some r) : Qu P N B w0 E rs ⟨dst, .build t ps, ty, pos, aft, gd⟩ (.agg r.toArray) := by
  intro a w hs
  obtain ⟨z, hz, hzr⟩ := T.zero ht
  have h3 := T.sizeOf hte w
  simp only at hz h3
  have h1 : P.underlying t = some (.array m e) := by
    rcases T.el_ok _ (lkT_mem he) with ⟨h, _⟩ | ⟨_, h⟩
    · cases h
    · exact h
  have h3' := hs.parts hp
  have h4 : (ps.map fun (i, x) => (i, a.eval x)) = l.toArray := Array.ext' (by rw [Array.toList_map]; exact h3')
  have h7 := fill_of (bd := (List.range m).map fun i => (i * sz', sz')) (place := fun i => some (i * sz', sz')) (fun i x hx => by
    rw [List.getElem?_map] at hx
    cases hq : (List.range m)[i]? with
    | none => rw [hq] at hx; cases hx
    | some j =>
      rw [hq] at hx
      have : j = i := by
        obtain ⟨hh, h8⟩ := List.getElem?_eq_some_iff.1 hq
        simpa using h8.symm
      subst this
      exact hx) l z.cells r (by rw [hz]; exact hr)
  simp only [execOp, h4, Instr.build, Sem.run_bind, hzr, Result.andThen_ok, run_underlying h1, h3, h7, Sem.run_pure]

/-! ### Slices of slices -/
def dropV (v : Value) (k sz : Nat) : Value := match v with
  | .slice a n c => sliced a k n c sz
  | u => u
theorem flat_drop : ∀ (l : List (List Value)) (size k : Nat), (∀ x ∈ l, x.length = size) → (l.drop k).flatten = l.flatten.drop (k * size)
  | [], _, _, _ => by simp
  | x :: t, size, 0, _ => by simp
  | x :: t, size, k + 1, he => by
    have hx := he x List.mem_cons_self
    rw [List.drop_succ_cons, flat_drop t size k (fun y hy => he y (List.mem_cons_of_mem _ hy)), List.flatten_cons, Nat.succ_mul, Nat.add_comm, ← List.drop_drop, List.drop_append_of_le_length (by omega), ← hx, List.drop_length, List.nil_append]
theorem drop_rdd {w : World} {v : Value} {size k : Nat} {l : List (List Value)} (h : Rdd w v size l) (hk : k ≤ l.length) : Rdd w (dropV v k size) size (l.drop k) := by
  obtain ⟨A, cap, hv, hc1, hc2⟩ := h.form
  refine ⟨⟨_, cap - k, by rw [hv]; simp only [dropV, sliced, List.length_drop]; rfl, by rw [List.length_drop]; omega, by omega⟩, fun x hx => h.each x (List.mem_of_mem_drop hx), fun h0 => ?_⟩
  rw [List.length_drop] at h0
  obtain ⟨ad, h1, ⟨n, c, h2⟩, h3, h4⟩ := h.some (by omega)
  have hA : A = some ad ∧ n = l.length ∧ c = cap := by
    rw [hv] at h2
    injection h2 with a b c
    exact ⟨a, b.symm, c.symm⟩
  obtain ⟨rfl, rfl, rfl⟩ := hA
  refine ⟨ad.add (k * size), ?_, ⟨l.length - k, c - k, ?_⟩, by rw [add_block]; exact h3, fun j u hj => ?_⟩
  · rw [hv]
    simp only [dropV, sliced]
    rw [if_neg (by omega)]
    rfl
  · rw [hv]
    simp only [dropV, sliced]
    rw [if_neg (by omega)]
    rfl
  · rw [flat_drop l size k h.each, List.getElem?_drop] at hj
    rw [add_add]
    exact h4 _ _ hj
theorem gvd {v : Value} {size k : Nat} {l : List (List Value)} (h : GvR rs v size l) (hk : k ≤ l.length) : GvR rs (dropV v k size) size (l.drop k) := by
  obtain ⟨r, hr, hg⟩ := h
  exact ⟨r, hr, fun B w ho => drop_rdd (hg B w ho) hk⟩
theorem q_from {t e m : TypeId} {ag : Bool} {sz bs : Nat} {zs : List Value} {x y : Operand} {v : Value} {l : List (List Value)} {kd : IntKind} {k : Int} (he : lkT T.el t = some (e, m, false)) (ht : lkT T.ty e = some (ag, sz, bs, zs)) (hx : ev E x = some v) (hy : ev E y = some (.int kd k)) (hg : GvR rs v sz l) (h0 : 0 ≤ k) (h1 : k ≤ l.length) :
    Qu P N B w0 E rs ⟨dst, .slice t x (some y) none none, ty, pos, aft, gd⟩ (dropV v k.toNat sz) := by
  intro a w hs
  obtain ⟨A, cap, hv, hc1, hc2⟩ := (hs.reads hg).form
  have hu : P.underlying t = some (.slice e) := by
    rcases T.el_ok _ (lkT_mem he) with ⟨_, h⟩ | ⟨h, _⟩
    · exact h
    · cases h
  have he' : P.elem t = e := by simp [Program.elem, hu]
  have hu' : P.underlying t = some (.slice (P.elem t)) := by rw [he']; exact hu
  have h3 := T.sizeOf ht w
  simp only at h3
  have hr := run_slice_l (P := P) w t A l.length cap hu' kd k h0 h1
  rw [he', h3] at hr
  simp only [execOp, hs.eval hx, Option.map_some, Option.map_none, hs.eval hy, hv, Sem.run_bind, run_sliceAt_slice (P := P) w t _ _ _ _ hu', hr, Result.andThen_ok, Sem.run_pure, dropV]

/-! ### Structs compared -/
theorem q_eqlS {x y : Operand} {t t' : TypeId} {xs ys : Array Value} {b : Bool} (hx : ev E x = some (.agg xs)) (hy : ev E y = some (.agg ys)) (hg : P.eqGuardType P.depth t = false) (h : ∀ w, (Op.equalIn 10000 t (.agg xs) (.agg ys)).run P w = .ok b w) :
    Qu P N B w0 E rs ⟨dst, .binOp .eql t x y t', ty, pos, aft, gd⟩ (.bool b) :=
  q_cmp hx hy fun w => by simp [run_eqGuard_agg w .eql t x y xs ys hg, run_eql_struct, h w]
theorem q_neqS {x y : Operand} {t t' : TypeId} {xs ys : Array Value} {b c : Bool} (hx : ev E x = some (.agg xs)) (hy : ev E y = some (.agg ys)) (hg : P.eqGuardType P.depth t = false) (h : ∀ w, (Op.equalIn 10000 t (.agg xs) (.agg ys)).run P w = .ok b w) (hc : (!b) = c) :
    Qu P N B w0 E rs ⟨dst, .binOp .neq t x y t', ty, pos, aft, gd⟩ (.bool c) :=
  q_cmp hx hy fun w => by simp [run_eqGuard_agg w .neq t x y xs ys hg, run_neq_struct, h w, hc]

/-! ### Finding what is known -/
class Gv (rs : List Res) (v : Value) (size : outParam Nat) (l : outParam (List (List Value))) : Prop where
  out : GvR rs v size l
instance gvI0 {v : Value} {size : Nat} {l : List (List Value)} {t : List Res} : Gv (rd v size l :: t) v size l := ⟨gr0⟩
instance gvI1 {v : Value} {e size : Nat} {l : List (List Value)} {t : List Res} : Gv (sl v e size l :: t) v size l := ⟨gs0⟩
instance (priority := low) gvI2 {v : Value} {size : Nat} {l : List (List Value)} {r : Res} {t : List Res} [h : Gv t v size l] : Gv (r :: t) v size l := ⟨gv1 h.out⟩
instance gvA {v : Value} {size : Nat} {l : List (List Value)} {a : Res} {s t : List Res} [h : Gv (a :: (s ++ t)) v size l] : Gv ((a :: s) ++ t) v size l := ⟨h.out⟩
instance gvB {v : Value} {size : Nat} {l : List (List Value)} {t : List Res} [h : Gv t v size l] : Gv ([] ++ t) v size l := ⟨h.out⟩
theorem gvo {rs : List Res} {v : Value} {size : Nat} {l : List (List Value)} [h : Gv rs v size l] : GvR rs v size l := h.out
class Bx (rs : List Res) (g : Nat) (t : outParam TypeId) (xs : outParam (List Value)) : Prop where
  out : box g t xs ∈ rs
instance bxI0 {g : Nat} {t : TypeId} {xs : List Value} {r : List Res} : Bx (box g t xs :: r) g t xs := ⟨.head _⟩
instance (priority := low) bxI1 {g : Nat} {t : TypeId} {xs : List Value} {r : Res} {rs : List Res} [h : Bx rs g t xs] : Bx (r :: rs) g t xs := ⟨.tail _ h.out⟩
instance bxA {g : Nat} {u : TypeId} {xs : List Value} {a : Res} {s t : List Res} [h : Bx (a :: (s ++ t)) g u xs] : Bx ((a :: s) ++ t) g u xs := ⟨h.out⟩
instance bxB {g : Nat} {u : TypeId} {xs : List Value} {t : List Res} [h : Bx t g u xs] : Bx ([] ++ t) g u xs := ⟨h.out⟩
theorem bxo {rs : List Res} {g : Nat} {t : TypeId} {xs : List Value} [h : Bx rs g t xs] : box g t xs ∈ rs := h.out

/-! ### The nil slice is the call's own -/
theorem ws_nil {e size : Nat} {w : World} (h : WS B w0 rs w) : WS B w0 (sl (.slice none 0 0) e size [] :: rs) w := by
  refine ⟨h.bel, h.bas, fun r hr => ?_, List.pairwise_cons.2 ⟨fun s _ _ k hk _ => ?_, h.dis⟩⟩
  · rcases List.mem_cons.1 hr with rfl | hr
    · exact sl_ok.2 ⟨⟨by simp, .inl ⟨rfl, rfl⟩⟩, fun x hx => by cases hx⟩
    · exact h.res r hr
  · rw [sl_blk] at hk
    cases hk
theorem C_nil {Q : Exit → Act → World → Prop} {c : Code} (e size : Nat) (h : C P Q N B w0 E (sl (.slice none 0 0) e size [] :: rs) c) : C P Q N B w0 E rs c := C_res (fun _ hw => ws_nil hw) h

/-! ### Calls that give a slice -/
variable {Q : Exit → Act → World → Prop} {ops : Array Oper} {rest : List Oper} {fin : Env → List Res → Prop}
theorem isSl_sinks {e size : Nat} {l : List (List Value)} : ∀ v rs', isSl e size l v rs' → ∀ r ∈ rs', Sinks r := fun v rs' h r hr => by
  unfold isSl at h
  subst h
  simp only [List.mem_singleton] at hr
  subst hr
  exact sl_sinks _ _ _ _
theorem own1 {v : Value} {e size : Nat} {l : List (List Value)} : ∀ r ∈ [sl v e size l], r.own = true := fun r hr => by
  simp only [List.mem_singleton] at hr
  subst hr
  exact sl_own _ _ _ _
theorem L_callS {f : FuncId} {d e size : Nat} {xs : Array Operand} {ts : Array TypeId} {args : List Value} {ps : List (Value × Nat × List (List Value))} {l : List (List Value)} (hen : lkT T.en f = some ()) (hx : evs E xs.toList = some args) (hc : Ct P f args ps (isSl e size l)) (hps : ∀ p ∈ ps, Gives rs p)
    (hN : Nat.blt d N.n = true) (h : ∀ v, L P ops Q N B w0 ((d, v) :: E) (sl v e size l :: rs) rest) : L P ops Q N B w0 E rs (⟨some d, .call { callee := .value (.func f), args := xs, argTypes := ts }, ty, pos, aft, none⟩ :: rest) :=
  L_lo rfl rfl hN (lo_call T hen hx hc hps isSl_sinks) fun u rs' hp => by
    unfold isSl at hp
    subst hp
    exact h u
def isSlN (e size : Nat) (l : List (List Value)) (u : Value) (v : Value) (rs' : List Res) : Prop := ∃ s, v = .tuple #[s, u] ∧ rs' = [sl s e size l]
theorem isSlN_sinks {e size : Nat} {l : List (List Value)} {u : Value} : ∀ v rs', isSlN e size l u v rs' → ∀ r ∈ rs', Sinks r := fun v rs' h r hr => by
  obtain ⟨s, _, h⟩ := h
  subst h
  simp only [List.mem_singleton] at hr
  subst hr
  exact sl_sinks _ _ _ _
theorem L_callSN {f : FuncId} {d e size : Nat} {xs : Array Operand} {ts : Array TypeId} {args : List Value} {ps : List (Value × Nat × List (List Value))} {l : List (List Value)} {u : Value} (hen : lkT T.en f = some ()) (hx : evs E xs.toList = some args) (hc : Ct P f args ps (isSlN e size l u)) (hps : ∀ p ∈ ps, Gives rs p)
    (hN : Nat.blt d N.n = true) (h : ∀ v, L P ops Q N B w0 ((d, .tuple #[v, u]) :: E) (sl v e size l :: rs) rest) : L P ops Q N B w0 E rs (⟨some d, .call { callee := .value (.func f), args := xs, argTypes := ts }, ty, pos, aft, none⟩ :: rest) :=
  L_lo rfl rfl hN (lo_call T hen hx hc hps isSlN_sinks) fun y rs' hp => by
    obtain ⟨s, rfl, hp⟩ := hp
    subst hp
    exact h s
theorem W_callSN {k d e size : Nat} {t : List (Nat × Bool)} {f : FuncId} {o : Oper} {xs : Array Operand} {ts : Array TypeId} {args : List Value} {ps : List (Value × Nat × List (List Value))} {l : List (List Value)} {u : Value} (ho : ops[k]? = some o) (hop : o = ⟨some d, .call { callee := .value (.func f), args := xs, argTypes := ts }, ty, pos, aft, none⟩)
    (hen : lkT T.en f = some ()) (hx : evs E xs.toList = some args) (hc : Ct P f args ps (isSlN e size l u)) (hps : ∀ p ∈ ps, Gives rs p) (hN : Nat.blt d N.n = true) (h : ∀ v, W P ops N B w0 fin t ((d, .tuple #[v, u]) :: E) (sl v e size l :: rs)) : W P ops N B w0 fin ((k, true) :: t) E rs := by
  subst hop
  exact W_lo ho rfl rfl hN (lo_call T hen hx hc hps isSlN_sinks) fun y rs' hp => by
    obtain ⟨s, rfl, hp⟩ := hp
    subst hp
    exact h s
end
end Go.Proofs.Ytdmnejfpbbmcaaa
