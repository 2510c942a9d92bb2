/-
  The calculus: the steps in the forms that the written-out walks use. Conditions: none; no program in sight.
-/
import Derived.Test.YtdmnejfpbbmcaaaShFn
namespace Go.Proofs.Ytdmnejfpbbmcaaa
open Go.RowKit

section
variable {r r0 r1 r2 r3 r4 r5 r6 r7 : Res} {t : List Res}
theorem m0 : r ∈ r :: t := .head _
theorem m1 : r ∈ r0 :: r :: t := .tail _ m0
theorem m2 : r ∈ r0 :: r1 :: r :: t := .tail _ m1
variable {v : Value} {e size : Nat} {l : List (List Value)}
theorem gr0 : GvR (rd v size l :: t) v size l := ⟨_, m0, rd_gives _ _ _⟩
theorem gs0 : GvR (sl v e size l :: t) v size l := ⟨_, m0, sl_gives _ _ _ _⟩
theorem gv1 (h : GvR t v size l) : GvR (r0 :: t) v size l := by
  obtain ⟨r, hr, hg⟩ := h
  exact ⟨r, .tail _ hr, hg⟩
theorem no_ps {rs : List Res} : ∀ p ∈ ([] : List (Value × Nat × List (List Value))), Gives rs p := fun _ h => by cases h
theorem ps_cons {rs : List Res} {ps : List (Value × Nat × List (List Value))} (h : GvR rs v size l) (ht : ∀ p ∈ ps, Gives rs p) : ∀ p ∈ (v, size, l) :: ps, Gives rs p := fun p hp => by
  rcases List.mem_cons.1 hp with rfl | hp
  · exact h
  · exact ht p hp
end

section
variable {P : Program} (T : Tab P) {Q : Exit → Act → World → Prop} {ops : Array Oper} {N : Fr} {B : Nat} {w0 : World} {E : Env} {rs : List Res} {rest : List Oper} {ty : TypeId} {pos : String} {aft : Array Edge}
theorem L_alloc {d t sz bs : Nat} {ag : Bool} {zs : List Value} (ht : lkT T.ty t = some (ag, sz, bs, zs)) (hN : Nat.blt d N.n = true) (h : ∀ g, L P ops Q N B w0 ((d, .pointer (some ⟨g, 0, none⟩)) :: E) (box g t zs :: rs) rest) :
    L P ops Q N B w0 E rs (⟨some d, .alloc t, ty, pos, aft, none⟩ :: rest) :=
  L_lo rfl rfl hN (lo_alloc T ht) fun _ _ ⟨g, hv, hr⟩ => by subst hv; subst hr; exact h g
theorem L_box {d t : Nat} {x : Operand} {v : Value} {xs : List Value} (hx : ev E x = some v) (hc : v.cells.toList = xs) (hN : Nat.blt d N.n = true) (h : ∀ g, L P ops Q N B w0 ((d, .pointer (some ⟨g, 0, none⟩)) :: E) (box g t xs :: rs) rest) :
    L P ops Q N B w0 E rs (⟨some d, .box t x, ty, pos, aft, none⟩ :: rest) :=
  L_lo rfl rfl hN (lo_box hx hc) fun _ _ ⟨g, hv, hr⟩ => by subst hv; subst hr; exact h g
theorem L_mk {d e size : Nat} {o : Oper} {xs : List (List Value)} (hq : Lo P N B w0 E rs o (isSl e size xs)) (hd : o.dst = some d) (hg : o.guard = none) (hN : Nat.blt d N.n = true) (h : ∀ v, L P ops Q N B w0 ((d, v) :: E) (sl v e size xs :: rs) rest) :
    L P ops Q N B w0 E rs (o :: rest) :=
  L_lo hd hg hN hq fun v _ hr => by
    unfold isSl at hr
    subst hr
    exact h v
variable {fin : Env → List Res → Prop} {t : List (Nat × Bool)} {k d : Nat}
theorem W_mk {e size : Nat} {o : Oper} {xs : List (List Value)} (ho : ops[k]? = some o) (hq : Lo P N B w0 E rs o (isSl e size xs)) (hd : o.dst = some d) (hg : o.guard = none) (hN : Nat.blt d N.n = true)
    (h : ∀ v, W P ops N B w0 fin t ((d, v) :: E) (sl v e size xs :: rs)) : W P ops N B w0 fin ((k, true) :: t) E rs :=
  W_lo ho hd hg hN hq fun v _ hr => by
    unfold isSl at hr
    subst hr
    exact h v
theorem W_call {f : FuncId} {o : Oper} {xs : Array Operand} {ts : Array TypeId} {args : List Value} {ps : List (Value × Nat × List (List Value))} {v : Value} (ho : ops[k]? = some o) (hop : o = ⟨some d, .call { callee := .value (.func f), args := xs, argTypes := ts }, ty, pos, aft, none⟩)
    (hen : lkT T.en f = some ()) (hx : evs E xs.toList = some args) (hc : Ct P f args ps (isV v)) (hps : ∀ p ∈ ps, Gives rs p) (hN : Nat.blt d N.n = true) (h : W P ops N B w0 fin t ((d, v) :: E) rs) : W P ops N B w0 fin ((k, true) :: t) E rs := by
  subst hop
  exact W_lo ho rfl rfl hN (lo_call T hen hx hc hps (fun _ _ hp r hr => by rw [hp.2] at hr; cases hr)) fun u rs' hp => by
    obtain ⟨rfl, rfl⟩ := hp
    exact h
theorem W_callg {f : FuncId} {j d' : Nat} {want b : Bool} {o : Oper} {xs : Array Operand} {ts : Array TypeId} {args : List Value} {ps : List (Value × Nat × List (List Value))} {v : Value} (ho : ops[k]? = some o) (hop : o = ⟨some d, .call { callee := .value (.func f), args := xs, argTypes := ts }, ty, pos, aft, some (j, want)⟩)
    (hj : (ops[j]?).bind (·.dst) = some d') (hdN : Nat.blt d' N.n = true) (hE : lk E d' = some (.bool b)) (hb : (b == want) = true)
    (hen : lkT T.en f = some ()) (hx : evs E xs.toList = some args) (hc : Ct P f args ps (isV v)) (hps : ∀ p ∈ ps, Gives rs p) (hN : Nat.blt d N.n = true) (h : W P ops N B w0 fin t ((d, v) :: E) rs) : W P ops N B w0 fin ((k, true) :: t) E rs := by
  subst hop
  exact W_log ho rfl rfl hN hj hdN hE hb (lo_call T hen hx hc hps (fun _ _ hp r hr => by rw [hp.2] at hr; cases hr)) fun u rs' hp => by
    obtain ⟨rfl, rfl⟩ := hp
    exact h
theorem L_callg {f : FuncId} {j d d' : Nat} {want b : Bool} {xs : Array Operand} {ts : Array TypeId} {args : List Value} {ps : List (Value × Nat × List (List Value))} {v : Value} 
    (hj : (ops[j]?).bind (·.dst) = some d') (hdN : Nat.blt d' N.n = true) (hE : lk E d' = some (.bool b)) (hb : (b == want) = true)
    (hen : lkT T.en f = some ()) (hx : evs E xs.toList = some args) (hc : Ct P f args ps (isV v)) (hps : ∀ p ∈ ps, Gives rs p) (hN : Nat.blt d N.n = true) (h : L P ops Q N B w0 ((d, v) :: E) rs rest) :
    L P ops Q N B w0 E rs (⟨some d, .call { callee := .value (.func f), args := xs, argTypes := ts }, ty, pos, aft, some (j, want)⟩ :: rest) :=
  L_log rfl rfl hN hj hdN hE hb (lo_call T hen hx hc hps (fun _ _ hp r hr => by rw [hp.2] at hr; cases hr)) fun u rs' hp => by
    obtain ⟨rfl, rfl⟩ := hp
    exact h
end

section
variable {P : Program} {Q Q' : Exit → Act → World → Prop} {ops : Array Oper} {N : Fr} {B : Nat} {w0 : World} {E : Env} {rs : List Res} {y : Code} {id : Nat}
theorem L_blk (h : C P Q N B w0 E rs y) : L P ops (Exit.inBlock id (Exit.then (y.wpIn (fc N.ro) 0 P Q) Q')) N B w0 E rs [] := fun a w hs => h a w hs
theorem C_skip_blk (h : C P Q N B w0 E rs y) : C P (Exit.inBlock id (Exit.then (y.wpIn (fc N.ro) 0 P Q) Q')) N B w0 E rs .skip := fun a w hs => wpIn_skip (h a w hs)
end
end Go.Proofs.Ytdmnejfpbbmcaaa
