/-
  The calculus: a copy into an own slice, the first elements of a slice, bits of small numbers. Conditions: none; no program in sight.
-/
import Derived.Test.YtacndicgpkeobaaGreatDoorShTree
import Derived.Test.YtacndicgpkeobaaGreatDoorShOwn
import Derived.Test.YtacndicgpkeobaaGreatDoorShTreeO
import Derived.Test.YtacndicgpkeobaaGreatDoorShRange
import Derived.Test.YtacndicgpkeobaaGreatDoorSh
import Derived.Laws.CopyRow
namespace Go.Proofs.YtacndicgpkeobaaGreatDoor
open Go.RowKit

def Pk (rs rs' : List Res) : Prop := ∃ d, (rs' ++ d).Perm rs
theorem WS.pk {B : Nat} {w0 w : World} {rs rs' : List Res} (h : WS B w0 rs w) (hp : Pk rs rs') : WS B w0 rs' w := by
  obtain ⟨d, hd⟩ := hp
  exact (h.perm hd).sub (List.sublist_append_left _ _)
section
variable {rs rs1 t : List Res} {r : Res}
theorem pk_cons (h : (r :: rs1).Perm rs) (hp : Pk rs1 t) : Pk rs (r :: t) := by
  obtain ⟨d, hd⟩ := hp
  exact ⟨d, (hd.cons r).trans h⟩
theorem pk_nil : Pk rs [] := ⟨rs, List.Perm.refl _⟩
theorem pk_app {s : List Res} (h : Pk rs (r :: (s ++ t))) : Pk rs ((r :: s) ++ t) := h
theorem pk_app0 (h : Pk rs t) : Pk rs ([] ++ t) := h
theorem pk_app0L (h : Pk rs t) : Pk rs (List.append [] t) := h
class RmB (rs : List Res) (g : Nat) (u : outParam TypeId) (xs : outParam (List Value)) (rs1 : outParam (List Res)) : Prop where
  out : (box g u xs :: rs1).Perm rs
instance rmB0 {g : Nat} {u : TypeId} {xs : List Value} : RmB (box g u xs :: t) g u xs t := ⟨List.Perm.refl _⟩
instance (priority := low) rmB1 {g : Nat} {u : TypeId} {xs : List Value} [h : RmB rs g u xs rs1] : RmB (r :: rs) g u xs (r :: rs1) := ⟨(List.Perm.swap _ _ _).trans (h.out.cons r)⟩
instance rmBA {g : Nat} {u : TypeId} {xs : List Value} {s : List Res} [h : RmB (r :: (s ++ t)) g u xs rs1] : RmB ((r :: s) ++ t) g u xs rs1 := ⟨h.out⟩
instance rmBB {g : Nat} {u : TypeId} {xs : List Value} [h : RmB t g u xs rs1] : RmB ([] ++ t) g u xs rs1 := ⟨h.out⟩
theorem pk_box {g : Nat} {u : TypeId} {xs ys : List Value} [h : RmB rs g u xs rs1] (he : xs = ys) (hp : Pk rs1 t) : Pk rs (box g u ys :: t) := pk_cons (he ▸ h.out) hp
class RmR (rs : List Res) (v : Value) (size : outParam Nat) (l : outParam (List (List Value))) (rs1 : outParam (List Res)) : Prop where
  out : (rd v size l :: rs1).Perm rs
instance rmR0 {v : Value} {size : Nat} {l : List (List Value)} : RmR (rd v size l :: t) v size l t := ⟨List.Perm.refl _⟩
instance (priority := low) rmR1 {v : Value} {size : Nat} {l : List (List Value)} [h : RmR rs v size l rs1] : RmR (r :: rs) v size l (r :: rs1) := ⟨(List.Perm.swap _ _ _).trans (h.out.cons r)⟩
instance rmRA {v : Value} {size : Nat} {l : List (List Value)} {s : List Res} [h : RmR (r :: (s ++ t)) v size l rs1] : RmR ((r :: s) ++ t) v size l rs1 := ⟨h.out⟩
instance rmRB {v : Value} {size : Nat} {l : List (List Value)} [h : RmR t v size l rs1] : RmR ([] ++ t) v size l rs1 := ⟨h.out⟩
theorem pk_rd {v : Value} {size : Nat} {l m : List (List Value)} [h : RmR rs v size l rs1] (he : l = m) (hp : Pk rs1 t) : Pk rs (rd v size m :: t) := pk_cons (he ▸ h.out) hp
class RmS (rs : List Res) (v : Value) (e : outParam Nat) (size : outParam Nat) (l : outParam (List (List Value))) (rs1 : outParam (List Res)) : Prop where
  out : (sl v e size l :: rs1).Perm rs
instance rmS0 {v : Value} {e size : Nat} {l : List (List Value)} : RmS (sl v e size l :: t) v e size l t := ⟨List.Perm.refl _⟩
instance (priority := low) rmS1 {v : Value} {e size : Nat} {l : List (List Value)} [h : RmS rs v e size l rs1] : RmS (r :: rs) v e size l (r :: rs1) := ⟨(List.Perm.swap _ _ _).trans (h.out.cons r)⟩
instance rmSA {v : Value} {e size : Nat} {l : List (List Value)} {s : List Res} [h : RmS (r :: (s ++ t)) v e size l rs1] : RmS ((r :: s) ++ t) v e size l rs1 := ⟨h.out⟩
instance rmSB {v : Value} {e size : Nat} {l : List (List Value)} [h : RmS t v e size l rs1] : RmS ([] ++ t) v e size l rs1 := ⟨h.out⟩
theorem pk_sl {v : Value} {e size : Nat} {l m : List (List Value)} [h : RmS rs v e size l rs1] (he : l = m) (hp : Pk rs1 t) : Pk rs (sl v e size m :: t) := pk_cons (he ▸ h.out) hp
class RmV (rs : List Res) (r : Res) (rs1 : outParam (List Res)) : Prop where
  out : (r :: rs1).Perm rs
instance rmV0 : RmV (r :: t) r t := ⟨List.Perm.refl _⟩
instance (priority := low) rmV1 {s : Res} [h : RmV rs r rs1] : RmV (s :: rs) r (s :: rs1) := ⟨(List.Perm.swap _ _ _).trans (h.out.cons s)⟩
instance rmVA {a : Res} {s : List Res} [h : RmV (a :: (s ++ t)) r rs1] : RmV ((a :: s) ++ t) r rs1 := ⟨h.out⟩
instance rmVB [h : RmV t r rs1] : RmV ([] ++ t) r rs1 := ⟨h.out⟩
theorem pk_var [h : RmV rs r rs1] (hp : Pk rs1 t) : Pk rs (r :: t) := pk_cons h.out hp
class Tl (rs t : List Res) : Prop where
  out : Pk rs t
instance tl0 : Tl t t := ⟨⟨[], by rw [List.append_nil]⟩⟩
instance (priority := low) tl1 [h : Tl rs t] : Tl (r :: rs) t := ⟨by
  obtain ⟨d, hd⟩ := h.out
  exact ⟨r :: d, List.perm_middle.trans (hd.cons r)⟩⟩
instance tlA {s u : List Res} [h : Tl (r :: (s ++ u)) t] : Tl ((r :: s) ++ u) t := ⟨h.out⟩
instance tlB {u : List Res} [h : Tl u t] : Tl ([] ++ u) t := ⟨h.out⟩
theorem pk_tl [h : Tl rs t] : Pk rs t := h.out
end
section
variable {P : Program} (T : Tab P) {Q : Exit → Act → World → Prop} {ops : Array Oper} {N : Fr} {B : Nat} {w0 : World} {E : Env} {rs rs1 : List Res} {rest : List Oper} {ty : TypeId} {pos : String} {aft : Array Edge}
theorem L_st {t bt : TypeId} {ag : Bool} {sz bs : Nat} {zs : List Value} {x y : Operand} {g o : Nat} {xs : List Value} {v : Value} (hx : ev E x = some (.pointer (some ⟨g, o, none⟩))) (hy : ev E y = some v) [hr : RmB rs g bt xs rs1] (h : L P ops Q N B w0 E (box g bt (lay xs o v.cells.toList) :: rs1) rest)
    (ht : lkT T.ty t = some (ag, sz, bs, zs) := by exact rfl) (hl : Nat.beq v.cells.toList.length sz = true := by exact rfl) (h1 : v.cells.toList.all (·.oneCell') = true := by exact rfl) (hb : Nat.ble (o + v.cells.toList.length) xs.length = true := by exact rfl) :
    L P ops Q N B w0 E rs (⟨none, .store t x y, ty, pos, aft, none⟩ :: rest) := L_res (fun _ hw => hw.perm hr.out) (L_store T ht hx hy rfl hl h1 hb rfl h)
theorem L_ap {d : Nat} {t e m : TypeId} {ag : Bool} {sz bs : Nat} {zs : List Value} {x y : Operand} {v u : Value} {l l2 : List (List Value)} (he : lkT T.el t = some (e, m, false)) (ht : lkT T.ty e = some (ag, sz, bs, zs)) (hx : ev E x = some v) (hy : ev E y = some u) [hr : RmS rs v e sz l rs1] (hg : GvR rs1 u sz l2) (h1 : ∀ c ∈ l2.flatten, c.oneCell' = true)
    (hlen : l.length + l2.length ≤ maxLen) (hbyte : (l.length + l2.length) * bs ≤ 140737488355328) (h : ∀ v', L P ops Q N B w0 ((d, v') :: E) (sl v' e sz (l ++ l2) :: rs1) rest) (hzl : zs.length = sz := by exact rfl) (hs0 : 0 < sz := by omega)
    (hN : Nat.blt d N.n = true := by exact rfl) : L P ops Q N B w0 E rs (⟨some d, .call { callee := .builtin .append, args := #[x, y], argTypes := #[t, t] }, ty, pos, aft, none⟩ :: rest) := L_res (fun _ hw => hw.perm hr.out) (L_append T he ht hzl hs0 hx hy hg h1 hlen hbyte hN h)
end
end Go.Proofs.YtacndicgpkeobaaGreatDoor
namespace Go.Proofs.YtacndicgpkeobaaGreatDoor
open Go.RowKit

section
variable {P : Program} (T : Tab P) {Q : Exit → Act → World → Prop} {ops : Array Oper} {N : Fr} {B : Nat} {w0 : World} {E : Env} {rs : List Res} {rest : List Oper} {dst : Option Tmp} {ty : TypeId} {pos : String} {aft : Array Edge}
/-! ### Ends of a function that holds a loop over a function -/
end
end Go.Proofs.YtacndicgpkeobaaGreatDoor
namespace Go.Proofs.YtacndicgpkeobaaGreatDoor
open Go.RowKit
section
variable {P : Program} (T : Tab P) {Q : Exit → Act → World → Prop} {ops : Array Oper} {N : Fr} {B : Nat} {w0 : World} {E : Env} {rs : List Res} {rest : List Oper} {dst : Option Tmp} {ty : TypeId} {pos : String} {aft : Array Edge}
end
end Go.Proofs.YtacndicgpkeobaaGreatDoor
namespace Go.Proofs.YtacndicgpkeobaaGreatDoor.Kp
open Go.RowKit
section
variable {P : Program} {ops : Array Oper} {N : Fr} {B : Nat} {w0 : World} {E : Env} {rn ro : List Res} {k d : Nat} {o : Oper} {K : Env → List Res → Prop}
end
end Go.Proofs.YtacndicgpkeobaaGreatDoor.Kp
namespace Go.Proofs.YtacndicgpkeobaaGreatDoor.Kp
open Go.RowKit
section
variable {P : Program} {ops : Array Oper} {N : Fr} {B : Nat} {w0 : World} {E : Env} {rn ro : List Res} {k d : Nat} {o : Oper} {K : Env → List Res → Prop}
theorem perm2 {r a b : Res} {t : List Res} : (r :: a :: b :: t).Perm (a :: b :: r :: t) := perm_front (pre := [a, b])
theorem perm3 {r a b c : Res} {t : List Res} : (r :: a :: b :: c :: t).Perm (a :: b :: c :: r :: t) := perm_front (pre := [a, b, c])
theorem St_alloc (T : Tab P) {u : TypeId} {sz bs : Nat} {ag : Bool} {zs : List Value} {ty : TypeId} {pos : String} {aft : Array Edge} (ho : ops[k]? = some o) (hop : o = ⟨some d, .alloc u, ty, pos, aft, none⟩) (ht : lkT T.ty u = some (ag, sz, bs, zs)) (hN : Nat.blt d N.n = true)
    (h : ∀ g, K ((d, .pointer (some ⟨g, 0, none⟩)) :: E) (box g u zs :: rn)) : St P ops N B w0 ro k K E rn := by
  subst hop
  exact St_lo ho rfl rfl hN (lo_alloc T ht) fun _ _ ⟨g, hv, hr⟩ => by subst hv; subst hr; exact h g
theorem St_call (T : Tab P) {f : FuncId} {xs : Array Operand} {ts : Array TypeId} {args : List Value} {ps : List (Value × Nat × List (List Value))} {v : Value} {ty : TypeId} {pos : String} {aft : Array Edge} (ho : ops[k]? = some o) (hop : o = ⟨some d, .call { callee := .value (.func f), args := xs, argTypes := ts }, ty, pos, aft, none⟩)
    (hen : lkT T.en f = some ()) (hx : evs E xs.toList = some args) (hc : Ct P f args ps (isV v)) (hps : ∀ p ∈ ps, Gives (rn ++ ro) p) (hN : Nat.blt d N.n = true) (h : K ((d, v) :: E) rn) : St P ops N B w0 ro k K E rn := by
  subst hop
  exact St_v ho rfl rfl hN (lo_call T hen hx hc hps isV_sinks) h
theorem C_treeO0 {ι : Type} {id : Nat} {l : List Oper} {Q : Exit → Act → World → Prop} (tr : Tre) (J : ι → Env × List Res) (hm : P.follows .mixedOrders = true) (hsel : Region.noSelect l.toArray = true) (hn : tr.dep = l.toArray.size) (hB : flowT .any l.toArray tr (Array.replicate l.toArray.size false) = true)
    (h : Z P l.toArray N B w0 (fun E' rs' => ∃ i, ∀ a w, Sat N B w0 E' rs' a w → Sat N B w0 (J i).1 (J i).2 a w) ro tr E []) (hc : ∀ i, L P l.toArray Q N B w0 (J i).1 (J i).2 []) : C P Q N B w0 E ro (.region id l.toArray true) :=
  C_treeO (pre := []) tr J hm hsel hn hB (by intro r hr; cases hr) h hc
end
end Go.Proofs.YtacndicgpkeobaaGreatDoor.Kp
namespace Go.Proofs.YtacndicgpkeobaaGreatDoor
end Go.Proofs.YtacndicgpkeobaaGreatDoor
namespace Go.Proofs.YtacndicgpkeobaaGreatDoor
open Go.RowKit

section
variable {P : Program} {Q : Exit → Act → World → Prop} {ops : Array Oper} {N : Fr} {B : Nat} {w0 : World} {E : Env} {rs : List Res} {rest : List Oper} {dst : Option Tmp} {ty : TypeId} {pos : String} {aft : Array Edge} {gd : Option (Nat × Bool)}
theorem lo_callC {f : FuncId} {x : Operand} {xs : Array Operand} {ts : Array TypeId} {args caps : List Value} {ps : List (Value × Nat × List (List Value))} {post : Value → List Res → Prop} (hent : Enters P f) (hf : ev E x = some (.func (.func f) #[] caps.toArray)) (hx : evs E xs.toList = some args) (hc : Ct P f (args ++ caps) ps post) (hps : ∀ p ∈ ps, Gives rs p)
    (hsk : ∀ v rs', post v rs' → ∀ r ∈ rs', Sinks r) : Lo P N B w0 E rs ⟨dst, .call { callee := .value x, args := xs, argTypes := ts }, ty, pos, aft, gd⟩ post := by
  intro a w hs
  have hmap := hs.evals hx
  have hmap' : xs.map a.eval = args.toArray := Array.ext' (by rw [Array.toList_map, hmap])
  refine .inr ⟨f, (args ++ caps).toArray, ?_, ?_⟩
  · have h9 := hent (args ++ caps).toArray w
    simp only [execOp, resolve, hs.eval hf, Deferred.ofValue, hmap', Sem.run_bind, Sem.run_pure, Result.andThen_ok]
    simp [invoke, h9]
  · refine (hc w (fun p hp => ?_)).mono ?_
    · exact hs.reads (hps p hp)
    · rintro e w' ⟨v, rs', he, hb, hpost, hok, hown, hd⟩
      exact ⟨v, rs', he, hb, hpost, fun r hr => ⟨hsk v rs' hpost r hr _ _ _ hs.ws.bas (hok r hr), fun k hk => r.ge (hown r hr) (hok r hr) k hk⟩, hd⟩
theorem L_callC {f : FuncId} {d : Nat} {x : Operand} {xs : Array Operand} {ts : Array TypeId} {args caps : List Value} {ps : List (Value × Nat × List (List Value))} {v : Value} (hent : Enters P f) (hf : ev E x = some (.func (.func f) #[] caps.toArray)) (hx : evs E xs.toList = some args) (hc : Ct P f (args ++ caps) ps (isV v)) (hps : ∀ p ∈ ps, Gives rs p)
    (hN : Nat.blt d N.n = true) (h : L P ops Q N B w0 ((d, v) :: E) rs rest) : L P ops Q N B w0 E rs (⟨some d, .call { callee := .value x, args := xs, argTypes := ts }, ty, pos, aft, none⟩ :: rest) :=
  L_lo rfl rfl hN (lo_callC hent hf hx hc hps (fun _ _ hp r hr => by rw [hp.2] at hr; cases hr)) fun u rs' hp => by
    obtain ⟨rfl, rfl⟩ := hp
    exact h
/-! ### Blocks that end together -/
variable {Q' : Exit → Act → World → Prop} {id id2 id3 : Nat} {y : Code}
end
end Go.Proofs.YtacndicgpkeobaaGreatDoor
namespace Go.Proofs.YtacndicgpkeobaaGreatDoor
open Go.RowKit

def rb (r : Loop) : Bool → Loop
  | true => r
  | false => { r with state := .done, pending := some .ret }
section
variable {P : Program} {N : Fr} {B : Nat} {w0 : World} {E : Env} {rs RC RC' : List Res} {Q : Exit → Act → World → Prop} {ops : Array Oper} {rest : List Oper}
def Rnd2 (P : Program) (B : Nat) (w0 : World) (l : Nat) (r : Loop) (b : Bool) (args : List Value) (K RC RC' : List Res) : Prop :=
  ∀ own w, (∀ k ∈ K, k ∈ own ∧ k.own = false) → WS B w0 (own ++ (lp l r :: RC)) w →
    RoundIn (fc none) 0 P l r.fn ((r.params.zip args.toArray).foldl (fun tmps (x : Tmp × Value) => tmps.setIfInBounds x.1 x.2) r.tmps) r.assign r.body w (fun e w' => e = .returned (.bool b) ∧ WS B w0 (own ++ (lp l (rb r b) :: RC')) w')

/-! ### The caller's side of a round -/
def RQ2 (B : Nat) (w0 : World) (own : List Res) (l : Nat) (r : Loop) (b : Bool) (RC' : List Res) (e : Ending) (w' : World) : Prop := e = .returned (.bool b) ∧ WS B w0 (own ++ (lp l (rb r b) :: RC')) w'
variable {fn : FuncId} {tmps : Array Value} {p D l : Nat} {assign body : Code} {n : Nat}
theorem Rnd2.of {x : Value} {b : Bool} {K : List Res} (htm : tmps.size = n) (hp : Nat.blt p n = true) (hE : ∀ i v, lk E i = some v → tmps.getD i undef = v)
    (h : ∀ own, C P (asQ P l (RQ2 B w0 own l (lrec fn tmps p assign body D) b RC') body) ⟨n, [], some l⟩ B w0 ((p, x) :: E) (lp l (lrec fn tmps p assign body D) :: (K ++ (RC ++ own))) assign) :
    Rnd2 P B w0 l (lrec fn tmps p assign body D) b [x] K RC RC' := by
  intro own w hK hw
  refine roundIn_of_wpIn trivial ?_
  have hp' : p < tmps.size := by rw [htm]; exact blt_lt hp
  refine h own _ w ⟨?_, by simp [htm], rfl, fun i v hv => ?_⟩
  · have h1 := hw.dups (K := K) (fun k hk => ⟨List.mem_append_left _ (hK k hk).1, (hK k hk).2⟩)
    refine h1.perm ?_
    have e1 : (lp l (lrec fn tmps p assign body D) :: (K ++ (RC ++ own))).Perm (K ++ (lp l (lrec fn tmps p assign body D) :: (RC ++ own))) := perm_front
    refine e1.trans (List.Perm.append_left K ?_)
    have e2 : (own ++ (lp l (lrec fn tmps p assign body D) :: RC)).Perm ((lp l (lrec fn tmps p assign body D) :: RC) ++ own) := List.perm_append_comm
    exact e2.symm
  · rw [lk_cons] at hv
    by_cases hi : i = p
    · rw [if_pos hi] at hv
      injection hv with hv
      subst hv; subst hi
      simp [hp']
    · rw [if_neg hi] at hv
      have := hE i v hv
      simpa [Array.getElem?_setIfInBounds_ne (Ne.symm hi)] using this
/-! ### Rounds with numbers -/
/-! ### The statement -/
/-! ### Results that lie in cells -/
theorem q_nilEl {dst : Option Tmp} {ty : TypeId} {pos : String} {aft : Array Edge} {gd : Option (Nat × Bool)} {x : Operand} {v : Value} {m size : Nat} {l : List (List Value)} (hx : ev E x = some (elP v m)) (hg : GvR rs v size l) (hl : 0 < l.length) : Qu P N B w0 E rs ⟨dst, .nilCheck x, ty, pos, aft, gd⟩ (elP v m) := by
  intro a w hs
  obtain ⟨A, cap, rfl, hA⟩ := GvR.form hs.ws hg
  cases A with
  | none =>
    rw [hA rfl] at hl
    cases hl
  | some ad =>
    have h1 := hs.eval hx
    simp only [elP] at h1 ⊢
    simp [execOp, h1]
end
end Go.Proofs.YtacndicgpkeobaaGreatDoor
namespace Go.Proofs.YtacndicgpkeobaaGreatDoor
open Go.RowKit

theorem flat_take : ∀ (l : List (List Value)) (size k : Nat), (∀ x ∈ l, x.length = size) → (l.take k).flatten = l.flatten.take (k * size)
  | [], _, _, _ => by simp
  | x :: t, size, 0, _ => by simp
  | x :: t, size, k + 1, he => by
    have hx := he x List.mem_cons_self
    rw [List.take_succ_cons, List.flatten_cons, List.flatten_cons, flat_take t size k (fun y hy => he y (List.mem_cons_of_mem _ hy)), Nat.succ_mul, Nat.add_comm, ← hx, List.take_length_add_append]
theorem take_at {l : List Value} {n j : Nat} {u : Value} (h : (l.take n)[j]? = some u) : l[j]? = some u := by
  rw [List.getElem?_take] at h
  split at h
  · exact h
  · cases h
def takeV (v : Value) (k : Nat) : Value := match v with
  | .slice a _ c => .slice (if c = 0 then a else a.map (·.add 0)) k c
  | u => u
theorem add_zero (a : Addr) : a.add 0 = a := by unfold Addr.add; simp
theorem take_rdd {w : World} {v : Value} {size k : Nat} {l : List (List Value)} (h : Rdd w v size l) (hk : k ≤ l.length) : Rdd w (takeV v k) size (l.take k) := by
  obtain ⟨A, cap, hv, hc1, hc2⟩ := h.form
  have e : takeV v k = .slice A k cap := by
    rw [hv]
    unfold takeV
    by_cases hc : cap = 0
    · simp [hc]
    · simp only [hc, if_false]
      cases A with
      | none => rfl
      | some a => simp [add_zero]
  rw [e]
  refine ⟨⟨A, cap, by rw [List.length_take, Nat.min_eq_left hk], by rw [List.length_take]; omega, hc2⟩, fun x hx => h.each x (List.mem_of_mem_take hx), fun h0 => ?_⟩
  rw [List.length_take] at h0
  obtain ⟨ad, h1, ⟨n, c, h2⟩, h3, h4⟩ := h.some (by omega)
  rw [hv] at h2
  injection h2 with hA hn hc
  subst hA
  refine ⟨ad, rfl, ⟨k, cap, rfl⟩, h3, fun j u hj => ?_⟩
  rw [flat_take l size k h.each] at hj
  exact h4 _ _ (take_at hj)
theorem gvt {rs : List Res} {v : Value} {size k : Nat} {l : List (List Value)} (h : GvR rs v size l) (hk : k ≤ l.length) : GvR rs (takeV v k) size (l.take k) := by
  obtain ⟨r, hr, hg⟩ := h
  exact ⟨r, hr, fun B w ho => take_rdd (hg B w ho) hk⟩
section
variable {P : Program} (T : Tab P) {Q : Exit → Act → World → Prop} {ops : Array Oper} {N : Fr} {B : Nat} {w0 : World} {E : Env} {rs : List Res} {rest : List Oper} {dst : Option Tmp} {ty : TypeId} {pos : String} {aft : Array Edge} {gd : Option (Nat × Bool)}
theorem q_to {t e m : TypeId} {ag : Bool} {sz bs : Nat} {zs : List Value} {x y : Operand} {v : Value} {l : List (List Value)} {kd : IntKind} {k : Int} (he : lkT T.el t = some (e, m, false)) (ht : lkT T.ty e = some (ag, sz, bs, zs)) (hx : ev E x = some v) (hy : ev E y = some (.int kd k)) (hg : GvR rs v sz l) (h0 : 0 ≤ k) (h1 : k ≤ l.length) :
    Qu P N B w0 E rs ⟨dst, .slice t x none (some y) none, ty, pos, aft, gd⟩ (takeV v k.toNat) := by
  intro a w hs
  obtain ⟨A, cap, hv, hc1, hc2⟩ := (hs.reads hg).form
  have hu : P.underlying t = some (.slice e) := by
    rcases T.el_ok _ (lkT_mem he) with ⟨_, h⟩ | ⟨h, _⟩
    · exact h
    · cases h
  have he' : P.elem t = e := by simp [Program.elem, hu]
  have hu' : P.underlying t = some (.slice (P.elem t)) := by rw [he']; exact hu
  have h3 := T.sizeOf ht w
  simp only at h3
  have hr := run_slice_h (P := P) w t A l.length cap hu' kd k h0 (by omega)
  rw [he', h3] at hr
  have e2 : sliced A 0 k.toNat cap sz = takeV v k.toNat := by
    rw [hv]
    unfold sliced takeV
    simp
  simp only [execOp, hs.eval hx, Option.map_some, Option.map_none, hs.eval hy, hv, Sem.run_bind, run_sliceAt_slice (P := P) w t _ _ _ _ hu', hr, Result.andThen_ok, Sem.run_pure]
  rw [e2, hv]
theorem run_copy_rows (w : World) (dT sT ty elem : TypeId) (sz g o dLen dCap : Nat) (a : Addr) (sLen sCap : Nat) (cur : Array Value) (t : TypeId) (cs : List Value)
    (hu : P.underlying dT = some (.slice elem)) (hs : (P.info? elem).map (·.size) = some sz)
    (hg : w.heap[g]? = some (.cells cur t (0, 0))) (hn : cs.length = Nat.min sLen dLen * sz)
    (hsrc : ∀ j v, cs[j]? = some v → w.cell? (a.add j) = some v) (hfit : o + cs.length ≤ cur.size) (h1 : ∀ v ∈ cs, v.oneCell' = true) :
    (Builtin.copy_ #[dT, sT] ty #[.slice (some ⟨g, o, none⟩) dLen dCap, .slice (some a) sLen sCap]).run P w =
      .ok (goInt (Nat.min sLen dLen)) (w.setRow g (cur.toList.take o ++ cs ++ cur.toList.drop (o + cs.length)).toArray) := by
  have hl := run_loadCells_list (P := P) w a cs hsrc
  have hst := run_storeCells_at P g o t cs 0 cur w hg (by simpa using hfit) h1
  cases hq : P.info? elem with
  | none => simp [hq] at hs
  | some i =>
    have hi : i.size = sz := by simpa [hq] using hs
    simp only [Nat.add_zero] at hst
    simp [Builtin.copy_, run_underlying hu, Builtin.lenOf, Builtin.firstCells, sizeOf, typeInfo, hq, hi, ← hn, hl, hst]
def CpTo (v : Value) (sz k : Nat) (d : Value) : Prop := (d = v ∧ k = 0) ∨ d = dropV v k sz
theorem CpTo.self {v : Value} {sz : Nat} : CpTo v sz 0 v := .inl ⟨rfl, rfl⟩
theorem CpTo.from {v : Value} {sz k : Nat} : CpTo v sz k (dropV v k sz) := .inr rfl
theorem copy_core {d : Nat} {t t2 e m : TypeId} {ag : Bool} {sz bs k q : Nat} {zs : List Value} {x y : Operand} {v dv u : Value} {l l2 : List (List Value)} (he : lkT T.el t = some (e, m, false)) (ht : lkT T.ty e = some (ag, sz, bs, zs))
    (hx : ev E x = some dv) (hd : CpTo v sz k dv) (hy : ev E y = some u) (hg : GvR (sl v e sz l :: rs) u sz l2) (h1 : ∀ c ∈ l2.flatten, c.oneCell' = true) (hq : q = min l2.length (l.length - k)) (hk : k < l.length) (hl2 : 0 < l2.length)
    {a : Act} {w : World} (hs : Sat N B w0 E (sl v e sz l :: rs) a w) :
    ∃ g ys, v.ownBlock = some g ∧ (execOp a.eval ⟨some d, .call { callee := .builtin .copy, args := #[x, y], argTypes := #[t, t2] }, ty, pos, aft, none⟩).run P w = .ok (.value (.int .i64 (q : Int))) (w.setRow g ys) ∧
      (sl v e sz (l.take k ++ l2.take q ++ l.drop (k + q))).ok B (w.setRow g ys) := by
  obtain ⟨dd, i, z, _, hi, _, his, hib, hz, hzc⟩ := T.ty_ok _ (lkT_mem ht)
  simp only at hi his hib hzc
  have hu : P.underlying t = some (.slice e) := by
    rcases T.el_ok _ (lkT_mem he) with ⟨_, h⟩ | ⟨h, _⟩
    · exact h
    · cases h
  obtain ⟨ho, hall⟩ := sl_ok.1 (hs.has (r := sl v e sz l) List.mem_cons_self)
  have hrd := hs.reads hg
  have hfl : l.flatten.length = l.length * sz := ho.1
  rcases ho.2 with ⟨hv, hn0⟩ | ⟨g, cap, cur, hv, hb, hgg, hc1, hc2, hc3, hc4⟩
  · omega
  obtain ⟨ad, hob, ⟨n2, cap2, hv2⟩, hlt, hcell⟩ := hrd.some hl2
  have hn2 : n2 = l2.length := by
    obtain ⟨A, c, hv3, _⟩ := hrd.form
    rw [hv2] at hv3
    injection hv3
  subst hn2
  have hdv : ∃ c', dv = .slice (some ⟨g, k * sz, none⟩) (l.length - k) c' := by
    have hadd : (⟨g, 0, none⟩ : Addr).add (k * sz) = ⟨g, k * sz, none⟩ := by
      unfold Addr.add
      split
      · next h0 => rw [h0]
      · simp
    rcases hd with ⟨rfl, rfl⟩ | rfl
    · exact ⟨cap, by rw [hv]; simp⟩
    · refine ⟨cap - k, ?_⟩
      rw [hv]
      simp only [dropV, sliced]
      rw [if_neg (by omega)]
      simp [hadd]
  obtain ⟨c', hdv⟩ := hdv
  have hcs : (l2.take q).flatten.length = q * sz := by
    rw [flat_len _ sz (fun x hx => hrd.each x (List.mem_of_mem_take hx)), List.length_take, Nat.min_eq_left (by omega)]
  have hle : k * sz + q * sz ≤ l.length * sz := by
    rw [← Nat.add_mul]
    exact Nat.mul_le_mul_right sz (by omega)
  have hle2 : l.length * sz ≤ cap * sz := Nat.mul_le_mul_right sz hc1
  have hmin : Nat.min l2.length (l.length - k) = q := hq.symm
  have hrun := run_copy_rows (P := P) w t t2 ty e sz g (k * sz) (l.length - k) c' ad l2.length cap2 cur e (l2.take q).flatten hu (by rw [hi]; simp [his]) hgg (by rw [hcs, hmin]) (fun j c hj => by
    rw [flat_take l2 sz q hrd.each] at hj
    exact hcell j c (take_at hj)) (by rw [hcs, hc3]; omega) (fun c hc => h1 c (by
    rw [flat_take l2 sz q hrd.each] at hc
    exact List.mem_of_mem_take hc))
  rw [hmin] at hrun
  generalize hys : (cur.toList.take (k * sz) ++ (l2.take q).flatten ++ cur.toList.drop (k * sz + (l2.take q).flatten.length)) = ys at hrun
  have hrun' : (execOp a.eval ⟨some d, .call { callee := .builtin .copy, args := #[x, y], argTypes := #[t, t2] }, ty, pos, aft, none⟩).run P w = .ok (.value (.int .i64 (q : Int))) (w.setRow g ys.toArray) := by
    simp [execOp, resolve, invoke, builtin, hs.eval hx, hs.eval hy, hdv, hv2, hrun, goInt]
  have hcl : cur.toList.length = cap * sz := by rw [Array.length_toList, hc3]
  have hys2 : ys.length = cap * sz := by
    rw [← hys]
    simp only [List.length_append, List.length_take, List.length_drop, hcl, hcs]
    omega
  have htake : ys.take (l.length * sz) = (l.take k ++ l2.take q ++ l.drop (k + q)).flatten := by
    rw [List.flatten_append, List.flatten_append, flat_take l sz k hall, flat_drop l sz (k + q) hall, ← hc4, ← hys, hcs]
    rw [List.take_take, List.drop_take, Nat.min_eq_left (by omega), List.take_append, List.take_append]
    simp only [List.length_append, List.length_take, hcl, hcs, Nat.add_mul]
    rw [Nat.min_eq_left (by omega), List.take_of_length_le (l := (l2.take q).flatten) (by omega), List.take_of_length_le (l := List.take (k * sz) cur.toList) (by rw [List.length_take]; omega)]
  have hlen : (l.take k ++ l2.take q ++ l.drop (k + q)).length = l.length := by
    simp only [List.length_append, List.length_take, List.length_drop]
    omega
  refine ⟨g, ys.toArray, by rw [hv]; rfl, hrun', sl_ok.2 ⟨⟨?_, .inr ⟨g, cap, ys.toArray, by rw [hlen]; exact hv, hb, setRow_heap w g cur ys.toArray e (0, 0) hgg, by rw [hlen]; exact hc1, hc2, by simpa using hys2, by rw [hlen]; exact htake⟩⟩, ?_⟩⟩
  · rw [hlen, ← htake, List.length_take, hys2]
    omega
  · intro c hc
    rcases List.mem_append.1 hc with hc | hc
    · rcases List.mem_append.1 hc with hc | hc
      · exact hall c (List.mem_of_mem_take hc)
      · exact hrd.each c (List.mem_of_mem_take hc)
    · exact hall c (List.mem_of_mem_drop hc)
theorem L_copy {d : Nat} {t t2 e m : TypeId} {ag : Bool} {sz bs k q : Nat} {zs : List Value} {x y : Operand} {v dv u : Value} {l l2 : List (List Value)} (he : lkT T.el t = some (e, m, false)) (ht : lkT T.ty e = some (ag, sz, bs, zs))
    (hx : ev E x = some dv) (hd : CpTo v sz k dv) (hy : ev E y = some u) (hg : GvR (sl v e sz l :: rs) u sz l2) (h1 : ∀ c ∈ l2.flatten, c.oneCell' = true) (hq : q = min l2.length (l.length - k)) (hk : k < l.length) (hl2 : 0 < l2.length)
    (hN : Nat.blt d N.n = true) (h : L P ops Q N B w0 ((d, .int .i64 (q : Int)) :: E) (sl v e sz (l.take k ++ l2.take q ++ l.drop (k + q)) :: rs) rest) :
    L P ops Q N B w0 E (sl v e sz l :: rs) (⟨some d, .call { callee := .builtin .copy, args := #[x, y], argTypes := #[t, t2] }, ty, pos, aft, none⟩ :: rest) := by
  intro a w hs
  refine wpListIn_plain rfl fun K hK => ?_
  obtain ⟨g, ys, hb, hrun, hok⟩ := copy_core T (d := d) (ty := ty) (pos := pos) (aft := aft) (t2 := t2) he ht hx hd hy hg h1 hq hk hl2 hs
  refine wpIn_value hrun (hK _ _ (h _ _ (hs.put hN _ ?_)))
  exact hs.ws.turn (sl_own _ _ _ _) (by rw [sl_blk, sl_blk]) (sl_own _ _ _ _) hok ⟨rfl, rfl, rfl⟩ (by rw [setRow_size]; exact Nat.le_refl _) (fun k _ hne => setRow_other w g k _ (fun e => hne (by rw [sl_blk, hb, e])))
theorem Kp.X_copy {fin : Env → List Res → Prop} {ro : List Res} {stl : List Kp.Stp} {kk : Nat} {o : Oper} {d : Nat} {t t2 e m : TypeId} {ag : Bool} {sz bs k q : Nat} {zs : List Value} {x y : Operand} {v dv u : Value} {l l2 : List (List Value)} (ho : ops[kk]? = some o) (hop : o = ⟨some d, .call { callee := .builtin .copy, args := #[x, y], argTypes := #[t, t2] }, ty, pos, aft, none⟩)
    (he : lkT T.el t = some (e, m, false)) (ht : lkT T.ty e = some (ag, sz, bs, zs)) (hx : ev E x = some dv) (hd : CpTo v sz k dv) (hy : ev E y = some u) (hg : GvR (sl v e sz l :: ro) u sz l2) (h1 : ∀ c ∈ l2.flatten, c.oneCell' = true) (hq : q = min l2.length (l.length - k)) (hk : k < l.length) (hl2 : 0 < l2.length)
    (hN : Nat.blt d N.n = true) (h : Kp.X P ops N B w0 fin ro stl ((d, .int .i64 (q : Int)) :: E) [sl v e sz (l.take k ++ l2.take q ++ l.drop (k + q))]) : Kp.X P ops N B w0 fin ro (.s kk :: stl) E [sl v e sz l] := by
  subst hop
  refine ⟨_, ho, rfl, .inr (.inr ⟨d, _, [sl v e sz (l.take k ++ l2.take q ++ l.drop (k + q))], rfl, hN, fun S a w hBB hs => ?_, h⟩)⟩
  obtain ⟨g, ys, hb, hrun, hok⟩ := copy_core T (d := d) (ty := ty) (pos := pos) (aft := aft) (t2 := t2) he ht hx hd hy hg h1 hq hk hl2 hs.s
  have hg0 : ¬ S g := hs.n _ List.mem_cons_self g (by rw [sl_blk]; exact hb)
  refine ⟨_, hrun, ⟨rfl, rfl, rfl, by rw [setRow_size]; exact Nat.le_refl _, fun k hk => setRow_other w g k _ (fun e => hg0 (e ▸ hk))⟩, ?_⟩
  refine ⟨hs.s.world (hs.s.ws.turn (sl_own _ _ _ _) (by rw [sl_blk, sl_blk]) (sl_own _ _ _ _) hok ⟨rfl, rfl, rfl⟩ (by rw [setRow_size]; exact Nat.le_refl _) (fun k _ hne => setRow_other w g k _ (fun e => hne (by rw [sl_blk, hb, e])))), fun k hk => by rw [setRow_size]; exact hs.b k hk, hs.o, fun r hr k hk => ?_⟩
  rw [List.mem_singleton.1 hr, sl_blk, hb] at hk
  injection hk with hk
  rw [← hk]
  exact hg0
theorem Kp.C_ownS {id : Nat} {lo : List Oper} {Q : Exit → Act → World → Prop} {v : Value} {e sz : Nat} {l : List (List Value)} {ro : List Res} (ord : List Kp.Stp) (hm : P.follows .mixedOrders = true) (hsel : Region.noSelect lo.toArray = true) (hn : Kp.stN ord = lo.toArray.size) (hB : Kp.flowC .any lo.toArray ord (Array.replicate lo.toArray.size false) = true)
    (h : Kp.X P lo.toArray N B w0 (fun E' rs' => L P lo.toArray Q N B w0 E' rs' []) ro ord E [sl v e sz l]) : C P Q N B w0 E (sl v e sz l :: ro) (.region id lo.toArray true) :=
  Kp.C_own (pre := [sl v e sz l]) ord hm hsel hn hB (by intro r hr; rw [List.mem_singleton.1 hr]; exact sl_own _ _ _ _) h
theorem q_fromF {t e m : TypeId} {ag : Bool} {sz bs : Nat} {zs : List Value} {x y : Operand} {A : Option Addr} {n c : Nat} {kd : IntKind} {k : Int} (he : lkT T.el t = some (e, m, false)) (ht : lkT T.ty e = some (ag, sz, bs, zs)) (hx : ev E x = some (.slice A n c)) (hy : ev E y = some (.int kd k)) (h0 : 0 ≤ k) (h1 : k ≤ n) :
    Qu P N B w0 E rs ⟨dst, .slice t x (some y) none none, ty, pos, aft, gd⟩ (dropV (.slice A n c) k.toNat sz) := by
  intro a w hs
  have hu : P.underlying t = some (.slice e) := by
    rcases T.el_ok _ (lkT_mem he) with ⟨_, h⟩ | ⟨h, _⟩
    · exact h
    · cases h
  have he' : P.elem t = e := by simp [Program.elem, hu]
  have hu' : P.underlying t = some (.slice (P.elem t)) := by rw [he']; exact hu
  have h3 := T.sizeOf ht w
  simp only at h3
  have hr := run_slice_l (P := P) w t A n c hu' kd k h0 h1
  rw [he', h3] at hr
  simp only [execOp, hs.eval hx, Option.map_some, Option.map_none, hs.eval hy, Sem.run_bind, run_sliceAt_slice (P := P) w t _ _ _ _ hu', hr, Result.andThen_ok, Sem.run_pure, dropV]
end
end Go.Proofs.YtacndicgpkeobaaGreatDoor
