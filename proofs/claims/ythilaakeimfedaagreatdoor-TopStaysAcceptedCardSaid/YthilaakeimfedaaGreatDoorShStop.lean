/-
  The calculus: a range over a function out of which a round may return. Conditions: none; no program in sight.
-/
import Derived.Test.YthilaakeimfedaaGreatDoorShWideF
import Derived.Test.YthilaakeimfedaaGreatDoorShTree
import Derived.Test.YthilaakeimfedaaGreatDoorShOwn
import Derived.Test.YthilaakeimfedaaGreatDoorShTreeO
import Derived.Test.YthilaakeimfedaaGreatDoorShRange
import Derived.Test.YthilaakeimfedaaGreatDoorSh
namespace Go.Proofs.YthilaakeimfedaaGreatDoor
open Go.RowKit

def Pk (rs rs' : List Res) : Prop := ∃ d, (rs' ++ d).Perm rs
theorem WS.pk {B : Nat} {w0 w : World} {rs rs' : List Res} (h : WS B w0 rs w) (hp : Pk rs rs') : WS B w0 rs' w := by
  obtain ⟨d, hd⟩ := hp
  exact (h.perm hd).sub (List.sublist_append_left _ _)
section
variable {rs rs1 t : List Res} {r : Res}
theorem pk_cons (h : (r :: rs1).Perm rs) (hp : Pk rs1 t) : Pk rs (r :: t) := by
  obtain ⟨d, hd⟩ := hp
  exact ⟨d, (hd.cons r).trans h⟩
theorem pk_nil : Pk rs [] := ⟨rs, List.Perm.refl _⟩
theorem pk_app {s : List Res} (h : Pk rs (r :: (s ++ t))) : Pk rs ((r :: s) ++ t) := h
theorem pk_app0 (h : Pk rs t) : Pk rs ([] ++ t) := h
theorem pk_app0L (h : Pk rs t) : Pk rs (List.append [] t) := h
class RmB (rs : List Res) (g : Nat) (u : outParam TypeId) (xs : outParam (List Value)) (rs1 : outParam (List Res)) : Prop where
  out : (box g u xs :: rs1).Perm rs
instance rmB0 {g : Nat} {u : TypeId} {xs : List Value} : RmB (box g u xs :: t) g u xs t := ⟨List.Perm.refl _⟩
instance (priority := low) rmB1 {g : Nat} {u : TypeId} {xs : List Value} [h : RmB rs g u xs rs1] : RmB (r :: rs) g u xs (r :: rs1) := ⟨(List.Perm.swap _ _ _).trans (h.out.cons r)⟩
instance rmBA {g : Nat} {u : TypeId} {xs : List Value} {s : List Res} [h : RmB (r :: (s ++ t)) g u xs rs1] : RmB ((r :: s) ++ t) g u xs rs1 := ⟨h.out⟩
instance rmBB {g : Nat} {u : TypeId} {xs : List Value} [h : RmB t g u xs rs1] : RmB ([] ++ t) g u xs rs1 := ⟨h.out⟩
theorem pk_box {g : Nat} {u : TypeId} {xs ys : List Value} [h : RmB rs g u xs rs1] (he : xs = ys) (hp : Pk rs1 t) : Pk rs (box g u ys :: t) := pk_cons (he ▸ h.out) hp
class RmR (rs : List Res) (v : Value) (size : outParam Nat) (l : outParam (List (List Value))) (rs1 : outParam (List Res)) : Prop where
  out : (rd v size l :: rs1).Perm rs
instance rmR0 {v : Value} {size : Nat} {l : List (List Value)} : RmR (rd v size l :: t) v size l t := ⟨List.Perm.refl _⟩
instance (priority := low) rmR1 {v : Value} {size : Nat} {l : List (List Value)} [h : RmR rs v size l rs1] : RmR (r :: rs) v size l (r :: rs1) := ⟨(List.Perm.swap _ _ _).trans (h.out.cons r)⟩
instance rmRA {v : Value} {size : Nat} {l : List (List Value)} {s : List Res} [h : RmR (r :: (s ++ t)) v size l rs1] : RmR ((r :: s) ++ t) v size l rs1 := ⟨h.out⟩
instance rmRB {v : Value} {size : Nat} {l : List (List Value)} [h : RmR t v size l rs1] : RmR ([] ++ t) v size l rs1 := ⟨h.out⟩
theorem pk_rd {v : Value} {size : Nat} {l m : List (List Value)} [h : RmR rs v size l rs1] (he : l = m) (hp : Pk rs1 t) : Pk rs (rd v size m :: t) := pk_cons (he ▸ h.out) hp
class RmS (rs : List Res) (v : Value) (e : outParam Nat) (size : outParam Nat) (l : outParam (List (List Value))) (rs1 : outParam (List Res)) : Prop where
  out : (sl v e size l :: rs1).Perm rs
instance rmS0 {v : Value} {e size : Nat} {l : List (List Value)} : RmS (sl v e size l :: t) v e size l t := ⟨List.Perm.refl _⟩
instance (priority := low) rmS1 {v : Value} {e size : Nat} {l : List (List Value)} [h : RmS rs v e size l rs1] : RmS (r :: rs) v e size l (r :: rs1) := ⟨(List.Perm.swap _ _ _).trans (h.out.cons r)⟩
instance rmSA {v : Value} {e size : Nat} {l : List (List Value)} {s : List Res} [h : RmS (r :: (s ++ t)) v e size l rs1] : RmS ((r :: s) ++ t) v e size l rs1 := ⟨h.out⟩
instance rmSB {v : Value} {e size : Nat} {l : List (List Value)} [h : RmS t v e size l rs1] : RmS ([] ++ t) v e size l rs1 := ⟨h.out⟩
theorem pk_sl {v : Value} {e size : Nat} {l m : List (List Value)} [h : RmS rs v e size l rs1] (he : l = m) (hp : Pk rs1 t) : Pk rs (sl v e size m :: t) := pk_cons (he ▸ h.out) hp
class RmV (rs : List Res) (r : Res) (rs1 : outParam (List Res)) : Prop where
  out : (r :: rs1).Perm rs
instance rmV0 : RmV (r :: t) r t := ⟨List.Perm.refl _⟩
instance (priority := low) rmV1 {s : Res} [h : RmV rs r rs1] : RmV (s :: rs) r (s :: rs1) := ⟨(List.Perm.swap _ _ _).trans (h.out.cons s)⟩
instance rmVA {a : Res} {s : List Res} [h : RmV (a :: (s ++ t)) r rs1] : RmV ((a :: s) ++ t) r rs1 := ⟨h.out⟩
instance rmVB [h : RmV t r rs1] : RmV ([] ++ t) r rs1 := ⟨h.out⟩
theorem pk_var [h : RmV rs r rs1] (hp : Pk rs1 t) : Pk rs (r :: t) := pk_cons h.out hp
class Tl (rs t : List Res) : Prop where
  out : Pk rs t
instance tl0 : Tl t t := ⟨⟨[], by rw [List.append_nil]⟩⟩
instance (priority := low) tl1 [h : Tl rs t] : Tl (r :: rs) t := ⟨by
  obtain ⟨d, hd⟩ := h.out
  exact ⟨r :: d, List.perm_middle.trans (hd.cons r)⟩⟩
instance tlA {s u : List Res} [h : Tl (r :: (s ++ u)) t] : Tl ((r :: s) ++ u) t := ⟨h.out⟩
instance tlB {u : List Res} [h : Tl u t] : Tl ([] ++ u) t := ⟨h.out⟩
theorem pk_tl [h : Tl rs t] : Pk rs t := h.out
end
section
variable {P : Program} (T : Tab P) {Q : Exit → Act → World → Prop} {ops : Array Oper} {N : Fr} {B : Nat} {w0 : World} {E : Env} {rs rs1 : List Res} {rest : List Oper} {ty : TypeId} {pos : String} {aft : Array Edge}
theorem L_st {t bt : TypeId} {ag : Bool} {sz bs : Nat} {zs : List Value} {x y : Operand} {g o : Nat} {xs : List Value} {v : Value} (hx : ev E x = some (.pointer (some ⟨g, o, none⟩))) (hy : ev E y = some v) [hr : RmB rs g bt xs rs1] (h : L P ops Q N B w0 E (box g bt (lay xs o v.cells.toList) :: rs1) rest)
    (ht : lkT T.ty t = some (ag, sz, bs, zs) := by exact rfl) (hl : Nat.beq v.cells.toList.length sz = true := by exact rfl) (h1 : v.cells.toList.all (·.oneCell') = true := by exact rfl) (hb : Nat.ble (o + v.cells.toList.length) xs.length = true := by exact rfl) :
    L P ops Q N B w0 E rs (⟨none, .store t x y, ty, pos, aft, none⟩ :: rest) := L_res (fun _ hw => hw.perm hr.out) (L_store T ht hx hy rfl hl h1 hb rfl h)
theorem L_ap {d : Nat} {t e m : TypeId} {ag : Bool} {sz bs : Nat} {zs : List Value} {x y : Operand} {v u : Value} {l l2 : List (List Value)} (he : lkT T.el t = some (e, m, false)) (ht : lkT T.ty e = some (ag, sz, bs, zs)) (hx : ev E x = some v) (hy : ev E y = some u) [hr : RmS rs v e sz l rs1] (hg : GvR rs1 u sz l2) (h1 : ∀ c ∈ l2.flatten, c.oneCell' = true)
    (hlen : l.length + l2.length ≤ maxLen) (hbyte : (l.length + l2.length) * bs ≤ 140737488355328) (h : ∀ v', L P ops Q N B w0 ((d, v') :: E) (sl v' e sz (l ++ l2) :: rs1) rest) (hzl : zs.length = sz := by exact rfl) (hs0 : 0 < sz := by omega)
    (hN : Nat.blt d N.n = true := by exact rfl) : L P ops Q N B w0 E rs (⟨some d, .call { callee := .builtin .append, args := #[x, y], argTypes := #[t, t] }, ty, pos, aft, none⟩ :: rest) := L_res (fun _ hw => hw.perm hr.out) (L_append T he ht hzl hs0 hx hy hg h1 hlen hbyte hN h)
end
end Go.Proofs.YthilaakeimfedaaGreatDoor
namespace Go.Proofs.YthilaakeimfedaaGreatDoor
open Go.RowKit

section
variable {P : Program} (T : Tab P) {Q : Exit → Act → World → Prop} {ops : Array Oper} {N : Fr} {B : Nat} {w0 : World} {E : Env} {rs : List Res} {rest : List Oper} {dst : Option Tmp} {ty : TypeId} {pos : String} {aft : Array Edge}
/-! ### Ends of a function that holds a loop over a function -/
end
end Go.Proofs.YthilaakeimfedaaGreatDoor
namespace Go.Proofs.YthilaakeimfedaaGreatDoor
open Go.RowKit
section
variable {P : Program} (T : Tab P) {Q : Exit → Act → World → Prop} {ops : Array Oper} {N : Fr} {B : Nat} {w0 : World} {E : Env} {rs : List Res} {rest : List Oper} {dst : Option Tmp} {ty : TypeId} {pos : String} {aft : Array Edge}
end
end Go.Proofs.YthilaakeimfedaaGreatDoor
namespace Go.Proofs.YthilaakeimfedaaGreatDoor.Kp
open Go.RowKit
section
variable {P : Program} {ops : Array Oper} {N : Fr} {B : Nat} {w0 : World} {E : Env} {rn ro : List Res} {k d : Nat} {o : Oper} {K : Env → List Res → Prop}
end
end Go.Proofs.YthilaakeimfedaaGreatDoor.Kp
namespace Go.Proofs.YthilaakeimfedaaGreatDoor.Kp
open Go.RowKit
section
variable {P : Program} {ops : Array Oper} {N : Fr} {B : Nat} {w0 : World} {E : Env} {rn ro : List Res} {k d : Nat} {o : Oper} {K : Env → List Res → Prop}
theorem perm2 {r a b : Res} {t : List Res} : (r :: a :: b :: t).Perm (a :: b :: r :: t) := perm_front (pre := [a, b])
theorem perm3 {r a b c : Res} {t : List Res} : (r :: a :: b :: c :: t).Perm (a :: b :: c :: r :: t) := perm_front (pre := [a, b, c])
theorem St_alloc (T : Tab P) {u : TypeId} {sz bs : Nat} {ag : Bool} {zs : List Value} {ty : TypeId} {pos : String} {aft : Array Edge} (ho : ops[k]? = some o) (hop : o = ⟨some d, .alloc u, ty, pos, aft, none⟩) (ht : lkT T.ty u = some (ag, sz, bs, zs)) (hN : Nat.blt d N.n = true)
    (h : ∀ g, K ((d, .pointer (some ⟨g, 0, none⟩)) :: E) (box g u zs :: rn)) : St P ops N B w0 ro k K E rn := by
  subst hop
  exact St_lo ho rfl rfl hN (lo_alloc T ht) fun _ _ ⟨g, hv, hr⟩ => by subst hv; subst hr; exact h g
theorem St_call (T : Tab P) {f : FuncId} {xs : Array Operand} {ts : Array TypeId} {args : List Value} {ps : List (Value × Nat × List (List Value))} {v : Value} {ty : TypeId} {pos : String} {aft : Array Edge} (ho : ops[k]? = some o) (hop : o = ⟨some d, .call { callee := .value (.func f), args := xs, argTypes := ts }, ty, pos, aft, none⟩)
    (hen : lkT T.en f = some ()) (hx : evs E xs.toList = some args) (hc : Ct P f args ps (isV v)) (hps : ∀ p ∈ ps, Gives (rn ++ ro) p) (hN : Nat.blt d N.n = true) (h : K ((d, v) :: E) rn) : St P ops N B w0 ro k K E rn := by
  subst hop
  exact St_v ho rfl rfl hN (lo_call T hen hx hc hps isV_sinks) h
theorem C_treeO0 {ι : Type} {id : Nat} {l : List Oper} {Q : Exit → Act → World → Prop} (tr : Tre) (J : ι → Env × List Res) (hm : P.follows .mixedOrders = true) (hsel : Region.noSelect l.toArray = true) (hn : tr.dep = l.toArray.size) (hB : flowT .any l.toArray tr (Array.replicate l.toArray.size false) = true)
    (h : Z P l.toArray N B w0 (fun E' rs' => ∃ i, ∀ a w, Sat N B w0 E' rs' a w → Sat N B w0 (J i).1 (J i).2 a w) ro tr E []) (hc : ∀ i, L P l.toArray Q N B w0 (J i).1 (J i).2 []) : C P Q N B w0 E ro (.region id l.toArray true) :=
  C_treeO (pre := []) tr J hm hsel hn hB (by intro r hr; cases hr) h hc
end
end Go.Proofs.YthilaakeimfedaaGreatDoor.Kp
namespace Go.Proofs.YthilaakeimfedaaGreatDoor
end Go.Proofs.YthilaakeimfedaaGreatDoor
namespace Go.Proofs.YthilaakeimfedaaGreatDoor
open Go.RowKit

section
variable {P : Program} {Q : Exit → Act → World → Prop} {ops : Array Oper} {N : Fr} {B : Nat} {w0 : World} {E : Env} {rs : List Res} {rest : List Oper} {dst : Option Tmp} {ty : TypeId} {pos : String} {aft : Array Edge} {gd : Option (Nat × Bool)}
theorem lo_callC {f : FuncId} {x : Operand} {xs : Array Operand} {ts : Array TypeId} {args caps : List Value} {ps : List (Value × Nat × List (List Value))} {post : Value → List Res → Prop} (hent : Enters P f) (hf : ev E x = some (.func (.func f) #[] caps.toArray)) (hx : evs E xs.toList = some args) (hc : Ct P f (args ++ caps) ps post) (hps : ∀ p ∈ ps, Gives rs p)
    (hsk : ∀ v rs', post v rs' → ∀ r ∈ rs', Sinks r) : Lo P N B w0 E rs ⟨dst, .call { callee := .value x, args := xs, argTypes := ts }, ty, pos, aft, gd⟩ post := by
  intro a w hs
  have hmap := hs.evals hx
  have hmap' : xs.map a.eval = args.toArray := Array.ext' (by rw [Array.toList_map, hmap])
  refine .inr ⟨f, (args ++ caps).toArray, ?_, ?_⟩
  · have h9 := hent (args ++ caps).toArray w
    simp only [execOp, resolve, hs.eval hf, Deferred.ofValue, hmap', Sem.run_bind, Sem.run_pure, Result.andThen_ok]
    simp [invoke, h9]
  · refine (hc w (fun p hp => ?_)).mono ?_
    · exact hs.reads (hps p hp)
    · rintro e w' ⟨v, rs', he, hb, hpost, hok, hown, hd⟩
      exact ⟨v, rs', he, hb, hpost, fun r hr => ⟨hsk v rs' hpost r hr _ _ _ hs.ws.bas (hok r hr), fun k hk => r.ge (hown r hr) (hok r hr) k hk⟩, hd⟩
theorem L_callC {f : FuncId} {d : Nat} {x : Operand} {xs : Array Operand} {ts : Array TypeId} {args caps : List Value} {ps : List (Value × Nat × List (List Value))} {v : Value} (hent : Enters P f) (hf : ev E x = some (.func (.func f) #[] caps.toArray)) (hx : evs E xs.toList = some args) (hc : Ct P f (args ++ caps) ps (isV v)) (hps : ∀ p ∈ ps, Gives rs p)
    (hN : Nat.blt d N.n = true) (h : L P ops Q N B w0 ((d, v) :: E) rs rest) : L P ops Q N B w0 E rs (⟨some d, .call { callee := .value x, args := xs, argTypes := ts }, ty, pos, aft, none⟩ :: rest) :=
  L_lo rfl rfl hN (lo_callC hent hf hx hc hps (fun _ _ hp r hr => by rw [hp.2] at hr; cases hr)) fun u rs' hp => by
    obtain ⟨rfl, rfl⟩ := hp
    exact h
/-! ### Blocks that end together -/
variable {Q' : Exit → Act → World → Prop} {id id2 id3 : Nat} {y : Code}
end
end Go.Proofs.YthilaakeimfedaaGreatDoor
namespace Go.Proofs.YthilaakeimfedaaGreatDoor
open Go.RowKit

def rb (r : Loop) : Bool → Loop
  | true => r
  | false => { r with state := .done, pending := some .ret }
section
variable {P : Program} {N : Fr} {B : Nat} {w0 : World} {E : Env} {rs RC RC' : List Res} {Q : Exit → Act → World → Prop} {ops : Array Oper} {rest : List Oper}
def Rnd2 (P : Program) (B : Nat) (w0 : World) (l : Nat) (r : Loop) (b : Bool) (args : List Value) (K RC RC' : List Res) : Prop :=
  ∀ own w, (∀ k ∈ K, k ∈ own ∧ k.own = false) → WS B w0 (own ++ (lp l r :: RC)) w →
    RoundIn (fc none) 0 P l r.fn ((r.params.zip args.toArray).foldl (fun tmps (x : Tmp × Value) => tmps.setIfInBounds x.1 x.2) r.tmps) r.assign r.body w (fun e w' => e = .returned (.bool b) ∧ WS B w0 (own ++ (lp l (rb r b) :: RC')) w')

/-! ### The caller's side of a round -/
def RQ2 (B : Nat) (w0 : World) (own : List Res) (l : Nat) (r : Loop) (b : Bool) (RC' : List Res) (e : Ending) (w' : World) : Prop := e = .returned (.bool b) ∧ WS B w0 (own ++ (lp l (rb r b) :: RC')) w'
variable {fn : FuncId} {tmps : Array Value} {p D l : Nat} {assign body : Code} {n : Nat}
theorem Rnd2.of {x : Value} {b : Bool} {K : List Res} (htm : tmps.size = n) (hp : Nat.blt p n = true) (hE : ∀ i v, lk E i = some v → tmps.getD i undef = v)
    (h : ∀ own, C P (asQ P l (RQ2 B w0 own l (lrec fn tmps p assign body D) b RC') body) ⟨n, [], some l⟩ B w0 ((p, x) :: E) (lp l (lrec fn tmps p assign body D) :: (K ++ (RC ++ own))) assign) :
    Rnd2 P B w0 l (lrec fn tmps p assign body D) b [x] K RC RC' := by
  intro own w hK hw
  refine roundIn_of_wpIn trivial ?_
  have hp' : p < tmps.size := by rw [htm]; exact blt_lt hp
  refine h own _ w ⟨?_, by simp [htm], rfl, fun i v hv => ?_⟩
  · have h1 := hw.dups (K := K) (fun k hk => ⟨List.mem_append_left _ (hK k hk).1, (hK k hk).2⟩)
    refine h1.perm ?_
    have e1 : (lp l (lrec fn tmps p assign body D) :: (K ++ (RC ++ own))).Perm (K ++ (lp l (lrec fn tmps p assign body D) :: (RC ++ own))) := perm_front
    refine e1.trans (List.Perm.append_left K ?_)
    have e2 : (own ++ (lp l (lrec fn tmps p assign body D) :: RC)).Perm ((lp l (lrec fn tmps p assign body D) :: RC) ++ own) := List.perm_append_comm
    exact e2.symm
  · rw [lk_cons] at hv
    by_cases hi : i = p
    · rw [if_pos hi] at hv
      injection hv with hv
      subst hv; subst hi
      simp [hp']
    · rw [if_neg hi] at hv
      have := hE i v hv
      simpa [Array.getElem?_setIfInBounds_ne (Ne.symm hi)] using this
/-! ### Rounds with numbers -/
/-! ### The statement -/
/-! ### Results that lie in cells -/
theorem q_nilEl {dst : Option Tmp} {ty : TypeId} {pos : String} {aft : Array Edge} {gd : Option (Nat × Bool)} {x : Operand} {v : Value} {m size : Nat} {l : List (List Value)} (hx : ev E x = some (elP v m)) (hg : GvR rs v size l) (hl : 0 < l.length) : Qu P N B w0 E rs ⟨dst, .nilCheck x, ty, pos, aft, gd⟩ (elP v m) := by
  intro a w hs
  obtain ⟨A, cap, rfl, hA⟩ := GvR.form hs.ws hg
  cases A with
  | none =>
    rw [hA rfl] at hl
    cases hl
  | some ad =>
    have h1 := hs.eval hx
    simp only [elP] at h1 ⊢
    simp [execOp, h1]
end
end Go.Proofs.YthilaakeimfedaaGreatDoor
