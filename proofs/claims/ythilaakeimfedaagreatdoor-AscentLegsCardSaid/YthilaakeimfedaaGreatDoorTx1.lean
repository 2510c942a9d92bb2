/-
  Plain models of texts: numerals, numbers that are read, pieces of a text. Conditions: none; no program in sight.
-/
import Derived.Test.YthilaakeimfedaaGreatDoorShTree
import Derived.Test.YthilaakeimfedaaGreatDoorShOwn
import Derived.Test.YthilaakeimfedaaGreatDoorShTreeO
import Derived.Test.YthilaakeimfedaaGreatDoorShRange
import Derived.Test.YthilaakeimfedaaGreatDoorSh
import Derived.Laws.IdiomRangeMap
import Derived.Laws.Concat
import Derived.Laws.BytesArg
import Derived.Lib.ItoaNum
import Derived.Lib.AtoiAllCases
import Derived.Lib.Strings
namespace Go.Proofs.YthilaakeimfedaaGreatDoor
open Go.RowKit

def Pk (rs rs' : List Res) : Prop := ∃ d, (rs' ++ d).Perm rs
theorem WS.pk {B : Nat} {w0 w : World} {rs rs' : List Res} (h : WS B w0 rs w) (hp : Pk rs rs') : WS B w0 rs' w := by
  obtain ⟨d, hd⟩ := hp
  exact (h.perm hd).sub (List.sublist_append_left _ _)
section
variable {rs rs1 t : List Res} {r : Res}
theorem pk_cons (h : (r :: rs1).Perm rs) (hp : Pk rs1 t) : Pk rs (r :: t) := by
  obtain ⟨d, hd⟩ := hp
  exact ⟨d, (hd.cons r).trans h⟩
theorem pk_nil : Pk rs [] := ⟨rs, List.Perm.refl _⟩
theorem pk_app {s : List Res} (h : Pk rs (r :: (s ++ t))) : Pk rs ((r :: s) ++ t) := h
theorem pk_app0 (h : Pk rs t) : Pk rs ([] ++ t) := h
theorem pk_app0L (h : Pk rs t) : Pk rs (List.append [] t) := h
class RmB (rs : List Res) (g : Nat) (u : outParam TypeId) (xs : outParam (List Value)) (rs1 : outParam (List Res)) : Prop where
  out : (box g u xs :: rs1).Perm rs
instance rmB0 {g : Nat} {u : TypeId} {xs : List Value} : RmB (box g u xs :: t) g u xs t := ⟨List.Perm.refl _⟩
instance (priority := low) rmB1 {g : Nat} {u : TypeId} {xs : List Value} [h : RmB rs g u xs rs1] : RmB (r :: rs) g u xs (r :: rs1) := ⟨(List.Perm.swap _ _ _).trans (h.out.cons r)⟩
instance rmBA {g : Nat} {u : TypeId} {xs : List Value} {s : List Res} [h : RmB (r :: (s ++ t)) g u xs rs1] : RmB ((r :: s) ++ t) g u xs rs1 := ⟨h.out⟩
instance rmBB {g : Nat} {u : TypeId} {xs : List Value} [h : RmB t g u xs rs1] : RmB ([] ++ t) g u xs rs1 := ⟨h.out⟩
theorem pk_box {g : Nat} {u : TypeId} {xs ys : List Value} [h : RmB rs g u xs rs1] (he : xs = ys) (hp : Pk rs1 t) : Pk rs (box g u ys :: t) := pk_cons (he ▸ h.out) hp
class RmR (rs : List Res) (v : Value) (size : outParam Nat) (l : outParam (List (List Value))) (rs1 : outParam (List Res)) : Prop where
  out : (rd v size l :: rs1).Perm rs
instance rmR0 {v : Value} {size : Nat} {l : List (List Value)} : RmR (rd v size l :: t) v size l t := ⟨List.Perm.refl _⟩
instance (priority := low) rmR1 {v : Value} {size : Nat} {l : List (List Value)} [h : RmR rs v size l rs1] : RmR (r :: rs) v size l (r :: rs1) := ⟨(List.Perm.swap _ _ _).trans (h.out.cons r)⟩
instance rmRA {v : Value} {size : Nat} {l : List (List Value)} {s : List Res} [h : RmR (r :: (s ++ t)) v size l rs1] : RmR ((r :: s) ++ t) v size l rs1 := ⟨h.out⟩
instance rmRB {v : Value} {size : Nat} {l : List (List Value)} [h : RmR t v size l rs1] : RmR ([] ++ t) v size l rs1 := ⟨h.out⟩
theorem pk_rd {v : Value} {size : Nat} {l m : List (List Value)} [h : RmR rs v size l rs1] (he : l = m) (hp : Pk rs1 t) : Pk rs (rd v size m :: t) := pk_cons (he ▸ h.out) hp
class RmS (rs : List Res) (v : Value) (e : outParam Nat) (size : outParam Nat) (l : outParam (List (List Value))) (rs1 : outParam (List Res)) : Prop where
  out : (sl v e size l :: rs1).Perm rs
instance rmS0 {v : Value} {e size : Nat} {l : List (List Value)} : RmS (sl v e size l :: t) v e size l t := ⟨List.Perm.refl _⟩
instance (priority := low) rmS1 {v : Value} {e size : Nat} {l : List (List Value)} [h : RmS rs v e size l rs1] : RmS (r :: rs) v e size l (r :: rs1) := ⟨(List.Perm.swap _ _ _).trans (h.out.cons r)⟩
instance rmSA {v : Value} {e size : Nat} {l : List (List Value)} {s : List Res} [h : RmS (r :: (s ++ t)) v e size l rs1] : RmS ((r :: s) ++ t) v e size l rs1 := ⟨h.out⟩
instance rmSB {v : Value} {e size : Nat} {l : List (List Value)} [h : RmS t v e size l rs1] : RmS ([] ++ t) v e size l rs1 := ⟨h.out⟩
theorem pk_sl {v : Value} {e size : Nat} {l m : List (List Value)} [h : RmS rs v e size l rs1] (he : l = m) (hp : Pk rs1 t) : Pk rs (sl v e size m :: t) := pk_cons (he ▸ h.out) hp
class RmV (rs : List Res) (r : Res) (rs1 : outParam (List Res)) : Prop where
  out : (r :: rs1).Perm rs
instance rmV0 : RmV (r :: t) r t := ⟨List.Perm.refl _⟩
instance (priority := low) rmV1 {s : Res} [h : RmV rs r rs1] : RmV (s :: rs) r (s :: rs1) := ⟨(List.Perm.swap _ _ _).trans (h.out.cons s)⟩
instance rmVA {a : Res} {s : List Res} [h : RmV (a :: (s ++ t)) r rs1] : RmV ((a :: s) ++ t) r rs1 := ⟨h.out⟩
instance rmVB [h : RmV t r rs1] : RmV ([] ++ t) r rs1 := ⟨h.out⟩
theorem pk_var [h : RmV rs r rs1] (hp : Pk rs1 t) : Pk rs (r :: t) := pk_cons h.out hp
class Tl (rs t : List Res) : Prop where
  out : Pk rs t
instance tl0 : Tl t t := ⟨⟨[], by rw [List.append_nil]⟩⟩
instance (priority := low) tl1 [h : Tl rs t] : Tl (r :: rs) t := ⟨by
  obtain ⟨d, hd⟩ := h.out
  exact ⟨r :: d, List.perm_middle.trans (hd.cons r)⟩⟩
instance tlA {s u : List Res} [h : Tl (r :: (s ++ u)) t] : Tl ((r :: s) ++ u) t := ⟨h.out⟩
instance tlB {u : List Res} [h : Tl u t] : Tl ([] ++ u) t := ⟨h.out⟩
theorem pk_tl [h : Tl rs t] : Pk rs t := h.out
end
section
variable {P : Program} (T : Tab P) {Q : Exit → Act → World → Prop} {ops : Array Oper} {N : Fr} {B : Nat} {w0 : World} {E : Env} {rs rs1 : List Res} {rest : List Oper} {ty : TypeId} {pos : String} {aft : Array Edge}
/-- A store into a box, wherever it is said of. -/
theorem L_st {t bt : TypeId} {ag : Bool} {sz bs : Nat} {zs : List Value} {x y : Operand} {g o : Nat} {xs : List Value} {v : Value} (hx : ev E x = some (.pointer (some ⟨g, o, none⟩))) (hy : ev E y = some v) [hr : RmB rs g bt xs rs1] (h : L P ops Q N B w0 E (box g bt (lay xs o v.cells.toList) :: rs1) rest)
    (ht : lkT T.ty t = some (ag, sz, bs, zs) := by exact rfl) (hl : Nat.beq v.cells.toList.length sz = true := by exact rfl) (h1 : v.cells.toList.all (·.oneCell') = true := by exact rfl) (hb : Nat.ble (o + v.cells.toList.length) xs.length = true := by exact rfl) :
    L P ops Q N B w0 E rs (⟨none, .store t x y, ty, pos, aft, none⟩ :: rest) := L_res (fun _ hw => hw.perm hr.out) (L_store T ht hx hy rfl hl h1 hb rfl h)
/-- What is put behind an own slice, wherever it is said of. -/
theorem L_ap {d : Nat} {t e m : TypeId} {ag : Bool} {sz bs : Nat} {zs : List Value} {x y : Operand} {v u : Value} {l l2 : List (List Value)} (he : lkT T.el t = some (e, m, false)) (ht : lkT T.ty e = some (ag, sz, bs, zs)) (hx : ev E x = some v) (hy : ev E y = some u) [hr : RmS rs v e sz l rs1] (hg : GvR rs1 u sz l2) (h1 : ∀ c ∈ l2.flatten, c.oneCell' = true)
    (hlen : l.length + l2.length ≤ maxLen) (hbyte : (l.length + l2.length) * bs ≤ 140737488355328) (h : ∀ v', L P ops Q N B w0 ((d, v') :: E) (sl v' e sz (l ++ l2) :: rs1) rest) (hzl : zs.length = sz := by exact rfl) (hs0 : 0 < sz := by omega)
    (hN : Nat.blt d N.n = true := by exact rfl) : L P ops Q N B w0 E rs (⟨some d, .call { callee := .builtin .append, args := #[x, y], argTypes := #[t, t] }, ty, pos, aft, none⟩ :: rest) := L_res (fun _ hw => hw.perm hr.out) (L_append T he ht hzl hs0 hx hy hg h1 hlen hbyte hN h)
end
end Go.Proofs.YthilaakeimfedaaGreatDoor
namespace Go.Proofs.YthilaakeimfedaaGreatDoor
open Go.RowKit

section
variable {P : Program} (T : Tab P) {Q : Exit → Act → World → Prop} {ops : Array Oper} {N : Fr} {B : Nat} {w0 : World} {E : Env} {rs : List Res} {rest : List Oper} {dst : Option Tmp} {ty : TypeId} {pos : String} {aft : Array Edge}
/-! ### Ends of a function that holds a loop over a function -/
end
end Go.Proofs.YthilaakeimfedaaGreatDoor
namespace Go.Proofs.YthilaakeimfedaaGreatDoor
open Go.RowKit
section
variable {P : Program} (T : Tab P) {Q : Exit → Act → World → Prop} {ops : Array Oper} {N : Fr} {B : Nat} {w0 : World} {E : Env} {rs : List Res} {rest : List Oper} {dst : Option Tmp} {ty : TypeId} {pos : String} {aft : Array Edge}
end
end Go.Proofs.YthilaakeimfedaaGreatDoor
namespace Go.Proofs.YthilaakeimfedaaGreatDoor.Kp
open Go.RowKit
section
variable {P : Program} {ops : Array Oper} {N : Fr} {B : Nat} {w0 : World} {E : Env} {rn ro : List Res} {k d : Nat} {o : Oper} {K : Env → List Res → Prop}
end
end Go.Proofs.YthilaakeimfedaaGreatDoor.Kp
namespace Go.Proofs.YthilaakeimfedaaGreatDoor.Kp
open Go.RowKit
section
variable {P : Program} {ops : Array Oper} {N : Fr} {B : Nat} {w0 : World} {E : Env} {rn ro : List Res} {k d : Nat} {o : Oper} {K : Env → List Res → Prop}
theorem perm2 {r a b : Res} {t : List Res} : (r :: a :: b :: t).Perm (a :: b :: r :: t) := perm_front (pre := [a, b])
theorem perm3 {r a b c : Res} {t : List Res} : (r :: a :: b :: c :: t).Perm (a :: b :: c :: r :: t) := perm_front (pre := [a, b, c])
theorem St_alloc (T : Tab P) {u : TypeId} {sz bs : Nat} {ag : Bool} {zs : List Value} {ty : TypeId} {pos : String} {aft : Array Edge} (ho : ops[k]? = some o) (hop : o = ⟨some d, .alloc u, ty, pos, aft, none⟩) (ht : lkT T.ty u = some (ag, sz, bs, zs)) (hN : Nat.blt d N.n = true)
    (h : ∀ g, K ((d, .pointer (some ⟨g, 0, none⟩)) :: E) (box g u zs :: rn)) : St P ops N B w0 ro k K E rn := by
  subst hop
  exact St_lo ho rfl rfl hN (lo_alloc T ht) fun _ _ ⟨g, hv, hr⟩ => by subst hv; subst hr; exact h g
theorem St_call (T : Tab P) {f : FuncId} {xs : Array Operand} {ts : Array TypeId} {args : List Value} {ps : List (Value × Nat × List (List Value))} {v : Value} {ty : TypeId} {pos : String} {aft : Array Edge} (ho : ops[k]? = some o) (hop : o = ⟨some d, .call { callee := .value (.func f), args := xs, argTypes := ts }, ty, pos, aft, none⟩)
    (hen : lkT T.en f = some ()) (hx : evs E xs.toList = some args) (hc : Ct P f args ps (isV v)) (hps : ∀ p ∈ ps, Gives (rn ++ ro) p) (hN : Nat.blt d N.n = true) (h : K ((d, v) :: E) rn) : St P ops N B w0 ro k K E rn := by
  subst hop
  exact St_v ho rfl rfl hN (lo_call T hen hx hc hps isV_sinks) h
theorem C_treeO0 {ι : Type} {id : Nat} {l : List Oper} {Q : Exit → Act → World → Prop} (tr : Tre) (J : ι → Env × List Res) (hm : P.follows .mixedOrders = true) (hsel : Region.noSelect l.toArray = true) (hn : tr.dep = l.toArray.size) (hB : flowT .any l.toArray tr (Array.replicate l.toArray.size false) = true)
    (h : Z P l.toArray N B w0 (fun E' rs' => ∃ i, ∀ a w, Sat N B w0 E' rs' a w → Sat N B w0 (J i).1 (J i).2 a w) ro tr E []) (hc : ∀ i, L P l.toArray Q N B w0 (J i).1 (J i).2 []) : C P Q N B w0 E ro (.region id l.toArray true) :=
  C_treeO (pre := []) tr J hm hsel hn hB (by intro r hr; cases hr) h hc
end
end Go.Proofs.YthilaakeimfedaaGreatDoor.Kp
namespace Go.Proofs.YthilaakeimfedaaGreatDoor
end Go.Proofs.YthilaakeimfedaaGreatDoor
namespace Go.Proofs.YthilaakeimfedaaGreatDoor
open Go.RowKit

section
variable {P : Program} {Q : Exit → Act → World → Prop} {ops : Array Oper} {N : Fr} {B : Nat} {w0 : World} {E : Env} {rs : List Res} {rest : List Oper} {dst : Option Tmp} {ty : TypeId} {pos : String} {aft : Array Edge} {gd : Option (Nat × Bool)}
theorem lo_callC {f : FuncId} {x : Operand} {xs : Array Operand} {ts : Array TypeId} {args caps : List Value} {ps : List (Value × Nat × List (List Value))} {post : Value → List Res → Prop} (hent : Enters P f) (hf : ev E x = some (.func (.func f) #[] caps.toArray)) (hx : evs E xs.toList = some args) (hc : Ct P f (args ++ caps) ps post) (hps : ∀ p ∈ ps, Gives rs p)
    (hsk : ∀ v rs', post v rs' → ∀ r ∈ rs', Sinks r) : Lo P N B w0 E rs ⟨dst, .call { callee := .value x, args := xs, argTypes := ts }, ty, pos, aft, gd⟩ post := by
  intro a w hs
  have hmap := hs.evals hx
  have hmap' : xs.map a.eval = args.toArray := Array.ext' (by rw [Array.toList_map, hmap])
  refine .inr ⟨f, (args ++ caps).toArray, ?_, ?_⟩
  · have h9 := hent (args ++ caps).toArray w
    simp only [execOp, resolve, hs.eval hf, Deferred.ofValue, hmap', Sem.run_bind, Sem.run_pure, Result.andThen_ok]
    simp [invoke, h9]
  · refine (hc w (fun p hp => ?_)).mono ?_
    · exact hs.reads (hps p hp)
    · rintro e w' ⟨v, rs', he, hb, hpost, hok, hown, hd⟩
      exact ⟨v, rs', he, hb, hpost, fun r hr => ⟨hsk v rs' hpost r hr _ _ _ hs.ws.bas (hok r hr), fun k hk => r.ge (hown r hr) (hok r hr) k hk⟩, hd⟩
theorem L_callC {f : FuncId} {d : Nat} {x : Operand} {xs : Array Operand} {ts : Array TypeId} {args caps : List Value} {ps : List (Value × Nat × List (List Value))} {v : Value} (hent : Enters P f) (hf : ev E x = some (.func (.func f) #[] caps.toArray)) (hx : evs E xs.toList = some args) (hc : Ct P f (args ++ caps) ps (isV v)) (hps : ∀ p ∈ ps, Gives rs p)
    (hN : Nat.blt d N.n = true) (h : L P ops Q N B w0 ((d, v) :: E) rs rest) : L P ops Q N B w0 E rs (⟨some d, .call { callee := .value x, args := xs, argTypes := ts }, ty, pos, aft, none⟩ :: rest) :=
  L_lo rfl rfl hN (lo_callC hent hf hx hc hps (fun _ _ hp r hr => by rw [hp.2] at hr; cases hr)) fun u rs' hp => by
    obtain ⟨rfl, rfl⟩ := hp
    exact h
/-! ### Blocks that end together -/
variable {Q' : Exit → Act → World → Prop} {id id2 id3 : Nat} {y : Code}
end
end Go.Proofs.YthilaakeimfedaaGreatDoor
namespace Go.Proofs.YthilaakeimfedaaGreatDoor
open Go.RowKit

/-- The record behind a round: as it was, or done with a return that waits. -/
def rb (r : Loop) : Bool → Loop
  | true => r
  | false => { r with state := .done, pending := some .ret }
section
variable {P : Program} {N : Fr} {B : Nat} {w0 : World} {E : Env} {rs RC RC' : List Res} {Q : Exit → Act → World → Prop} {ops : Array Oper} {rest : List Oper}
/-- WHAT A ROUND DOES that may return: yield gives b. -/
def Rnd2 (P : Program) (B : Nat) (w0 : World) (l : Nat) (r : Loop) (b : Bool) (args : List Value) (K RC RC' : List Res) : Prop :=
  ∀ own w, (∀ k ∈ K, k ∈ own ∧ k.own = false) → WS B w0 (own ++ (lp l r :: RC)) w →
    RoundIn (fc none) 0 P l r.fn ((r.params.zip args.toArray).foldl (fun tmps (x : Tmp × Value) => tmps.setIfInBounds x.1 x.2) r.tmps) r.assign r.body w (fun e w' => e = .returned (.bool b) ∧ WS B w0 (own ++ (lp l (rb r b) :: RC')) w')

/-! ### The caller's side of a round -/
def RQ2 (B : Nat) (w0 : World) (own : List Res) (l : Nat) (r : Loop) (b : Bool) (RC' : List Res) (e : Ending) (w' : World) : Prop := e = .returned (.bool b) ∧ WS B w0 (own ++ (lp l (rb r b) :: RC')) w'
variable {fn : FuncId} {tmps : Array Value} {p D l : Nat} {assign body : Code} {n : Nat}
theorem Rnd2.of {x : Value} {b : Bool} {K : List Res} (htm : tmps.size = n) (hp : Nat.blt p n = true) (hE : ∀ i v, lk E i = some v → tmps.getD i undef = v)
    (h : ∀ own, C P (asQ P l (RQ2 B w0 own l (lrec fn tmps p assign body D) b RC') body) ⟨n, [], some l⟩ B w0 ((p, x) :: E) (lp l (lrec fn tmps p assign body D) :: (K ++ (RC ++ own))) assign) :
    Rnd2 P B w0 l (lrec fn tmps p assign body D) b [x] K RC RC' := by
  intro own w hK hw
  refine roundIn_of_wpIn trivial ?_
  have hp' : p < tmps.size := by rw [htm]; exact blt_lt hp
  refine h own _ w ⟨?_, by simp [htm], rfl, fun i v hv => ?_⟩
  · have h1 := hw.dups (K := K) (fun k hk => ⟨List.mem_append_left _ (hK k hk).1, (hK k hk).2⟩)
    refine h1.perm ?_
    have e1 : (lp l (lrec fn tmps p assign body D) :: (K ++ (RC ++ own))).Perm (K ++ (lp l (lrec fn tmps p assign body D) :: (RC ++ own))) := perm_front
    refine e1.trans (List.Perm.append_left K ?_)
    have e2 : (own ++ (lp l (lrec fn tmps p assign body D) :: RC)).Perm ((lp l (lrec fn tmps p assign body D) :: RC) ++ own) := List.perm_append_comm
    exact e2.symm
  · rw [lk_cons] at hv
    by_cases hi : i = p
    · rw [if_pos hi] at hv
      injection hv with hv
      subst hv; subst hi
      simp [hp']
    · rw [if_neg hi] at hv
      have := hE i v hv
      simpa [Array.getElem?_setIfInBounds_ne (Ne.symm hi)] using this
/-! ### Rounds with numbers -/
/-! ### The statement -/
/-! ### Results that lie in cells -/
/-- a pointer to an element is not nil -/
theorem q_nilEl {dst : Option Tmp} {ty : TypeId} {pos : String} {aft : Array Edge} {gd : Option (Nat × Bool)} {x : Operand} {v : Value} {m size : Nat} {l : List (List Value)} (hx : ev E x = some (elP v m)) (hg : GvR rs v size l) (hl : 0 < l.length) : Qu P N B w0 E rs ⟨dst, .nilCheck x, ty, pos, aft, gd⟩ (elP v m) := by
  intro a w hs
  obtain ⟨A, cap, rfl, hA⟩ := GvR.form hs.ws hg
  cases A with
  | none =>
    rw [hA rfl] at hl
    cases hl
  | some ad =>
    have h1 := hs.eval hx
    simp only [elP] at h1 ⊢
    simp [execOp, h1]
end
end Go.Proofs.YthilaakeimfedaaGreatDoor
namespace Go.Proofs.YthilaakeimfedaaGreatDoor

def upZ (n b : Int) : Int := (n + b - 1) / b
def firstE : List Int → Int
  | [] => 0
  | e :: t => if e = 0 then firstE t else e
def ckGas (o h : Int) : Int := if ¬ (0 ≤ o ∧ o ≤ 1000 ∧ 0 ≤ h ∧ h ≤ 1000) then 2 else if o + h > 1000 then 23 else 0
structure Cp where
  n : Int
  h : Int
  b : Int
  s : Int
structure Rg where
  lo : Int
  hi : Int
structure Ld where
  n : Rg
  h : Rg
structure Gs where
  o : Int
  h : Int
structure Lg where
  f : Int
  t : Int
  s : Int
  g : Gs
def okCp (c : Cp) : Prop := 1 ≤ c.n ∧ c.n ≤ 100000 ∧ 1 ≤ c.h ∧ c.h ≤ 100000 ∧ 0 ≤ c.b ∧ c.b ≤ 10000 ∧ 1000 ≤ c.s ∧ c.s ≤ 10000
instance (c : Cp) : Decidable (okCp c) := by unfold okCp; infer_instance
def ckCps : List Cp → Int
  | [] => 0
  | c :: t => if okCp c then ckCps t else 2
def ckTab (ts : List Cp) : Int := if 1 ≤ ts.length ∧ ts.length ≤ 16 then ckCps ts else 10
def ckSpan (r : Rg) : Int := if 0 ≤ r.lo ∧ r.lo ≤ 100000000 ∧ 0 ≤ r.hi ∧ r.hi ≤ 100000000 then 0 else 2
def ckLd (l : Ld) : Int := if ckSpan l.n ≠ 0 ∨ ckSpan l.h ≠ 0 then 2 else if l.n.lo > l.n.hi ∨ l.h.lo > l.h.hi then 9 else 0
def ckLds : List Ld → Int
  | [] => 0
  | l :: t => if ckLd l ≠ 0 then ckLd l else ckLds t
def ckLoads (ts : List Cp) (ls : List Ld) : Int := if ckTab ts ≠ 0 then ckTab ts else if ls.length ≠ ts.length then 10 else ckLds ls
def okPr (p : Int) : Prop := 400 ≤ p ∧ p ≤ 31100
instance (p : Int) : Decidable (okPr p) := by unfold okPr; infer_instance
def ckLeg (x : Lg) : Int := if ¬ (okPr x.f ∧ okPr x.t ∧ 0 ≤ x.s ∧ x.s ≤ 100000) then 2 else if ckGas x.g.o x.g.h ≠ 0 then ckGas x.g.o x.g.h else if x.s = 0 ∧ x.f ≠ x.t then 11 else 0

/-! ### Square roots -/
def sqrN : Nat → Nat
  | 0 => 0
  | n + 1 => if (sqrN n + 1) * (sqrN n + 1) ≤ n + 1 then sqrN n + 1 else sqrN n
theorem sqrN_spec : ∀ n, sqrN n * sqrN n ≤ n ∧ n < (sqrN n + 1) * (sqrN n + 1)
  | 0 => by simp [sqrN]
  | n + 1 => by
    obtain ⟨h1, h2⟩ := sqrN_spec n
    simp only [sqrN]
    by_cases h : (sqrN n + 1) * (sqrN n + 1) ≤ n + 1
    · rw [if_pos h]
      refine ⟨h, ?_⟩
      have : (sqrN n + 1 + 1) * (sqrN n + 1 + 1) = (sqrN n + 1) * (sqrN n + 1) + 2 * (sqrN n + 1) + 1 := by
        simp only [Nat.add_mul, Nat.mul_add]; omega
      omega
    · rw [if_neg h]
      omega
theorem sqrN_uniq {n r : Nat} (h1 : r * r ≤ n) (h2 : n < (r + 1) * (r + 1)) : r = sqrN n := by
  obtain ⟨h3, h4⟩ := sqrN_spec n
  rcases Nat.lt_trichotomy r (sqrN n) with h | h | h
  · have : (r + 1) * (r + 1) ≤ sqrN n * sqrN n := Nat.mul_le_mul h h
    omega
  · exact h
  · have : (sqrN n + 1) * (sqrN n + 1) ≤ r * r := Nat.mul_le_mul h h
    omega
def sqrZ (n : Int) : Int := sqrN n.toNat
theorem sqrZ_uniq {n r : Int} (h0 : 0 ≤ r) (h1 : r * r ≤ n) (h2 : n < (r + 1) * (r + 1)) : r = sqrZ n := by
  obtain ⟨k, rfl⟩ := Int.eq_ofNat_of_zero_le h0
  have hn : 0 ≤ n := Int.le_trans (Int.mul_nonneg h0 h0) h1
  obtain ⟨m, rfl⟩ := Int.eq_ofNat_of_zero_le hn
  unfold sqrZ
  rw [Int.toNat_natCast]
  congr 1
  refine sqrN_uniq ?_ ?_
  · exact_mod_cast h1
  · exact_mod_cast h2
theorem sqrZ_spec {n : Int} (hn : 0 ≤ n) : 0 ≤ sqrZ n ∧ sqrZ n * sqrZ n ≤ n ∧ n < (sqrZ n + 1) * (sqrZ n + 1) := by
  obtain ⟨m, rfl⟩ := Int.eq_ofNat_of_zero_le hn
  unfold sqrZ
  rw [Int.toNat_natCast]
  obtain ⟨h1, h2⟩ := sqrN_spec m
  refine ⟨Int.natCast_nonneg _, ?_, ?_⟩
  · exact_mod_cast h1
  · exact_mod_cast h2

/-! ### Lists -/
theorem drop_cons {α : Type} {l : List α} {k : Nat} {x : α} (h : l[k]? = some x) : l.drop k = x :: l.drop (k + 1) := by
  obtain ⟨hk, hx⟩ := List.getElem?_eq_some_iff.1 h
  rw [List.drop_eq_getElem_cons hk, hx]
theorem get_some {α : Type} (l : List α) {k : Nat} (h : k < l.length) : ∃ x, l[k]? = some x := ⟨l[k], List.getElem?_eq_getElem h⟩
theorem map_get {α β : Type} (f : α → β) {l : List α} {k : Nat} {x : α} (h : l[k]? = some x) : (l.map f)[k]? = some (f x) := by rw [List.getElem?_map, h]; rfl
theorem drop_all {α : Type} {l : List α} {k : Nat} (h : l.length ≤ k) : l.drop k = [] := List.drop_eq_nil_of_le h
theorem firstE_step {es : List Int} {k : Nat} {e : Int} (h : es[k]? = some e) : firstE (es.drop k) = if e = 0 then firstE (es.drop (k + 1)) else e := by rw [drop_cons h]; rfl
theorem ckCps_step {ts : List Cp} {k : Nat} {c : Cp} (h : ts[k]? = some c) : ckCps (ts.drop k) = if okCp c then ckCps (ts.drop (k + 1)) else 2 := by rw [drop_cons h]; rfl
theorem ckLds_step {ls : List Ld} {k : Nat} {l : Ld} (h : ls[k]? = some l) : ckLds (ls.drop k) = if ckLd l ≠ 0 then ckLd l else ckLds (ls.drop (k + 1)) := by rw [drop_cons h]; rfl

/-! ### Closing lemmas -/
theorem ckGas_e (o h : Int) : firstE [if 0 ≤ o ∧ o ≤ 1000 then 0 else 2, if 0 ≤ h ∧ h ≤ 1000 then 0 else 2] = if 0 ≤ o ∧ o ≤ 1000 ∧ 0 ≤ h ∧ h ≤ 1000 then 0 else 2 := by
  simp only [firstE]
  (repeat' split) <;> omega
theorem ckGas_a {o h : Int} (hc : firstE [if 0 ≤ o ∧ o ≤ 1000 then 0 else 2, if 0 ≤ h ∧ h ≤ 1000 then 0 else 2] ≠ 0) : firstE [if 0 ≤ o ∧ o ≤ 1000 then 0 else 2, if 0 ≤ h ∧ h ≤ 1000 then 0 else 2] = ckGas o h := by
  rw [ckGas_e] at hc ⊢
  unfold ckGas
  split at hc
  · omega
  · rename_i hn; rw [if_neg hn, if_pos hn]
theorem ckGas_b {o h : Int} (hc : ¬ firstE [if 0 ≤ o ∧ o ≤ 1000 then 0 else 2, if 0 ≤ h ∧ h ≤ 1000 then 0 else 2] ≠ 0) : ckGas o h = if 1000 < o + h then 23 else 0 := by
  rw [ckGas_e] at hc
  unfold ckGas
  split at hc
  · rename_i hp; rw [if_neg (by omega)]
  · omega
theorem ckGas_c {o h : Int} (hc : ¬ firstE [if 0 ≤ o ∧ o ≤ 1000 then 0 else 2, if 0 ≤ h ∧ h ≤ 1000 then 0 else 2] ≠ 0) : 0 ≤ o ∧ o ≤ 1000 ∧ 0 ≤ h ∧ h ≤ 1000 := by
  rw [ckGas_e] at hc
  split at hc
  · assumption
  · omega
end Go.Proofs.YthilaakeimfedaaGreatDoor
namespace Go.Proofs.YthilaakeimfedaaGreatDoor
open Go.RowKit

/-- What a map's entries are: their stamps, and just these keys with these values. -/
structure MapE (es : Array MapEntry) (clock : Nat) (l : List (ByteArray × Value)) : Prop where
  old : ∀ e ∈ es.toList, e.born < clock
  nod : (es.toList.map (·.born)).Nodup
  sub : ∀ e ∈ es.toList, ∃ p ∈ l, e.key = .string p.1 ∧ e.val = p.2
  all : ∀ p ∈ l, ∃ e ∈ es.toList, e.key = .string p.1 ∧ e.val = p.2
def lookV (l : List (ByteArray × Value)) (z : Value) (s : ByteArray) : Value := match l.find? (fun p => p.1.data.toList == s.data.toList) with
  | some p => .tuple #[p.2, .bool true]
  | none => .tuple #[z, .bool false]
/-- The variable with number gk holds the map in block bm. -/
structure KnB (P : Program) (gk t : Nat) (l : List (ByteArray × Value)) (z : Value) (w : World) (bm : Nat) (es : Array MapEntry) (clock : Nat) : Prop where
  gl : w.cell? ⟨gk, 0, none⟩ = some (.map (some bm))
  hb : w.heap[bm]? = some (.map es clock)
  en : MapE es clock l
  look : ∀ w', w'.heap[bm]? = some (.map es clock) → ∀ s : ByteArray, s.size ≤ maxLen → (Instr.lookup t (.map (some bm)) (.string s) true).run P w' = .ok (lookV l z s) w'
def KnW (P : Program) (gk t : Nat) (l : List (ByteArray × Value)) (z : Value) (w : World) : Prop := ∃ bm es clock, KnB P gk t l z w bm es clock
section
variable {P : Program} {gk t : Nat} {l : List (ByteArray × Value)} {z : Value} {w w' w0 : World} {bm : Nat} {es : Array MapEntry} {clock : Nat}
theorem cell_block {w : World} {b o : Nat} {v : Value} (h : w.cell? ⟨b, o, none⟩ = some v) : b < w.heap.size := by
  rcases Nat.lt_or_ge b w.heap.size with h9 | h9
  · exact h9
  · have h8 : w.heap[b]? = none := Array.getElem?_eq_none h9
    simp [World.cell?, h8] at h
theorem KnB.later (h : KnB P gk t l z w bm es clock) (hb : Below w.heap.size w w') : KnB P gk t l z w' bm es clock := by
  have h1 := cell_block h.gl
  have h2 := (Array.getElem?_eq_some_iff.1 h.hb).1
  exact ⟨by rw [← h.gl]; exact World.cell?_of_block (hb.block gk h1), (hb.block bm h2).trans h.hb, h.en, h.look⟩
theorem KnW.later (h : KnW P gk t l z w) (hb : Below w.heap.size w w') : KnW P gk t l z w' := by
  obtain ⟨bm, es, clock, h⟩ := h
  exact ⟨bm, es, clock, h.later hb⟩
/-- What a function does in a world where the map is known. -/
def CtK (P : Program) (gk t : Nat) (l : List (ByteArray × Value)) (z : Value) (f : FuncId) (args : List Value) (ps : List (Value × Nat × List (List Value))) (post : Value → List Res → Prop) : Prop :=
  ∀ w, KnW P gk t l z w → (∀ p ∈ ps, Rdd w p.1 p.2.1 p.2.2) → Calls P f args.toArray w fun e w' => ∃ v rs', e = .returned v ∧ Below w.heap.size w w' ∧ post v rs' ∧ (∀ r ∈ rs', r.ok w.heap.size w') ∧ (∀ r ∈ rs', r.own = true) ∧ Disj rs'
theorem CtK.of {N : Nat} {f : FuncId} {fn : Func} {c : Code} {args : List Value} {ps : List (Value × Nat × List (List Value))} {post : Value → List Res → Prop} (hf : P.funcs[f]? = some fn) (hb : fn.body = some c) (hN : fn.ntmps = N) (hle : Nat.ble args.length N = true)
    (h : ∀ w, KnW P gk t l z w → C P (bodyPost P fn (PostOf post w)) ⟨N, [], none⟩ w.heap.size w (argE 0 args) (rdOf ps) c) : CtK P gk t l z f args ps post := by
  intro w hk hw
  have h9 : Ct P f args ps post ∨ True := .inr trivial
  clear h9
  refine calls_of_wp hf hb ((wpIn_wide (n := 0)).1 (h w hk _ _ ⟨⟨Below.refl _ _, Nat.le_refl _, fun r hr => ?_, disj_rd ps⟩, ?_, rfl, fun i v hv => ?_⟩))
  · obtain ⟨p, hp, rfl⟩ := List.mem_map.1 hr
    exact rd_ok.2 (hw p hp)
  · have := Nat.ble_eq.mp hle
    simp [hN]
    omega
  · obtain ⟨_, h1⟩ := lk_argE args 0 i v hv
    simp only [Nat.sub_zero] at h1
    have hl := (List.getElem?_eq_some_iff.1 h1).1
    have h2 := List.getElem?_eq_getElem hl
    rw [h1] at h2
    injection h2 with h2
    simp [Array.getElem?_append, hl, h2]
end
section
variable {P : Program} {N : Fr} {B : Nat} {w0 : World} {E : Env} {rs : List Res} {Q : Exit → Act → World → Prop} {ops : Array Oper} {rest : List Oper} {dst : Option Nat} {ty : TypeId} {pos : String} {aft : Array Edge} {gd : Option (Nat × Bool)}
variable {gk mt : Nat} {ml : List (ByteArray × Value)} {mz : Value} {bm : Nat} {es : Array MapEntry} {clock : Nat}
end
end Go.Proofs.YthilaakeimfedaaGreatDoor
namespace Go.Proofs.YthilaakeimfedaaGreatDoor
open Go.RowKit
section
variable {P : Program} {N : Fr} {B : Nat} {w0 : World} {E : Env} {rs : List Res} {Q : Exit → Act → World → Prop} {ops : Array Oper} {rest : List Oper} {dst : Option Nat} {ty : TypeId} {pos : String} {aft : Array Edge} {gd : Option (Nat × Bool)}
theorem q_seq {t t' : TypeId} {x y : Operand} {s u : ByteArray} {b : Bool} (hx : ev E x = some (.string s)) (hy : ev E y = some (.string u)) (hb : (s.data.toList == u.data.toList) = b) : Qu P N B w0 E rs ⟨dst, .binOp .eql t x y t', ty, pos, aft, gd⟩ (.bool b) := by
  refine q_cmp hx hy fun w => ?_
  have g : eqGuard .eql t x y (.string s) (.string u) = pure () := rfl
  rw [g, binOp_string_eql, ByteArray.toList_eq, ByteArray.toList_eq, hb]
  rfl
theorem q_cat {t t' : TypeId} {x y : Operand} {s u r : ByteArray} (hx : ev E x = some (.string s)) (hy : ev E y = some (.string u)) (h : s.size + u.size ≤ 9223372036854775807) (hr : s ++ u = r) : Qu P N B w0 E rs ⟨dst, .binOp .add t x y t', ty, pos, aft, gd⟩ (.string r) := by
  refine q_cmp hx hy fun w => ?_
  have g : eqGuard .add t x y (.string s) (.string u) = pure () := rfl
  have h9 := run_string_add_sum (P := P) w s u h
  rw [g, binOp_string_add]
  simp [h9, hr]
end
end Go.Proofs.YthilaakeimfedaaGreatDoor
namespace Go.Proofs.YthilaakeimfedaaGreatDoor
open Go.RowKit
abbrev bs (l : List UInt8) : ByteArray := ⟨l.toArray⟩
theorem bs_size (l : List UInt8) : (bs l).size = l.length := by show l.toArray.size = _; simp
theorem bs_list (l : List UInt8) : (bs l).data.toList = l := rfl
theorem bs_app (a b : List UInt8) : bs a ++ bs b = bs (a ++ b) := by
  apply ByteArray.ext
  simp
/-- the list of a text's bytes, as a row of cells -/
def cU (c : UInt8) : List Value := [.int .u8 (c.toNat : Int)]
section
variable {P : Program} {N : Fr} {B : Nat} {w0 : World} {E : Env} {rs : List Res} {Q : Exit → Act → World → Prop} {ops : Array Oper} {rest : List Oper} {dst : Option Nat} {ty : TypeId} {pos : String} {aft : Array Edge} {gd : Option (Nat × Bool)}
variable {t t' : TypeId} {x y z : Operand} {a b l r : List UInt8}
theorem t_eq (hx : ev E x = some (.string (bs a))) (hy : ev E y = some (.string (bs b))) : Qu P N B w0 E rs ⟨dst, .binOp .eql t x y t', ty, pos, aft, gd⟩ (.bool (decide (a = b))) :=
  q_seq hx hy (by rw [bs_list, bs_list]; by_cases h : a = b <;> simp [h])
theorem t_cat (hx : ev E x = some (.string (bs a))) (hy : ev E y = some (.string (bs b))) (h : a.length + b.length ≤ 9223372036854775807) (hr : a ++ b = r) : Qu P N B w0 E rs ⟨dst, .binOp .add t x y t', ty, pos, aft, gd⟩ (.string (bs r)) :=
  q_cat hx hy (by rw [bs_size, bs_size]; exact h) (by rw [bs_app, hr])
/-- bytes as a text -/
theorem flat_u : ∀ l : List UInt8, (l.map cU).flatten = l.map fun c => Value.int .u8 (c.toNat : Int)
  | [] => rfl
  | c :: r => by simp [cU, flat_u r]
end
end Go.Proofs.YthilaakeimfedaaGreatDoor
namespace Go.Proofs.YthilaakeimfedaaGreatDoor
open Go.RowKit
abbrev Tx := List UInt8
/-! ### Numerals of at most four digits -/
/-- a number of at most so many digits -/
def numF : Tx → Int → Option Int
  | [], n => some n
  | c :: r, n => if c.toNat < 48 ∨ c.toNat > 57 then none else numF r (10 * n + ((c.toNat : Int) - 48))
def numA (l : Tx) : Nat := if l.head?.map (·.toNat) = some 45 then 1 else 0
def numM (l : Tx) (d : Nat) : Option Int :=
  if l.length = numA l ∨ l.length - numA l > d ∨ ((l.drop (numA l)).head?.map (·.toNat) = some 48 ∧ l.length > 1) then none
  else (numF (l.drop (numA l)) 0).map fun n => if numA l = 1 then -n else n
def isD (c : UInt8) : Bool := decide (48 ≤ c.toNat ∧ c.toNat ≤ 57)
structure dgP (n : Nat) (l : Tx) : Prop where
  at_ : Lib.atoiAll l = .ok (n : Int)
  nu : numM l 4 = some (n : Int)
  dg : ∀ c ∈ l, isD c = true
  le : l.length ≤ 4
  ne : 1 ≤ l.length
/-! ### Cutting -/
/-! ### A number, digit by digit -/
section
variable {l : Tx} {k d : Nat} {c : UInt8} {n : Int}
/-! ### Pieces -/
end
end Go.Proofs.YthilaakeimfedaaGreatDoor
