/-
  The calculus: what is known, in another order, or less of it: found by its names. Conditions: none; no program in sight.
-/
import Derived.Test.YtdmnejfpbbmcaaaShWideF
namespace Go.Proofs.Ytdmnejfpbbmcaaa
open Go.RowKit

def Pk (rs rs' : List Res) : Prop := ∃ d, (rs' ++ d).Perm rs
theorem WS.pk {B : Nat} {w0 w : World} {rs rs' : List Res} (h : WS B w0 rs w) (hp : Pk rs rs') : WS B w0 rs' w := by
  obtain ⟨d, hd⟩ := hp
  exact (h.perm hd).sub (List.sublist_append_left _ _)
section
variable {rs rs1 t : List Res} {r : Res}
theorem pk_cons (h : (r :: rs1).Perm rs) (hp : Pk rs1 t) : Pk rs (r :: t) := by
  obtain ⟨d, hd⟩ := hp
  exact ⟨d, (hd.cons r).trans h⟩
theorem pk_nil : Pk rs [] := ⟨rs, List.Perm.refl _⟩
theorem pk_app {s : List Res} (h : Pk rs (r :: (s ++ t))) : Pk rs ((r :: s) ++ t) := h
theorem pk_app0 (h : Pk rs t) : Pk rs ([] ++ t) := h
theorem pk_app0L (h : Pk rs t) : Pk rs (List.append [] t) := h
class RmB (rs : List Res) (g : Nat) (u : outParam TypeId) (xs : outParam (List Value)) (rs1 : outParam (List Res)) : Prop where
  out : (box g u xs :: rs1).Perm rs
instance rmB0 {g : Nat} {u : TypeId} {xs : List Value} : RmB (box g u xs :: t) g u xs t := ⟨List.Perm.refl _⟩
instance (priority := low) rmB1 {g : Nat} {u : TypeId} {xs : List Value} [h : RmB rs g u xs rs1] : RmB (r :: rs) g u xs (r :: rs1) := ⟨(List.Perm.swap _ _ _).trans (h.out.cons r)⟩
instance rmBA {g : Nat} {u : TypeId} {xs : List Value} {s : List Res} [h : RmB (r :: (s ++ t)) g u xs rs1] : RmB ((r :: s) ++ t) g u xs rs1 := ⟨h.out⟩
instance rmBB {g : Nat} {u : TypeId} {xs : List Value} [h : RmB t g u xs rs1] : RmB ([] ++ t) g u xs rs1 := ⟨h.out⟩
theorem pk_box {g : Nat} {u : TypeId} {xs ys : List Value} [h : RmB rs g u xs rs1] (he : xs = ys) (hp : Pk rs1 t) : Pk rs (box g u ys :: t) := pk_cons (he ▸ h.out) hp
class RmR (rs : List Res) (v : Value) (size : outParam Nat) (l : outParam (List (List Value))) (rs1 : outParam (List Res)) : Prop where
  out : (rd v size l :: rs1).Perm rs
instance rmR0 {v : Value} {size : Nat} {l : List (List Value)} : RmR (rd v size l :: t) v size l t := ⟨List.Perm.refl _⟩
instance (priority := low) rmR1 {v : Value} {size : Nat} {l : List (List Value)} [h : RmR rs v size l rs1] : RmR (r :: rs) v size l (r :: rs1) := ⟨(List.Perm.swap _ _ _).trans (h.out.cons r)⟩
instance rmRA {v : Value} {size : Nat} {l : List (List Value)} {s : List Res} [h : RmR (r :: (s ++ t)) v size l rs1] : RmR ((r :: s) ++ t) v size l rs1 := ⟨h.out⟩
instance rmRB {v : Value} {size : Nat} {l : List (List Value)} [h : RmR t v size l rs1] : RmR ([] ++ t) v size l rs1 := ⟨h.out⟩
theorem pk_rd {v : Value} {size : Nat} {l m : List (List Value)} [h : RmR rs v size l rs1] (he : l = m) (hp : Pk rs1 t) : Pk rs (rd v size m :: t) := pk_cons (he ▸ h.out) hp
class RmS (rs : List Res) (v : Value) (e : outParam Nat) (size : outParam Nat) (l : outParam (List (List Value))) (rs1 : outParam (List Res)) : Prop where
  out : (sl v e size l :: rs1).Perm rs
instance rmS0 {v : Value} {e size : Nat} {l : List (List Value)} : RmS (sl v e size l :: t) v e size l t := ⟨List.Perm.refl _⟩
instance (priority := low) rmS1 {v : Value} {e size : Nat} {l : List (List Value)} [h : RmS rs v e size l rs1] : RmS (r :: rs) v e size l (r :: rs1) := ⟨(List.Perm.swap _ _ _).trans (h.out.cons r)⟩
instance rmSA {v : Value} {e size : Nat} {l : List (List Value)} {s : List Res} [h : RmS (r :: (s ++ t)) v e size l rs1] : RmS ((r :: s) ++ t) v e size l rs1 := ⟨h.out⟩
instance rmSB {v : Value} {e size : Nat} {l : List (List Value)} [h : RmS t v e size l rs1] : RmS ([] ++ t) v e size l rs1 := ⟨h.out⟩
theorem pk_sl {v : Value} {e size : Nat} {l m : List (List Value)} [h : RmS rs v e size l rs1] (he : l = m) (hp : Pk rs1 t) : Pk rs (sl v e size m :: t) := pk_cons (he ▸ h.out) hp
class RmV (rs : List Res) (r : Res) (rs1 : outParam (List Res)) : Prop where
  out : (r :: rs1).Perm rs
instance rmV0 : RmV (r :: t) r t := ⟨List.Perm.refl _⟩
instance (priority := low) rmV1 {s : Res} [h : RmV rs r rs1] : RmV (s :: rs) r (s :: rs1) := ⟨(List.Perm.swap _ _ _).trans (h.out.cons s)⟩
instance rmVA {a : Res} {s : List Res} [h : RmV (a :: (s ++ t)) r rs1] : RmV ((a :: s) ++ t) r rs1 := ⟨h.out⟩
instance rmVB [h : RmV t r rs1] : RmV ([] ++ t) r rs1 := ⟨h.out⟩
theorem pk_var [h : RmV rs r rs1] (hp : Pk rs1 t) : Pk rs (r :: t) := pk_cons h.out hp
class Tl (rs t : List Res) : Prop where
  out : Pk rs t
instance tl0 : Tl t t := ⟨⟨[], by rw [List.append_nil]⟩⟩
instance (priority := low) tl1 [h : Tl rs t] : Tl (r :: rs) t := ⟨by
  obtain ⟨d, hd⟩ := h.out
  exact ⟨r :: d, List.perm_middle.trans (hd.cons r)⟩⟩
instance tlA {s u : List Res} [h : Tl (r :: (s ++ u)) t] : Tl ((r :: s) ++ u) t := ⟨h.out⟩
instance tlB {u : List Res} [h : Tl u t] : Tl ([] ++ u) t := ⟨h.out⟩
theorem pk_tl [h : Tl rs t] : Pk rs t := h.out
end
section
variable {P : Program} (T : Tab P) {Q : Exit → Act → World → Prop} {ops : Array Oper} {N : Fr} {B : Nat} {w0 : World} {E : Env} {rs rs1 : List Res} {rest : List Oper} {ty : TypeId} {pos : String} {aft : Array Edge}
theorem L_st {t bt : TypeId} {ag : Bool} {sz bs : Nat} {zs : List Value} {x y : Operand} {g o : Nat} {xs : List Value} {v : Value} (hx : ev E x = some (.pointer (some ⟨g, o, none⟩))) (hy : ev E y = some v) [hr : RmB rs g bt xs rs1] (h : L P ops Q N B w0 E (box g bt (lay xs o v.cells.toList) :: rs1) rest)
    (ht : lkT T.ty t = some (ag, sz, bs, zs) := by exact rfl) (hl : Nat.beq v.cells.toList.length sz = true := by exact rfl) (h1 : v.cells.toList.all (·.oneCell') = true := by exact rfl) (hb : Nat.ble (o + v.cells.toList.length) xs.length = true := by exact rfl) :
    L P ops Q N B w0 E rs (⟨none, .store t x y, ty, pos, aft, none⟩ :: rest) := L_res (fun _ hw => hw.perm hr.out) (L_store T ht hx hy rfl hl h1 hb rfl h)
theorem L_ap {d : Nat} {t e m : TypeId} {ag : Bool} {sz bs : Nat} {zs : List Value} {x y : Operand} {v u : Value} {l l2 : List (List Value)} (he : lkT T.el t = some (e, m, false)) (ht : lkT T.ty e = some (ag, sz, bs, zs)) (hx : ev E x = some v) (hy : ev E y = some u) [hr : RmS rs v e sz l rs1] (hg : GvR rs1 u sz l2) (h1 : ∀ c ∈ l2.flatten, c.oneCell' = true)
    (hlen : l.length + l2.length ≤ maxLen) (hbyte : (l.length + l2.length) * bs ≤ 140737488355328) (h : ∀ v', L P ops Q N B w0 ((d, v') :: E) (sl v' e sz (l ++ l2) :: rs1) rest) (hzl : zs.length = sz := by exact rfl) (hs0 : 0 < sz := by omega)
    (hN : Nat.blt d N.n = true := by exact rfl) : L P ops Q N B w0 E rs (⟨some d, .call { callee := .builtin .append, args := #[x, y], argTypes := #[t, t] }, ty, pos, aft, none⟩ :: rest) := L_res (fun _ hw => hw.perm hr.out) (L_append T he ht hzl hs0 hx hy hg h1 hlen hbyte hN h)
end
end Go.Proofs.Ytdmnejfpbbmcaaa
