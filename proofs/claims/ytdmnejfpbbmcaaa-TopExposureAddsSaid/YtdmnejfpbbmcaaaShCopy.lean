/-
  The calculus: a copy into an own slice, the first elements of a slice, bits of small numbers. Conditions: none; no program in sight.
-/
import Derived.Test.YtdmnejfpbbmcaaaShWideF
import Derived.Test.YtdmnejfpbbmcaaaShTree
import Derived.Test.YtdmnejfpbbmcaaaShOwn
import Derived.Laws.CopyRow
namespace Go.Proofs.Ytdmnejfpbbmcaaa
open Go.RowKit

def Pk (rs rs' : List Res) : Prop := ∃ d, (rs' ++ d).Perm rs
theorem WS.pk {B : Nat} {w0 w : World} {rs rs' : List Res} (h : WS B w0 rs w) (hp : Pk rs rs') : WS B w0 rs' w := by
  obtain ⟨d, hd⟩ := hp
  exact (h.perm hd).sub (List.sublist_append_left _ _)
section
variable {rs rs1 t : List Res} {r : Res}
theorem pk_cons (h : (r :: rs1).Perm rs) (hp : Pk rs1 t) : Pk rs (r :: t) := by
  obtain ⟨d, hd⟩ := hp
  exact ⟨d, (hd.cons r).trans h⟩
theorem pk_nil : Pk rs [] := ⟨rs, List.Perm.refl _⟩
theorem pk_app {s : List Res} (h : Pk rs (r :: (s ++ t))) : Pk rs ((r :: s) ++ t) := h
theorem pk_app0 (h : Pk rs t) : Pk rs ([] ++ t) := h
theorem pk_app0L (h : Pk rs t) : Pk rs (List.append [] t) := h
class RmB (rs : List Res) (g : Nat) (u : outParam TypeId) (xs : outParam (List Value)) (rs1 : outParam (List Res)) : Prop where
  out : (box g u xs :: rs1).Perm rs
instance rmB0 {g : Nat} {u : TypeId} {xs : List Value} : RmB (box g u xs :: t) g u xs t := ⟨List.Perm.refl _⟩
instance (priority := low) rmB1 {g : Nat} {u : TypeId} {xs : List Value} [h : RmB rs g u xs rs1] : RmB (r :: rs) g u xs (r :: rs1) := ⟨(List.Perm.swap _ _ _).trans (h.out.cons r)⟩
instance rmBA {g : Nat} {u : TypeId} {xs : List Value} {s : List Res} [h : RmB (r :: (s ++ t)) g u xs rs1] : RmB ((r :: s) ++ t) g u xs rs1 := ⟨h.out⟩
instance rmBB {g : Nat} {u : TypeId} {xs : List Value} [h : RmB t g u xs rs1] : RmB ([] ++ t) g u xs rs1 := ⟨h.out⟩
theorem pk_box {g : Nat} {u : TypeId} {xs ys : List Value} [h : RmB rs g u xs rs1] (he : xs = ys) (hp : Pk rs1 t) : Pk rs (box g u ys :: t) := pk_cons (he ▸ h.out) hp
class RmR (rs : List Res) (v : Value) (size : outParam Nat) (l : outParam (List (List Value))) (rs1 : outParam (List Res)) : Prop where
  out : (rd v size l :: rs1).Perm rs
instance rmR0 {v : Value} {size : Nat} {l : List (List Value)} : RmR (rd v size l :: t) v size l t := ⟨List.Perm.refl _⟩
instance (priority := low) rmR1 {v : Value} {size : Nat} {l : List (List Value)} [h : RmR rs v size l rs1] : RmR (r :: rs) v size l (r :: rs1) := ⟨(List.Perm.swap _ _ _).trans (h.out.cons r)⟩
instance rmRA {v : Value} {size : Nat} {l : List (List Value)} {s : List Res} [h : RmR (r :: (s ++ t)) v size l rs1] : RmR ((r :: s) ++ t) v size l rs1 := ⟨h.out⟩
instance rmRB {v : Value} {size : Nat} {l : List (List Value)} [h : RmR t v size l rs1] : RmR ([] ++ t) v size l rs1 := ⟨h.out⟩
theorem pk_rd {v : Value} {size : Nat} {l m : List (List Value)} [h : RmR rs v size l rs1] (he : l = m) (hp : Pk rs1 t) : Pk rs (rd v size m :: t) := pk_cons (he ▸ h.out) hp
class RmS (rs : List Res) (v : Value) (e : outParam Nat) (size : outParam Nat) (l : outParam (List (List Value))) (rs1 : outParam (List Res)) : Prop where
  out : (sl v e size l :: rs1).Perm rs
instance rmS0 {v : Value} {e size : Nat} {l : List (List Value)} : RmS (sl v e size l :: t) v e size l t := ⟨List.Perm.refl _⟩
instance (priority := low) rmS1 {v : Value} {e size : Nat} {l : List (List Value)} [h : RmS rs v e size l rs1] : RmS (r :: rs) v e size l (r :: rs1) := ⟨(List.Perm.swap _ _ _).trans (h.out.cons r)⟩
instance rmSA {v : Value} {e size : Nat} {l : List (List Value)} {s : List Res} [h : RmS (r :: (s ++ t)) v e size l rs1] : RmS ((r :: s) ++ t) v e size l rs1 := ⟨h.out⟩
instance rmSB {v : Value} {e size : Nat} {l : List (List Value)} [h : RmS t v e size l rs1] : RmS ([] ++ t) v e size l rs1 := ⟨h.out⟩
theorem pk_sl {v : Value} {e size : Nat} {l m : List (List Value)} [h : RmS rs v e size l rs1] (he : l = m) (hp : Pk rs1 t) : Pk rs (sl v e size m :: t) := pk_cons (he ▸ h.out) hp
class RmV (rs : List Res) (r : Res) (rs1 : outParam (List Res)) : Prop where
  out : (r :: rs1).Perm rs
instance rmV0 : RmV (r :: t) r t := ⟨List.Perm.refl _⟩
instance (priority := low) rmV1 {s : Res} [h : RmV rs r rs1] : RmV (s :: rs) r (s :: rs1) := ⟨(List.Perm.swap _ _ _).trans (h.out.cons s)⟩
instance rmVA {a : Res} {s : List Res} [h : RmV (a :: (s ++ t)) r rs1] : RmV ((a :: s) ++ t) r rs1 := ⟨h.out⟩
instance rmVB [h : RmV t r rs1] : RmV ([] ++ t) r rs1 := ⟨h.out⟩
theorem pk_var [h : RmV rs r rs1] (hp : Pk rs1 t) : Pk rs (r :: t) := pk_cons h.out hp
class Tl (rs t : List Res) : Prop where
  out : Pk rs t
instance tl0 : Tl t t := ⟨⟨[], by rw [List.append_nil]⟩⟩
instance (priority := low) tl1 [h : Tl rs t] : Tl (r :: rs) t := ⟨by
  obtain ⟨d, hd⟩ := h.out
  exact ⟨r :: d, List.perm_middle.trans (hd.cons r)⟩⟩
instance tlA {s u : List Res} [h : Tl (r :: (s ++ u)) t] : Tl ((r :: s) ++ u) t := ⟨h.out⟩
instance tlB {u : List Res} [h : Tl u t] : Tl ([] ++ u) t := ⟨h.out⟩
theorem pk_tl [h : Tl rs t] : Pk rs t := h.out
end
section
variable {P : Program} (T : Tab P) {Q : Exit → Act → World → Prop} {ops : Array Oper} {N : Fr} {B : Nat} {w0 : World} {E : Env} {rs rs1 : List Res} {rest : List Oper} {ty : TypeId} {pos : String} {aft : Array Edge}
theorem L_st {t bt : TypeId} {ag : Bool} {sz bs : Nat} {zs : List Value} {x y : Operand} {g o : Nat} {xs : List Value} {v : Value} (hx : ev E x = some (.pointer (some ⟨g, o, none⟩))) (hy : ev E y = some v) [hr : RmB rs g bt xs rs1] (h : L P ops Q N B w0 E (box g bt (lay xs o v.cells.toList) :: rs1) rest)
    (ht : lkT T.ty t = some (ag, sz, bs, zs) := by exact rfl) (hl : Nat.beq v.cells.toList.length sz = true := by exact rfl) (h1 : v.cells.toList.all (·.oneCell') = true := by exact rfl) (hb : Nat.ble (o + v.cells.toList.length) xs.length = true := by exact rfl) :
    L P ops Q N B w0 E rs (⟨none, .store t x y, ty, pos, aft, none⟩ :: rest) := L_res (fun _ hw => hw.perm hr.out) (L_store T ht hx hy rfl hl h1 hb rfl h)
theorem L_ap {d : Nat} {t e m : TypeId} {ag : Bool} {sz bs : Nat} {zs : List Value} {x y : Operand} {v u : Value} {l l2 : List (List Value)} (he : lkT T.el t = some (e, m, false)) (ht : lkT T.ty e = some (ag, sz, bs, zs)) (hx : ev E x = some v) (hy : ev E y = some u) [hr : RmS rs v e sz l rs1] (hg : GvR rs1 u sz l2) (h1 : ∀ c ∈ l2.flatten, c.oneCell' = true)
    (hlen : l.length + l2.length ≤ maxLen) (hbyte : (l.length + l2.length) * bs ≤ 140737488355328) (h : ∀ v', L P ops Q N B w0 ((d, v') :: E) (sl v' e sz (l ++ l2) :: rs1) rest) (hzl : zs.length = sz := by exact rfl) (hs0 : 0 < sz := by omega)
    (hN : Nat.blt d N.n = true := by exact rfl) : L P ops Q N B w0 E rs (⟨some d, .call { callee := .builtin .append, args := #[x, y], argTypes := #[t, t] }, ty, pos, aft, none⟩ :: rest) := L_res (fun _ hw => hw.perm hr.out) (L_append T he ht hzl hs0 hx hy hg h1 hlen hbyte hN h)
end
end Go.Proofs.Ytdmnejfpbbmcaaa
namespace Go.Proofs.Ytdmnejfpbbmcaaa
open Go.RowKit

theorem flat_put (size : Nat) (cs : List Value) (hc : cs.length = size) : ∀ (l : List (List Value)) (i : Nat), (∀ x ∈ l, x.length = size) → i < l.length → (l.set i cs).flatten = l.flatten.take (i * size) ++ cs ++ l.flatten.drop (i * size + size)
  | [], i, _, hi => by simp at hi
  | x :: t, 0, h, _ => by
    have hx := h x List.mem_cons_self
    rw [List.set_cons_zero, List.flatten_cons, List.flatten_cons, Nat.zero_mul, Nat.zero_add, List.take_zero, List.nil_append, ← hx, List.drop_left]
  | x :: t, i + 1, h, hi => by
    have hx := h x List.mem_cons_self
    have ih := flat_put size cs hc t i (fun y hy => h y (List.mem_cons_of_mem _ hy)) (by simpa using hi)
    rw [List.set_cons_succ, List.flatten_cons, List.flatten_cons, ih]
    have e1 : (i + 1) * size = x.length + i * size := by rw [Nat.add_mul, hx]; omega
    rw [e1, List.take_length_add_append, Nat.add_assoc, List.drop_length_add_append]
    simp
section
variable {P : Program} (T : Tab P) {Q : Exit → Act → World → Prop} {ops : Array Oper} {N : Fr} {B : Nat} {w0 : World} {E : Env} {rs : List Res} {rest : List Oper} {dst : Option Tmp} {ty : TypeId} {pos : String} {aft : Array Edge}
theorem L_storeEl {t e : TypeId} {ag : Bool} {sz bs n i : Nat} {zs : List Value} {x y : Operand} {l : List (List Value)} {cs : List Value} {v u : Value} (ht : lkT T.ty t = some (ag, sz, bs, zs)) (hx : ev E x = some (elP v n)) (hy : ev E y = some u) (hc : u.cells.toList = cs)
    (hl : Nat.beq cs.length sz = true) (h1 : cs.all (·.oneCell') = true) (hi : i < l.length) (hn : n = i * sz) (h : L P ops Q N B w0 E (sl v e sz (l.set i cs) :: rs) rest) :
    L P ops Q N B w0 E (sl v e sz l :: rs) (⟨none, .store t x y, ty, pos, aft, none⟩ :: rest) := by
  subst hn
  intro a w hs
  refine wpListIn_plain rfl fun K hK => ?_
  have hsz := T.sizeOf ht w
  simp only at hsz
  have hown := hs.has (r := sl v e sz l) List.mem_cons_self
  obtain ⟨ho, hall⟩ := sl_ok.1 hown
  have hl' := Nat.eq_of_beq_eq_true hl
  have hfl : l.flatten.length = l.length * sz := ho.1
  rcases ho.2 with ⟨hv, hn0⟩ | ⟨g, cap, cur, hv, hb, hgg, hc1, hc2, hc3, hc4⟩
  · omega
  have hle : i * sz + sz ≤ l.length * sz := by
    have := Nat.mul_le_mul_right sz (show i + 1 ≤ l.length from hi)
    rw [Nat.add_mul, Nat.one_mul] at this
    exact this
  have hle2 : l.length * sz ≤ cap * sz := Nat.mul_le_mul_right sz hc1
  have hst := run_storeCells_at (P := P) g (i * sz) e cs 0 cur w hgg (by rw [hc3]; omega) (by simpa using h1)
  have hvs : u.cells.size = sz := by rw [← hl', ← hc]; simp
  subst hv
  have hx' : a.eval x = .pointer (some (Addr.add ⟨g, 0, none⟩ (i * sz))) := hs.eval hx
  have hadd : Addr.add ⟨g, 0, none⟩ (i * sz) = ⟨g, i * sz, none⟩ := by
    unfold Addr.add
    split
    · next h0 => rw [h0]
    · simp
  rw [hadd] at hx'
  generalize hys : (cur.toList.take (i * sz + 0) ++ cs ++ cur.toList.drop (i * sz + 0 + cs.length)) = ys at hst
  have hrun : (execOp a.eval ⟨none, .store t x y, ty, pos, aft, none⟩).run P w = .ok .skip (w.setRow g ys.toArray) := by
    simp only [execOp, hx', hs.eval hy, Instr.storeAt, Instr.sureAddr, storeVar, Sem.run_bind, Sem.run_pure, Result.andThen_ok, hsz, hvs, hc]
    simp [hst]
  have hcl : cur.toList.length = cap * sz := by rw [Array.length_toList, hc3]
  have hys2 : ys.length = cap * sz := by
    rw [← hys]
    simp only [List.length_append, List.length_take, List.length_drop, hcl]
    omega
  have htake : ys.take (l.length * sz) = (l.set i cs).flatten := by
    rw [flat_put sz cs hl' l i hall hi, ← hc4, ← hys]
    rw [Nat.add_zero, hl', List.take_take, List.drop_take, Nat.min_eq_left (by omega), List.take_append, List.take_append]
    simp only [List.length_append, List.length_take, hcl, hl']
    rw [Nat.min_eq_left (by omega), List.take_of_length_le (l := cs) (by omega), List.take_of_length_le (l := List.take (i * sz) cur.toList) (by rw [List.length_take]; omega)]
  refine wpIn_quiet hrun (hK _ _ (h _ _ (hs.world ?_)))
  refine hs.ws.turn (sl_own _ _ _ _) (by rw [sl_blk, sl_blk]) (sl_own _ _ _ _) (sl_ok.2 ⟨⟨?_, .inr ⟨g, cap, ys.toArray, by rw [List.length_set], hb, setRow_heap w g cur ys.toArray e (0, 0) hgg, by rw [List.length_set]; exact hc1, hc2, by simpa using hys2, by rw [List.length_set]; exact htake⟩⟩, ?_⟩)
    ⟨rfl, rfl, rfl⟩ (by rw [setRow_size]; exact Nat.le_refl _) (fun k _ hne => setRow_other w g k _ (fun e => hne (by rw [sl_blk, e]; rfl)))
  · rw [List.length_set, ← htake, List.length_take, hys2]
    omega
  · intro z hz
    rcases List.mem_or_eq_of_mem_set hz with h9 | h9
    · exact hall z h9
    · rw [h9]; exact hl'
/-! ### Ends of a function that holds a loop over a function -/
end
end Go.Proofs.Ytdmnejfpbbmcaaa
namespace Go.Proofs.Ytdmnejfpbbmcaaa
open Go.RowKit

theorem flat_take : ∀ (l : List (List Value)) (size k : Nat), (∀ x ∈ l, x.length = size) → (l.take k).flatten = l.flatten.take (k * size)
  | [], _, _, _ => by simp
  | x :: t, size, 0, _ => by simp
  | x :: t, size, k + 1, he => by
    have hx := he x List.mem_cons_self
    rw [List.take_succ_cons, List.flatten_cons, List.flatten_cons, flat_take t size k (fun y hy => he y (List.mem_cons_of_mem _ hy)), Nat.succ_mul, Nat.add_comm, ← hx, List.take_length_add_append]
theorem take_at {l : List Value} {n j : Nat} {u : Value} (h : (l.take n)[j]? = some u) : l[j]? = some u := by
  rw [List.getElem?_take] at h
  split at h
  · exact h
  · cases h
def takeV (v : Value) (k : Nat) : Value := match v with
  | .slice a _ c => .slice (if c = 0 then a else a.map (·.add 0)) k c
  | u => u
theorem add_zero (a : Addr) : a.add 0 = a := by unfold Addr.add; simp
theorem take_rdd {w : World} {v : Value} {size k : Nat} {l : List (List Value)} (h : Rdd w v size l) (hk : k ≤ l.length) : Rdd w (takeV v k) size (l.take k) := by
  obtain ⟨A, cap, hv, hc1, hc2⟩ := h.form
  have e : takeV v k = .slice A k cap := by
    rw [hv]
    unfold takeV
    by_cases hc : cap = 0
    · simp [hc]
    · simp only [hc, if_false]
      cases A with
      | none => rfl
      | some a => simp [add_zero]
  rw [e]
  refine ⟨⟨A, cap, by rw [List.length_take, Nat.min_eq_left hk], by rw [List.length_take]; omega, hc2⟩, fun x hx => h.each x (List.mem_of_mem_take hx), fun h0 => ?_⟩
  rw [List.length_take] at h0
  obtain ⟨ad, h1, ⟨n, c, h2⟩, h3, h4⟩ := h.some (by omega)
  rw [hv] at h2
  injection h2 with hA hn hc
  subst hA
  refine ⟨ad, rfl, ⟨k, cap, rfl⟩, h3, fun j u hj => ?_⟩
  rw [flat_take l size k h.each] at hj
  exact h4 _ _ (take_at hj)
theorem gvt {rs : List Res} {v : Value} {size k : Nat} {l : List (List Value)} (h : GvR rs v size l) (hk : k ≤ l.length) : GvR rs (takeV v k) size (l.take k) := by
  obtain ⟨r, hr, hg⟩ := h
  exact ⟨r, hr, fun B w ho => take_rdd (hg B w ho) hk⟩
section
variable {P : Program} (T : Tab P) {Q : Exit → Act → World → Prop} {ops : Array Oper} {N : Fr} {B : Nat} {w0 : World} {E : Env} {rs : List Res} {rest : List Oper} {dst : Option Tmp} {ty : TypeId} {pos : String} {aft : Array Edge} {gd : Option (Nat × Bool)}
theorem q_to {t e m : TypeId} {ag : Bool} {sz bs : Nat} {zs : List Value} {x y : Operand} {v : Value} {l : List (List Value)} {kd : IntKind} {k : Int} (he : lkT T.el t = some (e, m, false)) (ht : lkT T.ty e = some (ag, sz, bs, zs)) (hx : ev E x = some v) (hy : ev E y = some (.int kd k)) (hg : GvR rs v sz l) (h0 : 0 ≤ k) (h1 : k ≤ l.length) :
    Qu P N B w0 E rs ⟨dst, .slice t x none (some y) none, ty, pos, aft, gd⟩ (takeV v k.toNat) := by
  intro a w hs
  obtain ⟨A, cap, hv, hc1, hc2⟩ := (hs.reads hg).form
  have hu : P.underlying t = some (.slice e) := by
    rcases T.el_ok _ (lkT_mem he) with ⟨_, h⟩ | ⟨h, _⟩
    · exact h
    · cases h
  have he' : P.elem t = e := by simp [Program.elem, hu]
  have hu' : P.underlying t = some (.slice (P.elem t)) := by rw [he']; exact hu
  have h3 := T.sizeOf ht w
  simp only at h3
  have hr := run_slice_h (P := P) w t A l.length cap hu' kd k h0 (by omega)
  rw [he', h3] at hr
  have e2 : sliced A 0 k.toNat cap sz = takeV v k.toNat := by
    rw [hv]
    unfold sliced takeV
    simp
  simp only [execOp, hs.eval hx, Option.map_some, Option.map_none, hs.eval hy, hv, Sem.run_bind, run_sliceAt_slice (P := P) w t _ _ _ _ hu', hr, Result.andThen_ok, Sem.run_pure]
  rw [e2, hv]
def CpTo (v : Value) (sz k : Nat) (d : Value) : Prop := (d = v ∧ k = 0) ∨ d = dropV v k sz
theorem CpTo.from {v : Value} {sz k : Nat} : CpTo v sz k (dropV v k sz) := .inr rfl
theorem q_toF {t e m : TypeId} {ag : Bool} {sz bs : Nat} {zs : List Value} {x y : Operand} {A : Option Addr} {n c : Nat} {kd : IntKind} {k : Int} (he : lkT T.el t = some (e, m, false)) (ht : lkT T.ty e = some (ag, sz, bs, zs)) (hx : ev E x = some (.slice A n c)) (hy : ev E y = some (.int kd k)) (h0 : 0 ≤ k) (h1 : k ≤ c) :
    Qu P N B w0 E rs ⟨dst, .slice t x none (some y) none, ty, pos, aft, gd⟩ (takeV (.slice A n c) k.toNat) := by
  intro a w hs
  have hu : P.underlying t = some (.slice e) := by
    rcases T.el_ok _ (lkT_mem he) with ⟨_, h⟩ | ⟨h, _⟩
    · exact h
    · cases h
  have he' : P.elem t = e := by simp [Program.elem, hu]
  have hu' : P.underlying t = some (.slice (P.elem t)) := by rw [he']; exact hu
  have h3 := T.sizeOf ht w
  simp only at h3
  have hr := run_slice_h (P := P) w t A n c hu' kd k h0 h1
  rw [he', h3] at hr
  have e2 : sliced A 0 k.toNat c sz = takeV (.slice A n c) k.toNat := by
    unfold sliced takeV
    simp
  simp only [execOp, hs.eval hx, Option.map_some, Option.map_none, hs.eval hy, Sem.run_bind, run_sliceAt_slice (P := P) w t _ _ _ _ hu', hr, Result.andThen_ok, Sem.run_pure]
  rw [e2]
end
theorem u64_in {m : Int} (h : 0 ≤ m ∧ m ≤ 18446744073709551615) : IntKind.u64.wrap m = m := by
  unfold IntKind.wrap
  simp [IntKind.signed, IntKind.bits]
  omega
theorem wrU {a b : Int} (h : a = b) (h2 : 0 ≤ b ∧ b ≤ 18446744073709551615) : IntKind.u64.wrap a = b := by subst h; exact u64_in h2
end Go.Proofs.Ytdmnejfpbbmcaaa
