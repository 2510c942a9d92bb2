/-
  The calculus: new memory, stores, append, calls; a function's contract out of its body. Conditions: none; no program in sight.
-/
import Derived.Test.YtdmnejfpbbmcaaaShOps
namespace Go.Proofs.Ytdmnejfpbbmcaaa
open Go.RowKit

section
variable {P : Program} (T : Tab P) {Q : Exit → Act → World → Prop} {ops : Array Oper} {N : Fr} {B : Nat} {w0 : World} {E : Env} {rs : List Res} {rest : List Oper} {dst : Option Tmp} {ty : TypeId} {pos : String} {aft : Array Edge} {gd : Option (Nat × Bool)}

theorem below_alloc (w : World) (o : Obj) : Below w.heap.size w (w.alloc o) := (Below.refl _ _).alloc (Nat.le_refl _) o
theorem box_new {B : Nat} {w : World} (hB : B ≤ w.heap.size) (t : TypeId) (xs : List Value) : (box w.heap.size t xs).ok B (w.alloc (.cells xs.toArray t)) := box_ok.2 ⟨hB, heap_alloc_new w _⟩
theorem disj_one (r : Res) : Disj [r] := List.pairwise_singleton _ _

def isBox (t : TypeId) (xs : List Value) (v : Value) (rs' : List Res) : Prop := ∃ g, v = .pointer (some ⟨g, 0, none⟩) ∧ rs' = [box g t xs]

theorem lo_alloc {t : TypeId} {ag : Bool} {sz bs : Nat} {zs : List Value} (ht : lkT T.ty t = some (ag, sz, bs, zs)) : Lo P N B w0 E rs ⟨dst, .alloc t, ty, pos, aft, gd⟩ (isBox t zs) := by
  intro a w hs
  obtain ⟨z, hz, hr⟩ := T.zero ht
  refine .inl ⟨.pointer (some ⟨w.heap.size, 0, none⟩), w.alloc (.cells z.cells t), [box w.heap.size t zs], ?_, below_alloc _ _, ⟨_, rfl, rfl⟩, ?_, disj_one _⟩
  · simp [execOp, Instr.alloc, hr, newVar, newRow]
  · intro r hm
    simp only [List.mem_singleton] at hm
    subst hm
    refine ⟨?_, fun k hk => ?_⟩
    · have := box_new (B := B) hs.ws.bas t zs
      simp only at hz
      rw [← hz, Array.toArray_toList] at this
      rw [← hz]
      exact this
    · rw [box_blk] at hk
      injection hk with hk
      omega

theorem lo_box {t : TypeId} {x : Operand} {v : Value} {xs : List Value} (hx : ev E x = some v) (hc : v.cells.toList = xs) : Lo P N B w0 E rs ⟨dst, .box t x, ty, pos, aft, gd⟩ (isBox t xs) := by
  intro a w hs
  refine .inl ⟨.pointer (some ⟨w.heap.size, 0, none⟩), w.alloc (.cells v.cells t), [box w.heap.size t xs], ?_, below_alloc _ _, ⟨_, rfl, rfl⟩, ?_, disj_one _⟩
  · simp [execOp, Instr.box, hs.eval hx, newVar, newRow]
  · intro r hm
    simp only [List.mem_singleton] at hm
    subst hm
    refine ⟨?_, fun k hk => ?_⟩
    · have := box_new (B := B) hs.ws.bas t xs
      rw [← hc, Array.toArray_toList] at this
      rw [← hc]
      exact this
    · rw [box_blk] at hk
      injection hk with hk
      omega

/-! ### A composite's cells out of its parts -/
def lay (xs : List Value) (o : Nat) (cs : List Value) : List Value := xs.take o ++ cs ++ xs.drop (o + cs.length)
theorem foldl_lay : ∀ (cs : List Value) (o k : Nat) (cells : Array Value), o + k + cs.length ≤ cells.size →
    ((cs.zipIdx k).foldl (fun ds (p : Value × Nat) => ds.setIfInBounds (o + p.2) p.1) cells).toList = lay cells.toList (o + k) cs
  | [], o, k, cells, h => by simp [lay]
  | c :: t, o, k, cells, h => by
    simp only [List.length_cons] at h
    rw [List.zipIdx_cons, List.foldl_cons, foldl_lay t o (k + 1) _ (by simp; omega)]
    have hl : o + k < cells.toList.length := by simp; omega
    simp only [lay, Array.toList_setIfInBounds, List.length_cons]
    have h1 : (cells.toList.set (o + k) c).take (o + (k + 1)) = cells.toList.take (o + k) ++ [c] := by
      rw [show o + (k + 1) = (o + k) + 1 by omega, List.take_succ_eq_append_getElem (by simpa using hl), List.getElem_set_self, List.take_set_of_le (Nat.le_refl _)]
    have h2 : (cells.toList.set (o + k) c).drop (o + (k + 1) + t.length) = cells.toList.drop (o + k + (t.length + 1)) := by
      rw [List.drop_set_of_lt (by omega)]
      congr 1
      omega
    rw [h1, h2]
    simp
def fillL (bd : List (Nat × Nat)) (cells : List Value) : List (Nat × List Value) → Option (List Value)
  | [] => some cells
  | (i, cs) :: t => match bd[i]? with
    | some (o, n) => match Nat.beq cs.length n && Nat.ble (o + n) cells.length with
      | true => fillL bd (lay cells o cs) t
      | false => none
    | none => none
theorem fill_of {bd : List (Nat × Nat)} {place : Nat → Option (Nat × Nat)} (hp : ∀ i x, bd[i]? = some x → place i = some x) : ∀ (ps : List (Nat × Value)) (cells : Array Value) (r : List Value),
    fillL bd cells.toList (ps.map fun p => (p.1, p.2.cells.toList)) = some r → Instr.fill place cells ps = some r.toArray
  | [], cells, r, h => by
    simp only [List.map_nil, fillL, Option.some.injEq] at h
    simp [Instr.fill, ← h]
  | (i, v) :: t, cells, r, h => by
    simp only [List.map_cons, fillL] at h
    split at h
    · rename_i o n hb
      split at h
      · rename_i hc
        simp only [Bool.and_eq_true] at hc
        have h1 : v.cells.toList.length = n := Nat.eq_of_beq_eq_true hc.1
        have h2 : o + n ≤ cells.toList.length := Nat.ble_eq.mp hc.2
        simp only [Array.length_toList] at h1 h2
        have h3 : (v.cells.zipIdx.foldl (fun cs (x : Value × Nat) => cs.setIfInBounds (o + x.2) x.1) cells).toList = lay cells.toList o v.cells.toList := by
          rw [← Array.foldl_toList, Array.toList_zipIdx]
          have := foldl_lay v.cells.toList o 0 cells (by simp; omega)
          simpa using this
        rw [← h3] at h
        have ih := fill_of hp t _ r h
        simp only [Instr.fill, hp i _ hb]
        rw [if_neg (by simp; omega)]
        exact ih
      · cases h
    · cases h
def parts (E : Env) : List (Nat × Operand) → Option (List (Nat × Value))
  | [] => some []
  | (i, x) :: t => match ev E x with
    | some v => match parts E t with
      | some l => some ((i, v) :: l)
      | none => none
    | none => none
theorem Sat.parts {a : Act} {w : World} (hs : Sat N B w0 E rs a w) : ∀ {ps : List (Nat × Operand)} {l : List (Nat × Value)}, Ytdmnejfpbbmcaaa.parts E ps = some l → ps.map (fun p => (p.1, a.eval p.2)) = l
  | [], l, h => by simpa [Ytdmnejfpbbmcaaa.parts] using h
  | (i, x) :: t, l, h => by
    simp only [Ytdmnejfpbbmcaaa.parts] at h
    split at h
    · rename_i v hv
      split at h
      · rename_i l' hl
        injection h with h
        subst h
        rw [List.map_cons, hs.eval hv, hs.parts hl]
      · cases h
    · cases h
def cellsOfParts (l : List (Nat × Value)) : List (Nat × List Value) := l.map fun p => (p.1, p.2.cells.toList)

theorem mapM_places {P : Program} (w : World) : ∀ (fs : List Field) (r : List (Nat × Nat)), (fs.map fun f => (f.offset, (P.info? f.type).map (·.size))) = r.map (fun x => (x.1, some x.2)) →
    (fs.mapM (m := Sem) fun f => do pure (f.offset, ← Go.sizeOf f.type)).run P w = .ok r w
  | [], [], _ => by simp
  | [], _ :: _, h => by simp at h
  | _ :: _, [], h => by simp at h
  | f :: t, (o, n) :: r, h => by
    simp only [List.map_cons, List.cons.injEq, Prod.mk.injEq] at h
    obtain ⟨⟨h1, h2⟩, h3⟩ := h
    have ih := mapM_places w t r h3
    obtain ⟨i, hi, hn⟩ : ∃ i, P.info? f.type = some i ∧ i.size = n := by
      cases hq : P.info? f.type with
      | none => simp [hq] at h2
      | some i => exact ⟨i, rfl, by simpa [hq] using h2⟩
    have hsz : (Go.sizeOf f.type).run P w = .ok n w := by simp [Go.sizeOf, typeInfo, hi, hn]
    rw [List.mapM_cons]
    simp only [Sem.run_bind, hsz, Result.andThen_ok, Sem.run_pure, ih, h1]

theorem q_build {t : TypeId} {ag : Bool} {sz bs : Nat} {zs : List Value} {bd : List (Nat × Nat)} {ps : Array (Nat × Operand)} {l : List (Nat × Value)} {r : List Value} (ht : lkT T.ty t = some (ag, sz, bs, zs)) (hb : lkT T.bd t = some bd) (hp : Ytdmnejfpbbmcaaa.parts E ps.toList = some l)
    (hr : fillL bd zs (cellsOfParts l) = some r) : Qu P N B w0 E rs ⟨dst, .build t ps, ty, pos, aft, gd⟩ (.agg r.toArray) := by
  intro a w hs
  obtain ⟨z, hz, hzr⟩ := T.zero ht
  obtain ⟨fs, h1, h2⟩ := T.bd_ok _ (lkT_mem hb)
  simp only at hz h1 h2
  have h3 := hs.parts hp
  have h4 : (ps.map fun (i, x) => (i, a.eval x)) = l.toArray := Array.ext' (by rw [Array.toList_map]; exact h3)
  have h5 := mapM_places (P := P) w fs.toList bd h2
  have h6 : (fs.mapM (m := Sem) fun f => do pure (f.offset, ← Go.sizeOf f.type)).run P w = .ok bd.toArray w := by
    rw [Array.mapM_eq_mapM_toList, Sem.run_map, h5]
    rfl
  have h7 := fill_of (bd := bd) (place := (bd.toArray[·]?)) (fun i x hx => by simpa using hx) l z.cells r (by rw [hz]; exact hr)
  simp only [execOp, h4, Instr.build, Sem.run_bind, hzr, Result.andThen_ok, run_underlying h1, h6, h7, Sem.run_pure]

end
end Go.Proofs.Ytdmnejfpbbmcaaa
