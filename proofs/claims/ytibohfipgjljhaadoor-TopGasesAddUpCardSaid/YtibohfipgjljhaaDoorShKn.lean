/-
  The calculus: a package-level map that is only read: a look at it, a range over it; functions that ask what it holds. Conditions: none; no program in sight.
-/
import Derived.Test.YtibohfipgjljhaaDoorShTreeQ
import Derived.Test.YtibohfipgjljhaaDoorShClo
import Derived.Laws.IdiomRangeMap
namespace Go.Proofs.YtibohfipgjljhaaDoor
open Go.RowKit

/-- What a map's entries are: their stamps, and just these keys with these values. -/
structure MapE (es : Array MapEntry) (clock : Nat) (l : List (ByteArray × Value)) : Prop where
  old : ∀ e ∈ es.toList, e.born < clock
  nod : (es.toList.map (·.born)).Nodup
  sub : ∀ e ∈ es.toList, ∃ p ∈ l, e.key = .string p.1 ∧ e.val = p.2
  all : ∀ p ∈ l, ∃ e ∈ es.toList, e.key = .string p.1 ∧ e.val = p.2
def lookV (l : List (ByteArray × Value)) (z : Value) (s : ByteArray) : Value := match l.find? (fun p => p.1.data.toList == s.data.toList) with
  | some p => .tuple #[p.2, .bool true]
  | none => .tuple #[z, .bool false]
/-- The variable with number gk holds the map in block bm. -/
structure KnB (P : Program) (gk t : Nat) (l : List (ByteArray × Value)) (z : Value) (w : World) (bm : Nat) (es : Array MapEntry) (clock : Nat) : Prop where
  gl : w.cell? ⟨gk, 0, none⟩ = some (.map (some bm))
  hb : w.heap[bm]? = some (.map es clock)
  en : MapE es clock l
  look : ∀ w', w'.heap[bm]? = some (.map es clock) → ∀ s : ByteArray, s.size ≤ maxLen → (Instr.lookup t (.map (some bm)) (.string s) true).run P w' = .ok (lookV l z s) w'
def KnW (P : Program) (gk t : Nat) (l : List (ByteArray × Value)) (z : Value) (w : World) : Prop := ∃ bm es clock, KnB P gk t l z w bm es clock
section
variable {P : Program} {gk t : Nat} {l : List (ByteArray × Value)} {z : Value} {w w' w0 : World} {bm : Nat} {es : Array MapEntry} {clock : Nat}
theorem cell_block {w : World} {b o : Nat} {v : Value} (h : w.cell? ⟨b, o, none⟩ = some v) : b < w.heap.size := by
  rcases Nat.lt_or_ge b w.heap.size with h9 | h9
  · exact h9
  · have h8 : w.heap[b]? = none := Array.getElem?_eq_none h9
    simp [World.cell?, h8] at h
theorem KnB.later (h : KnB P gk t l z w bm es clock) (hb : Below w.heap.size w w') : KnB P gk t l z w' bm es clock := by
  have h1 := cell_block h.gl
  have h2 := (Array.getElem?_eq_some_iff.1 h.hb).1
  exact ⟨by rw [← h.gl]; exact World.cell?_of_block (hb.block gk h1), (hb.block bm h2).trans h.hb, h.en, h.look⟩
theorem KnW.later (h : KnW P gk t l z w) (hb : Below w.heap.size w w') : KnW P gk t l z w' := by
  obtain ⟨bm, es, clock, h⟩ := h
  exact ⟨bm, es, clock, h.later hb⟩
/-- What a function does in a world where the map is known. -/
def CtK (P : Program) (gk t : Nat) (l : List (ByteArray × Value)) (z : Value) (f : FuncId) (args : List Value) (ps : List (Value × Nat × List (List Value))) (post : Value → List Res → Prop) : Prop :=
  ∀ w, KnW P gk t l z w → (∀ p ∈ ps, Rdd w p.1 p.2.1 p.2.2) → Calls P f args.toArray w fun e w' => ∃ v rs', e = .returned v ∧ Below w.heap.size w w' ∧ post v rs' ∧ (∀ r ∈ rs', r.ok w.heap.size w') ∧ (∀ r ∈ rs', r.own = true) ∧ Disj rs'
theorem CtK.of {N : Nat} {f : FuncId} {fn : Func} {c : Code} {args : List Value} {ps : List (Value × Nat × List (List Value))} {post : Value → List Res → Prop} (hf : P.funcs[f]? = some fn) (hb : fn.body = some c) (hN : fn.ntmps = N) (hle : Nat.ble args.length N = true)
    (h : ∀ w, KnW P gk t l z w → C P (bodyPost P fn (PostOf post w)) ⟨N, [], none⟩ w.heap.size w (argE 0 args) (rdOf ps) c) : CtK P gk t l z f args ps post := by
  intro w hk hw
  have h9 : Ct P f args ps post ∨ True := .inr trivial
  clear h9
  refine calls_of_wp hf hb ((wpIn_wide (n := 0)).1 (h w hk _ _ ⟨⟨Below.refl _ _, Nat.le_refl _, fun r hr => ?_, disj_rd ps⟩, ?_, rfl, fun i v hv => ?_⟩))
  · obtain ⟨p, hp, rfl⟩ := List.mem_map.1 hr
    exact rd_ok.2 (hw p hp)
  · have := Nat.ble_eq.mp hle
    simp [hN]
    omega
  · obtain ⟨_, h1⟩ := lk_argE args 0 i v hv
    simp only [Nat.sub_zero] at h1
    have hl := (List.getElem?_eq_some_iff.1 h1).1
    have h2 := List.getElem?_eq_getElem hl
    rw [h1] at h2
    injection h2 with h2
    simp [Array.getElem?_append, hl, h2]
end
section
variable {P : Program} {N : Fr} {B : Nat} {w0 : World} {E : Env} {rs : List Res} {Q : Exit → Act → World → Prop} {ops : Array Oper} {rest : List Oper} {dst : Option Nat} {ty : TypeId} {pos : String} {aft : Array Edge} {gd : Option (Nat × Bool)}
variable {gk mt : Nat} {ml : List (ByteArray × Value)} {mz : Value} {bm : Nat} {es : Array MapEntry} {clock : Nat}
theorem KnB.sat {a : Act} {w : World} (h : KnB P gk mt ml mz w0 bm es clock) (hs : Sat N w0.heap.size w0 E rs a w) : KnB P gk mt ml mz w bm es clock := h.later hs.ws.bel
theorem lo_callK (T : Tab P) {f : FuncId} {xs : Array Operand} {ts : Array TypeId} {args : List Value} {ps : List (Value × Nat × List (List Value))} {post : Value → List Res → Prop} (hk : KnW P gk mt ml mz w0) (hen : lkT T.en f = some ()) (hx : evs E xs.toList = some args) (hc : CtK P gk mt ml mz f args ps post) (hps : ∀ p ∈ ps, Gives rs p)
    (hsk : ∀ v rs', post v rs' → ∀ r ∈ rs', Sinks r) : Lo P N w0.heap.size w0 E rs ⟨dst, .call { callee := .value (.func f), args := xs, argTypes := ts }, ty, pos, aft, gd⟩ post := by
  intro a w hs
  have hent : Enters P f := T.en_ok _ (lkT_mem hen)
  have hmap := hs.evals hx
  have hmap' : xs.map a.eval = args.toArray := Array.ext' (by rw [Array.toList_map, hmap])
  refine .inr ⟨f, args.toArray, ?_, ?_⟩
  · simp [execOp, resolve, invoke, Deferred.ofValue, Act.eval, hmap', hent args.toArray w]
  · refine (hc w (hk.later hs.ws.bel) (fun p hp => ?_)).mono ?_
    · exact hs.reads (hps p hp)
    · rintro e w' ⟨v, rs', he, hb, hpost, hok, hown, hd⟩
      exact ⟨v, rs', he, hb, hpost, fun r hr => ⟨hsk v rs' hpost r hr _ _ _ hs.ws.bas (hok r hr), fun k hk => r.ge (hown r hr) (hok r hr) k hk⟩, hd⟩
theorem q_gmap (T : Tab P) {t : TypeId} {sz bs : Nat} {zs : List Value} {x : Operand} (ht : lkT T.ty t = some (false, sz, bs, zs)) (hx : ev E x = some (.pointer (some ⟨gk, 0, none⟩))) (h : KnB P gk mt ml mz w0 bm es clock) :
    Qu P N w0.heap.size w0 E rs ⟨dst, .load t x, ty, pos, aft, gd⟩ (.map (some bm)) := by
  intro a w hs
  have hc := (h.sat hs).gl
  simp [execOp, hs.eval hx, Instr.loadAt, Instr.sureAddr, run_loadVar1 T ht hc]
theorem q_look {x y : Operand} {s : ByteArray} (hs9 : s.size ≤ maxLen) (hx : ev E x = some (.map (some bm))) (hy : ev E y = some (.string s)) (h : KnB P gk mt ml mz w0 bm es clock) : Qu P N w0.heap.size w0 E rs ⟨dst, .lookup mt x y true, ty, pos, aft, gd⟩ (lookV ml mz s) := by
  intro a w hs
  simp [execOp, hs.eval hx, hs.eval hy, h.look w (h.sat hs).hb s hs9]
/-- A range over the map: its own block. -/
@[irreducible] def itr (r bm since : Nat) (seen : Array Nat) (last : Nat) : Res where
  blk := some r
  own := true
  ok := fun B w => B ≤ r ∧ w.heap[r]? = some (.mapIter (some bm) since seen last)
  lt := by
    intro B w h k hk
    injection hk with hk
    subst hk
    exact (Array.getElem?_eq_some_iff.1 h.2).1
  st := by
    intro B w w' h _ hk
    exact ⟨h.1, (hk r rfl).trans h.2⟩
  ge := by
    intro B w _ h k hk
    injection hk with hk
    omega
theorem itr_blk (r bm since : Nat) (seen : Array Nat) (last : Nat) : (itr r bm since seen last).blk = some r := by unfold itr; rfl
theorem itr_own (r bm since : Nat) (seen : Array Nat) (last : Nat) : (itr r bm since seen last).own = true := by unfold itr; rfl
theorem itr_ok {r bm since : Nat} {seen : Array Nat} {last B : Nat} {w : World} : (itr r bm since seen last).ok B w ↔ B ≤ r ∧ w.heap[r]? = some (.mapIter (some bm) since seen last) := by unfold itr; exact Iff.rfl
theorem L_range {t k e : TypeId} {x : Operand} {d : Nat} (ht : P.underlying t = some (.map k e)) (hx : ev E x = some (.map (some bm))) (h : KnB P gk mt ml mz w0 bm es clock) (hN : Nat.blt d N.n = true)
    (hn : ∀ r, L P ops Q N w0.heap.size w0 ((d, .pointer (some ⟨r, 0, none⟩)) :: E) (itr r bm clock #[] clock :: rs) rest) : L P ops Q N w0.heap.size w0 E rs (⟨some d, .range t x, ty, pos, aft, none⟩ :: rest) := by
  refine L_lo (post := fun v rs' => ∃ r, v = .pointer (some ⟨r, 0, none⟩) ∧ rs' = [itr r bm clock #[] clock]) rfl rfl hN (fun a w hs => ?_) (fun v rs' ⟨r, hv, hr⟩ => by subst hv; subst hr; exact hn r)
  have hr := run_range_map w t k e bm es clock ht (h.sat hs).hb
  refine .inl ⟨.pointer (some ⟨w.heap.size, 0, none⟩), w.alloc (.mapIter (some bm) clock #[] clock), [itr w.heap.size bm clock #[] clock], by simp [execOp, hs.eval hx, hr], below_alloc _ _, ⟨_, rfl, rfl⟩, fun r hm => ?_, disj_one _⟩
  rw [List.mem_singleton.1 hm]
  exact ⟨itr_ok.2 ⟨hs.ws.bas, heap_alloc_new _ _⟩, fun k hk => by rw [itr_blk] at hk; injection hk with hk; omega⟩
theorem run_next_at (w : World) (ty : TypeId) (r bm since c0 : Nat) (seen : Array Nat) (es : Array MapEntry) (clock : Nat) (hr : w.heap[r]? = some (.mapIter (some bm) since seen c0)) (hb : w.heap[bm]? = some (.map es clock)) (hold : ∀ x ∈ es.toList, x.born < since) (hsc : since ≤ c0) :
    ((leftOf es seen).size = 0 ∧ (Instr.next (.pointer (some ⟨r, 0, none⟩)) false ty).run P w = .ok (.tuple #[.bool false]) w) ∨
    ∃ e ∈ (leftOf es seen).toList, ∃ w1 : World, (w1.heap = w.heap ∧ w1.os = w.os ∧ w1.tape = w.tape ∧ w1.output = w.output) ∧ (Instr.next (.pointer (some ⟨r, 0, none⟩)) false ty).run P w = .ok (.tuple #[.bool true, e.key, e.val]) { w1 with heap := w1.heap.setIfInBounds r (.mapIter (some bm) since (seen.push e.born) clock) } := by
  simp only [Instr.next, getObj, Sem.run_bind, Sem.run, hr, hb, Result.andThen, next_test_false seen es since c0 hold hsc, Bool.false_eq_true, if_false]
  unfold leftOf
  have hmem : ∀ x ∈ (Array.filter (fun e => !seen.contains e.born) es).toList, x.born < since := fun x hx => hold x (by simp at hx ⊢; exact hx.1)
  generalize Array.filter (fun e => !seen.contains e.born) es = L at hmem ⊢
  have e1 : L.filter (fun x => decide (x.born < since)) = L := Array.filter_eq_self.2 (fun x hx => by simpa using hmem x (by simpa using hx))
  have e2 : L.filter (fun x => decide (x.born ≥ since)) = #[] := by
    rw [Array.filter_eq_empty_iff]
    intro x hx
    have := hmem x (by simpa using hx)
    simp
    omega
  simp only [e1, e2, Array.append_empty]
  by_cases h0 : L.size = 0
  · left
    have : L = #[] := Array.eq_empty_of_size_eq_zero h0
    subst this
    refine ⟨rfl, ?_⟩
    simp [choose, Sem.run, Question.forced]
  · right
    have hne : L.isEmpty = false := by simp [Array.isEmpty, h0]
    simp only [hne, Bool.false_eq_true, if_false, Array.empty_append, Array.size_map]
    have hch : ∃ (j : Nat) (w1 : World), j < L.size ∧ (w1.heap = w.heap ∧ w1.os = w.os ∧ w1.tape = w.tape ∧ w1.output = w.output) ∧ (choose (Question.mapNext L.size)).run P w = .ok j w1 := by
      by_cases hf : L.size ≤ 1
      · exact ⟨0, w, by omega, ⟨rfl, rfl, rfl, rfl⟩, by simp [choose, Sem.run, Question.forced, hf]⟩
      · exact ⟨_, w.drew, Nat.mod_lt _ (by omega), ⟨rfl, rfl, rfl, rfl⟩, by
          simp only [choose, Sem.run, Question.forced, decide_eq_true_eq, hf, if_false, Question.cut]
          rfl⟩
    obtain ⟨j, w1, hj, hal, hrun⟩ := hch
    refine ⟨L[j], by simp, w1, hal, ?_⟩
    have hr1 : w1.heap[r]? = some (.mapIter (some bm) since seen c0) := by rw [hal.1]; exact hr
    simp only [hrun, Array.getElem?_map, Array.getElem?_eq_getElem hj, Option.map_some, Sem.run_bind, setObj, Sem.run, hr1, Result.andThen]
    rfl
theorem L_next {x : Operand} {d r : Nat} {seen : Array Nat} (hx : ev E x = some (.pointer (some ⟨r, 0, none⟩))) (h : KnB P gk mt ml mz w0 bm es clock) (hN : Nat.blt d N.n = true)
    (h0 : (leftOf es seen).size = 0 → L P ops Q N w0.heap.size w0 ((d, .tuple #[.bool false]) :: E) (itr r bm clock seen clock :: rs) rest)
    (h1 : ∀ e ∈ (leftOf es seen).toList, L P ops Q N w0.heap.size w0 ((d, .tuple #[.bool true, e.key, e.val]) :: E) (itr r bm clock (seen.push e.born) clock :: rs) rest) :
    L P ops Q N w0.heap.size w0 E (itr r bm clock seen clock :: rs) (⟨some d, .next x false, ty, pos, aft, none⟩ :: rest) := by
  intro a w hs
  have hk := h.sat hs
  have hi := itr_ok.1 (hs.ws.res _ List.mem_cons_self)
  refine wpListIn_plain rfl fun K hK => ?_
  rcases run_next_at (P := P) w ty r bm clock clock seen es clock hi.2 hk.hb hk.en.old (Nat.le_refl _) with ⟨hl, hrun⟩ | ⟨e, he, w1, ⟨e1, e2, e3, e4⟩, hrun⟩
  · exact wpIn_value (v := .tuple #[.bool false]) (w' := w) (by simp [execOp, hs.eval hx, hrun]) (hK _ _ (h0 hl _ _ (hs.put hN _ hs.ws)))
  · refine wpIn_value (v := .tuple #[.bool true, e.key, e.val]) (w' := { w1 with heap := w1.heap.setIfInBounds r (.mapIter (some bm) clock (seen.push e.born) clock) }) (by simp [execOp, hs.eval hx, hrun]) (hK _ _ (h1 e he _ _ (hs.put hN _ ?_)))
    have hlt := (Array.getElem?_eq_some_iff.1 hi.2).1
    refine hs.ws.turn (itr_own _ _ _ _ _) (by rw [itr_blk, itr_blk]) (itr_own _ _ _ _ _) (itr_ok.2 ⟨hi.1, ?_⟩) ⟨e2, e3, e4⟩ ?_ (fun k hk9 hne => ?_)
    · show (w1.heap.setIfInBounds r _)[r]? = _
      rw [e1, Array.getElem?_setIfInBounds_self_of_lt hlt]
    · show w.heap.size ≤ (w1.heap.setIfInBounds r _).size
      rw [Array.size_setIfInBounds, e1]
      exact Nat.le_refl _
    · show (w1.heap.setIfInBounds r _)[k]? = _
      rw [Array.getElem?_setIfInBounds_ne (fun e9 => hne (by rw [itr_blk, e9])), e1]
theorem q_entry {x : Operand} {r : Nat} {seen : Array Nat} {e : MapEntry} (hx : ev E x = some (.pointer (some ⟨r, 0, none⟩))) (h : KnB P gk mt ml mz w0 bm es clock) (hm : itr r bm clock (seen.push e.born) clock ∈ rs) (he : e ∈ es.toList) :
    Qu P N w0.heap.size w0 E rs ⟨dst, .entry x, ty, pos, aft, gd⟩ (.tuple #[e.key, e.val]) := by
  intro a w hs
  have hi := (itr_ok.1 (hs.ws.res _ hm)).2
  have hk := h.sat hs
  have hf : es.find? (fun x => x.born == e.born) = some e := by
    rw [← Array.find?_toList]
    exact find_born e es.toList hk.en.nod he
  simp [execOp, hs.eval hx, Instr.entry, getObj, Sem.run, hi, hk.hb, Result.andThen, Array.back?_push, hf]
theorem left_mem {es : Array MapEntry} {seen : Array Nat} {e : MapEntry} (h : e ∈ (leftOf es seen).toList) : e ∈ es.toList := by
  unfold leftOf at h
  simp at h ⊢
  exact h.1
theorem left_less {es : Array MapEntry} {seen : Array Nat} {e : MapEntry} (h : e ∈ (leftOf es seen).toList) : (leftOf es (seen.push e.born)).size < (leftOf es seen).size := by
  unfold leftOf at h ⊢
  have e1 : es.filter (fun x => !(seen.push e.born).contains x.born) = (es.filter (fun x => !seen.contains x.born)).filter (fun x => !(x.born == e.born)) := by
    rw [Array.filter_filter]
    congr 1
    funext x
    have h9 : (seen.push e.born).contains x.born = (seen.contains x.born || x.born == e.born) := by
      rw [Bool.eq_iff_iff]
      simp [Array.mem_push]
    rw [h9, Bool.not_or, Bool.and_comm]
  rw [e1]
  generalize es.filter (fun x => !seen.contains x.born) = L at h ⊢
  rcases Nat.lt_or_ge (L.filter (fun x => !(x.born == e.born))).size L.size with h9 | h9
  · exact h9
  · exfalso
    have h8 := Array.size_filter_le (p := fun x => !(x.born == e.born)) (xs := L)
    have h7 := Array.filter_size_eq_size.1 (Nat.le_antisymm h8 h9) e (by simpa using h)
    simp at h7
end
end Go.Proofs.YtibohfipgjljhaaDoor
