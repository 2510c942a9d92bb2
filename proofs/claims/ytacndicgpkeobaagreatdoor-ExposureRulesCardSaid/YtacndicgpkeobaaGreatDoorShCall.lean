/-
  The calculus: stores, append, slices made, calls; a function's contract out of its body. Conditions: none; no program in sight.
-/
import Derived.Test.YtacndicgpkeobaaGreatDoorShOps
namespace Go.Proofs.YtacndicgpkeobaaGreatDoor
open Go.RowKit

section
variable {P : Program} (T : Tab P) {Q : Exit → Act → World → Prop} {ops : Array Oper} {N : Fr} {B : Nat} {w0 : World} {E : Env} {rs : List Res} {rest : List Oper} {dst : Option Tmp} {ty : TypeId} {pos : String} {aft : Array Edge} {gd : Option (Nat × Bool)}

theorem below_alloc (w : World) (o : Obj) : Below w.heap.size w (w.alloc o) := (Below.refl _ _).alloc (Nat.le_refl _) o
theorem box_new {B : Nat} {w : World} (hB : B ≤ w.heap.size) (t : TypeId) (xs : List Value) : (box w.heap.size t xs).ok B (w.alloc (.cells xs.toArray t)) := box_ok.2 ⟨hB, heap_alloc_new w _⟩
theorem disj_one (r : Res) : Disj [r] := List.pairwise_singleton _ _

def isBox (t : TypeId) (xs : List Value) (v : Value) (rs' : List Res) : Prop := ∃ g, v = .pointer (some ⟨g, 0, none⟩) ∧ rs' = [box g t xs]

theorem lo_alloc {t : TypeId} {ag : Bool} {sz bs : Nat} {zs : List Value} (ht : lkT T.ty t = some (ag, sz, bs, zs)) : Lo P N B w0 E rs ⟨dst, .alloc t, ty, pos, aft, gd⟩ (isBox t zs) := by
  intro a w hs
  obtain ⟨z, hz, hr⟩ := T.zero ht
  refine .inl ⟨.pointer (some ⟨w.heap.size, 0, none⟩), w.alloc (.cells z.cells t), [box w.heap.size t zs], ?_, below_alloc _ _, ⟨_, rfl, rfl⟩, ?_, disj_one _⟩
  · simp [execOp, Instr.alloc, hr, newVar, newRow]
  · intro r hm
    simp only [List.mem_singleton] at hm
    subst hm
    refine ⟨?_, fun k hk => ?_⟩
    · have := box_new (B := B) hs.ws.bas t zs
      simp only at hz
      rw [← hz, Array.toArray_toList] at this
      rw [← hz]
      exact this
    · rw [box_blk] at hk
      injection hk with hk
      omega

theorem lo_box {t : TypeId} {x : Operand} {v : Value} {xs : List Value} (hx : ev E x = some v) (hc : v.cells.toList = xs) : Lo P N B w0 E rs ⟨dst, .box t x, ty, pos, aft, gd⟩ (isBox t xs) := by
  intro a w hs
  refine .inl ⟨.pointer (some ⟨w.heap.size, 0, none⟩), w.alloc (.cells v.cells t), [box w.heap.size t xs], ?_, below_alloc _ _, ⟨_, rfl, rfl⟩, ?_, disj_one _⟩
  · simp [execOp, Instr.box, hs.eval hx, newVar, newRow]
  · intro r hm
    simp only [List.mem_singleton] at hm
    subst hm
    refine ⟨?_, fun k hk => ?_⟩
    · have := box_new (B := B) hs.ws.bas t xs
      rw [← hc, Array.toArray_toList] at this
      rw [← hc]
      exact this
    · rw [box_blk] at hk
      injection hk with hk
      omega

/-! ### A composite's cells out of its parts -/
def lay (xs : List Value) (o : Nat) (cs : List Value) : List Value := xs.take o ++ cs ++ xs.drop (o + cs.length)
theorem foldl_lay : ∀ (cs : List Value) (o k : Nat) (cells : Array Value), o + k + cs.length ≤ cells.size →
    ((cs.zipIdx k).foldl (fun ds (p : Value × Nat) => ds.setIfInBounds (o + p.2) p.1) cells).toList = lay cells.toList (o + k) cs
  | [], o, k, cells, h => by simp [lay]
  | c :: t, o, k, cells, h => by
    simp only [List.length_cons] at h
    rw [List.zipIdx_cons, List.foldl_cons, foldl_lay t o (k + 1) _ (by simp; omega)]
    have hl : o + k < cells.toList.length := by simp; omega
    simp only [lay, Array.toList_setIfInBounds, List.length_cons]
    have h1 : (cells.toList.set (o + k) c).take (o + (k + 1)) = cells.toList.take (o + k) ++ [c] := by
      rw [show o + (k + 1) = (o + k) + 1 by omega, List.take_succ_eq_append_getElem (by simpa using hl), List.getElem_set_self, List.take_set_of_le (Nat.le_refl _)]
    have h2 : (cells.toList.set (o + k) c).drop (o + (k + 1) + t.length) = cells.toList.drop (o + k + (t.length + 1)) := by
      rw [List.drop_set_of_lt (by omega)]
      congr 1
      omega
    rw [h1, h2]
    simp
def fillL (bd : List (Nat × Nat)) (cells : List Value) : List (Nat × List Value) → Option (List Value)
  | [] => some cells
  | (i, cs) :: t => match bd[i]? with
    | some (o, n) => match Nat.beq cs.length n && Nat.ble (o + n) cells.length with
      | true => fillL bd (lay cells o cs) t
      | false => none
    | none => none
theorem fill_of {bd : List (Nat × Nat)} {place : Nat → Option (Nat × Nat)} (hp : ∀ i x, bd[i]? = some x → place i = some x) : ∀ (ps : List (Nat × Value)) (cells : Array Value) (r : List Value),
    fillL bd cells.toList (ps.map fun p => (p.1, p.2.cells.toList)) = some r → Instr.fill place cells ps = some r.toArray
  | [], cells, r, h => by
    simp only [List.map_nil, fillL, Option.some.injEq] at h
    simp [Instr.fill, ← h]
  | (i, v) :: t, cells, r, h => by
    simp only [List.map_cons, fillL] at h
    split at h
    · rename_i o n hb
      split at h
      · rename_i hc
        simp only [Bool.and_eq_true] at hc
        have h1 : v.cells.toList.length = n := Nat.eq_of_beq_eq_true hc.1
        have h2 : o + n ≤ cells.toList.length := Nat.ble_eq.mp hc.2
        simp only [Array.length_toList] at h1 h2
        have h3 : (v.cells.zipIdx.foldl (fun cs (x : Value × Nat) => cs.setIfInBounds (o + x.2) x.1) cells).toList = lay cells.toList o v.cells.toList := by
          rw [← Array.foldl_toList, Array.toList_zipIdx]
          have := foldl_lay v.cells.toList o 0 cells (by simp; omega)
          simpa using this
        rw [← h3] at h
        have ih := fill_of hp t _ r h
        simp only [Instr.fill, hp i _ hb]
        rw [if_neg (by simp; omega)]
        exact ih
      · cases h
    · cases h
def parts (E : Env) : List (Nat × Operand) → Option (List (Nat × Value))
  | [] => some []
  | (i, x) :: t => match ev E x with
    | some v => match parts E t with
      | some l => some ((i, v) :: l)
      | none => none
    | none => none
theorem Sat.parts {a : Act} {w : World} (hs : Sat N B w0 E rs a w) : ∀ {ps : List (Nat × Operand)} {l : List (Nat × Value)}, YtacndicgpkeobaaGreatDoor.parts E ps = some l → ps.map (fun p => (p.1, a.eval p.2)) = l
  | [], l, h => by simpa [YtacndicgpkeobaaGreatDoor.parts] using h
  | (i, x) :: t, l, h => by
    simp only [YtacndicgpkeobaaGreatDoor.parts] at h
    split at h
    · rename_i v hv
      split at h
      · rename_i l' hl
        injection h with h
        subst h
        rw [List.map_cons, hs.eval hv, hs.parts hl]
      · cases h
    · cases h
def cellsOfParts (l : List (Nat × Value)) : List (Nat × List Value) := l.map fun p => (p.1, p.2.cells.toList)

theorem mapM_places {P : Program} (w : World) : ∀ (fs : List Field) (r : List (Nat × Nat)), (fs.map fun f => (f.offset, (P.info? f.type).map (·.size))) = r.map (fun x => (x.1, some x.2)) →
    (fs.mapM (m := Sem) fun f => do pure (f.offset, ← Go.sizeOf f.type)).run P w = .ok r w
  | [], [], _ => by simp
  | [], _ :: _, h => by simp at h
  | _ :: _, [], h => by simp at h
  | f :: t, (o, n) :: r, h => by
    simp only [List.map_cons, List.cons.injEq, Prod.mk.injEq] at h
    obtain ⟨⟨h1, h2⟩, h3⟩ := h
    have ih := mapM_places w t r h3
    obtain ⟨i, hi, hn⟩ : ∃ i, P.info? f.type = some i ∧ i.size = n := by
      cases hq : P.info? f.type with
      | none => simp [hq] at h2
      | some i => exact ⟨i, rfl, by simpa [hq] using h2⟩
    have hsz : (Go.sizeOf f.type).run P w = .ok n w := by simp [Go.sizeOf, typeInfo, hi, hn]
    rw [List.mapM_cons]
    simp only [Sem.run_bind, hsz, Result.andThen_ok, Sem.run_pure, ih, h1]

theorem q_build {t : TypeId} {ag : Bool} {sz bs : Nat} {zs : List Value} {bd : List (Nat × Nat)} {ps : Array (Nat × Operand)} {l : List (Nat × Value)} {r : List Value} (ht : lkT T.ty t = some (ag, sz, bs, zs)) (hb : lkT T.bd t = some bd) (hp : YtacndicgpkeobaaGreatDoor.parts E ps.toList = some l)
    (hr : fillL bd zs (cellsOfParts l) = some r) : Qu P N B w0 E rs ⟨dst, .build t ps, ty, pos, aft, gd⟩ (.agg r.toArray) := by
  intro a w hs
  obtain ⟨z, hz, hzr⟩ := T.zero ht
  obtain ⟨fs, h1, h2⟩ := T.bd_ok _ (lkT_mem hb)
  simp only at hz h1 h2
  have h3 := hs.parts hp
  have h4 : (ps.map fun (i, x) => (i, a.eval x)) = l.toArray := Array.ext' (by rw [Array.toList_map]; exact h3)
  have h5 := mapM_places (P := P) w fs.toList bd h2
  have h6 : (fs.mapM (m := Sem) fun f => do pure (f.offset, ← Go.sizeOf f.type)).run P w = .ok bd.toArray w := by
    rw [Array.mapM_eq_mapM_toList, Sem.run_map, h5]
    rfl
  have h7 := fill_of (bd := bd) (place := (bd.toArray[·]?)) (fun i x hx => by simpa using hx) l z.cells r (by rw [hz]; exact hr)
  simp only [execOp, h4, Instr.build, Sem.run_bind, hzr, Result.andThen_ok, run_underlying h1, h6, h7, Sem.run_pure]

end
end Go.Proofs.YtacndicgpkeobaaGreatDoor
namespace Go.Proofs.YtacndicgpkeobaaGreatDoor
open Go.RowKit

section
variable {P : Program} (T : Tab P) {Q : Exit → Act → World → Prop} {ops : Array Oper} {N : Fr} {B : Nat} {w0 : World} {E : Env} {rs : List Res} {rest : List Oper} {dst : Option Tmp} {ty : TypeId} {pos : String} {aft : Array Edge}

/-! ### Stores -/
theorem box_setRow {B g : Nat} {t : TypeId} {xs ys : List Value} {w : World} (h : (box g t xs).ok B w) : (box g t ys).ok B (w.setRow g ys.toArray) := box_ok.2 ⟨(box_ok.1 h).1, setRow_heap w g xs.toArray ys.toArray t (0, 0) (box_ok.1 h).2⟩
theorem setRow_other (w : World) (g k : Nat) (c : Array Value) (h : k ≠ g) : (w.setRow g c).heap[k]? = w.heap[k]? := by
  simp only [World.setRow, Array.getElem?_modify]
  rw [if_neg (by omega)]
theorem setRow_size (w : World) (g : Nat) (c : Array Value) : (w.setRow g c).heap.size = w.heap.size := by simp [World.setRow]
theorem WS.turn {w w' : World} {r r' : Res} {rs : List Res} (h : WS B w0 (r :: rs) w) (hown : r.own = true) (hbl : r'.blk = r.blk) (hown' : r'.own = true) (hok : r'.ok B w')
    (hos : w'.os = w.os ∧ w'.tape = w.tape ∧ w'.output = w.output) (hsz : w.heap.size ≤ w'.heap.size) (hk : ∀ k, k < w.heap.size → r.blk ≠ some k → w'.heap[k]? = w.heap[k]?) : WS B w0 (r' :: rs) w' := by
  have hr := h.res r List.mem_cons_self
  have hd := List.pairwise_cons.1 h.dis
  refine ⟨h.bel.trans ⟨hos.1, hos.2.1, hos.2.2, hsz, fun k hkB => hk k (Nat.lt_of_lt_of_le hkB h.bas) (fun e => ?_)⟩, Nat.le_trans h.bas hsz, fun s hs => ?_, ?_⟩
  · have := r.ge hown hr k e
    omega
  · rcases List.mem_cons.1 hs with rfl | hs
    · exact hok
    · have hs1 := h.res s (List.mem_cons_of_mem _ hs)
      exact s.st hs1 hsz (fun k hsk => hk k (s.lt hs1 k hsk) (fun e => hd.1 s hs (.inl hown) k e hsk))
  · refine List.pairwise_cons.2 ⟨fun s hs ho k h1 h2 => hd.1 s hs (.inl hown) k (hbl ▸ h1) h2, hd.2⟩
theorem L_store {t bt : TypeId} {ag : Bool} {sz bs : Nat} {zs : List Value} {x y : Operand} {g o : Nat} {xs cs ys : List Value} {v : Value} (ht : lkT T.ty t = some (ag, sz, bs, zs)) (hx : ev E x = some (.pointer (some ⟨g, o, none⟩))) (hy : ev E y = some v) (hc : v.cells.toList = cs)
    (hl : Nat.beq cs.length sz = true) (h1 : cs.all (·.oneCell') = true) (hb : Nat.ble (o + cs.length) xs.length = true) (hz : lay xs o cs = ys) (h : L P ops Q N B w0 E (box g bt ys :: rs) rest) :
    L P ops Q N B w0 E (box g bt xs :: rs) (⟨none, .store t x y, ty, pos, aft, none⟩ :: rest) := by
  intro a w hs
  refine wpListIn_plain rfl fun K hK => ?_
  have hsz := T.sizeOf ht w
  simp only at hsz
  have hbox := hs.has (r := box g bt xs) List.mem_cons_self
  have hl' := Nat.eq_of_beq_eq_true hl
  have hb' : o + cs.length ≤ xs.length := Nat.ble_eq.mp hb
  have hst := run_storeCells_at (P := P) g o bt cs 0 xs.toArray w (box_ok.1 hbox).2 (by simpa using hb') (by simpa using h1)
  have hlay : (xs.toArray.toList.take (o + 0) ++ cs ++ xs.toArray.toList.drop (o + 0 + cs.length)) = ys := by rw [← hz]; simp [lay]
  rw [hlay] at hst
  have hvs : v.cells.size = sz := by rw [← hl', ← hc]; simp
  have hrun : (execOp a.eval ⟨none, .store t x y, ty, pos, aft, none⟩).run P w = .ok .skip (w.setRow g ys.toArray) := by
    simp only [execOp, hs.eval hx, hs.eval hy, Instr.storeAt, Instr.sureAddr, storeVar, Sem.run_bind, Sem.run_pure, Result.andThen_ok, hsz, hvs, hc]
    simp [hst]
  refine wpIn_quiet hrun (hK _ _ (h _ _ (hs.world ?_)))
  exact hs.ws.turn (box_own _ _ _) (by rw [box_blk, box_blk]) (box_own _ _ _) (box_setRow hbox) ⟨rfl, rfl, rfl⟩ (by rw [setRow_size]; exact Nat.le_refl _) (fun k _ hne => setRow_other w g k _ (fun e => hne (by rw [box_blk, e])))

/-! ### The order of what is known -/
theorem perm1 {r0 r1 : Res} {t : List Res} : (r1 :: r0 :: t).Perm (r0 :: r1 :: t) := List.Perm.swap _ _ _
theorem perm_front {r : Res} {pre post : List Res} : (r :: (pre ++ post)).Perm (pre ++ r :: post) := List.perm_middle.symm
theorem ws_front {r : Res} (pre post : List Res) {w : World} (h : WS B w0 (pre ++ r :: post) w) : WS B w0 (r :: (pre ++ post)) w := h.perm perm_front
theorem L_front1 {r0 r1 : Res} {t : List Res} {l : List Oper} (h : L P ops Q N B w0 E (r1 :: r0 :: t) l) : L P ops Q N B w0 E (r0 :: r1 :: t) l := L_res (fun _ hw => ws_front [r0] t hw) h
theorem L_front2 {r0 r1 r2 : Res} {t : List Res} {l : List Oper} (h : L P ops Q N B w0 E (r2 :: r0 :: r1 :: t) l) : L P ops Q N B w0 E (r0 :: r1 :: r2 :: t) l := L_res (fun _ hw => ws_front [r0, r1] t hw) h
theorem L_front3 {r0 r1 r2 r3 : Res} {t : List Res} {l : List Oper} (h : L P ops Q N B w0 E (r3 :: r0 :: r1 :: r2 :: t) l) : L P ops Q N B w0 E (r0 :: r1 :: r2 :: r3 :: t) l := L_res (fun _ hw => ws_front [r0, r1, r2] t hw) h
theorem L_front4 {r0 r1 r2 r3 r4 : Res} {t : List Res} {l : List Oper} (h : L P ops Q N B w0 E (r4 :: r0 :: r1 :: r2 :: r3 :: t) l) : L P ops Q N B w0 E (r0 :: r1 :: r2 :: r3 :: r4 :: t) l := L_res (fun _ hw => ws_front [r0, r1, r2, r3] t hw) h
theorem L_front5 {r0 r1 r2 r3 r4 r5 : Res} {t : List Res} {l : List Oper} (h : L P ops Q N B w0 E (r5 :: r0 :: r1 :: r2 :: r3 :: r4 :: t) l) : L P ops Q N B w0 E (r0 :: r1 :: r2 :: r3 :: r4 :: r5 :: t) l := L_res (fun _ hw => ws_front [r0, r1, r2, r3, r4] t hw) h
theorem L_front6 {r0 r1 r2 r3 r4 r5 r6 : Res} {t : List Res} {l : List Oper} (h : L P ops Q N B w0 E (r6 :: r0 :: r1 :: r2 :: r3 :: r4 :: r5 :: t) l) : L P ops Q N B w0 E (r0 :: r1 :: r2 :: r3 :: r4 :: r5 :: r6 :: t) l := L_res (fun _ hw => ws_front [r0, r1, r2, r3, r4, r5] t hw) h
/-! ### Slices made -/
def isSl (e size : Nat) (l : List (List Value)) (v : Value) (rs' : List Res) : Prop := rs' = [sl v e size l]
theorem lo_sl {o : Oper} {e size : Nat} {l : List (List Value)} (h : ∀ a w, Sat N B w0 E rs a w → ∃ v w', (execOp a.eval o).run P w = .ok (.value v) w' ∧ Below w.heap.size w w' ∧ w'.ownsRow w.heap.size e size v l.length l.flatten) (he : ∀ x ∈ l, x.length = size) : Lo P N B w0 E rs o (isSl e size l) := by
  intro a w hs
  obtain ⟨v, w', hr, hb, ho⟩ := h a w hs
  refine .inl ⟨v, w', [sl v e size l], hr, hb, rfl, ?_, disj_one _⟩
  intro r hm
  simp only [List.mem_singleton] at hm
  subst hm
  refine ⟨sl_ok.2 ⟨⟨ho.1, or_map ho.2 id ?_⟩, he⟩, fun k hk => (ho.lt k (sl_blk v e size l ▸ hk)).1⟩
  rintro ⟨g, cap, cur, h1, h2, h3⟩
  exact ⟨g, cap, cur, h1, Nat.le_trans hs.ws.bas h2, h3⟩

theorem flat_len : ∀ (l : List (List Value)) (n : Nat), (∀ x ∈ l, x.length = n) → l.flatten.length = l.length * n
  | [], _, _ => by simp
  | x :: t, n, h => by
    rw [List.flatten_cons, List.length_append, h x List.mem_cons_self, flat_len t n (fun y hy => h y (List.mem_cons_of_mem _ hy)), List.length_cons, Nat.succ_mul]
    omega
theorem rep_flat (n : Nat) (c : Array Value) (zs : List Value) (sz : Nat) (hz : c.toList = zs) (hl : zs.length = sz) : (List.range (n * sz)).map (fun i => c[i % sz]!) = (List.replicate n zs).flatten := by
  induction n with
  | zero => simp
  | succ n ih =>
    rw [Nat.succ_mul, List.range_add, List.map_append, ih, List.replicate_succ', List.flatten_append]
    congr 1
    simp only [List.flatten_cons, List.flatten_nil, List.append_nil, List.map_map]
    apply List.ext_getElem
    · simp [hl]
    · intro i h1 h2
      simp only [List.getElem_map, List.getElem_range, Function.comp]
      have hi : i < sz := by simpa [hl] using h2
      have hm : (n * sz + i) % sz = i := by
        rw [Nat.mul_comm, Nat.mul_add_mod, Nat.mod_eq_of_lt hi]
      rw [hm]
      subst hz
      have : i < c.size := by simpa using h2
      simp [this]
theorem lo_bslice {t e m : TypeId} {ag : Bool} {sz bs n : Nat} {zs : List Value} {ps : Array (Nat × Operand)} {l : List (Nat × Value)} {xs : List (List Value)} (he : lkT T.el t = some (e, m, false)) (ht : lkT T.ty e = some (ag, sz, bs, zs)) (hp : YtacndicgpkeobaaGreatDoor.parts E ps.toList = some l)
    (hl : fillL ((List.range n).map fun i => (i * sz, sz)) ((List.replicate n zs).flatten) (cellsOfParts l) = some xs.flatten) (hn : xs.length = n) (hx : ∀ x ∈ xs, x.length = sz) (hzl : zs.length = sz) (hs0 : 0 < sz) (hbig : Nat.ble (n * sz) 16777216 = true) :
    Lo P N B w0 E rs ⟨dst, .buildSlice t n ps, ty, pos, aft, none⟩ (isSl e sz xs) := by
  have hbig' : n * sz ≤ 16777216 := Nat.ble_eq.mp hbig
  refine lo_sl (fun a w hs => ?_) hx
  obtain ⟨z, hz, hzr⟩ := T.zero ht
  have hsz := T.sizeOf ht w
  simp only at hz hsz
  have h1 : P.underlying t = some (.slice e) := by
    rcases T.el_ok _ (lkT_mem he) with ⟨_, h⟩ | ⟨h, _⟩
    · exact h
    · cases h
  have h3 := hs.parts hp
  have h4 : (ps.map fun (i, x) => (i, a.eval x)) = l.toArray := Array.ext' (by rw [Array.toList_map]; exact h3)
  have hzs : z.cells.size = sz := by rw [← hzl, ← hz]; simp
  have hrow : ((Array.range (n * sz)).map (z.cells[· % z.cells.size]!)).toList = (List.replicate n zs).flatten := by
    rw [Array.toList_map, Array.toList_range, hzs]
    exact rep_flat n z.cells zs sz hz hzl
  have h7 := fill_of (bd := (List.range n).map fun i => (i * sz, sz)) (place := fun i => some (i * sz, sz)) (fun i x hx => by
    rw [List.getElem?_map] at hx
    cases hq : (List.range n)[i]? with
    | none => rw [hq] at hx; cases hx
    | some j =>
      rw [hq] at hx
      have : j = i := by
        have := List.getElem?_eq_some_iff.1 hq
        obtain ⟨hh, h8⟩ := this
        simpa using h8.symm
      subst this
      exact hx) l ((Array.range (n * sz)).map (z.cells[· % z.cells.size]!)) xs.flatten (by rw [hrow]; exact hl)
  refine ⟨.slice (some ⟨w.heap.size, 0, none⟩) n n, w.alloc (.cells xs.flatten.toArray e), ?_, below_alloc _ _, ?_⟩
  · simp only [execOp, h4, Instr.buildSlice, Sem.run_bind, run_underlying h1, Result.andThen_ok, hsz]
    rw [if_neg (by omega)]
    by_cases h0 : n * sz = 0
    · have hn0 : n = 0 := by
        rcases Nat.mul_eq_zero.1 h0 with h | h <;> omega
      subst hn0
      simp only [h0, if_true, Sem.run_pure, Sem.run_bind, Result.andThen_ok]
      have h7' : Instr.fill (fun i => some (i * sz, sz)) ((Array.range 0).map ((#[] : Array Value)[· % (#[] : Array Value).size]!)) l.toArray.toList = some xs.flatten.toArray := by
        have e0 : ∀ f : Nat → Value, (Array.range 0).map f = #[] := fun f => by simp [Array.range_zero']
        rw [h0, e0] at h7
        rw [e0]
        exact h7
      simp only [h7', Sem.run_bind, newRow, run_newObj_alloc, Result.andThen_ok, Sem.run_pure]
    · simp only [h0, if_false, Sem.run_pure, Sem.run_bind, Result.andThen_ok, hzr, h7]
      simp only [newRow, Sem.run_bind, run_newObj_alloc, Result.andThen_ok, Sem.run_pure]
  · have hfl : xs.flatten.length = n * sz := by rw [← hn]; exact flat_len xs sz hx
    have hnl : n ≤ n * sz := Nat.le_mul_of_pos_right n hs0
    refine ⟨by rw [hn]; exact hfl, .inr ⟨w.heap.size, n, xs.flatten.toArray, by rw [hn], Nat.le_refl _, heap_alloc_new w _, by omega, by unfold maxLen; omega, by simpa using hfl, ?_⟩⟩
    show xs.flatten.take (xs.length * sz) = xs.flatten
    rw [hn, ← hfl, List.take_length]
end
end Go.Proofs.YtacndicgpkeobaaGreatDoor
