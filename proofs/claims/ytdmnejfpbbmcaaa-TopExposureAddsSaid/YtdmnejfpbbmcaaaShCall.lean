/-
  The calculus: stores, append, slices made, calls; a function's contract out of its body. Conditions: none; no program in sight.
-/
import Derived.Test.YtdmnejfpbbmcaaaShMem
namespace Go.Proofs.Ytdmnejfpbbmcaaa
open Go.RowKit

section
variable {P : Program} (T : Tab P) {Q : Exit → Act → World → Prop} {ops : Array Oper} {N : Fr} {B : Nat} {w0 : World} {E : Env} {rs : List Res} {rest : List Oper} {dst : Option Tmp} {ty : TypeId} {pos : String} {aft : Array Edge}

/-! ### Stores -/
theorem box_setRow {B g : Nat} {t : TypeId} {xs ys : List Value} {w : World} (h : (box g t xs).ok B w) : (box g t ys).ok B (w.setRow g ys.toArray) := box_ok.2 ⟨(box_ok.1 h).1, setRow_heap w g xs.toArray ys.toArray t (0, 0) (box_ok.1 h).2⟩
theorem setRow_other (w : World) (g k : Nat) (c : Array Value) (h : k ≠ g) : (w.setRow g c).heap[k]? = w.heap[k]? := by
  simp only [World.setRow, Array.getElem?_modify]
  rw [if_neg (by omega)]
theorem setRow_size (w : World) (g : Nat) (c : Array Value) : (w.setRow g c).heap.size = w.heap.size := by simp [World.setRow]
theorem WS.turn {w w' : World} {r r' : Res} {rs : List Res} (h : WS B w0 (r :: rs) w) (hown : r.own = true) (hbl : r'.blk = r.blk) (hown' : r'.own = true) (hok : r'.ok B w')
    (hos : w'.os = w.os ∧ w'.tape = w.tape ∧ w'.output = w.output) (hsz : w.heap.size ≤ w'.heap.size) (hk : ∀ k, k < w.heap.size → r.blk ≠ some k → w'.heap[k]? = w.heap[k]?) : WS B w0 (r' :: rs) w' := by
  have hr := h.res r List.mem_cons_self
  have hd := List.pairwise_cons.1 h.dis
  refine ⟨h.bel.trans ⟨hos.1, hos.2.1, hos.2.2, hsz, fun k hkB => hk k (Nat.lt_of_lt_of_le hkB h.bas) (fun e => ?_)⟩, Nat.le_trans h.bas hsz, fun s hs => ?_, ?_⟩
  · have := r.ge hown hr k e
    omega
  · rcases List.mem_cons.1 hs with rfl | hs
    · exact hok
    · have hs1 := h.res s (List.mem_cons_of_mem _ hs)
      exact s.st hs1 hsz (fun k hsk => hk k (s.lt hs1 k hsk) (fun e => hd.1 s hs (.inl hown) k e hsk))
  · refine List.pairwise_cons.2 ⟨fun s hs ho k h1 h2 => hd.1 s hs (.inl hown) k (hbl ▸ h1) h2, hd.2⟩
theorem L_store {t bt : TypeId} {ag : Bool} {sz bs : Nat} {zs : List Value} {x y : Operand} {g o : Nat} {xs cs ys : List Value} {v : Value} (ht : lkT T.ty t = some (ag, sz, bs, zs)) (hx : ev E x = some (.pointer (some ⟨g, o, none⟩))) (hy : ev E y = some v) (hc : v.cells.toList = cs)
    (hl : Nat.beq cs.length sz = true) (h1 : cs.all (·.oneCell') = true) (hb : Nat.ble (o + cs.length) xs.length = true) (hz : lay xs o cs = ys) (h : L P ops Q N B w0 E (box g bt ys :: rs) rest) :
    L P ops Q N B w0 E (box g bt xs :: rs) (⟨none, .store t x y, ty, pos, aft, none⟩ :: rest) := by
  intro a w hs
  refine wpListIn_plain rfl fun K hK => ?_
  have hsz := T.sizeOf ht w
  simp only at hsz
  have hbox := hs.has (r := box g bt xs) List.mem_cons_self
  have hl' := Nat.eq_of_beq_eq_true hl
  have hb' : o + cs.length ≤ xs.length := Nat.ble_eq.mp hb
  have hst := run_storeCells_at (P := P) g o bt cs 0 xs.toArray w (box_ok.1 hbox).2 (by simpa using hb') (by simpa using h1)
  have hlay : (xs.toArray.toList.take (o + 0) ++ cs ++ xs.toArray.toList.drop (o + 0 + cs.length)) = ys := by rw [← hz]; simp [lay]
  rw [hlay] at hst
  have hvs : v.cells.size = sz := by rw [← hl', ← hc]; simp
  have hrun : (execOp a.eval ⟨none, .store t x y, ty, pos, aft, none⟩).run P w = .ok .skip (w.setRow g ys.toArray) := by
    simp only [execOp, hs.eval hx, hs.eval hy, Instr.storeAt, Instr.sureAddr, storeVar, Sem.run_bind, Sem.run_pure, Result.andThen_ok, hsz, hvs, hc]
    simp [hst]
  refine wpIn_quiet hrun (hK _ _ (h _ _ (hs.world ?_)))
  exact hs.ws.turn (box_own _ _ _) (by rw [box_blk, box_blk]) (box_own _ _ _) (box_setRow hbox) ⟨rfl, rfl, rfl⟩ (by rw [setRow_size]; exact Nat.le_refl _) (fun k _ hne => setRow_other w g k _ (fun e => hne (by rw [box_blk, e])))

/-! ### The order of what is known -/
theorem perm1 {r0 r1 : Res} {t : List Res} : (r1 :: r0 :: t).Perm (r0 :: r1 :: t) := List.Perm.swap _ _ _
theorem perm_front {r : Res} {pre post : List Res} : (r :: (pre ++ post)).Perm (pre ++ r :: post) := List.perm_middle.symm
theorem ws_front {r : Res} (pre post : List Res) {w : World} (h : WS B w0 (pre ++ r :: post) w) : WS B w0 (r :: (pre ++ post)) w := h.perm perm_front
theorem L_front1 {r0 r1 : Res} {t : List Res} {l : List Oper} (h : L P ops Q N B w0 E (r1 :: r0 :: t) l) : L P ops Q N B w0 E (r0 :: r1 :: t) l := L_res (fun _ hw => ws_front [r0] t hw) h
theorem L_front2 {r0 r1 r2 : Res} {t : List Res} {l : List Oper} (h : L P ops Q N B w0 E (r2 :: r0 :: r1 :: t) l) : L P ops Q N B w0 E (r0 :: r1 :: r2 :: t) l := L_res (fun _ hw => ws_front [r0, r1] t hw) h
theorem L_front3 {r0 r1 r2 r3 : Res} {t : List Res} {l : List Oper} (h : L P ops Q N B w0 E (r3 :: r0 :: r1 :: r2 :: t) l) : L P ops Q N B w0 E (r0 :: r1 :: r2 :: r3 :: t) l := L_res (fun _ hw => ws_front [r0, r1, r2] t hw) h
theorem L_front4 {r0 r1 r2 r3 r4 : Res} {t : List Res} {l : List Oper} (h : L P ops Q N B w0 E (r4 :: r0 :: r1 :: r2 :: r3 :: t) l) : L P ops Q N B w0 E (r0 :: r1 :: r2 :: r3 :: r4 :: t) l := L_res (fun _ hw => ws_front [r0, r1, r2, r3] t hw) h
theorem L_front5 {r0 r1 r2 r3 r4 r5 : Res} {t : List Res} {l : List Oper} (h : L P ops Q N B w0 E (r5 :: r0 :: r1 :: r2 :: r3 :: r4 :: t) l) : L P ops Q N B w0 E (r0 :: r1 :: r2 :: r3 :: r4 :: r5 :: t) l := L_res (fun _ hw => ws_front [r0, r1, r2, r3, r4] t hw) h
theorem L_front6 {r0 r1 r2 r3 r4 r5 r6 : Res} {t : List Res} {l : List Oper} (h : L P ops Q N B w0 E (r6 :: r0 :: r1 :: r2 :: r3 :: r4 :: r5 :: t) l) : L P ops Q N B w0 E (r0 :: r1 :: r2 :: r3 :: r4 :: r5 :: r6 :: t) l := L_res (fun _ hw => ws_front [r0, r1, r2, r3, r4, r5] t hw) h
/-! ### Slices made -/
def isSl (e size : Nat) (l : List (List Value)) (v : Value) (rs' : List Res) : Prop := rs' = [sl v e size l]
theorem lo_sl {o : Oper} {e size : Nat} {l : List (List Value)} (h : ∀ a w, Sat N B w0 E rs a w → ∃ v w', (execOp a.eval o).run P w = .ok (.value v) w' ∧ Below w.heap.size w w' ∧ w'.ownsRow w.heap.size e size v l.length l.flatten) (he : ∀ x ∈ l, x.length = size) : Lo P N B w0 E rs o (isSl e size l) := by
  intro a w hs
  obtain ⟨v, w', hr, hb, ho⟩ := h a w hs
  refine .inl ⟨v, w', [sl v e size l], hr, hb, rfl, ?_, disj_one _⟩
  intro r hm
  simp only [List.mem_singleton] at hm
  subst hm
  refine ⟨sl_ok.2 ⟨⟨ho.1, or_map ho.2 id ?_⟩, he⟩, fun k hk => (ho.lt k (sl_blk v e size l ▸ hk)).1⟩
  rintro ⟨g, cap, cur, h1, h2, h3⟩
  exact ⟨g, cap, cur, h1, Nat.le_trans hs.ws.bas h2, h3⟩

theorem flat_len : ∀ (l : List (List Value)) (n : Nat), (∀ x ∈ l, x.length = n) → l.flatten.length = l.length * n
  | [], _, _ => by simp
  | x :: t, n, h => by
    rw [List.flatten_cons, List.length_append, h x List.mem_cons_self, flat_len t n (fun y hy => h y (List.mem_cons_of_mem _ hy)), List.length_cons, Nat.succ_mul]
    omega
theorem rep_flat (n : Nat) (c : Array Value) (zs : List Value) (sz : Nat) (hz : c.toList = zs) (hl : zs.length = sz) : (List.range (n * sz)).map (fun i => c[i % sz]!) = (List.replicate n zs).flatten := by
  induction n with
  | zero => simp
  | succ n ih =>
    rw [Nat.succ_mul, List.range_add, List.map_append, ih, List.replicate_succ', List.flatten_append]
    congr 1
    simp only [List.flatten_cons, List.flatten_nil, List.append_nil, List.map_map]
    apply List.ext_getElem
    · simp [hl]
    · intro i h1 h2
      simp only [List.getElem_map, List.getElem_range, Function.comp]
      have hi : i < sz := by simpa [hl] using h2
      have hm : (n * sz + i) % sz = i := by
        rw [Nat.mul_comm, Nat.mul_add_mod, Nat.mod_eq_of_lt hi]
      rw [hm]
      subst hz
      have : i < c.size := by simpa using h2
      simp [this]
theorem lo_bslice {t e m : TypeId} {ag : Bool} {sz bs n : Nat} {zs : List Value} {ps : Array (Nat × Operand)} {l : List (Nat × Value)} {xs : List (List Value)} (he : lkT T.el t = some (e, m, false)) (ht : lkT T.ty e = some (ag, sz, bs, zs)) (hp : Ytdmnejfpbbmcaaa.parts E ps.toList = some l)
    (hl : fillL ((List.range n).map fun i => (i * sz, sz)) ((List.replicate n zs).flatten) (cellsOfParts l) = some xs.flatten) (hn : xs.length = n) (hx : ∀ x ∈ xs, x.length = sz) (hzl : zs.length = sz) (hs0 : 0 < sz) (hbig : Nat.ble (n * sz) 16777216 = true) :
    Lo P N B w0 E rs ⟨dst, .buildSlice t n ps, ty, pos, aft, none⟩ (isSl e sz xs) := by
  have hbig' : n * sz ≤ 16777216 := Nat.ble_eq.mp hbig
  refine lo_sl (fun a w hs => ?_) hx
  obtain ⟨z, hz, hzr⟩ := T.zero ht
  have hsz := T.sizeOf ht w
  simp only at hz hsz
  have h1 : P.underlying t = some (.slice e) := by
    rcases T.el_ok _ (lkT_mem he) with ⟨_, h⟩ | ⟨h, _⟩
    · exact h
    · cases h
  have h3 := hs.parts hp
  have h4 : (ps.map fun (i, x) => (i, a.eval x)) = l.toArray := Array.ext' (by rw [Array.toList_map]; exact h3)
  have hzs : z.cells.size = sz := by rw [← hzl, ← hz]; simp
  have hrow : ((Array.range (n * sz)).map (z.cells[· % z.cells.size]!)).toList = (List.replicate n zs).flatten := by
    rw [Array.toList_map, Array.toList_range, hzs]
    exact rep_flat n z.cells zs sz hz hzl
  have h7 := fill_of (bd := (List.range n).map fun i => (i * sz, sz)) (place := fun i => some (i * sz, sz)) (fun i x hx => by
    rw [List.getElem?_map] at hx
    cases hq : (List.range n)[i]? with
    | none => rw [hq] at hx; cases hx
    | some j =>
      rw [hq] at hx
      have : j = i := by
        have := List.getElem?_eq_some_iff.1 hq
        obtain ⟨hh, h8⟩ := this
        simpa using h8.symm
      subst this
      exact hx) l ((Array.range (n * sz)).map (z.cells[· % z.cells.size]!)) xs.flatten (by rw [hrow]; exact hl)
  refine ⟨.slice (some ⟨w.heap.size, 0, none⟩) n n, w.alloc (.cells xs.flatten.toArray e), ?_, below_alloc _ _, ?_⟩
  · simp only [execOp, h4, Instr.buildSlice, Sem.run_bind, run_underlying h1, Result.andThen_ok, hsz]
    rw [if_neg (by omega)]
    by_cases h0 : n * sz = 0
    · have hn0 : n = 0 := by
        rcases Nat.mul_eq_zero.1 h0 with h | h <;> omega
      subst hn0
      simp only [h0, if_true, Sem.run_pure, Sem.run_bind, Result.andThen_ok]
      have h7' : Instr.fill (fun i => some (i * sz, sz)) ((Array.range 0).map ((#[] : Array Value)[· % (#[] : Array Value).size]!)) l.toArray.toList = some xs.flatten.toArray := by
        have e0 : ∀ f : Nat → Value, (Array.range 0).map f = #[] := fun f => by simp [Array.range_zero']
        rw [h0, e0] at h7
        rw [e0]
        exact h7
      simp only [h7', Sem.run_bind, newRow, run_newObj_alloc, Result.andThen_ok, Sem.run_pure]
    · simp only [h0, if_false, Sem.run_pure, Sem.run_bind, Result.andThen_ok, hzr, h7]
      simp only [newRow, Sem.run_bind, run_newObj_alloc, Result.andThen_ok, Sem.run_pure]
  · have hfl : xs.flatten.length = n * sz := by rw [← hn]; exact flat_len xs sz hx
    have hnl : n ≤ n * sz := Nat.le_mul_of_pos_right n hs0
    refine ⟨by rw [hn]; exact hfl, .inr ⟨w.heap.size, n, xs.flatten.toArray, by rw [hn], Nat.le_refl _, heap_alloc_new w _, by omega, by unfold maxLen; omega, by simpa using hfl, ?_⟩⟩
    show xs.flatten.take (xs.length * sz) = xs.flatten
    rw [hn, ← hfl, List.take_length]
end
end Go.Proofs.Ytdmnejfpbbmcaaa
