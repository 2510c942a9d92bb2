/-
  The calculus: a range over a function out of which a round may return. Conditions: none; no program in sight.
-/
import Derived.Test.YtacndicgpkeobaaGreatDoorShKn
namespace Go.Proofs.YtacndicgpkeobaaGreatDoor
open Go.RowKit

def rb (r : Loop) : Bool → Loop
  | true => r
  | false => { r with state := .done, pending := some .ret }
section
variable {P : Program} {N : Fr} {B : Nat} {w0 : World} {E : Env} {rs RC RC' : List Res} {Q : Exit → Act → World → Prop} {ops : Array Oper} {rest : List Oper}
def Rnd2 (P : Program) (B : Nat) (w0 : World) (l : Nat) (r : Loop) (b : Bool) (args : List Value) (K RC RC' : List Res) : Prop :=
  ∀ own w, (∀ k ∈ K, k ∈ own ∧ k.own = false) → WS B w0 (own ++ (lp l r :: RC)) w →
    RoundIn (fc none) 0 P l r.fn ((r.params.zip args.toArray).foldl (fun tmps (x : Tmp × Value) => tmps.setIfInBounds x.1 x.2) r.tmps) r.assign r.body w (fun e w' => e = .returned (.bool b) ∧ WS B w0 (own ++ (lp l (rb r b) :: RC')) w')

theorem L_yield2 {n : Nat} {dl : List Deferred} {l d : Nat} {r : Loop} {b : Bool} {args : List Value} {K : List Res} {x : Operand} {ys : Array Operand} {ts : Array TypeId} {ty : TypeId} {pos : String} {aft : Array Edge} (own : List Res) (hf : ev E x = some (.func (.yield l) #[] #[])) (hx : evs E ys.toList = some args)
    (hsz : args.length = r.params.size) (hR : Rnd2 P B w0 l r b args K RC RC') (hK : ∀ k ∈ K, k ∈ own ∧ k.own = false) (hN : Nat.blt d n = true) (h : L P ops Q ⟨n, dl, none⟩ B w0 ((d, .bool b) :: E) (own ++ (lp l (rb r b) :: RC')) rest) :
    L P ops Q ⟨n, dl, none⟩ B w0 E (own ++ (lp l r :: RC)) (⟨some d, .call { callee := .value x, args := ys, argTypes := ts }, ty, pos, aft, none⟩ :: rest) := by
  intro a w hs
  refine wpListIn_plain rfl fun KK hKK => ?_
  have hmap := hs.evals hx
  have hmap' : ys.map a.eval = args.toArray := Array.ext' (by rw [Array.toList_map, hmap])
  have hl := (lp_ok.1 (hs.has (r := lp l r) (List.mem_append_right _ List.mem_cons_self))).2
  have hy := run_yield (P := P) (args := args.toArray) hl (by simpa using hsz)
  have hrun : (execOp a.eval ⟨some d, .call { callee := .value x, args := ys, argTypes := ts }, ty, pos, aft, none⟩).run P w = .ok (.round l r.fn ((r.params.zip args.toArray).foldl (fun tmps (x : Tmp × Value) => tmps.setIfInBounds x.1 x.2) r.tmps) r.assign r.body) w := by
    simp only [execOp, resolve, hs.eval hf]
    simp [hmap', invoke, Deferred.ofValue, hy]
  refine ⟨fun _ _ => trivial, ?_⟩
  rw [semAt_nd _ _ _ (nd_of hrun (fun d hd => by cases hd)), hrun]
  refine ⟨fc_depth, (hR own w hK hs.ws).mono ?_⟩
  rintro e w' ⟨rfl, hw'⟩
  exact hKK _ _ (h _ _ (hs.put hN (.bool b) hw'))

/-! ### The caller's side of a round -/
def RQ2 (B : Nat) (w0 : World) (own : List Res) (l : Nat) (r : Loop) (b : Bool) (RC' : List Res) (e : Ending) (w' : World) : Prop := e = .returned (.bool b) ∧ WS B w0 (own ++ (lp l (rb r b) :: RC')) w'
variable {fn : FuncId} {tmps : Array Value} {p D l : Nat} {assign body : Code} {n : Nat}
theorem Rnd2.of {x : Value} {b : Bool} {K : List Res} (htm : tmps.size = n) (hp : Nat.blt p n = true) (hE : ∀ i v, lk E i = some v → tmps.getD i undef = v)
    (h : ∀ own, C P (asQ P l (RQ2 B w0 own l (lrec fn tmps p assign body D) b RC') body) ⟨n, [], some l⟩ B w0 ((p, x) :: E) (lp l (lrec fn tmps p assign body D) :: (K ++ (RC ++ own))) assign) :
    Rnd2 P B w0 l (lrec fn tmps p assign body D) b [x] K RC RC' := by
  intro own w hK hw
  refine roundIn_of_wpIn trivial ?_
  have hp' : p < tmps.size := by rw [htm]; exact blt_lt hp
  refine h own _ w ⟨?_, by simp [htm], rfl, fun i v hv => ?_⟩
  · have h1 := hw.dups (K := K) (fun k hk => ⟨List.mem_append_left _ (hK k hk).1, (hK k hk).2⟩)
    refine h1.perm ?_
    have e1 : (lp l (lrec fn tmps p assign body D) :: (K ++ (RC ++ own))).Perm (K ++ (lp l (lrec fn tmps p assign body D) :: (RC ++ own))) := perm_front
    refine e1.trans (List.Perm.append_left K ?_)
    have e2 : (own ++ (lp l (lrec fn tmps p assign body D) :: RC)).Perm ((lp l (lrec fn tmps p assign body D) :: RC) ++ own) := List.perm_append_comm
    exact e2.symm
  · rw [lk_cons] at hv
    by_cases hi : i = p
    · rw [if_pos hi] at hv
      injection hv with hv
      subst hv; subst hi
      simp [hp']
    · rw [if_neg hi] at hv
      have := hE i v hv
      simpa [Array.getElem?_setIfInBounds_ne (Ne.symm hi)] using this
theorem endR2 {own RN : List Res} {b : Bool} (hb : b = true) (he : RN = RC') (hsub : ∀ w, WS B w0 rs w → WS B w0 (lp l (brec fn tmps p assign body D) :: (RC' ++ own)) w) :
    ∀ a w, Sat ⟨n, [], some l⟩ B w0 E rs a w → roundPost P l (RQ2 B w0 own l (lrec fn tmps p assign body D) b RN) .normal a w := by
  intro a w hs
  subst hb
  rw [he]
  have h1 := hsub w hs.ws
  have hl := (lp_ok.1 (h1.res _ List.mem_cons_self)).2
  refine ⟨_, _, run_endRound none hl, rfl, ?_⟩
  have h2 : WS B w0 (lp l (lrec fn tmps p assign body D) :: (RC' ++ own)) _ := h1.turnLoop
  refine h2.perm ?_
  have e2 : (own ++ (lp l (lrec fn tmps p assign body D) :: RC')).Perm ((lp l (lrec fn tmps p assign body D) :: RC') ++ own) := List.perm_append_comm
  exact e2
theorem stopR2 {own RN : List Res} {b : Bool} (hb : b = false) (he : RN = RC') (hsub : ∀ w, WS B w0 rs w → WS B w0 (lp l (brec fn tmps p assign body D) :: (RC' ++ own)) w) :
    ∀ a w, Sat ⟨n, [], some l⟩ B w0 E rs a w → roundPost P l (RQ2 B w0 own l (lrec fn tmps p assign body D) b RN) .ret a w := by
  intro a w hs
  subst hb
  rw [he]
  have h1 := hsub w hs.ws
  have hl := (lp_ok.1 (h1.res _ List.mem_cons_self)).2
  refine ⟨_, _, run_endRound (some .ret) hl, rfl, ?_⟩
  have h2 : WS B w0 (lp l (rb (lrec fn tmps p assign body D) false) :: (RC' ++ own)) _ := h1.turnLoop
  refine h2.perm ?_
  have e2 : (own ++ (lp l (rb (lrec fn tmps p assign body D) false) :: RC')).Perm ((lp l (rb (lrec fn tmps p assign body D) false) :: RC') ++ own) := List.perm_append_comm
  exact e2

/-! ### Rounds with numbers -/
def FinN (RC RN : Nat → List Res) (go : Nat → Bool) (M : Nat) (b : Bool) (rc : List Res) : Prop := (b = true ∧ (∀ τ, τ < M → go τ = true) ∧ rc = RC M) ∨ (b = false ∧ ∃ σ, σ < M ∧ go σ = false ∧ (∀ τ, τ < σ → go τ = true) ∧ rc = RN σ)
theorem FinN_true {RC RN : Nat → List Res} {go : Nat → Bool} {M : Nat} {rc : List Res} (h : FinN RC RN go M true rc) : (∀ τ, τ < M → go τ = true) ∧ rc = RC M := by
  rcases h with ⟨_, h⟩ | ⟨h, _⟩
  · exact h
  · cases h
theorem FinN_false {RC RN : Nat → List Res} {go : Nat → Bool} {M : Nat} {rc : List Res} (h : FinN RC RN go M false rc) : ∃ σ, σ < M ∧ go σ = false ∧ (∀ τ, τ < σ → go τ = true) ∧ rc = RN σ := by
  rcases h with ⟨h, _⟩ | ⟨_, h⟩
  · cases h
  · exact h
theorem rb_true (r : Loop) : rb r true = r := rfl

/-! ### The statement -/
theorem C_range2 {n : Nat} {dl : List Deferred} {g : Operand} {f : FuncId} {lb : List Value} (Fin : Bool → List Res → Prop) (hE : ev E g = some (.func (.func f) #[] lb.toArray)) (hen : Enters P f)
    (h : ∀ l D fn tmps, tmps.size = n → (∀ i v, lk E i = some v → tmps.getD i undef = v) →
      It P f (.func (.yield l) #[] #[] :: lb) B w0 (lp l (lrec fn tmps p assign body D) :: df D :: rs) (fun w' => ∃ b rs', Fin b rs' ∧ WS B w0 (lp l (rb (lrec fn tmps p assign body D) b) :: df D :: rs') w'))
    (hend : ∀ D rs', Fin true rs' → ∀ a w, Sat ⟨n, { target := .collected D, args := #[] } :: dl, none⟩ B w0 E (df D :: rs') a w → Q .normal a w)
    (hret : ∀ D rs', Fin false rs' → ∀ a w, Sat ⟨n, { target := .collected D, args := #[] } :: dl, none⟩ B w0 E (df D :: rs') a w → Q .ret a w) :
    C P Q ⟨n, dl, none⟩ B w0 E rs (.rangeFunc g #[p] assign body) := by
  intro a w hs
  refine wpIn_rangeFunc ?_
  intro fn hfn
  have hw1 : WS B w0 (df w.heap.size :: rs) (w.alloc (.deferred (some []))) := by
    refine hs.ws.more (rs' := [df w.heap.size]) (below_alloc _ _) (fun r hr => ?_) (disj_one _)
    simp only [List.mem_singleton] at hr
    subst hr
    refine ⟨df_ok.2 ⟨hs.ws.bas, World.alloc_heap_new w _⟩, fun k hk => ?_⟩
    rw [df_blk] at hk
    injection hk with hk
    omega
  have hw2 : WS B w0 (lp (w.heap.size + 1) (lrec fn a.tmps p assign body w.heap.size) :: df w.heap.size :: rs) ((w.alloc (.deferred (some []))).alloc (.loop (lrec fn a.tmps p assign body w.heap.size))) := by
    refine hw1.more (rs' := [lp (w.heap.size + 1) (lrec fn a.tmps p assign body w.heap.size)]) (below_alloc _ _) (fun r hr => ?_) (disj_one _)
    simp only [List.mem_singleton] at hr
    subst hr
    have hsz : (w.alloc (.deferred (some []))).heap.size = w.heap.size + 1 := World.size_alloc _ _
    refine ⟨lp_ok.2 ⟨Nat.le_trans hs.ws.bas (by omega), by have := World.alloc_heap_new (w.alloc (.deferred (some []))) (.loop (lrec fn a.tmps p assign body w.heap.size)); rwa [hsz] at this⟩, fun k hk => ?_⟩
    rw [lp_blk] at hk
    injection hk with hk
    omega
  refine ⟨w.heap.size + 1, [{ target := .collected w.heap.size, args := #[] }], ((w.alloc (.deferred (some []))).alloc (.loop (lrec fn a.tmps p assign body w.heap.size))), { target := .fn (.func f) lb.toArray, args := #[.func (.yield (w.heap.size + 1)) #[] #[]] }, ((w.alloc (.deferred (some []))).alloc (.loop (lrec fn a.tmps p assign body w.heap.size))), f, #[.func (.yield (w.heap.size + 1)) #[] #[]] ++ lb.toArray, ((w.alloc (.deferred (some []))).alloc (.loop (lrec fn a.tmps p assign body w.heap.size))), run_enterLoop_outer _ _ _ _ _, ?_, fun _ _ => trivial, ?_, fc_depth, ?_⟩
  · simp only [resolve, hs.eval hE]
    simp [go_sem]
  · simp [invoke, go_sem]
    exact hen _ _
  · obtain ⟨fnI, cI, NI, hf, hb, hn, hle, h⟩ := h (w.heap.size + 1) w.heap.size fn a.tmps hs.size hs.env
    refine callsIn_fc (calls_of_wp hf hb ((wpIn_wide (n := 0)).1 (wpIn_mono (h _ _ ⟨hw2, ?_, rfl, fun i v hv => ?_⟩) ?_)))
    · have := Nat.ble_eq.mp hle
      simp only [List.length_cons] at this
      simp [hn]
      omega
    · obtain ⟨_, h1⟩ := lk_argE (.func (.yield (w.heap.size + 1)) #[] #[] :: lb) 0 i v hv
      simp only [Nat.sub_zero] at h1
      have hl := (List.getElem?_eq_some_iff.1 h1).1
      have h2 := List.getElem?_eq_getElem hl
      rw [h1] at h2
      injection h2 with h2
      have e0 : (#[.func (.yield (w.heap.size + 1)) #[] #[]] ++ lb.toArray : Array Value) = (.func (.yield (w.heap.size + 1)) #[] #[] :: lb : List Value).toArray := by simp
      rw [e0]
      simp only [Array.getD_eq_getD_getElem?, Array.getElem?_append, List.size_toArray, hl, if_true, List.getElem?_toArray, h1, Option.getD_some]
    · intro e a' w' hq
      have hfin : ∀ (v : Value) (w' : World), (∃ u, Ending.returned v = .returned u ∧ ∃ b rs', Fin b rs' ∧ WS B w0 (lp (w.heap.size + 1) (rb (lrec fn a.tmps p assign body w.heap.size) b) :: df w.heap.size :: rs') w') →
          rangePost (fc none) 0 P (w.heap.size + 1) Q { a with defers := [{ target := .collected w.heap.size, args := #[] }] ++ a.defers } (.returned v) w' := by
        rintro v w' ⟨u, _, b, rs', hF, hW⟩
        have hl := (lp_ok.1 (hW.res _ List.mem_cons_self)).2
        cases b with
        | true =>
          refine ⟨none, _, run_endLoop hl (by simp [rb]), ?_⟩
          have hW' : WS B w0 (lp (w.heap.size + 1) { lrec fn a.tmps p assign body w.heap.size with state := .exhausted } :: df w.heap.size :: rs') _ := hW.turnLoop
          exact hend _ rs' hF _ _ ⟨hW'.sub (List.sublist_cons_self _ _), hs.size, by simp [hs.dfr], hs.env⟩
        | false =>
          refine ⟨some .ret, _, run_endLoop hl (by simp [rb]), ?_⟩
          have hW' : WS B w0 (lp (w.heap.size + 1) { rb (lrec fn a.tmps p assign body w.heap.size) false with state := .exhausted } :: df w.heap.size :: rs') _ := hW.turnLoop
          exact wpIn_ret (hret _ rs' hF _ _ ⟨hW'.sub (List.sublist_cons_self _ _), hs.size, by simp [hs.dfr], hs.env⟩)
      cases e with
      | normal => obtain ⟨h1, v, h2, h3⟩ := hq; exact ⟨h1, v, h2, hfin v _ h3⟩
      | ret => obtain ⟨h1, v, h2, h3⟩ := hq; exact ⟨h1, v, h2, hfin v _ h3⟩
      | panic ch => obtain ⟨_, v, he, _⟩ := hq; cases he
      | outgrown => obtain ⟨v, he, _⟩ := hq; cases he
      | exit id => exact hq.elim
      | goto t => exact hq.elim

/-! ### Results that lie in cells -/
theorem ret_ofMC {fn : Func} {post : Value → List Res → Prop} {w1 : World} {n D : Nat} {v : Value} {rs1 rs' : List Res} (hsub : ∀ w, WS w1.heap.size w1 rs w → WS w1.heap.size w1 (df D :: rs1) w)
    (hres : ∀ a w, Sat ⟨n, [], none⟩ w1.heap.size w1 E rs1 a w → (results fn a.tmps).run P w = .ok v w) (hsub1 : ∀ w, WS w1.heap.size w1 rs1 w → WS w1.heap.size w1 rs' w) (hown : ∀ r ∈ rs', r.own = true) (hp : post v rs') :
    ∀ a w, Sat ⟨n, [{ target := .collected D, args := #[] }], none⟩ w1.heap.size w1 E rs a w → bodyPostM (fc none) 0 P fn (PostOf post w1) .ret a w := by
  intro a w hs
  have h1 := hsub w hs.ws
  have hK := df_ok.1 (h1.res _ List.mem_cons_self)
  have hlt := (Array.getElem?_eq_some_iff.1 hK.2).1
  show LeavesInM (fc none) 0 P fn a.tmps (PostOf post w1) a.defers .returning w
  rw [hs.dfr]
  refine ⟨by simp, .inl ⟨D, _, rfl, run_takeDeferred hK.2, ?_⟩⟩
  have hoth : ∀ k, k ≠ D → (w.putObj D (.deferred none)).heap[k]? = w.heap[k]? := fun k hk => World.putObj_heap_other hk
  have hb : Below w1.heap.size w1 (w.putObj D (.deferred none)) := h1.bel.trans ⟨rfl, rfl, rfl, by simp [World.putObj], fun k hk => hoth k (by omega)⟩
  have hw2 : WS w1.heap.size w1 rs1 (w.putObj D (.deferred none)) := by
    refine ⟨hb, by have := h1.bas; simp [World.putObj]; omega, fun r hr => ?_, (List.pairwise_cons.1 h1.dis).2⟩
    have hr1 := h1.res r (List.mem_cons_of_mem _ hr)
    exact r.st hr1 (by simp [World.putObj]) (fun k hk => hoth k (fun e => (List.pairwise_cons.1 h1.dis).1 r hr (.inl (df_own D)) k (by rw [df_blk, e]) hk))
  have h3 := hsub1 _ hw2
  exact ⟨v, hres { a with defers := [] } _ ⟨hw2, hs.size, rfl, hs.env⟩, v, rs', rfl, hb, hp, h3.res, hown, h3.dis⟩
theorem Kp.C_own3 {id : Nat} {l : List Oper} {g1 g2 g3 : Nat} {t1 t2 t3 : TypeId} {x1 x2 x3 : List Value} {ro : List Res} (ord : List Stp) (hm : P.follows .mixedOrders = true) (hsel : Region.noSelect l.toArray = true) (hn : stN ord = l.toArray.size) (hB : flowC .any l.toArray ord (Array.replicate l.toArray.size false) = true)
    (h : Kp.X P l.toArray N B w0 (fun E' rs' => L P l.toArray Q N B w0 E' rs' []) ro ord E [box g1 t1 x1, box g2 t2 x2, box g3 t3 x3]) : C P Q N B w0 E (box g1 t1 x1 :: box g2 t2 x2 :: box g3 t3 x3 :: ro) (.region id l.toArray true) :=
  Kp.C_own (pre := [box g1 t1 x1, box g2 t2 x2, box g3 t3 x3]) ord hm hsel hn hB (by intro r hr; simp only [List.mem_cons, List.not_mem_nil, or_false] at hr; rcases hr with rfl | rfl | rfl <;> exact box_own _ _ _) h
theorem q_nilEl {dst : Option Tmp} {ty : TypeId} {pos : String} {aft : Array Edge} {gd : Option (Nat × Bool)} {x : Operand} {v : Value} {m size : Nat} {l : List (List Value)} (hx : ev E x = some (elP v m)) (hg : GvR rs v size l) (hl : 0 < l.length) : Qu P N B w0 E rs ⟨dst, .nilCheck x, ty, pos, aft, gd⟩ (elP v m) := by
  intro a w hs
  obtain ⟨A, cap, rfl, hA⟩ := GvR.form hs.ws hg
  cases A with
  | none =>
    rw [hA rfl] at hl
    cases hl
  | some ad =>
    have h1 := hs.eval hx
    simp only [elP] at h1 ⊢
    simp [execOp, h1]
theorem lo_bsliceG {dst : Option Tmp} {ty : TypeId} {pos : String} {aft : Array Edge} {gd : Option (Nat × Bool)} {t e m : TypeId} {ag : Bool} {sz bs k : Nat} {zs : List Value} {ps : Array (Nat × Operand)} {l : List (Nat × Value)} {xs : List (List Value)} (T : Tab P) (he : lkT T.el t = some (e, m, false)) (ht : lkT T.ty e = some (ag, sz, bs, zs)) (hp : YtacndicgpkeobaaGreatDoor.parts E ps.toList = some l)
    (hl : fillL ((List.range k).map fun i => (i * sz, sz)) ((List.replicate k zs).flatten) (cellsOfParts l) = some xs.flatten) (hn : xs.length = k) (hx : ∀ x ∈ xs, x.length = sz) (hzl : zs.length = sz) (hs0 : 0 < sz) (hbig : Nat.ble (k * sz) 16777216 = true) :
    Lo P N B w0 E rs ⟨dst, .buildSlice t k ps, ty, pos, aft, gd⟩ (isSl e sz xs) :=
  fun a w hs => lo_bslice T (dst := dst) (ty := ty) (pos := pos) (aft := aft) he ht hp hl hn hx hzl hs0 hbig a w hs
theorem resCCC (T : Tab P) {fn : Func} {p q c : Nat} {t1 t2 t3 b1 b2 b3 : TypeId} {s1 s2 s3 x1 x2 x3 g1 g2 g3 : Nat} {z1 z2 z3 : List Value} {u v x : Value} (hf : fn.results = #[.cell p t1, .cell q t2, .cell c t3]) (hE1 : lk E p = some (.pointer (some ⟨g1, 0, none⟩))) (hE2 : lk E q = some (.pointer (some ⟨g2, 0, none⟩))) (hE3 : lk E c = some (.pointer (some ⟨g3, 0, none⟩)))
    (ht1 : lkT T.ty t1 = some (false, s1, x1, z1)) (ht2 : lkT T.ty t2 = some (false, s2, x2, z2)) (ht3 : lkT T.ty t3 = some (false, s3, x3, z3)) (hr1 : box g1 b1 [u] ∈ rs) (hr2 : box g2 b2 [v] ∈ rs) (hr3 : box g3 b3 [x] ∈ rs) :
    ∀ a w, Sat N B w0 E rs a w → (results fn a.tmps).run P w = .ok (.tuple #[u, v, x]) w := by
  intro a w hs
  have e1 := hs.env p _ hE1
  have e2 := hs.env q _ hE2
  have e3 := hs.env c _ hE3
  have c1 : w.cell? ⟨g1, 0, none⟩ = some u := box_cell (hs.has hr1) 0
  have c2 : w.cell? ⟨g2, 0, none⟩ = some v := box_cell (hs.has hr2) 0
  have c3 : w.cell? ⟨g3, 0, none⟩ = some x := box_cell (hs.has hr3) 0
  have l1 := run_loadVar1 T ht1 c1
  have l2 := run_loadVar1 T ht2 c2
  have l3 := run_loadVar1 T ht3 c3
  have e1' : a.tmps[p]?.getD undef = .pointer (some ⟨g1, 0, none⟩) := by simpa using e1
  have e2' : a.tmps[q]?.getD undef = .pointer (some ⟨g2, 0, none⟩) := by simpa using e2
  have e3' : a.tmps[c]?.getD undef = .pointer (some ⟨g3, 0, none⟩) := by simpa using e3
  simp [results, hf, e1', e2', e3', asAddr, l1, l2, l3]
end
end Go.Proofs.YtacndicgpkeobaaGreatDoor
