/-
  The calculus: a range over a function. The iterator's body is walked in the caller's memory; a call of yield is a round of the caller's loop. Conditions: none; no program in sight.
-/
import Derived.Test.YtacndicgpkeobaaGreatDoorShEq
namespace Go.Proofs.YtacndicgpkeobaaGreatDoor
open Go.RowKit

@[irreducible] def lp (l : Nat) (r : Loop) : Res where
  blk := some l
  own := true
  ok := fun B w => B ≤ l ∧ w.heap[l]? = some (.loop r)
  lt := by
    intro B w h k hk
    injection hk with hk
    subst hk
    exact (Array.getElem?_eq_some_iff.1 h.2).1
  st := by
    intro B w w' h _ hk
    exact ⟨h.1, (hk l rfl).trans h.2⟩
  ge := by
    intro B w _ h k hk
    injection hk with hk
    subst hk
    exact h.1
@[irreducible] def df (D : Nat) : Res where
  blk := some D
  own := true
  ok := fun B w => B ≤ D ∧ w.heap[D]? = some (.deferred (some []))
  lt := by
    intro B w h k hk
    injection hk with hk
    subst hk
    exact (Array.getElem?_eq_some_iff.1 h.2).1
  st := by
    intro B w w' h _ hk
    exact ⟨h.1, (hk D rfl).trans h.2⟩
  ge := by
    intro B w _ h k hk
    injection hk with hk
    subst hk
    exact h.1
theorem lp_blk (l : Nat) (r : Loop) : (lp l r).blk = some l := by unfold lp; rfl
theorem lp_own (l : Nat) (r : Loop) : (lp l r).own = true := by unfold lp; rfl
theorem lp_ok {l : Nat} {r : Loop} {B : Nat} {w : World} : (lp l r).ok B w ↔ B ≤ l ∧ w.heap[l]? = some (.loop r) := by unfold lp; exact Iff.rfl
theorem df_blk (D : Nat) : (df D).blk = some D := by unfold df; rfl
theorem df_own (D : Nat) : (df D).own = true := by unfold df; rfl
theorem df_ok {D : Nat} {B : Nat} {w : World} : (df D).ok B w ↔ B ≤ D ∧ w.heap[D]? = some (.deferred (some [])) := by unfold df; exact Iff.rfl

section
variable {P : Program} {N : Fr} {B : Nat} {w0 : World} {E : Env} {rs RC RC' : List Res} {Q : Exit → Act → World → Prop} {ops : Array Oper} {rest : List Oper}

theorem WS.turnLoop {w : World} {l : Nat} {r r' : Loop} (h : WS B w0 (lp l r :: rs) w) : WS B w0 (lp l r' :: rs) (w.putObj l (.loop r')) := by
  have h1 := lp_ok.1 (h.res _ List.mem_cons_self)
  have hlt := (Array.getElem?_eq_some_iff.1 h1.2).1
  exact h.turn (lp_own _ _) (by rw [lp_blk, lp_blk]) (lp_own _ _) (lp_ok.2 ⟨h1.1, World.putObj_heap_same hlt⟩) ⟨rfl, rfl, rfl⟩ (by simp [World.putObj]) (fun k _ hne => World.putObj_heap_other (fun e => hne (by rw [lp_blk, e])))
theorem WS.dup {w : World} {k : Res} (h : WS B w0 rs w) (hk : k ∈ rs) (ho : k.own = false) : WS B w0 (k :: rs) w := by
  refine ⟨h.bel, h.bas, fun r hr => ?_, List.pairwise_cons.2 ⟨fun s hs => ?_, h.dis⟩⟩
  · rcases List.mem_cons.1 hr with rfl | hr
    · exact h.res _ hk
    · exact h.res r hr
  · intro hown j h1 h2
    rcases hown with hown | hown
    · rw [ho] at hown; cases hown
    · by_cases hks : k = s
      · subst hks; rw [ho] at hown; cases hown
      · obtain ⟨a, b, hab⟩ := List.append_of_mem hk
        have hd := h.dis
        rw [hab] at hd hs
        have hp : (k :: (a ++ b)).Pairwise apartR := (perm_front (r := k) (pre := a) (post := b)).symm.pairwise hd (fun {_ _} hx => hx.symm)
        have hs' : s ∈ a ++ b := by
          rcases List.mem_append.1 hs with h3 | h3
          · exact List.mem_append_left _ h3
          · rcases List.mem_cons.1 h3 with h3 | h3
            · exact absurd h3.symm hks
            · exact List.mem_append_right _ h3
        exact (List.pairwise_cons.1 hp).1 s hs' (.inr hown) j h1 h2
theorem WS.dups {w : World} : ∀ {K : List Res}, WS B w0 rs w → (∀ k ∈ K, k ∈ rs ∧ k.own = false) → WS B w0 (K ++ rs) w
  | [], h, _ => h
  | k :: _, h, hk => (WS.dups h (fun x hx => hk x (List.mem_cons_of_mem _ hx))).dup (List.mem_append_right _ (hk k List.mem_cons_self).1) (hk k List.mem_cons_self).2
theorem sl_to_rd {w : World} {v : Value} {e size : Nat} {l : List (List Value)} (h : WS B w0 (sl v e size l :: rs) w) : WS B w0 (rd v size l :: rs) w := by
  have h1 := h.res _ List.mem_cons_self
  have hg := sl_gives v e size l B w h1
  refine ⟨h.bel, h.bas, fun r hr => ?_, List.pairwise_cons.2 ⟨fun s hs hown j hj hj2 => ?_, (List.pairwise_cons.1 h.dis).2⟩⟩
  · rcases List.mem_cons.1 hr with rfl | hr
    · exact rd_ok.2 hg
    · exact h.res r (List.mem_cons_of_mem _ hr)
  · refine (List.pairwise_cons.1 h.dis).1 s hs (.inl (sl_own _ _ _ _)) j ?_ hj2
    rw [sl_blk]
    cases l with
    | nil => unfold rd at hj; cases hj
    | cons a t => unfold rd at hj; exact hj
theorem L_share {v : Value} {e size : Nat} {l : List (List Value)} {t : List Oper} (h : L P ops Q N B w0 E (rd v size l :: rs) t) : L P ops Q N B w0 E (sl v e size l :: rs) t := L_res (fun _ hw => sl_to_rd hw) h

def Rnd (P : Program) (B : Nat) (w0 : World) (l : Nat) (r : Loop) (args : List Value) (K RC RC' : List Res) : Prop :=
  ∀ own w, (∀ k ∈ K, k ∈ own ∧ k.own = false) → WS B w0 (own ++ (lp l r :: RC)) w →
    RoundIn (fc none) 0 P l r.fn ((r.params.zip args.toArray).foldl (fun tmps (x : Tmp × Value) => tmps.setIfInBounds x.1 x.2) r.tmps) r.assign r.body w (fun e w' => e = .returned (.bool true) ∧ WS B w0 (own ++ (lp l r :: RC')) w')

theorem L_yield {n : Nat} {dl : List Deferred} {l d : Nat} {r : Loop} {args : List Value} {K : List Res} {x : Operand} {ys : Array Operand} {ts : Array TypeId} {ty : TypeId} {pos : String} {aft : Array Edge} (own : List Res) (hf : ev E x = some (.func (.yield l) #[] #[])) (hx : evs E ys.toList = some args)
    (hsz : args.length = r.params.size) (hR : Rnd P B w0 l r args K RC RC') (hK : ∀ k ∈ K, k ∈ own ∧ k.own = false) (hN : Nat.blt d n = true) (h : L P ops Q ⟨n, dl, none⟩ B w0 ((d, .bool true) :: E) (own ++ (lp l r :: RC')) rest) :
    L P ops Q ⟨n, dl, none⟩ B w0 E (own ++ (lp l r :: RC)) (⟨some d, .call { callee := .value x, args := ys, argTypes := ts }, ty, pos, aft, none⟩ :: rest) := by
  intro a w hs
  refine wpListIn_plain rfl fun KK hKK => ?_
  have hmap := hs.evals hx
  have hmap' : ys.map a.eval = args.toArray := Array.ext' (by rw [Array.toList_map, hmap])
  have hl := (lp_ok.1 (hs.has (r := lp l r) (List.mem_append_right _ List.mem_cons_self))).2
  have hy := run_yield (P := P) (args := args.toArray) hl (by simpa using hsz)
  have hrun : (execOp a.eval ⟨some d, .call { callee := .value x, args := ys, argTypes := ts }, ty, pos, aft, none⟩).run P w = .ok (.round l r.fn ((r.params.zip args.toArray).foldl (fun tmps (x : Tmp × Value) => tmps.setIfInBounds x.1 x.2) r.tmps) r.assign r.body) w := by
    simp only [execOp, resolve, hs.eval hf]
    simp [hmap', invoke, Deferred.ofValue, hy]
  refine ⟨fun _ _ => trivial, ?_⟩
  rw [semAt_nd _ _ _ (nd_of hrun (fun d hd => by cases hd)), hrun]
  refine ⟨fc_depth, (hR own w hK hs.ws).mono ?_⟩
  rintro e w' ⟨rfl, hw'⟩
  exact hKK _ _ (h _ _ (hs.put hN (.bool true) hw'))

/-! ### The caller's side of a round -/
abbrev lrec (fn : FuncId) (tmps : Array Value) (p : Tmp) (assign body : Code) (D : Nat) : Loop := { state := .ready, pending := none, fn := fn, tmps := tmps, params := #[p], assign := assign, body := body, defers := D }
abbrev brec (fn : FuncId) (tmps : Array Value) (p : Tmp) (assign body : Code) (D : Nat) : Loop := { state := .busy, pending := none, fn := fn, tmps := tmps, params := #[p], assign := assign, body := body, defers := D }
def RQ (B : Nat) (w0 : World) (own : List Res) (l : Nat) (r : Loop) (RC' : List Res) (e : Ending) (w' : World) : Prop := e = .returned (.bool true) ∧ WS B w0 (own ++ (lp l r :: RC')) w'
def asQ (P : Program) (l : Nat) (R : Ending → World → Prop) (body : Code) : Exit → Act → World → Prop :=
  Exit.then (fun a w => ∃ w2, (Instr.beginRound l).run P w = .ok () w2 ∧ body.wpIn (fc (some l)) 0 P (roundPost P l R) a w2) (fun _ _ _ => False)
variable {fn : FuncId} {tmps : Array Value} {p D l : Nat} {assign body : Code} {n : Nat}
theorem Rnd.of {x : Value} {K : List Res} (htm : tmps.size = n) (hp : Nat.blt p n = true) (hE : ∀ i v, lk E i = some v → tmps.getD i undef = v)
    (h : ∀ own, C P (asQ P l (RQ B w0 own l (lrec fn tmps p assign body D) RC') body) ⟨n, [], some l⟩ B w0 ((p, x) :: E) (lp l (lrec fn tmps p assign body D) :: (K ++ (RC ++ own))) assign) :
    Rnd P B w0 l (lrec fn tmps p assign body D) [x] K RC RC' := by
  intro own w hK hw
  refine roundIn_of_wpIn trivial ?_
  have hp' : p < tmps.size := by rw [htm]; exact blt_lt hp
  refine h own _ w ⟨?_, by simp [htm], rfl, fun i v hv => ?_⟩
  · have h1 := hw.dups (K := K) (fun k hk => ⟨List.mem_append_left _ (hK k hk).1, (hK k hk).2⟩)
    refine h1.perm ?_
    have e1 : (lp l (lrec fn tmps p assign body D) :: (K ++ (RC ++ own))).Perm (K ++ (lp l (lrec fn tmps p assign body D) :: (RC ++ own))) := perm_front
    refine e1.trans (List.Perm.append_left K ?_)
    have e2 : (own ++ (lp l (lrec fn tmps p assign body D) :: RC)).Perm ((lp l (lrec fn tmps p assign body D) :: RC) ++ own) := List.perm_append_comm
    exact e2.symm
  · rw [lk_cons] at hv
    by_cases hi : i = p
    · rw [if_pos hi] at hv
      injection hv with hv
      subst hv; subst hi
      simp [hp']
    · rw [if_neg hi] at hv
      have := hE i v hv
      simpa [Array.getElem?_setIfInBounds_ne (Ne.symm hi)] using this
theorem beginR {R : Ending → World → Prop} (h : C P (roundPost P l R) ⟨n, [], some l⟩ B w0 E (lp l (brec fn tmps p assign body D) :: rs) body) :
    ∀ a w, Sat ⟨n, [], some l⟩ B w0 E (lp l (lrec fn tmps p assign body D) :: rs) a w → asQ P l R body .normal a w := by
  intro a w hs
  have hl := (lp_ok.1 (hs.has (r := lp l (lrec fn tmps p assign body D)) List.mem_cons_self)).2
  exact ⟨_, run_beginRound hl rfl, h _ _ (hs.world hs.ws.turnLoop)⟩
theorem endR {own : List Res} (hsub : ∀ w, WS B w0 rs w → WS B w0 (lp l (brec fn tmps p assign body D) :: (RC' ++ own)) w) :
    ∀ a w, Sat ⟨n, [], some l⟩ B w0 E rs a w → roundPost P l (RQ B w0 own l (lrec fn tmps p assign body D) RC') .normal a w := by
  intro a w hs
  have h1 := hsub w hs.ws
  have hl := (lp_ok.1 (h1.res _ List.mem_cons_self)).2
  refine ⟨_, _, run_endRound none hl, rfl, ?_⟩
  have h2 : WS B w0 (lp l (lrec fn tmps p assign body D) :: (RC' ++ own)) _ := h1.turnLoop
  refine h2.perm ?_
  have e2 : (own ++ (lp l (lrec fn tmps p assign body D) :: RC')).Perm ((lp l (lrec fn tmps p assign body D) :: RC') ++ own) := List.perm_append_comm
  exact e2

/-! ### The iterator -/
def It (P : Program) (f : FuncId) (args : List Value) (B : Nat) (w0 : World) (rs : List Res) (R : World → Prop) : Prop :=
  ∃ fnI cI NI, P.funcs[f]? = some fnI ∧ fnI.body = some cI ∧ fnI.ntmps = NI ∧ Nat.ble args.length NI = true ∧ C P (bodyPost P fnI fun e w' => ∃ v, e = .returned v ∧ R w') ⟨NI, [], none⟩ B w0 (argE 0 args) rs cI
theorem It.of {N : Nat} {f : FuncId} {fn : Func} {c : Code} {args : List Value} {R : World → Prop} (hf : P.funcs[f]? = some fn) (hb : fn.body = some c) (hN : fn.ntmps = N) (hle : Nat.ble args.length N = true)
    (h : C P (bodyPost P fn fun e w' => ∃ v, e = .returned v ∧ R w') ⟨N, [], none⟩ B w0 (argE 0 args) rs c) : It P f args B w0 rs R := ⟨fn, c, N, hf, hb, hN, hle, h⟩
theorem It.mono {f : FuncId} {args : List Value} {R R' : World → Prop} {rs' : List Res} (h : It P f args B w0 rs R) (hs : ∀ w, WS B w0 rs' w → WS B w0 rs w) (hr : ∀ w, R w → R' w) : It P f args B w0 rs' R' := by
  obtain ⟨fn, c, N, h1, h2, h3, h4, h5⟩ := h
  refine ⟨fn, c, N, h1, h2, h3, h4, fun a w hw => wpIn_mono (h5 a w ⟨hs w hw.ws, hw.size, hw.dfr, hw.env⟩) ?_⟩
  intro e a' w' hq
  cases e with
  | normal => obtain ⟨q1, v, q2, u, q3, q4⟩ := hq; exact ⟨q1, v, q2, u, q3, hr _ q4⟩
  | ret => obtain ⟨q1, v, q2, u, q3, q4⟩ := hq; exact ⟨q1, v, q2, u, q3, hr _ q4⟩
  | panic ch => obtain ⟨q1, u, q3, _⟩ := hq; cases q3
  | outgrown => obtain ⟨u, q3, _⟩ := hq; cases q3
  | exit id => exact hq.elim
  | goto t => exact hq.elim
theorem it_ret {n : Nat} {fn : Func} {R : World → Prop} (hf : fn.results = #[]) (h : ∀ w, WS B w0 rs w → R w) : ∀ a w, Sat ⟨n, [], none⟩ B w0 E rs a w → bodyPost P fn (fun e w' => ∃ v, e = .returned v ∧ R w') .ret a w :=
  fun _ w hs => ⟨hs.dfr, _, results_none hf _ _ _, _, rfl, h w hs.ws⟩
theorem it_end {n : Nat} {fn : Func} {R : World → Prop} (hf : fn.results = #[]) (h : ∀ w, WS B w0 rs w → R w) : ∀ a w, Sat ⟨n, [], none⟩ B w0 E rs a w → bodyPost P fn (fun e w' => ∃ v, e = .returned v ∧ R w') .normal a w :=
  fun _ w hs => ⟨hs.dfr, _, results_none hf _ _ _, _, rfl, h w hs.ws⟩
theorem blk_end {id : Nat} {y : Code} {Q' : Exit → Act → World → Prop} (h : C P Q N B w0 E rs y) : ∀ a w, Sat N B w0 E rs a w → Exit.inBlock id (Exit.then (y.wpIn (fc N.ro) 0 P Q) Q') .normal a w := fun a w hs => h a w hs

/-! ### The statement -/
theorem C_range {n : Nat} {dl : List Deferred} {g : Operand} {f : FuncId} {lb : List Value} (Fin : List Res → Prop) (hE : ev E g = some (.func (.func f) #[] lb.toArray)) (hen : Enters P f)
    (h : ∀ l D fn tmps, tmps.size = n → (∀ i v, lk E i = some v → tmps.getD i undef = v) →
      It P f (.func (.yield l) #[] #[] :: lb) B w0 (lp l (lrec fn tmps p assign body D) :: df D :: rs) (fun w' => ∃ rs', Fin rs' ∧ WS B w0 (lp l (lrec fn tmps p assign body D) :: df D :: rs') w'))
    (hend : ∀ D rs', Fin rs' → ∀ a w, Sat ⟨n, { target := .collected D, args := #[] } :: dl, none⟩ B w0 E (df D :: rs') a w → Q .normal a w) :
    C P Q ⟨n, dl, none⟩ B w0 E rs (.rangeFunc g #[p] assign body) := by
  intro a w hs
  refine wpIn_rangeFunc ?_
  intro fn hfn
  have hw1 : WS B w0 (df w.heap.size :: rs) (w.alloc (.deferred (some []))) := by
    refine hs.ws.more (rs' := [df w.heap.size]) (below_alloc _ _) (fun r hr => ?_) (disj_one _)
    simp only [List.mem_singleton] at hr
    subst hr
    refine ⟨df_ok.2 ⟨hs.ws.bas, World.alloc_heap_new w _⟩, fun k hk => ?_⟩
    rw [df_blk] at hk
    injection hk with hk
    omega
  have hw2 : WS B w0 (lp (w.heap.size + 1) (lrec fn a.tmps p assign body w.heap.size) :: df w.heap.size :: rs) ((w.alloc (.deferred (some []))).alloc (.loop (lrec fn a.tmps p assign body w.heap.size))) := by
    refine hw1.more (rs' := [lp (w.heap.size + 1) (lrec fn a.tmps p assign body w.heap.size)]) (below_alloc _ _) (fun r hr => ?_) (disj_one _)
    simp only [List.mem_singleton] at hr
    subst hr
    have hsz : (w.alloc (.deferred (some []))).heap.size = w.heap.size + 1 := World.size_alloc _ _
    refine ⟨lp_ok.2 ⟨Nat.le_trans hs.ws.bas (by omega), by have := World.alloc_heap_new (w.alloc (.deferred (some []))) (.loop (lrec fn a.tmps p assign body w.heap.size)); rwa [hsz] at this⟩, fun k hk => ?_⟩
    rw [lp_blk] at hk
    injection hk with hk
    omega
  refine ⟨w.heap.size + 1, [{ target := .collected w.heap.size, args := #[] }], ((w.alloc (.deferred (some []))).alloc (.loop (lrec fn a.tmps p assign body w.heap.size))), { target := .fn (.func f) lb.toArray, args := #[.func (.yield (w.heap.size + 1)) #[] #[]] }, ((w.alloc (.deferred (some []))).alloc (.loop (lrec fn a.tmps p assign body w.heap.size))), f, #[.func (.yield (w.heap.size + 1)) #[] #[]] ++ lb.toArray, ((w.alloc (.deferred (some []))).alloc (.loop (lrec fn a.tmps p assign body w.heap.size))), run_enterLoop_outer _ _ _ _ _, ?_, fun _ _ => trivial, ?_, fc_depth, ?_⟩
  · simp only [resolve, hs.eval hE]
    simp [go_sem]
  · simp [invoke, go_sem]
    exact hen _ _
  · obtain ⟨fnI, cI, NI, hf, hb, hn, hle, h⟩ := h (w.heap.size + 1) w.heap.size fn a.tmps hs.size hs.env
    refine callsIn_fc (calls_of_wp hf hb ((wpIn_wide (n := 0)).1 (wpIn_mono (h _ _ ⟨hw2, ?_, rfl, fun i v hv => ?_⟩) ?_)))
    · have := Nat.ble_eq.mp hle
      simp only [List.length_cons] at this
      simp [hn]
      omega
    · obtain ⟨_, h1⟩ := lk_argE (.func (.yield (w.heap.size + 1)) #[] #[] :: lb) 0 i v hv
      simp only [Nat.sub_zero] at h1
      have hl := (List.getElem?_eq_some_iff.1 h1).1
      have h2 := List.getElem?_eq_getElem hl
      rw [h1] at h2
      injection h2 with h2
      have e0 : (#[.func (.yield (w.heap.size + 1)) #[] #[]] ++ lb.toArray : Array Value) = (.func (.yield (w.heap.size + 1)) #[] #[] :: lb : List Value).toArray := by simp
      rw [e0]
      simp only [Array.getD_eq_getD_getElem?, Array.getElem?_append, List.size_toArray, hl, if_true, List.getElem?_toArray, h1, Option.getD_some]
    · intro e a' w' hq
      have hfin : ∀ (v : Value) (w' : World), (∃ u, Ending.returned v = .returned u ∧ ∃ rs', Fin rs' ∧ WS B w0 (lp (w.heap.size + 1) (lrec fn a.tmps p assign body w.heap.size) :: df w.heap.size :: rs') w') →
          rangePost (fc none) 0 P (w.heap.size + 1) Q { a with defers := [{ target := .collected w.heap.size, args := #[] }] ++ a.defers } (.returned v) w' := by
        rintro v w' ⟨u, _, rs', hF, hW⟩
        have hl := (lp_ok.1 (hW.res _ List.mem_cons_self)).2
        refine ⟨none, _, run_endLoop hl (by simp), ?_⟩
        have hW' : WS B w0 (lp (w.heap.size + 1) { lrec fn a.tmps p assign body w.heap.size with state := .exhausted } :: df w.heap.size :: rs') _ := hW.turnLoop
        exact hend _ rs' hF _ _ ⟨hW'.sub (List.sublist_cons_self _ _), hs.size, by simp [hs.dfr], hs.env⟩
      cases e with
      | normal => obtain ⟨h1, v, h2, h3⟩ := hq; exact ⟨h1, v, h2, hfin v _ h3⟩
      | ret => obtain ⟨h1, v, h2, h3⟩ := hq; exact ⟨h1, v, h2, hfin v _ h3⟩
      | panic ch => obtain ⟨_, v, he, _⟩ := hq; cases he
      | outgrown => obtain ⟨v, he, _⟩ := hq; cases he
      | exit id => exact hq.elim
      | goto t => exact hq.elim

/-! ### A function that holds one such loop -/
theorem Ct.ofM {N : Nat} {f : FuncId} {fn : Func} {c : Code} {args : List Value} {ps : List (Value × Nat × List (List Value))} {post : Value → List Res → Prop} (hf : P.funcs[f]? = some fn) (hb : fn.body = some c) (hN : fn.ntmps = N) (hle : Nat.ble args.length N = true)
    (h : ∀ w, C P (bodyPostM (fc none) 0 P fn (PostOf post w)) ⟨N, [], none⟩ w.heap.size w (argE 0 args) (rdOf ps) c) : Ct P f args ps post := by
  intro w hw
  refine (callsIn_wide (n := 0)).1 (callsIn_of_wp_marks hf hb trivial (h w _ _ ⟨⟨Below.refl _ _, Nat.le_refl _, fun r hr => ?_, disj_rd ps⟩, ?_, rfl, fun i v hv => ?_⟩))
  · obtain ⟨p, hp, rfl⟩ := List.mem_map.1 hr
    exact rd_ok.2 (hw p hp)
  · have := Nat.ble_eq.mp hle
    simp [hN]
    omega
  · obtain ⟨_, h1⟩ := lk_argE args 0 i v hv
    simp only [Nat.sub_zero] at h1
    have hl := (List.getElem?_eq_some_iff.1 h1).1
    have h2 := List.getElem?_eq_getElem hl
    rw [h1] at h2
    injection h2 with h2
    simp [Array.getElem?_append, hl, h2]
theorem ret_ofM {fn : Func} {post : Value → List Res → Prop} {w1 : World} {n D : Nat} {v : Value} {rs' : List Res} (hres : ∀ a w, Sat ⟨n, [{ target := .collected D, args := #[] }], none⟩ w1.heap.size w1 E rs a w → ∀ w', (results fn a.tmps).run P w' = .ok v w')
    (hsub : ∀ w, WS w1.heap.size w1 rs w → WS w1.heap.size w1 (df D :: rs') w) (hown : ∀ r ∈ rs', r.own = true) (hp : post v rs') :
    ∀ a w, Sat ⟨n, [{ target := .collected D, args := #[] }], none⟩ w1.heap.size w1 E rs a w → bodyPostM (fc none) 0 P fn (PostOf post w1) .ret a w := by
  intro a w hs
  have h1 := hsub w hs.ws
  have hK := df_ok.1 (h1.res _ List.mem_cons_self)
  have hlt := (Array.getElem?_eq_some_iff.1 hK.2).1
  show LeavesInM (fc none) 0 P fn a.tmps (PostOf post w1) a.defers .returning w
  rw [hs.dfr]
  refine ⟨by simp, .inl ⟨D, _, rfl, run_takeDeferred hK.2, ?_⟩⟩
  have hoth : ∀ k, k ≠ D → (w.putObj D (.deferred none)).heap[k]? = w.heap[k]? := fun k hk => World.putObj_heap_other hk
  have hb : Below w1.heap.size w1 (w.putObj D (.deferred none)) := h1.bel.trans ⟨rfl, rfl, rfl, by simp [World.putObj], fun k hk => hoth k (by omega)⟩
  refine ⟨v, hres a w hs _, v, rs', rfl, hb, hp, fun r hr => ?_, hown, (List.pairwise_cons.1 h1.dis).2⟩
  have hr1 := h1.res r (List.mem_cons_of_mem _ hr)
  exact r.st hr1 (by simp [World.putObj]) (fun k hk => hoth k (fun e => (List.pairwise_cons.1 h1.dis).1 r hr (.inl (df_own D)) k (by rw [df_blk, e]) hk))

/-! ### A slice's value is a slice -/
theorem GvR.form {w : World} {v : Value} {size : Nat} {l : List (List Value)} (h : WS B w0 rs w) (hg : GvR rs v size l) : ∃ A cap, v = .slice A l.length cap ∧ (A = none → l = []) := by
  obtain ⟨r, hr, hg⟩ := hg
  have h1 := hg _ _ (h.res r hr)
  obtain ⟨A, cap, hv, _, _⟩ := h1.form
  refine ⟨A, cap, hv, fun hA => ?_⟩
  subst hA
  rcases Nat.eq_zero_or_pos l.length with h0 | h0
  · exact List.eq_nil_of_length_eq_zero h0
  · obtain ⟨ad, _, ⟨n, c, h2⟩, _⟩ := h1.some h0
    rw [hv] at h2
    cases h2
theorem C_form {v : Value} {size : Nat} {l : List (List Value)} {c : Code} (hg : GvR rs v size l) (h : ∀ A cap, v = .slice A l.length cap → (A = none → l = []) → C P Q N B w0 E rs c) : C P Q N B w0 E rs c := by
  intro a w hs
  obtain ⟨A, cap, hv, hn⟩ := GvR.form hs.ws hg
  exact h A cap hv hn a w hs
theorem L_form {v : Value} {size : Nat} {l : List (List Value)} {t : List Oper} (hg : GvR rs v size l) (h : ∀ A cap, v = .slice A l.length cap → (A = none → l = []) → L P ops Q N B w0 E rs t) : L P ops Q N B w0 E rs t := by
  intro a w hs
  obtain ⟨A, cap, hv, hn⟩ := GvR.form hs.ws hg
  exact h A cap hv hn a w hs
def isSlF (e size : Nat) (l : List (List Value)) (v : Value) (rs' : List Res) : Prop := rs' = [sl v e size l] ∧ ∃ A n c, v = .slice A n c
theorem lo_form {o : Oper} {e size : Nat} {l : List (List Value)} (h : Lo P N B w0 E rs o (isSl e size l)) : Lo P N B w0 E rs o (isSlF e size l) := by
  have key : ∀ (v : Value) (rs' : List Res) (w' : World), isSl e size l v rs' → (∀ r ∈ rs', r.ok B w' ∧ ∀ k, r.blk = some k → 0 ≤ k) → isSlF e size l v rs' := fun v rs' w' hp hr => by
    unfold isSl at hp
    subst hp
    obtain ⟨A, c, hv, _⟩ := (sl_gives v e size l B w' (hr _ (List.mem_singleton.2 rfl)).1).form
    exact ⟨rfl, A, _, c, hv⟩
  intro a w hs
  rcases h a w hs with ⟨v, w', rs', hr, hb, hp, hrs, hd⟩ | ⟨f, args, hr, hc⟩
  · exact .inl ⟨v, w', rs', hr, hb, key v rs' w' hp (fun r hr => ⟨(hrs r hr).1, fun _ _ => Nat.zero_le _⟩), hrs, hd⟩
  · refine .inr ⟨f, args, hr, hc.mono ?_⟩
    rintro e' w'' ⟨v, rs', he, hb, hp, hrs, hd⟩
    exact ⟨v, rs', he, hb, key v rs' w'' hp (fun r hr => ⟨(hrs r hr).1, fun _ _ => Nat.zero_le _⟩), hrs, hd⟩
theorem W_callSF (T : Tab P) {fin : Env → List Res → Prop} {k d e size : Nat} {t : List (Nat × Bool)} {f : FuncId} {o : Oper} {xs : Array Operand} {ts : Array TypeId} {ty : TypeId} {pos : String} {aft : Array Edge} {args : List Value} {ps : List (Value × Nat × List (List Value))} {l : List (List Value)} (ho : ops[k]? = some o) (hop : o = ⟨some d, .call { callee := .value (.func f), args := xs, argTypes := ts }, ty, pos, aft, none⟩)
    (hen : lkT T.en f = some ()) (hx : evs E xs.toList = some args) (hc : Ct P f args ps (isSl e size l)) (hps : ∀ p ∈ ps, Gives rs p) (hN : Nat.blt d N.n = true) (h : ∀ A n c, W P ops N B w0 fin t ((d, .slice A n c) :: E) (sl (.slice A n c) e size l :: rs)) : W P ops N B w0 fin ((k, true) :: t) E rs := by
  subst hop
  exact W_lo ho rfl rfl hN (lo_form (lo_call T hen hx hc hps isSl_sinks)) fun u rs' hp => by
    obtain ⟨hp, A, n, c, rfl⟩ := hp
    subst hp
    exact h A n c
theorem fin_perm {w : World} {k : Res} {D l : Nat} {r : Loop} (h : WS B w0 (k :: df D :: lp l r :: RC) w) : WS B w0 (lp l r :: df D :: (RC ++ [k])) w := by
  refine h.perm ?_
  have e1 : (lp l r :: df D :: (RC ++ [k])).Perm (lp l r :: df D :: (k :: RC)) := ((List.perm_append_comm (l₁ := RC) (l₂ := [k])).cons _).cons _
  refine e1.trans ?_
  refine (List.Perm.swap _ _ _).trans ?_
  refine ((List.Perm.swap _ _ _).cons _).trans ?_
  exact (List.Perm.swap _ _ _)
theorem run_sliceNil {t e : TypeId} (hu : P.underlying t = some (.slice e)) (d : Nat) (A : Option Addr) (n c : Nat) (w : World) : (Op.equalIn (d + 1) t (.slice A n c) (.slice none 0 0)).run P w = .ok A.isNone w := by
  cases A <;> simp [Op.equalIn, run_underlying hu]
theorem q_eqlNil (T : Tab P) {e m : TypeId} {dst : Option Tmp} {ty : TypeId} {pos : String} {aft : Array Edge} {gd : Option (Nat × Bool)} {x : Operand} {t t' : TypeId} {A : Option Addr} {n c : Nat} (he : lkT T.el t = some (e, m, false)) (hx : ev E x = some (.slice A n c)) : Qu P N B w0 E rs ⟨dst, .binOp .eql t x (.const (.slice none 0 0)) t', ty, pos, aft, gd⟩ (.bool A.isNone) := by
  have hu : P.underlying t = some (.slice e) := by
    rcases T.el_ok _ (lkT_mem he) with ⟨_, h⟩ | ⟨h, _⟩
    · exact h
    · cases h
  refine q_cmp hx (by rfl) fun w => ?_
  have h1 := run_sliceNil hu 9999 A n c w
  rw [eqGuard_at_slice]
  show ((do let b ← Op.equalIn 10000 t (.slice A n c) (.slice none 0 0); pure (Value.bool b) : Sem Value)).run P w = _
  rw [Sem.run_bind, h1]
  rfl

/-! ### What is known, in another order, or less of it -/
theorem disj_pick {rs : List Res} (h : Disj rs) {idx : List Nat} (hn : idx.Nodup) : Disj (idx.filterMap fun i => rs[i]?) := by
  unfold Disj at h ⊢
  rw [List.pairwise_filterMap]
  refine List.Pairwise.imp_of_mem ?_ hn
  intro i j _ _ hij b hb b' hb'
  obtain ⟨hi, rfl⟩ := List.getElem?_eq_some_iff.1 hb
  obtain ⟨hj, rfl⟩ := List.getElem?_eq_some_iff.1 hb'
  rcases Nat.lt_or_gt_of_ne hij with h1 | h1
  · exact List.pairwise_iff_getElem.1 h i j hi hj h1
  · exact (List.pairwise_iff_getElem.1 h j i hj hi h1).symm
theorem mem_pick {rs : List Res} {idx : List Nat} {r : Res} (h : r ∈ idx.filterMap fun i => rs[i]?) : r ∈ rs := by
  obtain ⟨i, _, hi⟩ := List.mem_filterMap.1 h
  exact List.mem_of_getElem? hi
theorem WS.pick0 {w : World} (h : WS B w0 rs w) (idx : List Nat) (hn : idx.Nodup) : WS B w0 (idx.filterMap fun i => rs[i]?) w :=
  ⟨h.bel, h.bas, fun r hr => h.res r (mem_pick hr), disj_pick h.dis hn⟩
theorem WS.pickT {w : World} (pre tail : List Res) (h : WS B w0 (pre ++ tail) w) (idx : List Nat) (hn : idx.Nodup) : WS B w0 ((idx.filterMap fun i => pre[i]?) ++ tail) w := by
  have hd := List.pairwise_append.1 h.dis
  refine ⟨h.bel, h.bas, fun r hr => ?_, List.pairwise_append.2 ⟨disj_pick hd.1 hn, hd.2.1, fun r hr s hs => hd.2.2 r (mem_pick hr) s hs⟩⟩
  rcases List.mem_append.1 hr with hr | hr
  · exact h.res r (List.mem_append_left _ (mem_pick hr))
  · exact h.res r (List.mem_append_right _ hr)
theorem res1M {fn : Func} {t : Nat} {v : Value} (hf : fn.results = #[.tmp t]) (hE : lk E t = some v) : ∀ a w, Sat N B w0 E rs a w → ∀ w', (results fn a.tmps).run P w' = .ok v w' := by
  intro a w hs w'
  rw [results_tmp hf, hs.env t v hE]
end
end Go.Proofs.YtacndicgpkeobaaGreatDoor
