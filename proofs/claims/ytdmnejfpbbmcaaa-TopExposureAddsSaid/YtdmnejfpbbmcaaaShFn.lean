/-
  The calculus: append, make, calls; a function's contract out of its body. Conditions: none; no program in sight.
-/
import Derived.Test.YtdmnejfpbbmcaaaShCall
import Derived.Maps.AppendAt
namespace Go.Proofs.Ytdmnejfpbbmcaaa
open Go.RowKit

section
variable {P : Program} (T : Tab P) {Q : Exit → Act → World → Prop} {ops : Array Oper} {N : Fr} {B : Nat} {w0 : World} {E : Env} {rs : List Res} {rest : List Oper} {dst : Option Tmp} {ty : TypeId} {pos : String} {aft : Array Edge} {gd : Option (Nat × Bool)}

theorem WS.turnNew {w w' : World} {r r' : Res} {rs : List Res} (h : WS B w0 (r :: rs) w) (hown : r.own = true) (hbl : ∀ k, r'.blk = some k → r.blk = some k ∨ w.heap.size ≤ k) (hok : r'.ok B w')
    (hg : w.grownBy w' r.blk) : WS B w0 (r' :: rs) w' := by
  have hr := h.res r List.mem_cons_self
  have hd := List.pairwise_cons.1 h.dis
  refine ⟨h.bel.grown hg h.bas (fun k hk => r.ge hown hr k hk), Nat.le_trans h.bas hg.size, fun s hs => ?_, ?_⟩
  · rcases List.mem_cons.1 hs with rfl | hs
    · exact hok
    · have hs1 := h.res s (List.mem_cons_of_mem _ hs)
      exact s.st hs1 hg.size (fun k hsk => hg.block k (s.lt hs1 k hsk) (fun e => hd.1 s hs (.inl hown) k e.symm hsk))
  · refine List.pairwise_cons.2 ⟨fun s hs ho k h1 h2 => ?_, hd.2⟩
    rcases hbl k h1 with h3 | h3
    · exact hd.1 s hs (.inl hown) k h3 h2
    · have := s.lt (h.res s (List.mem_cons_of_mem _ hs)) k h2
      omega

theorem run_append_of_nil (w : World) (base : Nat) (t ty e : TypeId) (i : TypeInfo) (size : Nat) (ht : P.underlying t = some (.slice e)) (hi : P.info? e = some i)
    (v : Value) (n : Nat) (xs : List Value) (hown : w.ownsRow base e size v n xs) (c : Nat) : (Builtin.append_ #[t, t] ty #[v, .slice none 0 c]).run P w = .ok v w := by
  rcases hown.2 with ⟨rfl, rfl⟩ | ⟨g, cap, cur, rfl, _, _, hnc, _⟩
  · simp [Builtin.append_, run_underlying ht, Go.sizeOf, typeInfo, hi, Builtin.lenOf, Builtin.firstCells]
  · simp [Builtin.append_, run_underlying ht, Go.sizeOf, typeInfo, hi, Builtin.lenOf, Builtin.firstCells, hnc, storeCells]

theorem L_append {d : Nat} {t e m : TypeId} {ag : Bool} {sz bs : Nat} {zs : List Value} {x y : Operand} {v u : Value} {l l2 : List (List Value)} (he : lkT T.el t = some (e, m, false)) (ht : lkT T.ty e = some (ag, sz, bs, zs)) (hzl : zs.length = sz) (hs0 : 0 < sz)
    (hx : ev E x = some v) (hy : ev E y = some u) (hg : GvR rs u sz l2) (h1 : ∀ c ∈ l2.flatten, c.oneCell' = true) (hlen : l.length + l2.length ≤ maxLen) (hbyte : (l.length + l2.length) * bs ≤ 140737488355328)
    (hN : Nat.blt d N.n = true) (h : ∀ v', L P ops Q N B w0 ((d, v') :: E) (sl v' e sz (l ++ l2) :: rs) rest) :
    L P ops Q N B w0 E (sl v e sz l :: rs) (⟨some d, .call { callee := .builtin .append, args := #[x, y], argTypes := #[t, t] }, ty, pos, aft, none⟩ :: rest) := by
  intro a w hs
  refine wpListIn_plain rfl fun K hK => ?_
  obtain ⟨dd, i, z, _, hi, _, his, hib, hz, hzc⟩ := T.ty_ok _ (lkT_mem ht)
  simp only at hi his hib hzc
  have hu : P.underlying t = some (.slice e) := by
    rcases T.el_ok _ (lkT_mem he) with ⟨_, h⟩ | ⟨h, _⟩
    · exact h
    · cases h
  obtain ⟨hown, hel⟩ := sl_ok.1 (hs.has (r := sl v e sz l) List.mem_cons_self)
  have hrd : Rdd w u sz l2 := by
    obtain ⟨r, hr, hg⟩ := hg
    exact hg _ _ (hs.has (List.mem_cons_of_mem _ hr))
  have hzs : z.cells.size = sz := by rw [← hzl, ← hzc]; simp
  have hfin : ∀ v' w', (Builtin.append_ #[t, t] ty #[v, u]).run P w = .ok v' w' → w'.ownsRow B e sz v' (l.length + l2.length) (l.flatten ++ l2.flatten) → w.grownBy w' v.ownBlock → (v'.ownBlock = v.ownBlock ∨ v'.ownBlock = some w.heap.size) →
      Oper.wpIn (fc N.ro) 0 P ⟨some d, .call { callee := .builtin .append, args := #[x, y], argTypes := #[t, t] }, ty, pos, aft, none⟩ a w K Q := by
    intro v' w' hrun hown' hgr hbk
    have hrun' : (execOp a.eval ⟨some d, .call { callee := .builtin .append, args := #[x, y], argTypes := #[t, t] }, ty, pos, aft, none⟩).run P w = .ok (.value v') w' := by
      simp [execOp, resolve, invoke, builtin, hs.eval hx, hs.eval hy, hrun]
    refine wpIn_value hrun' (hK _ _ (h v' _ _ (hs.put hN v' ?_)))
    refine hs.ws.turnNew (sl_own _ _ _ _) (fun k hk => ?_) (sl_ok.2 ⟨?_, fun c hc => ?_⟩) (by rw [sl_blk]; exact hgr)
    · rw [sl_blk] at hk ⊢
      rcases hbk with hb | hb
      · exact .inl (by rw [← hk]; exact hb.symm)
      · exact .inr (by have : some k = some w.heap.size := hk.symm.trans hb; injection this with this; omega)
    · rw [List.length_append, List.flatten_append]; exact hown'
    · rcases List.mem_append.1 hc with hc | hc
      · exact hel c hc
      · exact hrd.each c hc
  obtain ⟨A, cap, hv, _, _⟩ := hrd.form
  cases A with
  | none =>
    have h0 : l2 = [] := by
      rcases Nat.eq_zero_or_pos l2.length with h0 | h0
      · exact List.eq_nil_of_length_eq_zero h0
      · obtain ⟨ad, hb, _⟩ := hrd.some h0
        rw [hv] at hb
        cases hb
    subst h0
    refine hfin v w (by rw [hv]; exact run_append_of_nil w B t ty e i sz hu hi v _ _ hown cap) (by simpa using hown) (World.grownBy.refl w _) (.inl rfl)
  | some ad =>
    have hcells : ∀ j c, l2.flatten[j]? = some c → w.cell? (ad.add j) = some c := by
      intro j c hj
      have h0 : 0 < l2.length := by
        rcases Nat.eq_zero_or_pos l2.length with h0 | h0
        · have := List.eq_nil_of_length_eq_zero h0
          subst this
          simp at hj
        · exact h0
      obtain ⟨ad', hb, ⟨n', c', hv'⟩, _, hc⟩ := hrd.some h0
      rw [hv] at hv'
      injection hv' with hv' _ _
      injection hv' with hv'
      subst hv'
      exact hc j c hj
    obtain ⟨v', w', hrun, hown', hgr, _, hbk⟩ := run_append_own_at (P := P) w B t ty e i z sz bs hu hi hz his hib hzs hs0 v l.length l.flatten hown ad l2.length cap l2.flatten (flat_len l2 sz hrd.each) hcells h1 hlen hbyte hs.ws.bas
    exact hfin v' w' (by rw [hv]; exact hrun) hown' hgr hbk

theorem lo_make {t e m : TypeId} {ag : Bool} {sz bs n : Nat} {zs : List Value} {k1 k2 : IntKind} {x y : Operand} (he : lkT T.el t = some (e, m, false)) (ht : lkT T.ty e = some (ag, sz, bs, zs)) (hzl : zs.length = sz)
    (hx : ev E x = some (.int k1 (n : Int))) (hy : ev E y = some (.int k2 (n : Int))) (hb : bs * n ≤ 281474976710656) (hn : n ≤ maxLen) :
    Lo P N B w0 E rs ⟨dst, .makeSlice t x y, ty, pos, aft, none⟩ (isSl e sz (List.replicate n zs)) := by
  refine lo_sl (fun a w hs => ?_) (fun x hx => by rw [List.eq_of_mem_replicate hx]; exact hzl)
  obtain ⟨dd, i, z, _, hi, _, his, hib, hz, hzc⟩ := T.ty_ok _ (lkT_mem ht)
  simp only at hi his hib hzc
  have hu : P.underlying t = some (.slice e) := by
    rcases T.el_ok _ (lkT_mem he) with ⟨_, h⟩ | ⟨h, _⟩
    · exact h
    · cases h
  obtain ⟨w', hrun, hown, hgr⟩ := run_make_full (P := P) w w.heap.size t e i z sz hu hi hz his k1 k2 n (by rw [hib]; exact hb) hn (Nat.le_refl _)
  refine ⟨.slice (some ⟨w.heap.size, 0, none⟩) n n, w', by simp [execOp, hs.eval hx, hs.eval hy, hrun], (Below.refl _ _).grown hgr (Nat.le_refl _) (fun k hk => by cases hk), ?_⟩
  have hz' : (madeCells z.cells (n * sz)).toList = (List.replicate n zs).flatten := by
    unfold madeCells
    rw [Array.toList_map, Array.toList_range]
    have hzs : z.cells.size = sz := by rw [← hzl, ← hzc]; simp
    rw [hzs]
    exact rep_flat n z.cells zs sz hzc hzl
  rw [List.length_replicate, ← hz']
  exact hown

/-! ### Calls -/
def Ct (P : Program) (f : FuncId) (args : List Value) (ps : List (Value × Nat × List (List Value))) (post : Value → List Res → Prop) : Prop :=
  ∀ w, (∀ p ∈ ps, Rdd w p.1 p.2.1 p.2.2) → Calls P f args.toArray w fun e w' => ∃ v rs', e = .returned v ∧ Below w.heap.size w w' ∧ post v rs' ∧ (∀ r ∈ rs', r.ok w.heap.size w') ∧ (∀ r ∈ rs', r.own = true) ∧ Disj rs'
def isV (v : Value) (u : Value) (rs' : List Res) : Prop := u = v ∧ rs' = []
def Gives (rs : List Res) (p : Value × Nat × List (List Value)) : Prop := GvR rs p.1 p.2.1 p.2.2

def Sinks (r : Res) : Prop := ∀ B B' w, B' ≤ B → r.ok B w → r.ok B' w
theorem sl_sinks (v : Value) (e size : Nat) (l : List (List Value)) : Sinks (sl v e size l) := by
  intro B B' w hB h
  have h := sl_ok.1 h
  refine sl_ok.2 ⟨⟨h.1.1, or_map h.1.2 id ?_⟩, h.2⟩
  rintro ⟨g, cap, cur, h1, h2, h3⟩
  exact ⟨g, cap, cur, h1, Nat.le_trans hB h2, h3⟩
theorem lo_call {f : FuncId} {xs : Array Operand} {ts : Array TypeId} {args : List Value} {ps : List (Value × Nat × List (List Value))} {post : Value → List Res → Prop} (hen : lkT T.en f = some ()) (hx : evs E xs.toList = some args) (hc : Ct P f args ps post) (hps : ∀ p ∈ ps, Gives rs p)
    (hsk : ∀ v rs', post v rs' → ∀ r ∈ rs', Sinks r) : Lo P N B w0 E rs ⟨dst, .call { callee := .value (.func f), args := xs, argTypes := ts }, ty, pos, aft, gd⟩ post := by
  intro a w hs
  have hent : Enters P f := T.en_ok _ (lkT_mem hen)
  have hmap := hs.evals hx
  have hmap' : xs.map a.eval = args.toArray := Array.ext' (by rw [Array.toList_map, hmap])
  refine .inr ⟨f, args.toArray, ?_, ?_⟩
  · simp [execOp, resolve, invoke, Deferred.ofValue, Act.eval, hmap', hent args.toArray w]
  · refine (hc w (fun p hp => ?_)).mono ?_
    · exact hs.reads (hps p hp)
    · rintro e w' ⟨v, rs', he, hb, hpost, hok, hown, hd⟩
      exact ⟨v, rs', he, hb, hpost, fun r hr => ⟨hsk v rs' hpost r hr _ _ _ hs.ws.bas (hok r hr), fun k hk => r.ge (hown r hr) (hok r hr) k hk⟩, hd⟩

theorem L_call {f : FuncId} {d : Nat} {xs : Array Operand} {ts : Array TypeId} {args : List Value} {ps : List (Value × Nat × List (List Value))} {v : Value} (hen : lkT T.en f = some ()) (hx : evs E xs.toList = some args) (hc : Ct P f args ps (isV v)) (hps : ∀ p ∈ ps, Gives rs p)
    (hN : Nat.blt d N.n = true) (h : L P ops Q N B w0 ((d, v) :: E) rs rest) : L P ops Q N B w0 E rs (⟨some d, .call { callee := .value (.func f), args := xs, argTypes := ts }, ty, pos, aft, none⟩ :: rest) :=
  L_lo rfl rfl hN (lo_call T hen hx hc hps (fun _ _ hp r hr => by rw [hp.2] at hr; cases hr)) fun u rs' hp => by
    obtain ⟨rfl, rfl⟩ := hp
    exact h

theorem Ct.mono {f : FuncId} {args : List Value} {ps : List (Value × Nat × List (List Value))} {post post' : Value → List Res → Prop} (h : Ct P f args ps post) (hp : ∀ v rs', post v rs' → post' v rs') : Ct P f args ps post' :=
  fun w hw => (h w hw).mono fun _ _ ⟨v, rs', he, hb, hpo, h1, h2, h3⟩ => ⟨v, rs', he, hb, hp v rs' hpo, h1, h2, h3⟩

/-! ### A function's contract out of its body -/
def rdOf (ps : List (Value × Nat × List (List Value))) : List Res := ps.map fun p => rd p.1 p.2.1 p.2.2
def PostOf (post : Value → List Res → Prop) (w : World) (e : Ending) (w' : World) : Prop :=
  ∃ v rs', e = .returned v ∧ Below w.heap.size w w' ∧ post v rs' ∧ (∀ r ∈ rs', r.ok w.heap.size w') ∧ (∀ r ∈ rs', r.own = true) ∧ Disj rs'
theorem disj_rd (ps : List (Value × Nat × List (List Value))) : Disj (rdOf ps) := by
  refine List.pairwise_map.2 (List.pairwise_of_forall ?_)
  intro a b ho
  rw [rd_own, rd_own] at ho
  rcases ho with h | h <;> cases h
theorem Ct.of {N : Nat} {f : FuncId} {fn : Func} {c : Code} {args : List Value} {ps : List (Value × Nat × List (List Value))} {post : Value → List Res → Prop} (hf : P.funcs[f]? = some fn) (hb : fn.body = some c) (hN : fn.ntmps = N) (hle : Nat.ble args.length N = true)
    (h : ∀ w, C P (bodyPost P fn (PostOf post w)) ⟨N, [], none⟩ w.heap.size w (argE 0 args) (rdOf ps) c) : Ct P f args ps post := by
  intro w hw
  refine calls_of_wp hf hb ((wpIn_wide (n := 0)).1 (h w _ _ ⟨⟨Below.refl _ _, Nat.le_refl _, fun r hr => ?_, disj_rd ps⟩, ?_, rfl, fun i v hv => ?_⟩))
  · obtain ⟨p, hp, rfl⟩ := List.mem_map.1 hr
    exact rd_ok.2 (hw p hp)
  · have := Nat.ble_eq.mp hle
    simp [hN]
    omega
  · obtain ⟨_, h1⟩ := lk_argE args 0 i v hv
    simp only [Nat.sub_zero] at h1
    have hl := (List.getElem?_eq_some_iff.1 h1).1
    have h2 := List.getElem?_eq_getElem hl
    rw [h1] at h2
    injection h2 with h2
    simp [Array.getElem?_append, hl, h2]

/-! ### The end of a body -/
variable {fn : Func} {post : Value → List Res → Prop} {w1 : World}
theorem ret_of {n : Nat} {v : Value} {rs' : List Res} (hres : ∀ a w, Sat ⟨n, [], none⟩ w1.heap.size w1 E rs a w → (results fn a.tmps).run P w = .ok v w) (hsub : ∀ w, WS w1.heap.size w1 rs w → WS w1.heap.size w1 rs' w) (hown : ∀ r ∈ rs', r.own = true) (hp : post v rs') :
    ∀ a w, Sat ⟨n, [], none⟩ w1.heap.size w1 E rs a w → bodyPost P fn (PostOf post w1) .ret a w := by
  intro a w hs
  have h1 := hsub w hs.ws
  exact ⟨hs.dfr, v, hres a w hs, v, rs', rfl, hs.ws.bel, hp, h1.res, hown, h1.dis⟩
theorem sub_nil (w : World) (h : WS B w0 rs w) : WS B w0 [] w := h.sub (List.nil_sublist _)
theorem res1 {t : Nat} {v : Value} (hf : fn.results = #[.tmp t]) (hE : lk E t = some v) : ∀ a w, Sat N B w0 E rs a w → (results fn a.tmps).run P w = .ok v w := by
  intro a w hs
  rw [results_tmp hf, hs.env t v hE]
theorem res2 {t s : Nat} {u v : Value} (hf : fn.results = #[.tmp t, .tmp s]) (hE : lk E t = some u) (hE2 : lk E s = some v) : ∀ a w, Sat N B w0 E rs a w → (results fn a.tmps).run P w = .ok (.tuple #[u, v]) w := by
  intro a w hs
  rw [results_tmp2 hf, hs.env t u hE, hs.env s v hE2]
theorem resC {p : Nat} {t bt : TypeId} {sz bs g : Nat} {zs xs : List Value} (hf : fn.results = #[.cell p t]) (hE : lk E p = some (.pointer (some ⟨g, 0, none⟩))) (ht : lkT T.ty t = some (true, sz, bs, zs)) (hr : box g bt xs ∈ rs) (hl : xs.length = sz) :
    ∀ a w, Sat N B w0 E rs a w → (results fn a.tmps).run P w = .ok (.agg xs.toArray) w := by
  intro a w hs
  have hp := hs.env p _ hE
  have h1 := run_loadVarA T (w := w) (ad := ⟨g, 0, none⟩) (cs := xs) ht hl (fun j v hj => by
    rw [Addr.add_lit, box_cell (hs.has hr) (0 + j), Nat.zero_add]
    exact hj)
  have hp' : a.tmps[p]?.getD undef = .pointer (some ⟨g, 0, none⟩) := by simpa using hp
  simp [results, hf, hp', asAddr, h1]
theorem resCT {p q : Nat} {t bt : TypeId} {sz bs g : Nat} {zs xs : List Value} {v : Value} (hf : fn.results = #[.cell p t, .tmp q]) (hE : lk E p = some (.pointer (some ⟨g, 0, none⟩))) (hE2 : lk E q = some v) (ht : lkT T.ty t = some (true, sz, bs, zs)) (hr : box g bt xs ∈ rs) (hl : xs.length = sz) :
    ∀ a w, Sat N B w0 E rs a w → (results fn a.tmps).run P w = .ok (.tuple #[.agg xs.toArray, v]) w := by
  intro a w hs
  have hp := hs.env p _ hE
  have hq := hs.env q _ hE2
  have h1 := run_loadVarA T (w := w) (ad := ⟨g, 0, none⟩) (cs := xs) ht hl (fun j v hj => by
    rw [Addr.add_lit, box_cell (hs.has hr) (0 + j), Nat.zero_add]
    exact hj)
  have hp' : a.tmps[p]?.getD undef = .pointer (some ⟨g, 0, none⟩) := by simpa using hp
  have hq' : a.tmps[q]?.getD undef = v := by simpa using hq
  simp [results, hf, hp', hq', asAddr, h1]
end
end Go.Proofs.Ytdmnejfpbbmcaaa
