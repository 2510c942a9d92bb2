/-
  The calculus: regions that draw their order, make memory at any time between other operations, and write to it in the midst of what they read. Conditions: none; no program in sight.
-/
import Derived.Test.YtdmnejfpbbmcaaaShFloat
namespace Go.Proofs.Ytdmnejfpbbmcaaa
open Go.RowKit

section
variable {P : Program} {ops : Array Oper} {md : Region.Mode} {N : Fr} {B : Nat} {w0 : World} {B0 : Nat}
def X1 (P : Program) (ops : Array Oper) (N : Fr) (B : Nat) (w0 : World) (fin : Env → List Res → Prop) (ro : List Res) : List (Nat × Bool) → Env → List Res → Prop
  | [], E, rn => fin E rn
  | (k, false) :: t, E, rn => ∃ o d v, ops[k]? = some o ∧ o.dst = some d ∧ Nat.blt d N.n = true ∧ ((Wanted ops N E o true ∧ Qu P N B w0 E ro o v) ∨ (Wanted ops N E o false ∧ v = undef)) ∧ X1 P ops N B w0 fin ro t ((d, v) :: E) rn
  | (k, true) :: t, E, rn => ∃ o d post, ops[k]? = some o ∧ o.guard = none ∧ o.dst = some d ∧ Nat.blt d N.n = true ∧ Lo P N B w0 E (rn ++ ro) o post ∧ ∀ v rs', post v rs' → X1 P ops N B w0 fin ro t ((d, v) :: E) (rs' ++ rn)
def flowF (md : Region.Mode) (ops : Array Oper) (ord2 : List Stp) : Nat → List (Nat × Bool) → List Al → Array Bool → Bool
  | 0, [], [], listed => flowC md ops ord2 listed
  | f + 1, (k, false) :: t, rem, listed => (Region.ready md ops listed).contains k && Region.free md ops listed k && flowF md ops ord2 f t rem (listed.setIfInBounds k true)
  | f + 1, (k, true) :: t, rem, listed => decide (Region.ready md ops listed ≠ []) && (Region.ready md ops listed).all (fun i => decide (i = k) || rem.any (fun x => decide (x.k = i))) &&
      (!((Region.ready md ops listed).contains k) || flowF md ops ord2 f t rem (listed.setIfInBounds k true)) && rem.all (fun x => !((Region.ready md ops listed).contains x.k) || flowF md ops ord2 f ((k, true) :: t) (rem.filter fun y => decide (y.k ≠ x.k)) (listed.setIfInBounds x.k true))
  | f + 1, [], rem, listed => decide (Region.ready md ops listed ≠ []) && (Region.ready md ops listed).all (fun i => rem.any (fun x => decide (x.k = i))) &&
      rem.all (fun x => !((Region.ready md ops listed).contains x.k) || flowF md ops ord2 f [] (rem.filter fun y => decide (y.k ≠ x.k)) (listed.setIfInBounds x.k true))
  | _, _, _, _ => false
theorem filter_perm {rem : List Al} {x : Al} (hx : x ∈ rem) (hu : ∀ y ∈ rem, y.k = x.k → y = x) (hn : rem.Nodup) : (x :: rem.filter fun y => decide (y.k ≠ x.k)).Perm rem := by
  induction rem with
  | nil => cases hx
  | cons y t iht =>
    by_cases hyx : y = x
    · subst hyx
      have : t.filter (fun z => decide (z.k ≠ y.k)) = t := List.filter_eq_self.2 fun z hz => by
        simp only [decide_eq_true_eq]
        intro he
        have := hu z (List.mem_cons_of_mem _ hz) he
        subst this
        exact (List.nodup_cons.1 hn).1 hz
      rw [List.filter_cons, if_neg (by simp), this]
    · have hmt : x ∈ t := by
        rcases List.mem_cons.1 hx with h | h
        · exact absurd h.symm hyx
        · exact h
      rw [List.filter_cons, if_pos (by simpa using fun he => hyx (hu y List.mem_cons_self he))]
      exact (List.Perm.swap _ _ _).trans ((iht hmt (fun z hz => hu z (List.mem_cons_of_mem _ hz)) (List.nodup_cons.1 hn).2).cons y)
theorem SatC.le {E E' : Env} {rn ro : List Res} {a : Act} {w : World} (h : SatC N B w0 B0 E rn ro a w) (he : leE E E') : SatC N B w0 B0 E' rn ro a w := ⟨h.s.le he, h.b, h.o, h.n⟩
theorem flow_soundF {A : List Al} {ord2 : List Stp} {fin : Env → List Res → Prop} {ro : List Res} (hsel : Region.noSelect ops = true) (hBB : B ≤ B0) (hAl : ∀ x ∈ A, IsAl P ops N B w0 x) (hkd : ∀ x ∈ A, ∀ y ∈ A, x.k = y.k → x = y) (hAn : A.Nodup) :
    ∀ (f : Nat) (ord : List (Nat × Bool)) (rem : List Al) (dn : List (Al × Nat)) (listed : Array Bool) (a : Act) (w : World) (E : Env) (rn : List Res), flowF md ops ord2 f ord rem listed = true → listed.size = ops.size →
    (dn.map Prod.fst ++ rem).Perm A → dstOk ops A ord = true → (∀ x ∈ A, lk E x.d = none) → SatC N B w0 B0 (entsA dn ++ E) (boxA dn ++ rn) ro a w →
    X1 P ops N B w0 (fun E' rn' => ∀ dn', (dn'.map Prod.fst).Perm A → X P ops N B w0 fin ro ord2 (entsA dn' ++ E') (boxA dn' ++ rn')) ro ord E rn →
    wpAnyB P B0 md ops (fun a' w' => ∃ E' rs', fin E' rs' ∧ Sat N B w0 E' rs' a' w') (f + stN ord2) listed a w := by
  intro f
  induction f with
  | zero =>
    intro ord rem dn listed a w E rn hB hsz hp hd hf hs hX
    match ord, rem, hB with
    | [], [], hB =>
      rw [List.append_nil] at hp
      rw [Nat.zero_add]
      exact flow_soundC hsel hBB ord2 listed a w _ _ hB hsz hs (hX dn hp)
  | succ f ih =>
    have alloc : ∀ (ord : List (Nat × Bool)) (rem : List Al) (dn : List (Al × Nat)) (listed : Array Bool) (a : Act) (w : World) (E : Env) (rn : List Res) (x : Al), x ∈ rem →
        flowF md ops ord2 f ord (rem.filter fun y => decide (y.k ≠ x.k)) (listed.setIfInBounds x.k true) = true → listed.size = ops.size → (dn.map Prod.fst ++ rem).Perm A → dstOk ops A ord = true → (∀ x ∈ A, lk E x.d = none) → SatC N B w0 B0 (entsA dn ++ E) (boxA dn ++ rn) ro a w →
        X1 P ops N B w0 (fun E' rn' => ∀ dn', (dn'.map Prod.fst).Perm A → X P ops N B w0 fin ro ord2 (entsA dn' ++ E') (boxA dn' ++ rn')) ro ord E rn →
        bOp P B0 ops x.k (wpAnyB P B0 md ops (fun a' w' => ∃ E' rs', fin E' rs' ∧ Sat N B w0 E' rs' a' w') (f + stN ord2) (listed.setIfInBounds x.k true)) a w := by
      intro ord rem dn listed a w E rn x hx hB hsz hp hd hf hs hX
      have hxA : x ∈ A := hp.mem_iff.1 (List.mem_append_right _ hx)
      obtain ⟨ty, pos, aft, ho, hN, hl⟩ := hAl x hxA
      unfold bOp
      have hw : Region.wanted (⟨some x.d, .alloc x.t, ty, pos, aft, none⟩ : Oper) (yielded ops a.tmps) = true := by simp [Region.wanted]
      simp only [ho, hw, if_true]
      refine lo_bwp rfl hN (hl _ _) hs fun v rs' a' w' hpo hs' => ?_
      obtain ⟨g, rfl, rfl⟩ := hpo
      have hnd : rem.Nodup := (List.nodup_append.1 (hp.nodup_iff.2 hAn)).2.1
      have h1 := filter_perm hx (fun y hy he => hkd y (hp.mem_iff.1 (List.mem_append_right _ hy)) x hxA he) hnd
      exact ih ord _ ((x, g) :: dn) _ a' w' E rn hB (by simpa using hsz) ((List.perm_middle.symm.trans (h1.append_left _)).trans hp) hd hf hs' hX
    intro ord rem dn listed a w E rn hB hsz hp hd hf hs hX
    have hdA : ∀ p ∈ dn, p.1 ∈ A := fun p hpm => hp.mem_iff.1 (List.mem_append_left _ (List.mem_map_of_mem hpm))
    have hsE : Sat N B w0 E (rn ++ ro) a w := (hs.s.le (le_ents fun p hp' => hf p.1 (hdA p hp'))).world (hs.s.ws.sub (by rw [List.append_assoc]; exact List.sublist_append_right _ _))
    rw [show f + 1 + stN ord2 = (f + stN ord2) + 1 by omega]
    match ord, hB with
    | (k, false) :: t, hB =>
      simp only [flowF, Bool.and_eq_true] at hB
      obtain ⟨⟨hr, hfr⟩, hB'⟩ := hB
      obtain ⟨o, d, v, ho, hdst, hN, hq, hX'⟩ := hX
      have hr' : k ∈ Region.ready md ops listed := by simpa using hr
      have hy : YieldsB P B0 ops o v a w := by
        rcases hq with ⟨hw, hq⟩ | ⟨hw, hv⟩
        · refine .inl ⟨hw.is hsE, fun w' hb => hq a w' ?_⟩
          have h1 := hsE.ws.sub (List.sublist_append_right rn ro)
          refine hsE.world ⟨h1.bel.trans (hb.mono hBB), Nat.le_trans h1.bas hb.size, fun r hrm => ?_, h1.dis⟩
          exact r.st (h1.res r hrm) hb.size (fun k hk => hb.block k (hs.o r hrm k hk))
        · exact .inr ⟨hw.is hsE, hv⟩
      have hne := noD_ne (A := A) (d := d) (by
        have := List.all_eq_true.1 hd (k, false) List.mem_cons_self
        simpa [ho, hdst] using this)
      refine wpAnyB_first ho (Region.noSelect_spec hsel) _ listed a w hsz (Region.free_spec ho hfr) hr' hy
        (ih t rem dn _ _ w ((d, v) :: E) rn hB' (by simpa using hsz) hp (List.all_eq_true.2 fun p hpm => List.all_eq_true.1 hd p (List.mem_cons_of_mem _ hpm)) (fun x hx => by rw [lk_cons, if_neg (hne x hx)]; exact hf x hx) ?_ hX')
      rw [hdst]
      exact (hs.put hN v).le (le_move fun p hpm => hne p.1 (hdA p hpm))
    | (k, true) :: t, hB =>
      simp only [flowF, Bool.and_eq_true, decide_eq_true_eq] at hB
      obtain ⟨⟨⟨hr0, hall⟩, hk⟩, hrem⟩ := hB
      refine ⟨hr0, fun i hi => ?_⟩
      have hia := List.all_eq_true.1 hall i hi
      simp only [Bool.or_eq_true, decide_eq_true_eq, List.any_eq_true] at hia
      rcases hia with rfl | ⟨x, hx, rfl⟩
      · have hkf : flowF md ops ord2 f t rem (listed.setIfInBounds i true) = true := by
          rcases Bool.or_eq_true_iff.1 hk with h | h
          · simp [hi] at h
          · exact h
        obtain ⟨o, d, post, ho, hg, hdst, hN, hq, hX'⟩ := hX
        have hne := noD_ne (A := A) (d := d) (by
          have := List.all_eq_true.1 hd (i, true) List.mem_cons_self
          simpa [ho, hdst] using this)
        have hw : Region.wanted o (yielded ops a.tmps) = true := by simp [Region.wanted, hg]
        unfold bOp
        simp only [ho, hw, if_true]
        have fin' : ∀ v w' rs', Below w.heap.size w w' → post v rs' → (∀ r ∈ rs', r.ok B w' ∧ ∀ k, r.blk = some k → w.heap.size ≤ k) → Disj rs' →
            wpAnyB P B0 md ops (fun a' w' => ∃ E' rs', fin E' rs' ∧ Sat N B w0 E' rs' a' w') (f + stN ord2) (listed.setIfInBounds i true) (a.put o.dst v) w' := fun v w' rs' hb hpo hrs hdj => by
          refine ih t rem dn _ _ w' ((d, v) :: E) (rs' ++ rn) hkf (by simpa using hsz) hp (List.all_eq_true.2 fun p hpm => List.all_eq_true.1 hd p (List.mem_cons_of_mem _ hpm)) (fun x hx => by rw [lk_cons, if_neg (hne x hx)]; exact hf x hx) ?_ (hX' v rs' hpo)
          rw [hdst]
          have h2 := hs.s.put hN v (hs.s.ws.more hb hrs hdj)
          refine ⟨(h2.le (le_move fun p hpm => hne p.1 (hdA p hpm))).world ?_, Nat.le_trans hs.b hb.size, hs.o, fun r hr k hk => ?_⟩
          · refine (hs.s.ws.more hb hrs hdj).perm ?_
            rw [← List.append_assoc, ← List.append_assoc, ← List.append_assoc]
            exact (List.perm_append_comm.append_right rn).append_right ro
          · rcases List.mem_append.1 hr with h | h
            · exact hs.n r (List.mem_append_left _ h) k hk
            · rcases List.mem_append.1 h with h | h
              · exact Nat.le_trans hs.b ((hrs r h).2 k hk)
              · exact hs.n r (List.mem_append_right _ h) k hk
        rcases hq a w hsE with ⟨v, w', rs', hr, hb, hpo, hrs, hdj⟩ | ⟨fc, args, hr, hc⟩
        · exact .inl ⟨v, w', hr, hb.mono hs.b, fin' v w' rs' hb hpo hrs hdj⟩
        · refine .inr (.inr ⟨fc, args, hr, hc.mono ?_⟩)
          rintro e w'' ⟨v, rs', rfl, hb, hpo, hrs, hdj⟩
          exact ⟨v, rfl, hb.mono hs.b, fin' v w'' rs' hb hpo hrs hdj⟩
      · have h1 := List.all_eq_true.1 hrem x hx
        have h2 : flowF md ops ord2 f ((k, true) :: t) (rem.filter fun y => decide (y.k ≠ x.k)) (listed.setIfInBounds x.k true) = true := by
          rcases Bool.or_eq_true_iff.1 h1 with h | h
          · simp [hi] at h
          · exact h
        exact alloc _ rem dn listed a w E rn x hx h2 hsz hp hd hf hs hX
    | [], hB =>
      have hB2 : decide (Region.ready md ops listed ≠ []) = true ∧ (Region.ready md ops listed).all (fun i => rem.any (fun x => decide (x.k = i))) = true ∧
          rem.all (fun x => !((Region.ready md ops listed).contains x.k) || flowF md ops ord2 f [] (rem.filter fun y => decide (y.k ≠ x.k)) (listed.setIfInBounds x.k true)) = true := by
        cases rem with
        | nil => simpa [flowF, and_assoc] using hB
        | cons y t => simpa [flowF, and_assoc] using hB
      obtain ⟨hr0, hall, hrem⟩ := hB2
      refine ⟨by simpa using hr0, fun i hi => ?_⟩
      have hia := List.all_eq_true.1 hall i hi
      simp only [decide_eq_true_eq, List.any_eq_true] at hia
      obtain ⟨x, hx, rfl⟩ := hia
      have h1 := List.all_eq_true.1 hrem x hx
      have h2 : flowF md ops ord2 f [] (rem.filter fun y => decide (y.k ≠ x.k)) (listed.setIfInBounds x.k true) = true := by
        rcases Bool.or_eq_true_iff.1 h1 with h | h
        · simp [hi] at h
        · exact h
      exact alloc _ rem dn listed a w E rn x hx h2 hsz hp hd hf hs hX
theorem X1_mono {fin fin' : Env → List Res → Prop} {ro : List Res} (h : ∀ E rs, fin E rs → fin' E rs) : ∀ (ord : List (Nat × Bool)) (E : Env) (rn : List Res), X1 P ops N B w0 fin ro ord E rn → X1 P ops N B w0 fin' ro ord E rn
  | [], _, _, hW => h _ _ hW
  | (_, false) :: t, _, _, ⟨o, d, v, h1, h2, h3, h4, h5⟩ => ⟨o, d, v, h1, h2, h3, h4, X1_mono h t _ _ h5⟩
  | (_, true) :: t, _, _, ⟨o, d, post, h1, h2, h3, h4, h5, h6⟩ => ⟨o, d, post, h1, h2, h3, h4, h5, fun v rs' hp => X1_mono h t _ _ (h6 v rs' hp)⟩
theorem C_wideF1 (T : Tab P) {id k d t sz bs : Nat} {ag : Bool} {zs : List Value} {ty : TypeId} {pos : String} {aft : Array Edge} {l : List Oper} {Q : Exit → Act → World → Prop} {E : Env} {rs : List Res} (ord : List (Nat × Bool)) (ord2 : List Stp) (hm : P.follows .mixedOrders = true) (hsel : Region.noSelect l.toArray = true)
    (ho : l.toArray[k]? = some ⟨some d, .alloc t, ty, pos, aft, none⟩) (hz : lkT T.ty t = some (ag, sz, bs, zs)) (hN : Nat.blt d N.n = true) (hn : ord.length + 1 + stN ord2 = l.toArray.size)
    (hB : (dstOk l.toArray [⟨k, d, t, zs⟩] ord && flowF .any l.toArray ord2 (ord.length + 1) ord [⟨k, d, t, zs⟩] (Array.replicate l.toArray.size false)) = true) (hf : freshE [⟨k, d, t, zs⟩] E = true)
    (h : X1 P l.toArray N B w0 (fun E' rn' => ∀ g, X P l.toArray N B w0 (fun E' rs' => L P l.toArray Q N B w0 E' rs' []) rs ord2 ((d, .pointer (some ⟨g, 0, none⟩)) :: E') (box g t zs :: rn')) rs ord E []) : C P Q N B w0 E rs (.region id l.toArray true) := by
  intro a w hs
  simp only [Bool.and_eq_true] at hB
  have hs' : Sat N B w0 E rs a w.drew := hs.world (hs.ws.later ⟨rfl, rfl, rfl, Nat.le_refl _, fun _ _ => rfl⟩)
  have hX : X1 P l.toArray N B w0 (fun E' rn' => ∀ dn', (dn'.map Prod.fst).Perm [(⟨k, d, t, zs⟩ : Al)] → X P l.toArray N B w0 (fun E' rs' => L P l.toArray Q N B w0 E' rs' []) rs ord2 (entsA dn' ++ E') (boxA dn' ++ rn')) rs ord E [] := by
    refine X1_mono ?_ ord E [] h
    intro E' rs' h' dn hp
    match dn, hp with
    | [(x, g)], hp =>
      have : x = ⟨k, d, t, zs⟩ := by simpa using hp.mem_iff (a := x)
      subst this
      exact h' g
    | [], hp => exact absurd hp.length_eq (by simp)
    | _ :: _ :: _, hp => exact absurd hp.length_eq (by simp)
  have H := flow_soundF (md := .any) (B0 := w.drew.heap.size) (A := [⟨k, d, t, zs⟩]) hsel hs'.ws.bas (fun x hx => by simp only [List.mem_singleton] at hx; subst hx; exact isAl T ho hz hN) (fun x hx y hy _ => by simp only [List.mem_singleton] at hx hy; rw [hx, hy]) (by simp)
    (ord.length + 1) ord [⟨k, d, t, zs⟩] [] _ a w.drew E [] hB.2 (by simp) (List.Perm.refl _) hB.1 (fun x hx => by
      have := List.all_eq_true.1 hf x hx
      simpa using this) ⟨hs', Nat.le_refl _, fun r hr k hk => r.lt (hs'.ws.res r hr) k hk, fun r hr => (by cases hr)⟩ hX
  refine wpIn_region_any hm ?_
  have := wpAny_of_anyB (ro := N.ro) (Q := Q) (fun listed a' w' hr hT => by
    obtain ⟨E', rs', h2, h3⟩ := hT
    exact ⟨hr, h2 a' w' h3⟩) _ _ _ _ H
  rw [hn] at this
  exact this

/-! ### The steps of the first part -/
variable {fin : Env → List Res → Prop} {E : Env} {rn ro : List Res} {t : List (Nat × Bool)} {k d : Nat} {o : Oper}
theorem X1_nil (h : fin E rn) : X1 P ops N B w0 fin ro [] E rn := h
theorem X1_q {v : Value} (ho : ops[k]? = some o) (hd : o.dst = some d) (hg : o.guard = none) (hN : Nat.blt d N.n = true) (hq : Qu P N B w0 E ro o v) (h : X1 P ops N B w0 fin ro t ((d, v) :: E) rn) : X1 P ops N B w0 fin ro ((k, false) :: t) E rn :=
  ⟨o, d, v, ho, hd, hN, .inl ⟨.inl ⟨hg, rfl⟩, hq⟩, h⟩
theorem X1_lo {post : Value → List Res → Prop} (ho : ops[k]? = some o) (hg : o.guard = none) (hd : o.dst = some d) (hN : Nat.blt d N.n = true) (hq : Lo P N B w0 E (rn ++ ro) o post)
    (h : ∀ v rs', post v rs' → X1 P ops N B w0 fin ro t ((d, v) :: E) (rs' ++ rn)) : X1 P ops N B w0 fin ro ((k, true) :: t) E rn := ⟨o, d, post, ho, hg, hd, hN, hq, h⟩
end
end Go.Proofs.Ytdmnejfpbbmcaaa
