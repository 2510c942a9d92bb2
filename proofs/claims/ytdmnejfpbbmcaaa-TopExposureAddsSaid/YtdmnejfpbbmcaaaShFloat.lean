/-
  The calculus: regions that draw their order, in which memory is made at any time between the other operations. Conditions: none; no program in sight.
-/
import Derived.Test.YtdmnejfpbbmcaaaShWide
namespace Go.Proofs.Ytdmnejfpbbmcaaa
open Go.RowKit

structure Al where
  k : Nat
  d : Nat
  t : TypeId
  zs : List Value
def entsA (dn : List (Al × Nat)) : Env := dn.map fun p => (p.1.d, .pointer (some ⟨p.2, 0, none⟩))
def boxA (dn : List (Al × Nat)) : List Res := dn.map fun p => box p.2 p.1.t p.1.zs
def noD (A : List Al) (d : Nat) : Bool := A.all fun x => !(Nat.beq x.d d)
def freshE (A : List Al) (E : Env) : Bool := A.all fun x => (lk E x.d).isNone

theorem lk_ents {dn : List (Al × Nat)} {E : Env} {i : Nat} (h : ∀ p ∈ dn, p.1.d ≠ i) : lk (entsA dn ++ E) i = lk E i := by
  induction dn with
  | nil => rfl
  | cons p t ih =>
    show lk ((p.1.d, _) :: (entsA t ++ E)) i = _
    rw [lk_cons, if_neg (fun e => h p List.mem_cons_self e.symm)]
    exact ih fun q hq => h q (List.mem_cons_of_mem _ hq)
theorem le_ents {dn : List (Al × Nat)} {E : Env} (h : ∀ p ∈ dn, lk E p.1.d = none) : leE (entsA dn ++ E) E := fun i v hv => by
  rw [lk_ents (fun p hp e => by have h1 := h p hp; rw [e, hv] at h1; cases h1)]
  exact hv
theorem le_move {dn : List (Al × Nat)} {E : Env} {d : Nat} {v : Value} (h : ∀ p ∈ dn, p.1.d ≠ d) : leE ((d, v) :: (entsA dn ++ E)) (entsA dn ++ ((d, v) :: E)) := by
  induction dn with
  | nil => exact fun i u hu => hu
  | cons p t ih =>
    have ih := ih fun q hq => h q (List.mem_cons_of_mem _ hq)
    intro i u hu
    replace hu : lk ((p.1.d, .pointer (some ⟨p.2, 0, none⟩)) :: (entsA t ++ ((d, v) :: E))) i = some u := hu
    show lk ((d, v) :: (p.1.d, .pointer (some ⟨p.2, 0, none⟩)) :: (entsA t ++ E)) i = some u
    have hne := h p List.mem_cons_self
    rw [lk_cons] at hu
    rw [lk_cons, lk_cons]
    by_cases h1 : i = p.1.d
    · rw [if_pos h1] at hu
      rw [if_neg (fun e => hne (h1 ▸ e)), if_pos h1]
      exact hu
    · rw [if_neg h1] at hu
      have := ih i u hu
      rw [lk_cons] at this
      rw [if_neg h1]
      exact this

section
variable {P : Program} {ops : Array Oper} {md : Region.Mode} {N : Fr} {B : Nat} {w0 : World}
def flowA (md : Region.Mode) (ops : Array Oper) (n : Nat) : Nat → List (Nat × Bool) → List Al → Array Bool → Bool
  | 0, [], [], listed => Region.seqB md ops (ops.size - n) n listed
  | f + 1, (k, false) :: t, rem, listed => Nat.blt k n && (Region.ready md ops listed).contains k && Region.free md ops listed k && flowA md ops n f t rem (listed.setIfInBounds k true)
  | f + 1, (k, true) :: t, rem, listed => Nat.blt k n && decide (Region.ready md ops listed ≠ []) && (Region.ready md ops listed).all (fun i => decide (i = k) || rem.any (fun x => decide (x.k = i))) &&
      (!((Region.ready md ops listed).contains k) || flowA md ops n f t rem (listed.setIfInBounds k true)) && rem.all (fun x => !((Region.ready md ops listed).contains x.k) || (Nat.blt x.k n && flowA md ops n f ((k, true) :: t) (rem.filter fun y => decide (y.k ≠ x.k)) (listed.setIfInBounds x.k true)))
  | f + 1, [], rem, listed => decide (Region.ready md ops listed ≠ []) && (Region.ready md ops listed).all (fun i => rem.any (fun x => decide (x.k = i))) &&
      rem.all (fun x => !((Region.ready md ops listed).contains x.k) || (Nat.blt x.k n && flowA md ops n f [] (rem.filter fun y => decide (y.k ≠ x.k)) (listed.setIfInBounds x.k true)))
  | _, _, _, _ => false
def IsAl (P : Program) (ops : Array Oper) (N : Fr) (B : Nat) (w0 : World) (x : Al) : Prop :=
  ∃ ty pos aft, ops[x.k]? = some ⟨some x.d, .alloc x.t, ty, pos, aft, none⟩ ∧ Nat.blt x.d N.n = true ∧ ∀ E rs, Lo P N B w0 E rs ⟨some x.d, .alloc x.t, ty, pos, aft, none⟩ (isBox x.t x.zs)
def dstOk (ops : Array Oper) (A : List Al) (ord : List (Nat × Bool)) : Bool := ord.all fun p => match (ops[p.1]?).bind (·.dst) with
  | some d => noD A d
  | none => true
theorem noD_ne {A : List Al} {d : Nat} (h : noD A d = true) : ∀ x ∈ A, x.d ≠ d := fun x hx e => by
  have := List.all_eq_true.1 h x hx
  rw [e, Nat.beq_refl] at this
  cases this
theorem W_mono {fin fin' : Env → List Res → Prop} (h : ∀ E rs, fin E rs → fin' E rs) : ∀ (ord : List (Nat × Bool)) (E : Env) (rs : List Res), W P ops N B w0 fin ord E rs → W P ops N B w0 fin' ord E rs
  | [], _, _, hW => h _ _ hW
  | (_, false) :: t, _, _, ⟨o, d, v, h1, h2, h3, h4, h5⟩ => ⟨o, d, v, h1, h2, h3, h4, W_mono h t _ _ h5⟩
  | (_, true) :: t, _, _, ⟨o, d, h1, h2, h3, h4⟩ => ⟨o, d, h1, h2, h3, or_map h4 (fun ⟨post, x, y, z⟩ => ⟨post, x, y, fun v rs' hp => W_mono h t _ _ (z v rs' hp)⟩) (fun ⟨x, y⟩ => ⟨x, W_mono h t _ _ y⟩)⟩
theorem flow_soundA {A : List Al} {n : Nat} {fin : Env → List Res → Prop} (hsel : Region.noSelect ops = true) (htw : TailWaits md ops n) (hAl : ∀ x ∈ A, IsAl P ops N B w0 x) (hkd : ∀ x ∈ A, ∀ y ∈ A, x.k = y.k → x = y) (hAn : A.Nodup) :
    ∀ (f : Nat) (ord : List (Nat × Bool)) (rem : List Al) (dn : List (Al × Nat)) (listed : Array Bool) (a : Act) (w : World) (E : Env) (rs : List Res), flowA md ops n f ord rem listed = true → HeadInv md ops n listed →
    (dn.map Prod.fst ++ rem).Perm A → dstOk ops A ord = true → (∀ x ∈ A, lk E x.d = none) → Sat N B w0 (entsA dn ++ E) (boxA dn ++ rs) a w →
    W P ops N B w0 (fun E' rs' => ∀ dn', (dn'.map Prod.fst).Perm A → fin (entsA dn' ++ E') (boxA dn' ++ rs')) ord E rs →
    wpAnyM P md ops n (fun listed' a' w' => Region.seqB md ops (ops.size - n) n listed' = true ∧ ∃ E' rs', fin E' rs' ∧ Sat N B w0 E' rs' a' w') f listed a w := by
  have hdone : ∀ (listed : Array Bool) (a : Act) (w : World), (Region.seqB md ops (ops.size - n) n listed = true ∧ ∃ E' rs', fin E' rs' ∧ Sat N B w0 E' rs' a w) → ∀ j ∈ Region.ready md ops listed, n ≤ j := fun _ _ _ hT => seqB_ready hT.1
  intro f
  induction f with
  | zero =>
    intro ord rem dn listed a w E rs hB inv hp hd hf hs hW
    match ord, rem, hB with
    | [], [], hB =>
      rw [List.append_nil] at hp
      exact ⟨hB, _, _, hW dn hp, hs⟩
  | succ f ih =>
    -- one allocation
    have alloc : ∀ (ord : List (Nat × Bool)) (rem : List Al) (dn : List (Al × Nat)) (listed : Array Bool) (a : Act) (w : World) (E : Env) (rs : List Res) (x : Al), x ∈ rem → x.k ∈ Region.ready md ops listed → Nat.blt x.k n = true →
        flowA md ops n f ord (rem.filter fun y => decide (y.k ≠ x.k)) (listed.setIfInBounds x.k true) = true → HeadInv md ops n listed → (dn.map Prod.fst ++ rem).Perm A → dstOk ops A ord = true → (∀ x ∈ A, lk E x.d = none) → Sat N B w0 (entsA dn ++ E) (boxA dn ++ rs) a w →
        W P ops N B w0 (fun E' rs' => ∀ dn', (dn'.map Prod.fst).Perm A → fin (entsA dn' ++ E') (boxA dn' ++ rs')) ord E rs →
        mOp P ops x.k (wpAnyM P md ops n (fun listed' a' w' => Region.seqB md ops (ops.size - n) n listed' = true ∧ ∃ E' rs', fin E' rs' ∧ Sat N B w0 E' rs' a' w') f (listed.setIfInBounds x.k true)) a w := by
      intro ord rem dn listed a w E rs x hx hr hkn hB inv hp hd hf hs hW
      have hxA : x ∈ A := hp.mem_iff.1 (List.mem_append_right _ hx)
      obtain ⟨ty, pos, aft, ho, hN, hl⟩ := hAl x hxA
      unfold mOp
      have hw : Region.wanted (⟨some x.d, .alloc x.t, ty, pos, aft, none⟩ : Oper) (yielded ops a.tmps) = true := by simp [Region.wanted]
      simp only [ho, hw, if_true]
      refine lo_mwp rfl hN (hl _ _) hs fun v rs' a' w' hpo hs' => ?_
      obtain ⟨g, rfl, rfl⟩ := hpo
      refine ih ord _ ((x, g) :: dn) _ a' w' E rs hB (inv.set hr (blt_lt hkn)) ?_ hd hf hs' hW
      -- the list without x, with x in front
      have key : ∀ l : List Al, x ∈ l → (∀ y ∈ l, y.k = x.k → y = x) → l.Nodup → (x :: l.filter fun y => decide (y.k ≠ x.k)).Perm l := by
        intro l
        induction l with
        | nil => intro h; cases h
        | cons y t iht =>
          intro hm hu hn
          by_cases hyx : y = x
          · subst hyx
            have : t.filter (fun z => decide (z.k ≠ y.k)) = t := List.filter_eq_self.2 fun z hz => by
              simp only [decide_eq_true_eq]
              intro he
              have := hu z (List.mem_cons_of_mem _ hz) he
              subst this
              exact (List.nodup_cons.1 hn).1 hz
            rw [List.filter_cons, if_neg (by simp), this]
          · have hmt : x ∈ t := by
              rcases List.mem_cons.1 hm with h | h
              · exact absurd h.symm hyx
              · exact h
            rw [List.filter_cons, if_pos (by simpa using fun he => hyx (hu y List.mem_cons_self he))]
            exact (List.Perm.swap _ _ _).trans ((iht hmt (fun z hz => hu z (List.mem_cons_of_mem _ hz)) (List.nodup_cons.1 hn).2).cons y)
      have hnd : rem.Nodup := (List.nodup_append.1 (hp.nodup_iff.2 hAn)).2.1
      have h1 := key rem hx (fun y hy he => hkd y (hp.mem_iff.1 (List.mem_append_right _ hy)) x hxA he) hnd
      show (x :: (dn.map Prod.fst ++ _)).Perm A
      exact (List.perm_middle.symm.trans (h1.append_left _)).trans hp
    intro ord rem dn listed a w E rs hB inv hp hd hf hs hW
    have hsub : Sat N B w0 E rs a w := (hs.le (le_ents fun p hp' => hf p.1 (hp.mem_iff.1 (List.mem_append_left _ (List.mem_map_of_mem hp'))))).world (hs.ws.sub (List.sublist_append_right _ _))
    match ord, hB with
    | (k, false) :: t, hB =>
      simp only [flowA, Bool.and_eq_true] at hB
      obtain ⟨⟨⟨hkn, hr⟩, hfr⟩, hB'⟩ := hB
      obtain ⟨o, d, v, ho, hdst, hN, hq, hW'⟩ := hW
      have hkn' := blt_lt hkn
      have hr' : k ∈ Region.ready md ops listed := by simpa using hr
      have hy : YieldsUp P ops o v a w := by
        rcases hq with ⟨hw, hq⟩ | ⟨hw, hv⟩
        · exact .inl ⟨hw.is hsub, fun w' hb => hq a w' (hsub.world (hsub.ws.later hb))⟩
        · exact .inr ⟨hw.is hsub, hv⟩
      have hd1 : noD A d = true := by
        have := List.all_eq_true.1 hd (k, false) List.mem_cons_self
        simpa [ho, hdst] using this
      have hne := noD_ne hd1
      refine wpAnyM_first ho (Region.noSelect_spec hsel) htw hkn' hdone _ listed a w inv (Region.free_spec ho hfr) hr' hy
        (ih t rem dn _ _ w ((d, v) :: E) rs hB' (inv.set hr' hkn') hp (List.all_eq_true.2 fun p hpm => List.all_eq_true.1 hd p (List.mem_cons_of_mem _ hpm)) (fun x hx => by rw [lk_cons, if_neg (hne x hx)]; exact hf x hx) ?_ hW')
      rw [hdst]
      exact (hs.put hN v hs.ws).le (le_move fun p hpm => hne p.1 (hp.mem_iff.1 (List.mem_append_left _ (List.mem_map_of_mem hpm))))
    | (k, true) :: t, hB =>
      simp only [flowA, Bool.and_eq_true, decide_eq_true_eq] at hB
      obtain ⟨⟨⟨⟨hkn, hr0⟩, hall⟩, hk⟩, hrem⟩ := hB
      refine ⟨hr0, fun i hi => ?_⟩
      have hia := List.all_eq_true.1 hall i hi
      simp only [Bool.or_eq_true, decide_eq_true_eq, List.any_eq_true] at hia
      rcases hia with rfl | ⟨x, hx, rfl⟩
      · refine ⟨blt_lt hkn, ?_⟩
        have hkf : flowA md ops n f t rem (listed.setIfInBounds i true) = true := by
          rcases Bool.or_eq_true_iff.1 hk with h | h
          · simp [hi] at h
          · exact h
        obtain ⟨o, d, ho, hdst, hN, h⟩ := hW
        have hd1 : noD A d = true := by
          have := List.all_eq_true.1 hd (i, true) List.mem_cons_self
          simpa [ho, hdst] using this
        have hne := noD_ne hd1
        have hd' : dstOk ops A t = true := List.all_eq_true.2 fun p hpm => List.all_eq_true.1 hd p (List.mem_cons_of_mem _ hpm)
        have hf' : ∀ v, ∀ x ∈ A, lk ((d, v) :: E) x.d = none := fun v x hx => by rw [lk_cons, if_neg (hne x hx)]; exact hf x hx
        have hmv : ∀ v, leE ((d, v) :: (entsA dn ++ E)) (entsA dn ++ ((d, v) :: E)) := fun v => le_move fun p hpm => hne p.1 (hp.mem_iff.1 (List.mem_append_left _ (List.mem_map_of_mem hpm)))
        unfold mOp
        rcases h with ⟨post, hw, hq, hW'⟩ | ⟨hw, hW'⟩
        · simp only [ho, hw.is hsub, if_true]
          have fin' : ∀ v w' rs', Below w.heap.size w w' → post v rs' → (∀ r ∈ rs', r.ok B w' ∧ ∀ k, r.blk = some k → w.heap.size ≤ k) → Disj rs' →
              wpAnyM P md ops n (fun listed' a' w' => Region.seqB md ops (ops.size - n) n listed' = true ∧ ∃ E' rs', fin E' rs' ∧ Sat N B w0 E' rs' a' w') f (listed.setIfInBounds i true) (a.put o.dst v) w' := fun v w' rs' hb hpo hrs hdj => by
            refine ih t rem dn _ _ w' ((d, v) :: E) (rs' ++ rs) hkf (inv.set hi (blt_lt hkn)) hp hd' (hf' v) ?_ (hW' v rs' hpo)
            rw [hdst]
            refine ((hs.put hN v (hs.ws.more hb hrs hdj)).le (hmv v)).world ?_
            refine (hs.ws.more hb hrs hdj).perm ?_
            rw [← List.append_assoc, ← List.append_assoc]
            exact List.perm_append_comm.append_right rs
          rcases hq a w hsub with ⟨v, w', rs', hr, hb, hpo, hrs, hdj⟩ | ⟨fc, args, hr, hc⟩
          · exact .inl ⟨v, w', hr, hb, fin' v w' rs' hb hpo hrs hdj⟩
          · refine .inr ⟨fc, args, hr, hc.mono ?_⟩
            rintro e w'' ⟨v, rs', rfl, hb, hpo, hrs, hdj⟩
            exact ⟨v, rfl, hb, fin' v w'' rs' hb hpo hrs hdj⟩
        · simp only [ho, hw.is hsub, Bool.false_eq_true, if_false]
          refine ih t rem dn _ _ w ((d, undef) :: E) rs hkf (inv.set hi (blt_lt hkn)) hp hd' (hf' undef) ?_ hW'
          rw [hdst]
          exact (hs.put hN undef hs.ws).le (hmv undef)
      · have h1 := List.all_eq_true.1 hrem x hx
        have h2 : Nat.blt x.k n = true ∧ flowA md ops n f ((k, true) :: t) (rem.filter fun y => decide (y.k ≠ x.k)) (listed.setIfInBounds x.k true) = true := by
          rcases Bool.or_eq_true_iff.1 h1 with h | h
          · simp [hi] at h
          · simpa using h
        exact ⟨blt_lt h2.1, alloc _ rem dn listed a w E rs x hx hi h2.1 h2.2 inv hp hd hf hs hW⟩
    | [], hB =>
      have hB2 : decide (Region.ready md ops listed ≠ []) = true ∧ (Region.ready md ops listed).all (fun i => rem.any (fun x => decide (x.k = i))) = true ∧
          rem.all (fun x => !((Region.ready md ops listed).contains x.k) || (Nat.blt x.k n && flowA md ops n f [] (rem.filter fun y => decide (y.k ≠ x.k)) (listed.setIfInBounds x.k true))) = true := by
        cases rem with
        | nil => simpa [flowA, and_assoc] using hB
        | cons y t => simpa [flowA, and_assoc] using hB
      obtain ⟨hr0, hall, hrem⟩ := hB2
      refine ⟨by simpa using hr0, fun i hi => ?_⟩
      have hia := List.all_eq_true.1 hall i hi
      simp only [decide_eq_true_eq, List.any_eq_true] at hia
      obtain ⟨x, hx, rfl⟩ := hia
      have h1 := List.all_eq_true.1 hrem x hx
      have h2 : Nat.blt x.k n = true ∧ flowA md ops n f [] (rem.filter fun y => decide (y.k ≠ x.k)) (listed.setIfInBounds x.k true) = true := by
        rcases Bool.or_eq_true_iff.1 h1 with h | h
        · simp [hi] at h
        · simpa using h
      exact ⟨blt_lt h2.1, alloc _ rem dn listed a w E rs x hx hi h2.1 h2.2 inv hp hd hf hs hW⟩
theorem drawA {A : List Al} {n : Nat} {l : List Oper} {Q : Exit → Act → World → Prop} {E : Env} {rs : List Res} {id : Nat} (ord : List (Nat × Bool)) (hm : P.follows .mixedOrders = true)
    (hB : (Region.noSelect l.toArray && (decide (n = l.toArray.size) || (Nat.blt n l.toArray.size && Region.sinkB .any l.toArray n && Region.chainB .any l.toArray n)) && decide (ord.length + A.length = n) && Nat.ble n l.toArray.size && dstOk l.toArray A ord && flowA .any l.toArray n n ord A (Array.replicate l.toArray.size false)) = true)
    (hAl : ∀ x ∈ A, IsAl P l.toArray N B w0 x) (hkd : ∀ x ∈ A, ∀ y ∈ A, x.k = y.k → x = y) (hAn : A.Nodup) (hf : freshE A E = true)
    (h : W P l.toArray N B w0 (fun E' rs' => ∀ dn', (dn'.map Prod.fst).Perm A → L P l.toArray Q N B w0 (entsA dn' ++ E') (boxA dn' ++ rs') (l.drop n)) ord E rs) : C P Q N B w0 E rs (.region id l.toArray true) := by
  intro a w hs
  simp only [Bool.and_eq_true, decide_eq_true_eq, Bool.or_eq_true, Nat.ble_eq] at hB
  obtain ⟨⟨⟨⟨⟨hsel, hn⟩, hol⟩, hle⟩, hdo⟩, hfl⟩ := hB
  have htw : TailWaits .any l.toArray n := by
    intro listed inv i hin hun t ht
    rcases hn with hn | ⟨⟨hn, hsk⟩, hch⟩
    · intro hr
      obtain ⟨_, o, ho, _⟩ := mem_ready.1 hr
      have := (Array.getElem?_eq_some_iff.1 ho).1
      omega
    · exact tail_waits hsk hch (blt_lt hn) inv _ i rfl hin hun t ht
  have hdl : (l.drop n).length = l.toArray.size - n := by simp
  have inv0 : HeadInv .any l.toArray n (Array.replicate l.toArray.size false) :=
    ⟨by simp, fun j oj _ hl => (by rw [getD_replicate_false] at hl; cases hl), fun t _ ht => getD_in (by simpa using ht) (getD_replicate_false _ _)⟩
  have hs' : Sat N B w0 E rs a w.drew := hs.world (hs.ws.later ⟨rfl, rfl, rfl, Nat.le_refl _, fun _ _ => rfl⟩)
  have H := flow_soundA (md := .any) (fin := fun E' rs' => L P l.toArray Q N B w0 E' rs' (l.drop n)) hsel htw hAl hkd hAn n ord A [] _ _ _ E rs hfl inv0 (List.Perm.refl _) hdo (fun x hx => by
    have := List.all_eq_true.1 hf x hx
    simpa using this) hs' h
  refine wpIn_region_any hm ?_
  have := wpAny_of_anyM (ro := N.ro) (Q := Q) (g := l.toArray.size - n) (fun listed a' w' hT => by
    obtain ⟨h1, E', rs', h2, h3⟩ := hT
    have := wpAnyIn_of_seq (ro := N.ro) (md := .any) (Q' := Q) (l.drop n) n listed a' w' (fun j => by simp [List.getElem?_drop]) (by rw [hdl]; exact h1) (h2 a' w' h3)
    rwa [hdl] at this) _ _ _ _ H
  rw [show n + (l.toArray.size - n) = l.toArray.size by omega] at this
  exact this
theorem isAl {l : List Oper} (T : Tab P) {k d t sz bs : Nat} {ag : Bool} {zs : List Value} {ty : TypeId} {pos : String} {aft : Array Edge} (ho : l.toArray[k]? = some ⟨some d, .alloc t, ty, pos, aft, none⟩) (hz : lkT T.ty t = some (ag, sz, bs, zs)) (hN : Nat.blt d N.n = true) : IsAl P l.toArray N B w0 ⟨k, d, t, zs⟩ :=
  ⟨ty, pos, aft, ho, hN, fun _ _ => lo_alloc T hz⟩
theorem C_drawA1 (T : Tab P) {id n k d t sz bs : Nat} {ag : Bool} {zs : List Value} {ty : TypeId} {pos : String} {aft : Array Edge} {l : List Oper} {Q : Exit → Act → World → Prop} {E : Env} {rs : List Res} (ord : List (Nat × Bool)) (hm : P.follows .mixedOrders = true)
    (ho : l.toArray[k]? = some ⟨some d, .alloc t, ty, pos, aft, none⟩) (hz : lkT T.ty t = some (ag, sz, bs, zs)) (hN : Nat.blt d N.n = true)
    (hB : (Region.noSelect l.toArray && (decide (n = l.toArray.size) || (Nat.blt n l.toArray.size && Region.sinkB .any l.toArray n && Region.chainB .any l.toArray n)) && decide (ord.length + 1 = n) && Nat.ble n l.toArray.size && dstOk l.toArray [⟨k, d, t, zs⟩] ord && flowA .any l.toArray n n ord [⟨k, d, t, zs⟩] (Array.replicate l.toArray.size false)) = true)
    (hf : freshE [⟨k, d, t, zs⟩] E = true)
    (h : W P l.toArray N B w0 (fun E' rs' => ∀ g, L P l.toArray Q N B w0 ((d, .pointer (some ⟨g, 0, none⟩)) :: E') (box g t zs :: rs') (l.drop n)) ord E rs) : C P Q N B w0 E rs (.region id l.toArray true) := by
  refine drawA (A := [⟨k, d, t, zs⟩]) ord hm hB (fun x hx => by simp only [List.mem_singleton] at hx; subst hx; exact isAl T ho hz hN) (fun x hx y hy _ => by simp only [List.mem_singleton] at hx hy; rw [hx, hy]) (by simp) hf ?_
  refine W_mono ?_ ord E rs h
  intro E' rs' h' dn hp
  match dn, hp with
  | [(x, g)], hp =>
    have : x = ⟨k, d, t, zs⟩ := by simpa using hp.mem_iff (a := x)
    subst this
    exact h' g
  | [], hp => exact absurd hp.length_eq (by simp)
  | _ :: _ :: _, hp => exact absurd hp.length_eq (by simp)
end
end Go.Proofs.Ytdmnejfpbbmcaaa
