/-
  The calculus: a region that draws its order in its head (several loud operations at once), and goes on one by one behind it. Conditions: none; no program in sight.
-/
import Derived.Test.YtacndicgpkeobaaGreatDoorShKn
namespace Go.Proofs.YtacndicgpkeobaaGreatDoor.Kp
open Go.RowKit
section
variable {P : Program} {ops : Array Oper} {md : Region.Mode} {N : Fr} {B : Nat} {w0 : World} {S : Nat → Prop}
def wpAnyN (P : Program) (S : Nat → Prop) (md : Region.Mode) (ops : Array Oper) (n : Nat) (T : Array Bool → Act → World → Prop) : Nat → Array Bool → Act → World → Prop
  | 0, listed, a, w => T listed a w
  | f + 1, listed, a, w => Region.ready md ops listed ≠ [] ∧ ∀ i ∈ Region.ready md ops listed, i < n ∧ bOp P S ops i (wpAnyN P S md ops n T f (listed.setIfInBounds i true)) a w
theorem wpAny_of_anyN {ro : Option Nat} {n g : Nat} {T : Array Bool → Act → World → Prop} {Q : Exit → Act → World → Prop} (hT : ∀ listed a w, T listed a w → wpAnyIn (fc ro) 0 P md ops Q g listed a w) :
    ∀ (f : Nat) (listed : Array Bool) (a : Act) (w : World), wpAnyN P S md ops n T f listed a w → wpAnyIn (fc ro) 0 P md ops Q (f + g) listed a w
  | 0, listed, a, w, h => by rw [Nat.zero_add]; exact hT _ _ _ h
  | f + 1, listed, a, w, h => by
    rw [show f + 1 + g = (f + g) + 1 by omega]
    exact ⟨fun h0 => absurd h0 h.1, fun i hi => wpOpIn_mono (fun a' w' h' => wpAny_of_anyN hT f _ a' w' h') (wpOp_of_bOp (h.2 i hi).2)⟩
theorem wpAnyN_first {n i : Nat} {oi : Oper} {v : Value} {T : Array Bool → Act → World → Prop} (hi : ops[i]? = some oi) (hsel : ∀ (j : Nat) (o : Oper) cs b, ops[j]? = some o → o.op ≠ .select cs b)
    (htw : TailWaits md ops n) (hin : i < n) (hdone : ∀ listed a w, T listed a w → ∀ j ∈ Region.ready md ops listed, n ≤ j) :
    ∀ (f : Nat) (listed : Array Bool) (a : Act) (w : World), HeadInv md ops n listed →
      (∀ j oj, ops[j]? = some oj → j ≠ i → listed.getD j true = false → (∀ e ∈ oj.after, Region.binds md e = true → e.on ≠ i) → oi.apart ops oj = true) →
      i ∈ Region.ready md ops listed → YieldsB P S ops oi v a w →
      wpAnyN P S md ops n T f (listed.setIfInBounds i true) (a.put oi.dst v) w → wpAnyN P S md ops n T (f + 1) listed a w := by
  intro f
  induction f with
  | zero =>
    intro listed a w inv _ hr hy H
    have hun := (mem_ready.1 hr).1
    refine ⟨fun h => (by rw [h] at hr; cases hr), fun j hj => ?_⟩
    have hjn : j < n := by
      rcases Nat.lt_or_ge j n with h | h
      · exact h
      · exact absurd hj (htw listed inv i hin hun j h)
    refine ⟨hjn, ?_⟩
    by_cases hji : j = i
    · subst hji; exact hy.bOp hi H
    · have := hdone _ _ _ H j (ready_mono hj hji)
      omega
  | succ f ih =>
    intro listed a w inv hfree hr hy H
    have hun := (mem_ready.1 hr).1
    refine ⟨fun h => (by rw [h] at hr; cases hr), fun j hj => ?_⟩
    have hjn : j < n := by
      rcases Nat.lt_or_ge j n with h | h
      · exact h
      · exact absurd hj (htw listed inv i hin hun j h)
    refine ⟨hjn, ?_⟩
    by_cases hji : j = i
    · subst hji; exact hy.bOp hi H
    · have h1 := (H.2 j (ready_mono hj hji)).2
      obtain ⟨hjun, oj, hoj, hall⟩ := mem_ready.1 hj
      have hnot : ∀ e ∈ oj.after, Region.binds md e = true → e.on ≠ i := fun e he hb heq => by
        have h1 := hall e he hb
        rw [heq, getD_both hun] at h1
        cases h1
      have h2 := bOp_put hoj (hfree j oj hoj hji hjun hnot) (fun cs b => hsel i oi cs b hi) (fun cs b => hsel j oj cs b hoj) hy h1
      have hfree' : ∀ k ok, ops[k]? = some ok → k ≠ i → (listed.setIfInBounds j true).getD k true = false →
          (∀ e ∈ ok.after, Region.binds md e = true → e.on ≠ i) → oi.apart ops ok = true := fun k ok hk hki hun hno => by
        refine hfree k ok hk hki ?_ hno
        by_cases hjk : j = k
        · subst hjk; exact hjun
        · rw [getD_set_ne true hjk] at hun; exact hun
      refine bOp_mono (fun a' w' _ h3 => ih (listed.setIfInBounds j true) a' w' (inv.set hj hjn) hfree' (ready_mono hr (Ne.symm hji)) h3.1 ?_) h2
      rw [Array.setIfInBounds_comm _ _ hji]
      exact h3.2
def flowH (md : Region.Mode) (ops : Array Oper) (n : Nat) : Tre → Array Bool → Bool
  | .nil, listed => Region.seqB md ops (ops.size - n) n listed
  | .q k t, listed => Nat.blt k n && (Region.ready md ops listed).contains k && Region.free md ops listed k && flowH md ops n t (listed.setIfInBounds k true)
  | .s k t, listed => Nat.blt k n && decide (Region.ready md ops listed = [k]) && flowH md ops n t (listed.setIfInBounds k true)
  | .s2 k1 k2 t1 t2, listed => Nat.blt k1 n && Nat.blt k2 n && decide (Region.ready md ops listed = [k1, k2]) && decide (t1.dep = t2.dep) && flowH md ops n t1 (listed.setIfInBounds k1 true) && flowH md ops n t2 (listed.setIfInBounds k2 true)
  | .s3 k1 k2 k3 t1 t2 t3, listed => Nat.blt k1 n && Nat.blt k2 n && Nat.blt k3 n && decide (Region.ready md ops listed = [k1, k2, k3]) && decide (t1.dep = t2.dep) && decide (t1.dep = t3.dep) && flowH md ops n t1 (listed.setIfInBounds k1 true) && flowH md ops n t2 (listed.setIfInBounds k2 true) && flowH md ops n t3 (listed.setIfInBounds k3 true)
theorem flow_soundH {n : Nat} {fin : Env → List Res → Prop} {ro : List Res} (hsel : Region.noSelect ops = true) (htw : TailWaits md ops n) (hBB : ∀ k, k < B → S k) :
    ∀ (tr : Tre) (listed : Array Bool) (a : Act) (w : World) (E : Env) (rn : List Res), flowH md ops n tr listed = true → HeadInv md ops n listed → SatC N B w0 S E rn ro a w → Z P ops N B w0 fin ro tr E rn →
    wpAnyN P S md ops n (fun listed' a' w' => Region.seqB md ops (ops.size - n) n listed' = true ∧ ∃ E' rs', fin E' rs' ∧ Sat N B w0 E' rs' a' w') tr.dep listed a w
  | .nil, listed, a, w, E, rn, hB, _, hs, h => ⟨hB, E, _, h, hs.s⟩
  | .q k t, listed, a, w, E, rn, hB, inv, hs, h => by
    simp only [flowH, Bool.and_eq_true] at hB
    obtain ⟨⟨⟨hkn, hr⟩, hf⟩, hB'⟩ := hB
    obtain ⟨o, d, v, ho, hd, hN, hq, hX⟩ := h
    have hkn' := blt_lt hkn
    have hr' : k ∈ Region.ready md ops listed := by simpa using hr
    have hy : YieldsB P S ops o v a w := by
      rcases hq with ⟨hw, hq⟩ | ⟨hw, hv⟩
      · refine .inl ⟨hw.is hs.s, fun w' hb => hq a w' ?_⟩
        have h1 := hs.s.ws.sub (List.sublist_append_right rn ro)
        refine hs.s.world ⟨h1.bel.trans (Keeps.below hb hBB), Nat.le_trans h1.bas hb.size, fun r hrm => ?_, h1.dis⟩
        exact r.st (h1.res r hrm) hb.size (fun k hk => hb.block k (hs.o r hrm k hk))
      · exact .inr ⟨hw.is hs.s, hv⟩
    exact wpAnyN_first ho (Region.noSelect_spec hsel) htw hkn' (fun listed' a' w' h' => seqB_ready h'.1) _ listed a w inv (Region.free_spec ho hf) hr' hy
      (flow_soundH hsel htw hBB t _ _ _ _ _ hB' (inv.set hr' hkn') (by rw [hd]; exact hs.put hN v) hX)
  | .s k t, listed, a, w, E, rn, hB, inv, hs, h => by
    simp only [flowH, Bool.and_eq_true, decide_eq_true_eq] at hB
    obtain ⟨⟨hkn, hr⟩, hB'⟩ := hB
    refine ⟨fun h0 => (by rw [hr] at h0; cases h0), fun i hi => ?_⟩
    have hik : i = k := by rw [hr] at hi; simpa using hi
    subst hik
    exact ⟨blt_lt hkn, runN hBB hs h fun E' rn' a' w' hs' hX => flow_soundH hsel htw hBB t _ _ _ _ _ hB' (inv.set hi (blt_lt hkn)) hs' hX⟩
  | .s2 k1 k2 t1 t2, listed, a, w, E, rn, hB, inv, hs, h => by
    simp only [flowH, Bool.and_eq_true, decide_eq_true_eq] at hB
    obtain ⟨⟨⟨⟨⟨hn1, hn2⟩, hr⟩, hd⟩, hB1⟩, hB2⟩ := hB
    refine ⟨fun h0 => (by rw [hr] at h0; cases h0), fun i hi => ?_⟩
    have hi0 := hi
    rw [hr] at hi
    rcases List.mem_cons.1 hi with rfl | hi
    · exact ⟨blt_lt hn1, runN hBB hs h.1 fun E' rn' a' w' hs' hX => flow_soundH hsel htw hBB t1 _ _ _ _ _ hB1 (inv.set hi0 (blt_lt hn1)) hs' hX⟩
    · have hik : i = k2 := by simpa using hi
      subst hik
      exact ⟨blt_lt hn2, runN hBB hs h.2 fun E' rn' a' w' hs' hX => by
        have := flow_soundH hsel htw hBB t2 _ _ _ _ _ hB2 (inv.set hi0 (blt_lt hn2)) hs' hX
        rwa [← hd] at this⟩
  | .s3 k1 k2 k3 t1 t2 t3, listed, a, w, E, rn, hB, inv, hs, h => by
    simp only [flowH, Bool.and_eq_true, decide_eq_true_eq] at hB
    obtain ⟨⟨⟨⟨⟨⟨⟨⟨hn1, hn2⟩, hn3⟩, hr⟩, hd⟩, hd3⟩, hB1⟩, hB2⟩, hB3⟩ := hB
    refine ⟨fun h0 => (by rw [hr] at h0; cases h0), fun i hi => ?_⟩
    have hi0 := hi
    rw [hr] at hi
    rcases List.mem_cons.1 hi with rfl | hi
    · exact ⟨blt_lt hn1, runN hBB hs h.1 fun E' rn' a' w' hs' hX => flow_soundH hsel htw hBB t1 _ _ _ _ _ hB1 (inv.set hi0 (blt_lt hn1)) hs' hX⟩
    rcases List.mem_cons.1 hi with rfl | hi
    · exact ⟨blt_lt hn2, runN hBB hs h.2.1 fun E' rn' a' w' hs' hX => by
        have := flow_soundH hsel htw hBB t2 _ _ _ _ _ hB2 (inv.set hi0 (blt_lt hn2)) hs' hX
        rwa [← hd] at this⟩
    · have hik : i = k3 := by simpa using hi
      subst hik
      exact ⟨blt_lt hn3, runN hBB hs h.2.2 fun E' rn' a' w' hs' hX => by
        have := flow_soundH hsel htw hBB t3 _ _ _ _ _ hB3 (inv.set hi0 (blt_lt hn3)) hs' hX
        rwa [← hd3] at this⟩
where
  runN {ro : List Res} {k f : Nat} {n : Nat} {K : Env → List Res → Prop} {E : Env} {rn : List Res} {a : Act} {w : World} {T : Array Bool → Act → World → Prop} {listed : Array Bool} (hBB : ∀ k, k < B → S k) (hs : SatC N B w0 S E rn ro a w) (h : St P ops N B w0 ro k K E rn)
      (ih : ∀ E' rn' a' w', SatC N B w0 S E' rn' ro a' w' → K E' rn' → wpAnyN P S md ops n T f listed a' w') : bOp P S ops k (wpAnyN P S md ops n T f listed) a w := by
    obtain ⟨o, ho, hg, h⟩ := h
    unfold bOp
    have hw : Region.wanted o (yielded ops a.tmps) = true := by simp [Region.wanted, hg]
    simp only [ho, hw, if_true]
    rcases h with ⟨d, post, hd, hN, hq, hX⟩ | ⟨rn', hd, hq, hX⟩ | ⟨d, F, hd, hN, hq, hX⟩
    · exact lo_bwp hd hN hq hs fun v rs' a' w' hp hs' => ih _ _ _ _ hs' (hX v rs' hp)
    · obtain ⟨w', h1, h2, h3⟩ := hq S a w hBB hs
      refine .inr (.inl ⟨w', h1, h2, ?_⟩)
      rw [hd]
      exact ih _ _ _ _ h3 hX
    · obtain ⟨v, w', rn', h1, h2, h4, h3⟩ := hq S a w hBB hs
      refine .inl ⟨v, w', h1, h2, ?_⟩
      rw [hd]
      exact ih _ _ _ _ (h3.put hN v) (hX v rn' h4)
def flowHOk (ops : Array Oper) (n : Nat) (tr : Tre) : Bool :=
  Region.noSelect ops && (decide (n = ops.size) || (Nat.blt n ops.size && Region.sinkB .any ops n && Region.chainB .any ops n)) && decide (tr.dep = n) && Nat.ble n ops.size && flowH .any ops n tr (Array.replicate ops.size false)
theorem St_mkF {ro : List Res} {k : Nat} {K : Env → List Res → Prop} {E : Env} {rn : List Res} {o : Oper} {d : Tmp} {e size : Nat} {l : List (List Value)} (ho : ops[k]? = some o) (hd : o.dst = some d) (hg : o.guard = none) (hN : Nat.blt d N.n = true) (hq : Lo P N B w0 E (rn ++ ro) o (isSl e size l))
    (h : ∀ A c, K ((d, .slice A l.length c) :: E) (sl (.slice A l.length c) e size l :: rn)) : St P ops N B w0 ro k K E rn := St_lo ho hd hg hN (lo_form2 hq) fun u rs' ⟨A, c, hu, hr⟩ => by
  subst hu; subst hr
  exact h A c
theorem C_treeH {ι : Type} {id n : Nat} {l : List Oper} {Q : Exit → Act → World → Prop} {E : Env} {pre ro : List Res} (tr : Tre) (J : ι → Env × List Res) (hm : P.follows .mixedOrders = true) (hB : flowHOk l.toArray n tr = true) (hown : ∀ r ∈ pre, r.own = true)
    (h : Z P l.toArray N B w0 (fun E' rs' => ∃ i, ∀ a w, Sat N B w0 E' rs' a w → Sat N B w0 (J i).1 (J i).2 a w) ro tr E pre) (hc : ∀ i, L P l.toArray Q N B w0 (J i).1 (J i).2 (l.drop n)) : C P Q N B w0 E (pre ++ ro) (.region id l.toArray true) := by
  intro a w hs
  simp only [flowHOk, Bool.and_eq_true, decide_eq_true_eq, Bool.or_eq_true, Nat.ble_eq] at hB
  obtain ⟨⟨⟨⟨hsel, hn⟩, hol⟩, hle⟩, hfl⟩ := hB
  have htw : TailWaits .any l.toArray n := by
    intro listed inv i hin hun t ht
    rcases hn with hn | ⟨⟨hn, hsk⟩, hch⟩
    · intro hr
      obtain ⟨_, o, ho, _⟩ := mem_ready.1 hr
      have := (Array.getElem?_eq_some_iff.1 ho).1
      omega
    · exact tail_waits hsk hch (blt_lt hn) inv _ i rfl hin hun t ht
  have hdl : (l.drop n).length = l.toArray.size - n := by simp
  have inv0 : HeadInv .any l.toArray n (Array.replicate l.toArray.size false) :=
    ⟨by simp, fun j oj _ hl => (by rw [getD_replicate_false] at hl; cases hl), fun t _ ht => getD_in (by simpa using ht) (getD_replicate_false _ _)⟩
  have hs' : Sat N B w0 E (pre ++ ro) a w.drew := hs.world (hs.ws.later ⟨rfl, rfl, rfl, Nat.le_refl _, fun _ _ => rfl⟩)
  have hC : SatC N B w0 (fun k => k < B ∨ ∃ r ∈ ro, r.blk = some k) E pre ro a w.drew := by
    refine ⟨hs', ?_, fun r hr k hk => .inr ⟨r, hr, hk⟩, ?_⟩
    · rintro k (hk | ⟨r, hr, hk⟩)
      · exact Nat.lt_of_lt_of_le hk hs'.ws.bas
      · exact r.lt (hs'.ws.res r (List.mem_append_right _ hr)) k hk
    · rintro r hr k hk (h9 | ⟨s, hsm, h9⟩)
      · have := r.ge (hown r hr) (hs'.ws.res r (List.mem_append_left _ hr)) k hk
        omega
      · exact (List.pairwise_append.1 hs'.ws.dis).2.2 r hr s hsm (.inl (hown r hr)) k hk h9
  have H := flow_soundH (md := .any) hsel htw (fun k hk => .inl hk) tr _ a w.drew E pre hfl inv0 hC h
  refine wpIn_region_any hm ?_
  have := wpAny_of_anyN (ro := N.ro) (Q := Q) (g := l.toArray.size - n) (fun listed a' w' hT => by
    obtain ⟨h1, E', rs', ⟨i, h2⟩, h3⟩ := hT
    have := wpAnyIn_of_seq (ro := N.ro) (md := .any) (Q' := Q) (l.drop n) n listed a' w' (fun j => by simp [List.getElem?_drop]) (by rw [hdl]; exact h1) (hc i a' w' (h2 _ _ h3))
    rwa [hdl] at this) _ _ _ _ H
  rw [hol, show n + (l.toArray.size - n) = l.toArray.size by omega] at this
  exact this
theorem C_treeH2 {ι : Type} {id n : Nat} {lo : List Oper} {Q : Exit → Act → World → Prop} {E : Env} {ro : List Res} {v v2 : Value} {e sz e2 sz2 : Nat} {l l2 : List (List Value)} (tr : Tre) (J : ι → Env × List Res) (hm : P.follows .mixedOrders = true) (hB : flowHOk lo.toArray n tr = true)
    (h : Z P lo.toArray N B w0 (fun E' rs' => ∃ i, ∀ a w, Sat N B w0 E' rs' a w → Sat N B w0 (J i).1 (J i).2 a w) ro tr E [sl v e sz l, sl v2 e2 sz2 l2]) (hc : ∀ i, L P lo.toArray Q N B w0 (J i).1 (J i).2 (lo.drop n)) : C P Q N B w0 E (sl v e sz l :: sl v2 e2 sz2 l2 :: ro) (.region id lo.toArray true) :=
  C_treeH (pre := [sl v e sz l, sl v2 e2 sz2 l2]) tr J hm hB (by intro r hr; simp only [List.mem_cons, List.not_mem_nil, or_false] at hr; rcases hr with rfl | rfl <;> exact sl_own _ _ _ _) h hc
end
end Go.Proofs.YtacndicgpkeobaaGreatDoor.Kp
