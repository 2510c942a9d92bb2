/-
  Regions that draw their order, in the assertion calculus: one walk in an order of the prover's serves every order, where the operations ahead of the tail only read, or make memory, or call. Conditions: none; no program in sight.
-/
import Derived.Test.YtdmnejfpbbmcaaaSh
namespace Go.Proofs.Ytdmnejfpbbmcaaa
open Go.RowKit

section
variable {P : Program} {ops : Array Oper} {md : Region.Mode}

def mwp (P : Program) (o : Oper) (a : Act) (w : World) (K : Act → World → Prop) : Prop :=
  (∃ v w', (execOp a.eval o).run P w = .ok (.value v) w' ∧ Below w.heap.size w w' ∧ K (a.put o.dst v) w') ∨
  (∃ f args, (execOp a.eval o).run P w = .ok (.enter f args) w ∧ Calls P f args w fun e w'' => ∃ v, e = .returned v ∧ Below w.heap.size w w'' ∧ K (a.put o.dst v) w'')

def mOp (P : Program) (ops : Array Oper) (i : Nat) (K : Act → World → Prop) (a : Act) (w : World) : Prop :=
  match ops[i]? with
  | none => K a w
  | some o => if Region.wanted o (yielded ops a.tmps) then mwp P o a w K else K (a.put o.dst undef) w

theorem mwp_mono {o : Oper} {a : Act} {w : World} {K K' : Act → World → Prop} (h : ∀ a w', Below w.heap.size w w' → K a w' → K' a w') (hh : mwp P o a w K) : mwp P o a w K' := by
  rcases hh with ⟨v, w', hr, hb, hk⟩ | ⟨f, args, hr, hc⟩
  · exact .inl ⟨v, w', hr, hb, h _ _ hb hk⟩
  · exact .inr ⟨f, args, hr, hc.mono fun e w'' ⟨v, he, hb, hk⟩ => ⟨v, he, hb, h _ _ hb hk⟩⟩

theorem mOp_mono {i : Nat} {a : Act} {w : World} {K K' : Act → World → Prop} (h : ∀ a w', Below w.heap.size w w' → K a w' → K' a w') (hh : mOp P ops i K a w) : mOp P ops i K' a w := by
  unfold mOp at *
  split
  · exact h _ _ (Below.refl _ _) (by simpa [*] using hh)
  · rename_i o ho
    simp only [ho] at hh
    split
    · rename_i hw; simp only [hw, if_true] at hh; exact mwp_mono h hh
    · rename_i hw; simp only [hw] at hh; exact h _ _ (Below.refl _ _) hh

theorem wp_of_mwp {ro : Option Nat} {Q : Exit → Act → World → Prop} {o : Oper} {a : Act} {w : World} {K : Act → World → Prop} (hh : mwp P o a w K) : o.wpIn (fc ro) 0 P a w K Q := by
  rcases hh with ⟨v, w', hr, _, hk⟩ | ⟨f, args, hr, hc⟩
  · exact wpIn_value hr hk
  · refine wpIn_calls hr (hc.mono ?_)
    rintro e w'' ⟨v, he, _, hk⟩
    exact ⟨v, he, hk⟩

theorem wpOp_of_mOp {ro : Option Nat} {Q : Exit → Act → World → Prop} {i : Nat} {a : Act} {w : World} {K : Act → World → Prop} (hh : mOp P ops i K a w) : wpOpIn (fc ro) 0 P ops Q i K a w := by
  unfold mOp at hh
  unfold wpOpIn
  split
  · rename_i ho; simpa [ho] using hh
  · rename_i o ho
    simp only [ho] at hh
    split
    · rename_i hw; simp only [hw, if_true] at hh; exact wp_of_mwp hh
    · rename_i hw; simp only [hw] at hh; exact ⟨fun _ _ => trivial, hh⟩

theorem wpAnyIn_of_seq {ro : Option Nat} {Q' : Exit → Act → World → Prop} : ∀ (l : List Oper) (k : Nat) (listed : Array Bool) (a : Act) (w : World), (∀ j, l[j]? = ops[k + j]?) →
    Region.seqB md ops l.length k listed = true → wpListIn (fc ro) 0 P ops Q' l a w → wpAnyIn (fc ro) 0 P md ops Q' l.length listed a w
  | [], _, _, _, _, _, hB, h => ⟨by simpa [Region.seqB] using hB, h⟩
  | o :: l, k, listed, a, w, hl, hB, h => by
    have h0 : ops[k]? = some o := by simpa using (hl 0).symm
    simp only [List.length_cons, Region.seqB, Bool.and_eq_true, decide_eq_true_eq] at hB
    refine ⟨fun h1 => (by rw [hB.1] at h1; cases h1), fun i hi => ?_⟩
    rw [hB.1] at hi
    have hik : i = k := by simpa using hi
    subst hik
    have hw : wpOpIn (fc ro) 0 P ops Q' i (wpListIn (fc ro) 0 P ops Q' l) a w := by unfold wpOpIn; simp only [h0]; exact h
    exact wpOpIn_mono (fun a' w' h' => wpAnyIn_of_seq l (i + 1) _ a' w' (fun j => by have := hl (j + 1); simpa [Nat.add_assoc, Nat.add_comm 1 j] using this) hB.2 h') hw

def YieldsUp (P : Program) (ops : Array Oper) (o : Oper) (v : Value) (a : Act) (w : World) : Prop :=
  (Region.wanted o (yielded ops a.tmps) = true ∧ ∀ w', Below w.heap.size w w' → (execOp a.eval o).run P w' = .ok (.value v) w') ∨
  (Region.wanted o (yielded ops a.tmps) = false ∧ v = undef)

theorem YieldsUp.mOp {i : Nat} {o : Oper} {v : Value} {a : Act} {w : World} (hi : ops[i]? = some o) (hy : YieldsUp P ops o v a w) {K : Act → World → Prop} (h : K (a.put o.dst v) w) : mOp P ops i K a w := by
  unfold Ytdmnejfpbbmcaaa.mOp
  simp only [hi]
  rcases hy with ⟨hw, hv⟩ | ⟨hw, rfl⟩
  · simp only [hw, if_true]; exact .inl ⟨v, w, hv w (Below.refl _ _), Below.refl _ _, h⟩
  · simp only [hw, Bool.false_eq_true, if_false]; exact h

theorem YieldsUp.of_same {o : Oper} {v : Value} {a a' : Act} {w w' : World} (hy : YieldsUp P ops o v a w) (he : execOp a'.eval o = execOp a.eval o)
    (hw : Region.wanted o (yielded ops a'.tmps) = Region.wanted o (yielded ops a.tmps)) (hb : Below w.heap.size w w') : YieldsUp P ops o v a' w' := by
  unfold YieldsUp at *
  rw [he, hw]
  exact or_map hy (fun ⟨h1, h2⟩ => ⟨h1, fun w'' hb' => h2 w'' (hb.trans (hb'.mono hb.size))⟩) id

theorem mOp_put {j : Nat} {oi oj : Oper} {v : Value} (hj : ops[j]? = some oj) (hap : oi.apart ops oj = true)
    (hsi : ∀ cs b, oi.op ≠ .select cs b) (hsj : ∀ cs b, oj.op ≠ .select cs b) {K : Act → World → Prop} {a : Act} {w : World}
    (hy : YieldsUp P ops oi v a w) (h : mOp P ops j K (a.put oi.dst v) w) :
    mOp P ops j (fun a' w' => YieldsUp P ops oi v a' w' ∧ K (a'.put oi.dst v) w') a w := by
  obtain ⟨h1, h2, h3⟩ := Oper.apart_spec hap
  have keep : ∀ u w', Below w.heap.size w w' → YieldsUp P ops oi v (a.put oj.dst u) w' := fun u w' hb =>
    hy.of_same (execOp_put oi hsi a oj.dst u h3) (wanted_put oi a oj.dst u h3) hb
  unfold mOp at *
  simp only [hj] at *
  rw [wanted_put oj a oi.dst v h1] at h
  split
  · rename_i hw
    simp only [hw, if_true] at h
    unfold mwp at *
    rw [execOp_put oj hsj a oi.dst v h1] at h
    rcases h with ⟨u, w', hr, hb, hk⟩ | ⟨f, args, hr, hc⟩
    · exact .inl ⟨u, w', hr, hb, keep u w' hb, by rw [← Act.put_comm a v u h2]; exact hk⟩
    · exact .inr ⟨f, args, hr, hc.mono fun e w'' ⟨u, he, hb, hk⟩ => ⟨u, he, hb, keep u w'' hb, by rw [← Act.put_comm a v u h2]; exact hk⟩⟩
  · rename_i hw
    simp only [hw] at h
    exact ⟨keep _ _ (Below.refl _ _), by rw [← Act.put_comm a v undef h2]; exact h⟩

def wpAnyM (P : Program) (md : Region.Mode) (ops : Array Oper) (n : Nat) (T : Array Bool → Act → World → Prop) : Nat → Array Bool → Act → World → Prop
  | 0, listed, a, w => T listed a w
  | f + 1, listed, a, w => Region.ready md ops listed ≠ [] ∧ ∀ i ∈ Region.ready md ops listed, i < n ∧ mOp P ops i (wpAnyM P md ops n T f (listed.setIfInBounds i true)) a w

theorem wpAny_of_anyM {ro : Option Nat} {n g : Nat} {T : Array Bool → Act → World → Prop} {Q : Exit → Act → World → Prop} (hT : ∀ listed a w, T listed a w → wpAnyIn (fc ro) 0 P md ops Q g listed a w) :
    ∀ (f : Nat) (listed : Array Bool) (a : Act) (w : World), wpAnyM P md ops n T f listed a w → wpAnyIn (fc ro) 0 P md ops Q (f + g) listed a w
  | 0, listed, a, w, h => by rw [Nat.zero_add]; exact hT _ _ _ h
  | f + 1, listed, a, w, h => by
    rw [show f + 1 + g = (f + g) + 1 by omega]
    exact ⟨fun h0 => absurd h0 h.1, fun i hi => wpOpIn_mono (fun a' w' h' => wpAny_of_anyM hT f _ a' w' h') (wpOp_of_mOp (h.2 i hi).2)⟩

def TailWaits (md : Region.Mode) (ops : Array Oper) (n : Nat) : Prop := ∀ listed, HeadInv md ops n listed → ∀ i, i < n → listed.getD i true = false → ∀ t, n ≤ t → t ∉ Region.ready md ops listed

theorem wpAnyM_first {n i : Nat} {oi : Oper} {v : Value} {T : Array Bool → Act → World → Prop} (hi : ops[i]? = some oi) (hsel : ∀ (j : Nat) (o : Oper) cs b, ops[j]? = some o → o.op ≠ .select cs b)
    (htw : TailWaits md ops n) (hin : i < n) (hdone : ∀ listed a w, T listed a w → ∀ j ∈ Region.ready md ops listed, n ≤ j) :
    ∀ (f : Nat) (listed : Array Bool) (a : Act) (w : World), HeadInv md ops n listed →
      (∀ j oj, ops[j]? = some oj → j ≠ i → listed.getD j true = false → (∀ e ∈ oj.after, Region.binds md e = true → e.on ≠ i) → oi.apart ops oj = true) →
      i ∈ Region.ready md ops listed → YieldsUp P ops oi v a w →
      wpAnyM P md ops n T f (listed.setIfInBounds i true) (a.put oi.dst v) w → wpAnyM P md ops n T (f + 1) listed a w := by
  intro f
  induction f with
  | zero =>
    intro listed a w inv _ hr hy H
    have hun := (mem_ready.1 hr).1
    refine ⟨fun h => (by rw [h] at hr; cases hr), fun j hj => ?_⟩
    have hjn : j < n := by
      rcases Nat.lt_or_ge j n with h | h
      · exact h
      · exact absurd hj (htw listed inv i hin hun j h)
    refine ⟨hjn, ?_⟩
    by_cases hji : j = i
    · subst hji; exact hy.mOp hi H
    · have := hdone _ _ _ H j (ready_mono hj hji)
      omega
  | succ f ih =>
    intro listed a w inv hfree hr hy H
    have hun := (mem_ready.1 hr).1
    refine ⟨fun h => (by rw [h] at hr; cases hr), fun j hj => ?_⟩
    have hjn : j < n := by
      rcases Nat.lt_or_ge j n with h | h
      · exact h
      · exact absurd hj (htw listed inv i hin hun j h)
    refine ⟨hjn, ?_⟩
    by_cases hji : j = i
    · subst hji; exact hy.mOp hi H
    · have h1 := (H.2 j (ready_mono hj hji)).2
      obtain ⟨hjun, oj, hoj, hall⟩ := mem_ready.1 hj
      have hnot : ∀ e ∈ oj.after, Region.binds md e = true → e.on ≠ i := fun e he hb heq => by
        have h1 := hall e he hb
        rw [heq, getD_both hun] at h1
        cases h1
      have h2 := mOp_put hoj (hfree j oj hoj hji hjun hnot) (fun cs b => hsel i oi cs b hi) (fun cs b => hsel j oj cs b hoj) hy h1
      have hfree' : ∀ k ok, ops[k]? = some ok → k ≠ i → (listed.setIfInBounds j true).getD k true = false →
          (∀ e ∈ ok.after, Region.binds md e = true → e.on ≠ i) → oi.apart ops ok = true := fun k ok hk hki hun hno => by
        refine hfree k ok hk hki ?_ hno
        by_cases hjk : j = k
        · subst hjk; exact hjun
        · rw [getD_set_ne true hjk] at hun; exact hun
      refine mOp_mono (fun a' w' _ h3 => ih (listed.setIfInBounds j true) a' w' (inv.set hj hjn) hfree' (ready_mono hr (Ne.symm hji)) h3.1 ?_) h2
      rw [Array.setIfInBounds_comm _ _ hji]
      exact h3.2

def flowB (md : Region.Mode) (ops : Array Oper) (n : Nat) : List (Nat × Bool) → Array Bool → Bool
  | [], listed => Region.seqB md ops (ops.size - n) n listed
  | (k, false) :: t, listed => Nat.blt k n && (Region.ready md ops listed).contains k && Region.free md ops listed k && flowB md ops n t (listed.setIfInBounds k true)
  | (k, true) :: t, listed => Nat.blt k n && decide (Region.ready md ops listed = [k]) && flowB md ops n t (listed.setIfInBounds k true)
def flowOk (ops : Array Oper) (n : Nat) (ord : List (Nat × Bool)) : Bool :=
  Region.noSelect ops && (decide (n = ops.size) || (Nat.blt n ops.size && Region.sinkB .any ops n && Region.chainB .any ops n)) && decide (ord.length = n) && Nat.ble n ops.size &&
    flowB .any ops n ord (Array.replicate ops.size false)

variable {N : Fr} {B : Nat} {w0 : World}
def Wanted (ops : Array Oper) (N : Fr) (E : Env) (o : Oper) (c : Bool) : Prop :=
  (o.guard = none ∧ c = true) ∨ ((∃ j want d' b, o.guard = some (j, want) ∧ (ops[j]?).bind (·.dst) = some d' ∧ Nat.blt d' N.n = true ∧ lk E d' = some (.bool b) ∧ (b == want) = c) ∨ (∃ j want d', o.guard = some (j, want) ∧ (ops[j]?).bind (·.dst) = some d' ∧ Nat.blt d' N.n = true ∧ lk E d' = some undef ∧ c = false))
theorem Wanted.is {E : Env} {rs : List Res} {o : Oper} {c : Bool} (h : Wanted ops N E o c) {a : Act} {w : World} (hs : Sat N B w0 E rs a w) : Region.wanted o (yielded ops a.tmps) = c := by
  rcases h with ⟨hg, rfl⟩ | ⟨j, want, d', b, hg, hj, hN, hE, hc⟩ | ⟨j, want, d', hg, hj, hN, hE, rfl⟩
  · simp [Region.wanted, hg]
  · rw [wanted_guard hg hj hE hs hN, hc]
  · exact wanted_undef hg hj hE hs hN

def W (P : Program) (ops : Array Oper) (N : Fr) (B : Nat) (w0 : World) (fin : Env → List Res → Prop) : List (Nat × Bool) → Env → List Res → Prop
  | [], E, rs => fin E rs
  | (k, false) :: t, E, rs => ∃ o d v, ops[k]? = some o ∧ o.dst = some d ∧ Nat.blt d N.n = true ∧
      ((Wanted ops N E o true ∧ Qu P N B w0 E rs o v) ∨ (Wanted ops N E o false ∧ v = undef)) ∧ W P ops N B w0 fin t ((d, v) :: E) rs
  | (k, true) :: t, E, rs => ∃ o d, ops[k]? = some o ∧ o.dst = some d ∧ Nat.blt d N.n = true ∧
      ((∃ post, Wanted ops N E o true ∧ Lo P N B w0 E rs o post ∧ ∀ v rs', post v rs' → W P ops N B w0 fin t ((d, v) :: E) (rs' ++ rs)) ∨ (Wanted ops N E o false ∧ W P ops N B w0 fin t ((d, undef) :: E) rs))

theorem lo_mwp {E : Env} {rs : List Res} {o : Oper} {post : Value → List Res → Prop} {d : Nat} {a : Act} {w : World} {K : Act → World → Prop}
    (hd : o.dst = some d) (hN : Nat.blt d N.n = true) (hq : Lo P N B w0 E rs o post) (hs : Sat N B w0 E rs a w) (hK : ∀ v rs' a' w', post v rs' → Sat N B w0 ((d, v) :: E) (rs' ++ rs) a' w' → K a' w') : mwp P o a w K := by
  rcases hq a w hs with ⟨v, w', rs', hr, hb, hp, hrs, hdj⟩ | ⟨f, args, hr, hc⟩
  · exact .inl ⟨v, w', hr, hb, hd ▸ hK v rs' _ _ hp (hs.put hN v (hs.ws.more hb hrs hdj))⟩
  · refine .inr ⟨f, args, hr, hc.mono ?_⟩
    rintro e w'' ⟨v, rs', rfl, hb, hp, hrs, hdj⟩
    exact ⟨v, rfl, hb, hd ▸ hK v rs' _ _ hp (hs.put hN v (hs.ws.more hb hrs hdj))⟩

theorem flow_sound {n : Nat} {fin : Env → List Res → Prop} (hsel : Region.noSelect ops = true) (htw : TailWaits md ops n) :
    ∀ (ord : List (Nat × Bool)) (listed : Array Bool) (a : Act) (w : World) (E : Env) (rs : List Res), flowB md ops n ord listed = true → HeadInv md ops n listed → Sat N B w0 E rs a w → W P ops N B w0 fin ord E rs →
    wpAnyM P md ops n (fun listed' a' w' => Region.seqB md ops (ops.size - n) n listed' = true ∧ ∃ E' rs', fin E' rs' ∧ Sat N B w0 E' rs' a' w') ord.length listed a w
  | [], listed, a, w, E, rs, hB, _, hs, h => ⟨hB, E, rs, h, hs⟩
  | (k, false) :: t, listed, a, w, E, rs, hB, inv, hs, h => by
    simp only [flowB, Bool.and_eq_true] at hB
    obtain ⟨⟨⟨hkn, hr⟩, hf⟩, hB'⟩ := hB
    obtain ⟨o, d, v, ho, hd, hN, hq, hW⟩ := h
    have hkn' := blt_lt hkn
    have hr' : k ∈ Region.ready md ops listed := by simpa using hr
    have hy : YieldsUp P ops o v a w := by
      rcases hq with ⟨hw, hq⟩ | ⟨hw, hv⟩
      · exact .inl ⟨hw.is hs, fun w' hb => hq a w' (hs.world (hs.ws.later hb))⟩
      · exact .inr ⟨hw.is hs, hv⟩
    exact wpAnyM_first ho (Region.noSelect_spec hsel) htw hkn' (fun listed' a' w' h' => seqB_ready h'.1) _ listed a w inv (Region.free_spec ho hf) hr' hy
      (flow_sound hsel htw t _ _ _ _ _ hB' (inv.set hr' hkn') (by rw [hd]; exact hs.put hN v hs.ws) hW)
  | (k, true) :: t, listed, a, w, E, rs, hB, inv, hs, h => by
    simp only [flowB, Bool.and_eq_true, decide_eq_true_eq] at hB
    obtain ⟨⟨hkn, hr⟩, hB'⟩ := hB
    obtain ⟨o, d, ho, hd, hN, h⟩ := h
    have hkn' := blt_lt hkn
    refine ⟨fun h0 => (by rw [hr] at h0; cases h0), fun i hi => ?_⟩
    have hik : i = k := by rw [hr] at hi; simpa using hi
    subst hik
    refine ⟨hkn', ?_⟩
    unfold mOp
    rcases h with ⟨post, hw, hq, hW⟩ | ⟨hw, hW⟩
    · simp only [ho, hw.is hs, if_true]
      exact lo_mwp hd hN hq hs fun v rs' a' w' hp hs' => flow_sound hsel htw t _ _ _ _ _ hB' (inv.set hi hkn') hs' (hW v rs' hp)
    · simp only [ho, hw.is hs, Bool.false_eq_true, if_false]
      exact flow_sound hsel htw t _ _ _ _ _ hB' (inv.set hi hkn') (by rw [hd]; exact hs.put hN undef hs.ws) hW

theorem C_draw {id n : Nat} {l : List Oper} {Q : Exit → Act → World → Prop} {E : Env} {rs : List Res} (ord : List (Nat × Bool)) (hm : P.follows .mixedOrders = true) (hB : flowOk l.toArray n ord = true)
    (h : W P l.toArray N B w0 (fun E' rs' => L P l.toArray Q N B w0 E' rs' (l.drop n)) ord E rs) : C P Q N B w0 E rs (.region id l.toArray true) := by
  intro a w hs
  simp only [flowOk, Bool.and_eq_true, decide_eq_true_eq, Bool.or_eq_true, Nat.ble_eq] at hB
  obtain ⟨⟨⟨⟨hsel, hn⟩, hol⟩, hle⟩, hfl⟩ := hB
  have htw : TailWaits .any l.toArray n := by
    intro listed inv i hin hun t ht
    rcases hn with hn | ⟨⟨hn, hsk⟩, hch⟩
    · intro hr
      obtain ⟨_, o, ho, _⟩ := mem_ready.1 hr
      have := (Array.getElem?_eq_some_iff.1 ho).1
      omega
    · exact tail_waits hsk hch (blt_lt hn) inv _ i rfl hin hun t ht
  have hsz : l.toArray.size = l.length := by simp
  have hdl : (l.drop n).length = l.toArray.size - n := by simp
  have inv0 : HeadInv .any l.toArray n (Array.replicate l.toArray.size false) :=
    ⟨by simp, fun j oj _ hl => (by rw [getD_replicate_false] at hl; cases hl), fun t _ ht => getD_in (by simpa using ht) (getD_replicate_false _ _)⟩
  have hs' : Sat N B w0 E rs a w.drew := hs.world (hs.ws.later ⟨rfl, rfl, rfl, Nat.le_refl _, fun _ _ => rfl⟩)
  have H := flow_sound (md := .any) hsel htw ord _ _ _ _ _ hfl inv0 hs' h
  refine wpIn_region_any hm ?_
  have := wpAny_of_anyM (ro := N.ro) (Q := Q) (g := l.toArray.size - n) (fun listed a' w' hT => by
    obtain ⟨h1, E', rs', h2, h3⟩ := hT
    have := wpAnyIn_of_seq (ro := N.ro) (md := .any) (Q' := Q) (l.drop n) n listed a' w' (fun j => by simp [List.getElem?_drop]) (by rw [hdl]; exact h1) (h2 a' w' h3)
    rwa [hdl] at this) _ _ _ _ H
  rw [hol, show n + (l.toArray.size - n) = l.toArray.size by omega] at this
  exact this

/-! ### The steps of such a walk -/
variable {fin : Env → List Res → Prop} {E : Env} {rs : List Res} {t : List (Nat × Bool)} {k d : Nat} {o : Oper}
theorem W_nil (h : fin E rs) : W P ops N B w0 fin [] E rs := h
theorem W_q {v : Value} (ho : ops[k]? = some o) (hd : o.dst = some d) (hg : o.guard = none) (hN : Nat.blt d N.n = true) (hq : Qu P N B w0 E rs o v) (h : W P ops N B w0 fin t ((d, v) :: E) rs) : W P ops N B w0 fin ((k, false) :: t) E rs :=
  ⟨o, d, v, ho, hd, hN, .inl ⟨.inl ⟨hg, rfl⟩, hq⟩, h⟩
theorem W_qg {v : Value} {j d' : Nat} {want b : Bool} (ho : ops[k]? = some o) (hd : o.dst = some d) (hg : o.guard = some (j, want)) (hN : Nat.blt d N.n = true) (hj : (ops[j]?).bind (·.dst) = some d') (hdN : Nat.blt d' N.n = true)
    (hE : lk E d' = some (.bool b)) (hb : (b == want) = true) (hq : Qu P N B w0 E rs o v) (h : W P ops N B w0 fin t ((d, v) :: E) rs) : W P ops N B w0 fin ((k, false) :: t) E rs :=
  ⟨o, d, v, ho, hd, hN, .inl ⟨.inr (.inl ⟨j, want, d', b, hg, hj, hdN, hE, hb⟩), hq⟩, h⟩
theorem W_skip {j d' : Nat} {want b : Bool} (ho : ops[k]? = some o) (hd : o.dst = some d) (hg : o.guard = some (j, want)) (hN : Nat.blt d N.n = true) (hj : (ops[j]?).bind (·.dst) = some d') (hdN : Nat.blt d' N.n = true)
    (hE : lk E d' = some (.bool b)) (hb : (b == want) = false) (h : W P ops N B w0 fin t ((d, undef) :: E) rs) : W P ops N B w0 fin ((k, false) :: t) E rs :=
  ⟨o, d, undef, ho, hd, hN, .inr ⟨.inr (.inl ⟨j, want, d', b, hg, hj, hdN, hE, hb⟩), rfl⟩, h⟩
theorem W_lo {post : Value → List Res → Prop} (ho : ops[k]? = some o) (hd : o.dst = some d) (hg : o.guard = none) (hN : Nat.blt d N.n = true) (hq : Lo P N B w0 E rs o post)
    (h : ∀ v rs', post v rs' → W P ops N B w0 fin t ((d, v) :: E) (rs' ++ rs)) : W P ops N B w0 fin ((k, true) :: t) E rs :=
  ⟨o, d, ho, hd, hN, .inl ⟨post, .inl ⟨hg, rfl⟩, hq, h⟩⟩
theorem W_log {post : Value → List Res → Prop} {j d' : Nat} {want b : Bool} (ho : ops[k]? = some o) (hd : o.dst = some d) (hg : o.guard = some (j, want)) (hN : Nat.blt d N.n = true) (hj : (ops[j]?).bind (·.dst) = some d') (hdN : Nat.blt d' N.n = true)
    (hE : lk E d' = some (.bool b)) (hb : (b == want) = true) (hq : Lo P N B w0 E rs o post) (h : ∀ v rs', post v rs' → W P ops N B w0 fin t ((d, v) :: E) (rs' ++ rs)) : W P ops N B w0 fin ((k, true) :: t) E rs :=
  ⟨o, d, ho, hd, hN, .inl ⟨post, .inr (.inl ⟨j, want, d', b, hg, hj, hdN, hE, hb⟩), hq, h⟩⟩
theorem W_skipl {j d' : Nat} {want b : Bool} (ho : ops[k]? = some o) (hd : o.dst = some d) (hg : o.guard = some (j, want)) (hN : Nat.blt d N.n = true) (hj : (ops[j]?).bind (·.dst) = some d') (hdN : Nat.blt d' N.n = true)
    (hE : lk E d' = some (.bool b)) (hb : (b == want) = false) (h : W P ops N B w0 fin t ((d, undef) :: E) rs) : W P ops N B w0 fin ((k, true) :: t) E rs :=
  ⟨o, d, ho, hd, hN, .inr ⟨.inr (.inl ⟨j, want, d', b, hg, hj, hdN, hE, hb⟩), h⟩⟩

theorem Yq {op : Op} {ty : TypeId} {pos : String} {aft : Array Edge} {v : Value} (ho : ops[k]? = some ⟨some d, op, ty, pos, aft, none⟩) (hq : Qu P N B w0 E rs ⟨some d, op, ty, pos, aft, none⟩ v) (h : W P ops N B w0 fin t ((d, v) :: E) rs) (hN : Nat.blt d N.n = true := by exact rfl) : W P ops N B w0 fin ((k, false) :: t) E rs := W_q ho rfl rfl hN hq h
theorem Yg {j d' : Nat} {want b : Bool} {op : Op} {ty : TypeId} {pos : String} {aft : Array Edge} {v : Value} (ho : ops[k]? = some ⟨some d, op, ty, pos, aft, some (j, want)⟩) (hq : Qu P N B w0 E rs ⟨some d, op, ty, pos, aft, some (j, want)⟩ v) (h : W P ops N B w0 fin t ((d, v) :: E) rs) (hN : Nat.blt d N.n = true := by exact rfl) (hj : (ops[j]?).bind (·.dst) = some d' := by exact rfl) (hdN : Nat.blt d' N.n = true := by exact rfl) (hE : lk E d' = some (.bool b) := by exact rfl)
    (hb : (b == want) = true := by exact rfl) : W P ops N B w0 fin ((k, false) :: t) E rs := W_qg ho rfl rfl hN hj hdN hE hb hq h
theorem Yk {j d' : Nat} {want b : Bool} {op : Op} {ty : TypeId} {pos : String} {aft : Array Edge} (ho : ops[k]? = some ⟨some d, op, ty, pos, aft, some (j, want)⟩) (h : W P ops N B w0 fin t ((d, undef) :: E) rs) (hN : Nat.blt d N.n = true := by exact rfl) (hj : (ops[j]?).bind (·.dst) = some d' := by exact rfl) (hdN : Nat.blt d' N.n = true := by exact rfl) (hE : lk E d' = some (.bool b) := by exact rfl)
    (hb : (b == want) = false := by exact rfl) : W P ops N B w0 fin ((k, false) :: t) E rs := W_skip ho rfl rfl hN hj hdN hE hb h
theorem Ykl {j d' : Nat} {want b : Bool} {op : Op} {ty : TypeId} {pos : String} {aft : Array Edge} (ho : ops[k]? = some ⟨some d, op, ty, pos, aft, some (j, want)⟩) (h : W P ops N B w0 fin t ((d, undef) :: E) rs) (hN : Nat.blt d N.n = true := by exact rfl) (hj : (ops[j]?).bind (·.dst) = some d' := by exact rfl) (hdN : Nat.blt d' N.n = true := by exact rfl) (hE : lk E d' = some (.bool b) := by exact rfl)
    (hb : (b == want) = false := by exact rfl) : W P ops N B w0 fin ((k, true) :: t) E rs := W_skipl ho rfl rfl hN hj hdN hE hb h

/-! ### Cases on a truth value in the midst of such a walk -/
def leE (E E' : Env) : Prop := ∀ i v, lk E' i = some v → lk E i = some v
theorem leE.cons {E E' : Env} (h : leE E E') (d : Nat) (v : Value) : leE ((d, v) :: E) ((d, v) :: E') := by
  intro i u hu
  rw [lk_cons] at hu ⊢
  by_cases hi : i = d
  · rw [if_pos hi] at hu ⊢; exact hu
  · rw [if_neg hi] at hu ⊢; exact h i u hu
theorem Sat.le {E E' : Env} {a : Act} {w : World} (hs : Sat N B w0 E rs a w) (h : leE E E') : Sat N B w0 E' rs a w := ⟨hs.ws, hs.size, hs.dfr, fun i v hv => hs.env i v (h i v hv)⟩
theorem Wanted.le {E E' : Env} {c : Bool} (hw : Wanted ops N E' o c) (h : leE E E') : Wanted ops N E o c :=
  or_map hw id (fun q => or_map q (fun ⟨j, want, d', b, h1, h2, h3, h4, h5⟩ => ⟨j, want, d', b, h1, h2, h3, h _ _ h4, h5⟩) (fun ⟨j, want, d', h1, h2, h3, h4, h5⟩ => ⟨j, want, d', h1, h2, h3, h _ _ h4, h5⟩))
theorem W.le {Q : Exit → Act → World → Prop} {ops' : Array Oper} {tl : List Oper} : ∀ (ord : List (Nat × Bool)) (E E' : Env) (rs : List Res), leE E E' →
    W P ops N B w0 (fun E1 rs1 => L P ops' Q N B w0 E1 rs1 tl) ord E' rs → W P ops N B w0 (fun E1 rs1 => L P ops' Q N B w0 E1 rs1 tl) ord E rs
  | [], _, _, _, h, hW => fun a w hs => hW a w (hs.le h)
  | (_, false) :: t, _, _, _, h, ⟨o, d, v, h1, h2, h3, h4, h5⟩ =>
    ⟨o, d, v, h1, h2, h3, or_map h4 (fun ⟨x, y⟩ => ⟨x.le h, fun a w hs => y a w (hs.le h)⟩) (fun ⟨x, y⟩ => ⟨x.le h, y⟩), W.le t _ _ _ (h.cons d v) h5⟩
  | (_, true) :: t, _, _, _, h, ⟨o, d, h1, h2, h3, h4⟩ =>
    ⟨o, d, h1, h2, h3, or_map h4 (fun ⟨post, x, y, z⟩ => ⟨post, x.le h, fun a w hs => y a w (hs.le h), fun v rs' hp => W.le t _ _ _ (h.cons d v) (z v rs' hp)⟩) (fun ⟨x, y⟩ => ⟨x.le h, W.le t _ _ _ (h.cons d undef) y⟩)⟩
theorem W_bool {Q : Exit → Act → World → Prop} {ops' : Array Oper} {tl : List Oper} {b : Bool} (hE : lk E d = some (.bool b)) (ht : b = true → W P ops N B w0 (fun E1 rs1 => L P ops' Q N B w0 E1 rs1 tl) t ((d, .bool true) :: E) rs)
    (hf : b = false → W P ops N B w0 (fun E1 rs1 => L P ops' Q N B w0 E1 rs1 tl) t ((d, .bool false) :: E) rs) : W P ops N B w0 (fun E1 rs1 => L P ops' Q N B w0 E1 rs1 tl) t E rs := by
  have key : ∀ c : Bool, b = c → leE E ((d, .bool c) :: E) := fun c hc i u hu => by
    rw [lk_cons] at hu
    by_cases hi : i = d
    · rw [if_pos hi] at hu
      subst hi; subst hc
      rw [hE, hu]
    · rw [if_neg hi] at hu; exact hu
  cases hb : b with
  | true => exact W.le _ _ _ _ (key true hb) (ht hb)
  | false => exact W.le _ _ _ _ (key false hb) (hf hb)
theorem W_dec {Q : Exit → Act → World → Prop} {ops' : Array Oper} {tl : List Oper} {p : Prop} [Decidable p] (hE : lk E d = some (.bool (decide p))) (ht : p → W P ops N B w0 (fun E1 rs1 => L P ops' Q N B w0 E1 rs1 tl) t ((d, .bool true) :: E) rs)
    (hf : ¬ p → W P ops N B w0 (fun E1 rs1 => L P ops' Q N B w0 E1 rs1 tl) t ((d, .bool false) :: E) rs) : W P ops N B w0 (fun E1 rs1 => L P ops' Q N B w0 E1 rs1 tl) t E rs :=
  W_bool hE (fun h => ht (of_decide_eq_true h)) (fun h => hf (of_decide_eq_false h))
end
end Go.Proofs.Ytdmnejfpbbmcaaa
