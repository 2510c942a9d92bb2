/-
  The calculus: regions that draw their order and write to memory that they have made, in the midst of what they read. Conditions: none; no program in sight.
-/
import Derived.Test.YtdmnejfpbbmcaaaShPair
namespace Go.Proofs.Ytdmnejfpbbmcaaa
open Go.RowKit

section
variable {P : Program} {ops : Array Oper} {md : Region.Mode} {N : Fr} {B : Nat} {w0 : World} {B0 : Nat}
def bwp (P : Program) (B0 : Nat) (o : Oper) (a : Act) (w : World) (K : Act → World → Prop) : Prop :=
  (∃ v w', (execOp a.eval o).run P w = .ok (.value v) w' ∧ Below B0 w w' ∧ K (a.put o.dst v) w') ∨ (∃ w', (execOp a.eval o).run P w = .ok .skip w' ∧ Below B0 w w' ∧ K (a.put o.dst undef) w') ∨
  (∃ f args, (execOp a.eval o).run P w = .ok (.enter f args) w ∧ Calls P f args w fun e w'' => ∃ v, e = .returned v ∧ Below B0 w w'' ∧ K (a.put o.dst v) w'')
def bOp (P : Program) (B0 : Nat) (ops : Array Oper) (i : Nat) (K : Act → World → Prop) (a : Act) (w : World) : Prop :=
  match ops[i]? with
  | none => K a w
  | some o => if Region.wanted o (yielded ops a.tmps) then bwp P B0 o a w K else K (a.put o.dst undef) w
theorem bwp_mono {o : Oper} {a : Act} {w : World} {K K' : Act → World → Prop} (h : ∀ a w', Below B0 w w' → K a w' → K' a w') (hh : bwp P B0 o a w K) : bwp P B0 o a w K' := by
  rcases hh with ⟨v, w', hr, hb, hk⟩ | ⟨w', hr, hb, hk⟩ | ⟨f, args, hr, hc⟩
  · exact .inl ⟨v, w', hr, hb, h _ _ hb hk⟩
  · exact .inr (.inl ⟨w', hr, hb, h _ _ hb hk⟩)
  · exact .inr (.inr ⟨f, args, hr, hc.mono fun e w'' ⟨v, he, hb, hk⟩ => ⟨v, he, hb, h _ _ hb hk⟩⟩)
theorem bOp_mono {i : Nat} {a : Act} {w : World} {K K' : Act → World → Prop} (h : ∀ a w', Below B0 w w' → K a w' → K' a w') (hh : bOp P B0 ops i K a w) : bOp P B0 ops i K' a w := by
  unfold bOp at *
  split
  · exact h _ _ (Below.refl _ _) (by simpa [*] using hh)
  · rename_i o ho
    simp only [ho] at hh
    split
    · rename_i hw; simp only [hw, if_true] at hh; exact bwp_mono h hh
    · rename_i hw; simp only [hw] at hh; exact h _ _ (Below.refl _ _) hh
theorem wp_of_bwp {ro : Option Nat} {Q : Exit → Act → World → Prop} {o : Oper} {a : Act} {w : World} {K : Act → World → Prop} (hh : bwp P B0 o a w K) : o.wpIn (fc ro) 0 P a w K Q := by
  rcases hh with ⟨v, w', hr, _, hk⟩ | ⟨w', hr, _, hk⟩ | ⟨f, args, hr, hc⟩
  · exact wpIn_value hr hk
  · exact wpIn_quiet hr hk
  · refine wpIn_calls hr (hc.mono ?_)
    rintro e w'' ⟨v, he, _, hk⟩
    exact ⟨v, he, hk⟩
theorem wpOp_of_bOp {ro : Option Nat} {Q : Exit → Act → World → Prop} {i : Nat} {a : Act} {w : World} {K : Act → World → Prop} (hh : bOp P B0 ops i K a w) : wpOpIn (fc ro) 0 P ops Q i K a w := by
  unfold bOp at hh
  unfold wpOpIn
  split
  · rename_i ho; simpa [ho] using hh
  · rename_i o ho
    simp only [ho] at hh
    split
    · rename_i hw; simp only [hw, if_true] at hh; exact wp_of_bwp hh
    · rename_i hw; simp only [hw] at hh; exact ⟨fun _ _ => trivial, hh⟩
def YieldsB (P : Program) (B0 : Nat) (ops : Array Oper) (o : Oper) (v : Value) (a : Act) (w : World) : Prop :=
  (Region.wanted o (yielded ops a.tmps) = true ∧ ∀ w', Below B0 w w' → (execOp a.eval o).run P w' = .ok (.value v) w') ∨ (Region.wanted o (yielded ops a.tmps) = false ∧ v = undef)
theorem YieldsB.bOp {i : Nat} {o : Oper} {v : Value} {a : Act} {w : World} (hi : ops[i]? = some o) (hy : YieldsB P B0 ops o v a w) {K : Act → World → Prop} (h : K (a.put o.dst v) w) : bOp P B0 ops i K a w := by
  unfold Ytdmnejfpbbmcaaa.bOp
  simp only [hi]
  rcases hy with ⟨hw, hv⟩ | ⟨hw, rfl⟩
  · simp only [hw, if_true]; exact .inl ⟨v, w, hv w (Below.refl _ _), Below.refl _ _, h⟩
  · simp only [hw, Bool.false_eq_true, if_false]; exact h
theorem YieldsB.of_same {o : Oper} {v : Value} {a a' : Act} {w w' : World} (hy : YieldsB P B0 ops o v a w) (he : execOp a'.eval o = execOp a.eval o)
    (hw : Region.wanted o (yielded ops a'.tmps) = Region.wanted o (yielded ops a.tmps)) (hb : Below B0 w w') : YieldsB P B0 ops o v a' w' := by
  unfold YieldsB at *
  rw [he, hw]
  exact or_map hy (fun ⟨h1, h2⟩ => ⟨h1, fun w'' hb' => h2 w'' (hb.trans hb')⟩) id
theorem bOp_put {j : Nat} {oi oj : Oper} {v : Value} (hj : ops[j]? = some oj) (hap : oi.apart ops oj = true)
    (hsi : ∀ cs b, oi.op ≠ .select cs b) (hsj : ∀ cs b, oj.op ≠ .select cs b) {K : Act → World → Prop} {a : Act} {w : World}
    (hy : YieldsB P B0 ops oi v a w) (h : bOp P B0 ops j K (a.put oi.dst v) w) :
    bOp P B0 ops j (fun a' w' => YieldsB P B0 ops oi v a' w' ∧ K (a'.put oi.dst v) w') a w := by
  obtain ⟨h1, h2, h3⟩ := Oper.apart_spec hap
  have keep : ∀ u w', Below B0 w w' → YieldsB P B0 ops oi v (a.put oj.dst u) w' := fun u w' hb =>
    hy.of_same (execOp_put oi hsi a oj.dst u h3) (wanted_put oi a oj.dst u h3) hb
  unfold bOp at *
  simp only [hj] at *
  rw [wanted_put oj a oi.dst v h1] at h
  split
  · rename_i hw
    simp only [hw, if_true] at h
    unfold bwp at *
    rw [execOp_put oj hsj a oi.dst v h1] at h
    rcases h with ⟨u, w', hr, hb, hk⟩ | ⟨w', hr, hb, hk⟩ | ⟨f, args, hr, hc⟩
    · exact .inl ⟨u, w', hr, hb, keep u w' hb, by rw [← Act.put_comm a v u h2]; exact hk⟩
    · exact .inr (.inl ⟨w', hr, hb, keep undef w' hb, by rw [← Act.put_comm a v undef h2]; exact hk⟩)
    · exact .inr (.inr ⟨f, args, hr, hc.mono fun e w'' ⟨u, he, hb, hk⟩ => ⟨u, he, hb, keep u w'' hb, by rw [← Act.put_comm a v u h2]; exact hk⟩⟩)
  · rename_i hw
    simp only [hw] at h
    exact ⟨keep _ _ (Below.refl _ _), by rw [← Act.put_comm a v undef h2]; exact h⟩
def wpAnyB (P : Program) (B0 : Nat) (md : Region.Mode) (ops : Array Oper) (T : Act → World → Prop) : Nat → Array Bool → Act → World → Prop
  | 0, listed, a, w => Region.ready md ops listed = [] ∧ T a w
  | f + 1, listed, a, w => Region.ready md ops listed ≠ [] ∧ ∀ i ∈ Region.ready md ops listed, bOp P B0 ops i (wpAnyB P B0 md ops T f (listed.setIfInBounds i true)) a w
theorem wpAny_of_anyB {ro : Option Nat} {T : Act → World → Prop} {Q : Exit → Act → World → Prop} (hT : ∀ listed a w, Region.ready md ops listed = [] → T a w → wpAnyIn (fc ro) 0 P md ops Q 0 listed a w) :
    ∀ (f : Nat) (listed : Array Bool) (a : Act) (w : World), wpAnyB P B0 md ops T f listed a w → wpAnyIn (fc ro) 0 P md ops Q f listed a w
  | 0, _, _, _, h => hT _ _ _ h.1 h.2
  | f + 1, _, _, _, h => ⟨fun h0 => absurd h0 h.1, fun i hi => wpOpIn_mono (fun a' w' h' => wpAny_of_anyB hT f _ a' w' h') (wpOp_of_bOp (h.2 i hi))⟩
theorem wpAnyB_first {i : Nat} {oi : Oper} {v : Value} {T : Act → World → Prop} (hi : ops[i]? = some oi) (hsel : ∀ (j : Nat) (o : Oper) cs b, ops[j]? = some o → o.op ≠ .select cs b) :
    ∀ (f : Nat) (listed : Array Bool) (a : Act) (w : World), listed.size = ops.size →
      (∀ j oj, ops[j]? = some oj → j ≠ i → listed.getD j true = false → (∀ e ∈ oj.after, Region.binds md e = true → e.on ≠ i) → oi.apart ops oj = true) →
      i ∈ Region.ready md ops listed → YieldsB P B0 ops oi v a w →
      wpAnyB P B0 md ops T f (listed.setIfInBounds i true) (a.put oi.dst v) w → wpAnyB P B0 md ops T (f + 1) listed a w := by
  intro f
  induction f with
  | zero =>
    intro listed a w hsz _ hr hy H
    refine ⟨fun h => (by rw [h] at hr; cases hr), fun j hj => ?_⟩
    by_cases hji : j = i
    · subst hji; exact hy.bOp hi H
    · have := ready_mono hj hji
      rw [H.1] at this
      cases this
  | succ f ih =>
    intro listed a w hsz hfree hr hy H
    refine ⟨fun h => (by rw [h] at hr; cases hr), fun j hj => ?_⟩
    have hun := (mem_ready.1 hr).1
    by_cases hji : j = i
    · subst hji; exact hy.bOp hi H
    · have h1 := H.2 j (ready_mono hj hji)
      obtain ⟨hjun, oj, hoj, hall⟩ := mem_ready.1 hj
      have hnot : ∀ e ∈ oj.after, Region.binds md e = true → e.on ≠ i := fun e he hb heq => by
        have h1 := hall e he hb
        rw [heq, getD_both hun] at h1
        cases h1
      have h2 := bOp_put hoj (hfree j oj hoj hji hjun hnot) (fun cs b => hsel i oi cs b hi) (fun cs b => hsel j oj cs b hoj) hy h1
      have hfree' : ∀ k ok, ops[k]? = some ok → k ≠ i → (listed.setIfInBounds j true).getD k true = false →
          (∀ e ∈ ok.after, Region.binds md e = true → e.on ≠ i) → oi.apart ops ok = true := fun k ok hk hki hun hno => by
        refine hfree k ok hk hki ?_ hno
        by_cases hjk : j = k
        · subst hjk; exact hjun
        · rw [getD_set_ne true hjk] at hun; exact hun
      refine bOp_mono (fun a' w' _ h3 => ih (listed.setIfInBounds j true) a' w' (by simpa using hsz) hfree' (ready_mono hr (Ne.symm hji)) h3.1 ?_) h2
      rw [Array.setIfInBounds_comm _ _ hji]
      exact h3.2

/-! ### The walk: what is old, what is made -/
structure SatC (N : Fr) (B : Nat) (w0 : World) (B0 : Nat) (E : Env) (rn ro : List Res) (a : Act) (w : World) : Prop where
  s : Sat N B w0 E (rn ++ ro) a w
  b : B0 ≤ w.heap.size
  o : ∀ r ∈ ro, ∀ k, r.blk = some k → k < B0
  n : ∀ r ∈ rn, ∀ k, r.blk = some k → B0 ≤ k
inductive Stp
  | q (k : Nat)
  | s (k : Nat)
  | p (k1 k2 : Nat)
def So (P : Program) (N : Fr) (B : Nat) (w0 : World) (E : Env) (rn ro : List Res) (o : Oper) (rn' : List Res) : Prop :=
  ∀ B0 a w, B ≤ B0 → SatC N B w0 B0 E rn ro a w → ∃ w', (execOp a.eval o).run P w = .ok .skip w' ∧ Below B0 w w' ∧ SatC N B w0 B0 E rn' ro a w'
def X (P : Program) (ops : Array Oper) (N : Fr) (B : Nat) (w0 : World) (fin : Env → List Res → Prop) (ro : List Res) : List Stp → Env → List Res → Prop
  | [], E, rn => fin E (rn ++ ro)
  | .q k :: t, E, rn => ∃ o d v, ops[k]? = some o ∧ o.dst = some d ∧ Nat.blt d N.n = true ∧ ((Wanted ops N E o true ∧ Qu P N B w0 E ro o v) ∨ (Wanted ops N E o false ∧ v = undef)) ∧ X P ops N B w0 fin ro t ((d, v) :: E) rn
  | .s k :: t, E, rn => ∃ o, ops[k]? = some o ∧ o.guard = none ∧ ((∃ d post, o.dst = some d ∧ Nat.blt d N.n = true ∧ Lo P N B w0 E (rn ++ ro) o post ∧ ∀ v rs', post v rs' → X P ops N B w0 fin ro t ((d, v) :: E) (rs' ++ rn)) ∨
      (∃ rn', o.dst = none ∧ So P N B w0 E rn ro o rn' ∧ X P ops N B w0 fin ro t E rn'))
  | .p k1 k2 :: t, E, rn => ∃ d1 d2 t1 t2 ty1 ty2 p1 p2 a1 a2 zs1 zs2, d1 ≠ d2 ∧ ops[k1]? = some ⟨some d1, .alloc t1, ty1, p1, a1, none⟩ ∧ ops[k2]? = some ⟨some d2, .alloc t2, ty2, p2, a2, none⟩ ∧ Nat.blt d1 N.n = true ∧ Nat.blt d2 N.n = true ∧
      (∀ E rs, Lo P N B w0 E rs ⟨some d1, .alloc t1, ty1, p1, a1, none⟩ (isBox t1 zs1)) ∧ (∀ E rs, Lo P N B w0 E rs ⟨some d2, .alloc t2, ty2, p2, a2, none⟩ (isBox t2 zs2)) ∧
      ∀ g1 g2, X P ops N B w0 fin ro t ((d2, .pointer (some ⟨g2, 0, none⟩)) :: (d1, .pointer (some ⟨g1, 0, none⟩)) :: E) (box g2 t2 zs2 :: box g1 t1 zs1 :: rn)
def flowC (md : Region.Mode) (ops : Array Oper) : List Stp → Array Bool → Bool
  | [], listed => decide (Region.ready md ops listed = []) && decide (listed = Array.replicate ops.size true)
  | .q k :: t, listed => (Region.ready md ops listed).contains k && Region.free md ops listed k && flowC md ops t (listed.setIfInBounds k true)
  | .s k :: t, listed => decide (Region.ready md ops listed = [k]) && flowC md ops t (listed.setIfInBounds k true)
  | .p k1 k2 :: t, listed => decide (k1 ≠ k2) && (decide (Region.ready md ops listed = [k1, k2]) || decide (Region.ready md ops listed = [k2, k1])) && decide (Region.ready md ops (listed.setIfInBounds k1 true) = [k2]) && decide (Region.ready md ops (listed.setIfInBounds k2 true) = [k1]) &&
      flowC md ops t ((listed.setIfInBounds k1 true).setIfInBounds k2 true)
def stN : List Stp → Nat
  | [] => 0
  | .p _ _ :: t => stN t + 2
  | _ :: t => stN t + 1
theorem SatC.put {E : Env} {rn ro : List Res} {a : Act} {w : World} (h : SatC N B w0 B0 E rn ro a w) {d : Nat} (hd : Nat.blt d N.n = true) (v : Value) : SatC N B w0 B0 ((d, v) :: E) rn ro (a.put (some d) v) w := ⟨h.s.put hd v h.s.ws, h.b, h.o, h.n⟩
theorem lo_bwp {E : Env} {rn ro : List Res} {o : Oper} {post : Value → List Res → Prop} {d : Nat} {a : Act} {w : World} {K : Act → World → Prop}
    (hd : o.dst = some d) (hN : Nat.blt d N.n = true) (hq : Lo P N B w0 E (rn ++ ro) o post) (hs : SatC N B w0 B0 E rn ro a w) (hK : ∀ v rs' a' w', post v rs' → SatC N B w0 B0 ((d, v) :: E) (rs' ++ rn) ro a' w' → K a' w') : bwp P B0 o a w K := by
  have fin : ∀ v w' rs', Below w.heap.size w w' → post v rs' → (∀ r ∈ rs', r.ok B w' ∧ ∀ k, r.blk = some k → w.heap.size ≤ k) → Disj rs' → K (a.put o.dst v) w' := fun v w' rs' hb hp hrs hdj => by
    refine hK v rs' _ _ hp ⟨?_, Nat.le_trans hs.b hb.size, hs.o, fun r hr k hk => ?_⟩
    · rw [hd, List.append_assoc]
      exact hs.s.put hN v (hs.s.ws.more hb hrs hdj)
    · rcases List.mem_append.1 hr with h | h
      · exact Nat.le_trans hs.b ((hrs r h).2 k hk)
      · exact hs.n r h k hk
  rcases hq a w hs.s with ⟨v, w', rs', hr, hb, hp, hrs, hdj⟩ | ⟨f, args, hr, hc⟩
  · exact .inl ⟨v, w', hr, hb.mono hs.b, fin v w' rs' hb hp hrs hdj⟩
  · refine .inr (.inr ⟨f, args, hr, hc.mono ?_⟩)
    rintro e w'' ⟨v, rs', rfl, hb, hp, hrs, hdj⟩
    exact ⟨v, rfl, hb.mono hs.b, fin v w'' rs' hb hp hrs hdj⟩
theorem flow_soundC {fin : Env → List Res → Prop} {ro : List Res} (hsel : Region.noSelect ops = true) (hBB : B ≤ B0) :
    ∀ (ord : List Stp) (listed : Array Bool) (a : Act) (w : World) (E : Env) (rn : List Res), flowC md ops ord listed = true → listed.size = ops.size → SatC N B w0 B0 E rn ro a w → X P ops N B w0 fin ro ord E rn →
    wpAnyB P B0 md ops (fun a' w' => ∃ E' rs', fin E' rs' ∧ Sat N B w0 E' rs' a' w') (stN ord) listed a w
  | [], listed, a, w, E, rn, hB, _, hs, h => by
    simp only [flowC, Bool.and_eq_true, decide_eq_true_eq] at hB
    exact ⟨hB.1, E, _, h, hs.s⟩
  | .q k :: t, listed, a, w, E, rn, hB, hsz, hs, h => by
    simp only [flowC, Bool.and_eq_true] at hB
    obtain ⟨⟨hr, hf⟩, hB'⟩ := hB
    obtain ⟨o, d, v, ho, hd, hN, hq, hX⟩ := h
    have hr' : k ∈ Region.ready md ops listed := by simpa using hr
    have hy : YieldsB P B0 ops o v a w := by
      rcases hq with ⟨hw, hq⟩ | ⟨hw, hv⟩
      · refine .inl ⟨hw.is hs.s, fun w' hb => hq a w' ?_⟩
        have h1 := hs.s.ws.sub (List.sublist_append_right rn ro)
        refine hs.s.world ⟨h1.bel.trans (hb.mono hBB), Nat.le_trans h1.bas hb.size, fun r hrm => ?_, h1.dis⟩
        exact r.st (h1.res r hrm) hb.size (fun k hk => hb.block k (hs.o r hrm k hk))
      · exact .inr ⟨hw.is hs.s, hv⟩
    exact wpAnyB_first ho (Region.noSelect_spec hsel) _ listed a w hsz (Region.free_spec ho hf) hr' hy
      (flow_soundC hsel hBB t _ _ _ _ _ hB' (by simpa using hsz) (by rw [hd]; exact hs.put hN v) hX)
  | .s k :: t, listed, a, w, E, rn, hB, hsz, hs, h => by
    simp only [flowC, Bool.and_eq_true, decide_eq_true_eq] at hB
    obtain ⟨hr, hB'⟩ := hB
    obtain ⟨o, ho, hg, h⟩ := h
    refine ⟨fun h0 => (by rw [hr] at h0; cases h0), fun i hi => ?_⟩
    have hik : i = k := by rw [hr] at hi; simpa using hi
    subst hik
    unfold bOp
    have hw : Region.wanted o (yielded ops a.tmps) = true := by simp [Region.wanted, hg]
    simp only [ho, hw, if_true]
    rcases h with ⟨d, post, hd, hN, hq, hX⟩ | ⟨rn', hd, hq, hX⟩
    · exact lo_bwp hd hN hq hs fun v rs' a' w' hp hs' => flow_soundC hsel hBB t _ _ _ _ _ hB' (by simpa using hsz) hs' (hX v rs' hp)
    · obtain ⟨w', h1, h2, h3⟩ := hq B0 a w hBB hs
      refine .inr (.inl ⟨w', h1, h2, ?_⟩)
      rw [hd]
      exact flow_soundC hsel hBB t _ _ _ _ _ hB' (by simpa using hsz) h3 hX
  | .p k1 k2 :: t, listed, a, w, E, rn, hB, hsz, hs, h => by
    simp only [flowC, Bool.and_eq_true, decide_eq_true_eq, Bool.or_eq_true] at hB
    obtain ⟨⟨⟨⟨hne, hr⟩, hr1⟩, hr2⟩, hB'⟩ := hB
    obtain ⟨d1, d2, t1, t2, ty1, ty2, p1, p2, a1, a2, zs1, zs2, hdn, ho1, ho2, hn1, hn2, hl1, hl2, hX⟩ := h
    have mem : ∀ i, i ∈ Region.ready md ops listed → i = k1 ∨ i = k2 := fun i hi => by
      rcases hr with hr | hr
      · rw [hr] at hi; simpa using hi
      · rw [hr] at hi
        rcases List.mem_cons.1 hi with h | h
        · exact .inr h
        · exact .inl (by simpa using h)
    refine ⟨fun h0 => (by rcases hr with hr | hr <;> (rw [hr] at h0; cases h0)), fun i hi => ?_⟩
    rcases mem i hi with rfl | rfl
    · unfold bOp
      have hw : ∀ a : Act, Region.wanted (⟨some d1, .alloc t1, ty1, p1, a1, none⟩ : Oper) (yielded ops a.tmps) = true := fun a => by simp [Region.wanted]
      simp only [ho1, hw, if_true]
      refine lo_bwp rfl hn1 (hl1 E _) hs fun v rs' a' w' hp hs' => ?_
      obtain ⟨g1, rfl, rfl⟩ := hp
      refine ⟨fun h0 => (by rw [hr1] at h0; cases h0), fun j hj => ?_⟩
      have hj2 : j = k2 := by rw [hr1] at hj; simpa using hj
      subst hj2
      unfold bOp
      have hw2 : ∀ a : Act, Region.wanted (⟨some d2, .alloc t2, ty2, p2, a2, none⟩ : Oper) (yielded ops a.tmps) = true := fun a => by simp [Region.wanted]
      simp only [ho2, hw2, if_true]
      refine lo_bwp rfl hn2 (hl2 _ _) hs' fun v rs' a' w' hp hs'' => ?_
      obtain ⟨g2, rfl, rfl⟩ := hp
      exact flow_soundC hsel hBB t _ _ _ _ _ hB' (by simpa using hsz) hs'' (hX g1 g2)
    · unfold bOp
      have hw2 : ∀ a : Act, Region.wanted (⟨some d2, .alloc t2, ty2, p2, a2, none⟩ : Oper) (yielded ops a.tmps) = true := fun a => by simp [Region.wanted]
      simp only [ho2, hw2, if_true]
      refine lo_bwp rfl hn2 (hl2 E _) hs fun v rs' a' w' hp hs' => ?_
      obtain ⟨g2, rfl, rfl⟩ := hp
      refine ⟨fun h0 => (by rw [hr2] at h0; cases h0), fun j hj => ?_⟩
      have hj1 : j = k1 := by rw [hr2] at hj; simpa using hj
      subst hj1
      unfold bOp
      have hw : ∀ a : Act, Region.wanted (⟨some d1, .alloc t1, ty1, p1, a1, none⟩ : Oper) (yielded ops a.tmps) = true := fun a => by simp [Region.wanted]
      simp only [ho1, hw, if_true]
      refine lo_bwp rfl hn1 (hl1 _ _) hs' fun v rs' a' w' hp hs'' => ?_
      obtain ⟨g1, rfl, rfl⟩ := hp
      rw [Array.setIfInBounds_comm _ _ (Ne.symm hne)]
      refine flow_soundC hsel hBB t _ _ _ _ _ hB' (by simpa using hsz) ⟨swap_alloc hdn hs''.s, hs''.b, hs''.o, fun r hr k hk => hs''.n r ?_ k hk⟩ (hX g1 g2)
      rcases List.mem_cons.1 hr with h | h
      · exact List.mem_cons_of_mem _ (h ▸ List.mem_cons_self)
      · rcases List.mem_cons.1 h with h | h
        · exact h ▸ List.mem_cons_self
        · exact List.mem_cons_of_mem _ (List.mem_cons_of_mem _ h)
theorem C_wide {id : Nat} {l : List Oper} {Q : Exit → Act → World → Prop} {E : Env} {rs : List Res} (ord : List Stp) (hm : P.follows .mixedOrders = true) (hsel : Region.noSelect l.toArray = true) (hn : stN ord = l.toArray.size) (hB : flowC .any l.toArray ord (Array.replicate l.toArray.size false) = true)
    (h : X P l.toArray N B w0 (fun E' rs' => L P l.toArray Q N B w0 E' rs' []) rs ord E []) : C P Q N B w0 E rs (.region id l.toArray true) := by
  intro a w hs
  have hs' : Sat N B w0 E rs a w.drew := hs.world (hs.ws.later ⟨rfl, rfl, rfl, Nat.le_refl _, fun _ _ => rfl⟩)
  have H := flow_soundC (md := .any) (B0 := w.drew.heap.size) hsel hs'.ws.bas ord _ a w.drew E [] hB (by simp) ⟨hs', Nat.le_refl _, fun r hr k hk => r.lt (hs'.ws.res r hr) k hk, fun r hr => (by cases hr)⟩ h
  refine wpIn_region_any hm ?_
  have := wpAny_of_anyB (ro := N.ro) (Q := Q) (fun listed a' w' hr hT => by
    obtain ⟨E', rs', h2, h3⟩ := hT
    exact ⟨hr, h2 a' w' h3⟩) _ _ _ _ H
  rw [hn] at this
  exact this

/-! ### The steps of such a walk -/
variable {fin : Env → List Res → Prop} {E : Env} {rn ro : List Res} {t : List Stp} {k d : Nat} {o : Oper}
theorem X_nil (h : fin E (rn ++ ro)) : X P ops N B w0 fin ro [] E rn := h
theorem X_q {v : Value} (ho : ops[k]? = some o) (hd : o.dst = some d) (hg : o.guard = none) (hN : Nat.blt d N.n = true) (hq : Qu P N B w0 E ro o v) (h : X P ops N B w0 fin ro t ((d, v) :: E) rn) : X P ops N B w0 fin ro (.q k :: t) E rn :=
  ⟨o, d, v, ho, hd, hN, .inl ⟨.inl ⟨hg, rfl⟩, hq⟩, h⟩
theorem X_lo {post : Value → List Res → Prop} (ho : ops[k]? = some o) (hd : o.dst = some d) (hg : o.guard = none) (hN : Nat.blt d N.n = true) (hq : Lo P N B w0 E (rn ++ ro) o post)
    (h : ∀ v rs', post v rs' → X P ops N B w0 fin ro t ((d, v) :: E) (rs' ++ rn)) : X P ops N B w0 fin ro (.s k :: t) E rn := ⟨o, ho, hg, .inl ⟨d, post, hd, hN, hq, h⟩⟩
theorem X_alloc (T : Tab P) {u sz bs : Nat} {ag : Bool} {zs : List Value} {ty : TypeId} {pos : String} {aft : Array Edge} (ho : ops[k]? = some o) (hop : o = ⟨some d, .alloc u, ty, pos, aft, none⟩) (ht : lkT T.ty u = some (ag, sz, bs, zs)) (hN : Nat.blt d N.n = true)
    (h : ∀ g, X P ops N B w0 fin ro t ((d, .pointer (some ⟨g, 0, none⟩)) :: E) (box g u zs :: rn)) : X P ops N B w0 fin ro (.s k :: t) E rn := by
  subst hop
  exact X_lo ho rfl rfl hN (lo_alloc T ht) fun _ _ ⟨g, hv, hr⟩ => by subst hv; subst hr; exact h g
theorem X_pair (T : Tab P) {k1 k2 d1 d2 t1 t2 sz1 bs1 sz2 bs2 : Nat} {ag1 ag2 : Bool} {zs1 zs2 : List Value} {ty1 ty2 : TypeId} {p1 p2 : String} {a1 a2 : Array Edge} (ho1 : ops[k1]? = some ⟨some d1, .alloc t1, ty1, p1, a1, none⟩) (ho2 : ops[k2]? = some ⟨some d2, .alloc t2, ty2, p2, a2, none⟩)
    (hz1 : lkT T.ty t1 = some (ag1, sz1, bs1, zs1)) (hz2 : lkT T.ty t2 = some (ag2, sz2, bs2, zs2)) (hn1 : Nat.blt d1 N.n = true) (hn2 : Nat.blt d2 N.n = true) (hne : d1 ≠ d2)
    (h : ∀ g1 g2, X P ops N B w0 fin ro t ((d2, .pointer (some ⟨g2, 0, none⟩)) :: (d1, .pointer (some ⟨g1, 0, none⟩)) :: E) (box g2 t2 zs2 :: box g1 t1 zs1 :: rn)) : X P ops N B w0 fin ro (.p k1 k2 :: t) E rn :=
  ⟨d1, d2, t1, t2, ty1, ty2, p1, p2, a1, a2, zs1, zs2, hne, ho1, ho2, hn1, hn2, fun _ _ => lo_alloc T hz1, fun _ _ => lo_alloc T hz2, h⟩
theorem SatC.perm {rn' : List Res} {a : Act} {w : World} (h : SatC N B w0 B0 E rn ro a w) (hp : rn'.Perm rn) : SatC N B w0 B0 E rn' ro a w :=
  ⟨h.s.world (h.s.ws.perm (hp.append_right ro)), h.b, h.o, fun r hr k hk => h.n r (hp.mem_iff.1 hr) k hk⟩
theorem X_store (T : Tab P) {u bt : TypeId} {ag : Bool} {sz bs : Nat} {zs : List Value} {x y : Operand} {g of : Nat} {xs cs ys : List Value} {v : Value} {ty : TypeId} {pos : String} {aft : Array Edge} {rest : List Res} (ho : ops[k]? = some o) (hop : o = ⟨none, .store u x y, ty, pos, aft, none⟩) (hp : (box g bt xs :: rest).Perm rn)
    (ht : lkT T.ty u = some (ag, sz, bs, zs)) (hx : ev E x = some (.pointer (some ⟨g, of, none⟩))) (hy : ev E y = some v) (hc : v.cells.toList = cs)
    (hl : Nat.beq cs.length sz = true) (h1 : cs.all (·.oneCell') = true) (hb : Nat.ble (of + cs.length) xs.length = true) (hz : lay xs of cs = ys) (h : X P ops N B w0 fin ro t E (box g bt ys :: rest)) : X P ops N B w0 fin ro (.s k :: t) E rn := by
  subst hop
  refine ⟨_, ho, rfl, .inr ⟨box g bt ys :: rest, rfl, fun B0 a w hBB hs0 => ?_, h⟩⟩
  have hs := hs0.perm hp
  have hsz := T.sizeOf ht w
  simp only at hsz
  have hbox := hs.s.has (r := box g bt xs) List.mem_cons_self
  have hl' := Nat.eq_of_beq_eq_true hl
  have hb' : of + cs.length ≤ xs.length := Nat.ble_eq.mp hb
  have hst := run_storeCells_at (P := P) g of bt cs 0 xs.toArray w (box_ok.1 hbox).2 (by simpa using hb') (by simpa using h1)
  have hlay : (xs.toArray.toList.take (of + 0) ++ cs ++ xs.toArray.toList.drop (of + 0 + cs.length)) = ys := by rw [← hz]; simp [lay]
  rw [hlay] at hst
  have hvs : v.cells.size = sz := by rw [← hl', ← hc]; simp
  have hg0 : B0 ≤ g := hs.n _ List.mem_cons_self g (box_blk _ _ _)
  refine ⟨w.setRow g ys.toArray, ?_, ⟨rfl, rfl, rfl, by rw [setRow_size]; exact Nat.le_refl _, fun k hk => setRow_other w g k _ (by omega)⟩, ?_⟩
  · simp only [execOp, hs.s.eval hx, hs.s.eval hy, Instr.storeAt, Instr.sureAddr, storeVar, Sem.run_bind, Sem.run_pure, Result.andThen_ok, hsz, hvs, hc]
    simp [hst]
  · refine ⟨hs.s.world (hs.s.ws.turn (box_own _ _ _) (by rw [box_blk, box_blk]) (box_own _ _ _) (box_setRow hbox) ⟨rfl, rfl, rfl⟩ (by rw [setRow_size]; exact Nat.le_refl _) (fun k _ hne => setRow_other w g k _ (fun e => hne (by rw [box_blk, e])))), by rw [setRow_size]; exact hs.b, hs.o, fun r hr k hk => ?_⟩
    rcases List.mem_cons.1 hr with rfl | hr
    · rw [box_blk] at hk
      injection hk with hk
      omega
    · exact hs.n r (List.mem_cons_of_mem _ hr) k hk
end
end Go.Proofs.Ytdmnejfpbbmcaaa
