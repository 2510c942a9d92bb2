/-
  The calculus: regions that draw their order, make memory at any time between other operations, and write to it in the midst of what they read. Conditions: none; no program in sight.
-/
import Derived.Test.YtibohfipgjljhaaDoorShCut
namespace Go.Proofs.YtibohfipgjljhaaDoor
open Go.RowKit

section
variable {P : Program} {ops : Array Oper} {md : Region.Mode} {N : Fr} {B : Nat} {w0 : World}
def flowBx (bB : Array Bool → Bool) (md : Region.Mode) (ops : Array Oper) (n : Nat) : List (Nat × Bool) → Array Bool → Bool
  | [], listed => bB listed
  | (k, false) :: t, listed => Nat.blt k n && (Region.ready md ops listed).contains k && Region.free md ops listed k && flowBx bB md ops n t (listed.setIfInBounds k true)
  | (k, true) :: t, listed => Nat.blt k n && decide (Region.ready md ops listed = [k]) && flowBx bB md ops n t (listed.setIfInBounds k true)
theorem flow_soundx {bB : Array Bool → Bool} {n m : Nat} {T : Array Bool → Act → World → Prop} {fin : Env → List Res → Prop} (hsel : Region.noSelect ops = true) (htw : TailWaits md ops n) (hdone : ∀ listed a w, T listed a w → ∀ j ∈ Region.ready md ops listed, n ≤ j)
    (hbase : ∀ listed a w E rs, bB listed = true → HeadInv md ops n listed → Sat N B w0 E rs a w → fin E rs → wpAnyM P md ops n T m listed a w) :
    ∀ (ord : List (Nat × Bool)) (listed : Array Bool) (a : Act) (w : World) (E : Env) (rs : List Res), flowBx bB md ops n ord listed = true → HeadInv md ops n listed → Sat N B w0 E rs a w → W P ops N B w0 fin ord E rs →
    wpAnyM P md ops n T (ord.length + m) listed a w
  | [], listed, a, w, E, rs, hB, inv, hs, h => by
    rw [List.length_nil, Nat.zero_add]
    exact hbase _ _ _ _ _ hB inv hs h
  | (k, false) :: t, listed, a, w, E, rs, hB, inv, hs, h => by
    simp only [flowBx, Bool.and_eq_true] at hB
    obtain ⟨⟨⟨hkn, hr⟩, hf⟩, hB'⟩ := hB
    obtain ⟨o, d, v, ho, hd, hN, hq, hW⟩ := h
    have hkn' := blt_lt hkn
    have hr' : k ∈ Region.ready md ops listed := by simpa using hr
    have hy : YieldsUp P ops o v a w := by
      rcases hq with ⟨hw, hq⟩ | ⟨hw, hv⟩
      · exact .inl ⟨hw.is hs, fun w' hb => hq a w' (hs.world (hs.ws.later hb))⟩
      · exact .inr ⟨hw.is hs, hv⟩
    rw [List.length_cons, show t.length + 1 + m = (t.length + m) + 1 by omega]
    exact wpAnyM_first ho (Region.noSelect_spec hsel) htw hkn' hdone _ listed a w inv (Region.free_spec ho hf) hr' hy
      (flow_soundx hsel htw hdone hbase t _ _ _ _ _ hB' (inv.set hr' hkn') (by rw [hd]; exact hs.put hN v hs.ws) hW)
  | (k, true) :: t, listed, a, w, E, rs, hB, inv, hs, h => by
    simp only [flowBx, Bool.and_eq_true, decide_eq_true_eq] at hB
    obtain ⟨⟨hkn, hr⟩, hB'⟩ := hB
    obtain ⟨o, d, ho, hd, hN, h⟩ := h
    have hkn' := blt_lt hkn
    rw [List.length_cons, show t.length + 1 + m = (t.length + m) + 1 by omega]
    refine ⟨fun h0 => (by rw [hr] at h0; cases h0), fun i hi => ?_⟩
    have hik : i = k := by rw [hr] at hi; simpa using hi
    subst hik
    refine ⟨hkn', ?_⟩
    unfold mOp
    rcases h with ⟨post, hw, hq, hW⟩ | ⟨hw, hW⟩
    · simp only [ho, hw.is hs, if_true]
      exact lo_mwp hd hN hq hs fun v rs' a' w' hp hs' => flow_soundx hsel htw hdone hbase t _ _ _ _ _ hB' (inv.set hi hkn') hs' (hW v rs' hp)
    · simp only [ho, hw.is hs, Bool.false_eq_true, if_false]
      exact flow_soundx hsel htw hdone hbase t _ _ _ _ _ hB' (inv.set hi hkn') (by rw [hd]; exact hs.put hN undef hs.ws) hW

def pairB (ops : Array Oper) (n k1 k2 : Nat) (listed : Array Bool) : Bool :=
  Nat.blt k1 n && Nat.blt k2 n && decide (k1 ≠ k2) && (decide (Region.ready .any ops listed = [k1, k2]) || decide (Region.ready .any ops listed = [k2, k1])) && decide (Region.ready .any ops (listed.setIfInBounds k1 true) = [k2]) && decide (Region.ready .any ops (listed.setIfInBounds k2 true) = [k1]) &&
    Region.seqB .any ops (ops.size - n) n ((listed.setIfInBounds k1 true).setIfInBounds k2 true)
def flowOk2 (ops : Array Oper) (n k1 k2 : Nat) (ord : List (Nat × Bool)) : Bool :=
  Region.noSelect ops && (decide (n = ops.size) || (Nat.blt n ops.size && Region.sinkB .any ops n && Region.chainB .any ops n)) && decide (ord.length + 2 = n) && Nat.ble n ops.size &&
    flowBx (pairB ops n k1 k2) .any ops n ord (Array.replicate ops.size false)
theorem swap_alloc {E : Env} {rs : List Res} {a : Act} {w : World} {d1 d2 g1 g2 t1 t2 : Nat} {zs1 zs2 : List Value} (hne : d1 ≠ d2) (hs : Sat N B w0 ((d1, .pointer (some ⟨g1, 0, none⟩)) :: (d2, .pointer (some ⟨g2, 0, none⟩)) :: E) (box g1 t1 zs1 :: box g2 t2 zs2 :: rs) a w) :
    Sat N B w0 ((d2, .pointer (some ⟨g2, 0, none⟩)) :: (d1, .pointer (some ⟨g1, 0, none⟩)) :: E) (box g2 t2 zs2 :: box g1 t1 zs1 :: rs) a w :=
  ⟨hs.ws.perm (List.Perm.swap _ _ _), hs.size, hs.dfr, fun i v hv => hs.env i v (by
    rw [lk_cons, lk_cons] at hv ⊢
    by_cases h1 : i = d1
    · subst h1
      rw [if_neg hne, if_pos rfl] at hv
      rw [if_pos rfl]
      exact hv
    · rw [if_neg h1] at hv ⊢
      exact hv)⟩
/-- A region that draws its order, and ends with two allocations in either order. -/
theorem C_draw2 (T : Tab P) {id n k1 k2 d1 d2 t1 t2 sz1 bs1 sz2 bs2 : Nat} {ag1 ag2 : Bool} {zs1 zs2 : List Value} {ty1 ty2 : TypeId} {p1 p2 : String} {a1 a2 : Array Edge} {l : List Oper} {Q : Exit → Act → World → Prop} {E : Env} {rs : List Res} (ord : List (Nat × Bool)) (hm : P.follows .mixedOrders = true) (hB : flowOk2 l.toArray n k1 k2 ord = true)
    (ho1 : l.toArray[k1]? = some ⟨some d1, .alloc t1, ty1, p1, a1, none⟩) (ho2 : l.toArray[k2]? = some ⟨some d2, .alloc t2, ty2, p2, a2, none⟩) (hz1 : lkT T.ty t1 = some (ag1, sz1, bs1, zs1)) (hz2 : lkT T.ty t2 = some (ag2, sz2, bs2, zs2)) (hn1 : Nat.blt d1 N.n = true) (hn2 : Nat.blt d2 N.n = true) (hne : d1 ≠ d2)
    (h : W P l.toArray N B w0 (fun E' rs' => ∀ g1 g2, L P l.toArray Q N B w0 ((d2, .pointer (some ⟨g2, 0, none⟩)) :: (d1, .pointer (some ⟨g1, 0, none⟩)) :: E') (box g2 t2 zs2 :: box g1 t1 zs1 :: rs') (l.drop n)) ord E rs) : C P Q N B w0 E rs (.region id l.toArray true) := by
  intro a w hs
  simp only [flowOk2, Bool.and_eq_true, decide_eq_true_eq, Bool.or_eq_true, Nat.ble_eq] at hB
  obtain ⟨⟨⟨⟨hsel, hn⟩, hol⟩, hle⟩, hfl⟩ := hB
  have htw : TailWaits .any l.toArray n := by
    intro listed inv i hin hun t ht
    rcases hn with hn | ⟨⟨hn, hsk⟩, hch⟩
    · intro hr
      obtain ⟨_, o, ho, _⟩ := mem_ready.1 hr
      have := (Array.getElem?_eq_some_iff.1 ho).1
      omega
    · exact tail_waits hsk hch (blt_lt hn) inv _ i rfl hin hun t ht
  have hsz : l.toArray.size = l.length := by simp
  have hdl : (l.drop n).length = l.toArray.size - n := by simp
  have inv0 : HeadInv .any l.toArray n (Array.replicate l.toArray.size false) :=
    ⟨by simp, fun j oj _ hl => (by rw [getD_replicate_false] at hl; cases hl), fun t _ ht => getD_in (by simpa using ht) (getD_replicate_false _ _)⟩
  have hs' : Sat N B w0 E rs a w.drew := hs.world (hs.ws.later ⟨rfl, rfl, rfl, Nat.le_refl _, fun _ _ => rfl⟩)
  have H := flow_soundx (md := .any) (m := 2) (T := fun listed' a' w' => Region.seqB .any l.toArray (l.toArray.size - n) n listed' = true ∧ ∃ E' rs', L P l.toArray Q N B w0 E' rs' (l.drop n) ∧ Sat N B w0 E' rs' a' w') hsel htw (fun _ _ _ hT => seqB_ready hT.1)
    (fun listed a w E rs hb inv hs hf => by
      simp only [pairB, Bool.and_eq_true, decide_eq_true_eq, Bool.or_eq_true] at hb
      obtain ⟨⟨⟨⟨⟨⟨hk1, hk2⟩, hkne⟩, hr⟩, hr1⟩, hr2⟩, hsq⟩ := hb
      have hk1 := blt_lt hk1
      have hk2 := blt_lt hk2
      have hw : ∀ {d t ty p aft} {a : Act}, Region.wanted (⟨some d, .alloc t, ty, p, aft, none⟩ : Oper) (yielded l.toArray a.tmps) = true := fun {d t ty p aft a} => by simp [Region.wanted]
      have one : ∀ {k d t sz bs ag zs ty p aft} {E : Env} {rs : List Res} {a : Act} {w : World} {K : Act → World → Prop}, l.toArray[k]? = some (⟨some d, .alloc t, ty, p, aft, none⟩ : Oper) → lkT T.ty t = some (ag, sz, bs, zs) → Nat.blt d N.n = true → Sat N B w0 E rs a w →
          (∀ g a' w', Sat N B w0 ((d, .pointer (some ⟨g, 0, none⟩)) :: E) (box g t zs :: rs) a' w' → K a' w') → mOp P l.toArray k K a w := by
        intro k d t sz bs ag zs ty p aft E rs a w K ho hz hN hs hK
        unfold mOp
        simp only [ho, hw, if_true]
        refine lo_mwp rfl hN (lo_alloc T hz) hs fun v rs' a' w' hp hs' => ?_
        obtain ⟨g, rfl, rfl⟩ := hp
        exact hK g a' w' hs'
      have mem : ∀ i, i ∈ Region.ready .any l.toArray listed → i = k1 ∨ i = k2 := fun i hi => by
        rcases hr with hr | hr
        · rw [hr] at hi; simpa using hi
        · rw [hr] at hi
          rcases List.mem_cons.1 hi with h | h
          · exact .inr h
          · exact .inl (by simpa using h)
      refine ⟨fun h0 => (by rcases hr with hr | hr <;> (rw [hr] at h0; cases h0)), fun i hi => ?_⟩
      rcases mem i hi with rfl | rfl
      · refine ⟨hk1, one ho1 hz1 hn1 hs fun g1 a1 w1 hs1 => ⟨fun h0 => (by rw [hr1] at h0; cases h0), fun j hj => ?_⟩⟩
        have hj2 : j = k2 := by rw [hr1] at hj; simpa using hj
        subst hj2
        exact ⟨hk2, one ho2 hz2 hn2 hs1 fun g2 a2 w2 hs2 => ⟨hsq, _, _, hf g1 g2, hs2⟩⟩
      · refine ⟨hk2, one ho2 hz2 hn2 hs fun g2 a1 w1 hs1 => ⟨fun h0 => (by rw [hr2] at h0; cases h0), fun j hj => ?_⟩⟩
        have hj1 : j = k1 := by rw [hr2] at hj; simpa using hj
        subst hj1
        refine ⟨hk1, one ho1 hz1 hn1 hs1 fun g1 a2 w2 hs2 => ⟨?_, _, _, hf g1 g2, swap_alloc hne hs2⟩⟩
        rw [Array.setIfInBounds_comm _ _ (Ne.symm hkne)]
        exact hsq) ord _ _ _ _ _ hfl inv0 hs' h
  refine wpIn_region_any hm ?_
  have := wpAny_of_anyM (ro := N.ro) (Q := Q) (g := l.toArray.size - n) (fun listed a' w' hT => by
    obtain ⟨h1, E', rs', h2, h3⟩ := hT
    have := wpAnyIn_of_seq (ro := N.ro) (md := .any) (Q' := Q) (l.drop n) n listed a' w' (fun j => by simp [List.getElem?_drop]) (by rw [hdl]; exact h1) (h2 a' w' h3)
    rwa [hdl] at this) _ _ _ _ H
  rw [hol, show n + (l.toArray.size - n) = l.toArray.size by omega] at this
  exact this
end
end Go.Proofs.YtibohfipgjljhaaDoor
namespace Go.Proofs.YtibohfipgjljhaaDoor
open Go.RowKit

section
variable {P : Program} {ops : Array Oper} {md : Region.Mode} {N : Fr} {B : Nat} {w0 : World} {B0 : Nat}
/-- An operation that leaves what lies below B0. -/
def bwp (P : Program) (B0 : Nat) (o : Oper) (a : Act) (w : World) (K : Act → World → Prop) : Prop :=
  (∃ v w', (execOp a.eval o).run P w = .ok (.value v) w' ∧ Below B0 w w' ∧ K (a.put o.dst v) w') ∨ (∃ w', (execOp a.eval o).run P w = .ok .skip w' ∧ Below B0 w w' ∧ K (a.put o.dst undef) w') ∨
  (∃ f args, (execOp a.eval o).run P w = .ok (.enter f args) w ∧ Calls P f args w fun e w'' => ∃ v, e = .returned v ∧ Below B0 w w'' ∧ K (a.put o.dst v) w'')
def bOp (P : Program) (B0 : Nat) (ops : Array Oper) (i : Nat) (K : Act → World → Prop) (a : Act) (w : World) : Prop :=
  match ops[i]? with
  | none => K a w
  | some o => if Region.wanted o (yielded ops a.tmps) then bwp P B0 o a w K else K (a.put o.dst undef) w
theorem bwp_mono {o : Oper} {a : Act} {w : World} {K K' : Act → World → Prop} (h : ∀ a w', Below B0 w w' → K a w' → K' a w') (hh : bwp P B0 o a w K) : bwp P B0 o a w K' := by
  rcases hh with ⟨v, w', hr, hb, hk⟩ | ⟨w', hr, hb, hk⟩ | ⟨f, args, hr, hc⟩
  · exact .inl ⟨v, w', hr, hb, h _ _ hb hk⟩
  · exact .inr (.inl ⟨w', hr, hb, h _ _ hb hk⟩)
  · exact .inr (.inr ⟨f, args, hr, hc.mono fun e w'' ⟨v, he, hb, hk⟩ => ⟨v, he, hb, h _ _ hb hk⟩⟩)
theorem bOp_mono {i : Nat} {a : Act} {w : World} {K K' : Act → World → Prop} (h : ∀ a w', Below B0 w w' → K a w' → K' a w') (hh : bOp P B0 ops i K a w) : bOp P B0 ops i K' a w := by
  unfold bOp at *
  split
  · exact h _ _ (Below.refl _ _) (by simpa [*] using hh)
  · rename_i o ho
    simp only [ho] at hh
    split
    · rename_i hw; simp only [hw, if_true] at hh; exact bwp_mono h hh
    · rename_i hw; simp only [hw] at hh; exact h _ _ (Below.refl _ _) hh
theorem wp_of_bwp {ro : Option Nat} {Q : Exit → Act → World → Prop} {o : Oper} {a : Act} {w : World} {K : Act → World → Prop} (hh : bwp P B0 o a w K) : o.wpIn (fc ro) 0 P a w K Q := by
  rcases hh with ⟨v, w', hr, _, hk⟩ | ⟨w', hr, _, hk⟩ | ⟨f, args, hr, hc⟩
  · exact wpIn_value hr hk
  · exact wpIn_quiet hr hk
  · refine wpIn_calls hr (hc.mono ?_)
    rintro e w'' ⟨v, he, _, hk⟩
    exact ⟨v, he, hk⟩
theorem wpOp_of_bOp {ro : Option Nat} {Q : Exit → Act → World → Prop} {i : Nat} {a : Act} {w : World} {K : Act → World → Prop} (hh : bOp P B0 ops i K a w) : wpOpIn (fc ro) 0 P ops Q i K a w := by
  unfold bOp at hh
  unfold wpOpIn
  split
  · rename_i ho; simpa [ho] using hh
  · rename_i o ho
    simp only [ho] at hh
    split
    · rename_i hw; simp only [hw, if_true] at hh; exact wp_of_bwp hh
    · rename_i hw; simp only [hw] at hh; exact ⟨fun _ _ => trivial, hh⟩
def YieldsB (P : Program) (B0 : Nat) (ops : Array Oper) (o : Oper) (v : Value) (a : Act) (w : World) : Prop :=
  (Region.wanted o (yielded ops a.tmps) = true ∧ ∀ w', Below B0 w w' → (execOp a.eval o).run P w' = .ok (.value v) w') ∨ (Region.wanted o (yielded ops a.tmps) = false ∧ v = undef)
theorem YieldsB.bOp {i : Nat} {o : Oper} {v : Value} {a : Act} {w : World} (hi : ops[i]? = some o) (hy : YieldsB P B0 ops o v a w) {K : Act → World → Prop} (h : K (a.put o.dst v) w) : bOp P B0 ops i K a w := by
  unfold YtibohfipgjljhaaDoor.bOp
  simp only [hi]
  rcases hy with ⟨hw, hv⟩ | ⟨hw, rfl⟩
  · simp only [hw, if_true]; exact .inl ⟨v, w, hv w (Below.refl _ _), Below.refl _ _, h⟩
  · simp only [hw, Bool.false_eq_true, if_false]; exact h
theorem YieldsB.of_same {o : Oper} {v : Value} {a a' : Act} {w w' : World} (hy : YieldsB P B0 ops o v a w) (he : execOp a'.eval o = execOp a.eval o)
    (hw : Region.wanted o (yielded ops a'.tmps) = Region.wanted o (yielded ops a.tmps)) (hb : Below B0 w w') : YieldsB P B0 ops o v a' w' := by
  unfold YieldsB at *
  rw [he, hw]
  exact or_map hy (fun ⟨h1, h2⟩ => ⟨h1, fun w'' hb' => h2 w'' (hb.trans hb')⟩) id
theorem bOp_put {j : Nat} {oi oj : Oper} {v : Value} (hj : ops[j]? = some oj) (hap : oi.apart ops oj = true)
    (hsi : ∀ cs b, oi.op ≠ .select cs b) (hsj : ∀ cs b, oj.op ≠ .select cs b) {K : Act → World → Prop} {a : Act} {w : World}
    (hy : YieldsB P B0 ops oi v a w) (h : bOp P B0 ops j K (a.put oi.dst v) w) :
    bOp P B0 ops j (fun a' w' => YieldsB P B0 ops oi v a' w' ∧ K (a'.put oi.dst v) w') a w := by
  obtain ⟨h1, h2, h3⟩ := Oper.apart_spec hap
  have keep : ∀ u w', Below B0 w w' → YieldsB P B0 ops oi v (a.put oj.dst u) w' := fun u w' hb =>
    hy.of_same (execOp_put oi hsi a oj.dst u h3) (wanted_put oi a oj.dst u h3) hb
  unfold bOp at *
  simp only [hj] at *
  rw [wanted_put oj a oi.dst v h1] at h
  split
  · rename_i hw
    simp only [hw, if_true] at h
    unfold bwp at *
    rw [execOp_put oj hsj a oi.dst v h1] at h
    rcases h with ⟨u, w', hr, hb, hk⟩ | ⟨w', hr, hb, hk⟩ | ⟨f, args, hr, hc⟩
    · exact .inl ⟨u, w', hr, hb, keep u w' hb, by rw [← Act.put_comm a v u h2]; exact hk⟩
    · exact .inr (.inl ⟨w', hr, hb, keep undef w' hb, by rw [← Act.put_comm a v undef h2]; exact hk⟩)
    · exact .inr (.inr ⟨f, args, hr, hc.mono fun e w'' ⟨u, he, hb, hk⟩ => ⟨u, he, hb, keep u w'' hb, by rw [← Act.put_comm a v u h2]; exact hk⟩⟩)
  · rename_i hw
    simp only [hw] at h
    exact ⟨keep _ _ (Below.refl _ _), by rw [← Act.put_comm a v undef h2]; exact h⟩
/-- Whatever order is picked. -/
def wpAnyB (P : Program) (B0 : Nat) (md : Region.Mode) (ops : Array Oper) (T : Act → World → Prop) : Nat → Array Bool → Act → World → Prop
  | 0, listed, a, w => Region.ready md ops listed = [] ∧ T a w
  | f + 1, listed, a, w => Region.ready md ops listed ≠ [] ∧ ∀ i ∈ Region.ready md ops listed, bOp P B0 ops i (wpAnyB P B0 md ops T f (listed.setIfInBounds i true)) a w
theorem wpAny_of_anyB {ro : Option Nat} {T : Act → World → Prop} {Q : Exit → Act → World → Prop} (hT : ∀ listed a w, Region.ready md ops listed = [] → T a w → wpAnyIn (fc ro) 0 P md ops Q 0 listed a w) :
    ∀ (f : Nat) (listed : Array Bool) (a : Act) (w : World), wpAnyB P B0 md ops T f listed a w → wpAnyIn (fc ro) 0 P md ops Q f listed a w
  | 0, _, _, _, h => hT _ _ _ h.1 h.2
  | f + 1, _, _, _, h => ⟨fun h0 => absurd h0 h.1, fun i hi => wpOpIn_mono (fun a' w' h' => wpAny_of_anyB hT f _ a' w' h') (wpOp_of_bOp (h.2 i hi))⟩
theorem wpAnyB_first {i : Nat} {oi : Oper} {v : Value} {T : Act → World → Prop} (hi : ops[i]? = some oi) (hsel : ∀ (j : Nat) (o : Oper) cs b, ops[j]? = some o → o.op ≠ .select cs b) :
    ∀ (f : Nat) (listed : Array Bool) (a : Act) (w : World), listed.size = ops.size →
      (∀ j oj, ops[j]? = some oj → j ≠ i → listed.getD j true = false → (∀ e ∈ oj.after, Region.binds md e = true → e.on ≠ i) → oi.apart ops oj = true) →
      i ∈ Region.ready md ops listed → YieldsB P B0 ops oi v a w →
      wpAnyB P B0 md ops T f (listed.setIfInBounds i true) (a.put oi.dst v) w → wpAnyB P B0 md ops T (f + 1) listed a w := by
  intro f
  induction f with
  | zero =>
    intro listed a w hsz _ hr hy H
    refine ⟨fun h => (by rw [h] at hr; cases hr), fun j hj => ?_⟩
    by_cases hji : j = i
    · subst hji; exact hy.bOp hi H
    · have := ready_mono hj hji
      rw [H.1] at this
      cases this
  | succ f ih =>
    intro listed a w hsz hfree hr hy H
    refine ⟨fun h => (by rw [h] at hr; cases hr), fun j hj => ?_⟩
    have hun := (mem_ready.1 hr).1
    by_cases hji : j = i
    · subst hji; exact hy.bOp hi H
    · have h1 := H.2 j (ready_mono hj hji)
      obtain ⟨hjun, oj, hoj, hall⟩ := mem_ready.1 hj
      have hnot : ∀ e ∈ oj.after, Region.binds md e = true → e.on ≠ i := fun e he hb heq => by
        have h1 := hall e he hb
        rw [heq, getD_both hun] at h1
        cases h1
      have h2 := bOp_put hoj (hfree j oj hoj hji hjun hnot) (fun cs b => hsel i oi cs b hi) (fun cs b => hsel j oj cs b hoj) hy h1
      have hfree' : ∀ k ok, ops[k]? = some ok → k ≠ i → (listed.setIfInBounds j true).getD k true = false →
          (∀ e ∈ ok.after, Region.binds md e = true → e.on ≠ i) → oi.apart ops ok = true := fun k ok hk hki hun hno => by
        refine hfree k ok hk hki ?_ hno
        by_cases hjk : j = k
        · subst hjk; exact hjun
        · rw [getD_set_ne true hjk] at hun; exact hun
      refine bOp_mono (fun a' w' _ h3 => ih (listed.setIfInBounds j true) a' w' (by simpa using hsz) hfree' (ready_mono hr (Ne.symm hji)) h3.1 ?_) h2
      rw [Array.setIfInBounds_comm _ _ hji]
      exact h3.2

/-! ### The walk: what is old, what is made -/
structure SatC (N : Fr) (B : Nat) (w0 : World) (B0 : Nat) (E : Env) (rn ro : List Res) (a : Act) (w : World) : Prop where
  s : Sat N B w0 E (rn ++ ro) a w
  b : B0 ≤ w.heap.size
  o : ∀ r ∈ ro, ∀ k, r.blk = some k → k < B0
  n : ∀ r ∈ rn, ∀ k, r.blk = some k → B0 ≤ k
inductive Stp
  | q (k : Nat)
  | s (k : Nat)
  | p (k1 k2 : Nat)
/-- a store into what is made -/
def So (P : Program) (N : Fr) (B : Nat) (w0 : World) (E : Env) (rn ro : List Res) (o : Oper) (rn' : List Res) : Prop :=
  ∀ B0 a w, B ≤ B0 → SatC N B w0 B0 E rn ro a w → ∃ w', (execOp a.eval o).run P w = .ok .skip w' ∧ Below B0 w w' ∧ SatC N B w0 B0 E rn' ro a w'
def X (P : Program) (ops : Array Oper) (N : Fr) (B : Nat) (w0 : World) (fin : Env → List Res → Prop) (ro : List Res) : List Stp → Env → List Res → Prop
  | [], E, rn => fin E (rn ++ ro)
  | .q k :: t, E, rn => ∃ o d v, ops[k]? = some o ∧ o.dst = some d ∧ Nat.blt d N.n = true ∧ ((Wanted ops N E o true ∧ Qu P N B w0 E ro o v) ∨ (Wanted ops N E o false ∧ v = undef)) ∧ X P ops N B w0 fin ro t ((d, v) :: E) rn
  | .s k :: t, E, rn => ∃ o, ops[k]? = some o ∧ o.guard = none ∧ ((∃ d post, o.dst = some d ∧ Nat.blt d N.n = true ∧ Lo P N B w0 E (rn ++ ro) o post ∧ ∀ v rs', post v rs' → X P ops N B w0 fin ro t ((d, v) :: E) (rs' ++ rn)) ∨
      (∃ rn', o.dst = none ∧ So P N B w0 E rn ro o rn' ∧ X P ops N B w0 fin ro t E rn'))
  | .p k1 k2 :: t, E, rn => ∃ d1 d2 t1 t2 ty1 ty2 p1 p2 a1 a2 zs1 zs2, d1 ≠ d2 ∧ ops[k1]? = some ⟨some d1, .alloc t1, ty1, p1, a1, none⟩ ∧ ops[k2]? = some ⟨some d2, .alloc t2, ty2, p2, a2, none⟩ ∧ Nat.blt d1 N.n = true ∧ Nat.blt d2 N.n = true ∧
      (∀ E rs, Lo P N B w0 E rs ⟨some d1, .alloc t1, ty1, p1, a1, none⟩ (isBox t1 zs1)) ∧ (∀ E rs, Lo P N B w0 E rs ⟨some d2, .alloc t2, ty2, p2, a2, none⟩ (isBox t2 zs2)) ∧
      ∀ g1 g2, X P ops N B w0 fin ro t ((d2, .pointer (some ⟨g2, 0, none⟩)) :: (d1, .pointer (some ⟨g1, 0, none⟩)) :: E) (box g2 t2 zs2 :: box g1 t1 zs1 :: rn)
def flowC (md : Region.Mode) (ops : Array Oper) : List Stp → Array Bool → Bool
  | [], listed => decide (Region.ready md ops listed = []) && decide (listed = Array.replicate ops.size true)
  | .q k :: t, listed => (Region.ready md ops listed).contains k && Region.free md ops listed k && flowC md ops t (listed.setIfInBounds k true)
  | .s k :: t, listed => decide (Region.ready md ops listed = [k]) && flowC md ops t (listed.setIfInBounds k true)
  | .p k1 k2 :: t, listed => decide (k1 ≠ k2) && (decide (Region.ready md ops listed = [k1, k2]) || decide (Region.ready md ops listed = [k2, k1])) && decide (Region.ready md ops (listed.setIfInBounds k1 true) = [k2]) && decide (Region.ready md ops (listed.setIfInBounds k2 true) = [k1]) &&
      flowC md ops t ((listed.setIfInBounds k1 true).setIfInBounds k2 true)
def stN : List Stp → Nat
  | [] => 0
  | .p _ _ :: t => stN t + 2
  | _ :: t => stN t + 1
theorem SatC.put {E : Env} {rn ro : List Res} {a : Act} {w : World} (h : SatC N B w0 B0 E rn ro a w) {d : Nat} (hd : Nat.blt d N.n = true) (v : Value) : SatC N B w0 B0 ((d, v) :: E) rn ro (a.put (some d) v) w := ⟨h.s.put hd v h.s.ws, h.b, h.o, h.n⟩
theorem lo_bwp {E : Env} {rn ro : List Res} {o : Oper} {post : Value → List Res → Prop} {d : Nat} {a : Act} {w : World} {K : Act → World → Prop}
    (hd : o.dst = some d) (hN : Nat.blt d N.n = true) (hq : Lo P N B w0 E (rn ++ ro) o post) (hs : SatC N B w0 B0 E rn ro a w) (hK : ∀ v rs' a' w', post v rs' → SatC N B w0 B0 ((d, v) :: E) (rs' ++ rn) ro a' w' → K a' w') : bwp P B0 o a w K := by
  have fin : ∀ v w' rs', Below w.heap.size w w' → post v rs' → (∀ r ∈ rs', r.ok B w' ∧ ∀ k, r.blk = some k → w.heap.size ≤ k) → Disj rs' → K (a.put o.dst v) w' := fun v w' rs' hb hp hrs hdj => by
    refine hK v rs' _ _ hp ⟨?_, Nat.le_trans hs.b hb.size, hs.o, fun r hr k hk => ?_⟩
    · rw [hd, List.append_assoc]
      exact hs.s.put hN v (hs.s.ws.more hb hrs hdj)
    · rcases List.mem_append.1 hr with h | h
      · exact Nat.le_trans hs.b ((hrs r h).2 k hk)
      · exact hs.n r h k hk
  rcases hq a w hs.s with ⟨v, w', rs', hr, hb, hp, hrs, hdj⟩ | ⟨f, args, hr, hc⟩
  · exact .inl ⟨v, w', hr, hb.mono hs.b, fin v w' rs' hb hp hrs hdj⟩
  · refine .inr (.inr ⟨f, args, hr, hc.mono ?_⟩)
    rintro e w'' ⟨v, rs', rfl, hb, hp, hrs, hdj⟩
    exact ⟨v, rfl, hb.mono hs.b, fin v w'' rs' hb hp hrs hdj⟩
theorem flow_soundC {fin : Env → List Res → Prop} {ro : List Res} (hsel : Region.noSelect ops = true) (hBB : B ≤ B0) :
    ∀ (ord : List Stp) (listed : Array Bool) (a : Act) (w : World) (E : Env) (rn : List Res), flowC md ops ord listed = true → listed.size = ops.size → SatC N B w0 B0 E rn ro a w → X P ops N B w0 fin ro ord E rn →
    wpAnyB P B0 md ops (fun a' w' => ∃ E' rs', fin E' rs' ∧ Sat N B w0 E' rs' a' w') (stN ord) listed a w
  | [], listed, a, w, E, rn, hB, _, hs, h => by
    simp only [flowC, Bool.and_eq_true, decide_eq_true_eq] at hB
    exact ⟨hB.1, E, _, h, hs.s⟩
  | .q k :: t, listed, a, w, E, rn, hB, hsz, hs, h => by
    simp only [flowC, Bool.and_eq_true] at hB
    obtain ⟨⟨hr, hf⟩, hB'⟩ := hB
    obtain ⟨o, d, v, ho, hd, hN, hq, hX⟩ := h
    have hr' : k ∈ Region.ready md ops listed := by simpa using hr
    have hy : YieldsB P B0 ops o v a w := by
      rcases hq with ⟨hw, hq⟩ | ⟨hw, hv⟩
      · refine .inl ⟨hw.is hs.s, fun w' hb => hq a w' ?_⟩
        have h1 := hs.s.ws.sub (List.sublist_append_right rn ro)
        refine hs.s.world ⟨h1.bel.trans (hb.mono hBB), Nat.le_trans h1.bas hb.size, fun r hrm => ?_, h1.dis⟩
        exact r.st (h1.res r hrm) hb.size (fun k hk => hb.block k (hs.o r hrm k hk))
      · exact .inr ⟨hw.is hs.s, hv⟩
    exact wpAnyB_first ho (Region.noSelect_spec hsel) _ listed a w hsz (Region.free_spec ho hf) hr' hy
      (flow_soundC hsel hBB t _ _ _ _ _ hB' (by simpa using hsz) (by rw [hd]; exact hs.put hN v) hX)
  | .s k :: t, listed, a, w, E, rn, hB, hsz, hs, h => by
    simp only [flowC, Bool.and_eq_true, decide_eq_true_eq] at hB
    obtain ⟨hr, hB'⟩ := hB
    obtain ⟨o, ho, hg, h⟩ := h
    refine ⟨fun h0 => (by rw [hr] at h0; cases h0), fun i hi => ?_⟩
    have hik : i = k := by rw [hr] at hi; simpa using hi
    subst hik
    unfold bOp
    have hw : Region.wanted o (yielded ops a.tmps) = true := by simp [Region.wanted, hg]
    simp only [ho, hw, if_true]
    rcases h with ⟨d, post, hd, hN, hq, hX⟩ | ⟨rn', hd, hq, hX⟩
    · exact lo_bwp hd hN hq hs fun v rs' a' w' hp hs' => flow_soundC hsel hBB t _ _ _ _ _ hB' (by simpa using hsz) hs' (hX v rs' hp)
    · obtain ⟨w', h1, h2, h3⟩ := hq B0 a w hBB hs
      refine .inr (.inl ⟨w', h1, h2, ?_⟩)
      rw [hd]
      exact flow_soundC hsel hBB t _ _ _ _ _ hB' (by simpa using hsz) h3 hX
  | .p k1 k2 :: t, listed, a, w, E, rn, hB, hsz, hs, h => by
    simp only [flowC, Bool.and_eq_true, decide_eq_true_eq, Bool.or_eq_true] at hB
    obtain ⟨⟨⟨⟨hne, hr⟩, hr1⟩, hr2⟩, hB'⟩ := hB
    obtain ⟨d1, d2, t1, t2, ty1, ty2, p1, p2, a1, a2, zs1, zs2, hdn, ho1, ho2, hn1, hn2, hl1, hl2, hX⟩ := h
    have mem : ∀ i, i ∈ Region.ready md ops listed → i = k1 ∨ i = k2 := fun i hi => by
      rcases hr with hr | hr
      · rw [hr] at hi; simpa using hi
      · rw [hr] at hi
        rcases List.mem_cons.1 hi with h | h
        · exact .inr h
        · exact .inl (by simpa using h)
    refine ⟨fun h0 => (by rcases hr with hr | hr <;> (rw [hr] at h0; cases h0)), fun i hi => ?_⟩
    rcases mem i hi with rfl | rfl
    · unfold bOp
      have hw : ∀ a : Act, Region.wanted (⟨some d1, .alloc t1, ty1, p1, a1, none⟩ : Oper) (yielded ops a.tmps) = true := fun a => by simp [Region.wanted]
      simp only [ho1, hw, if_true]
      refine lo_bwp rfl hn1 (hl1 E _) hs fun v rs' a' w' hp hs' => ?_
      obtain ⟨g1, rfl, rfl⟩ := hp
      refine ⟨fun h0 => (by rw [hr1] at h0; cases h0), fun j hj => ?_⟩
      have hj2 : j = k2 := by rw [hr1] at hj; simpa using hj
      subst hj2
      unfold bOp
      have hw2 : ∀ a : Act, Region.wanted (⟨some d2, .alloc t2, ty2, p2, a2, none⟩ : Oper) (yielded ops a.tmps) = true := fun a => by simp [Region.wanted]
      simp only [ho2, hw2, if_true]
      refine lo_bwp rfl hn2 (hl2 _ _) hs' fun v rs' a' w' hp hs'' => ?_
      obtain ⟨g2, rfl, rfl⟩ := hp
      exact flow_soundC hsel hBB t _ _ _ _ _ hB' (by simpa using hsz) hs'' (hX g1 g2)
    · unfold bOp
      have hw2 : ∀ a : Act, Region.wanted (⟨some d2, .alloc t2, ty2, p2, a2, none⟩ : Oper) (yielded ops a.tmps) = true := fun a => by simp [Region.wanted]
      simp only [ho2, hw2, if_true]
      refine lo_bwp rfl hn2 (hl2 E _) hs fun v rs' a' w' hp hs' => ?_
      obtain ⟨g2, rfl, rfl⟩ := hp
      refine ⟨fun h0 => (by rw [hr2] at h0; cases h0), fun j hj => ?_⟩
      have hj1 : j = k1 := by rw [hr2] at hj; simpa using hj
      subst hj1
      unfold bOp
      have hw : ∀ a : Act, Region.wanted (⟨some d1, .alloc t1, ty1, p1, a1, none⟩ : Oper) (yielded ops a.tmps) = true := fun a => by simp [Region.wanted]
      simp only [ho1, hw, if_true]
      refine lo_bwp rfl hn1 (hl1 _ _) hs' fun v rs' a' w' hp hs'' => ?_
      obtain ⟨g1, rfl, rfl⟩ := hp
      rw [Array.setIfInBounds_comm _ _ (Ne.symm hne)]
      refine flow_soundC hsel hBB t _ _ _ _ _ hB' (by simpa using hsz) ⟨swap_alloc hdn hs''.s, hs''.b, hs''.o, fun r hr k hk => hs''.n r ?_ k hk⟩ (hX g1 g2)
      rcases List.mem_cons.1 hr with h | h
      · exact List.mem_cons_of_mem _ (h ▸ List.mem_cons_self)
      · rcases List.mem_cons.1 h with h | h
        · exact h ▸ List.mem_cons_self
        · exact List.mem_cons_of_mem _ (List.mem_cons_of_mem _ h)
/-- A region that draws its order and writes to what it has made. -/
theorem C_wide {id : Nat} {l : List Oper} {Q : Exit → Act → World → Prop} {E : Env} {rs : List Res} (ord : List Stp) (hm : P.follows .mixedOrders = true) (hsel : Region.noSelect l.toArray = true) (hn : stN ord = l.toArray.size) (hB : flowC .any l.toArray ord (Array.replicate l.toArray.size false) = true)
    (h : X P l.toArray N B w0 (fun E' rs' => L P l.toArray Q N B w0 E' rs' []) rs ord E []) : C P Q N B w0 E rs (.region id l.toArray true) := by
  intro a w hs
  have hs' : Sat N B w0 E rs a w.drew := hs.world (hs.ws.later ⟨rfl, rfl, rfl, Nat.le_refl _, fun _ _ => rfl⟩)
  have H := flow_soundC (md := .any) (B0 := w.drew.heap.size) hsel hs'.ws.bas ord _ a w.drew E [] hB (by simp) ⟨hs', Nat.le_refl _, fun r hr k hk => r.lt (hs'.ws.res r hr) k hk, fun r hr => (by cases hr)⟩ h
  refine wpIn_region_any hm ?_
  have := wpAny_of_anyB (ro := N.ro) (Q := Q) (fun listed a' w' hr hT => by
    obtain ⟨E', rs', h2, h3⟩ := hT
    exact ⟨hr, h2 a' w' h3⟩) _ _ _ _ H
  rw [hn] at this
  exact this

/-! ### The steps of such a walk -/
variable {fin : Env → List Res → Prop} {E : Env} {rn ro : List Res} {t : List Stp} {k d : Nat} {o : Oper}
theorem X_nil (h : fin E (rn ++ ro)) : X P ops N B w0 fin ro [] E rn := h
theorem X_q {v : Value} (ho : ops[k]? = some o) (hd : o.dst = some d) (hg : o.guard = none) (hN : Nat.blt d N.n = true) (hq : Qu P N B w0 E ro o v) (h : X P ops N B w0 fin ro t ((d, v) :: E) rn) : X P ops N B w0 fin ro (.q k :: t) E rn :=
  ⟨o, d, v, ho, hd, hN, .inl ⟨.inl ⟨hg, rfl⟩, hq⟩, h⟩
theorem X_lo {post : Value → List Res → Prop} (ho : ops[k]? = some o) (hd : o.dst = some d) (hg : o.guard = none) (hN : Nat.blt d N.n = true) (hq : Lo P N B w0 E (rn ++ ro) o post)
    (h : ∀ v rs', post v rs' → X P ops N B w0 fin ro t ((d, v) :: E) (rs' ++ rn)) : X P ops N B w0 fin ro (.s k :: t) E rn := ⟨o, ho, hg, .inl ⟨d, post, hd, hN, hq, h⟩⟩
theorem X_alloc (T : Tab P) {u sz bs : Nat} {ag : Bool} {zs : List Value} {ty : TypeId} {pos : String} {aft : Array Edge} (ho : ops[k]? = some o) (hop : o = ⟨some d, .alloc u, ty, pos, aft, none⟩) (ht : lkT T.ty u = some (ag, sz, bs, zs)) (hN : Nat.blt d N.n = true)
    (h : ∀ g, X P ops N B w0 fin ro t ((d, .pointer (some ⟨g, 0, none⟩)) :: E) (box g u zs :: rn)) : X P ops N B w0 fin ro (.s k :: t) E rn := by
  subst hop
  exact X_lo ho rfl rfl hN (lo_alloc T ht) fun _ _ ⟨g, hv, hr⟩ => by subst hv; subst hr; exact h g
theorem X_pair (T : Tab P) {k1 k2 d1 d2 t1 t2 sz1 bs1 sz2 bs2 : Nat} {ag1 ag2 : Bool} {zs1 zs2 : List Value} {ty1 ty2 : TypeId} {p1 p2 : String} {a1 a2 : Array Edge} (ho1 : ops[k1]? = some ⟨some d1, .alloc t1, ty1, p1, a1, none⟩) (ho2 : ops[k2]? = some ⟨some d2, .alloc t2, ty2, p2, a2, none⟩)
    (hz1 : lkT T.ty t1 = some (ag1, sz1, bs1, zs1)) (hz2 : lkT T.ty t2 = some (ag2, sz2, bs2, zs2)) (hn1 : Nat.blt d1 N.n = true) (hn2 : Nat.blt d2 N.n = true) (hne : d1 ≠ d2)
    (h : ∀ g1 g2, X P ops N B w0 fin ro t ((d2, .pointer (some ⟨g2, 0, none⟩)) :: (d1, .pointer (some ⟨g1, 0, none⟩)) :: E) (box g2 t2 zs2 :: box g1 t1 zs1 :: rn)) : X P ops N B w0 fin ro (.p k1 k2 :: t) E rn :=
  ⟨d1, d2, t1, t2, ty1, ty2, p1, p2, a1, a2, zs1, zs2, hne, ho1, ho2, hn1, hn2, fun _ _ => lo_alloc T hz1, fun _ _ => lo_alloc T hz2, h⟩
theorem SatC.perm {rn' : List Res} {a : Act} {w : World} (h : SatC N B w0 B0 E rn ro a w) (hp : rn'.Perm rn) : SatC N B w0 B0 E rn' ro a w :=
  ⟨h.s.world (h.s.ws.perm (hp.append_right ro)), h.b, h.o, fun r hr k hk => h.n r (hp.mem_iff.1 hr) k hk⟩
theorem X_store (T : Tab P) {u bt : TypeId} {ag : Bool} {sz bs : Nat} {zs : List Value} {x y : Operand} {g of : Nat} {xs cs ys : List Value} {v : Value} {ty : TypeId} {pos : String} {aft : Array Edge} {rest : List Res} (ho : ops[k]? = some o) (hop : o = ⟨none, .store u x y, ty, pos, aft, none⟩) (hp : (box g bt xs :: rest).Perm rn)
    (ht : lkT T.ty u = some (ag, sz, bs, zs)) (hx : ev E x = some (.pointer (some ⟨g, of, none⟩))) (hy : ev E y = some v) (hc : v.cells.toList = cs)
    (hl : Nat.beq cs.length sz = true) (h1 : cs.all (·.oneCell') = true) (hb : Nat.ble (of + cs.length) xs.length = true) (hz : lay xs of cs = ys) (h : X P ops N B w0 fin ro t E (box g bt ys :: rest)) : X P ops N B w0 fin ro (.s k :: t) E rn := by
  subst hop
  refine ⟨_, ho, rfl, .inr ⟨box g bt ys :: rest, rfl, fun B0 a w hBB hs0 => ?_, h⟩⟩
  have hs := hs0.perm hp
  have hsz := T.sizeOf ht w
  simp only at hsz
  have hbox := hs.s.has (r := box g bt xs) List.mem_cons_self
  have hl' := Nat.eq_of_beq_eq_true hl
  have hb' : of + cs.length ≤ xs.length := Nat.ble_eq.mp hb
  have hst := run_storeCells_at (P := P) g of bt cs 0 xs.toArray w (box_ok.1 hbox).2 (by simpa using hb') (by simpa using h1)
  have hlay : (xs.toArray.toList.take (of + 0) ++ cs ++ xs.toArray.toList.drop (of + 0 + cs.length)) = ys := by rw [← hz]; simp [lay]
  rw [hlay] at hst
  have hvs : v.cells.size = sz := by rw [← hl', ← hc]; simp
  have hg0 : B0 ≤ g := hs.n _ List.mem_cons_self g (box_blk _ _ _)
  refine ⟨w.setRow g ys.toArray, ?_, ⟨rfl, rfl, rfl, by rw [setRow_size]; exact Nat.le_refl _, fun k hk => setRow_other w g k _ (by omega)⟩, ?_⟩
  · simp only [execOp, hs.s.eval hx, hs.s.eval hy, Instr.storeAt, Instr.sureAddr, storeVar, Sem.run_bind, Sem.run_pure, Result.andThen_ok, hsz, hvs, hc]
    simp [hst]
  · refine ⟨hs.s.world (hs.s.ws.turn (box_own _ _ _) (by rw [box_blk, box_blk]) (box_own _ _ _) (box_setRow hbox) ⟨rfl, rfl, rfl⟩ (by rw [setRow_size]; exact Nat.le_refl _) (fun k _ hne => setRow_other w g k _ (fun e => hne (by rw [box_blk, e])))), by rw [setRow_size]; exact hs.b, hs.o, fun r hr k hk => ?_⟩
    rcases List.mem_cons.1 hr with rfl | hr
    · rw [box_blk] at hk
      injection hk with hk
      omega
    · exact hs.n r (List.mem_cons_of_mem _ hr) k hk
end
end Go.Proofs.YtibohfipgjljhaaDoor
namespace Go.Proofs.YtibohfipgjljhaaDoor
open Go.RowKit

/-- An allocation of a region: its place, its slot, its type, the cells of the type's zero. -/
structure Al where
  k : Nat
  d : Nat
  t : TypeId
  zs : List Value
def entsA (dn : List (Al × Nat)) : Env := dn.map fun p => (p.1.d, .pointer (some ⟨p.2, 0, none⟩))
def boxA (dn : List (Al × Nat)) : List Res := dn.map fun p => box p.2 p.1.t p.1.zs
def noD (A : List Al) (d : Nat) : Bool := A.all fun x => !(Nat.beq x.d d)
def freshE (A : List Al) (E : Env) : Bool := A.all fun x => (lk E x.d).isNone

theorem lk_ents {dn : List (Al × Nat)} {E : Env} {i : Nat} (h : ∀ p ∈ dn, p.1.d ≠ i) : lk (entsA dn ++ E) i = lk E i := by
  induction dn with
  | nil => rfl
  | cons p t ih =>
    show lk ((p.1.d, _) :: (entsA t ++ E)) i = _
    rw [lk_cons, if_neg (fun e => h p List.mem_cons_self e.symm)]
    exact ih fun q hq => h q (List.mem_cons_of_mem _ hq)
theorem le_ents {dn : List (Al × Nat)} {E : Env} (h : ∀ p ∈ dn, lk E p.1.d = none) : leE (entsA dn ++ E) E := fun i v hv => by
  rw [lk_ents (fun p hp e => by have h1 := h p hp; rw [e, hv] at h1; cases h1)]
  exact hv
theorem le_move {dn : List (Al × Nat)} {E : Env} {d : Nat} {v : Value} (h : ∀ p ∈ dn, p.1.d ≠ d) : leE ((d, v) :: (entsA dn ++ E)) (entsA dn ++ ((d, v) :: E)) := by
  induction dn with
  | nil => exact fun i u hu => hu
  | cons p t ih =>
    have ih := ih fun q hq => h q (List.mem_cons_of_mem _ hq)
    intro i u hu
    replace hu : lk ((p.1.d, .pointer (some ⟨p.2, 0, none⟩)) :: (entsA t ++ ((d, v) :: E))) i = some u := hu
    show lk ((d, v) :: (p.1.d, .pointer (some ⟨p.2, 0, none⟩)) :: (entsA t ++ E)) i = some u
    have hne := h p List.mem_cons_self
    rw [lk_cons] at hu
    rw [lk_cons, lk_cons]
    by_cases h1 : i = p.1.d
    · rw [if_pos h1] at hu
      rw [if_neg (fun e => hne (h1 ▸ e)), if_pos h1]
      exact hu
    · rw [if_neg h1] at hu
      have := ih i u hu
      rw [lk_cons] at this
      rw [if_neg h1]
      exact this

section
variable {P : Program} {ops : Array Oper} {md : Region.Mode} {N : Fr} {B : Nat} {w0 : World}
def flowA (md : Region.Mode) (ops : Array Oper) (n : Nat) : Nat → List (Nat × Bool) → List Al → Array Bool → Bool
  | 0, [], [], listed => Region.seqB md ops (ops.size - n) n listed
  | f + 1, (k, false) :: t, rem, listed => Nat.blt k n && (Region.ready md ops listed).contains k && Region.free md ops listed k && flowA md ops n f t rem (listed.setIfInBounds k true)
  | f + 1, (k, true) :: t, rem, listed => Nat.blt k n && decide (Region.ready md ops listed ≠ []) && (Region.ready md ops listed).all (fun i => decide (i = k) || rem.any (fun x => decide (x.k = i))) &&
      (!((Region.ready md ops listed).contains k) || flowA md ops n f t rem (listed.setIfInBounds k true)) && rem.all (fun x => !((Region.ready md ops listed).contains x.k) || (Nat.blt x.k n && flowA md ops n f ((k, true) :: t) (rem.filter fun y => decide (y.k ≠ x.k)) (listed.setIfInBounds x.k true)))
  | f + 1, [], rem, listed => decide (Region.ready md ops listed ≠ []) && (Region.ready md ops listed).all (fun i => rem.any (fun x => decide (x.k = i))) &&
      rem.all (fun x => !((Region.ready md ops listed).contains x.k) || (Nat.blt x.k n && flowA md ops n f [] (rem.filter fun y => decide (y.k ≠ x.k)) (listed.setIfInBounds x.k true)))
  | _, _, _, _ => false
/-- what each allocation of the list is -/
def IsAl (P : Program) (ops : Array Oper) (N : Fr) (B : Nat) (w0 : World) (x : Al) : Prop :=
  ∃ ty pos aft, ops[x.k]? = some ⟨some x.d, .alloc x.t, ty, pos, aft, none⟩ ∧ Nat.blt x.d N.n = true ∧ ∀ E rs, Lo P N B w0 E rs ⟨some x.d, .alloc x.t, ty, pos, aft, none⟩ (isBox x.t x.zs)
/-- the other operations write other slots -/
def dstOk (ops : Array Oper) (A : List Al) (ord : List (Nat × Bool)) : Bool := ord.all fun p => match (ops[p.1]?).bind (·.dst) with
  | some d => noD A d
  | none => true
theorem noD_ne {A : List Al} {d : Nat} (h : noD A d = true) : ∀ x ∈ A, x.d ≠ d := fun x hx e => by
  have := List.all_eq_true.1 h x hx
  rw [e, Nat.beq_refl] at this
  cases this
theorem filter_sub {A : List Al} {x : Al} {k : Nat} (h : x ∈ A.filter fun y => decide (y.k ≠ k)) : x ∈ A := (List.mem_filter.1 h).1
theorem W_mono {fin fin' : Env → List Res → Prop} (h : ∀ E rs, fin E rs → fin' E rs) : ∀ (ord : List (Nat × Bool)) (E : Env) (rs : List Res), W P ops N B w0 fin ord E rs → W P ops N B w0 fin' ord E rs
  | [], _, _, hW => h _ _ hW
  | (_, false) :: t, _, _, ⟨o, d, v, h1, h2, h3, h4, h5⟩ => ⟨o, d, v, h1, h2, h3, h4, W_mono h t _ _ h5⟩
  | (_, true) :: t, _, _, ⟨o, d, h1, h2, h3, h4⟩ => ⟨o, d, h1, h2, h3, or_map h4 (fun ⟨post, x, y, z⟩ => ⟨post, x, y, fun v rs' hp => W_mono h t _ _ (z v rs' hp)⟩) (fun ⟨x, y⟩ => ⟨x, W_mono h t _ _ y⟩)⟩
theorem flow_soundA {A : List Al} {n : Nat} {fin : Env → List Res → Prop} (hsel : Region.noSelect ops = true) (htw : TailWaits md ops n) (hAl : ∀ x ∈ A, IsAl P ops N B w0 x) (hkd : ∀ x ∈ A, ∀ y ∈ A, x.k = y.k → x = y) (hAn : A.Nodup) :
    ∀ (f : Nat) (ord : List (Nat × Bool)) (rem : List Al) (dn : List (Al × Nat)) (listed : Array Bool) (a : Act) (w : World) (E : Env) (rs : List Res), flowA md ops n f ord rem listed = true → HeadInv md ops n listed →
    (dn.map Prod.fst ++ rem).Perm A → dstOk ops A ord = true → (∀ x ∈ A, lk E x.d = none) → Sat N B w0 (entsA dn ++ E) (boxA dn ++ rs) a w →
    W P ops N B w0 (fun E' rs' => ∀ dn', (dn'.map Prod.fst).Perm A → fin (entsA dn' ++ E') (boxA dn' ++ rs')) ord E rs →
    wpAnyM P md ops n (fun listed' a' w' => Region.seqB md ops (ops.size - n) n listed' = true ∧ ∃ E' rs', fin E' rs' ∧ Sat N B w0 E' rs' a' w') f listed a w := by
  have hdone : ∀ (listed : Array Bool) (a : Act) (w : World), (Region.seqB md ops (ops.size - n) n listed = true ∧ ∃ E' rs', fin E' rs' ∧ Sat N B w0 E' rs' a w) → ∀ j ∈ Region.ready md ops listed, n ≤ j := fun _ _ _ hT => seqB_ready hT.1
  intro f
  induction f with
  | zero =>
    intro ord rem dn listed a w E rs hB inv hp hd hf hs hW
    match ord, rem, hB with
    | [], [], hB =>
      rw [List.append_nil] at hp
      exact ⟨hB, _, _, hW dn hp, hs⟩
  | succ f ih =>
    -- one allocation
    have alloc : ∀ (ord : List (Nat × Bool)) (rem : List Al) (dn : List (Al × Nat)) (listed : Array Bool) (a : Act) (w : World) (E : Env) (rs : List Res) (x : Al), x ∈ rem → x.k ∈ Region.ready md ops listed → Nat.blt x.k n = true →
        flowA md ops n f ord (rem.filter fun y => decide (y.k ≠ x.k)) (listed.setIfInBounds x.k true) = true → HeadInv md ops n listed → (dn.map Prod.fst ++ rem).Perm A → dstOk ops A ord = true → (∀ x ∈ A, lk E x.d = none) → Sat N B w0 (entsA dn ++ E) (boxA dn ++ rs) a w →
        W P ops N B w0 (fun E' rs' => ∀ dn', (dn'.map Prod.fst).Perm A → fin (entsA dn' ++ E') (boxA dn' ++ rs')) ord E rs →
        mOp P ops x.k (wpAnyM P md ops n (fun listed' a' w' => Region.seqB md ops (ops.size - n) n listed' = true ∧ ∃ E' rs', fin E' rs' ∧ Sat N B w0 E' rs' a' w') f (listed.setIfInBounds x.k true)) a w := by
      intro ord rem dn listed a w E rs x hx hr hkn hB inv hp hd hf hs hW
      have hxA : x ∈ A := hp.mem_iff.1 (List.mem_append_right _ hx)
      obtain ⟨ty, pos, aft, ho, hN, hl⟩ := hAl x hxA
      unfold mOp
      have hw : Region.wanted (⟨some x.d, .alloc x.t, ty, pos, aft, none⟩ : Oper) (yielded ops a.tmps) = true := by simp [Region.wanted]
      simp only [ho, hw, if_true]
      refine lo_mwp rfl hN (hl _ _) hs fun v rs' a' w' hpo hs' => ?_
      obtain ⟨g, rfl, rfl⟩ := hpo
      refine ih ord _ ((x, g) :: dn) _ a' w' E rs hB (inv.set hr (blt_lt hkn)) ?_ hd hf hs' hW
      -- the list without x, with x in front
      have key : ∀ l : List Al, x ∈ l → (∀ y ∈ l, y.k = x.k → y = x) → l.Nodup → (x :: l.filter fun y => decide (y.k ≠ x.k)).Perm l := by
        intro l
        induction l with
        | nil => intro h; cases h
        | cons y t iht =>
          intro hm hu hn
          by_cases hyx : y = x
          · subst hyx
            have : t.filter (fun z => decide (z.k ≠ y.k)) = t := List.filter_eq_self.2 fun z hz => by
              simp only [decide_eq_true_eq]
              intro he
              have := hu z (List.mem_cons_of_mem _ hz) he
              subst this
              exact (List.nodup_cons.1 hn).1 hz
            rw [List.filter_cons, if_neg (by simp), this]
          · have hmt : x ∈ t := by
              rcases List.mem_cons.1 hm with h | h
              · exact absurd h.symm hyx
              · exact h
            rw [List.filter_cons, if_pos (by simpa using fun he => hyx (hu y List.mem_cons_self he))]
            exact (List.Perm.swap _ _ _).trans ((iht hmt (fun z hz => hu z (List.mem_cons_of_mem _ hz)) (List.nodup_cons.1 hn).2).cons y)
      have hnd : rem.Nodup := (List.nodup_append.1 (hp.nodup_iff.2 hAn)).2.1
      have h1 := key rem hx (fun y hy he => hkd y (hp.mem_iff.1 (List.mem_append_right _ hy)) x hxA he) hnd
      show (x :: (dn.map Prod.fst ++ _)).Perm A
      exact (List.perm_middle.symm.trans (h1.append_left _)).trans hp
    intro ord rem dn listed a w E rs hB inv hp hd hf hs hW
    have hsub : Sat N B w0 E rs a w := (hs.le (le_ents fun p hp' => hf p.1 (hp.mem_iff.1 (List.mem_append_left _ (List.mem_map_of_mem hp'))))).world (hs.ws.sub (List.sublist_append_right _ _))
    match ord, hB with
    | (k, false) :: t, hB =>
      simp only [flowA, Bool.and_eq_true] at hB
      obtain ⟨⟨⟨hkn, hr⟩, hfr⟩, hB'⟩ := hB
      obtain ⟨o, d, v, ho, hdst, hN, hq, hW'⟩ := hW
      have hkn' := blt_lt hkn
      have hr' : k ∈ Region.ready md ops listed := by simpa using hr
      have hy : YieldsUp P ops o v a w := by
        rcases hq with ⟨hw, hq⟩ | ⟨hw, hv⟩
        · exact .inl ⟨hw.is hsub, fun w' hb => hq a w' (hsub.world (hsub.ws.later hb))⟩
        · exact .inr ⟨hw.is hsub, hv⟩
      have hd1 : noD A d = true := by
        have := List.all_eq_true.1 hd (k, false) List.mem_cons_self
        simpa [ho, hdst] using this
      have hne := noD_ne hd1
      refine wpAnyM_first ho (Region.noSelect_spec hsel) htw hkn' hdone _ listed a w inv (Region.free_spec ho hfr) hr' hy
        (ih t rem dn _ _ w ((d, v) :: E) rs hB' (inv.set hr' hkn') hp (List.all_eq_true.2 fun p hpm => List.all_eq_true.1 hd p (List.mem_cons_of_mem _ hpm)) (fun x hx => by rw [lk_cons, if_neg (hne x hx)]; exact hf x hx) ?_ hW')
      rw [hdst]
      exact (hs.put hN v hs.ws).le (le_move fun p hpm => hne p.1 (hp.mem_iff.1 (List.mem_append_left _ (List.mem_map_of_mem hpm))))
    | (k, true) :: t, hB =>
      simp only [flowA, Bool.and_eq_true, decide_eq_true_eq] at hB
      obtain ⟨⟨⟨⟨hkn, hr0⟩, hall⟩, hk⟩, hrem⟩ := hB
      refine ⟨hr0, fun i hi => ?_⟩
      have hia := List.all_eq_true.1 hall i hi
      simp only [Bool.or_eq_true, decide_eq_true_eq, List.any_eq_true] at hia
      rcases hia with rfl | ⟨x, hx, rfl⟩
      · refine ⟨blt_lt hkn, ?_⟩
        have hkf : flowA md ops n f t rem (listed.setIfInBounds i true) = true := by
          rcases Bool.or_eq_true_iff.1 hk with h | h
          · simp [hi] at h
          · exact h
        obtain ⟨o, d, ho, hdst, hN, h⟩ := hW
        have hd1 : noD A d = true := by
          have := List.all_eq_true.1 hd (i, true) List.mem_cons_self
          simpa [ho, hdst] using this
        have hne := noD_ne hd1
        have hd' : dstOk ops A t = true := List.all_eq_true.2 fun p hpm => List.all_eq_true.1 hd p (List.mem_cons_of_mem _ hpm)
        have hf' : ∀ v, ∀ x ∈ A, lk ((d, v) :: E) x.d = none := fun v x hx => by rw [lk_cons, if_neg (hne x hx)]; exact hf x hx
        have hmv : ∀ v, leE ((d, v) :: (entsA dn ++ E)) (entsA dn ++ ((d, v) :: E)) := fun v => le_move fun p hpm => hne p.1 (hp.mem_iff.1 (List.mem_append_left _ (List.mem_map_of_mem hpm)))
        unfold mOp
        rcases h with ⟨post, hw, hq, hW'⟩ | ⟨hw, hW'⟩
        · simp only [ho, hw.is hsub, if_true]
          have fin' : ∀ v w' rs', Below w.heap.size w w' → post v rs' → (∀ r ∈ rs', r.ok B w' ∧ ∀ k, r.blk = some k → w.heap.size ≤ k) → Disj rs' →
              wpAnyM P md ops n (fun listed' a' w' => Region.seqB md ops (ops.size - n) n listed' = true ∧ ∃ E' rs', fin E' rs' ∧ Sat N B w0 E' rs' a' w') f (listed.setIfInBounds i true) (a.put o.dst v) w' := fun v w' rs' hb hpo hrs hdj => by
            refine ih t rem dn _ _ w' ((d, v) :: E) (rs' ++ rs) hkf (inv.set hi (blt_lt hkn)) hp hd' (hf' v) ?_ (hW' v rs' hpo)
            rw [hdst]
            refine ((hs.put hN v (hs.ws.more hb hrs hdj)).le (hmv v)).world ?_
            refine (hs.ws.more hb hrs hdj).perm ?_
            rw [← List.append_assoc, ← List.append_assoc]
            exact List.perm_append_comm.append_right rs
          rcases hq a w hsub with ⟨v, w', rs', hr, hb, hpo, hrs, hdj⟩ | ⟨fc, args, hr, hc⟩
          · exact .inl ⟨v, w', hr, hb, fin' v w' rs' hb hpo hrs hdj⟩
          · refine .inr ⟨fc, args, hr, hc.mono ?_⟩
            rintro e w'' ⟨v, rs', rfl, hb, hpo, hrs, hdj⟩
            exact ⟨v, rfl, hb, fin' v w'' rs' hb hpo hrs hdj⟩
        · simp only [ho, hw.is hsub, Bool.false_eq_true, if_false]
          refine ih t rem dn _ _ w ((d, undef) :: E) rs hkf (inv.set hi (blt_lt hkn)) hp hd' (hf' undef) ?_ hW'
          rw [hdst]
          exact (hs.put hN undef hs.ws).le (hmv undef)
      · have h1 := List.all_eq_true.1 hrem x hx
        have h2 : Nat.blt x.k n = true ∧ flowA md ops n f ((k, true) :: t) (rem.filter fun y => decide (y.k ≠ x.k)) (listed.setIfInBounds x.k true) = true := by
          rcases Bool.or_eq_true_iff.1 h1 with h | h
          · simp [hi] at h
          · simpa using h
        exact ⟨blt_lt h2.1, alloc _ rem dn listed a w E rs x hx hi h2.1 h2.2 inv hp hd hf hs hW⟩
    | [], hB =>
      have hB2 : decide (Region.ready md ops listed ≠ []) = true ∧ (Region.ready md ops listed).all (fun i => rem.any (fun x => decide (x.k = i))) = true ∧
          rem.all (fun x => !((Region.ready md ops listed).contains x.k) || (Nat.blt x.k n && flowA md ops n f [] (rem.filter fun y => decide (y.k ≠ x.k)) (listed.setIfInBounds x.k true))) = true := by
        cases rem with
        | nil => simpa [flowA, and_assoc] using hB
        | cons y t => simpa [flowA, and_assoc] using hB
      obtain ⟨hr0, hall, hrem⟩ := hB2
      refine ⟨by simpa using hr0, fun i hi => ?_⟩
      have hia := List.all_eq_true.1 hall i hi
      simp only [decide_eq_true_eq, List.any_eq_true] at hia
      obtain ⟨x, hx, rfl⟩ := hia
      have h1 := List.all_eq_true.1 hrem x hx
      have h2 : Nat.blt x.k n = true ∧ flowA md ops n f [] (rem.filter fun y => decide (y.k ≠ x.k)) (listed.setIfInBounds x.k true) = true := by
        rcases Bool.or_eq_true_iff.1 h1 with h | h
        · simp [hi] at h
        · simpa using h
      exact ⟨blt_lt h2.1, alloc _ rem dn listed a w E rs x hx hi h2.1 h2.2 inv hp hd hf hs hW⟩
/-- A region that draws its order and makes memory at any time: one piece. -/
theorem drawA {A : List Al} {n : Nat} {l : List Oper} {Q : Exit → Act → World → Prop} {E : Env} {rs : List Res} {id : Nat} (ord : List (Nat × Bool)) (hm : P.follows .mixedOrders = true)
    (hB : (Region.noSelect l.toArray && (decide (n = l.toArray.size) || (Nat.blt n l.toArray.size && Region.sinkB .any l.toArray n && Region.chainB .any l.toArray n)) && decide (ord.length + A.length = n) && Nat.ble n l.toArray.size && dstOk l.toArray A ord && flowA .any l.toArray n n ord A (Array.replicate l.toArray.size false)) = true)
    (hAl : ∀ x ∈ A, IsAl P l.toArray N B w0 x) (hkd : ∀ x ∈ A, ∀ y ∈ A, x.k = y.k → x = y) (hAn : A.Nodup) (hf : freshE A E = true)
    (h : W P l.toArray N B w0 (fun E' rs' => ∀ dn', (dn'.map Prod.fst).Perm A → L P l.toArray Q N B w0 (entsA dn' ++ E') (boxA dn' ++ rs') (l.drop n)) ord E rs) : C P Q N B w0 E rs (.region id l.toArray true) := by
  intro a w hs
  simp only [Bool.and_eq_true, decide_eq_true_eq, Bool.or_eq_true, Nat.ble_eq] at hB
  obtain ⟨⟨⟨⟨⟨hsel, hn⟩, hol⟩, hle⟩, hdo⟩, hfl⟩ := hB
  have htw : TailWaits .any l.toArray n := by
    intro listed inv i hin hun t ht
    rcases hn with hn | ⟨⟨hn, hsk⟩, hch⟩
    · intro hr
      obtain ⟨_, o, ho, _⟩ := mem_ready.1 hr
      have := (Array.getElem?_eq_some_iff.1 ho).1
      omega
    · exact tail_waits hsk hch (blt_lt hn) inv _ i rfl hin hun t ht
  have hdl : (l.drop n).length = l.toArray.size - n := by simp
  have inv0 : HeadInv .any l.toArray n (Array.replicate l.toArray.size false) :=
    ⟨by simp, fun j oj _ hl => (by rw [getD_replicate_false] at hl; cases hl), fun t _ ht => getD_in (by simpa using ht) (getD_replicate_false _ _)⟩
  have hs' : Sat N B w0 E rs a w.drew := hs.world (hs.ws.later ⟨rfl, rfl, rfl, Nat.le_refl _, fun _ _ => rfl⟩)
  have H := flow_soundA (md := .any) (fin := fun E' rs' => L P l.toArray Q N B w0 E' rs' (l.drop n)) hsel htw hAl hkd hAn n ord A [] _ _ _ E rs hfl inv0 (List.Perm.refl _) hdo (fun x hx => by
    have := List.all_eq_true.1 hf x hx
    simpa using this) hs' h
  refine wpIn_region_any hm ?_
  have := wpAny_of_anyM (ro := N.ro) (Q := Q) (g := l.toArray.size - n) (fun listed a' w' hT => by
    obtain ⟨h1, E', rs', h2, h3⟩ := hT
    have := wpAnyIn_of_seq (ro := N.ro) (md := .any) (Q' := Q) (l.drop n) n listed a' w' (fun j => by simp [List.getElem?_drop]) (by rw [hdl]; exact h1) (h2 a' w' h3)
    rwa [hdl] at this) _ _ _ _ H
  rw [show n + (l.toArray.size - n) = l.toArray.size by omega] at this
  exact this
theorem isAl {l : List Oper} (T : Tab P) {k d t sz bs : Nat} {ag : Bool} {zs : List Value} {ty : TypeId} {pos : String} {aft : Array Edge} (ho : l.toArray[k]? = some ⟨some d, .alloc t, ty, pos, aft, none⟩) (hz : lkT T.ty t = some (ag, sz, bs, zs)) (hN : Nat.blt d N.n = true) : IsAl P l.toArray N B w0 ⟨k, d, t, zs⟩ :=
  ⟨ty, pos, aft, ho, hN, fun _ _ => lo_alloc T hz⟩
theorem C_drawA1 (T : Tab P) {id n k d t sz bs : Nat} {ag : Bool} {zs : List Value} {ty : TypeId} {pos : String} {aft : Array Edge} {l : List Oper} {Q : Exit → Act → World → Prop} {E : Env} {rs : List Res} (ord : List (Nat × Bool)) (hm : P.follows .mixedOrders = true)
    (ho : l.toArray[k]? = some ⟨some d, .alloc t, ty, pos, aft, none⟩) (hz : lkT T.ty t = some (ag, sz, bs, zs)) (hN : Nat.blt d N.n = true)
    (hB : (Region.noSelect l.toArray && (decide (n = l.toArray.size) || (Nat.blt n l.toArray.size && Region.sinkB .any l.toArray n && Region.chainB .any l.toArray n)) && decide (ord.length + 1 = n) && Nat.ble n l.toArray.size && dstOk l.toArray [⟨k, d, t, zs⟩] ord && flowA .any l.toArray n n ord [⟨k, d, t, zs⟩] (Array.replicate l.toArray.size false)) = true)
    (hf : freshE [⟨k, d, t, zs⟩] E = true)
    (h : W P l.toArray N B w0 (fun E' rs' => ∀ g, L P l.toArray Q N B w0 ((d, .pointer (some ⟨g, 0, none⟩)) :: E') (box g t zs :: rs') (l.drop n)) ord E rs) : C P Q N B w0 E rs (.region id l.toArray true) := by
  refine drawA (A := [⟨k, d, t, zs⟩]) ord hm hB (fun x hx => by simp only [List.mem_singleton] at hx; subst hx; exact isAl T ho hz hN) (fun x hx y hy _ => by simp only [List.mem_singleton] at hx hy; rw [hx, hy]) (by simp) hf ?_
  refine W_mono ?_ ord E rs h
  intro E' rs' h' dn hp
  match dn, hp with
  | [(x, g)], hp =>
    have : x = ⟨k, d, t, zs⟩ := by simpa using hp.mem_iff (a := x)
    subst this
    exact h' g
  | [], hp => exact absurd hp.length_eq (by simp)
  | _ :: _ :: _, hp => exact absurd hp.length_eq (by simp)
theorem C_drawA2 (T : Tab P) {id n k1 k2 d1 d2 t1 t2 sz1 bs1 sz2 bs2 : Nat} {ag1 ag2 : Bool} {zs1 zs2 : List Value} {ty1 ty2 : TypeId} {pos1 pos2 : String} {aft1 aft2 : Array Edge} {l : List Oper} {Q : Exit → Act → World → Prop} {E : Env} {rs : List Res} (ord : List (Nat × Bool)) (hm : P.follows .mixedOrders = true)
    (ho1 : l.toArray[k1]? = some ⟨some d1, .alloc t1, ty1, pos1, aft1, none⟩) (hz1 : lkT T.ty t1 = some (ag1, sz1, bs1, zs1)) (hN1 : Nat.blt d1 N.n = true)
    (ho2 : l.toArray[k2]? = some ⟨some d2, .alloc t2, ty2, pos2, aft2, none⟩) (hz2 : lkT T.ty t2 = some (ag2, sz2, bs2, zs2)) (hN2 : Nat.blt d2 N.n = true) (hk : k1 ≠ k2) (hd : d1 ≠ d2)
    (hB : (Region.noSelect l.toArray && (decide (n = l.toArray.size) || (Nat.blt n l.toArray.size && Region.sinkB .any l.toArray n && Region.chainB .any l.toArray n)) && decide (ord.length + 2 = n) && Nat.ble n l.toArray.size && dstOk l.toArray [⟨k1, d1, t1, zs1⟩, ⟨k2, d2, t2, zs2⟩] ord && flowA .any l.toArray n n ord [⟨k1, d1, t1, zs1⟩, ⟨k2, d2, t2, zs2⟩] (Array.replicate l.toArray.size false)) = true)
    (hf : freshE [⟨k1, d1, t1, zs1⟩, ⟨k2, d2, t2, zs2⟩] E = true)
    (h : W P l.toArray N B w0 (fun E' rs' => ∀ g1 g2, L P l.toArray Q N B w0 ((d2, .pointer (some ⟨g2, 0, none⟩)) :: (d1, .pointer (some ⟨g1, 0, none⟩)) :: E') (box g2 t2 zs2 :: box g1 t1 zs1 :: rs') (l.drop n)) ord E rs) : C P Q N B w0 E rs (.region id l.toArray true) := by
  refine drawA (A := [⟨k1, d1, t1, zs1⟩, ⟨k2, d2, t2, zs2⟩]) ord hm hB (fun x hx => by
    simp only [List.mem_cons, List.not_mem_nil, or_false] at hx
    rcases hx with rfl | rfl
    · exact isAl T ho1 hz1 hN1
    · exact isAl T ho2 hz2 hN2) (fun x hx y hy he => by
    simp only [List.mem_cons, List.not_mem_nil, or_false] at hx hy
    rcases hx with rfl | rfl <;> rcases hy with rfl | rfl
    · rfl
    · exact absurd he hk
    · exact absurd he.symm hk
    · rfl) (by
    refine List.nodup_cons.2 ⟨fun hm => ?_, by simp⟩
    simp only [List.mem_singleton, Al.mk.injEq] at hm
    exact hk hm.1) hf ?_
  refine W_mono ?_ ord E rs h
  intro E' rs' h' dn hp
  match dn, hp with
  | [], hp => exact absurd hp.length_eq (by simp)
  | [_], hp => exact absurd hp.length_eq (by simp)
  | _ :: _ :: _ :: _, hp => exact absurd hp.length_eq (by simp)
  | [(x, g), (y, g')], hp =>
    have hx : x = ⟨k1, d1, t1, zs1⟩ ∨ x = ⟨k2, d2, t2, zs2⟩ := by simpa using hp.mem_iff (a := x)
    have hy : y = ⟨k1, d1, t1, zs1⟩ ∨ y = ⟨k2, d2, t2, zs2⟩ := by simpa using hp.mem_iff (a := y)
    have hne : x ≠ y := by
      have : ([x, y] : List Al).Nodup := hp.nodup_iff.2 (by
        refine List.nodup_cons.2 ⟨fun hm => ?_, by simp⟩
        simp only [List.mem_singleton, Al.mk.injEq] at hm
        exact hk hm.1)
      simpa using this
    rcases hx with rfl | rfl <;> rcases hy with rfl | rfl
    · exact absurd rfl hne
    · exact fun a w hs => h' g g' a w (swap_alloc hd hs)
    · exact h' g' g
    · exact absurd rfl hne
end
end Go.Proofs.YtibohfipgjljhaaDoor
namespace Go.Proofs.YtibohfipgjljhaaDoor
open Go.RowKit

section
variable {P : Program} {ops : Array Oper} {md : Region.Mode} {N : Fr} {B : Nat} {w0 : World} {B0 : Nat}
def X1 (P : Program) (ops : Array Oper) (N : Fr) (B : Nat) (w0 : World) (fin : Env → List Res → Prop) (ro : List Res) : List (Nat × Bool) → Env → List Res → Prop
  | [], E, rn => fin E rn
  | (k, false) :: t, E, rn => ∃ o d v, ops[k]? = some o ∧ o.dst = some d ∧ Nat.blt d N.n = true ∧ ((Wanted ops N E o true ∧ Qu P N B w0 E ro o v) ∨ (Wanted ops N E o false ∧ v = undef)) ∧ X1 P ops N B w0 fin ro t ((d, v) :: E) rn
  | (k, true) :: t, E, rn => ∃ o d post, ops[k]? = some o ∧ o.guard = none ∧ o.dst = some d ∧ Nat.blt d N.n = true ∧ Lo P N B w0 E (rn ++ ro) o post ∧ ∀ v rs', post v rs' → X1 P ops N B w0 fin ro t ((d, v) :: E) (rs' ++ rn)
def flowF (md : Region.Mode) (ops : Array Oper) (ord2 : List Stp) : Nat → List (Nat × Bool) → List Al → Array Bool → Bool
  | 0, [], [], listed => flowC md ops ord2 listed
  | f + 1, (k, false) :: t, rem, listed => (Region.ready md ops listed).contains k && Region.free md ops listed k && flowF md ops ord2 f t rem (listed.setIfInBounds k true)
  | f + 1, (k, true) :: t, rem, listed => decide (Region.ready md ops listed ≠ []) && (Region.ready md ops listed).all (fun i => decide (i = k) || rem.any (fun x => decide (x.k = i))) &&
      (!((Region.ready md ops listed).contains k) || flowF md ops ord2 f t rem (listed.setIfInBounds k true)) && rem.all (fun x => !((Region.ready md ops listed).contains x.k) || flowF md ops ord2 f ((k, true) :: t) (rem.filter fun y => decide (y.k ≠ x.k)) (listed.setIfInBounds x.k true))
  | f + 1, [], rem, listed => decide (Region.ready md ops listed ≠ []) && (Region.ready md ops listed).all (fun i => rem.any (fun x => decide (x.k = i))) &&
      rem.all (fun x => !((Region.ready md ops listed).contains x.k) || flowF md ops ord2 f [] (rem.filter fun y => decide (y.k ≠ x.k)) (listed.setIfInBounds x.k true))
  | _, _, _, _ => false
theorem filter_perm {rem : List Al} {x : Al} (hx : x ∈ rem) (hu : ∀ y ∈ rem, y.k = x.k → y = x) (hn : rem.Nodup) : (x :: rem.filter fun y => decide (y.k ≠ x.k)).Perm rem := by
  induction rem with
  | nil => cases hx
  | cons y t iht =>
    by_cases hyx : y = x
    · subst hyx
      have : t.filter (fun z => decide (z.k ≠ y.k)) = t := List.filter_eq_self.2 fun z hz => by
        simp only [decide_eq_true_eq]
        intro he
        have := hu z (List.mem_cons_of_mem _ hz) he
        subst this
        exact (List.nodup_cons.1 hn).1 hz
      rw [List.filter_cons, if_neg (by simp), this]
    · have hmt : x ∈ t := by
        rcases List.mem_cons.1 hx with h | h
        · exact absurd h.symm hyx
        · exact h
      rw [List.filter_cons, if_pos (by simpa using fun he => hyx (hu y List.mem_cons_self he))]
      exact (List.Perm.swap _ _ _).trans ((iht hmt (fun z hz => hu z (List.mem_cons_of_mem _ hz)) (List.nodup_cons.1 hn).2).cons y)
theorem SatC.le {E E' : Env} {rn ro : List Res} {a : Act} {w : World} (h : SatC N B w0 B0 E rn ro a w) (he : leE E E') : SatC N B w0 B0 E' rn ro a w := ⟨h.s.le he, h.b, h.o, h.n⟩
theorem flow_soundF {A : List Al} {ord2 : List Stp} {fin : Env → List Res → Prop} {ro : List Res} (hsel : Region.noSelect ops = true) (hBB : B ≤ B0) (hAl : ∀ x ∈ A, IsAl P ops N B w0 x) (hkd : ∀ x ∈ A, ∀ y ∈ A, x.k = y.k → x = y) (hAn : A.Nodup) :
    ∀ (f : Nat) (ord : List (Nat × Bool)) (rem : List Al) (dn : List (Al × Nat)) (listed : Array Bool) (a : Act) (w : World) (E : Env) (rn : List Res), flowF md ops ord2 f ord rem listed = true → listed.size = ops.size →
    (dn.map Prod.fst ++ rem).Perm A → dstOk ops A ord = true → (∀ x ∈ A, lk E x.d = none) → SatC N B w0 B0 (entsA dn ++ E) (boxA dn ++ rn) ro a w →
    X1 P ops N B w0 (fun E' rn' => ∀ dn', (dn'.map Prod.fst).Perm A → X P ops N B w0 fin ro ord2 (entsA dn' ++ E') (boxA dn' ++ rn')) ro ord E rn →
    wpAnyB P B0 md ops (fun a' w' => ∃ E' rs', fin E' rs' ∧ Sat N B w0 E' rs' a' w') (f + stN ord2) listed a w := by
  intro f
  induction f with
  | zero =>
    intro ord rem dn listed a w E rn hB hsz hp hd hf hs hX
    match ord, rem, hB with
    | [], [], hB =>
      rw [List.append_nil] at hp
      rw [Nat.zero_add]
      exact flow_soundC hsel hBB ord2 listed a w _ _ hB hsz hs (hX dn hp)
  | succ f ih =>
    have alloc : ∀ (ord : List (Nat × Bool)) (rem : List Al) (dn : List (Al × Nat)) (listed : Array Bool) (a : Act) (w : World) (E : Env) (rn : List Res) (x : Al), x ∈ rem →
        flowF md ops ord2 f ord (rem.filter fun y => decide (y.k ≠ x.k)) (listed.setIfInBounds x.k true) = true → listed.size = ops.size → (dn.map Prod.fst ++ rem).Perm A → dstOk ops A ord = true → (∀ x ∈ A, lk E x.d = none) → SatC N B w0 B0 (entsA dn ++ E) (boxA dn ++ rn) ro a w →
        X1 P ops N B w0 (fun E' rn' => ∀ dn', (dn'.map Prod.fst).Perm A → X P ops N B w0 fin ro ord2 (entsA dn' ++ E') (boxA dn' ++ rn')) ro ord E rn →
        bOp P B0 ops x.k (wpAnyB P B0 md ops (fun a' w' => ∃ E' rs', fin E' rs' ∧ Sat N B w0 E' rs' a' w') (f + stN ord2) (listed.setIfInBounds x.k true)) a w := by
      intro ord rem dn listed a w E rn x hx hB hsz hp hd hf hs hX
      have hxA : x ∈ A := hp.mem_iff.1 (List.mem_append_right _ hx)
      obtain ⟨ty, pos, aft, ho, hN, hl⟩ := hAl x hxA
      unfold bOp
      have hw : Region.wanted (⟨some x.d, .alloc x.t, ty, pos, aft, none⟩ : Oper) (yielded ops a.tmps) = true := by simp [Region.wanted]
      simp only [ho, hw, if_true]
      refine lo_bwp rfl hN (hl _ _) hs fun v rs' a' w' hpo hs' => ?_
      obtain ⟨g, rfl, rfl⟩ := hpo
      have hnd : rem.Nodup := (List.nodup_append.1 (hp.nodup_iff.2 hAn)).2.1
      have h1 := filter_perm hx (fun y hy he => hkd y (hp.mem_iff.1 (List.mem_append_right _ hy)) x hxA he) hnd
      exact ih ord _ ((x, g) :: dn) _ a' w' E rn hB (by simpa using hsz) ((List.perm_middle.symm.trans (h1.append_left _)).trans hp) hd hf hs' hX
    intro ord rem dn listed a w E rn hB hsz hp hd hf hs hX
    have hdA : ∀ p ∈ dn, p.1 ∈ A := fun p hpm => hp.mem_iff.1 (List.mem_append_left _ (List.mem_map_of_mem hpm))
    have hsE : Sat N B w0 E (rn ++ ro) a w := (hs.s.le (le_ents fun p hp' => hf p.1 (hdA p hp'))).world (hs.s.ws.sub (by rw [List.append_assoc]; exact List.sublist_append_right _ _))
    rw [show f + 1 + stN ord2 = (f + stN ord2) + 1 by omega]
    match ord, hB with
    | (k, false) :: t, hB =>
      simp only [flowF, Bool.and_eq_true] at hB
      obtain ⟨⟨hr, hfr⟩, hB'⟩ := hB
      obtain ⟨o, d, v, ho, hdst, hN, hq, hX'⟩ := hX
      have hr' : k ∈ Region.ready md ops listed := by simpa using hr
      have hy : YieldsB P B0 ops o v a w := by
        rcases hq with ⟨hw, hq⟩ | ⟨hw, hv⟩
        · refine .inl ⟨hw.is hsE, fun w' hb => hq a w' ?_⟩
          have h1 := hsE.ws.sub (List.sublist_append_right rn ro)
          refine hsE.world ⟨h1.bel.trans (hb.mono hBB), Nat.le_trans h1.bas hb.size, fun r hrm => ?_, h1.dis⟩
          exact r.st (h1.res r hrm) hb.size (fun k hk => hb.block k (hs.o r hrm k hk))
        · exact .inr ⟨hw.is hsE, hv⟩
      have hne := noD_ne (A := A) (d := d) (by
        have := List.all_eq_true.1 hd (k, false) List.mem_cons_self
        simpa [ho, hdst] using this)
      refine wpAnyB_first ho (Region.noSelect_spec hsel) _ listed a w hsz (Region.free_spec ho hfr) hr' hy
        (ih t rem dn _ _ w ((d, v) :: E) rn hB' (by simpa using hsz) hp (List.all_eq_true.2 fun p hpm => List.all_eq_true.1 hd p (List.mem_cons_of_mem _ hpm)) (fun x hx => by rw [lk_cons, if_neg (hne x hx)]; exact hf x hx) ?_ hX')
      rw [hdst]
      exact (hs.put hN v).le (le_move fun p hpm => hne p.1 (hdA p hpm))
    | (k, true) :: t, hB =>
      simp only [flowF, Bool.and_eq_true, decide_eq_true_eq] at hB
      obtain ⟨⟨⟨hr0, hall⟩, hk⟩, hrem⟩ := hB
      refine ⟨hr0, fun i hi => ?_⟩
      have hia := List.all_eq_true.1 hall i hi
      simp only [Bool.or_eq_true, decide_eq_true_eq, List.any_eq_true] at hia
      rcases hia with rfl | ⟨x, hx, rfl⟩
      · have hkf : flowF md ops ord2 f t rem (listed.setIfInBounds i true) = true := by
          rcases Bool.or_eq_true_iff.1 hk with h | h
          · simp [hi] at h
          · exact h
        obtain ⟨o, d, post, ho, hg, hdst, hN, hq, hX'⟩ := hX
        have hne := noD_ne (A := A) (d := d) (by
          have := List.all_eq_true.1 hd (i, true) List.mem_cons_self
          simpa [ho, hdst] using this)
        have hw : Region.wanted o (yielded ops a.tmps) = true := by simp [Region.wanted, hg]
        unfold bOp
        simp only [ho, hw, if_true]
        have fin' : ∀ v w' rs', Below w.heap.size w w' → post v rs' → (∀ r ∈ rs', r.ok B w' ∧ ∀ k, r.blk = some k → w.heap.size ≤ k) → Disj rs' →
            wpAnyB P B0 md ops (fun a' w' => ∃ E' rs', fin E' rs' ∧ Sat N B w0 E' rs' a' w') (f + stN ord2) (listed.setIfInBounds i true) (a.put o.dst v) w' := fun v w' rs' hb hpo hrs hdj => by
          refine ih t rem dn _ _ w' ((d, v) :: E) (rs' ++ rn) hkf (by simpa using hsz) hp (List.all_eq_true.2 fun p hpm => List.all_eq_true.1 hd p (List.mem_cons_of_mem _ hpm)) (fun x hx => by rw [lk_cons, if_neg (hne x hx)]; exact hf x hx) ?_ (hX' v rs' hpo)
          rw [hdst]
          have h2 := hs.s.put hN v (hs.s.ws.more hb hrs hdj)
          refine ⟨(h2.le (le_move fun p hpm => hne p.1 (hdA p hpm))).world ?_, Nat.le_trans hs.b hb.size, hs.o, fun r hr k hk => ?_⟩
          · refine (hs.s.ws.more hb hrs hdj).perm ?_
            rw [← List.append_assoc, ← List.append_assoc, ← List.append_assoc]
            exact (List.perm_append_comm.append_right rn).append_right ro
          · rcases List.mem_append.1 hr with h | h
            · exact hs.n r (List.mem_append_left _ h) k hk
            · rcases List.mem_append.1 h with h | h
              · exact Nat.le_trans hs.b ((hrs r h).2 k hk)
              · exact hs.n r (List.mem_append_right _ h) k hk
        rcases hq a w hsE with ⟨v, w', rs', hr, hb, hpo, hrs, hdj⟩ | ⟨fc, args, hr, hc⟩
        · exact .inl ⟨v, w', hr, hb.mono hs.b, fin' v w' rs' hb hpo hrs hdj⟩
        · refine .inr (.inr ⟨fc, args, hr, hc.mono ?_⟩)
          rintro e w'' ⟨v, rs', rfl, hb, hpo, hrs, hdj⟩
          exact ⟨v, rfl, hb.mono hs.b, fin' v w'' rs' hb hpo hrs hdj⟩
      · have h1 := List.all_eq_true.1 hrem x hx
        have h2 : flowF md ops ord2 f ((k, true) :: t) (rem.filter fun y => decide (y.k ≠ x.k)) (listed.setIfInBounds x.k true) = true := by
          rcases Bool.or_eq_true_iff.1 h1 with h | h
          · simp [hi] at h
          · exact h
        exact alloc _ rem dn listed a w E rn x hx h2 hsz hp hd hf hs hX
    | [], hB =>
      have hB2 : decide (Region.ready md ops listed ≠ []) = true ∧ (Region.ready md ops listed).all (fun i => rem.any (fun x => decide (x.k = i))) = true ∧
          rem.all (fun x => !((Region.ready md ops listed).contains x.k) || flowF md ops ord2 f [] (rem.filter fun y => decide (y.k ≠ x.k)) (listed.setIfInBounds x.k true)) = true := by
        cases rem with
        | nil => simpa [flowF, and_assoc] using hB
        | cons y t => simpa [flowF, and_assoc] using hB
      obtain ⟨hr0, hall, hrem⟩ := hB2
      refine ⟨by simpa using hr0, fun i hi => ?_⟩
      have hia := List.all_eq_true.1 hall i hi
      simp only [decide_eq_true_eq, List.any_eq_true] at hia
      obtain ⟨x, hx, rfl⟩ := hia
      have h1 := List.all_eq_true.1 hrem x hx
      have h2 : flowF md ops ord2 f [] (rem.filter fun y => decide (y.k ≠ x.k)) (listed.setIfInBounds x.k true) = true := by
        rcases Bool.or_eq_true_iff.1 h1 with h | h
        · simp [hi] at h
        · exact h
      exact alloc _ rem dn listed a w E rn x hx h2 hsz hp hd hf hs hX
theorem X1_mono {fin fin' : Env → List Res → Prop} {ro : List Res} (h : ∀ E rs, fin E rs → fin' E rs) : ∀ (ord : List (Nat × Bool)) (E : Env) (rn : List Res), X1 P ops N B w0 fin ro ord E rn → X1 P ops N B w0 fin' ro ord E rn
  | [], _, _, hW => h _ _ hW
  | (_, false) :: t, _, _, ⟨o, d, v, h1, h2, h3, h4, h5⟩ => ⟨o, d, v, h1, h2, h3, h4, X1_mono h t _ _ h5⟩
  | (_, true) :: t, _, _, ⟨o, d, post, h1, h2, h3, h4, h5, h6⟩ => ⟨o, d, post, h1, h2, h3, h4, h5, fun v rs' hp => X1_mono h t _ _ (h6 v rs' hp)⟩
/-- A region that draws its order, makes one piece of memory at any time, and writes to it at its end. -/
theorem C_wideF1 (T : Tab P) {id k d t sz bs : Nat} {ag : Bool} {zs : List Value} {ty : TypeId} {pos : String} {aft : Array Edge} {l : List Oper} {Q : Exit → Act → World → Prop} {E : Env} {rs : List Res} (ord : List (Nat × Bool)) (ord2 : List Stp) (hm : P.follows .mixedOrders = true) (hsel : Region.noSelect l.toArray = true)
    (ho : l.toArray[k]? = some ⟨some d, .alloc t, ty, pos, aft, none⟩) (hz : lkT T.ty t = some (ag, sz, bs, zs)) (hN : Nat.blt d N.n = true) (hn : ord.length + 1 + stN ord2 = l.toArray.size)
    (hB : (dstOk l.toArray [⟨k, d, t, zs⟩] ord && flowF .any l.toArray ord2 (ord.length + 1) ord [⟨k, d, t, zs⟩] (Array.replicate l.toArray.size false)) = true) (hf : freshE [⟨k, d, t, zs⟩] E = true)
    (h : X1 P l.toArray N B w0 (fun E' rn' => ∀ g, X P l.toArray N B w0 (fun E' rs' => L P l.toArray Q N B w0 E' rs' []) rs ord2 ((d, .pointer (some ⟨g, 0, none⟩)) :: E') (box g t zs :: rn')) rs ord E []) : C P Q N B w0 E rs (.region id l.toArray true) := by
  intro a w hs
  simp only [Bool.and_eq_true] at hB
  have hs' : Sat N B w0 E rs a w.drew := hs.world (hs.ws.later ⟨rfl, rfl, rfl, Nat.le_refl _, fun _ _ => rfl⟩)
  have hX : X1 P l.toArray N B w0 (fun E' rn' => ∀ dn', (dn'.map Prod.fst).Perm [(⟨k, d, t, zs⟩ : Al)] → X P l.toArray N B w0 (fun E' rs' => L P l.toArray Q N B w0 E' rs' []) rs ord2 (entsA dn' ++ E') (boxA dn' ++ rn')) rs ord E [] := by
    refine X1_mono ?_ ord E [] h
    intro E' rs' h' dn hp
    match dn, hp with
    | [(x, g)], hp =>
      have : x = ⟨k, d, t, zs⟩ := by simpa using hp.mem_iff (a := x)
      subst this
      exact h' g
    | [], hp => exact absurd hp.length_eq (by simp)
    | _ :: _ :: _, hp => exact absurd hp.length_eq (by simp)
  have H := flow_soundF (md := .any) (B0 := w.drew.heap.size) (A := [⟨k, d, t, zs⟩]) hsel hs'.ws.bas (fun x hx => by simp only [List.mem_singleton] at hx; subst hx; exact isAl T ho hz hN) (fun x hx y hy _ => by simp only [List.mem_singleton] at hx hy; rw [hx, hy]) (by simp)
    (ord.length + 1) ord [⟨k, d, t, zs⟩] [] _ a w.drew E [] hB.2 (by simp) (List.Perm.refl _) hB.1 (fun x hx => by
      have := List.all_eq_true.1 hf x hx
      simpa using this) ⟨hs', Nat.le_refl _, fun r hr k hk => r.lt (hs'.ws.res r hr) k hk, fun r hr => (by cases hr)⟩ hX
  refine wpIn_region_any hm ?_
  have := wpAny_of_anyB (ro := N.ro) (Q := Q) (fun listed a' w' hr hT => by
    obtain ⟨E', rs', h2, h3⟩ := hT
    exact ⟨hr, h2 a' w' h3⟩) _ _ _ _ H
  rw [hn] at this
  exact this

/-! ### The steps of the first part -/
variable {fin : Env → List Res → Prop} {E : Env} {rn ro : List Res} {t : List (Nat × Bool)} {k d : Nat} {o : Oper}
theorem X1_nil (h : fin E rn) : X1 P ops N B w0 fin ro [] E rn := h
theorem X1_q {v : Value} (ho : ops[k]? = some o) (hd : o.dst = some d) (hg : o.guard = none) (hN : Nat.blt d N.n = true) (hq : Qu P N B w0 E ro o v) (h : X1 P ops N B w0 fin ro t ((d, v) :: E) rn) : X1 P ops N B w0 fin ro ((k, false) :: t) E rn :=
  ⟨o, d, v, ho, hd, hN, .inl ⟨.inl ⟨hg, rfl⟩, hq⟩, h⟩
theorem X1_lo {post : Value → List Res → Prop} (ho : ops[k]? = some o) (hg : o.guard = none) (hd : o.dst = some d) (hN : Nat.blt d N.n = true) (hq : Lo P N B w0 E (rn ++ ro) o post)
    (h : ∀ v rs', post v rs' → X1 P ops N B w0 fin ro t ((d, v) :: E) (rs' ++ rn)) : X1 P ops N B w0 fin ro ((k, true) :: t) E rn := ⟨o, d, post, ho, hg, hd, hN, hq, h⟩
theorem X1_v {v : Value} (ho : ops[k]? = some o) (hg : o.guard = none) (hd : o.dst = some d) (hN : Nat.blt d N.n = true) (hq : Lo P N B w0 E (rn ++ ro) o (isV v))
    (h : X1 P ops N B w0 fin ro t ((d, v) :: E) rn) : X1 P ops N B w0 fin ro ((k, true) :: t) E rn := X1_lo ho hg hd hN hq fun u rs' hp => by
  obtain ⟨rfl, rfl⟩ := hp
  exact h
theorem isV_sinks {v : Value} : ∀ u rs', isV v u rs' → ∀ r ∈ rs', Sinks r := fun u rs' h r hr => by
  obtain ⟨_, rfl⟩ := h
  cases hr
end
end Go.Proofs.YtibohfipgjljhaaDoor
