/-
  The calculus: regions that draw their order and at their end make two pieces of memory, the one ahead of the other or behind it. Conditions: none; no program in sight.
-/
import Derived.Test.YtfhfadfnbnliiaaShCut
namespace Go.Proofs.Ytfhfadfnbnliiaa
open Go.RowKit

section
variable {P : Program} {ops : Array Oper} {md : Region.Mode} {N : Fr} {B : Nat} {w0 : World}
def flowBx (bB : Array Bool → Bool) (md : Region.Mode) (ops : Array Oper) (n : Nat) : List (Nat × Bool) → Array Bool → Bool
  | [], listed => bB listed
  | (k, false) :: t, listed => Nat.blt k n && (Region.ready md ops listed).contains k && Region.free md ops listed k && flowBx bB md ops n t (listed.setIfInBounds k true)
  | (k, true) :: t, listed => Nat.blt k n && decide (Region.ready md ops listed = [k]) && flowBx bB md ops n t (listed.setIfInBounds k true)
theorem flow_soundx {bB : Array Bool → Bool} {n m : Nat} {T : Array Bool → Act → World → Prop} {fin : Env → List Res → Prop} (hsel : Region.noSelect ops = true) (htw : TailWaits md ops n) (hdone : ∀ listed a w, T listed a w → ∀ j ∈ Region.ready md ops listed, n ≤ j)
    (hbase : ∀ listed a w E rs, bB listed = true → HeadInv md ops n listed → Sat N B w0 E rs a w → fin E rs → wpAnyM P md ops n T m listed a w) :
    ∀ (ord : List (Nat × Bool)) (listed : Array Bool) (a : Act) (w : World) (E : Env) (rs : List Res), flowBx bB md ops n ord listed = true → HeadInv md ops n listed → Sat N B w0 E rs a w → W P ops N B w0 fin ord E rs →
    wpAnyM P md ops n T (ord.length + m) listed a w
  | [], listed, a, w, E, rs, hB, inv, hs, h => by
    rw [List.length_nil, Nat.zero_add]
    exact hbase _ _ _ _ _ hB inv hs h
  | (k, false) :: t, listed, a, w, E, rs, hB, inv, hs, h => by
    simp only [flowBx, Bool.and_eq_true] at hB
    obtain ⟨⟨⟨hkn, hr⟩, hf⟩, hB'⟩ := hB
    obtain ⟨o, d, v, ho, hd, hN, hq, hW⟩ := h
    have hkn' := blt_lt hkn
    have hr' : k ∈ Region.ready md ops listed := by simpa using hr
    have hy : YieldsUp P ops o v a w := by
      rcases hq with ⟨hw, hq⟩ | ⟨hw, hv⟩
      · exact .inl ⟨hw.is hs, fun w' hb => hq a w' (hs.world (hs.ws.later hb))⟩
      · exact .inr ⟨hw.is hs, hv⟩
    rw [List.length_cons, show t.length + 1 + m = (t.length + m) + 1 by omega]
    exact wpAnyM_first ho (Region.noSelect_spec hsel) htw hkn' hdone _ listed a w inv (Region.free_spec ho hf) hr' hy
      (flow_soundx hsel htw hdone hbase t _ _ _ _ _ hB' (inv.set hr' hkn') (by rw [hd]; exact hs.put hN v hs.ws) hW)
  | (k, true) :: t, listed, a, w, E, rs, hB, inv, hs, h => by
    simp only [flowBx, Bool.and_eq_true, decide_eq_true_eq] at hB
    obtain ⟨⟨hkn, hr⟩, hB'⟩ := hB
    obtain ⟨o, d, ho, hd, hN, h⟩ := h
    have hkn' := blt_lt hkn
    rw [List.length_cons, show t.length + 1 + m = (t.length + m) + 1 by omega]
    refine ⟨fun h0 => (by rw [hr] at h0; cases h0), fun i hi => ?_⟩
    have hik : i = k := by rw [hr] at hi; simpa using hi
    subst hik
    refine ⟨hkn', ?_⟩
    unfold mOp
    rcases h with ⟨post, hw, hq, hW⟩ | ⟨hw, hW⟩
    · simp only [ho, hw.is hs, if_true]
      exact lo_mwp hd hN hq hs fun v rs' a' w' hp hs' => flow_soundx hsel htw hdone hbase t _ _ _ _ _ hB' (inv.set hi hkn') hs' (hW v rs' hp)
    · simp only [ho, hw.is hs, Bool.false_eq_true, if_false]
      exact flow_soundx hsel htw hdone hbase t _ _ _ _ _ hB' (inv.set hi hkn') (by rw [hd]; exact hs.put hN undef hs.ws) hW

def pairB (ops : Array Oper) (n k1 k2 : Nat) (listed : Array Bool) : Bool :=
  Nat.blt k1 n && Nat.blt k2 n && decide (k1 ≠ k2) && (decide (Region.ready .any ops listed = [k1, k2]) || decide (Region.ready .any ops listed = [k2, k1])) && decide (Region.ready .any ops (listed.setIfInBounds k1 true) = [k2]) && decide (Region.ready .any ops (listed.setIfInBounds k2 true) = [k1]) &&
    Region.seqB .any ops (ops.size - n) n ((listed.setIfInBounds k1 true).setIfInBounds k2 true)
def flowOk2 (ops : Array Oper) (n k1 k2 : Nat) (ord : List (Nat × Bool)) : Bool :=
  Region.noSelect ops && (decide (n = ops.size) || (Nat.blt n ops.size && Region.sinkB .any ops n && Region.chainB .any ops n)) && decide (ord.length + 2 = n) && Nat.ble n ops.size &&
    flowBx (pairB ops n k1 k2) .any ops n ord (Array.replicate ops.size false)
theorem swap_alloc {E : Env} {rs : List Res} {a : Act} {w : World} {d1 d2 g1 g2 t1 t2 : Nat} {zs1 zs2 : List Value} (hne : d1 ≠ d2) (hs : Sat N B w0 ((d1, .pointer (some ⟨g1, 0, none⟩)) :: (d2, .pointer (some ⟨g2, 0, none⟩)) :: E) (box g1 t1 zs1 :: box g2 t2 zs2 :: rs) a w) :
    Sat N B w0 ((d2, .pointer (some ⟨g2, 0, none⟩)) :: (d1, .pointer (some ⟨g1, 0, none⟩)) :: E) (box g2 t2 zs2 :: box g1 t1 zs1 :: rs) a w :=
  ⟨hs.ws.perm (List.Perm.swap _ _ _), hs.size, hs.dfr, fun i v hv => hs.env i v (by
    rw [lk_cons, lk_cons] at hv ⊢
    by_cases h1 : i = d1
    · subst h1
      rw [if_neg hne, if_pos rfl] at hv
      rw [if_pos rfl]
      exact hv
    · rw [if_neg h1] at hv ⊢
      exact hv)⟩
/-- A region that draws its order, and ends with two allocations in either order. -/
theorem C_draw2 (T : Tab P) {id n k1 k2 d1 d2 t1 t2 sz1 bs1 sz2 bs2 : Nat} {ag1 ag2 : Bool} {zs1 zs2 : List Value} {ty1 ty2 : TypeId} {p1 p2 : String} {a1 a2 : Array Edge} {l : List Oper} {Q : Exit → Act → World → Prop} {E : Env} {rs : List Res} (ord : List (Nat × Bool)) (hm : P.follows .mixedOrders = true) (hB : flowOk2 l.toArray n k1 k2 ord = true)
    (ho1 : l.toArray[k1]? = some ⟨some d1, .alloc t1, ty1, p1, a1, none⟩) (ho2 : l.toArray[k2]? = some ⟨some d2, .alloc t2, ty2, p2, a2, none⟩) (hz1 : lkT T.ty t1 = some (ag1, sz1, bs1, zs1)) (hz2 : lkT T.ty t2 = some (ag2, sz2, bs2, zs2)) (hn1 : Nat.blt d1 N.n = true) (hn2 : Nat.blt d2 N.n = true) (hne : d1 ≠ d2)
    (h : W P l.toArray N B w0 (fun E' rs' => ∀ g1 g2, L P l.toArray Q N B w0 ((d2, .pointer (some ⟨g2, 0, none⟩)) :: (d1, .pointer (some ⟨g1, 0, none⟩)) :: E') (box g2 t2 zs2 :: box g1 t1 zs1 :: rs') (l.drop n)) ord E rs) : C P Q N B w0 E rs (.region id l.toArray true) := by
  intro a w hs
  simp only [flowOk2, Bool.and_eq_true, decide_eq_true_eq, Bool.or_eq_true, Nat.ble_eq] at hB
  obtain ⟨⟨⟨⟨hsel, hn⟩, hol⟩, hle⟩, hfl⟩ := hB
  have htw : TailWaits .any l.toArray n := by
    intro listed inv i hin hun t ht
    rcases hn with hn | ⟨⟨hn, hsk⟩, hch⟩
    · intro hr
      obtain ⟨_, o, ho, _⟩ := mem_ready.1 hr
      have := (Array.getElem?_eq_some_iff.1 ho).1
      omega
    · exact tail_waits hsk hch (blt_lt hn) inv _ i rfl hin hun t ht
  have hsz : l.toArray.size = l.length := by simp
  have hdl : (l.drop n).length = l.toArray.size - n := by simp
  have inv0 : HeadInv .any l.toArray n (Array.replicate l.toArray.size false) :=
    ⟨by simp, fun j oj _ hl => (by rw [getD_replicate_false] at hl; cases hl), fun t _ ht => getD_in (by simpa using ht) (getD_replicate_false _ _)⟩
  have hs' : Sat N B w0 E rs a w.drew := hs.world (hs.ws.later ⟨rfl, rfl, rfl, Nat.le_refl _, fun _ _ => rfl⟩)
  have H := flow_soundx (md := .any) (m := 2) (T := fun listed' a' w' => Region.seqB .any l.toArray (l.toArray.size - n) n listed' = true ∧ ∃ E' rs', L P l.toArray Q N B w0 E' rs' (l.drop n) ∧ Sat N B w0 E' rs' a' w') hsel htw (fun _ _ _ hT => seqB_ready hT.1)
    (fun listed a w E rs hb inv hs hf => by
      simp only [pairB, Bool.and_eq_true, decide_eq_true_eq, Bool.or_eq_true] at hb
      obtain ⟨⟨⟨⟨⟨⟨hk1, hk2⟩, hkne⟩, hr⟩, hr1⟩, hr2⟩, hsq⟩ := hb
      have hk1 := blt_lt hk1
      have hk2 := blt_lt hk2
      have hw : ∀ {d t ty p aft} {a : Act}, Region.wanted (⟨some d, .alloc t, ty, p, aft, none⟩ : Oper) (yielded l.toArray a.tmps) = true := fun {d t ty p aft a} => by simp [Region.wanted]
      have one : ∀ {k d t sz bs ag zs ty p aft} {E : Env} {rs : List Res} {a : Act} {w : World} {K : Act → World → Prop}, l.toArray[k]? = some (⟨some d, .alloc t, ty, p, aft, none⟩ : Oper) → lkT T.ty t = some (ag, sz, bs, zs) → Nat.blt d N.n = true → Sat N B w0 E rs a w →
          (∀ g a' w', Sat N B w0 ((d, .pointer (some ⟨g, 0, none⟩)) :: E) (box g t zs :: rs) a' w' → K a' w') → mOp P l.toArray k K a w := by
        intro k d t sz bs ag zs ty p aft E rs a w K ho hz hN hs hK
        unfold mOp
        simp only [ho, hw, if_true]
        refine lo_mwp rfl hN (lo_alloc T hz) hs fun v rs' a' w' hp hs' => ?_
        obtain ⟨g, rfl, rfl⟩ := hp
        exact hK g a' w' hs'
      have mem : ∀ i, i ∈ Region.ready .any l.toArray listed → i = k1 ∨ i = k2 := fun i hi => by
        rcases hr with hr | hr
        · rw [hr] at hi; simpa using hi
        · rw [hr] at hi
          rcases List.mem_cons.1 hi with h | h
          · exact .inr h
          · exact .inl (by simpa using h)
      refine ⟨fun h0 => (by rcases hr with hr | hr <;> (rw [hr] at h0; cases h0)), fun i hi => ?_⟩
      rcases mem i hi with rfl | rfl
      · refine ⟨hk1, one ho1 hz1 hn1 hs fun g1 a1 w1 hs1 => ⟨fun h0 => (by rw [hr1] at h0; cases h0), fun j hj => ?_⟩⟩
        have hj2 : j = k2 := by rw [hr1] at hj; simpa using hj
        subst hj2
        exact ⟨hk2, one ho2 hz2 hn2 hs1 fun g2 a2 w2 hs2 => ⟨hsq, _, _, hf g1 g2, hs2⟩⟩
      · refine ⟨hk2, one ho2 hz2 hn2 hs fun g2 a1 w1 hs1 => ⟨fun h0 => (by rw [hr2] at h0; cases h0), fun j hj => ?_⟩⟩
        have hj1 : j = k1 := by rw [hr2] at hj; simpa using hj
        subst hj1
        refine ⟨hk1, one ho1 hz1 hn1 hs1 fun g1 a2 w2 hs2 => ⟨?_, _, _, hf g1 g2, swap_alloc hne hs2⟩⟩
        rw [Array.setIfInBounds_comm _ _ (Ne.symm hkne)]
        exact hsq) ord _ _ _ _ _ hfl inv0 hs' h
  refine wpIn_region_any hm ?_
  have := wpAny_of_anyM (ro := N.ro) (Q := Q) (g := l.toArray.size - n) (fun listed a' w' hT => by
    obtain ⟨h1, E', rs', h2, h3⟩ := hT
    have := wpAnyIn_of_seq (ro := N.ro) (md := .any) (Q' := Q) (l.drop n) n listed a' w' (fun j => by simp [List.getElem?_drop]) (by rw [hdl]; exact h1) (h2 a' w' h3)
    rwa [hdl] at this) _ _ _ _ H
  rw [hol, show n + (l.toArray.size - n) = l.toArray.size by omega] at this
  exact this
end
end Go.Proofs.Ytfhfadfnbnliiaa
