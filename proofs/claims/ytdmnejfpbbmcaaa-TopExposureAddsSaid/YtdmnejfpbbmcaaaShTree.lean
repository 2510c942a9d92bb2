/-
  The calculus: regions that draw their order, where several operations that make or write memory may come up at once: each order is walked, and all of them are joined. Conditions: none; no program in sight.
-/
import Derived.Test.YtdmnejfpbbmcaaaShWideF
namespace Go.Proofs.Ytdmnejfpbbmcaaa
open Go.RowKit

inductive Tre
  | nil
  | q (k : Nat) (t : Tre)
  | s (k : Nat) (t : Tre)
  | s2 (k1 k2 : Nat) (t1 t2 : Tre)
  | s3 (k1 k2 k3 : Nat) (t1 t2 t3 : Tre)
def Tre.dep : Tre → Nat
  | .nil => 0
  | .q _ t => t.dep + 1
  | .s _ t => t.dep + 1
  | .s2 _ _ t _ => t.dep + 1
  | .s3 _ _ _ t _ _ => t.dep + 1
section
variable {P : Program} {ops : Array Oper} {md : Region.Mode} {N : Fr} {B : Nat} {w0 : World} {B0 : Nat}
def St (P : Program) (ops : Array Oper) (N : Fr) (B : Nat) (w0 : World) (ro : List Res) (k : Nat) (K : Env → List Res → Prop) (E : Env) (rn : List Res) : Prop :=
  ∃ o, ops[k]? = some o ∧ o.guard = none ∧ ((∃ d post, o.dst = some d ∧ Nat.blt d N.n = true ∧ Lo P N B w0 E (rn ++ ro) o post ∧ ∀ v rs', post v rs' → K ((d, v) :: E) (rs' ++ rn)) ∨ (∃ rn', o.dst = none ∧ So P N B w0 E rn ro o rn' ∧ K E rn'))
def Z (P : Program) (ops : Array Oper) (N : Fr) (B : Nat) (w0 : World) (fin : Env → List Res → Prop) (ro : List Res) : Tre → Env → List Res → Prop
  | .nil, E, rn => fin E (rn ++ ro)
  | .q k t, E, rn => ∃ o d v, ops[k]? = some o ∧ o.dst = some d ∧ Nat.blt d N.n = true ∧ ((Wanted ops N E o true ∧ Qu P N B w0 E ro o v) ∨ (Wanted ops N E o false ∧ v = undef)) ∧ Z P ops N B w0 fin ro t ((d, v) :: E) rn
  | .s k t, E, rn => St P ops N B w0 ro k (Z P ops N B w0 fin ro t) E rn
  | .s2 k1 k2 t1 t2, E, rn => St P ops N B w0 ro k1 (Z P ops N B w0 fin ro t1) E rn ∧ St P ops N B w0 ro k2 (Z P ops N B w0 fin ro t2) E rn
  | .s3 k1 k2 k3 t1 t2 t3, E, rn => St P ops N B w0 ro k1 (Z P ops N B w0 fin ro t1) E rn ∧ St P ops N B w0 ro k2 (Z P ops N B w0 fin ro t2) E rn ∧ St P ops N B w0 ro k3 (Z P ops N B w0 fin ro t3) E rn
def flowT (md : Region.Mode) (ops : Array Oper) : Tre → Array Bool → Bool
  | .nil, listed => decide (Region.ready md ops listed = []) && decide (listed = Array.replicate ops.size true)
  | .q k t, listed => (Region.ready md ops listed).contains k && Region.free md ops listed k && flowT md ops t (listed.setIfInBounds k true)
  | .s k t, listed => decide (Region.ready md ops listed = [k]) && flowT md ops t (listed.setIfInBounds k true)
  | .s2 k1 k2 t1 t2, listed => decide (Region.ready md ops listed = [k1, k2]) && decide (t1.dep = t2.dep) && flowT md ops t1 (listed.setIfInBounds k1 true) && flowT md ops t2 (listed.setIfInBounds k2 true)
  | .s3 k1 k2 k3 t1 t2 t3, listed => decide (Region.ready md ops listed = [k1, k2, k3]) && decide (t1.dep = t2.dep) && decide (t1.dep = t3.dep) && flowT md ops t1 (listed.setIfInBounds k1 true) && flowT md ops t2 (listed.setIfInBounds k2 true) && flowT md ops t3 (listed.setIfInBounds k3 true)
theorem St.run {ro : List Res} {k f : Nat} {K : Env → List Res → Prop} {E : Env} {rn : List Res} {a : Act} {w : World} {T : Act → World → Prop} {listed : Array Bool} (hBB : B ≤ B0) (hs : SatC N B w0 B0 E rn ro a w) (h : St P ops N B w0 ro k K E rn)
    (ih : ∀ E' rn' a' w', SatC N B w0 B0 E' rn' ro a' w' → K E' rn' → wpAnyB P B0 md ops T f listed a' w') : bOp P B0 ops k (wpAnyB P B0 md ops T f listed) a w := by
  obtain ⟨o, ho, hg, h⟩ := h
  unfold bOp
  have hw : Region.wanted o (yielded ops a.tmps) = true := by simp [Region.wanted, hg]
  simp only [ho, hw, if_true]
  rcases h with ⟨d, post, hd, hN, hq, hX⟩ | ⟨rn', hd, hq, hX⟩
  · exact lo_bwp hd hN hq hs fun v rs' a' w' hp hs' => ih _ _ _ _ hs' (hX v rs' hp)
  · obtain ⟨w', h1, h2, h3⟩ := hq B0 a w hBB hs
    refine .inr (.inl ⟨w', h1, h2, ?_⟩)
    rw [hd]
    exact ih _ _ _ _ h3 hX
theorem flow_soundT {fin : Env → List Res → Prop} {ro : List Res} (hsel : Region.noSelect ops = true) (hBB : B ≤ B0) :
    ∀ (tr : Tre) (listed : Array Bool) (a : Act) (w : World) (E : Env) (rn : List Res), flowT md ops tr listed = true → listed.size = ops.size → SatC N B w0 B0 E rn ro a w → Z P ops N B w0 fin ro tr E rn →
    wpAnyB P B0 md ops (fun a' w' => ∃ E' rs', fin E' rs' ∧ Sat N B w0 E' rs' a' w') tr.dep listed a w
  | .nil, listed, a, w, E, rn, hB, _, hs, h => by
    simp only [flowT, Bool.and_eq_true, decide_eq_true_eq] at hB
    exact ⟨hB.1, E, _, h, hs.s⟩
  | .q k t, listed, a, w, E, rn, hB, hsz, hs, h => by
    simp only [flowT, Bool.and_eq_true] at hB
    obtain ⟨⟨hr, hf⟩, hB'⟩ := hB
    obtain ⟨o, d, v, ho, hd, hN, hq, hX⟩ := h
    have hr' : k ∈ Region.ready md ops listed := by simpa using hr
    have hy : YieldsB P B0 ops o v a w := by
      rcases hq with ⟨hw, hq⟩ | ⟨hw, hv⟩
      · refine .inl ⟨hw.is hs.s, fun w' hb => hq a w' ?_⟩
        have h1 := hs.s.ws.sub (List.sublist_append_right rn ro)
        refine hs.s.world ⟨h1.bel.trans (hb.mono hBB), Nat.le_trans h1.bas hb.size, fun r hrm => ?_, h1.dis⟩
        exact r.st (h1.res r hrm) hb.size (fun k hk => hb.block k (hs.o r hrm k hk))
      · exact .inr ⟨hw.is hs.s, hv⟩
    exact wpAnyB_first ho (Region.noSelect_spec hsel) _ listed a w hsz (Region.free_spec ho hf) hr' hy
      (flow_soundT hsel hBB t _ _ _ _ _ hB' (by simpa using hsz) (by rw [hd]; exact hs.put hN v) hX)
  | .s k t, listed, a, w, E, rn, hB, hsz, hs, h => by
    simp only [flowT, Bool.and_eq_true, decide_eq_true_eq] at hB
    obtain ⟨hr, hB'⟩ := hB
    refine ⟨fun h0 => (by rw [hr] at h0; cases h0), fun i hi => ?_⟩
    have hik : i = k := by rw [hr] at hi; simpa using hi
    subst hik
    exact St.run hBB hs h fun E' rn' a' w' hs' hX => flow_soundT hsel hBB t _ _ _ _ _ hB' (by simpa using hsz) hs' hX
  | .s2 k1 k2 t1 t2, listed, a, w, E, rn, hB, hsz, hs, h => by
    simp only [flowT, Bool.and_eq_true, decide_eq_true_eq] at hB
    obtain ⟨⟨⟨hr, hd⟩, hB1⟩, hB2⟩ := hB
    refine ⟨fun h0 => (by rw [hr] at h0; cases h0), fun i hi => ?_⟩
    rw [hr] at hi
    rcases List.mem_cons.1 hi with rfl | hi
    · exact St.run hBB hs h.1 fun E' rn' a' w' hs' hX => flow_soundT hsel hBB t1 _ _ _ _ _ hB1 (by simpa using hsz) hs' hX
    · have hik : i = k2 := by simpa using hi
      subst hik
      exact St.run hBB hs h.2 fun E' rn' a' w' hs' hX => by
        have := flow_soundT hsel hBB t2 _ _ _ _ _ hB2 (by simpa using hsz) hs' hX
        rwa [← hd] at this
  | .s3 k1 k2 k3 t1 t2 t3, listed, a, w, E, rn, hB, hsz, hs, h => by
    simp only [flowT, Bool.and_eq_true, decide_eq_true_eq] at hB
    obtain ⟨⟨⟨⟨⟨hr, hd⟩, hd3⟩, hB1⟩, hB2⟩, hB3⟩ := hB
    refine ⟨fun h0 => (by rw [hr] at h0; cases h0), fun i hi => ?_⟩
    rw [hr] at hi
    rcases List.mem_cons.1 hi with rfl | hi
    · exact St.run hBB hs h.1 fun E' rn' a' w' hs' hX => flow_soundT hsel hBB t1 _ _ _ _ _ hB1 (by simpa using hsz) hs' hX
    rcases List.mem_cons.1 hi with rfl | hi
    · exact St.run hBB hs h.2.1 fun E' rn' a' w' hs' hX => by
        have := flow_soundT hsel hBB t2 _ _ _ _ _ hB2 (by simpa using hsz) hs' hX
        rwa [← hd] at this
    · have hik : i = k3 := by simpa using hi
      subst hik
      exact St.run hBB hs h.2.2 fun E' rn' a' w' hs' hX => by
        have := flow_soundT hsel hBB t3 _ _ _ _ _ hB3 (by simpa using hsz) hs' hX
        rwa [← hd3] at this
/-! ### The steps of such a walk -/
variable {fin : Env → List Res → Prop} {E : Env} {rn ro : List Res} {t t1 t2 t3 : Tre} {k k1 k2 k3 d : Nat} {o : Oper} {K : Env → List Res → Prop}
theorem Z_nil (h : fin E (rn ++ ro)) : Z P ops N B w0 fin ro .nil E rn := h
theorem Z_q {v : Value} (ho : ops[k]? = some o) (hd : o.dst = some d) (hg : o.guard = none) (hN : Nat.blt d N.n = true) (hq : Qu P N B w0 E ro o v) (h : Z P ops N B w0 fin ro t ((d, v) :: E) rn) : Z P ops N B w0 fin ro (.q k t) E rn :=
  ⟨o, d, v, ho, hd, hN, .inl ⟨.inl ⟨hg, rfl⟩, hq⟩, h⟩
theorem Z_s (h : St P ops N B w0 ro k (Z P ops N B w0 fin ro t) E rn) : Z P ops N B w0 fin ro (.s k t) E rn := h
theorem Z_s2 (h1 : St P ops N B w0 ro k1 (Z P ops N B w0 fin ro t1) E rn) (h2 : St P ops N B w0 ro k2 (Z P ops N B w0 fin ro t2) E rn) : Z P ops N B w0 fin ro (.s2 k1 k2 t1 t2) E rn := ⟨h1, h2⟩
theorem Z_s3 (h1 : St P ops N B w0 ro k1 (Z P ops N B w0 fin ro t1) E rn) (h2 : St P ops N B w0 ro k2 (Z P ops N B w0 fin ro t2) E rn) (h3 : St P ops N B w0 ro k3 (Z P ops N B w0 fin ro t3) E rn) : Z P ops N B w0 fin ro (.s3 k1 k2 k3 t1 t2 t3) E rn := ⟨h1, h2, h3⟩
theorem St_lo {post : Value → List Res → Prop} (ho : ops[k]? = some o) (hd : o.dst = some d) (hg : o.guard = none) (hN : Nat.blt d N.n = true) (hq : Lo P N B w0 E (rn ++ ro) o post)
    (h : ∀ v rs', post v rs' → K ((d, v) :: E) (rs' ++ rn)) : St P ops N B w0 ro k K E rn := ⟨o, ho, hg, .inl ⟨d, post, hd, hN, hq, h⟩⟩
theorem St_v {v : Value} (ho : ops[k]? = some o) (hd : o.dst = some d) (hg : o.guard = none) (hN : Nat.blt d N.n = true) (hq : Lo P N B w0 E (rn ++ ro) o (isV v))
    (h : K ((d, v) :: E) rn) : St P ops N B w0 ro k K E rn := St_lo ho hd hg hN hq fun u rs' hp => by
  obtain ⟨rfl, rfl⟩ := hp
  exact h
theorem St_mk {e size : Nat} {l : List (List Value)} (ho : ops[k]? = some o) (hd : o.dst = some d) (hg : o.guard = none) (hN : Nat.blt d N.n = true) (hq : Lo P N B w0 E (rn ++ ro) o (isSl e size l))
    (h : ∀ v, K ((d, v) :: E) (sl v e size l :: rn)) : St P ops N B w0 ro k K E rn := St_lo ho hd hg hN hq fun u rs' hp => by
  unfold isSl at hp
  subst hp
  exact h u
theorem lo_form2 {e size : Nat} {l : List (List Value)} {rs : List Res} (hq : Lo P N B w0 E rs o (isSl e size l)) : Lo P N B w0 E rs o (fun v rs' => ∃ A c, v = .slice A l.length c ∧ rs' = [sl (.slice A l.length c) e size l]) := by
  intro a w hs
  have key : ∀ {v : Value} {w' : World} {rs' : List Res}, isSl e size l v rs' → (∀ r ∈ rs', r.ok B w' ∧ ∀ k, r.blk = some k → w.heap.size ≤ k) → ∃ A c, v = .slice A l.length c ∧ rs' = [sl (.slice A l.length c) e size l] := fun {v w' rs'} hp hrs => by
    unfold isSl at hp
    subst hp
    obtain ⟨A, c, hv, _⟩ := (sl_gives v e size l _ _ (hrs _ List.mem_cons_self).1).form
    subst hv
    exact ⟨A, c, rfl, rfl⟩
  rcases hq a w hs with ⟨v, w', rs', hr, hb, hp, hrs, hdj⟩ | ⟨f, args, hr, hc⟩
  · exact .inl ⟨v, w', rs', hr, hb, key hp hrs, hrs, hdj⟩
  · refine .inr ⟨f, args, hr, hc.mono ?_⟩
    rintro e' w'' ⟨v, rs', rfl, hb, hp, hrs, hdj⟩
    exact ⟨v, rs', rfl, hb, key hp hrs, hrs, hdj⟩
theorem St_mkF {e size : Nat} {l : List (List Value)} (ho : ops[k]? = some o) (hd : o.dst = some d) (hg : o.guard = none) (hN : Nat.blt d N.n = true) (hq : Lo P N B w0 E (rn ++ ro) o (isSl e size l))
    (h : ∀ A c, K ((d, .slice A l.length c) :: E) (sl (.slice A l.length c) e size l :: rn)) : St P ops N B w0 ro k K E rn := St_lo ho hd hg hN (lo_form2 hq) fun u rs' ⟨A, c, hu, hr⟩ => by
  subst hu; subst hr
  exact h A c
theorem St_alloc (T : Tab P) {u sz bs : Nat} {ag : Bool} {zs : List Value} {ty : TypeId} {pos : String} {aft : Array Edge} (ho : ops[k]? = some o) (hop : o = ⟨some d, .alloc u, ty, pos, aft, none⟩) (ht : lkT T.ty u = some (ag, sz, bs, zs)) (hN : Nat.blt d N.n = true)
    (h : ∀ g, K ((d, .pointer (some ⟨g, 0, none⟩)) :: E) (box g u zs :: rn)) : St P ops N B w0 ro k K E rn := by
  subst hop
  exact St_lo ho rfl rfl hN (lo_alloc T ht) fun _ _ ⟨g, hv, hr⟩ => by subst hv; subst hr; exact h g
theorem St_store (T : Tab P) {u bt : TypeId} {ag : Bool} {sz bs : Nat} {zs : List Value} {x y : Operand} {g of : Nat} {xs cs ys : List Value} {v : Value} {ty : TypeId} {pos : String} {aft : Array Edge} {rest : List Res} (ho : ops[k]? = some o) (hop : o = ⟨none, .store u x y, ty, pos, aft, none⟩) (hp : (box g bt xs :: rest).Perm rn)
    (ht : lkT T.ty u = some (ag, sz, bs, zs)) (hx : ev E x = some (.pointer (some ⟨g, of, none⟩))) (hy : ev E y = some v) (hc : v.cells.toList = cs)
    (hl : Nat.beq cs.length sz = true) (h1 : cs.all (·.oneCell') = true) (hb : Nat.ble (of + cs.length) xs.length = true) (hz : lay xs of cs = ys) (h : K E (box g bt ys :: rest)) : St P ops N B w0 ro k K E rn := by
  subst hop
  refine ⟨_, ho, rfl, .inr ⟨box g bt ys :: rest, rfl, ?_, h⟩⟩
  intro B0 a w hBB hs0
  have hs := hs0.perm hp
  have hsz := T.sizeOf ht w
  simp only at hsz
  have hbox := hs.s.has (r := box g bt xs) List.mem_cons_self
  have hl' := Nat.eq_of_beq_eq_true hl
  have hb' : of + cs.length ≤ xs.length := Nat.ble_eq.mp hb
  have hst := run_storeCells_at (P := P) g of bt cs 0 xs.toArray w (box_ok.1 hbox).2 (by simpa using hb') (by simpa using h1)
  have hlay : (xs.toArray.toList.take (of + 0) ++ cs ++ xs.toArray.toList.drop (of + 0 + cs.length)) = ys := by rw [← hz]; simp [lay]
  rw [hlay] at hst
  have hvs : v.cells.size = sz := by rw [← hl', ← hc]; simp
  have hg0 : B0 ≤ g := hs.n _ List.mem_cons_self g (box_blk _ _ _)
  refine ⟨w.setRow g ys.toArray, ?_, ⟨rfl, rfl, rfl, by rw [setRow_size]; exact Nat.le_refl _, fun k hk => setRow_other w g k _ (by omega)⟩, ?_⟩
  · simp only [execOp, hs.s.eval hx, hs.s.eval hy, Instr.storeAt, Instr.sureAddr, storeVar, Sem.run_bind, Sem.run_pure, Result.andThen_ok, hsz, hvs, hc]
    simp [hst]
  · refine ⟨hs.s.world (hs.s.ws.turn (box_own _ _ _) (by rw [box_blk, box_blk]) (box_own _ _ _) (box_setRow hbox) ⟨rfl, rfl, rfl⟩ (by rw [setRow_size]; exact Nat.le_refl _) (fun k _ hne => setRow_other w g k _ (fun e => hne (by rw [box_blk, e])))), by rw [setRow_size]; exact hs.b, hs.o, fun r hr k hk => ?_⟩
    rcases List.mem_cons.1 hr with rfl | hr
    · rw [box_blk] at hk
      injection hk with hk
      omega
    · exact hs.n r (List.mem_cons_of_mem _ hr) k hk
end
end Go.Proofs.Ytdmnejfpbbmcaaa
