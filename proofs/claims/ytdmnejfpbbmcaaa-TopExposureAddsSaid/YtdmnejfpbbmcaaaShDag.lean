/-
  The calculus: regions that draw their order, where several operations that make or write memory may come up at once: each state that the orders reach is walked once. Conditions: none; no program in sight.
-/
import Derived.Test.YtdmnejfpbbmcaaaShTreeP
namespace Go.Proofs.Ytdmnejfpbbmcaaa.Kp
open Go.RowKit
section
variable {P : Program} {ops : Array Oper} {N : Fr} {B : Nat} {w0 : World} {E : Env} {rn ro : List Res} {k d : Nat} {o : Oper} {K : Env → List Res → Prop}
theorem perm2 {r a b : Res} {t : List Res} : (r :: a :: b :: t).Perm (a :: b :: r :: t) := perm_front (pre := [a, b])
theorem perm3 {r a b c : Res} {t : List Res} : (r :: a :: b :: c :: t).Perm (a :: b :: c :: r :: t) := perm_front (pre := [a, b, c])
theorem St_alloc (T : Tab P) {u : TypeId} {sz bs : Nat} {ag : Bool} {zs : List Value} {ty : TypeId} {pos : String} {aft : Array Edge} (ho : ops[k]? = some o) (hop : o = ⟨some d, .alloc u, ty, pos, aft, none⟩) (ht : lkT T.ty u = some (ag, sz, bs, zs)) (hN : Nat.blt d N.n = true)
    (h : ∀ g, K ((d, .pointer (some ⟨g, 0, none⟩)) :: E) (box g u zs :: rn)) : St P ops N B w0 ro k K E rn := by
  subst hop
  exact St_lo ho rfl rfl hN (lo_alloc T ht) fun _ _ ⟨g, hv, hr⟩ => by subst hv; subst hr; exact h g
theorem St_appendF (T : Tab P) {t' e m : TypeId} {ag : Bool} {sz bs : Nat} {zs : List Value} {x y : Operand} {v u : Value} {l l2 : List (List Value)} {ty : TypeId} {pos : String} {aft : Array Edge} {rest : List Res} (ho : ops[k]? = some o) (hop : o = ⟨some d, .call { callee := .builtin .append, args := #[x, y], argTypes := #[t', t'] }, ty, pos, aft, none⟩)
    (hN : Nat.blt d N.n = true) (hp : (sl v e sz l :: rest).Perm rn) (he : lkT T.el t' = some (e, m, false)) (ht : lkT T.ty e = some (ag, sz, bs, zs)) (hzl : zs.length = sz) (hs0 : 0 < sz)
    (hx : ev E x = some v) (hy : ev E y = some u) (hg : GvR (rest ++ ro) u sz l2) (h1 : ∀ c ∈ l2.flatten, c.oneCell' = true) (hlen : l.length + l2.length ≤ maxLen) (hbyte : (l.length + l2.length) * bs ≤ 140737488355328)
    (h : ∀ A c, K ((d, .slice A (l ++ l2).length c) :: E) (sl (.slice A (l ++ l2).length c) e sz (l ++ l2) :: rest)) : St P ops N B w0 ro k K E rn := by
  subst hop
  refine ⟨_, ho, rfl, .inr (.inr ⟨d, fun v' rn' => (∃ A c, v' = .slice A (l ++ l2).length c) ∧ rn' = sl v' e sz (l ++ l2) :: rest, rfl, hN, fun S a w hBB hsc => ?_, fun v' rn' ⟨⟨A, c, hv⟩, hF⟩ => by subst hv; subst hF; exact h A c⟩)⟩
  have hs := hsc.perm hp
  obtain ⟨dd, i, z, _, hi, _, his, hib, hz, hzc⟩ := T.ty_ok _ (lkT_mem ht)
  simp only at hi his hib hzc
  have hu : P.underlying t' = some (.slice e) := by
    rcases T.el_ok _ (lkT_mem he) with ⟨_, h⟩ | ⟨h, _⟩
    · exact h
    · cases h
  obtain ⟨hown, hel⟩ := sl_ok.1 (hs.s.has (r := sl v e sz l) List.mem_cons_self)
  have hrd : Rdd w u sz l2 := by
    obtain ⟨r, hr, hg⟩ := hg
    exact hg _ _ (hs.s.has (List.mem_cons_of_mem _ hr))
  have hzs : z.cells.size = sz := by rw [← hzl, ← hzc]; simp
  have hnS : ∀ k, v.ownBlock = some k → ¬ S k := fun k hk => hs.n _ List.mem_cons_self k (by rw [sl_blk]; exact hk)
  have hfin : ∀ v' w', (Builtin.append_ #[t', t'] ty #[v, u]).run P w = .ok v' w' → w'.ownsRow B e sz v' (l.length + l2.length) (l.flatten ++ l2.flatten) → w.grownBy w' v.ownBlock → (v'.ownBlock = v.ownBlock ∨ v'.ownBlock = some w.heap.size) →
      ∃ v w'' rn', (execOp a.eval ⟨some d, .call { callee := .builtin .append, args := #[x, y], argTypes := #[t', t'] }, ty, pos, aft, none⟩).run P w = .ok (.value v) w'' ∧ Keeps S w w'' ∧ ((∃ A c, v = .slice A (l ++ l2).length c) ∧ rn' = sl v e sz (l ++ l2) :: rest) ∧ SatC N B w0 S E rn' ro a w'' := by
    intro v' w' hrun hown' hgr hbk
    have hrun' : (execOp a.eval ⟨some d, .call { callee := .builtin .append, args := #[x, y], argTypes := #[t', t'] }, ty, pos, aft, none⟩).run P w = .ok (.value v') w' := by
      simp [execOp, resolve, invoke, builtin, hs.s.eval hx, hs.s.eval hy, hrun]
    have hslok : (sl v' e sz (l ++ l2)).ok B w' := sl_ok.2 ⟨by rw [List.length_append, List.flatten_append]; exact hown', fun c hc => by
      rcases List.mem_append.1 hc with hc | hc
      · exact hel c hc
      · exact hrd.each c hc⟩
    obtain ⟨A9, c9, hv9, _⟩ := (sl_gives v' e sz (l ++ l2) B w' hslok).form
    refine ⟨v', w', _, hrun', ⟨hgr.os, hgr.tape, hgr.output, hgr.size, fun k hk => hgr.block k (hs.b k hk) (fun e9 => hnS k e9.symm hk)⟩, ⟨⟨A9, c9, hv9⟩, rfl⟩, ⟨hs.s.world ?_, fun k hk => Nat.lt_of_lt_of_le (hs.b k hk) hgr.size, hs.o, fun r hr k hk => ?_⟩⟩
    · refine hs.s.ws.turnNew (sl_own _ _ _ _) (fun k hk => ?_) (sl_ok.2 ⟨?_, fun c hc => ?_⟩) (by rw [sl_blk]; exact hgr)
      · rw [sl_blk] at hk ⊢
        rcases hbk with hb | hb
        · exact .inl (by rw [← hk]; exact hb.symm)
        · exact .inr (by have : some k = some w.heap.size := hk.symm.trans hb; injection this with this; omega)
      · rw [List.length_append, List.flatten_append]; exact hown'
      · rcases List.mem_append.1 hc with hc | hc
        · exact hel c hc
        · exact hrd.each c hc
    · rcases List.mem_cons.1 hr with rfl | hr
      · rw [sl_blk] at hk
        rcases hbk with hb | hb
        · exact hnS k (by rw [← hb]; exact hk)
        · intro hS
          have h9 : some k = some w.heap.size := hk.symm.trans hb
          injection h9 with h9
          have := hs.b k hS
          omega
      · exact hs.n r (List.mem_cons_of_mem _ hr) k hk
  obtain ⟨A, cap, hv, _, _⟩ := hrd.form
  cases A with
  | none =>
    have h0 : l2 = [] := by
      rcases Nat.eq_zero_or_pos l2.length with h0 | h0
      · exact List.eq_nil_of_length_eq_zero h0
      · obtain ⟨ad, hb, _⟩ := hrd.some h0
        rw [hv] at hb
        cases hb
    subst h0
    refine hfin v w (by rw [hv]; exact run_append_of_nil w B t' ty e i sz hu hi v _ _ hown cap) (by simpa using hown) (World.grownBy.refl w _) (.inl rfl)
  | some ad =>
    have hcells : ∀ j c, l2.flatten[j]? = some c → w.cell? (ad.add j) = some c := by
      intro j c hj
      have h0 : 0 < l2.length := by
        rcases Nat.eq_zero_or_pos l2.length with h0 | h0
        · have := List.eq_nil_of_length_eq_zero h0
          subst this
          simp at hj
        · exact h0
      obtain ⟨ad', hb, ⟨n', c', hv'⟩, _, hc⟩ := hrd.some h0
      rw [hv] at hv'
      injection hv' with hv' _ _
      injection hv' with hv'
      subst hv'
      exact hc j c hj
    obtain ⟨v', w', hrun, hown', hgr, _, hbk⟩ := run_append_own_at (P := P) w B t' ty e i z sz bs hu hi hz his hib hzs hs0 v l.length l.flatten hown ad l2.length cap l2.flatten (flat_len l2 sz hrd.each) hcells h1 hlen hbyte hs.s.ws.bas
    exact hfin v' w' (by rw [hv]; exact hrun) hown' hgr hbk
theorem C_treeO0 {ι : Type} {id : Nat} {l : List Oper} {Q : Exit → Act → World → Prop} (tr : Tre) (J : ι → Env × List Res) (hm : P.follows .mixedOrders = true) (hsel : Region.noSelect l.toArray = true) (hn : tr.dep = l.toArray.size) (hB : flowT .any l.toArray tr (Array.replicate l.toArray.size false) = true)
    (h : Z P l.toArray N B w0 (fun E' rs' => ∃ i, ∀ a w, Sat N B w0 E' rs' a w → Sat N B w0 (J i).1 (J i).2 a w) ro tr E []) (hc : ∀ i, L P l.toArray Q N B w0 (J i).1 (J i).2 []) : C P Q N B w0 E ro (.region id l.toArray true) :=
  C_treeO (pre := []) tr J hm hsel hn hB (by intro r hr; cases hr) h hc
end
end Go.Proofs.Ytdmnejfpbbmcaaa.Kp
namespace Go.Proofs.Ytdmnejfpbbmcaaa.Kp
open Go.RowKit
section
variable {P : Program} {ops : Array Oper} {md : Region.Mode} {N : Fr} {B : Nat} {w0 : World} {S : Nat → Prop}
theorem St_mkF {ro : List Res} {k : Nat} {K : Env → List Res → Prop} {E : Env} {rn : List Res} {o : Oper} {d : Tmp} {e size : Nat} {l : List (List Value)} (ho : ops[k]? = some o) (hd : o.dst = some d) (hg : o.guard = none) (hN : Nat.blt d N.n = true) (hq : Lo P N B w0 E (rn ++ ro) o (isSl e size l))
    (h : ∀ A c, K ((d, .slice A l.length c) :: E) (sl (.slice A l.length c) e size l :: rn)) : St P ops N B w0 ro k K E rn := St_lo ho hd hg hN (lo_form2 hq) fun u rs' ⟨A, c, hu, hr⟩ => by
  subst hu; subst hr
  exact h A c
end
end Go.Proofs.Ytdmnejfpbbmcaaa.Kp
namespace Go.Proofs.Ytdmnejfpbbmcaaa.Kp
open Go.RowKit
section
variable {P : Program} {ops : Array Oper} {md : Region.Mode} {N : Fr} {B : Nat} {w0 : World} {ι : Type} {J : ι → Env × List Res} {ro : List Res}
def G (P : Program) (ops : Array Oper) (md : Region.Mode) (N : Fr) (B : Nat) (w0 : World) {ι : Type} (J : ι → Env × List Res) (ro : List Res) (f : Nat) (listed : Array Bool) (E : Env) (rn : List Res) : Prop :=
  ∀ (S : Nat → Prop) (a : Act) (w : World), (∀ k, k < B → S k) → listed.size = ops.size → SatC N B w0 S E rn ro a w → wpAnyB P S md ops (fun a' w' => ∃ i, Sat N B w0 (J i).1 (J i).2 a' w') f listed a w
variable {f k d : Nat} {listed : Array Bool} {E : Env} {rn : List Res}
theorem C_treeOT {ι : Type} {id : Nat} {lo : List Oper} {Q : Exit → Act → World → Prop} {E : Env} {ro : List Res} {v v2 : Value} {e sz e2 sz2 g t : Nat} {l l2 : List (List Value)} {xs : List Value} (tr : Tre) (J : ι → Env × List Res) (hm : P.follows .mixedOrders = true) (hsel : Region.noSelect lo.toArray = true) (hn : tr.dep = lo.toArray.size) (hB : flowT .any lo.toArray tr (Array.replicate lo.toArray.size false) = true)
    (h : Z P lo.toArray N B w0 (fun E' rs' => ∃ i, ∀ a w, Sat N B w0 E' rs' a w → Sat N B w0 (J i).1 (J i).2 a w) ro tr E [sl v e sz l, sl v2 e2 sz2 l2, box g t xs]) (hc : ∀ i, L P lo.toArray Q N B w0 (J i).1 (J i).2 []) : C P Q N B w0 E (sl v e sz l :: sl v2 e2 sz2 l2 :: box g t xs :: ro) (.region id lo.toArray true) :=
  C_treeO (pre := [sl v e sz l, sl v2 e2 sz2 l2, box g t xs]) tr J hm hsel hn hB (by
    intro r hr
    simp only [List.mem_cons, List.not_mem_nil, or_false] at hr
    rcases hr with rfl | rfl | rfl
    · exact sl_own _ _ _ _
    · exact sl_own _ _ _ _
    · exact box_own _ _ _) h hc
end
end Go.Proofs.Ytdmnejfpbbmcaaa.Kp
