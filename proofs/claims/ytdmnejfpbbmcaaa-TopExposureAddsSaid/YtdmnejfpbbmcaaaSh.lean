/-
  An assertion calculus over the model's walk: frames as lists of known slots, memory as a list of resources, steps as lemmas; regions that draw their order by one walk. Conditions: none; no program in sight.
-/
import Derived.StillTail
import Derived.WalkKit
import Derived.WalkSmall
import Derived.OrdersIn
import Derived.TacticsIn
import Derived.RangeFuncNested
import Derived.RangeFuncLeaves
namespace Go.Proofs.Ytdmnejfpbbmcaaa
open Go.RowKit

theorem or_map {a b c d : Prop} (h : a ∨ b) (f : a → c) (g : b → d) : c ∨ d := by
  rcases h with h | h
  · exact .inl (f h)
  · exact .inr (g h)

/-! ### Frames -/
abbrev Env := List (Nat × Value)
def lk : Env → Nat → Option Value
  | [], _ => none
  | (j, v) :: t, i => match Nat.beq i j with
    | true => some v
    | false => lk t i
def ev (E : Env) : Operand → Option Value
  | .tmp t => lk E t
  | .const v => some v
  | .global g => some (.pointer (some ⟨g, 0, none⟩))
  | .func f => some (.func (.func f) #[] #[])
def evs (E : Env) : List Operand → Option (List Value)
  | [] => some []
  | x :: t => match ev E x with
    | some v => match evs E t with
      | some l => some (v :: l)
      | none => none
    | none => none
def argE : Nat → List Value → Env
  | _, [] => []
  | i, v :: t => (i, v) :: argE (i + 1) t

theorem blt_lt {a b : Nat} (h : Nat.blt a b = true) : a < b := by rwa [Nat.blt_eq] at h

theorem lk_cons (j : Nat) (v : Value) (t : Env) (i : Nat) : lk ((j, v) :: t) i = if i = j then some v else lk t i := by
  simp only [lk]
  by_cases h : i = j
  · subst h; simp [Nat.beq_refl]
  · have : Nat.beq i j = false := by
      cases hb : Nat.beq i j
      · rfl
      · exact absurd (Nat.eq_of_beq_eq_true hb) h
    rw [this, if_neg h]

theorem lk_argE : ∀ (l : List Value) (k i : Nat) (v : Value), lk (argE k l) i = some v → k ≤ i ∧ l[i - k]? = some v
  | [], _, _, _, h => by simp [argE, lk] at h
  | u :: t, k, i, v, h => by
    rw [argE, lk_cons] at h
    by_cases hik : i = k
    · rw [if_pos hik] at h
      subst hik
      exact ⟨Nat.le_refl _, by simpa using h⟩
    · rw [if_neg hik] at h
      obtain ⟨h1, h2⟩ := lk_argE t (k + 1) i v h
      refine ⟨by omega, ?_⟩
      rw [show i - k = (i - (k + 1)) + 1 by omega]
      simpa using h2

/-! ### Memory -/
structure Res where
  blk : Option Nat
  own : Bool
  ok : Nat → World → Prop
  lt : ∀ {B : Nat} {w : World}, ok B w → ∀ k, blk = some k → k < w.heap.size
  st : ∀ {B : Nat} {w w' : World}, ok B w → w.heap.size ≤ w'.heap.size → (∀ k, blk = some k → w'.heap[k]? = w.heap[k]?) → ok B w'
  ge : ∀ {B : Nat} {w : World}, own = true → ok B w → ∀ k, blk = some k → B ≤ k

def apartR (r s : Res) : Prop := (r.own = true ∨ s.own = true) → ∀ k, r.blk = some k → s.blk = some k → False
theorem apartR.symm {r s : Res} (h : apartR r s) : apartR s r := fun ho k hs hr => h (ho.symm) k hr hs
def Disj (rs : List Res) : Prop := rs.Pairwise apartR

@[irreducible] def box (g : Nat) (t : TypeId) (xs : List Value) : Res where
  blk := some g
  own := true
  ok := fun B w => B ≤ g ∧ w.heap[g]? = some (.cells xs.toArray t (0, 0))
  lt := by
    intro B w h k hk
    injection hk with hk
    subst hk
    exact (Array.getElem?_eq_some_iff.1 h.2).1
  st := by
    intro B w w' h _ hk
    exact ⟨h.1, (hk g rfl).trans h.2⟩
  ge := by
    intro B w _ h k hk
    injection hk with hk
    subst hk
    exact h.1

structure Rdd (w : World) (v : Value) (size : Nat) (l : List (List Value)) : Prop where
  form : ∃ A cap, v = .slice A l.length cap ∧ l.length ≤ cap ∧ cap ≤ maxLen
  each : ∀ x ∈ l, x.length = size
  some : 0 < l.length → ∃ ad, v.ownBlock = some ad.block ∧ (∃ n cap, v = .slice (some ad) n cap) ∧ ad.block < w.heap.size ∧ ∀ j u, l.flatten[j]? = some u → w.cell? (ad.add j) = some u

@[irreducible] def rd (v : Value) (size : Nat) (l : List (List Value)) : Res where
  blk := match l with
    | [] => none
    | _ :: _ => v.ownBlock
  own := false
  ok := fun _ w => Rdd w v size l
  lt := by
    intro B w h k hk
    cases l with
    | nil => cases hk
    | cons x t =>
      obtain ⟨ad, h1, _, h2, _⟩ := h.some (by simp)
      simp only [h1, Option.some.injEq] at hk
      omega
  st := by
    intro B w w' h hs hk
    refine ⟨h.form, h.each, fun hl => ?_⟩
    cases l with
    | nil => simp at hl
    | cons x t =>
      obtain ⟨ad, h1, h2, h3, h4⟩ := h.some hl
      refine ⟨ad, h1, h2, by omega, fun j u hu => ?_⟩
      have := h4 j u hu
      rw [← this]
      have hb : (ad.add j).block = ad.block := by unfold Addr.add; split <;> rfl
      exact World.cell?_of_block (by rw [hb]; exact hk _ h1)
  ge := by
    intro B w h
    cases h

@[irreducible] def sl (v : Value) (e size : Nat) (l : List (List Value)) : Res where
  blk := v.ownBlock
  own := true
  ok := fun B w => w.ownsRow B e size v l.length l.flatten ∧ ∀ x ∈ l, x.length = size
  lt := by
    intro B w h k hk
    exact (h.1.lt k hk).2
  st := by
    intro B w w' h hs hk
    refine ⟨⟨h.1.1, ?_⟩, h.2⟩
    rcases h.1.2 with hn | ⟨g, cap, cur, rfl, hb, hgg, rest⟩
    · exact .inl hn
    · refine .inr ⟨g, cap, cur, rfl, hb, ?_, rest⟩
      rw [hk g (by simp [Value.ownBlock])]
      exact hgg
  ge := by
    intro B w _ h k hk
    exact (h.1.lt k hk).1

theorem box_blk (g : Nat) (t : TypeId) (xs : List Value) : (box g t xs).blk = some g := by unfold box; rfl
theorem box_own (g : Nat) (t : TypeId) (xs : List Value) : (box g t xs).own = true := by unfold box; rfl
theorem box_ok {g : Nat} {t : TypeId} {xs : List Value} {B : Nat} {w : World} : (box g t xs).ok B w ↔ B ≤ g ∧ w.heap[g]? = some (.cells xs.toArray t (0, 0)) := by unfold box; exact Iff.rfl
theorem rd_own (v : Value) (size : Nat) (l : List (List Value)) : (rd v size l).own = false := by unfold rd; rfl
theorem rd_ok {v : Value} {size : Nat} {l : List (List Value)} {B : Nat} {w : World} : (rd v size l).ok B w ↔ Rdd w v size l := by unfold rd; exact Iff.rfl
theorem sl_blk (v : Value) (e size : Nat) (l : List (List Value)) : (sl v e size l).blk = v.ownBlock := by unfold sl; rfl
theorem sl_own (v : Value) (e size : Nat) (l : List (List Value)) : (sl v e size l).own = true := by unfold sl; rfl
theorem sl_ok {v : Value} {e size : Nat} {l : List (List Value)} {B : Nat} {w : World} : (sl v e size l).ok B w ↔ w.ownsRow B e size v l.length l.flatten ∧ ∀ x ∈ l, x.length = size := by unfold sl; exact Iff.rfl

theorem add_block (a : Addr) (n : Nat) : (a.add n).block = a.block := by unfold Addr.add; split <;> rfl

theorem Rdd.below {w w' : World} {v : Value} {size : Nat} {l : List (List Value)} (h : Rdd w v size l) (hb : Below w.heap.size w w') : Rdd w' v size l :=
  rd_ok.1 ((rd v size l).st (B := 0) (rd_ok.2 h) hb.size (fun k hk => hb.block k ((rd v size l).lt (B := 0) (rd_ok.2 h) k hk)))

def GivesRd (r : Res) (v : Value) (size : Nat) (l : List (List Value)) : Prop := ∀ B w, r.ok B w → Rdd w v size l
theorem rd_gives (v : Value) (size : Nat) (l : List (List Value)) : GivesRd (rd v size l) v size l := fun _ _ h => rd_ok.1 h
theorem sl_gives (v : Value) (e size : Nat) (l : List (List Value)) : GivesRd (sl v e size l) v size l := by
  intro B w h
  obtain ⟨h1, h2⟩ := sl_ok.1 h
  have hlen : l.flatten.length = l.length * size := h1.1
  rcases h1.2 with ⟨hv, hn⟩ | ⟨g, cap, cur, hv, hb, hgg, hc1, hc2, hc3, hc4⟩
  · refine ⟨⟨none, 0, by rw [hv, hn], Nat.le_of_eq hn, Nat.zero_le _⟩, h2, fun hl => by omega⟩
  · refine ⟨⟨_, cap, hv, hc1, hc2⟩, h2, fun hl => ⟨⟨g, 0, none⟩, by rw [hv]; rfl, ⟨_, _, hv⟩, (Array.getElem?_eq_some_iff.1 hgg).1, fun j u hu => ?_⟩⟩
    exact h1.cells (by rw [hv]; rfl) j u hu

def GvR (rs : List Res) (v : Value) (size : Nat) (l : List (List Value)) : Prop := ∃ r ∈ rs, GivesRd r v size l
structure WS (B : Nat) (w0 : World) (rs : List Res) (w : World) : Prop where
  bel : Below B w0 w
  bas : B ≤ w.heap.size
  res : ∀ r ∈ rs, r.ok B w
  dis : Disj rs

structure Fr where
  n : Nat
  dl : List Deferred
  ro : Option Nat
def fc (ro : Option Nat) : Fence := { Fence.wide with round := ro }
theorem callsIn_fc {ro : Option Nat} {n : Nat} {P : Program} {f : FuncId} {args : Array Value} {w : World} {R : Ending → World → Prop} (h : Calls P f args w R) : CallsIn (fc ro) n P f args w R := (callsIn_wide (n := n)).2 h
theorem fc_depth {ro : Option Nat} {n : Nat} : (fc ro).depth.isSome = true → 1 ≤ n := fun h => by cases h
theorem semAt_nd (ro : Option Nat) (ρ : Operand → Value) (o : Oper) (h : ∀ c, o.op ≠ .defer c) : o.semAt ro ρ = execOp ρ o := by
  cases ro with
  | none => exact Oper.semAt_none ρ o
  | some l => exact Oper.semAt_some l ρ o h
theorem nd_of {P : Program} {ρ : Operand → Value} {o : Oper} {w w' : World} {x : Next} (h : (execOp ρ o).run P w = .ok x w') (hx : ∀ d, x ≠ .defer d) : ∀ c, o.op ≠ .defer c := fun c hc => by
  unfold execOp at h
  rw [hc] at h
  simp only [Sem.run_bind] at h
  cases hq : (resolve ρ c o.type).run P w with
  | ok d w1 =>
    rw [hq] at h
    simp only [Result.andThen_ok, Sem.run_pure, Result.ok.injEq] at h
    exact hx d h.1.symm
  | halt y w1 =>
    rw [hq] at h
    simp [Result.andThen] at h
theorem wpIn_value {P : Program} {Q : Exit → Act → World → Prop} {ro : Option Nat} {o : Oper} {a : Act} {w w' : World} {v : Value} {K : Act → World → Prop} (h : (execOp a.eval o).run P w = .ok (.value v) w') (hk : K (a.put o.dst v) w') : o.wpIn (fc ro) 0 P a w K Q := by
  refine ⟨fun _ _ => trivial, ?_⟩
  rw [semAt_nd _ _ _ (nd_of h (fun d hd => by cases hd))]
  rw [h]
  exact hk
theorem wpIn_quiet {P : Program} {Q : Exit → Act → World → Prop} {ro : Option Nat} {o : Oper} {a : Act} {w w' : World} {K : Act → World → Prop} (h : (execOp a.eval o).run P w = .ok .skip w') (hk : K (a.put o.dst undef) w') : o.wpIn (fc ro) 0 P a w K Q := by
  refine ⟨fun _ _ => trivial, ?_⟩
  rw [semAt_nd _ _ _ (nd_of h (fun d hd => by cases hd))]
  rw [h]
  exact hk
theorem wpIn_calls {P : Program} {Q : Exit → Act → World → Prop} {ro : Option Nat} {o : Oper} {a : Act} {w w' : World} {f : FuncId} {args : Array Value} {K : Act → World → Prop} (h : (execOp a.eval o).run P w = .ok (.enter f args) w')
    (hk : Calls P f args w' fun e w'' => ∃ v, e = .returned v ∧ K (a.put o.dst v) w'') : o.wpIn (fc ro) 0 P a w K Q := by
  refine ⟨fun _ _ => trivial, ?_⟩
  rw [semAt_nd _ _ _ (nd_of h (fun d hd => by cases hd))]
  rw [h]
  refine ⟨fc_depth, callsIn_fc (hk.mono ?_)⟩
  rintro e w'' ⟨v, rfl, hK⟩
  exact hK

structure Sat (N : Fr) (B : Nat) (w0 : World) (E : Env) (rs : List Res) (a : Act) (w : World) : Prop where
  ws : WS B w0 rs w
  size : a.tmps.size = N.n
  dfr : a.defers = N.dl
  env : ∀ i v, lk E i = some v → a.tmps.getD i undef = v

theorem WS.later {B : Nat} {w0 w w' : World} {rs : List Res} (h : WS B w0 rs w) (hb : Below w.heap.size w w') : WS B w0 rs w' :=
  ⟨h.bel.trans (hb.mono h.bas), Nat.le_trans h.bas hb.size, fun r hr => r.st (h.res r hr) hb.size (fun k hk => hb.block k (r.lt (h.res r hr) k hk)), h.dis⟩

theorem Res.base {r : Res} {B B' : Nat} {w : World} (hB : B ≤ B') (h : r.ok B' w) (hok : ∀ {B B' : Nat} {w : World}, B ≤ B' → r.ok B' w → r.ok B w) : r.ok B w := hok hB h

theorem WS.more {B : Nat} {w0 w w' : World} {rs rs' : List Res} (h : WS B w0 rs w) (hb : Below w.heap.size w w') (hr : ∀ r ∈ rs', r.ok B w' ∧ ∀ k, r.blk = some k → w.heap.size ≤ k) (hd : Disj rs') :
    WS B w0 (rs' ++ rs) w' := by
  have hl := h.later hb
  refine ⟨hl.bel, hl.bas, fun r hm => ?_, ?_⟩
  · rcases List.mem_append.1 hm with h1 | h1
    · exact (hr r h1).1
    · exact hl.res r h1
  · refine List.pairwise_append.2 ⟨hd, h.dis, fun r h1 s h2 _ k hk hs => ?_⟩
    have h3 := (hr r h1).2 k hk
    have h4 := s.lt (h.res s h2) k hs
    omega

theorem WS.perm {B : Nat} {w0 w : World} {rs rs' : List Res} (h : WS B w0 rs w) (hp : rs'.Perm rs) : WS B w0 rs' w :=
  ⟨h.bel, h.bas, fun r hr => h.res r (hp.mem_iff.1 hr), hp.symm.pairwise h.dis (fun {_ _} hx => hx.symm)⟩
theorem WS.sub {B : Nat} {w0 w : World} {rs rs' : List Res} (h : WS B w0 rs w) (hp : rs'.Sublist rs) : WS B w0 rs' w :=
  ⟨h.bel, h.bas, fun r hr => h.res r (hp.subset hr), h.dis.sublist hp⟩

theorem Sat.eval {N : Fr} {B : Nat} {w0 : World} {E : Env} {rs : List Res} {a : Act} {w : World} (h : Sat N B w0 E rs a w) {x : Operand} {v : Value} (hx : ev E x = some v) : a.eval x = v := by
  cases x with
  | tmp t => exact h.env t v hx
  | const c => exact Option.some.inj hx
  | global g => exact Option.some.inj hx
  | func f => exact Option.some.inj hx

theorem Sat.evals {N : Fr} {B : Nat} {w0 : World} {E : Env} {rs : List Res} {a : Act} {w : World} (h : Sat N B w0 E rs a w) : ∀ {xs : List Operand} {vs : List Value}, evs E xs = some vs → xs.map a.eval = vs
  | [], vs, hx => by simpa [evs] using hx
  | x :: t, vs, hx => by
    simp only [evs] at hx
    split at hx
    · rename_i v hv
      split at hx
      · rename_i l hl
        injection hx with hx
        subst hx
        rw [List.map_cons, h.eval hv, h.evals hl]
      · cases hx
    · cases hx

theorem put_getD {a : Act} {d : Nat} {v : Value} (hd : d < a.tmps.size) (i : Nat) : (a.put (some d) v).tmps.getD i undef = if i = d then v else a.tmps.getD i undef := by
  simp only [Act.put]
  by_cases h : i = d
  · subst h; simp [hd]
  · rw [if_neg h]
    simp [Array.getElem?_setIfInBounds_ne (Ne.symm h)]

theorem Sat.put {N : Fr} {B : Nat} {w0 : World} {E : Env} {rs rs' : List Res} {a : Act} {w w' : World} (h : Sat N B w0 E rs a w) {d : Nat} (hd : Nat.blt d N.n = true) (v : Value) (hw : WS B w0 rs' w') : Sat N B w0 ((d, v) :: E) rs' (a.put (some d) v) w' := by
  have hd' : d < a.tmps.size := by rw [h.size]; exact blt_lt hd
  refine ⟨hw, by simp [Act.put, h.size], by simp [Act.put, h.dfr], fun i u hu => ?_⟩
  rw [put_getD hd']
  rw [lk_cons] at hu
  by_cases hi : i = d
  · rw [if_pos hi] at hu ⊢
    injection hu
  · rw [if_neg hi] at hu ⊢
    exact h.env i u hu

theorem Sat.world {N : Fr} {B : Nat} {w0 : World} {E : Env} {rs rs' : List Res} {a : Act} {w w' : World} (h : Sat N B w0 E rs a w) (hw : WS B w0 rs' w') : Sat N B w0 E rs' a w' := ⟨hw, h.size, h.dfr, h.env⟩

/-! ### What is asked of a list of operations, of code -/
def L (P : Program) (ops : Array Oper) (Q : Exit → Act → World → Prop) (N : Fr) (B : Nat) (w0 : World) (E : Env) (rs : List Res) (l : List Oper) : Prop :=
  ∀ a w, Sat N B w0 E rs a w → wpListIn (fc N.ro) 0 P ops Q l a w
def C (P : Program) (Q : Exit → Act → World → Prop) (N : Fr) (B : Nat) (w0 : World) (E : Env) (rs : List Res) (c : Code) : Prop :=
  ∀ a w, Sat N B w0 E rs a w → c.wpIn (fc N.ro) 0 P Q a w
def Qu (P : Program) (N : Fr) (B : Nat) (w0 : World) (E : Env) (rs : List Res) (o : Oper) (v : Value) : Prop :=
  ∀ a w, Sat N B w0 E rs a w → (execOp a.eval o).run P w = .ok (.value v) w
def Lo (P : Program) (N : Fr) (B : Nat) (w0 : World) (E : Env) (rs : List Res) (o : Oper) (post : Value → List Res → Prop) : Prop :=
  ∀ a w, Sat N B w0 E rs a w →
    (∃ v w' rs', (execOp a.eval o).run P w = .ok (.value v) w' ∧ Below w.heap.size w w' ∧ post v rs' ∧ (∀ r ∈ rs', r.ok B w' ∧ ∀ k, r.blk = some k → w.heap.size ≤ k) ∧ Disj rs') ∨
    (∃ f args, (execOp a.eval o).run P w = .ok (.enter f args) w ∧ Calls P f args w fun e w'' => ∃ v rs', e = .returned v ∧ Below w.heap.size w w'' ∧ post v rs' ∧ (∀ r ∈ rs', r.ok B w'' ∧ ∀ k, r.blk = some k → w.heap.size ≤ k) ∧ Disj rs')

theorem lo_wp {P : Program} {Q : Exit → Act → World → Prop} {N : Fr} {B : Nat} {w0 : World} {E : Env} {rs : List Res} {o : Oper} {post : Value → List Res → Prop} {d : Nat} {a : Act} {w : World} {K : Act → World → Prop}
    (hd : o.dst = some d) (hN : Nat.blt d N.n = true) (hq : Lo P N B w0 E rs o post) (hs : Sat N B w0 E rs a w) (hK : ∀ v rs' a' w', post v rs' → Sat N B w0 ((d, v) :: E) (rs' ++ rs) a' w' → K a' w') : o.wpIn (fc N.ro) 0 P a w K Q := by
  rcases hq a w hs with ⟨v, w', rs', hr, hb, hp, hrs, hdj⟩ | ⟨f, args, hr, hc⟩
  · exact wpIn_value hr (hd ▸ hK v rs' _ _ hp (hs.put hN v (hs.ws.more hb hrs hdj)))
  · refine wpIn_calls hr (hc.mono ?_)
    rintro e w'' ⟨v, rs', he, hb, hp, hrs, hdj⟩
    exact ⟨v, he, hd ▸ hK v rs' _ _ hp (hs.put hN v (hs.ws.more hb hrs hdj))⟩

section
variable {P : Program} {ops : Array Oper} {Q : Exit → Act → World → Prop} {N : Fr} {B : Nat} {w0 : World} {E : Env} {rs : List Res} {rest : List Oper} {o : Oper}

theorem L_q {d : Nat} {v : Value} (hd : o.dst = some d) (hg : o.guard = none) (hN : Nat.blt d N.n = true) (hq : Qu P N B w0 E rs o v) (h : L P ops Q N B w0 ((d, v) :: E) rs rest) : L P ops Q N B w0 E rs (o :: rest) := by
  intro a w hs
  refine wpListIn_plain hg fun K hK => ?_
  exact wpIn_value (hq a w hs) (hK _ _ (by rw [hd]; exact h _ _ (hs.put hN v hs.ws)))

theorem L_lo {d : Nat} {post : Value → List Res → Prop} (hd : o.dst = some d) (hg : o.guard = none) (hN : Nat.blt d N.n = true) (hq : Lo P N B w0 E rs o post)
    (h : ∀ v rs', post v rs' → L P ops Q N B w0 ((d, v) :: E) (rs' ++ rs) rest) : L P ops Q N B w0 E rs (o :: rest) := by
  intro a w hs
  refine wpListIn_plain hg fun K hK => ?_
  exact lo_wp hd hN hq hs fun v rs' a' w' hp hs' => hK _ _ (h v rs' hp a' w' hs')

theorem wanted_guard {a : Act} {j d : Nat} {want b : Bool} (hg : o.guard = some (j, want)) (hj : (ops[j]?).bind (·.dst) = some d) (hE : lk E d = some (.bool b)) {w : World} (hs : Sat N B w0 E rs a w) (hdN : Nat.blt d N.n = true) :
    Region.wanted o (yielded ops a.tmps) = (b == want) := by
  have h1 := hs.env d _ hE
  have hd' : d < a.tmps.size := by rw [hs.size]; exact blt_lt hdN
  have h2 : a.tmps[d]? = some (.bool b) := by
    rw [Array.getD_eq_getD_getElem?] at h1
    rw [Array.getElem?_eq_getElem hd'] at h1 ⊢
    simpa using h1
  simp [Region.wanted, hg, yielded, hj, h2]

theorem wanted_undef {a : Act} {j d : Nat} {want : Bool} (hg : o.guard = some (j, want)) (hj : (ops[j]?).bind (·.dst) = some d) (hE : lk E d = some undef) {w : World} (hs : Sat N B w0 E rs a w) (hdN : Nat.blt d N.n = true) :
    Region.wanted o (yielded ops a.tmps) = false := by
  have h1 := hs.env d _ hE
  have hd' : d < a.tmps.size := by rw [hs.size]; exact blt_lt hdN
  have h2 : a.tmps[d]? = some undef := by
    rw [Array.getD_eq_getD_getElem?] at h1
    rw [Array.getElem?_eq_getElem hd'] at h1 ⊢
    simpa using h1
  simp [Region.wanted, hg, yielded, hj, h2, undef]
theorem L_skipu {d j d' : Nat} {want : Bool} (hd : o.dst = some d) (hg : o.guard = some (j, want)) (hN : Nat.blt d N.n = true) (hj : (ops[j]?).bind (·.dst) = some d') (hdN : Nat.blt d' N.n = true) (hE : lk E d' = some undef)
    (h : L P ops Q N B w0 ((d, undef) :: E) rs rest) : L P ops Q N B w0 E rs (o :: rest) := by
  intro a w hs
  refine wpListIn_step fun K hK => ?_
  rw [wanted_undef hg hj hE hs hdN]
  simp only [Bool.false_eq_true, if_false]
  exact ⟨fun _ _ => trivial, hK _ _ (by rw [hd]; exact h _ _ (hs.put hN undef hs.ws))⟩
theorem L_skip {d j d' : Nat} {want b : Bool} (hd : o.dst = some d) (hg : o.guard = some (j, want)) (hN : Nat.blt d N.n = true) (hj : (ops[j]?).bind (·.dst) = some d') (hdN : Nat.blt d' N.n = true) (hE : lk E d' = some (.bool b))
    (hb : (b == want) = false) (h : L P ops Q N B w0 ((d, undef) :: E) rs rest) : L P ops Q N B w0 E rs (o :: rest) := by
  intro a w hs
  refine wpListIn_step fun K hK => ?_
  rw [wanted_guard hg hj hE hs hdN, hb]
  simp only [Bool.false_eq_true, if_false]
  exact ⟨fun _ _ => trivial, hK _ _ (by rw [hd]; exact h _ _ (hs.put hN undef hs.ws))⟩

theorem L_qg {d j d' : Nat} {want b : Bool} {v : Value} (hd : o.dst = some d) (hg : o.guard = some (j, want)) (hN : Nat.blt d N.n = true) (hj : (ops[j]?).bind (·.dst) = some d') (hdN : Nat.blt d' N.n = true) (hE : lk E d' = some (.bool b))
    (hb : (b == want) = true) (hq : Qu P N B w0 E rs o v) (h : L P ops Q N B w0 ((d, v) :: E) rs rest) : L P ops Q N B w0 E rs (o :: rest) := by
  intro a w hs
  refine wpListIn_step fun K hK => ?_
  rw [wanted_guard hg hj hE hs hdN, hb]
  simp only [if_true]
  exact wpIn_value (hq a w hs) (hK _ _ (by rw [hd]; exact h _ _ (hs.put hN v hs.ws)))

theorem L_log {d j d' : Nat} {want b : Bool} {post : Value → List Res → Prop} (hd : o.dst = some d) (hg : o.guard = some (j, want)) (hN : Nat.blt d N.n = true) (hj : (ops[j]?).bind (·.dst) = some d') (hdN : Nat.blt d' N.n = true)
    (hE : lk E d' = some (.bool b)) (hb : (b == want) = true) (hq : Lo P N B w0 E rs o post)
    (h : ∀ v rs', post v rs' → L P ops Q N B w0 ((d, v) :: E) (rs' ++ rs) rest) : L P ops Q N B w0 E rs (o :: rest) := by
  intro a w hs
  refine wpListIn_step fun K hK => ?_
  rw [wanted_guard hg hj hE hs hdN, hb]
  simp only [if_true]
  exact lo_wp hd hN hq hs fun v rs' a' w' hp hs' => hK _ _ (h v rs' hp a' w' hs')

theorem L_bool {d : Nat} {b : Bool} {l : List Oper} (hE : lk E d = some (.bool b)) (ht : b = true → L P ops Q N B w0 ((d, .bool true) :: E) rs l) (hf : b = false → L P ops Q N B w0 ((d, .bool false) :: E) rs l) :
    L P ops Q N B w0 E rs l := by
  intro a w hs
  have key : ∀ c : Bool, b = c → Sat N B w0 ((d, .bool c) :: E) rs a w := fun c hc => ⟨hs.ws, hs.size, hs.dfr, fun i u hu => by
    rw [lk_cons] at hu
    by_cases hi : i = d
    · rw [if_pos hi] at hu
      injection hu with hu
      subst hu; subst hi; subst hc
      exact hs.env _ _ hE
    · rw [if_neg hi] at hu
      exact hs.env i u hu⟩
  cases hb : b with
  | true => exact ht hb a w (key true hb)
  | false => exact hf hb a w (key false hb)
theorem L_dec {d : Nat} {p : Prop} [Decidable p] {l : List Oper} (hE : lk E d = some (.bool (decide p))) (ht : p → L P ops Q N B w0 ((d, .bool true) :: E) rs l) (hf : ¬ p → L P ops Q N B w0 ((d, .bool false) :: E) rs l) :
    L P ops Q N B w0 E rs l :=
  L_bool hE (fun h => ht (of_decide_eq_true h)) (fun h => hf (of_decide_eq_false h))

/-! ### The same steps, in few words -/
theorem Jq {d : Nat} {op : Op} {ty : TypeId} {pos : String} {aft : Array Edge} {v : Value} (hq : Qu P N B w0 E rs ⟨some d, op, ty, pos, aft, none⟩ v) (h : L P ops Q N B w0 ((d, v) :: E) rs rest) (hN : Nat.blt d N.n = true := by exact rfl) : L P ops Q N B w0 E rs (⟨some d, op, ty, pos, aft, none⟩ :: rest) := L_q rfl rfl hN hq h
theorem Jg {d j d' : Nat} {want b : Bool} {op : Op} {ty : TypeId} {pos : String} {aft : Array Edge} {v : Value} (hq : Qu P N B w0 E rs ⟨some d, op, ty, pos, aft, some (j, want)⟩ v) (h : L P ops Q N B w0 ((d, v) :: E) rs rest) (hN : Nat.blt d N.n = true := by exact rfl) (hj : (ops[j]?).bind (·.dst) = some d' := by exact rfl) (hdN : Nat.blt d' N.n = true := by exact rfl) (hE : lk E d' = some (.bool b) := by exact rfl)
    (hb : (b == want) = true := by exact rfl) : L P ops Q N B w0 E rs (⟨some d, op, ty, pos, aft, some (j, want)⟩ :: rest) := L_qg rfl rfl hN hj hdN hE hb hq h
theorem Jk {d j d' : Nat} {want b : Bool} {op : Op} {ty : TypeId} {pos : String} {aft : Array Edge} (h : L P ops Q N B w0 ((d, undef) :: E) rs rest) (hN : Nat.blt d N.n = true := by exact rfl) (hj : (ops[j]?).bind (·.dst) = some d' := by exact rfl) (hdN : Nat.blt d' N.n = true := by exact rfl) (hE : lk E d' = some (.bool b) := by exact rfl)
    (hb : (b == want) = false := by exact rfl) : L P ops Q N B w0 E rs (⟨some d, op, ty, pos, aft, some (j, want)⟩ :: rest) := L_skip rfl rfl hN hj hdN hE hb h
theorem Ju {d j d' : Nat} {want : Bool} {op : Op} {ty : TypeId} {pos : String} {aft : Array Edge} (h : L P ops Q N B w0 ((d, undef) :: E) rs rest) (hN : Nat.blt d N.n = true := by exact rfl) (hj : (ops[j]?).bind (·.dst) = some d' := by exact rfl) (hdN : Nat.blt d' N.n = true := by exact rfl) (hE : lk E d' = some undef := by exact rfl) :
    L P ops Q N B w0 E rs (⟨some d, op, ty, pos, aft, some (j, want)⟩ :: rest) := L_skipu rfl rfl hN hj hdN hE h

def subE (E : Env) : Env → Prop
  | [] => True
  | (i, v) :: t => lk E i = some v ∧ subE E t
theorem subE_lk {E : Env} : ∀ {E' : Env}, subE E E' → ∀ i v, lk E' i = some v → lk E i = some v
  | [], _, i, v, h => by simp [lk] at h
  | (j, u) :: t, hs, i, v, h => by
    rw [lk_cons] at h
    by_cases hi : i = j
    · rw [if_pos hi] at h
      injection h with h
      subst h; subst hi
      exact hs.1
    · rw [if_neg hi] at h
      exact subE_lk hs.2 i v h
theorem Sat.weak {E' : Env} {rs' : List Res} {a : Act} {w : World} (h : Sat N B w0 E rs a w) (he : subE E E') (hr : WS B w0 rs w → WS B w0 rs' w) : Sat N B w0 E' rs' a w :=
  ⟨hr h.ws, h.size, h.dfr, fun i v hv => h.env i v (subE_lk he i v hv)⟩
theorem C_weak {E' : Env} {rs' : List Res} {c : Code} (he : subE E E') (hr : ∀ w, WS B w0 rs w → WS B w0 rs' w) (h : C P Q N B w0 E' rs' c) : C P Q N B w0 E rs c :=
  fun a w hs => h a w (hs.weak he (hr w))
theorem L_res {rs' : List Res} {l : List Oper} (hr : ∀ w, WS B w0 rs w → WS B w0 rs' w) (h : L P ops Q N B w0 E rs' l) : L P ops Q N B w0 E rs l :=
  fun a w hs => h a w ⟨hr w hs.ws, hs.size, hs.dfr, hs.env⟩
theorem C_res {rs' : List Res} {c : Code} (hr : ∀ w, WS B w0 rs w → WS B w0 rs' w) (h : C P Q N B w0 E rs' c) : C P Q N B w0 E rs c :=
  fun a w hs => h a w ⟨hr w hs.ws, hs.size, hs.dfr, hs.env⟩

/-! ### Code -/
variable {x y c : Code}
theorem C_region {id : Nat} {l : List Oper} (h : L P l.toArray Q N B w0 E rs l) : C P Q N B w0 E rs (.region id l.toArray false) :=
  fun a w hs => wpIn_region_lit (h a w hs)
theorem C_seq (h : C P (Exit.then (y.wpIn (fc N.ro) 0 P Q) Q) N B w0 E rs x) : C P Q N B w0 E rs (.seq x y) := fun a w hs => wpIn_seq (h a w hs)
theorem L_then {Q' : Exit → Act → World → Prop} (h : C P Q N B w0 E rs y) : L P ops (Exit.then (y.wpIn (fc N.ro) 0 P Q) Q') N B w0 E rs [] := fun a w hs => h a w hs
theorem C_skip_then {Q' : Exit → Act → World → Prop} (h : C P Q N B w0 E rs y) : C P (Exit.then (y.wpIn (fc N.ro) 0 P Q) Q') N B w0 E rs .skip := fun a w hs => wpIn_skip (h a w hs)
theorem L_end (h : ∀ a w, Sat N B w0 E rs a w → Q .normal a w) : L P ops Q N B w0 E rs [] := fun a w hs => h a w hs
theorem C_skip (h : ∀ a w, Sat N B w0 E rs a w → Q .normal a w) : C P Q N B w0 E rs .skip := fun a w hs => wpIn_skip (h a w hs)
theorem C_exit {id : Nat} (h : ∀ a w, Sat N B w0 E rs a w → Q (.exit id) a w) : C P Q N B w0 E rs (.exit id) := fun a w hs => wpIn_exit (h a w hs)
theorem C_ret (h : ∀ a w, Sat N B w0 E rs a w → Q .ret a w) : C P Q N B w0 E rs .ret := fun a w hs => wpIn_ret (h a w hs)
theorem C_block {id : Nat} (h : C P (Exit.inBlock id Q) N B w0 E rs c) : C P Q N B w0 E rs (.block id c) := fun a w hs => wpIn_block (h a w hs)
theorem C_bool {k : Operand} {b : Bool} (hc : ev E k = some (.bool b)) (ht : b = true → C P Q N B w0 E rs x) (hf : b = false → C P Q N B w0 E rs y) : C P Q N B w0 E rs (.cond k x y) := by
  intro a w hs
  refine wpIn_cond_split (hs.eval hc) (fun h => ht h a w hs) (fun h => hf h a w hs)
theorem C_true {k : Operand} (hc : ev E k = some (.bool true)) (ht : C P Q N B w0 E rs x) : C P Q N B w0 E rs (.cond k x y) := fun a w hs => wpIn_cond_true (hs.eval hc) (ht a w hs)
theorem C_false {k : Operand} (hc : ev E k = some (.bool false)) (hf : C P Q N B w0 E rs y) : C P Q N B w0 E rs (.cond k x y) := fun a w hs => wpIn_cond_false (hs.eval hc) (hf a w hs)
theorem C_dec {k : Operand} {p : Prop} [Decidable p] (hc : ev E k = some (.bool (decide p))) (ht : p → C P Q N B w0 E rs x) (hf : ¬ p → C P Q N B w0 E rs y) : C P Q N B w0 E rs (.cond k x y) :=
  C_bool hc (fun h => ht (of_decide_eq_true h)) (fun h => hf (of_decide_eq_false h))

def Again {ι : Type} (N : Fr) (B : Nat) (wf : ι → World) (F : ι → Env × List Res) (good : ι → Prop) (μ : ι → Nat) (i : ι) (a : Act) (w : World) : Prop :=
  ∃ i', good i' ∧ μ i' < μ i ∧ Sat N B (wf i') (F i').1 (F i').2 a w
theorem C_loopW {ι : Type} (wf : ι → World) (F : ι → Env × List Res) (good : ι → Prop) (μ : ι → Nat) (i0 : ι) (h0 : good i0) (hw : ∀ a w, Sat N B w0 E rs a w → Sat N B (wf i0) (F i0).1 (F i0).2 a w)
    (hr : ∀ i, good i → C P (Exit.then (Again N B wf F good μ i) Q) N B (wf i) (F i).1 (F i).2 c) : C P Q N B w0 E rs (.loop c) := by
  intro a w hs b k cs hro hb hroom
  have key : ∀ n i a w, μ i = n → good i → Sat N B (wf i) (F i).1 (F i).2 a w →
      ∃ e a' w', Q e a' w' ∧ ArrivesIn (Machine.fenced P (fc N.ro)) P (lone (b.atR a (.code c :: .inLoop c :: k)) cs w) b k cs e a' w' := by
    intro n
    induction n using Nat.strongRecOn with
    | _ n ih =>
      intro i a w hn hg hs
      obtain ⟨e, a₁, w₁, hq, harr⟩ := hr i hg a w hs b (.inLoop c :: k) cs hro hb hroom
      cases e with
      | normal =>
        obtain ⟨i', hg', hlt, hs'⟩ := hq
        obtain ⟨e₂, a₂, w₂, hq₂, harr₂⟩ := ih (μ i') (hn ▸ hlt) i' a₁ w₁ rfl hg' hs'
        exact ⟨e₂, a₂, w₂, hq₂, .of_steps (StepsIn.trans harr (.one (fenced_calm hb hroom rfl) stepR_inLoop)) harr₂⟩
      | exit id => exact ⟨_, a₁, w₁, hq, .pass (x := .inLoop c) rfl (fun _ _ => .inl (by simp)) harr⟩
      | goto l => exact ⟨_, a₁, w₁, hq, .pass (x := .inLoop c) rfl (fun _ _ => .inl (by simp)) harr⟩
      | ret => exact ⟨_, a₁, w₁, hq, .pass (x := .inLoop c) rfl (fun _ _ => .inl (by simp)) harr⟩
      | panic ch => exact ⟨_, a₁, w₁, hq, .pass (x := .inLoop c) rfl (fun _ _ => .inl (by simp)) harr⟩
      | outgrown => exact ⟨_, a₁, w₁, hq, .pass (x := .inLoop c) rfl (fun _ _ => .inl (by simp)) harr⟩
  obtain ⟨e, a', w', hq, harr⟩ := key _ i0 a w rfl h0 (hw a w hs)
  exact ⟨e, a', w', hq, .of_steps (.one (fenced_calm hb hroom rfl) stepR_loop) harr⟩
theorem C_loop {ι : Type} (F : ι → Env × List Res) (good : ι → Prop) (μ : ι → Nat) (i0 : ι) (h0 : good i0) (hw : ∀ a w, Sat N B w0 E rs a w → Sat N B w0 (F i0).1 (F i0).2 a w)
    (hr : ∀ i, good i → C P (Exit.then (Again N B (fun _ => w0) F good μ i) Q) N B w0 (F i).1 (F i).2 c) : C P Q N B w0 E rs (.loop c) := C_loopW (fun _ => w0) F good μ i0 h0 hw hr
end
end Go.Proofs.Ytdmnejfpbbmcaaa
