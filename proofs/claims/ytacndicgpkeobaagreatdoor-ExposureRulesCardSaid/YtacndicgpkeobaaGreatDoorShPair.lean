/-
  The calculus: regions that draw their order and at their end make two pieces of memory, the one ahead of the other or behind it. Conditions: none; no program in sight.
-/
import Derived.Test.YtacndicgpkeobaaGreatDoorShBool
namespace Go.Proofs.YtacndicgpkeobaaGreatDoor
open Go.RowKit

@[irreducible] def lp (l : Nat) (r : Loop) : Res where
  blk := some l
  own := true
  ok := fun B w => B ≤ l ∧ w.heap[l]? = some (.loop r)
  lt := by
    intro B w h k hk
    injection hk with hk
    subst hk
    exact (Array.getElem?_eq_some_iff.1 h.2).1
  st := by
    intro B w w' h _ hk
    exact ⟨h.1, (hk l rfl).trans h.2⟩
  ge := by
    intro B w _ h k hk
    injection hk with hk
    subst hk
    exact h.1
@[irreducible] def df (D : Nat) : Res where
  blk := some D
  own := true
  ok := fun B w => B ≤ D ∧ w.heap[D]? = some (.deferred (some []))
  lt := by
    intro B w h k hk
    injection hk with hk
    subst hk
    exact (Array.getElem?_eq_some_iff.1 h.2).1
  st := by
    intro B w w' h _ hk
    exact ⟨h.1, (hk D rfl).trans h.2⟩
  ge := by
    intro B w _ h k hk
    injection hk with hk
    subst hk
    exact h.1
theorem lp_blk (l : Nat) (r : Loop) : (lp l r).blk = some l := by unfold lp; rfl
theorem lp_own (l : Nat) (r : Loop) : (lp l r).own = true := by unfold lp; rfl
theorem lp_ok {l : Nat} {r : Loop} {B : Nat} {w : World} : (lp l r).ok B w ↔ B ≤ l ∧ w.heap[l]? = some (.loop r) := by unfold lp; exact Iff.rfl
theorem df_blk (D : Nat) : (df D).blk = some D := by unfold df; rfl
theorem df_own (D : Nat) : (df D).own = true := by unfold df; rfl
theorem df_ok {D : Nat} {B : Nat} {w : World} : (df D).ok B w ↔ B ≤ D ∧ w.heap[D]? = some (.deferred (some [])) := by unfold df; exact Iff.rfl

section
variable {P : Program} {N : Fr} {B : Nat} {w0 : World} {E : Env} {rs RC RC' : List Res} {Q : Exit → Act → World → Prop} {ops : Array Oper} {rest : List Oper}

theorem WS.turnLoop {w : World} {l : Nat} {r r' : Loop} (h : WS B w0 (lp l r :: rs) w) : WS B w0 (lp l r' :: rs) (w.putObj l (.loop r')) := by
  have h1 := lp_ok.1 (h.res _ List.mem_cons_self)
  have hlt := (Array.getElem?_eq_some_iff.1 h1.2).1
  exact h.turn (lp_own _ _) (by rw [lp_blk, lp_blk]) (lp_own _ _) (lp_ok.2 ⟨h1.1, World.putObj_heap_same hlt⟩) ⟨rfl, rfl, rfl⟩ (by simp [World.putObj]) (fun k _ hne => World.putObj_heap_other (fun e => hne (by rw [lp_blk, e])))
theorem WS.dup {w : World} {k : Res} (h : WS B w0 rs w) (hk : k ∈ rs) (ho : k.own = false) : WS B w0 (k :: rs) w := by
  refine ⟨h.bel, h.bas, fun r hr => ?_, List.pairwise_cons.2 ⟨fun s hs => ?_, h.dis⟩⟩
  · rcases List.mem_cons.1 hr with rfl | hr
    · exact h.res _ hk
    · exact h.res r hr
  · intro hown j h1 h2
    rcases hown with hown | hown
    · rw [ho] at hown; cases hown
    · by_cases hks : k = s
      · subst hks; rw [ho] at hown; cases hown
      · obtain ⟨a, b, hab⟩ := List.append_of_mem hk
        have hd := h.dis
        rw [hab] at hd hs
        have hp : (k :: (a ++ b)).Pairwise apartR := (perm_front (r := k) (pre := a) (post := b)).symm.pairwise hd (fun {_ _} hx => hx.symm)
        have hs' : s ∈ a ++ b := by
          rcases List.mem_append.1 hs with h3 | h3
          · exact List.mem_append_left _ h3
          · rcases List.mem_cons.1 h3 with h3 | h3
            · exact absurd h3.symm hks
            · exact List.mem_append_right _ h3
        exact (List.pairwise_cons.1 hp).1 s hs' (.inr hown) j h1 h2
theorem WS.dups {w : World} : ∀ {K : List Res}, WS B w0 rs w → (∀ k ∈ K, k ∈ rs ∧ k.own = false) → WS B w0 (K ++ rs) w
  | [], h, _ => h
  | k :: _, h, hk => (WS.dups h (fun x hx => hk x (List.mem_cons_of_mem _ hx))).dup (List.mem_append_right _ (hk k List.mem_cons_self).1) (hk k List.mem_cons_self).2
theorem sl_to_rd {w : World} {v : Value} {e size : Nat} {l : List (List Value)} (h : WS B w0 (sl v e size l :: rs) w) : WS B w0 (rd v size l :: rs) w := by
  have h1 := h.res _ List.mem_cons_self
  have hg := sl_gives v e size l B w h1
  refine ⟨h.bel, h.bas, fun r hr => ?_, List.pairwise_cons.2 ⟨fun s hs hown j hj hj2 => ?_, (List.pairwise_cons.1 h.dis).2⟩⟩
  · rcases List.mem_cons.1 hr with rfl | hr
    · exact rd_ok.2 hg
    · exact h.res r (List.mem_cons_of_mem _ hr)
  · refine (List.pairwise_cons.1 h.dis).1 s hs (.inl (sl_own _ _ _ _)) j ?_ hj2
    rw [sl_blk]
    cases l with
    | nil => unfold rd at hj; cases hj
    | cons a t => unfold rd at hj; exact hj
theorem L_share {v : Value} {e size : Nat} {l : List (List Value)} {t : List Oper} (h : L P ops Q N B w0 E (rd v size l :: rs) t) : L P ops Q N B w0 E (sl v e size l :: rs) t := L_res (fun _ hw => sl_to_rd hw) h

def Rnd (P : Program) (B : Nat) (w0 : World) (l : Nat) (r : Loop) (args : List Value) (K RC RC' : List Res) : Prop :=
  ∀ own w, (∀ k ∈ K, k ∈ own ∧ k.own = false) → WS B w0 (own ++ (lp l r :: RC)) w →
    RoundIn (fc none) 0 P l r.fn ((r.params.zip args.toArray).foldl (fun tmps (x : Tmp × Value) => tmps.setIfInBounds x.1 x.2) r.tmps) r.assign r.body w (fun e w' => e = .returned (.bool true) ∧ WS B w0 (own ++ (lp l r :: RC')) w')

/-! ### The caller's side of a round -/
abbrev lrec (fn : FuncId) (tmps : Array Value) (p : Tmp) (assign body : Code) (D : Nat) : Loop := { state := .ready, pending := none, fn := fn, tmps := tmps, params := #[p], assign := assign, body := body, defers := D }
abbrev brec (fn : FuncId) (tmps : Array Value) (p : Tmp) (assign body : Code) (D : Nat) : Loop := { state := .busy, pending := none, fn := fn, tmps := tmps, params := #[p], assign := assign, body := body, defers := D }
def RQ (B : Nat) (w0 : World) (own : List Res) (l : Nat) (r : Loop) (RC' : List Res) (e : Ending) (w' : World) : Prop := e = .returned (.bool true) ∧ WS B w0 (own ++ (lp l r :: RC')) w'
def asQ (P : Program) (l : Nat) (R : Ending → World → Prop) (body : Code) : Exit → Act → World → Prop :=
  Exit.then (fun a w => ∃ w2, (Instr.beginRound l).run P w = .ok () w2 ∧ body.wpIn (fc (some l)) 0 P (roundPost P l R) a w2) (fun _ _ _ => False)
variable {fn : FuncId} {tmps : Array Value} {p D l : Nat} {assign body : Code} {n : Nat}
theorem Rnd.of {x : Value} {K : List Res} (htm : tmps.size = n) (hp : Nat.blt p n = true) (hE : ∀ i v, lk E i = some v → tmps.getD i undef = v)
    (h : ∀ own, C P (asQ P l (RQ B w0 own l (lrec fn tmps p assign body D) RC') body) ⟨n, [], some l⟩ B w0 ((p, x) :: E) (lp l (lrec fn tmps p assign body D) :: (K ++ (RC ++ own))) assign) :
    Rnd P B w0 l (lrec fn tmps p assign body D) [x] K RC RC' := by
  intro own w hK hw
  refine roundIn_of_wpIn trivial ?_
  have hp' : p < tmps.size := by rw [htm]; exact blt_lt hp
  refine h own _ w ⟨?_, by simp [htm], rfl, fun i v hv => ?_⟩
  · have h1 := hw.dups (K := K) (fun k hk => ⟨List.mem_append_left _ (hK k hk).1, (hK k hk).2⟩)
    refine h1.perm ?_
    have e1 : (lp l (lrec fn tmps p assign body D) :: (K ++ (RC ++ own))).Perm (K ++ (lp l (lrec fn tmps p assign body D) :: (RC ++ own))) := perm_front
    refine e1.trans (List.Perm.append_left K ?_)
    have e2 : (own ++ (lp l (lrec fn tmps p assign body D) :: RC)).Perm ((lp l (lrec fn tmps p assign body D) :: RC) ++ own) := List.perm_append_comm
    exact e2.symm
  · rw [lk_cons] at hv
    by_cases hi : i = p
    · rw [if_pos hi] at hv
      injection hv with hv
      subst hv; subst hi
      simp [hp']
    · rw [if_neg hi] at hv
      have := hE i v hv
      simpa [Array.getElem?_setIfInBounds_ne (Ne.symm hi)] using this
theorem beginR {R : Ending → World → Prop} (h : C P (roundPost P l R) ⟨n, [], some l⟩ B w0 E (lp l (brec fn tmps p assign body D) :: rs) body) :
    ∀ a w, Sat ⟨n, [], some l⟩ B w0 E (lp l (lrec fn tmps p assign body D) :: rs) a w → asQ P l R body .normal a w := by
  intro a w hs
  have hl := (lp_ok.1 (hs.has (r := lp l (lrec fn tmps p assign body D)) List.mem_cons_self)).2
  exact ⟨_, run_beginRound hl rfl, h _ _ (hs.world hs.ws.turnLoop)⟩
/-! ### The iterator -/
def It (P : Program) (f : FuncId) (args : List Value) (B : Nat) (w0 : World) (rs : List Res) (R : World → Prop) : Prop :=
  ∃ fnI cI NI, P.funcs[f]? = some fnI ∧ fnI.body = some cI ∧ fnI.ntmps = NI ∧ Nat.ble args.length NI = true ∧ C P (bodyPost P fnI fun e w' => ∃ v, e = .returned v ∧ R w') ⟨NI, [], none⟩ B w0 (argE 0 args) rs cI
theorem It.of {N : Nat} {f : FuncId} {fn : Func} {c : Code} {args : List Value} {R : World → Prop} (hf : P.funcs[f]? = some fn) (hb : fn.body = some c) (hN : fn.ntmps = N) (hle : Nat.ble args.length N = true)
    (h : C P (bodyPost P fn fun e w' => ∃ v, e = .returned v ∧ R w') ⟨N, [], none⟩ B w0 (argE 0 args) rs c) : It P f args B w0 rs R := ⟨fn, c, N, hf, hb, hN, hle, h⟩
theorem It.mono {f : FuncId} {args : List Value} {R R' : World → Prop} {rs' : List Res} (h : It P f args B w0 rs R) (hs : ∀ w, WS B w0 rs' w → WS B w0 rs w) (hr : ∀ w, R w → R' w) : It P f args B w0 rs' R' := by
  obtain ⟨fn, c, N, h1, h2, h3, h4, h5⟩ := h
  refine ⟨fn, c, N, h1, h2, h3, h4, fun a w hw => wpIn_mono (h5 a w ⟨hs w hw.ws, hw.size, hw.dfr, hw.env⟩) ?_⟩
  intro e a' w' hq
  cases e with
  | normal => obtain ⟨q1, v, q2, u, q3, q4⟩ := hq; exact ⟨q1, v, q2, u, q3, hr _ q4⟩
  | ret => obtain ⟨q1, v, q2, u, q3, q4⟩ := hq; exact ⟨q1, v, q2, u, q3, hr _ q4⟩
  | panic ch => obtain ⟨q1, u, q3, _⟩ := hq; cases q3
  | outgrown => obtain ⟨u, q3, _⟩ := hq; cases q3
  | exit id => exact hq.elim
  | goto t => exact hq.elim
theorem it_ret {n : Nat} {fn : Func} {R : World → Prop} (hf : fn.results = #[]) (h : ∀ w, WS B w0 rs w → R w) : ∀ a w, Sat ⟨n, [], none⟩ B w0 E rs a w → bodyPost P fn (fun e w' => ∃ v, e = .returned v ∧ R w') .ret a w :=
  fun _ w hs => ⟨hs.dfr, _, results_none hf _ _ _, _, rfl, h w hs.ws⟩
theorem it_end {n : Nat} {fn : Func} {R : World → Prop} (hf : fn.results = #[]) (h : ∀ w, WS B w0 rs w → R w) : ∀ a w, Sat ⟨n, [], none⟩ B w0 E rs a w → bodyPost P fn (fun e w' => ∃ v, e = .returned v ∧ R w') .normal a w :=
  fun _ w hs => ⟨hs.dfr, _, results_none hf _ _ _, _, rfl, h w hs.ws⟩
theorem blk_end {id : Nat} {y : Code} {Q' : Exit → Act → World → Prop} (h : C P Q N B w0 E rs y) : ∀ a w, Sat N B w0 E rs a w → Exit.inBlock id (Exit.then (y.wpIn (fc N.ro) 0 P Q) Q') .normal a w := fun a w hs => h a w hs

/-! ### The statement -/
/-! ### A function that holds one such loop -/
theorem Ct.ofM {N : Nat} {f : FuncId} {fn : Func} {c : Code} {args : List Value} {ps : List (Value × Nat × List (List Value))} {post : Value → List Res → Prop} (hf : P.funcs[f]? = some fn) (hb : fn.body = some c) (hN : fn.ntmps = N) (hle : Nat.ble args.length N = true)
    (h : ∀ w, C P (bodyPostM (fc none) 0 P fn (PostOf post w)) ⟨N, [], none⟩ w.heap.size w (argE 0 args) (rdOf ps) c) : Ct P f args ps post := by
  intro w hw
  refine (callsIn_wide (n := 0)).1 (callsIn_of_wp_marks hf hb trivial (h w _ _ ⟨⟨Below.refl _ _, Nat.le_refl _, fun r hr => ?_, disj_rd ps⟩, ?_, rfl, fun i v hv => ?_⟩))
  · obtain ⟨p, hp, rfl⟩ := List.mem_map.1 hr
    exact rd_ok.2 (hw p hp)
  · have := Nat.ble_eq.mp hle
    simp [hN]
    omega
  · obtain ⟨_, h1⟩ := lk_argE args 0 i v hv
    simp only [Nat.sub_zero] at h1
    have hl := (List.getElem?_eq_some_iff.1 h1).1
    have h2 := List.getElem?_eq_getElem hl
    rw [h1] at h2
    injection h2 with h2
    simp [Array.getElem?_append, hl, h2]
/-! ### A slice's value is a slice -/
theorem GvR.form {w : World} {v : Value} {size : Nat} {l : List (List Value)} (h : WS B w0 rs w) (hg : GvR rs v size l) : ∃ A cap, v = .slice A l.length cap ∧ (A = none → l = []) := by
  obtain ⟨r, hr, hg⟩ := hg
  have h1 := hg _ _ (h.res r hr)
  obtain ⟨A, cap, hv, _, _⟩ := h1.form
  refine ⟨A, cap, hv, fun hA => ?_⟩
  subst hA
  rcases Nat.eq_zero_or_pos l.length with h0 | h0
  · exact List.eq_nil_of_length_eq_zero h0
  · obtain ⟨ad, _, ⟨n, c, h2⟩, _⟩ := h1.some h0
    rw [hv] at h2
    cases h2
theorem C_form {v : Value} {size : Nat} {l : List (List Value)} {c : Code} (hg : GvR rs v size l) (h : ∀ A cap, v = .slice A l.length cap → (A = none → l = []) → C P Q N B w0 E rs c) : C P Q N B w0 E rs c := by
  intro a w hs
  obtain ⟨A, cap, hv, hn⟩ := GvR.form hs.ws hg
  exact h A cap hv hn a w hs
theorem L_form {v : Value} {size : Nat} {l : List (List Value)} {t : List Oper} (hg : GvR rs v size l) (h : ∀ A cap, v = .slice A l.length cap → (A = none → l = []) → L P ops Q N B w0 E rs t) : L P ops Q N B w0 E rs t := by
  intro a w hs
  obtain ⟨A, cap, hv, hn⟩ := GvR.form hs.ws hg
  exact h A cap hv hn a w hs
/-! ### What is known, in another order, or less of it -/
end
end Go.Proofs.YtacndicgpkeobaaGreatDoor
namespace Go.Proofs.YtacndicgpkeobaaGreatDoor
open Go.RowKit

section
variable {P : Program} {Q : Exit → Act → World → Prop} {N : Fr} {B : Nat} {w0 : World} {E : Env} {rs : List Res} {x y : Code}
def At {ι : Type} (N : Fr) (B : Nat) (w0 : World) (F : ι → Env × List Res) (good : ι → Prop) (a : Act) (w : World) : Prop := ∃ i, good i ∧ Sat N B w0 (F i).1 (F i).2 a w
theorem C_cut {ι : Type} (F : ι → Env × List Res) (good : ι → Prop) (h1 : C P (Exit.then (At N B w0 F good) Q) N B w0 E rs x) (h2 : ∀ i, good i → C P Q N B w0 (F i).1 (F i).2 y) : C P Q N B w0 E rs (.seq x y) :=
  fun a w hs => wpIn_seq (wpIn_mono (h1 a w hs) fun e a' w' he => by
    cases e with
    | normal =>
      obtain ⟨i, hg, hs'⟩ := he
      exact h2 i hg a' w' hs'
    | _ => exact he)
variable {dst : Option Tmp} {ty : TypeId} {pos : String} {aft : Array Edge} {gd : Option (Nat × Bool)} {u v : Operand} {t t' : TypeId} {b c : Bool}
theorem q_ext0 {x : Operand} {a : Value} {l : List Value} (hx : ev E x = some (.tuple (a :: l).toArray)) : Qu P N B w0 E rs ⟨dst, .extract x 0, ty, pos, aft, gd⟩ a := q_extract hx (by simp)
theorem q_ext1 {x : Operand} {a b : Value} {l : List Value} (hx : ev E x = some (.tuple (a :: b :: l).toArray)) : Qu P N B w0 E rs ⟨dst, .extract x 1, ty, pos, aft, gd⟩ b := q_extract hx (by simp)
theorem q_ext2 {x : Operand} {a b c : Value} {l : List Value} (hx : ev E x = some (.tuple (a :: b :: c :: l).toArray)) : Qu P N B w0 E rs ⟨dst, .extract x 2, ty, pos, aft, gd⟩ c := q_extract hx (by simp)
theorem q_lenS {x : Operand} {s : ByteArray} {t ts : TypeId} (ht : P.underlying t = some .string) (hx : ev E x = some (.string s)) : Qu P N B w0 E rs ⟨dst, .call { callee := .builtin .len, args := #[x], argTypes := #[t] }, ts, pos, aft, gd⟩ (.int .i64 s.size) := by
  intro a w hs
  simp [execOp, resolve, invoke, builtin, hs.eval hx, Builtin.len_, run_underlying ht, goInt]
/-! ### A field of a struct's value -/
theorem beginRh {fn : FuncId} {tmps : Array Value} {p D l n : Nat} {assign body : Code} {R : Ending → World → Prop} (h : ∀ LP : Res, LP = lp l (brec fn tmps p assign body D) → C P (roundPost P l R) ⟨n, [], some l⟩ B w0 E (LP :: rs) body) :
    ∀ a w, Sat ⟨n, [], some l⟩ B w0 E (lp l (lrec fn tmps p assign body D) :: rs) a w → asQ P l R body .normal a w := beginR (h _ rfl)
end
end Go.Proofs.YtacndicgpkeobaaGreatDoor
namespace Go.Proofs.YtacndicgpkeobaaGreatDoor
open Go.RowKit

section
variable {P : Program} {ops : Array Oper} {md : Region.Mode} {N : Fr} {B : Nat} {w0 : World}
theorem swap_alloc {E : Env} {rs : List Res} {a : Act} {w : World} {d1 d2 g1 g2 t1 t2 : Nat} {zs1 zs2 : List Value} (hne : d1 ≠ d2) (hs : Sat N B w0 ((d1, .pointer (some ⟨g1, 0, none⟩)) :: (d2, .pointer (some ⟨g2, 0, none⟩)) :: E) (box g1 t1 zs1 :: box g2 t2 zs2 :: rs) a w) :
    Sat N B w0 ((d2, .pointer (some ⟨g2, 0, none⟩)) :: (d1, .pointer (some ⟨g1, 0, none⟩)) :: E) (box g2 t2 zs2 :: box g1 t1 zs1 :: rs) a w :=
  ⟨hs.ws.perm (List.Perm.swap _ _ _), hs.size, hs.dfr, fun i v hv => hs.env i v (by
    rw [lk_cons, lk_cons] at hv ⊢
    by_cases h1 : i = d1
    · subst h1
      rw [if_neg hne, if_pos rfl] at hv
      rw [if_pos rfl]
      exact hv
    · rw [if_neg h1] at hv ⊢
      exact hv)⟩
end
end Go.Proofs.YtacndicgpkeobaaGreatDoor
