/-
  What listed package variables give a walk: a table of numbers, an error. Conditions: those in front of each theorem; no program in sight.
-/
import Derived.Test.YtibohfipgjljhaaDoorShTx
import Derived.Lib.LaidTab
import Derived.Lib.SmallJoins
import Derived.Test.YtibohfipgjljhaaDoorArgP
import Derived.LaidLaws
namespace Go.Proofs.YtibohfipgjljhaaDoor
open Go.RowKit
def Stb (K : World → Prop) : Prop := ∀ w w' : World, K w → Below w.heap.size w w' → K w'
def CtQ (K : World → Prop) (P : Program) (f : FuncId) (args : List Value) (ps : List (Value × Nat × List (List Value))) (post : Value → List Res → Prop) : Prop :=
  ∀ w, K w → (∀ p ∈ ps, Rdd w p.1 p.2.1 p.2.2) → Calls P f args.toArray w fun e w' => ∃ v rs', e = .returned v ∧ Below w.heap.size w w' ∧ post v rs' ∧ (∀ r ∈ rs', r.ok w.heap.size w') ∧ (∀ r ∈ rs', r.own = true) ∧ Disj rs'
section
variable {P : Program} {K : World → Prop}
theorem CtQ.of {N : Nat} {f : FuncId} {fn : Func} {c : Code} {args : List Value} {ps : List (Value × Nat × List (List Value))} {post : Value → List Res → Prop} (hf : P.funcs[f]? = some fn) (hb : fn.body = some c) (hN : fn.ntmps = N) (hle : Nat.ble args.length N = true)
    (h : ∀ w, K w → C P (bodyPost P fn (PostOf post w)) ⟨N, [], none⟩ w.heap.size w (argE 0 args) (rdOf ps) c) : CtQ K P f args ps post := by
  intro w hk hw
  refine calls_of_wp hf hb ((wpIn_wide (n := 0)).1 (h w hk _ _ ⟨⟨Below.refl _ _, Nat.le_refl _, fun r hr => ?_, disj_rd ps⟩, ?_, rfl, fun i v hv => ?_⟩))
  · obtain ⟨p, hp, rfl⟩ := List.mem_map.1 hr
    exact rd_ok.2 (hw p hp)
  · have := Nat.ble_eq.mp hle
    simp [hN]
    omega
  · obtain ⟨_, h1⟩ := lk_argE args 0 i v hv
    simp only [Nat.sub_zero] at h1
    have hl := (List.getElem?_eq_some_iff.1 h1).1
    have h2 := List.getElem?_eq_getElem hl
    rw [h1] at h2
    injection h2 with h2
    simp [Array.getElem?_append, hl, h2]
theorem Ct.q {f : FuncId} {args : List Value} {ps : List (Value × Nat × List (List Value))} {post : Value → List Res → Prop} (h : Ct P f args ps post) : CtQ K P f args ps post := fun w _ hw => h w hw
/-- a contract out of a law of the library -/
theorem ctq_law {f : FuncId} {args : List Value} {post : Value → List Res → Prop} (h : ∀ w, K w → Calls P f args.toArray w fun e w' => (∃ v, e = .returned v ∧ post v []) ∧ Below w.heap.size w w') : CtQ K P f args [] post :=
  fun w hk _ => (h w hk).mono fun _ _ ⟨⟨v, he, hp⟩, hb⟩ => ⟨v, [], he, hb, hp, (fun r hr => by cases hr), (fun r hr => by cases hr), List.Pairwise.nil⟩
variable {N : Fr} {w0 : World} {E : Env} {rs : List Res} {dst : Option Nat} {ty : TypeId} {pos : String} {aft : Array Edge} {gd : Option (Nat × Bool)}
theorem lo_callQ (T : Tab P) (st : Stb K) {f : FuncId} {xs : Array Operand} {ts : Array TypeId} {args : List Value} {ps : List (Value × Nat × List (List Value))} {post : Value → List Res → Prop} (hk : K w0) (hen : lkT T.en f = some ()) (hx : evs E xs.toList = some args) (hc : CtQ K P f args ps post) (hps : ∀ p ∈ ps, Gives rs p)
    (hsk : ∀ v rs', post v rs' → ∀ r ∈ rs', Sinks r) : Lo P N w0.heap.size w0 E rs ⟨dst, .call { callee := .value (.func f), args := xs, argTypes := ts }, ty, pos, aft, gd⟩ post := by
  intro a w hs
  have hent : Enters P f := T.en_ok _ (lkT_mem hen)
  have hmap := hs.evals hx
  have hmap' : xs.map a.eval = args.toArray := Array.ext' (by rw [Array.toList_map, hmap])
  refine .inr ⟨f, args.toArray, ?_, ?_⟩
  · simp [execOp, resolve, invoke, Deferred.ofValue, Act.eval, hmap', hent args.toArray w]
  · refine (hc w (st _ _ hk hs.ws.bel) (fun p hp => ?_)).mono ?_
    · exact hs.reads (hps p hp)
    · rintro e w' ⟨v, rs', he, hb, hpost, hok, hown, hd⟩
      exact ⟨v, rs', he, hb, hpost, fun r hr => ⟨hsk v rs' hpost r hr _ _ _ hs.ws.bas (hok r hr), fun k hk => r.ge (hown r hr) (hok r hr) k hk⟩, hd⟩
/-- the same for a function that is a value -/
theorem lo_callCQ (st : Stb K) {f : FuncId} {x : Operand} {xs : Array Operand} {ts : Array TypeId} {args caps : List Value} {ps : List (Value × Nat × List (List Value))} {post : Value → List Res → Prop} (hk : K w0) (hent : Enters P f) (hf : ev E x = some (.func (.func f) #[] caps.toArray)) (hx : evs E xs.toList = some args) (hc : CtQ K P f (args ++ caps) ps post) (hps : ∀ p ∈ ps, Gives rs p)
    (hsk : ∀ v rs', post v rs' → ∀ r ∈ rs', Sinks r) : Lo P N w0.heap.size w0 E rs ⟨dst, .call { callee := .value x, args := xs, argTypes := ts }, ty, pos, aft, gd⟩ post := by
  intro a w hs
  have hmap := hs.evals hx
  have hmap' : xs.map a.eval = args.toArray := Array.ext' (by rw [Array.toList_map, hmap])
  refine .inr ⟨f, (args ++ caps).toArray, ?_, ?_⟩
  · have h9 := hent (args ++ caps).toArray w
    simp only [execOp, resolve, hs.eval hf, Deferred.ofValue, hmap', Sem.run_bind, Sem.run_pure, Result.andThen_ok]
    simp [invoke, h9]
  · refine (hc w (st _ _ hk hs.ws.bel) (fun p hp => ?_)).mono ?_
    · exact hs.reads (hps p hp)
    · rintro e w' ⟨v, rs', he, hb, hpost, hok, hown, hd⟩
      exact ⟨v, rs', he, hb, hpost, fun r hr => ⟨hsk v rs' hpost r hr _ _ _ hs.ws.bas (hok r hr), fun k hk => r.ge (hown r hr) (hok r hr) k hk⟩, hd⟩
end
/-! ### What the library's numerals ask: a table, two errors -/
def isErr (e : Value) : Prop := e = .nilIface ∨ ∃ te pe, e = .iface te pe
def errAt (g : Nat) (w : World) : Prop := ∃ e, w.cell? ⟨g, 0, none⟩ = some e ∧ isErr e
theorem errAt_st (g : Nat) : Stb (errAt g) := fun w w' ⟨e, h1, h2⟩ hb => ⟨e, by rw [← h1]; exact World.cell?_of_block (hb.block g (cell_block h1)), h2⟩
theorem tab_st {P : Program} {n : String} {g : Nat} (hg : P.globalNamed n = some g) (k : IntKind) (zs : List Int) : Stb fun w => Lib.TabIs P w n k zs := fun _ _ h hb => Go.Joins.tab_stays hg h hb (Nat.le_refl _)
theorem stb_and {K L : World → Prop} (h : Stb K) (h2 : Stb L) : Stb fun w => K w ∧ L w := fun _ _ ⟨a, b⟩ hb => ⟨h _ _ a hb, h2 _ _ b hb⟩
/-- what a number's reading gives beside the number: an error, or none -/
def errV (t : TypeId) (N : Nat) (b : Bool) : Value := if b = true then .iface t (.pointer (some ⟨N, 0, none⟩)) else .nilIface
section
variable {P : Program} {N : Fr} {B : Nat} {w0 : World} {E : Env} {rs : List Res} {dst : Option Nat} {ty : TypeId} {pos : String} {aft : Array Edge} {gd : Option (Nat × Bool)}
theorem q_errV {t t' u : TypeId} {x : Operand} {b : Bool} {k : Nat} {ms : Array (String × TypeId)} (hu : P.underlying t = some (.interface ms)) (hx : ev E x = some (errV u k b)) : Qu P N B w0 E rs ⟨dst, .binOp .neq t x (.const .nilIface) t', ty, pos, aft, gd⟩ (.bool b) := by
  refine q_cmp hx rfl fun w => ?_
  have h2 : ∀ v, binOp .neq t v .nilIface = (do pure (.bool (!(← Op.equalIn 10000 t v .nilIface)))) := fun v => by cases v <;> rfl
  cases b with
  | false =>
    have g : eqGuard .neq t x (.const .nilIface) .nilIface .nilIface = pure () := eqGuard_nil_constR _ _ _ _
    have he : ∀ d, (Op.equalIn (d + 1) t .nilIface .nilIface).run P w = .ok true w := fun d => by simp only [Op.equalIn, Sem.run_bind, run_underlying hu, Result.andThen_ok]; rfl
    show Sem.run P (do eqGuard .neq t x (.const .nilIface) .nilIface .nilIface; binOp .neq t .nilIface .nilIface) w = _
    rw [g, h2]
    simp only [Sem.run_bind, Sem.run_pure, Result.andThen_ok, he 9999]
    rfl
  | true =>
    have g : ∀ p, eqGuard .neq t x (.const .nilIface) (.iface u p) .nilIface = pure () := fun p => rfl
    have he : ∀ d (p : Value), (Op.equalIn (d + 1) t (.iface u p) .nilIface).run P w = .ok false w := fun d p => by simp only [Op.equalIn, Sem.run_bind, run_underlying hu, Result.andThen_ok]; rfl
    show Sem.run P (do eqGuard .neq t x (.const .nilIface) (.iface u (.pointer (some ⟨k, 0, none⟩))) .nilIface; binOp .neq t (.iface u (.pointer (some ⟨k, 0, none⟩))) .nilIface) w = _
    rw [g, h2]
    simp only [Sem.run_bind, Sem.run_pure, Result.andThen_ok, he 9999]
    rfl
end
end Go.Proofs.YtibohfipgjljhaaDoor
namespace Go.Proofs.YtibohfipgjljhaaDoor
open Go.ChangeShapes Go.WideShapes Go.RowKit
section
variable {P : Program} {W : World} {n : String} {g t e : TypeId} {cs : Array Value} {fuel : Nat} {p : List MemPlace}
theorem err_of {ms : Array (String × TypeId)} {name : String} {d : DataW Unit} (hg : P.globalNamed n = some g) (hv : W.var? P n = some cs) (hi : P.underlying t = some (.interface ms)) (h : DataW.trod (fun _ => ()) P W 0 (fun _ => true) false fuel t cs.toList = some (.iface name d, p)) : errAt g W := by
  obtain ⟨_, u, v, hcs, _⟩ := iface_of_trod hi h
  have := World.var?_cell hg hv 0
  rw [show cs = #[Value.iface u v] from Array.ext' hcs] at this
  exact ⟨.iface u v, by simpa using this, .inr ⟨u, v, rfl⟩⟩
theorem tab_of {m : Nat} {k : IntKind} {zs : List Int} (hv : W.var? P n = some cs) (ht : P.underlying t = some (.array m e)) (he : P.underlying e = some (.int k)) (hce : P.cellsOf e = 1) (hct : P.cellsOf t = m)
    (h : DataW.trod (fun _ => ()) P W 0 (fun _ => true) false fuel t cs.toList = some (Lib.tabData k zs, p)) : Lib.TabIs P W n k zs := by
  unfold Lib.TabIs
  rw [hv, ← Lib.cells_of_tab ht he hce hct h]
theorem str_val {b0 : Nat} {r : Reach} {v u : Value} (ht : P.underlying t = some .string) (hv : Value.okWide P W r b0 t v) (h : v.cells.toList = [u]) : v = u := by
  obtain ⟨s, rfl⟩ := okWide_string ht hv
  simpa [Value.cells] using h
end
end Go.Proofs.YtibohfipgjljhaaDoor
