/-
  The calculus: a strings.Builder that a call has made itself: what is written to it, what it gives; readers of what stood ahead of the call. Conditions: those in front of each theorem.
-/
import Derived.Test.YtacndicgpkeobaaGreatDoorRow
import Derived.Deep.Slices
import Derived.OpenShut
import Derived.Test.YtacndicgpkeobaaGreatDoorTx1
import Derived.Lib.LaidTab
import Derived.Lib.SmallJoins
import Derived.LaidLaws
import Derived.Lib.ItoaNum
import Derived.LaidMore
import Derived.MakeChecks
import Derived.Lib.Builder
namespace Go.Proofs.YtacndicgpkeobaaGreatDoor
open Go.RowKit Go.ChangeShapes Go.WideShapes Go.Deep

def i64 (n : Int) : Prop := -9223372036854775808 ≤ n ∧ n ≤ 9223372036854775807
def Opn (P : Program) (W : World) (t : TypeId) (Φ : List Value → Prop) : Prop :=
  ∀ (H : Type) (enc : TypeId × Value → H) (fuel : Nat) (cs : List Value) (x : DataW H × List MemPlace), DataW.trod enc P W 0 (fun _ => true) true fuel t cs = some x → Φ cs
section
variable {P : Program} {W : World} {t e : TypeId} {Φ Ψ : List Value → Prop}
theorem Opn.mono (h : Opn P W t Φ) (hm : ∀ cs, Φ cs → Ψ cs) : Opn P W t Ψ := fun H enc fuel cs x hx => hm cs (h H enc fuel cs x hx)
theorem Opn.and (h : Opn P W t Φ) (h2 : Opn P W t Ψ) : Opn P W t (fun cs => Φ cs ∧ Ψ cs) := fun H enc fuel cs x hx => ⟨h H enc fuel cs x hx, h2 H enc fuel cs x hx⟩
theorem opn_int (ht : P.underlying t = some (.int .i64)) : Opn P W t (fun cs => ∃ n, i64 n ∧ cs = [.int .i64 n]) := fun H enc fuel cs x hx => by
  obtain ⟨n, rfl, _, hw⟩ := DataW.trod_int ht hx
  exact ⟨n, bounds_i64 hw, rfl⟩
theorem opn_str (ht : P.underlying t = some .string) : Opn P W t (fun cs => ∃ s, s.size ≤ maxLen ∧ cs = [.string s]) := fun H enc fuel cs x hx => by
  obtain ⟨s, rfl, _, hw⟩ := DataW.trod_string ht hx
  exact ⟨s, hw, rfl⟩
def fsC (P : Program) (t : TypeId) : Option (List (Nat × Nat × Nat)) := match P.underlying t with
  | some (.struct fs) => some (fs.toList.map fun f => (f.offset, P.cellsOf f.type, f.type))
  | _ => none
theorem fsC_of {l : List (Nat × Nat × Nat)} (h : fsC P t = some l) : ∃ fs : Array Field, P.underlying t = some (.struct fs) ∧ fs.toList.map (fun f => (f.offset, P.cellsOf f.type, f.type)) = l := by
  unfold fsC at h
  split at h
  · rename_i fs hfs
    injection h with h
    exact ⟨fs, hfs, h⟩
  · cases h
theorem opn_len {l : List (Nat × Nat × Nat)} (h : fsC P t = some l) : Opn P W t (fun cs => cs.length = P.cellsOf t) := fun H enc fuel cs x hx => by
  obtain ⟨fs, hfs, _⟩ := fsC_of h
  obtain ⟨_, _, _, _, hl, _⟩ := DataW.trod_struct hfs hx
  exact hl
theorem opn_field {l : List (Nat × Nat × Nat)} (h : fsC P t = some l) {o k ty : Nat} (hm : (o, k, ty) ∈ l) (hΦ : Opn P W ty Φ) : Opn P W t (fun cs => Φ ((cs.drop o).take k)) := fun H enc fuel cs x hx => by
  obtain ⟨fs, hfs, rfl⟩ := fsC_of h
  obtain ⟨xs, n, _, _, _, hlen, hf⟩ := DataW.trod_struct hfs hx
  obtain ⟨f, hfm, he⟩ := List.mem_map.1 hm
  simp only [Prod.mk.injEq] at he
  obtain ⟨rfl, rfl, rfl⟩ := he
  obtain ⟨i, hi, hfi⟩ := List.getElem_of_mem hfm
  have hfi' : fs[i]? = some f := by rw [← hfi]; simp only [Array.getElem_toList]; exact Array.getElem?_eq_getElem _
  have h1 := hf i f hfi'
  have hil : i < xs.length := by rw [hlen]; simpa using hi
  rw [List.getElem?_eq_getElem hil] at h1
  exact hΦ H enc n _ _ h1
def IT (P : Program) (t n : Nat) : Prop := ∀ W, Opn P W t (fun cs => ∃ xs : List Int, xs.length = n ∧ (∀ x ∈ xs, i64 x) ∧ cs = xs.map iV)
theorem it_int (ht : P.underlying t = some (.int .i64)) : IT P t 1 := fun W => (opn_int ht).mono fun cs ⟨n, h1, h2⟩ => ⟨[n], rfl, fun x hx => by simp only [List.mem_singleton] at hx; subst hx; exact h1, h2⟩
inductive ITF (P : Program) : Nat → List (Nat × Nat × Nat) → Nat → Prop
  | nil (n : Nat) : ITF P n [] n
  | cons {o k ty n : Nat} {l : List (Nat × Nat × Nat)} : IT P ty k → ITF P (o + k) l n → ITF P o ((o, k, ty) :: l) n
theorem ITF.le {o n : Nat} {l : List (Nat × Nat × Nat)} (h : ITF P o l n) : o ≤ n := by
  induction h with
  | nil => exact Nat.le_refl _
  | cons _ _ ih => omega
theorem itf_cells {o n : Nat} {l : List (Nat × Nat × Nat)} (h : ITF P o l n) {H : Type} {enc : TypeId × Value → H} {fuel : Nat} {cs : List Value} (hn : cs.length = n)
    (hf : ∀ p ∈ l, ∃ y, DataW.trod enc P W 0 (fun _ => true) true fuel p.2.2 ((cs.drop p.1).take p.2.1) = some y) : ∃ xs : List Int, xs.length = n - o ∧ (∀ x ∈ xs, i64 x) ∧ cs.drop o = xs.map iV := by
  induction h with
  | nil m => exact ⟨[], by simp, fun x hx => (by cases hx), by rw [List.drop_eq_nil_of_le (by omega)]; rfl⟩
  | @cons o k ty m l hi ht ih =>
    obtain ⟨ys, hy1, hy2, hy3⟩ := ih hn (fun p hp => hf p (List.mem_cons_of_mem _ hp))
    obtain ⟨y, hy⟩ := hf _ List.mem_cons_self
    obtain ⟨xs, hx1, hx2, hx3⟩ := hi W H enc fuel _ _ hy
    have hle := ht.le
    refine ⟨xs ++ ys, by rw [List.length_append, hx1, hy1]; omega, fun x hx => ?_, ?_⟩
    · rcases List.mem_append.1 hx with h | h
      · exact hx2 x h
      · exact hy2 x h
    · rw [List.map_append, ← hx3, ← hy3]
      simp only
      rw [← List.drop_drop, List.take_append_drop]
theorem it_struct {n : Nat} {l : List (Nat × Nat × Nat)} (h : fsC P t = some l) (hC : P.cellsOf t = n) (hl : ITF P 0 l n) : IT P t n := fun W H enc fuel cs x hx => by
  obtain ⟨fs, hfs, rfl⟩ := fsC_of h
  obtain ⟨xs, m, _, _, hlen, hxl, hf⟩ := DataW.trod_struct hfs hx
  obtain ⟨ys, h1, h2, h3⟩ := itf_cells (W := W) hl (cs := cs) (H := H) (enc := enc) (fuel := m) (by rw [hlen, hC]) (fun p hp => by
    obtain ⟨f, hfm, rfl⟩ := List.mem_map.1 hp
    obtain ⟨i, hi, hfi⟩ := List.getElem_of_mem hfm
    have hfi' : fs[i]? = some f := by rw [← hfi]; simp only [Array.getElem_toList]; exact Array.getElem?_eq_getElem _
    have h1 := hf i f hfi'
    have hil : i < xs.length := by rw [hxl]; simpa using hi
    rw [List.getElem?_eq_getElem hil] at h1
    exact ⟨_, h1⟩)
  exact ⟨ys, by simpa using h1, h2, by simpa using h3⟩
theorem opn_slice {k : Nat} (ht : P.underlying t = some (.slice e)) (hk : P.cellsOf e = k) (hk1 : 1 ≤ k) (h : Opn P W e Φ) : Opn P W t (fun cs => ∃ v l, cs = [v] ∧ Rdd W v k l ∧ ∀ c ∈ l, Φ c) := fun H enc fuel cs x hx => by
  rcases open_slice ht hx with ⟨rfl, _⟩ | ⟨a, len, cap, m, n, D, Pl, rfl, _, hl, hc, hm, _, hi⟩
  · exact ⟨_, [], rfl, ⟨⟨none, 0, rfl, by simp, by simp⟩, fun x hx => (by cases hx), fun h => by simp at h⟩, fun c hc => by cases hc⟩
  · have hm' : m = cap := by simpa using hm
    subst hm'
    rw [hk] at hi
    obtain ⟨F, hF⟩ := choose_lt (p := fun i (cs' : List Value) => W.cells? 0 (a.add (i * k)) k = some cs' ∧ DataW.trod enc P W 0 (fun _ => true) true n e cs' = some (D i, Pl i)) (fun i him => hi i him)
    have hlen : ((List.range len).map F).length = len := by simp
    have hge : ∀ i, i < len → ((List.range len).map F)[i]? = some (F i) := fun i hil => by rw [List.getElem?_map, List.getElem?_range hil]; rfl
    have heach : ∀ x ∈ (List.range len).map F, x.length = k := fun x hx => by
      obtain ⟨i, hi, rfl⟩ := List.mem_map.1 hx
      have hi := List.mem_range.1 hi
      exact (World.cells?_some (hF i (by omega)).1).2.1
    refine ⟨_, (List.range len).map F, rfl, ⟨⟨some a, m, by rw [hlen], by rw [hlen]; exact hl, hc⟩, heach, fun h0 => ?_⟩, fun c hcm => ?_⟩
    · rw [hlen] at h0
      refine ⟨a, rfl, ⟨len, m, rfl⟩, ?_, fun j u hj => ?_⟩
      · obtain ⟨_, h1, h2⟩ := World.cells?_some (hF 0 (by omega)).1
        have h3 := h2 0 (by omega)
        rw [List.getElem?_eq_getElem (by omega)] at h3
        have := World.block_lt_of_cell? _ _ h3
        rwa [add_block, add_block] at this
      · have hjl := (List.getElem?_eq_some_iff.1 hj).1
        have hfl : ((List.range len).map F).flatten.length = len * k := by
          rw [List.length_flatten, List.map_congr_left heach, List.map_const', List.sum_replicate_nat, hlen]
        rw [hfl] at hjl
        have hk0 : 0 < k := hk1
        have hq : j / k < len := (Nat.div_lt_iff_lt_mul hk0).2 hjl
        have hr := Nat.mod_lt j hk0
        obtain ⟨_, h1, h2⟩ := World.cells?_some (hF (j / k) (by omega)).1
        have h3 : (F (j / k))[j % k]? = some ((F (j / k))[j % k]'(by omega)) := List.getElem?_eq_getElem _
        have h4 := flat_get _ k heach (j / k) (j % k) _ (hge _ hq) _ h3
        have h5 : j / k * k + j % k = j := by have := Nat.div_add_mod j k; rw [Nat.mul_comm] at this; exact this
        rw [h5, hj] at h4
        injection h4 with h4
        rw [h4, ← h3, ← h2 _ hr, YtacndicgpkeobaaGreatDoor.add_add, h5]
    · obtain ⟨i, hi', rfl⟩ := List.mem_map.1 hcm
      have hi' := List.mem_range.1 hi'
      exact h H enc n _ _ (hF i (by omega)).2
theorem all_map {α β : Type} (f : α → β) {Q : α → Prop} : ∀ {l : List β}, (∀ c ∈ l, ∃ a, Q a ∧ c = f a) → ∃ xs_ : List α, l = xs_.map f ∧ ∀ a ∈ xs_, Q a
  | [], _ => ⟨[], rfl, fun a ha => (by cases ha)⟩
  | c :: t, h => by
    obtain ⟨xs_, h1, h2⟩ := all_map f (fun c hc => h c (List.mem_cons_of_mem _ hc))
    obtain ⟨a, h3, h4⟩ := h c List.mem_cons_self
    refine ⟨a :: xs_, by rw [List.map_cons, ← h1, ← h4], fun b hb => ?_⟩
    rcases List.mem_cons.1 hb with rfl | hb
    · exact h3
    · exact h2 b hb
theorem opn_list {α : Type} (f : α → List Value) {Q : α → Prop} {k : Nat} (ht : P.underlying t = some (.slice e)) (hk : P.cellsOf e = k) (hk1 : 1 ≤ k) (h : Opn P W e (fun cs => ∃ a, Q a ∧ cs = f a)) :
    Opn P W t (fun cs => ∃ (v : Value) (xs_ : List α), cs = [v] ∧ Rdd W v k (xs_.map f) ∧ ∀ a ∈ xs_, Q a) := (opn_slice ht hk hk1 h).mono fun cs ⟨v, l, h1, h2, h3⟩ => by
  obtain ⟨xs_, rfl, h5⟩ := all_map f h3
  exact ⟨v, xs_, h1, h2, h5⟩
theorem opn_arg {H : Type} {enc : TypeId × Value → H} {v : Value} {d : DataW H} {p : List MemPlace} (h : Opn P W t Φ) (ht : DataW.Trod enc P W 0 (fun _ => true) true t v d p) : Φ v.cells.toList := by
  obtain ⟨fuel, hf⟩ := ht
  exact h H enc fuel _ _ hf
theorem agg_of {fs : List (Nat × Nat × Nat)} {r : Reach} {b0 : Nat} {v : Value} (h : fsC P t = some fs) (hv : Value.okWide P W r b0 t v) : ∃ cs : List Value, v = .agg cs.toArray ∧ v.cells.toList = cs := by
  obtain ⟨fs', hfs, _⟩ := fsC_of h
  obtain ⟨cs, rfl, _⟩ := okWide_struct hfs hv
  exact ⟨cs.toList, by simp, rfl⟩
end
end Go.Proofs.YtacndicgpkeobaaGreatDoor
namespace Go.Proofs.YtacndicgpkeobaaGreatDoor
open Go.RowKit
def Stb (K : World → Prop) : Prop := ∀ w w' : World, K w → Below w.heap.size w w' → K w'
def CtQ (K : World → Prop) (P : Program) (f : FuncId) (args : List Value) (ps : List (Value × Nat × List (List Value))) (post : Value → List Res → Prop) : Prop :=
  ∀ w, K w → (∀ p ∈ ps, Rdd w p.1 p.2.1 p.2.2) → Calls P f args.toArray w fun e w' => ∃ v rs', e = .returned v ∧ Below w.heap.size w w' ∧ post v rs' ∧ (∀ r ∈ rs', r.ok w.heap.size w') ∧ (∀ r ∈ rs', r.own = true) ∧ Disj rs'
section
variable {P : Program} {K : World → Prop}
theorem CtQ.of {N : Nat} {f : FuncId} {fn : Func} {c : Code} {args : List Value} {ps : List (Value × Nat × List (List Value))} {post : Value → List Res → Prop} (hf : P.funcs[f]? = some fn) (hb : fn.body = some c) (hN : fn.ntmps = N) (hle : Nat.ble args.length N = true)
    (h : ∀ w, K w → C P (bodyPost P fn (PostOf post w)) ⟨N, [], none⟩ w.heap.size w (argE 0 args) (rdOf ps) c) : CtQ K P f args ps post := by
  intro w hk hw
  refine calls_of_wp hf hb ((wpIn_wide (n := 0)).1 (h w hk _ _ ⟨⟨Below.refl _ _, Nat.le_refl _, fun r hr => ?_, disj_rd ps⟩, ?_, rfl, fun i v hv => ?_⟩))
  · obtain ⟨p, hp, rfl⟩ := List.mem_map.1 hr
    exact rd_ok.2 (hw p hp)
  · have := Nat.ble_eq.mp hle
    simp [hN]
    omega
  · obtain ⟨_, h1⟩ := lk_argE args 0 i v hv
    simp only [Nat.sub_zero] at h1
    have hl := (List.getElem?_eq_some_iff.1 h1).1
    have h2 := List.getElem?_eq_getElem hl
    rw [h1] at h2
    injection h2 with h2
    simp [Array.getElem?_append, hl, h2]
theorem Ct.q {f : FuncId} {args : List Value} {ps : List (Value × Nat × List (List Value))} {post : Value → List Res → Prop} (h : Ct P f args ps post) : CtQ K P f args ps post := fun w _ hw => h w hw
theorem ctq_law {f : FuncId} {args : List Value} {post : Value → List Res → Prop} (h : ∀ w, K w → Calls P f args.toArray w fun e w' => (∃ v, e = .returned v ∧ post v []) ∧ Below w.heap.size w w') : CtQ K P f args [] post :=
  fun w hk _ => (h w hk).mono fun _ _ ⟨⟨v, he, hp⟩, hb⟩ => ⟨v, [], he, hb, hp, (fun r hr => by cases hr), (fun r hr => by cases hr), List.Pairwise.nil⟩
variable {N : Fr} {w0 : World} {E : Env} {rs : List Res} {dst : Option Nat} {ty : TypeId} {pos : String} {aft : Array Edge} {gd : Option (Nat × Bool)}
theorem lo_callQ (T : Tab P) (st : Stb K) {f : FuncId} {xs : Array Operand} {ts : Array TypeId} {args : List Value} {ps : List (Value × Nat × List (List Value))} {post : Value → List Res → Prop} (hk : K w0) (hen : lkT T.en f = some ()) (hx : evs E xs.toList = some args) (hc : CtQ K P f args ps post) (hps : ∀ p ∈ ps, Gives rs p)
    (hsk : ∀ v rs', post v rs' → ∀ r ∈ rs', Sinks r) : Lo P N w0.heap.size w0 E rs ⟨dst, .call { callee := .value (.func f), args := xs, argTypes := ts }, ty, pos, aft, gd⟩ post := by
  intro a w hs
  have hent : Enters P f := T.en_ok _ (lkT_mem hen)
  have hmap := hs.evals hx
  have hmap' : xs.map a.eval = args.toArray := Array.ext' (by rw [Array.toList_map, hmap])
  refine .inr ⟨f, args.toArray, ?_, ?_⟩
  · simp [execOp, resolve, invoke, Deferred.ofValue, Act.eval, hmap', hent args.toArray w]
  · refine (hc w (st _ _ hk hs.ws.bel) (fun p hp => ?_)).mono ?_
    · exact hs.reads (hps p hp)
    · rintro e w' ⟨v, rs', he, hb, hpost, hok, hown, hd⟩
      exact ⟨v, rs', he, hb, hpost, fun r hr => ⟨hsk v rs' hpost r hr _ _ _ hs.ws.bas (hok r hr), fun k hk => r.ge (hown r hr) (hok r hr) k hk⟩, hd⟩
end
/-! ### What the library's numerals ask: a table, two errors -/
def isErr (e : Value) : Prop := e = .nilIface ∨ ∃ te pe, e = .iface te pe
def errAt (g : Nat) (w : World) : Prop := ∃ e, w.cell? ⟨g, 0, none⟩ = some e ∧ isErr e
theorem errAt_st (g : Nat) : Stb (errAt g) := fun w w' ⟨e, h1, h2⟩ hb => ⟨e, by rw [← h1]; exact World.cell?_of_block (hb.block g (cell_block h1)), h2⟩
theorem tab_st {P : Program} {n : String} {g : Nat} (hg : P.globalNamed n = some g) (k : IntKind) (zs : List Int) : Stb fun w => Lib.TabIs P w n k zs := fun _ _ h hb => Go.Joins.tab_stays hg h hb (Nat.le_refl _)
theorem stb_and {K L : World → Prop} (h : Stb K) (h2 : Stb L) : Stb fun w => K w ∧ L w := fun _ _ ⟨a, b⟩ hb => ⟨h _ _ a hb, h2 _ _ b hb⟩
def errV (t : TypeId) (N : Nat) (b : Bool) : Value := if b = true then .iface t (.pointer (some ⟨N, 0, none⟩)) else .nilIface
section
variable {P : Program} {N : Fr} {B : Nat} {w0 : World} {E : Env} {rs : List Res} {dst : Option Nat} {ty : TypeId} {pos : String} {aft : Array Edge} {gd : Option (Nat × Bool)}
theorem q_errV {t t' u : TypeId} {x : Operand} {b : Bool} {k : Nat} {ms : Array (String × TypeId)} (hu : P.underlying t = some (.interface ms)) (hx : ev E x = some (errV u k b)) : Qu P N B w0 E rs ⟨dst, .binOp .neq t x (.const .nilIface) t', ty, pos, aft, gd⟩ (.bool b) := by
  refine q_cmp hx rfl fun w => ?_
  have h2 : ∀ v, binOp .neq t v .nilIface = (do pure (.bool (!(← Op.equalIn 10000 t v .nilIface)))) := fun v => by cases v <;> rfl
  cases b with
  | false =>
    have g : eqGuard .neq t x (.const .nilIface) .nilIface .nilIface = pure () := eqGuard_nil_constR _ _ _ _
    have he : ∀ d, (Op.equalIn (d + 1) t .nilIface .nilIface).run P w = .ok true w := fun d => by simp only [Op.equalIn, Sem.run_bind, run_underlying hu, Result.andThen_ok]; rfl
    show Sem.run P (do eqGuard .neq t x (.const .nilIface) .nilIface .nilIface; binOp .neq t .nilIface .nilIface) w = _
    rw [g, h2]
    simp only [Sem.run_bind, Sem.run_pure, Result.andThen_ok, he 9999]
    rfl
  | true =>
    have g : ∀ p, eqGuard .neq t x (.const .nilIface) (.iface u p) .nilIface = pure () := fun p => rfl
    have he : ∀ d (p : Value), (Op.equalIn (d + 1) t (.iface u p) .nilIface).run P w = .ok false w := fun d p => by simp only [Op.equalIn, Sem.run_bind, run_underlying hu, Result.andThen_ok]; rfl
    show Sem.run P (do eqGuard .neq t x (.const .nilIface) (.iface u (.pointer (some ⟨k, 0, none⟩))) .nilIface; binOp .neq t (.iface u (.pointer (some ⟨k, 0, none⟩))) .nilIface) w = _
    rw [g, h2]
    simp only [Sem.run_bind, Sem.run_pure, Result.andThen_ok, he 9999]
    rfl
end
end Go.Proofs.YtacndicgpkeobaaGreatDoor
namespace Go.Proofs.YtacndicgpkeobaaGreatDoor
open Go.ChangeShapes Go.WideShapes Go.RowKit
section
variable {P : Program} {W : World} {n : String} {g t e : TypeId} {cs : Array Value} {fuel : Nat} {p : List MemPlace}
theorem err_of {ms : Array (String × TypeId)} {name : String} {d : DataW Unit} (hg : P.globalNamed n = some g) (hv : W.var? P n = some cs) (hi : P.underlying t = some (.interface ms)) (h : DataW.trod (fun _ => ()) P W 0 (fun _ => true) false fuel t cs.toList = some (.iface name d, p)) : errAt g W := by
  obtain ⟨_, u, v, hcs, _⟩ := iface_of_trod hi h
  have := World.var?_cell hg hv 0
  rw [show cs = #[Value.iface u v] from Array.ext' hcs] at this
  exact ⟨.iface u v, by simpa using this, .inr ⟨u, v, rfl⟩⟩
theorem tab_of {m : Nat} {k : IntKind} {zs : List Int} (hv : W.var? P n = some cs) (ht : P.underlying t = some (.array m e)) (he : P.underlying e = some (.int k)) (hce : P.cellsOf e = 1) (hct : P.cellsOf t = m)
    (h : DataW.trod (fun _ => ()) P W 0 (fun _ => true) false fuel t cs.toList = some (Lib.tabData k zs, p)) : Lib.TabIs P W n k zs := by
  unfold Lib.TabIs
  rw [hv, ← Lib.cells_of_tab ht he hce hct h]
theorem str_val {b0 : Nat} {r : Reach} {v u : Value} (ht : P.underlying t = some .string) (hv : Value.okWide P W r b0 t v) (h : v.cells.toList = [u]) : v = u := by
  obtain ⟨s, rfl⟩ := okWide_string ht hv
  simpa [Value.cells] using h
end
end Go.Proofs.YtacndicgpkeobaaGreatDoor
namespace Go.Proofs.YtacndicgpkeobaaGreatDoor
open Go.ChangeShapes Go.WideShapes Go.RowKit

theorem laid_mem {P : Program} {w : World} : ∀ {l : List (String × DataW Unit)} {ps : List MemPlace}, DataW.LaidVars P w l ps → ∀ {i : Nat} {n : String} {d : DataW Unit}, l[i]? = some (n, d) →
    ∃ g t cs fuel p, P.globalNamed n = some g ∧ (P.globals[g]?).map (·.type) = some t ∧ w.var? P n = some cs ∧ DataW.trod (fun _ => ()) P w 0 (fun _ => true) false fuel t cs.toList = some (d, p)
  | [], _, _, i, n, d, h => by simp at h
  | (n0, d0) :: r, ps, hl, i, n, d, h => by
    obtain ⟨g, t, cs, fuel, p, q, h1, h2, h3, h4, h5, _⟩ := hl
    cases i with
    | zero =>
      simp only [List.getElem?_cons_zero, Option.some.injEq, Prod.mk.injEq] at h
      obtain ⟨rfl, rfl⟩ := h
      exact ⟨g, t, cs, fuel, p, h1, h2, h3, h4⟩
    | succ i => exact laid_mem h5 (by simpa using h)
end Go.Proofs.YtacndicgpkeobaaGreatDoor
namespace Go.Proofs.YtacndicgpkeobaaGreatDoor
open Go.RowKit
def isBas (rs : List Res) : Prop := ∀ r ∈ rs, r.own = false ∧ ∀ B w, r.ok B w → ∀ k, r.blk = some k → k < B
theorem bas_nil : isBas [] := fun _ h => by cases h
section
variable {P : Program}
theorem flat_one : ∀ bs : List Value, (bs.map fun x => [x]).flatten = bs
  | [] => rfl
  | x :: t => by rw [List.map_cons, List.flatten_cons, flat_one t]; rfl
variable {B : Nat} {w0 w w' : World} {b : Nat} {T e : TypeId} {p q v : Value} {bs bs' : List Value} {rs : List Res}
theorem ws_isB (h : WS B w0 (box b T [p, v] :: sl v e 1 (bs.map fun x => [x]) :: rs) w) (hp : p = .pointer none ∨ p = .pointer (some ⟨b, 0, none⟩)) : Lib.IsBuilder T e B b bs w := by
  have h1 := box_ok.1 (h.res _ List.mem_cons_self)
  have h2 := (sl_ok.1 (h.res (sl v e 1 (bs.map fun x => [x])) (List.mem_cons_of_mem _ List.mem_cons_self))).1
  have h3 := (List.pairwise_cons.1 h.dis).1 _ List.mem_cons_self (.inl (box_own _ _ _))
  rw [List.length_map, flat_one] at h2
  have hA : Lib.BuilderAt T e B b p bs w := ⟨h1.1, v, h1.2, h2, fun hv => h3 b (box_blk _ _ _) (by rw [sl_blk]; exact hv)⟩
  rcases hp with rfl | rfl
  · exact .inl hA
  · exact .inr hA
theorem ws_bldX (hr : isBas rs) (h : WS B w0 (box b T [p, v] :: sl v e 1 (bs.map fun x => [x]) :: rs) w) (hb : Below B w w') : WS B w0 rs w' :=
  ⟨h.bel.trans hb, Nat.le_trans h.bas hb.size, fun r hm => r.st (h.res r (List.mem_cons_of_mem _ (List.mem_cons_of_mem _ hm))) hb.size (fun k hk => hb.block k ((hr r hm).2 B w (h.res r (List.mem_cons_of_mem _ (List.mem_cons_of_mem _ hm))) k hk)), (List.pairwise_cons.1 (List.pairwise_cons.1 h.dis).2).2⟩
variable (TT : Tab P) {Q : Exit → Act → World → Prop} {ops : Array Oper} {N : Fr} {E : Env} {rest : List Oper} {d : Nat} {ty : TypeId} {pos : String} {aft : Array Edge} {f : FuncId} {xs : Array Operand} {ts : Array TypeId} {args : List Value} {r : Value}
theorem call_enters (hen : lkT TT.en f = some ()) {a : Act} {dst : Option Nat} (hs : Sat N B w0 E rs a w) (hx : evs E xs.toList = some args) {o : Oper} (ho : o = ⟨dst, .call { callee := .value (.func f), args := xs, argTypes := ts }, ty, pos, aft, none⟩) : (execOp a.eval o).run P w = .ok (.enter f args.toArray) w := by
  subst ho
  have hmap := hs.evals hx
  have hmap' : xs.map a.eval = args.toArray := Array.ext' (by rw [Array.toList_map, hmap])
  have hent : Enters P f := TT.en_ok _ (lkT_mem hen)
  simp [execOp, resolve, invoke, Deferred.ofValue, Act.eval, hmap', hent args.toArray w]
theorem L_bs (hen : lkT TT.en f = some ()) (hx : evs E xs.toList = some args) (hd : Nat.blt d N.n = true) (hr : isBas rs) (hp : p = .pointer none ∨ p = .pointer (some ⟨b, 0, none⟩))
    (law : ∀ w, Lib.IsBuilder T e B b bs w → B ≤ w.heap.size → Calls P f args.toArray w fun x w' => x = .returned r ∧ Below B w w') (h : L P ops Q N B w0 ((d, r) :: E) rs rest) :
    L P ops Q N B w0 E (box b T [p, v] :: sl v e 1 (bs.map fun x => [x]) :: rs) (⟨some d, .call { callee := .value (.func f), args := xs, argTypes := ts }, ty, pos, aft, none⟩ :: rest) := by
  intro a w hs
  refine wpListIn_plain rfl fun K hK => ?_
  refine wpIn_calls (call_enters TT hen hs hx rfl) ((law w (ws_isB hs.ws hp) hs.ws.bas).mono ?_)
  rintro x w' ⟨rfl, hb⟩
  exact ⟨_, rfl, hK _ _ (h _ _ (hs.put hd _ (ws_bldX hr hs.ws hb)))⟩
end
end Go.Proofs.YtacndicgpkeobaaGreatDoor
