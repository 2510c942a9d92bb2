/-
  The calculus: a strings.Builder that a call has made itself: what is written to it, what it gives; readers of what stood ahead of the call. Conditions: those in front of each theorem.
-/
import Derived.Test.YtacndicgpkeobaaGreatDoorShKn
import Derived.Laws.Concat
import Derived.Laws.BytesArg
import Derived.Lib.LaidTab
import Derived.Lib.SmallJoins
import Derived.Test.YtacndicgpkeobaaGreatDoorOpn
import Derived.LaidLaws
import Derived.Lib.ItoaNum
import Derived.LaidMore
import Derived.MakeChecks
import Derived.Lib.Builder
namespace Go.Proofs.YtacndicgpkeobaaGreatDoor
open Go.RowKit
section
variable {P : Program} {N : Fr} {B : Nat} {w0 : World} {E : Env} {rs : List Res} {Q : Exit → Act → World → Prop} {ops : Array Oper} {rest : List Oper} {dst : Option Nat} {ty : TypeId} {pos : String} {aft : Array Edge} {gd : Option (Nat × Bool)}
theorem q_seq {t t' : TypeId} {x y : Operand} {s u : ByteArray} {b : Bool} (hx : ev E x = some (.string s)) (hy : ev E y = some (.string u)) (hb : (s.data.toList == u.data.toList) = b) : Qu P N B w0 E rs ⟨dst, .binOp .eql t x y t', ty, pos, aft, gd⟩ (.bool b) := by
  refine q_cmp hx hy fun w => ?_
  have g : eqGuard .eql t x y (.string s) (.string u) = pure () := rfl
  rw [g, binOp_string_eql, ByteArray.toList_eq, ByteArray.toList_eq, hb]
  rfl
theorem q_sne {t t' : TypeId} {x y : Operand} {s u : ByteArray} {b : Bool} (hx : ev E x = some (.string s)) (hy : ev E y = some (.string u)) (hb : (!(s.data.toList == u.data.toList)) = b) : Qu P N B w0 E rs ⟨dst, .binOp .neq t x y t', ty, pos, aft, gd⟩ (.bool b) := by
  refine q_cmp hx hy fun w => ?_
  have g : eqGuard .neq t x y (.string s) (.string u) = pure () := rfl
  rw [g, binOp_string_neq, ByteArray.toList_eq, ByteArray.toList_eq, hb]
  rfl
theorem q_cat {t t' : TypeId} {x y : Operand} {s u r : ByteArray} (hx : ev E x = some (.string s)) (hy : ev E y = some (.string u)) (h : s.size + u.size ≤ 9223372036854775807) (hr : s ++ u = r) : Qu P N B w0 E rs ⟨dst, .binOp .add t x y t', ty, pos, aft, gd⟩ (.string r) := by
  refine q_cmp hx hy fun w => ?_
  have g : eqGuard .add t x y (.string s) (.string u) = pure () := rfl
  have h9 := run_string_add_sum (P := P) w s u h
  rw [g, binOp_string_add]
  simp [h9, hr]
theorem q_sto {t : TypeId} {x y : Operand} {s r : ByteArray} {k : IntKind} {j : Int} (ht : P.underlying t = some .string) (hx : ev E x = some (.string s)) (hy : ev E y = some (.int k j)) (h0 : 0 ≤ j) (h1 : j ≤ s.size) (hr : s.extract 0 j.toNat = r) : Qu P N B w0 E rs ⟨dst, .slice t x none (some y) none, ty, pos, aft, gd⟩ (.string r) := by
  intro a w hs
  have h := run_slice_string_h (P := P) w t s ht k j h0 h1
  simp [execOp, hs.eval hx, hs.eval hy, Instr.sliceAt, run_underlying ht, h, hr]
theorem q_sfrom {t : TypeId} {x y : Operand} {s r : ByteArray} {k : IntKind} {j : Int} (ht : P.underlying t = some .string) (hx : ev E x = some (.string s)) (hy : ev E y = some (.int k j)) (h0 : 0 ≤ j) (h1 : j ≤ s.size) (hr : s.extract j.toNat s.size = r) : Qu P N B w0 E rs ⟨dst, .slice t x (some y) none none, ty, pos, aft, gd⟩ (.string r) := by
  intro a w hs
  have h := run_slice_string_l (P := P) w t s ht k j h0 h1
  simp [execOp, hs.eval hx, hs.eval hy, Instr.sliceAt, run_underlying ht, h, hr]
theorem ct_law {f : FuncId} {args : List Value} {ps : List (Value × Nat × List (List Value))} {v : Value} (h : ∀ w, Calls P f args.toArray w fun e w' => e = .returned v ∧ Below w.heap.size w w') : Ct P f args ps (isV v) :=
 fun w _ => (h w).mono fun _ _ ⟨he, hb⟩ => ⟨v, [], he, hb, ⟨rfl, rfl⟩, (fun r hr => by cases hr), (fun r hr => by cases hr), List.Pairwise.nil⟩
end
end Go.Proofs.YtacndicgpkeobaaGreatDoor
namespace Go.Proofs.YtacndicgpkeobaaGreatDoor
open Go.RowKit
abbrev bs (l : List UInt8) : ByteArray := ⟨l.toArray⟩
theorem bs_size (l : List UInt8) : (bs l).size = l.length := by show l.toArray.size = _; simp
theorem bs_list (l : List UInt8) : (bs l).data.toList = l := rfl
theorem bs_app (a b : List UInt8) : bs a ++ bs b = bs (a ++ b) := by
  apply ByteArray.ext
  simp
theorem bs_ext (l : List UInt8) (i j : Nat) : (bs l).extract i j = bs ((l.take j).drop i) := by
  apply ByteArray.ext
  simp [ByteArray.data_extract, List.extract_toArray]
  rw [List.drop_take]
def cU (c : UInt8) : List Value := [.int .u8 (c.toNat : Int)]
def cT (l : List UInt8) : List Value := [.string (bs l)]
section
variable {P : Program} {N : Fr} {B : Nat} {w0 : World} {E : Env} {rs : List Res} {Q : Exit → Act → World → Prop} {ops : Array Oper} {rest : List Oper} {dst : Option Nat} {ty : TypeId} {pos : String} {aft : Array Edge} {gd : Option (Nat × Bool)}
variable {t t' : TypeId} {x y z : Operand} {a b l r : List UInt8}
theorem t_len {ts : TypeId} (ht : P.underlying t = some .string) (hx : ev E x = some (.string (bs l))) : Qu P N B w0 E rs ⟨dst, .call { callee := .builtin .len, args := #[x], argTypes := #[t] }, ts, pos, aft, gd⟩ (.int .i64 (l.length : Int)) := by
  have h := q_lenS (P := P) (N := N) (B := B) (w0 := w0) (rs := rs) (dst := dst) (ts := ts) (pos := pos) (aft := aft) (gd := gd) ht hx
  rw [bs_size] at h
  exact h
theorem t_eq (hx : ev E x = some (.string (bs a))) (hy : ev E y = some (.string (bs b))) : Qu P N B w0 E rs ⟨dst, .binOp .eql t x y t', ty, pos, aft, gd⟩ (.bool (decide (a = b))) :=
  q_seq hx hy (by rw [bs_list, bs_list]; by_cases h : a = b <;> simp [h])
theorem t_ne (hx : ev E x = some (.string (bs a))) (hy : ev E y = some (.string (bs b))) : Qu P N B w0 E rs ⟨dst, .binOp .neq t x y t', ty, pos, aft, gd⟩ (.bool (decide (a ≠ b))) :=
  q_sne hx hy (by rw [bs_list, bs_list]; by_cases h : a = b <;> simp [h])
theorem t_cat (hx : ev E x = some (.string (bs a))) (hy : ev E y = some (.string (bs b))) (h : a.length + b.length ≤ 9223372036854775807) (hr : a ++ b = r) : Qu P N B w0 E rs ⟨dst, .binOp .add t x y t', ty, pos, aft, gd⟩ (.string (bs r)) :=
  q_cat hx hy (by rw [bs_size, bs_size]; exact h) (by rw [bs_app, hr])
theorem t_to {k : IntKind} {j : Nat} (ht : P.underlying t = some .string) (hx : ev E x = some (.string (bs l))) (hy : ev E y = some (.int k (j : Int))) (h1 : j ≤ l.length) (hr : l.take j = r) : Qu P N B w0 E rs ⟨dst, .slice t x none (some y) none, ty, pos, aft, gd⟩ (.string (bs r)) :=
  q_sto ht hx hy (by omega) (by rw [bs_size]; omega) (by rw [Int.toNat_natCast, bs_ext, List.drop_zero, hr])
theorem t_from {k : IntKind} {j : Nat} (ht : P.underlying t = some .string) (hx : ev E x = some (.string (bs l))) (hy : ev E y = some (.int k (j : Int))) (h1 : j ≤ l.length) (hr : l.drop j = r) : Qu P N B w0 E rs ⟨dst, .slice t x (some y) none none, ty, pos, aft, gd⟩ (.string (bs r)) :=
  q_sfrom ht hx hy (by omega) (by rw [bs_size]; omega) (by rw [Int.toNat_natCast, bs_ext, bs_size, List.take_length, hr])
theorem t_mid {k k' : IntKind} {i j : Nat} (ht : P.underlying t = some .string) (hx : ev E x = some (.string (bs l))) (hy : ev E y = some (.int k (i : Int))) (hz : ev E z = some (.int k' (j : Int))) (h0 : i ≤ j) (h1 : j ≤ l.length) (hr : (l.take j).drop i = r) : Qu P N B w0 E rs ⟨dst, .slice t x (some y) (some z) none, ty, pos, aft, gd⟩ (.string (bs r)) := by
  intro a w hs
  have h := run_slice_string (P := P) w t (bs l) k k' (i : Int) (j : Int) ht (by omega) (by omega) (by rw [bs_size]; omega)
  simp only [Int.toNat_natCast, bs_ext, hr] at h
  simp [execOp, hs.eval hx, hs.eval hy, hs.eval hz, Instr.sliceAt, run_underlying ht, h]
theorem t_idx {k : IntKind} {i : Nat} {c : UInt8} (ht : P.underlying t = some .string) (hx : ev E x = some (.string (bs l))) (hy : ev E y = some (.int k (i : Int))) (hc : l[i]? = some c) : Qu P N B w0 E rs ⟨dst, .index t x y, ty, pos, aft, gd⟩ (.int .u8 (c.toNat : Int)) := by
  have hi : i < l.length := (List.getElem?_eq_some_iff.1 hc).1
  have h := q_indexS (P := P) (N := N) (B := B) (w0 := w0) (rs := rs) (dst := dst) (ty := ty) (pos := pos) (aft := aft) (gd := gd) ht hx hy (by rw [bs_size]; exact hi)
  have e : bAt (bs l) i = (c.toNat : Int) := by
    unfold bAt
    rw [show (bs l).data[i]? = some c by simpa using hc]
    rfl
  rw [e] at h
  exact h
theorem flat_u : ∀ l : List UInt8, (l.map cU).flatten = l.map fun c => Value.int .u8 (c.toNat : Int)
  | [] => rfl
  | c :: r => by simp [cU, flat_u r]
theorem push_u (l : List UInt8) : (l.map fun c => (c.toNat : Int)).foldl (fun r n => r.push (UInt8.ofNat n.toNat)) ByteArray.empty = bs l := by
  rw [foldl_push_bytes]
  apply ByteArray.ext
  simp [ByteArray.empty, ByteArray.emptyWithCapacity, Function.comp_def]
  try rfl
theorem t_conv {u e : TypeId} {v : Value} (hne : 0 < l.length) (hu : P.underlying u = some (.slice e)) (he : P.underlying e = some (.int .u8)) (ht : P.underlying t = some .string) (hx : ev E x = some v) (hg : GvR rs v 1 (l.map cU)) : Qu P N B w0 E rs ⟨dst, .convert u t x, ty, pos, aft, gd⟩ (.string (bs l)) := by
  intro a w hs
  have hr := hs.reads hg
  obtain ⟨A, cap, hv, _, _⟩ := hr.form
  rw [List.length_map] at hv
  obtain ⟨ad, _, ⟨n, cp, hf⟩, _, hcell⟩ := hr.some (by simpa using hne)
  rw [hf] at hv
  injection hv with e1 e2 e3
  rw [flat_u] at hcell
  have hlc := run_loadCells_list (P := P) w ad (l.map fun c => Value.int .u8 (c.toNat : Int)) hcell
  rw [List.length_map] at hlc
  have h := run_convert_bytes_string (P := P) w u t e (some ad) l.length cp hu he ht
  have h2 := run_bytesToString (P := P) w ad l.length cp (l.map fun c => (c.toNat : Int)) (by rw [hlc, List.map_map]; rfl)
  rw [push_u] at h2
  have he2 : n = l.length := e2
  simp [execOp, hs.eval hx, hf, he2, h, h2]
end
end Go.Proofs.YtacndicgpkeobaaGreatDoor
namespace Go.Proofs.YtacndicgpkeobaaGreatDoor
open Go.RowKit
def Stb (K : World → Prop) : Prop := ∀ w w' : World, K w → Below w.heap.size w w' → K w'
def CtQ (K : World → Prop) (P : Program) (f : FuncId) (args : List Value) (ps : List (Value × Nat × List (List Value))) (post : Value → List Res → Prop) : Prop :=
  ∀ w, K w → (∀ p ∈ ps, Rdd w p.1 p.2.1 p.2.2) → Calls P f args.toArray w fun e w' => ∃ v rs', e = .returned v ∧ Below w.heap.size w w' ∧ post v rs' ∧ (∀ r ∈ rs', r.ok w.heap.size w') ∧ (∀ r ∈ rs', r.own = true) ∧ Disj rs'
section
variable {P : Program} {K : World → Prop}
theorem CtQ.of {N : Nat} {f : FuncId} {fn : Func} {c : Code} {args : List Value} {ps : List (Value × Nat × List (List Value))} {post : Value → List Res → Prop} (hf : P.funcs[f]? = some fn) (hb : fn.body = some c) (hN : fn.ntmps = N) (hle : Nat.ble args.length N = true)
    (h : ∀ w, K w → C P (bodyPost P fn (PostOf post w)) ⟨N, [], none⟩ w.heap.size w (argE 0 args) (rdOf ps) c) : CtQ K P f args ps post := by
  intro w hk hw
  refine calls_of_wp hf hb ((wpIn_wide (n := 0)).1 (h w hk _ _ ⟨⟨Below.refl _ _, Nat.le_refl _, fun r hr => ?_, disj_rd ps⟩, ?_, rfl, fun i v hv => ?_⟩))
  · obtain ⟨p, hp, rfl⟩ := List.mem_map.1 hr
    exact rd_ok.2 (hw p hp)
  · have := Nat.ble_eq.mp hle
    simp [hN]
    omega
  · obtain ⟨_, h1⟩ := lk_argE args 0 i v hv
    simp only [Nat.sub_zero] at h1
    have hl := (List.getElem?_eq_some_iff.1 h1).1
    have h2 := List.getElem?_eq_getElem hl
    rw [h1] at h2
    injection h2 with h2
    simp [Array.getElem?_append, hl, h2]
theorem Ct.q {f : FuncId} {args : List Value} {ps : List (Value × Nat × List (List Value))} {post : Value → List Res → Prop} (h : Ct P f args ps post) : CtQ K P f args ps post := fun w _ hw => h w hw
theorem ctq_law {f : FuncId} {args : List Value} {post : Value → List Res → Prop} (h : ∀ w, K w → Calls P f args.toArray w fun e w' => (∃ v, e = .returned v ∧ post v []) ∧ Below w.heap.size w w') : CtQ K P f args [] post :=
  fun w hk _ => (h w hk).mono fun _ _ ⟨⟨v, he, hp⟩, hb⟩ => ⟨v, [], he, hb, hp, (fun r hr => by cases hr), (fun r hr => by cases hr), List.Pairwise.nil⟩
variable {N : Fr} {w0 : World} {E : Env} {rs : List Res} {dst : Option Nat} {ty : TypeId} {pos : String} {aft : Array Edge} {gd : Option (Nat × Bool)}
theorem lo_callQ (T : Tab P) (st : Stb K) {f : FuncId} {xs : Array Operand} {ts : Array TypeId} {args : List Value} {ps : List (Value × Nat × List (List Value))} {post : Value → List Res → Prop} (hk : K w0) (hen : lkT T.en f = some ()) (hx : evs E xs.toList = some args) (hc : CtQ K P f args ps post) (hps : ∀ p ∈ ps, Gives rs p)
    (hsk : ∀ v rs', post v rs' → ∀ r ∈ rs', Sinks r) : Lo P N w0.heap.size w0 E rs ⟨dst, .call { callee := .value (.func f), args := xs, argTypes := ts }, ty, pos, aft, gd⟩ post := by
  intro a w hs
  have hent : Enters P f := T.en_ok _ (lkT_mem hen)
  have hmap := hs.evals hx
  have hmap' : xs.map a.eval = args.toArray := Array.ext' (by rw [Array.toList_map, hmap])
  refine .inr ⟨f, args.toArray, ?_, ?_⟩
  · simp [execOp, resolve, invoke, Deferred.ofValue, Act.eval, hmap', hent args.toArray w]
  · refine (hc w (st _ _ hk hs.ws.bel) (fun p hp => ?_)).mono ?_
    · exact hs.reads (hps p hp)
    · rintro e w' ⟨v, rs', he, hb, hpost, hok, hown, hd⟩
      exact ⟨v, rs', he, hb, hpost, fun r hr => ⟨hsk v rs' hpost r hr _ _ _ hs.ws.bas (hok r hr), fun k hk => r.ge (hown r hr) (hok r hr) k hk⟩, hd⟩
end
/-! ### What the library's numerals ask: a table, two errors -/
def isErr (e : Value) : Prop := e = .nilIface ∨ ∃ te pe, e = .iface te pe
def errAt (g : Nat) (w : World) : Prop := ∃ e, w.cell? ⟨g, 0, none⟩ = some e ∧ isErr e
theorem errAt_st (g : Nat) : Stb (errAt g) := fun w w' ⟨e, h1, h2⟩ hb => ⟨e, by rw [← h1]; exact World.cell?_of_block (hb.block g (cell_block h1)), h2⟩
theorem tab_st {P : Program} {n : String} {g : Nat} (hg : P.globalNamed n = some g) (k : IntKind) (zs : List Int) : Stb fun w => Lib.TabIs P w n k zs := fun _ _ h hb => Go.Joins.tab_stays hg h hb (Nat.le_refl _)
theorem stb_and {K L : World → Prop} (h : Stb K) (h2 : Stb L) : Stb fun w => K w ∧ L w := fun _ _ ⟨a, b⟩ hb => ⟨h _ _ a hb, h2 _ _ b hb⟩
def errV (t : TypeId) (N : Nat) (b : Bool) : Value := if b = true then .iface t (.pointer (some ⟨N, 0, none⟩)) else .nilIface
section
variable {P : Program} {N : Fr} {B : Nat} {w0 : World} {E : Env} {rs : List Res} {dst : Option Nat} {ty : TypeId} {pos : String} {aft : Array Edge} {gd : Option (Nat × Bool)}
theorem q_errV {t t' u : TypeId} {x : Operand} {b : Bool} {k : Nat} {ms : Array (String × TypeId)} (hu : P.underlying t = some (.interface ms)) (hx : ev E x = some (errV u k b)) : Qu P N B w0 E rs ⟨dst, .binOp .neq t x (.const .nilIface) t', ty, pos, aft, gd⟩ (.bool b) := by
  refine q_cmp hx rfl fun w => ?_
  have h2 : ∀ v, binOp .neq t v .nilIface = (do pure (.bool (!(← Op.equalIn 10000 t v .nilIface)))) := fun v => by cases v <;> rfl
  cases b with
  | false =>
    have g : eqGuard .neq t x (.const .nilIface) .nilIface .nilIface = pure () := eqGuard_nil_constR _ _ _ _
    have he : ∀ d, (Op.equalIn (d + 1) t .nilIface .nilIface).run P w = .ok true w := fun d => by simp only [Op.equalIn, Sem.run_bind, run_underlying hu, Result.andThen_ok]; rfl
    show Sem.run P (do eqGuard .neq t x (.const .nilIface) .nilIface .nilIface; binOp .neq t .nilIface .nilIface) w = _
    rw [g, h2]
    simp only [Sem.run_bind, Sem.run_pure, Result.andThen_ok, he 9999]
    rfl
  | true =>
    have g : ∀ p, eqGuard .neq t x (.const .nilIface) (.iface u p) .nilIface = pure () := fun p => rfl
    have he : ∀ d (p : Value), (Op.equalIn (d + 1) t (.iface u p) .nilIface).run P w = .ok false w := fun d p => by simp only [Op.equalIn, Sem.run_bind, run_underlying hu, Result.andThen_ok]; rfl
    show Sem.run P (do eqGuard .neq t x (.const .nilIface) (.iface u (.pointer (some ⟨k, 0, none⟩))) .nilIface; binOp .neq t (.iface u (.pointer (some ⟨k, 0, none⟩))) .nilIface) w = _
    rw [g, h2]
    simp only [Sem.run_bind, Sem.run_pure, Result.andThen_ok, he 9999]
    rfl
end
end Go.Proofs.YtacndicgpkeobaaGreatDoor
namespace Go.Proofs.YtacndicgpkeobaaGreatDoor
open Go.ChangeShapes Go.WideShapes Go.RowKit
section
variable {P : Program} {W : World} {n : String} {g t e : TypeId} {cs : Array Value} {fuel : Nat} {p : List MemPlace}
theorem err_of {ms : Array (String × TypeId)} {name : String} {d : DataW Unit} (hg : P.globalNamed n = some g) (hv : W.var? P n = some cs) (hi : P.underlying t = some (.interface ms)) (h : DataW.trod (fun _ => ()) P W 0 (fun _ => true) false fuel t cs.toList = some (.iface name d, p)) : errAt g W := by
  obtain ⟨_, u, v, hcs, _⟩ := iface_of_trod hi h
  have := World.var?_cell hg hv 0
  rw [show cs = #[Value.iface u v] from Array.ext' hcs] at this
  exact ⟨.iface u v, by simpa using this, .inr ⟨u, v, rfl⟩⟩
theorem tab_of {m : Nat} {k : IntKind} {zs : List Int} (hv : W.var? P n = some cs) (ht : P.underlying t = some (.array m e)) (he : P.underlying e = some (.int k)) (hce : P.cellsOf e = 1) (hct : P.cellsOf t = m)
    (h : DataW.trod (fun _ => ()) P W 0 (fun _ => true) false fuel t cs.toList = some (Lib.tabData k zs, p)) : Lib.TabIs P W n k zs := by
  unfold Lib.TabIs
  rw [hv, ← Lib.cells_of_tab ht he hce hct h]
theorem str_val {b0 : Nat} {r : Reach} {v u : Value} (ht : P.underlying t = some .string) (hv : Value.okWide P W r b0 t v) (h : v.cells.toList = [u]) : v = u := by
  obtain ⟨s, rfl⟩ := okWide_string ht hv
  simpa [Value.cells] using h
end
end Go.Proofs.YtacndicgpkeobaaGreatDoor
namespace Go.Proofs.YtacndicgpkeobaaGreatDoor
open Go.ChangeShapes Go.WideShapes Go.RowKit

theorem laid_mem {P : Program} {w : World} : ∀ {l : List (String × DataW Unit)} {ps : List MemPlace}, DataW.LaidVars P w l ps → ∀ {i : Nat} {n : String} {d : DataW Unit}, l[i]? = some (n, d) →
    ∃ g t cs fuel p, P.globalNamed n = some g ∧ (P.globals[g]?).map (·.type) = some t ∧ w.var? P n = some cs ∧ DataW.trod (fun _ => ()) P w 0 (fun _ => true) false fuel t cs.toList = some (d, p)
  | [], _, _, i, n, d, h => by simp at h
  | (n0, d0) :: r, ps, hl, i, n, d, h => by
    obtain ⟨g, t, cs, fuel, p, q, h1, h2, h3, h4, h5, _⟩ := hl
    cases i with
    | zero =>
      simp only [List.getElem?_cons_zero, Option.some.injEq, Prod.mk.injEq] at h
      obtain ⟨rfl, rfl⟩ := h
      exact ⟨g, t, cs, fuel, p, h1, h2, h3, h4⟩
    | succ i => exact laid_mem h5 (by simpa using h)
end Go.Proofs.YtacndicgpkeobaaGreatDoor
namespace Go.Proofs.YtacndicgpkeobaaGreatDoor
open Go.RowKit
def isBas (rs : List Res) : Prop := ∀ r ∈ rs, r.own = false ∧ ∀ B w, r.ok B w → ∀ k, r.blk = some k → k < B
theorem bas_nil : isBas [] := fun _ h => by cases h
section
variable {P : Program}
theorem flat_one : ∀ bs : List Value, (bs.map fun x => [x]).flatten = bs
  | [] => rfl
  | x :: t => by rw [List.map_cons, List.flatten_cons, flat_one t]; rfl
variable {B : Nat} {w0 w w' : World} {b : Nat} {T e : TypeId} {p q v : Value} {bs bs' : List Value} {rs : List Res}
theorem ws_isB (h : WS B w0 (box b T [p, v] :: sl v e 1 (bs.map fun x => [x]) :: rs) w) (hp : p = .pointer none ∨ p = .pointer (some ⟨b, 0, none⟩)) : Lib.IsBuilder T e B b bs w := by
  have h1 := box_ok.1 (h.res _ List.mem_cons_self)
  have h2 := (sl_ok.1 (h.res (sl v e 1 (bs.map fun x => [x])) (List.mem_cons_of_mem _ List.mem_cons_self))).1
  have h3 := (List.pairwise_cons.1 h.dis).1 _ List.mem_cons_self (.inl (box_own _ _ _))
  rw [List.length_map, flat_one] at h2
  have hA : Lib.BuilderAt T e B b p bs w := ⟨h1.1, v, h1.2, h2, fun hv => h3 b (box_blk _ _ _) (by rw [sl_blk]; exact hv)⟩
  rcases hp with rfl | rfl
  · exact .inl hA
  · exact .inr hA
theorem ws_bldX (hr : isBas rs) (h : WS B w0 (box b T [p, v] :: sl v e 1 (bs.map fun x => [x]) :: rs) w) (hb : Below B w w') : WS B w0 rs w' :=
  ⟨h.bel.trans hb, Nat.le_trans h.bas hb.size, fun r hm => r.st (h.res r (List.mem_cons_of_mem _ (List.mem_cons_of_mem _ hm))) hb.size (fun k hk => hb.block k ((hr r hm).2 B w (h.res r (List.mem_cons_of_mem _ (List.mem_cons_of_mem _ hm))) k hk)), (List.pairwise_cons.1 (List.pairwise_cons.1 h.dis).2).2⟩
variable (TT : Tab P) {Q : Exit → Act → World → Prop} {ops : Array Oper} {N : Fr} {E : Env} {rest : List Oper} {d : Nat} {ty : TypeId} {pos : String} {aft : Array Edge} {f : FuncId} {xs : Array Operand} {ts : Array TypeId} {args : List Value} {r : Value}
theorem call_enters (hen : lkT TT.en f = some ()) {a : Act} {dst : Option Nat} (hs : Sat N B w0 E rs a w) (hx : evs E xs.toList = some args) {o : Oper} (ho : o = ⟨dst, .call { callee := .value (.func f), args := xs, argTypes := ts }, ty, pos, aft, none⟩) : (execOp a.eval o).run P w = .ok (.enter f args.toArray) w := by
  subst ho
  have hmap := hs.evals hx
  have hmap' : xs.map a.eval = args.toArray := Array.ext' (by rw [Array.toList_map, hmap])
  have hent : Enters P f := TT.en_ok _ (lkT_mem hen)
  simp [execOp, resolve, invoke, Deferred.ofValue, Act.eval, hmap', hent args.toArray w]
theorem L_bs (hen : lkT TT.en f = some ()) (hx : evs E xs.toList = some args) (hd : Nat.blt d N.n = true) (hr : isBas rs) (hp : p = .pointer none ∨ p = .pointer (some ⟨b, 0, none⟩))
    (law : ∀ w, Lib.IsBuilder T e B b bs w → B ≤ w.heap.size → Calls P f args.toArray w fun x w' => x = .returned r ∧ Below B w w') (h : L P ops Q N B w0 ((d, r) :: E) rs rest) :
    L P ops Q N B w0 E (box b T [p, v] :: sl v e 1 (bs.map fun x => [x]) :: rs) (⟨some d, .call { callee := .value (.func f), args := xs, argTypes := ts }, ty, pos, aft, none⟩ :: rest) := by
  intro a w hs
  refine wpListIn_plain rfl fun K hK => ?_
  refine wpIn_calls (call_enters TT hen hs hx rfl) ((law w (ws_isB hs.ws hp) hs.ws.bas).mono ?_)
  rintro x w' ⟨rfl, hb⟩
  exact ⟨_, rfl, hK _ _ (h _ _ (hs.put hd _ (ws_bldX hr hs.ws hb)))⟩
end
end Go.Proofs.YtacndicgpkeobaaGreatDoor
