/-
  Walks: each function named returns what its model says. Conditions: those in front of each theorem.
-/
import Derived.Test.YtacndicgpkeobaaGreatDoorShBld
import Derived.Lib.AppendStr
import Derived.Test.YtacndicgpkeobaaGreatDoorShLn
import Derived.Laws.Externs
import Derived.Shelf.Strings.Builder1
import Derived.Shelf.LaysM
import Derived.Shelf.Strconv.Itoa3
import Derived.Test.YtacndicgpkeobaaGreatDoorProg
import Derived.Test.YtacndicgpkeobaaGreatDoorRows
import Derived.Test.YtacndicgpkeobaaGreatDoorTab
import Derived.Test.YtacndicgpkeobaaGreatDoorMod2
namespace Go.Proofs.YtacndicgpkeobaaGreatDoor
open Go.RowKit
def ItV (P : Program) (f : FuncId) (args : List Value) (B : Nat) (w0 : World) (rs : List Res) (R : Value → World → Prop) : Prop :=
  ∃ fnI cI NI, P.funcs[f]? = some fnI ∧ fnI.body = some cI ∧ fnI.ntmps = NI ∧ Nat.ble args.length NI = true ∧ C P (bodyPost P fnI fun e w' => ∃ v, e = .returned v ∧ R v w') ⟨NI, [], none⟩ B w0 (argE 0 args) rs cI
section
variable {P : Program} {B : Nat} {w0 w : World} {E : Env} {rs : List Res}
theorem ItV.of {N : Nat} {f : FuncId} {fn : Func} {c : Code} {args : List Value} {R : Value → World → Prop} (hf : P.funcs[f]? = some fn) (hb : fn.body = some c) (hN : fn.ntmps = N) (hle : Nat.ble args.length N = true)
    (h : C P (bodyPost P fn fun e w' => ∃ v, e = .returned v ∧ R v w') ⟨N, [], none⟩ B w0 (argE 0 args) rs c) : ItV P f args B w0 rs R := ⟨fn, c, N, hf, hb, hN, hle, h⟩
theorem ItV.calls {f : FuncId} {args : List Value} {R : Value → World → Prop} (h : ItV P f args B w0 rs R) (hw : WS B w0 rs w) : Calls P f args.toArray w fun e w' => ∃ v, e = .returned v ∧ R v w' := by
  obtain ⟨fn, c, N, hf, hb, hN, hle, h⟩ := h
  refine calls_of_wp hf hb ((wpIn_wide (n := 0)).1 (h _ _ ⟨hw, ?_, rfl, fun i v hv => ?_⟩))
  · have := Nat.ble_eq.mp hle
    simp [hN]
    omega
  · obtain ⟨_, h1⟩ := lk_argE args 0 i v hv
    simp only [Nat.sub_zero] at h1
    have hl := (List.getElem?_eq_some_iff.1 h1).1
    have h2 := List.getElem?_eq_getElem hl
    rw [h1] at h2
    injection h2 with h2
    simp [Array.getElem?_append, hl, h2]
theorem it_retV {n : Nat} {fn : Func} {v : Value} {R : Value → World → Prop} (hres : ∀ a w, Sat ⟨n, [], none⟩ B w0 E rs a w → (results fn a.tmps).run P w = .ok v w) (h : ∀ w, WS B w0 rs w → R v w) :
    ∀ a w, Sat ⟨n, [], none⟩ B w0 E rs a w → bodyPost P fn (fun e w' => ∃ v, e = .returned v ∧ R v w') .ret a w := fun a w hs => ⟨hs.dfr, v, hres a w hs, v, rfl, h w hs.ws⟩
theorem it_endV {n : Nat} {fn : Func} {R : Value → World → Prop} (hf : fn.results = #[]) (h : ∀ w, WS B w0 rs w → R (.tuple #[]) w) :
    ∀ a w, Sat ⟨n, [], none⟩ B w0 E rs a w → bodyPost P fn (fun e w' => ∃ v, e = .returned v ∧ R v w') .normal a w := fun _ w hs => ⟨hs.dfr, _, results_none hf _ _ _, _, rfl, h w hs.ws⟩
variable (TT : Tab P) {Q : Exit → Act → World → Prop} {ops : Array Oper} {N : Fr} {rest : List Oper} {d : Nat} {ty : TypeId} {pos : String} {aft : Array Edge} {f : FuncId} {xs : Array Operand} {ts : Array TypeId} {args : List Value}
theorem L_callI {post : Value → List Res → Prop} (hen : lkT TT.en f = some ()) (hx : evs E xs.toList = some args) (hd : Nat.blt d N.n = true) (hi : ItV P f args B w0 rs fun v w' => ∃ rs', post v rs' ∧ WS B w0 rs' w')
    (h : ∀ v rs', post v rs' → L P ops Q N B w0 ((d, v) :: E) rs' rest) : L P ops Q N B w0 E rs (⟨some d, .call { callee := .value (.func f), args := xs, argTypes := ts }, ty, pos, aft, none⟩ :: rest) := by
  intro a w hs
  refine wpListIn_plain rfl fun K hK => ?_
  refine wpIn_calls (call_enters TT hen hs hx rfl) ((hi.calls hs.ws).mono ?_)
  rintro e w' ⟨v, rfl, rs', hp, hw⟩
  exact ⟨_, rfl, hK _ _ (h v rs' hp _ _ (hs.put hd v hw))⟩
/-! ### Pointers -/
theorem below_grow (w : World) (k : Nat) (os : Array Obj) : Below w.heap.size w (Go.Sort.grow (w.drewN k) os) := by
  refine ⟨rfl, rfl, rfl, ?_, fun j hj => ?_⟩
  · show w.heap.size ≤ (w.heap ++ os).size
    simp
  · show (w.heap ++ os)[j]? = w.heap[j]?
    rw [Array.getElem?_append_left hj]
variable {dst : Option Nat} {gd : Option (Nat × Bool)} {x y : Operand} {t t' te : TypeId} {j : TypeInfo}
theorem q_nilP {ad : Addr} (hx : ev E x = some (.pointer (some ad))) : Qu P N B w0 E rs ⟨dst, .nilCheck x, ty, pos, aft, gd⟩ (.pointer (some ad)) := by
  intro a w hs
  have h1 := hs.eval hx
  simp [execOp, h1]
theorem q_ptrNil (hp : P.underlying t = some (.pointer te)) (hx : ev E x = some (.pointer none)) : Qu P N B w0 E rs ⟨dst, .binOp .eql t x (.const (.pointer none)) t', ty, pos, aft, gd⟩ (.bool true) := by
  refine q_cmp hx rfl fun w => ?_
  show Sem.run P (binOp .eql t (.pointer none) (.pointer none)) w = _
  have h : ∀ d : Nat, (Op.equalIn (d + 1) t (.pointer none) (.pointer none)).run P w = .ok true w := fun d => by simp [Op.equalIn, run_underlying hp]
  simp only [binOp]
  simp [Op.equal, Op.maxDepth, h 9999]
theorem q_ptrSome {ad : Addr} (hp : P.underlying t = some (.pointer te)) (hx : ev E x = some (.pointer (some ad))) : Qu P N B w0 E rs ⟨dst, .binOp .eql t x (.const (.pointer none)) t', ty, pos, aft, gd⟩ (.bool false) := by
  refine q_cmp hx rfl fun w => ?_
  show Sem.run P (binOp .eql t (.pointer (some ad)) (.pointer none)) w = _
  have h : ∀ d : Nat, (Op.equalIn (d + 1) t (.pointer (some ad)) (.pointer none)).run P w = .ok false w := fun d => by simp [Op.equalIn, run_underlying hp]
  simp only [binOp]
  simp [Op.equal, Op.maxDepth, h 9999]
theorem q_ptrSame {ad : Addr} (hp : P.underlying t = some (.pointer te)) (hte : P.info? te = some j) (hx : ev E x = some (.pointer (some ad))) (hy : ev E y = some (.pointer (some ad))) : Qu P N B w0 E rs ⟨dst, .binOp .neq t x y t', ty, pos, aft, gd⟩ (.bool false) := by
  refine q_cmp hx hy fun w => ?_
  have g : ∀ z u : Operand, eqGuard .neq t z u (.pointer (some ad)) (.pointer (some ad)) = pure () := fun _ _ => rfl
  rw [g]
  simp only [Sem.run_bind, Sem.run_pure, Result.andThen_ok]
  exact Lib.run_neq_ptr_same w ad hp hte
theorem box_shape {g T : Nat} {cs : List Value} (h : (box g T cs).ok B w) : w.shape? g = some (T, cs.length) := by
  have := (box_ok.1 h).2
  simp [World.shape?, this]
theorem q_toU {src dd g T : TypeId} {cs : List Value} (hs : P.underlying src = some (.pointer t)) (hd : P.underlying dd = some .unsafePointer) (ht : P.info? t = some j) (hj : j.size ≠ 0) (hx : ev E x = some (.pointer (some ⟨g, 0, none⟩))) (hm : box g T cs ∈ rs) (hl : 0 < cs.length) :
    Qu P N B w0 E rs ⟨dst, .convert src dd x, ty, pos, aft, gd⟩ (.pointer (some ⟨g, 0, none⟩)) := by
  intro a w hs9
  have := Lib.run_to_unsafe w ⟨g, 0, none⟩ hs hd ht hj (box_shape (hs9.has hm)) hl
  simp [execOp, hs9.eval hx, this]
theorem q_fromU {src dd g T u : TypeId} {cs : List Value} (hs : P.underlying src = some .unsafePointer) (hd : P.underlying dd = some (.pointer u)) (hu : P.info? u = some j) (hx : ev E x = some (.pointer (some ⟨g, 0, none⟩))) (hm : box g T cs ∈ rs) (hl : liesAt P P.depth T (cs.length / P.cellsOf T) 0 u 1 = true) :
    Qu P N B w0 E rs ⟨dst, .convert src dd x, ty, pos, aft, gd⟩ (.pointer (some ⟨g, 0, none⟩)) := by
  intro a w hs9
  have := Lib.run_from_unsafe w ⟨g, 0, none⟩ hs hd hu (box_shape (hs9.has hm)) hl
  simp [execOp, hs9.eval hx, this]
theorem q_extern1 {v : Value} (h : ∀ w, (callFunc f #[v]).run P w = .ok (.value v) w) (hx : evs E xs.toList = some [v]) : Qu P N B w0 E rs ⟨dst, .call { callee := .value (.func f), args := xs, argTypes := ts }, ty, pos, aft, gd⟩ v := by
  intro a w hs9
  have hmap := hs9.evals hx
  have hmap' : xs.map a.eval = #[v] := Array.ext' (by rw [Array.toList_map, hmap])
  simp [execOp, resolve, invoke, Deferred.ofValue, Act.eval, hmap', h]
/-! ### A text behind bytes -/
theorem app_str {base u ty' e : TypeId} {i : TypeInfo} (ht : P.underlying t = some (.slice e)) (hu : P.underlying u = some .string) (hi : P.info? e = some i) (hz : i.zero = some (.int .u8 0)) (hsize : i.size = 1) (hby : i.bytes = 1)
    {v : Value} {n : Nat} {xs : List Value} (hown : w.ownsRow base e 1 v n xs) (s : ByteArray) (h63 : n + s.size ≤ maxLen) (hbytes : n + s.size ≤ 140737488355328) (hbase : base ≤ w.heap.size) :
    ∃ v' w', (Builtin.append_ #[t, u] ty' #[v, .string s]).run P w = .ok v' w' ∧ w'.ownsRow base e 1 v' (n + s.size) (xs ++ Lib.strCells s) ∧ w.grownBy w' v.ownBlock ∧ (v'.ownBlock = v.ownBlock ∨ v'.ownBlock = some w.heap.size) := by
  obtain ⟨v', w', hr, h2, h3, h4⟩ := Lib.run_append_own_string (P := P) w base t u ty' e i ht hu hi hz hsize hby v n xs hown s h63 hbytes hbase
  refine ⟨v', w', hr, h2, h3, ?_⟩
  have hsm : n + s.size ≤ 9223372036854775807 := by simp only [maxLen] at h63; omega
  have hxl : xs.length = n := by simpa using hown.1
  rcases hown.2 with ⟨rfl, rfl⟩ | ⟨g, cap, cur, rfl, hbg, hg, hnc, hcm, hcs, htake⟩
  · by_cases hm : s.size = 0
    · exact .inl (by rw [h4.2 ⟨rfl, hm⟩])
    · have h9 := run_append_nil_string (P := P) w t u ty' e i (.int .u8 0) ht hu hi hz s (by omega) (by omega) (by rw [hby]; omega)
      rw [h9] at hr
      injection hr with hr _
      exact .inr (by rw [← hr]; rfl)
  · by_cases hroom : n + s.size ≤ cap
    · have h9 := Lib.run_append_room_string (P := P) w t u ty' e i ht hu hi hsize g n cap cur hg s hroom (by omega)
      rw [h9] at hr
      injection hr with hr _
      exact .inl (by rw [← hr]; rfl)
    · have h9 := Lib.run_append_grow_string (P := P) w t u ty' e i (.int .u8 0) ht hu hi hz ⟨g, 0, none⟩ n cap xs (by rw [hsize]; simpa using hxl) (hown.cells (g := g) rfl) s (by omega) (by omega) (by rw [hby]; exact growslice_fits (by omega) (by omega))
      rw [h9] at hr
      injection hr with hr _
      exact .inr (by rw [← hr]; rfl)
theorem L_appendS {u e m : TypeId} {v : Value} {l : List UInt8} {r : List UInt8} (he : lkT TT.el t = some (e, m, false)) (ht : (P.info? e).map (fun i => (i.zero, i.size, i.bytes)) = some (some (.int .u8 0), 1, 1)) (hu : P.underlying u = some .string)
    (hx : ev E x = some v) (hy : ev E y = some (.string (bs r))) (hlen : l.length + r.length ≤ 140737488355328) (hN : Nat.blt d N.n = true)
    (h : ∀ A n c, L P ops Q N B w0 ((d, .slice A n c) :: E) (sl (.slice A n c) e 1 ((l ++ r).map cU) :: rs) rest) :
    L P ops Q N B w0 E (sl v e 1 (l.map cU) :: rs) (⟨some d, .call { callee := .builtin .append, args := #[x, y], argTypes := #[t, u] }, ty, pos, aft, none⟩ :: rest) := by
  intro a w hs
  refine wpListIn_plain rfl fun K hK => ?_
  obtain ⟨i, hi, hi9⟩ := Option.map_eq_some_iff.1 ht
  simp only [Prod.mk.injEq] at hi9
  obtain ⟨hz9, his, hib⟩ := hi9
  have hut : P.underlying t = some (.slice e) := by
    rcases TT.el_ok _ (lkT_mem he) with ⟨_, h⟩ | ⟨h, _⟩
    · exact h
    · cases h
  obtain ⟨hown, hel⟩ := sl_ok.1 (hs.has (r := sl v e 1 (l.map cU)) List.mem_cons_self)
  rw [List.length_map] at hown
  obtain ⟨v', w', hrun, hown', hgr, hbk⟩ := app_str (ty' := ty) hut hu hi hz9 his hib hown (bs r) (by rw [bs_size]; unfold maxLen; omega) (by rw [bs_size]; omega) hs.ws.bas
  have hrun' : (execOp a.eval ⟨some d, .call { callee := .builtin .append, args := #[x, y], argTypes := #[t, u] }, ty, pos, aft, none⟩).run P w = .ok (.value v') w' := by
    simp [execOp, resolve, invoke, builtin, hs.eval hx, hs.eval hy, hrun]
  have hcl : (l.map cU).flatten ++ Lib.strCells (bs r) = ((l ++ r).map cU).flatten := by
    rw [List.map_append, List.flatten_append, flat_u r]
    rfl
  rw [bs_size, hcl] at hown'
  have hsl : (sl v' e 1 ((l ++ r).map cU)).ok B w' := sl_ok.2 ⟨by rw [List.length_map, List.length_append]; exact hown', fun c hc => by
    obtain ⟨q, _, rfl⟩ := List.mem_map.1 hc
    rfl⟩
  obtain ⟨A9, c9, hv9, _⟩ := (sl_gives v' e 1 ((l ++ r).map cU) B w' hsl).form
  subst hv9
  refine wpIn_value hrun' (hK _ _ (h _ _ _ _ _ (hs.put hN _ ?_)))
  refine hs.ws.turnNew (sl_own _ _ _ _) (fun k hk => ?_) hsl (by rw [sl_blk]; exact hgr)
  rw [sl_blk] at hk ⊢
  rcases hbk with hb | hb
  · exact .inl (by rw [← hk]; exact hb.symm)
  · exact .inr (by have : some k = some w.heap.size := hk.symm.trans hb; injection this with this; omega)
theorem L_bsU {b T e : Nat} {p v r : Value} {l : List UInt8} (hen : lkT TT.en f = some ()) (hx : evs E xs.toList = some args) (hd : Nat.blt d N.n = true) (hp : p = .pointer none ∨ p = .pointer (some ⟨b, 0, none⟩))
    (law : ∀ w, Lib.IsBuilder T e B b (Lib.byteCells l) w → B ≤ w.heap.size → Calls P f args.toArray w fun x w' => x = .returned r ∧ Below B w w') (h : L P ops Q N B w0 ((d, r) :: E) [] rest) :
    L P ops Q N B w0 E [box b T [p, v], sl v e 1 (l.map cU)] (⟨some d, .call { callee := .value (.func f), args := xs, argTypes := ts }, ty, pos, aft, none⟩ :: rest) := by
  have e9 : l.map cU = (Lib.byteCells l).map fun x => [x] := by simp [Lib.byteCells, cU, Function.comp_def]
  rw [e9]
  exact L_bs TT hen hx hd bas_nil hp law h
end
end Go.Proofs.YtacndicgpkeobaaGreatDoor
namespace Go.Proofs
open Go.Shelf
def Tryz.laysM171_ren : Go.Shelf.Ren := ⟨fun | 171 => 72 | 243 => 137 | 246 => 184 | 283 => 217 | 284 => 218 | 285 => 219 | 286 => 220 | 129 => 254 | 317 => 253 | 318 => 255 | 319 => 256 | 320 => 257 | 337 => 266 | 338 => 267 | n => n, fun | 3 => 3 | 9 => 9 | 2 => 2 | 4 => 4 | 171 => 301 | 0 => 0 | 53 => 302 | 37 => 136 | 5 => 5 | 173 => 305 | 212 => 325 | 51 => 326 | 20 => 20 | 213 => 327 | 46 => 282 | 232 => 345 | 233 => 346 | n => n, fun | 17 => 0 | 18 => 4 | 19 => 5 | n => n⟩
theorem Tryz.laysM171 : Go.Proofs.LaysM.n171 Tryz.prog Tryz.laysM171_ren := {
  mixed := by kernel_rfl
  f129 := Tryz.func254.trans (congrArg some (by kernel_rfl))
  f171 := Tryz.func72.trans (congrArg some (by kernel_rfl))
  f243 := Tryz.func137.trans (congrArg some (by kernel_rfl))
  f246 := Tryz.func184.trans (congrArg some (by kernel_rfl))
  f283 := Tryz.func217.trans (congrArg some (by kernel_rfl))
  f284 := Tryz.func218.trans (congrArg some (by kernel_rfl))
  f285 := Tryz.func219.trans (congrArg some (by kernel_rfl))
  f286 := Tryz.func220.trans (congrArg some (by kernel_rfl))
  f317 := Tryz.func253.trans (congrArg some (by kernel_rfl))
  f318 := Tryz.func255.trans (congrArg some (by kernel_rfl))
  f319 := Tryz.func256.trans (congrArg some (by kernel_rfl))
  f320 := Tryz.func257.trans (congrArg some (by kernel_rfl))
  f337 := Tryz.func266.trans (congrArg some (by kernel_rfl))
  f338 := Tryz.func267.trans (congrArg some (by kernel_rfl))
  t0 := Tryz.underlying0
  a0 := Tryz.isAgg0
  z0 := Tryz.sizeOf0
  v0 := Tryz.zeroValue0
  t2 := Tryz.underlying2
  a2 := Tryz.isAgg2
  z2 := Tryz.sizeOf2
  v2 := Tryz.zeroValue2
  t3 := Tryz.underlying3
  a3 := Tryz.isAgg3
  z3 := Tryz.sizeOf3
  v3 := Tryz.zeroValue3
  t4 := Tryz.underlying4
  a4 := Tryz.isAgg4
  z4 := Tryz.sizeOf4
  v4 := Tryz.zeroValue4
  t5 := Tryz.underlying5
  a5 := Tryz.isAgg5
  z5 := Tryz.sizeOf5
  v5 := Tryz.zeroValue5
  t9 := Tryz.underlying9
  a9 := Tryz.isAgg9
  z9 := Tryz.sizeOf9
  v9 := Tryz.zeroValue9
  t20 := Tryz.underlying20
  a20 := Tryz.isAgg20
  z20 := Tryz.sizeOf20
  v20 := Tryz.zeroValue20
  t37 := Tryz.underlying136
  a37 := Tryz.isAgg136
  z37 := Tryz.sizeOf136
  v37 := Tryz.zeroValue136
  t46 := Tryz.underlying282
  a46 := Tryz.isAgg282
  z46 := Tryz.sizeOf282
  v46 := Tryz.zeroValue282
  t51 := Tryz.underlying326
  a51 := Tryz.isAgg326
  z51 := Tryz.sizeOf326
  v51 := Tryz.zeroValue326
  t53 := Tryz.underlying302
  a53 := Tryz.isAgg302
  z53 := Tryz.sizeOf302
  v53 := Tryz.zeroValue302
  t171 := Tryz.underlying301
  a171 := Tryz.isAgg301
  z171 := Tryz.sizeOf301
  v171 := Tryz.zeroValue301
  t173 := Tryz.underlying305
  a173 := Tryz.isAgg305
  z173 := Tryz.sizeOf305
  v173 := Tryz.zeroValue305
  t212 := Tryz.underlying325
  a212 := Tryz.isAgg325
  z212 := Tryz.sizeOf325
  v212 := Tryz.zeroValue325
  t213 := Tryz.underlying327
  a213 := Tryz.isAgg327
  z213 := Tryz.sizeOf327
  t232 := Tryz.underlying345
  a232 := Tryz.isAgg345
  z232 := Tryz.sizeOf345
  v232 := Tryz.zeroValue345
  t233 := Tryz.underlying346
  a233 := Tryz.isAgg346
  z233 := Tryz.sizeOf346
  v233 := Tryz.zeroValue346
  g17 := by kernel_rfl
  g18 := by kernel_rfl
  g19 := by kernel_rfl
  i0 := by kernel_rfl
  i2 := by kernel_rfl
  i3 := by kernel_rfl
  i4 := by kernel_rfl
  i5 := by kernel_rfl
  i9 := by kernel_rfl
  i20 := by kernel_rfl
  i37 := by kernel_rfl
  i46 := by kernel_rfl
  i51 := by kernel_rfl
  i53 := by kernel_rfl
  i171 := by kernel_rfl
  i173 := by kernel_rfl
  i212 := by kernel_rfl
  i232 := by kernel_rfl
  i233 := by kernel_rfl
  m17 := by kernel_rfl
  m18 := by kernel_rfl
  m19 := by kernel_rfl }
open Go.RowKit Go.Sort Go.Lib in
theorem Tryz.strconv_Itoa (n : Int) (h0 : -9223372036854775808 ≤ n) (h1 : n ≤ 9223372036854775807) (w : World) (htab : Lib.TabIs Tryz.prog w (Go.Proofs.YtacndicgpkeobaaGreatDoor.Rows.ascentChangesRow.laid.getD 2 (default, .nil)).1 .u64 Lib.pow10Tab) :
    Calls Tryz.prog 72 #[.int .i64 n] w fun e w' => e = .returned (.string ⟨(Lib.itoa n).toArray⟩) ∧ ∃ k os, w' = grow (w.drewN k) os := Any.strconv_Itoa Tryz.laysM171 n h0 h1 w htab
def Tryz.lays169_ren : Go.Shelf.Ren := ⟨fun | 169 => 74 | n => n, fun | 70 => 135 | 9 => 9 | 0 => 0 | 72 => 138 | 37 => 136 | 127 => 220 | 3 => 3 | 5 => 5 | n => n, fun | n => n⟩
theorem Tryz.lays169 : Go.Proofs.Lays.n169 Tryz.prog Tryz.lays169_ren := {
  mixed := by kernel_rfl
  f169 := Tryz.func74.trans (congrArg some (by kernel_rfl))
  t0 := Tryz.underlying0
  a0 := Tryz.isAgg0
  z0 := Tryz.sizeOf0
  v0 := Tryz.zeroValue0
  t3 := Tryz.underlying3
  a3 := Tryz.isAgg3
  z3 := Tryz.sizeOf3
  v3 := Tryz.zeroValue3
  t9 := Tryz.underlying9
  a9 := Tryz.isAgg9
  z9 := Tryz.sizeOf9
  v9 := Tryz.zeroValue9
  t37 := Tryz.underlying136
  a37 := Tryz.isAgg136
  z37 := Tryz.sizeOf136
  v37 := Tryz.zeroValue136
  t70 := Tryz.underlying135
  a70 := Tryz.isAgg135
  z70 := Tryz.sizeOf135
  v70 := Tryz.zeroValue135
  t72 := Tryz.underlying138
  a72 := Tryz.isAgg138
  z72 := Tryz.sizeOf138
  v72 := Tryz.zeroValue138
  t127 := Tryz.underlying220
  a127 := Tryz.isAgg220
  z127 := Tryz.sizeOf220
  v127 := Tryz.zeroValue220 }
theorem Tryz.Builder_Extra_169 : Builder.Extra Tryz.prog Tryz.lays169_ren := {
  sizeBuilder := by kernel_rfl
  liesBuilder := by kernel_rfl
  t5 := Tryz.underlying5
  a5 := Tryz.isAgg5
  z5 := Tryz.sizeOf5
  v5 := Tryz.zeroValue5
  infoByte := by kernel_rfl
  cellsByte := by kernel_rfl
  sizeByte := by kernel_rfl
  neB5 := by decide }
open Go.RowKit Go.Sort Go.Lib in
theorem Tryz.Builder_String_any (B b : Nat) (l : List UInt8) (w : World) (h : Lib.IsBuilder 138 5 B b (Lib.byteCells l) w) (hBw : B ≤ w.heap.size) :
    Calls Tryz.prog 74 #[.pointer (some ⟨b, 0, none⟩)] w fun e w' => e = .returned (.string ⟨l.toArray⟩) ∧ Below B w w' := Any.Builder_String_any Tryz.lays169 Tryz.Builder_Extra_169 B b l w h hBw
end Go.Proofs
namespace Go.Proofs.YtacndicgpkeobaaGreatDoor
open Go.RowKit

abbrev rowN : String := (Rows.ascentChangesRow.laid.getD 2 (default, .nil)).1
abbrev KQ : World → Prop := fun w => Lib.TabIs Tryz.prog w rowN .u64 Lib.pow10Tab ∧ errAt 2 w ∧ errAt 3 w
theorem stQ : Stb KQ := stb_and (tab_st (g := 0) (by kernel_rfl) _ _) (stb_and (errAt_st 2) (errAt_st 3))
theorem ct_ItoaQ (n : Int) (h : -9223372036854775808 ≤ n ∧ n ≤ 9223372036854775807) : CtQ KQ Tryz.prog 72 [.int .i64 n] [] (isV (.string (bs (Lib.itoa n)))) := ctq_law fun w hk => (Tryz.strconv_Itoa n h.1 h.2 w hk.1).mono fun _ _ ⟨he, k, os, hw⟩ => ⟨⟨_, he, rfl, rfl⟩, hw ▸ below_grow w k os⟩
theorem noEsc (v : Value) (w : World) : (callFunc 183 #[v]).run Tryz.prog w = .ok (.value v) w := by
  rw [run_callFunc_extern Tryz.func183 (by kernel_rfl) (by kernel_rfl) (by kernel_rfl) (e := Extern.AbiNoEscape.same) (by kernel_rfl), Lib.run_noEscape]
  rfl

set_option maxRecDepth 100000 in
theorem ct_copy1 (B : Nat) (w0 : World) (rs : List Res) (b : Nat) (v : Value) : ItV Tryz.prog 136 [.pointer (some ⟨b, 0, none⟩)] B w0 (box b 138 [.pointer none, v] :: rs) (fun _ w_ => ∃ rs', (rs' = box b 138 [.pointer (some ⟨b, 0, none⟩), v] :: rs) ∧ WS B w0 rs' w_) := by
 obtain ⟨j, hj, hjs⟩ := Option.map_eq_some_iff.1 (show (Tryz.prog.info? 138).map (·.size) = some 2 by kernel_rfl)
 refine ItV.of (N := 20) Tryz.func136 rfl rfl rfl ?_
 refine C_weak (E' := [(0, .pointer (some ⟨b, 0, none⟩))]) (rs' := box b 138 [.pointer none, v] :: rs) ⟨rfl, trivial⟩ (fun _ h => h) ?_
 refine C_seq ?_
 refine C_region ?_
 refine Jq (q_move rfl) ?_
 refine Jq (by first | exact q_nilP rfl | exact q_nilEl rfl gvo (by simp)) ?_
 refine Jq (by first | exact q_field tb rfl rfl rfl | exact q_fieldE tb rfl rfl rfl gvo (by first | omega | (simp; done) | (simp; omega))) ?_
 refine Jq (by first | exact q_load tb rfl rfl bxo rfl | exact q_loadE tb rfl rfl gvo (by omega) (by simp) rfl) ?_
 refine Jq (q_ptrNil Tryz.underlying135 rfl) ?_
 refine L_then ?_
 refine C_true rfl ?_
 refine C_region ?_
 refine Jq (q_move rfl) ?_
 refine Jq (q_move rfl) ?_
 refine Jq (q_toU Tryz.underlying135 Tryz.underlying271 hj (by rw [hjs]; decide) rfl bxo (Nat.zero_lt_succ _)) ?_
 refine L_q rfl rfl rfl (q_extern1 (noEsc _) rfl) ?_
 refine Jq (q_fromU Tryz.underlying271 Tryz.underlying135 hj rfl bxo (by kernel_rfl)) ?_
 refine Jq (by first | exact q_nilP rfl | exact q_nilEl rfl gvo (by simp)) ?_
 refine Jq (by first | exact q_field tb rfl rfl rfl | exact q_fieldE tb rfl rfl rfl gvo (by first | omega | (simp; done) | (simp; omega))) ?_
 refine L_st tb rfl rfl ?_
 refine L_end ?_
 exact it_endV rfl (fun w_ h_ => ⟨_, rfl, h_⟩)
set_option maxRecDepth 100000 in
theorem ct_copy2 (B : Nat) (w0 : World) (rs : List Res) (b : Nat) (v : Value) : ItV Tryz.prog 136 [.pointer (some ⟨b, 0, none⟩)] B w0 (box b 138 [.pointer (some ⟨b, 0, none⟩), v] :: rs) (fun _ w_ => ∃ rs', (rs' = box b 138 [.pointer (some ⟨b, 0, none⟩), v] :: rs) ∧ WS B w0 rs' w_) := by
 obtain ⟨j, hj, hjs⟩ := Option.map_eq_some_iff.1 (show (Tryz.prog.info? 138).map (·.size) = some 2 by kernel_rfl)
 refine ItV.of (N := 20) Tryz.func136 rfl rfl rfl ?_
 refine C_weak (E' := [(0, .pointer (some ⟨b, 0, none⟩))]) (rs' := box b 138 [.pointer (some ⟨b, 0, none⟩), v] :: rs) ⟨rfl, trivial⟩ (fun _ h => h) ?_
 refine C_seq ?_
 refine C_region ?_
 refine Jq (q_move rfl) ?_
 refine Jq (by first | exact q_nilP rfl | exact q_nilEl rfl gvo (by simp)) ?_
 refine Jq (by first | exact q_field tb rfl rfl rfl | exact q_fieldE tb rfl rfl rfl gvo (by first | omega | (simp; done) | (simp; omega))) ?_
 refine Jq (by first | exact q_load tb rfl rfl bxo rfl | exact q_loadE tb rfl rfl gvo (by omega) (by simp) rfl) ?_
 refine Jq (q_ptrSome Tryz.underlying135 rfl) ?_
 refine L_then ?_
 refine C_false rfl ?_
 refine C_seq ?_
 refine C_region ?_
 refine Jq (q_move rfl) ?_
 refine Jq (by first | exact q_nilP rfl | exact q_nilEl rfl gvo (by simp)) ?_
 refine Jq (by first | exact q_field tb rfl rfl rfl | exact q_fieldE tb rfl rfl rfl gvo (by first | omega | (simp; done) | (simp; omega))) ?_
 refine Jq (by first | exact q_load tb rfl rfl bxo rfl | exact q_loadE tb rfl rfl gvo (by omega) (by simp) rfl) ?_
 refine Jq (q_move rfl) ?_
 refine Jq (q_ptrSame Tryz.underlying135 hj rfl rfl) ?_
 refine L_then ?_
 refine C_false rfl ?_
 refine C_skip ?_
 exact it_endV rfl (fun w_ h_ => ⟨_, rfl, h_⟩)
theorem ct_copy (B : Nat) (w0 : World) (rs : List Res) (b : Nat) (p v : Value) (hp : p = .pointer none ∨ p = .pointer (some ⟨b, 0, none⟩)) : ItV Tryz.prog 136 [.pointer (some ⟨b, 0, none⟩)] B w0 (box b 138 [p, v] :: rs) (fun _ w_ => ∃ rs', (rs' = box b 138 [.pointer (some ⟨b, 0, none⟩), v] :: rs) ∧ WS B w0 rs' w_) := by
 rcases hp with rfl | rfl
 · exact ct_copy1 B w0 rs b v
 · exact ct_copy2 B w0 rs b v

set_option maxRecDepth 100000 in
theorem ct_WriteString (B : Nat) (w0 : World) (rs : List Res) (b : Nat) (p v : Value) (l : List UInt8) (hp : p = .pointer none ∨ p = .pointer (some ⟨b, 0, none⟩)) (r : List UInt8) (hlen : l.length + r.length ≤ 140737488355328) : ItV Tryz.prog 71 [.pointer (some ⟨b, 0, none⟩), .string (bs r)] B w0 (box b 138 [p, v] :: sl v 5 1 ((l).map cU) :: rs) (fun _ w_ => ∃ rs', (∃ A n c, rs' = box b 138 [.pointer (some ⟨b, 0, none⟩), .slice A n c] :: sl (.slice A n c) 5 1 ((l ++ r).map cU) :: rs) ∧ WS B w0 rs' w_) := by
 refine ItV.of (N := 19) Tryz.func71 rfl rfl rfl ?_
 refine C_weak (E' := [(0, .pointer (some ⟨b, 0, none⟩)), (1, .string (bs r))]) (rs' := box b 138 [p, v] :: sl v 5 1 ((l).map cU) :: rs) ⟨rfl, rfl, trivial⟩ (fun _ h => h) ?_
 refine C_seq ?_
 refine C_region ?_
 refine Jq (q_assign rfl) ?_
 refine Jq (q_assign rfl) ?_
 refine L_then ?_
 refine C_seq ?_
 refine C_region ?_
 refine Jq (q_move rfl) ?_
 refine L_callI tb (post := fun _ rs9 => rs9 = box b 138 [.pointer (some ⟨b, 0, none⟩), v] :: sl v 5 1 (l.map cU) :: rs) rfl rfl rfl (ct_copy _ _ _ b p v hp) (fun y9 rs9 hy9 => ?_)
 subst hy9
 refine L_then ?_
 refine C_seq ?_
 refine C_region ?_
 refine Jq (q_move rfl) ?_
 refine Jq (q_move rfl) ?_
 refine Jq (by first | exact q_nilP rfl | exact q_nilEl rfl gvo (by simp)) ?_
 refine Jq (by first | exact q_field tb rfl rfl rfl | exact q_fieldE tb rfl rfl rfl gvo (by first | omega | (simp; done) | (simp; omega))) ?_
 refine Jq (by first | exact q_load tb rfl rfl bxo rfl | exact q_loadE tb rfl rfl gvo (by omega) (by simp) rfl) ?_
 refine Jq (q_move rfl) ?_
 refine L_front1 ?_
 refine L_appendS tb rfl (by kernel_rfl) Tryz.underlying9 rfl rfl hlen rfl fun A14 n14 c14 => ?_
 refine Jq (by first | exact q_nilP rfl | exact q_nilEl rfl gvo (by simp)) ?_
 refine Jq (by first | exact q_field tb rfl rfl rfl | exact q_fieldE tb rfl rfl rfl gvo (by first | omega | (simp; done) | (simp; omega))) ?_
 refine L_st tb rfl rfl ?_
 refine L_then ?_
 refine C_seq ?_
 refine C_region ?_
 refine Jq (q_move rfl) ?_
 refine Jq (q_lenS Tryz.underlying9 rfl) ?_
 refine Jq (q_assign rfl) ?_
 refine Jq (q_assign rfl) ?_
 refine L_then ?_
 refine C_ret ?_
 exact it_retV (res2 rfl rfl rfl) (fun w_ h_ => ⟨_, ⟨A14, n14, c14, rfl⟩, h_⟩)
set_option maxRecDepth 100000 in
theorem ct_WriteByte (B : Nat) (w0 : World) (rs : List Res) (b : Nat) (p v : Value) (l : List UInt8) (hp : p = .pointer none ∨ p = .pointer (some ⟨b, 0, none⟩)) (q : UInt8) (hlen : l.length + 1 ≤ 140737488355328) : ItV Tryz.prog 73 [.pointer (some ⟨b, 0, none⟩), .int .u8 (q.toNat : Int)] B w0 (box b 138 [p, v] :: sl v 5 1 ((l).map cU) :: rs) (fun _ w_ => ∃ rs', (∃ A n c, rs' = box b 138 [.pointer (some ⟨b, 0, none⟩), .slice A n c] :: sl (.slice A n c) 5 1 ((l ++ [q]).map cU) :: rs) ∧ WS B w0 rs' w_) := by
 have hlm : (l.map cU).length = l.length := List.length_map _
 refine ItV.of (N := 17) Tryz.func73 rfl rfl rfl ?_
 refine C_weak (E' := [(0, .pointer (some ⟨b, 0, none⟩)), (1, .int .u8 (q.toNat : Int))]) (rs' := box b 138 [p, v] :: sl v 5 1 ((l).map cU) :: rs) ⟨rfl, rfl, trivial⟩ (fun _ h => h) ?_
 refine C_seq ?_
 refine C_region ?_
 refine Jq (q_assign rfl) ?_
 refine L_then ?_
 refine C_seq ?_
 refine C_region ?_
 refine Jq (q_move rfl) ?_
 refine L_callI tb (post := fun _ rs9 => rs9 = box b 138 [.pointer (some ⟨b, 0, none⟩), v] :: sl v 5 1 (l.map cU) :: rs) rfl rfl rfl (ct_copy _ _ _ b p v hp) (fun y9 rs9 hy9 => ?_)
 subst hy9
 refine L_then ?_
 refine C_seq ?_
 refine C_region ?_
 refine Jq (q_move rfl) ?_
 refine Jq (q_move rfl) ?_
 refine Jq (by first | exact q_nilP rfl | exact q_nilEl rfl gvo (by simp)) ?_
 refine Jq (by first | exact q_field tb rfl rfl rfl | exact q_fieldE tb rfl rfl rfl gvo (by first | omega | (simp; done) | (simp; omega))) ?_
 refine Jq (by first | exact q_load tb rfl rfl bxo rfl | exact q_loadE tb rfl rfl gvo (by omega) (by simp) rfl) ?_
 refine Jq (q_move rfl) ?_
 refine L_mk (lo_bslice tb rfl rfl rfl (xs := [cU q]) rfl rfl (by simp [cU]) rfl (by omega) rfl) rfl rfl rfl fun v13 => ?_
 refine L_ap tb rfl rfl rfl rfl gvo (by simp [Value.oneCell', cU]) (by simp [maxLen]; omega) (by simp; omega) fun v14 => ?_
 rw [show l.map cU ++ [cU q] = (l ++ [q]).map cU by rw [List.map_append]; rfl]
 refine L_form (v := v14) gvo (fun A14 c14 hv14 _ => ?_)
 subst hv14
 refine Jq (by first | exact q_nilP rfl | exact q_nilEl rfl gvo (by simp)) ?_
 refine Jq (by first | exact q_field tb rfl rfl rfl | exact q_fieldE tb rfl rfl rfl gvo (by first | omega | (simp; done) | (simp; omega))) ?_
 refine L_st tb rfl rfl ?_
 refine L_then ?_
 refine C_seq ?_
 refine C_region ?_
 refine Jq (q_assign rfl) ?_
 refine L_then ?_
 refine C_ret ?_
 exact it_retV (res1 rfl rfl) (fun w_ h_ => ⟨_, ⟨_, _, _, rfl⟩, h_.sub (by repeat (first | exact List.Sublist.refl _ | apply List.Sublist.cons_cons | apply List.Sublist.cons))⟩)
theorem ct_WriteNl (B : Nat) (w0 : World) (rs : List Res) (b : Nat) (p v : Value) (l : List UInt8) (hp : p = .pointer none ∨ p = .pointer (some ⟨b, 0, none⟩)) (hlen : l.length + 1 ≤ 140737488355328) : ItV Tryz.prog 73 [.pointer (some ⟨b, 0, none⟩), .int .u8 10] B w0 (box b 138 [p, v] :: sl v 5 1 ((l).map cU) :: rs) (fun _ w_ => ∃ rs', (∃ A n c, rs' = box b 138 [.pointer (some ⟨b, 0, none⟩), .slice A n c] :: sl (.slice A n c) 5 1 ((l ++ [10]).map cU) :: rs) ∧ WS B w0 rs' w_) := by
 have h := ct_WriteByte B w0 rs b p v l hp 10 hlen
 rw [show ((10 : UInt8).toNat : Int) = 10 from rfl] at h
 exact h

end Go.Proofs.YtacndicgpkeobaaGreatDoor
