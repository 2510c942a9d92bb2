/-
  The calculus: calls that change memory of their caller's own; pointers held against nil; a text put behind bytes; what strings.Builder asks. Conditions: those in front of each theorem.
-/
import Derived.Test.YtacndicgpkeobaaGreatDoorShBld
import Derived.Lib.AppendStr
import Derived.Test.YtacndicgpkeobaaGreatDoorShStop
import Derived.Laws.Externs
namespace Go.Proofs.YtacndicgpkeobaaGreatDoor
open Go.RowKit
def ItV (P : Program) (f : FuncId) (args : List Value) (B : Nat) (w0 : World) (rs : List Res) (R : Value → World → Prop) : Prop :=
  ∃ fnI cI NI, P.funcs[f]? = some fnI ∧ fnI.body = some cI ∧ fnI.ntmps = NI ∧ Nat.ble args.length NI = true ∧ C P (bodyPost P fnI fun e w' => ∃ v, e = .returned v ∧ R v w') ⟨NI, [], none⟩ B w0 (argE 0 args) rs cI
section
variable {P : Program} {B : Nat} {w0 w : World} {E : Env} {rs : List Res}
theorem ItV.of {N : Nat} {f : FuncId} {fn : Func} {c : Code} {args : List Value} {R : Value → World → Prop} (hf : P.funcs[f]? = some fn) (hb : fn.body = some c) (hN : fn.ntmps = N) (hle : Nat.ble args.length N = true)
    (h : C P (bodyPost P fn fun e w' => ∃ v, e = .returned v ∧ R v w') ⟨N, [], none⟩ B w0 (argE 0 args) rs c) : ItV P f args B w0 rs R := ⟨fn, c, N, hf, hb, hN, hle, h⟩
theorem ItV.calls {f : FuncId} {args : List Value} {R : Value → World → Prop} (h : ItV P f args B w0 rs R) (hw : WS B w0 rs w) : Calls P f args.toArray w fun e w' => ∃ v, e = .returned v ∧ R v w' := by
  obtain ⟨fn, c, N, hf, hb, hN, hle, h⟩ := h
  refine calls_of_wp hf hb ((wpIn_wide (n := 0)).1 (h _ _ ⟨hw, ?_, rfl, fun i v hv => ?_⟩))
  · have := Nat.ble_eq.mp hle
    simp [hN]
    omega
  · obtain ⟨_, h1⟩ := lk_argE args 0 i v hv
    simp only [Nat.sub_zero] at h1
    have hl := (List.getElem?_eq_some_iff.1 h1).1
    have h2 := List.getElem?_eq_getElem hl
    rw [h1] at h2
    injection h2 with h2
    simp [Array.getElem?_append, hl, h2]
theorem it_retV {n : Nat} {fn : Func} {v : Value} {R : Value → World → Prop} (hres : ∀ a w, Sat ⟨n, [], none⟩ B w0 E rs a w → (results fn a.tmps).run P w = .ok v w) (h : ∀ w, WS B w0 rs w → R v w) :
    ∀ a w, Sat ⟨n, [], none⟩ B w0 E rs a w → bodyPost P fn (fun e w' => ∃ v, e = .returned v ∧ R v w') .ret a w := fun a w hs => ⟨hs.dfr, v, hres a w hs, v, rfl, h w hs.ws⟩
theorem it_endV {n : Nat} {fn : Func} {R : Value → World → Prop} (hf : fn.results = #[]) (h : ∀ w, WS B w0 rs w → R (.tuple #[]) w) :
    ∀ a w, Sat ⟨n, [], none⟩ B w0 E rs a w → bodyPost P fn (fun e w' => ∃ v, e = .returned v ∧ R v w') .normal a w := fun _ w hs => ⟨hs.dfr, _, results_none hf _ _ _, _, rfl, h w hs.ws⟩
variable (TT : Tab P) {Q : Exit → Act → World → Prop} {ops : Array Oper} {N : Fr} {rest : List Oper} {d : Nat} {ty : TypeId} {pos : String} {aft : Array Edge} {f : FuncId} {xs : Array Operand} {ts : Array TypeId} {args : List Value}
theorem L_callI {post : Value → List Res → Prop} (hen : lkT TT.en f = some ()) (hx : evs E xs.toList = some args) (hd : Nat.blt d N.n = true) (hi : ItV P f args B w0 rs fun v w' => ∃ rs', post v rs' ∧ WS B w0 rs' w')
    (h : ∀ v rs', post v rs' → L P ops Q N B w0 ((d, v) :: E) rs' rest) : L P ops Q N B w0 E rs (⟨some d, .call { callee := .value (.func f), args := xs, argTypes := ts }, ty, pos, aft, none⟩ :: rest) := by
  intro a w hs
  refine wpListIn_plain rfl fun K hK => ?_
  refine wpIn_calls (call_enters TT hen hs hx rfl) ((hi.calls hs.ws).mono ?_)
  rintro e w' ⟨v, rfl, rs', hp, hw⟩
  exact ⟨_, rfl, hK _ _ (h v rs' hp _ _ (hs.put hd v hw))⟩
/-! ### Pointers -/
theorem below_grow (w : World) (k : Nat) (os : Array Obj) : Below w.heap.size w (Go.Sort.grow (w.drewN k) os) := by
  refine ⟨rfl, rfl, rfl, ?_, fun j hj => ?_⟩
  · show w.heap.size ≤ (w.heap ++ os).size
    simp
  · show (w.heap ++ os)[j]? = w.heap[j]?
    rw [Array.getElem?_append_left hj]
variable {dst : Option Nat} {gd : Option (Nat × Bool)} {x y : Operand} {t t' te : TypeId} {j : TypeInfo}
theorem q_nilP {ad : Addr} (hx : ev E x = some (.pointer (some ad))) : Qu P N B w0 E rs ⟨dst, .nilCheck x, ty, pos, aft, gd⟩ (.pointer (some ad)) := by
  intro a w hs
  have h1 := hs.eval hx
  simp [execOp, h1]
theorem q_ptrNil (hp : P.underlying t = some (.pointer te)) (hx : ev E x = some (.pointer none)) : Qu P N B w0 E rs ⟨dst, .binOp .eql t x (.const (.pointer none)) t', ty, pos, aft, gd⟩ (.bool true) := by
  refine q_cmp hx rfl fun w => ?_
  show Sem.run P (binOp .eql t (.pointer none) (.pointer none)) w = _
  have h : ∀ d : Nat, (Op.equalIn (d + 1) t (.pointer none) (.pointer none)).run P w = .ok true w := fun d => by simp [Op.equalIn, run_underlying hp]
  simp only [binOp]
  simp [Op.equal, Op.maxDepth, h 9999]
theorem q_ptrSome {ad : Addr} (hp : P.underlying t = some (.pointer te)) (hx : ev E x = some (.pointer (some ad))) : Qu P N B w0 E rs ⟨dst, .binOp .eql t x (.const (.pointer none)) t', ty, pos, aft, gd⟩ (.bool false) := by
  refine q_cmp hx rfl fun w => ?_
  show Sem.run P (binOp .eql t (.pointer (some ad)) (.pointer none)) w = _
  have h : ∀ d : Nat, (Op.equalIn (d + 1) t (.pointer (some ad)) (.pointer none)).run P w = .ok false w := fun d => by simp [Op.equalIn, run_underlying hp]
  simp only [binOp]
  simp [Op.equal, Op.maxDepth, h 9999]
theorem q_ptrSame {ad : Addr} (hp : P.underlying t = some (.pointer te)) (hte : P.info? te = some j) (hx : ev E x = some (.pointer (some ad))) (hy : ev E y = some (.pointer (some ad))) : Qu P N B w0 E rs ⟨dst, .binOp .neq t x y t', ty, pos, aft, gd⟩ (.bool false) := by
  refine q_cmp hx hy fun w => ?_
  have g : ∀ z u : Operand, eqGuard .neq t z u (.pointer (some ad)) (.pointer (some ad)) = pure () := fun _ _ => rfl
  rw [g]
  simp only [Sem.run_bind, Sem.run_pure, Result.andThen_ok]
  exact Lib.run_neq_ptr_same w ad hp hte
theorem box_shape {g T : Nat} {cs : List Value} (h : (box g T cs).ok B w) : w.shape? g = some (T, cs.length) := by
  have := (box_ok.1 h).2
  simp [World.shape?, this]
theorem q_toU {src dd g T : TypeId} {cs : List Value} (hs : P.underlying src = some (.pointer t)) (hd : P.underlying dd = some .unsafePointer) (ht : P.info? t = some j) (hj : j.size ≠ 0) (hx : ev E x = some (.pointer (some ⟨g, 0, none⟩))) (hm : box g T cs ∈ rs) (hl : 0 < cs.length) :
    Qu P N B w0 E rs ⟨dst, .convert src dd x, ty, pos, aft, gd⟩ (.pointer (some ⟨g, 0, none⟩)) := by
  intro a w hs9
  have := Lib.run_to_unsafe w ⟨g, 0, none⟩ hs hd ht hj (box_shape (hs9.has hm)) hl
  simp [execOp, hs9.eval hx, this]
theorem q_fromU {src dd g T u : TypeId} {cs : List Value} (hs : P.underlying src = some .unsafePointer) (hd : P.underlying dd = some (.pointer u)) (hu : P.info? u = some j) (hx : ev E x = some (.pointer (some ⟨g, 0, none⟩))) (hm : box g T cs ∈ rs) (hl : liesAt P P.depth T (cs.length / P.cellsOf T) 0 u 1 = true) :
    Qu P N B w0 E rs ⟨dst, .convert src dd x, ty, pos, aft, gd⟩ (.pointer (some ⟨g, 0, none⟩)) := by
  intro a w hs9
  have := Lib.run_from_unsafe w ⟨g, 0, none⟩ hs hd hu (box_shape (hs9.has hm)) hl
  simp [execOp, hs9.eval hx, this]
theorem q_extern1 {v : Value} (h : ∀ w, (callFunc f #[v]).run P w = .ok (.value v) w) (hx : evs E xs.toList = some [v]) : Qu P N B w0 E rs ⟨dst, .call { callee := .value (.func f), args := xs, argTypes := ts }, ty, pos, aft, gd⟩ v := by
  intro a w hs9
  have hmap := hs9.evals hx
  have hmap' : xs.map a.eval = #[v] := Array.ext' (by rw [Array.toList_map, hmap])
  simp [execOp, resolve, invoke, Deferred.ofValue, Act.eval, hmap', h]
/-! ### A text behind bytes -/
theorem app_str {base u ty' e : TypeId} {i : TypeInfo} (ht : P.underlying t = some (.slice e)) (hu : P.underlying u = some .string) (hi : P.info? e = some i) (hz : i.zero = some (.int .u8 0)) (hsize : i.size = 1) (hby : i.bytes = 1)
    {v : Value} {n : Nat} {xs : List Value} (hown : w.ownsRow base e 1 v n xs) (s : ByteArray) (h63 : n + s.size ≤ maxLen) (hbytes : n + s.size ≤ 140737488355328) (hbase : base ≤ w.heap.size) :
    ∃ v' w', (Builtin.append_ #[t, u] ty' #[v, .string s]).run P w = .ok v' w' ∧ w'.ownsRow base e 1 v' (n + s.size) (xs ++ Lib.strCells s) ∧ w.grownBy w' v.ownBlock ∧ (v'.ownBlock = v.ownBlock ∨ v'.ownBlock = some w.heap.size) := by
  obtain ⟨v', w', hr, h2, h3, h4⟩ := Lib.run_append_own_string (P := P) w base t u ty' e i ht hu hi hz hsize hby v n xs hown s h63 hbytes hbase
  refine ⟨v', w', hr, h2, h3, ?_⟩
  have hsm : n + s.size ≤ 9223372036854775807 := by simp only [maxLen] at h63; omega
  have hxl : xs.length = n := by simpa using hown.1
  rcases hown.2 with ⟨rfl, rfl⟩ | ⟨g, cap, cur, rfl, hbg, hg, hnc, hcm, hcs, htake⟩
  · by_cases hm : s.size = 0
    · exact .inl (by rw [h4.2 ⟨rfl, hm⟩])
    · have h9 := run_append_nil_string (P := P) w t u ty' e i (.int .u8 0) ht hu hi hz s (by omega) (by omega) (by rw [hby]; omega)
      rw [h9] at hr
      injection hr with hr _
      exact .inr (by rw [← hr]; rfl)
  · by_cases hroom : n + s.size ≤ cap
    · have h9 := Lib.run_append_room_string (P := P) w t u ty' e i ht hu hi hsize g n cap cur hg s hroom (by omega)
      rw [h9] at hr
      injection hr with hr _
      exact .inl (by rw [← hr]; rfl)
    · have h9 := Lib.run_append_grow_string (P := P) w t u ty' e i (.int .u8 0) ht hu hi hz ⟨g, 0, none⟩ n cap xs (by rw [hsize]; simpa using hxl) (hown.cells (g := g) rfl) s (by omega) (by omega) (by rw [hby]; exact growslice_fits (by omega) (by omega))
      rw [h9] at hr
      injection hr with hr _
      exact .inr (by rw [← hr]; rfl)
theorem L_appendS {u e m : TypeId} {v : Value} {l : List UInt8} {r : List UInt8} (he : lkT TT.el t = some (e, m, false)) (ht : (P.info? e).map (fun i => (i.zero, i.size, i.bytes)) = some (some (.int .u8 0), 1, 1)) (hu : P.underlying u = some .string)
    (hx : ev E x = some v) (hy : ev E y = some (.string (bs r))) (hlen : l.length + r.length ≤ 140737488355328) (hN : Nat.blt d N.n = true)
    (h : ∀ A n c, L P ops Q N B w0 ((d, .slice A n c) :: E) (sl (.slice A n c) e 1 ((l ++ r).map cU) :: rs) rest) :
    L P ops Q N B w0 E (sl v e 1 (l.map cU) :: rs) (⟨some d, .call { callee := .builtin .append, args := #[x, y], argTypes := #[t, u] }, ty, pos, aft, none⟩ :: rest) := by
  intro a w hs
  refine wpListIn_plain rfl fun K hK => ?_
  obtain ⟨i, hi, hi9⟩ := Option.map_eq_some_iff.1 ht
  simp only [Prod.mk.injEq] at hi9
  obtain ⟨hz9, his, hib⟩ := hi9
  have hut : P.underlying t = some (.slice e) := by
    rcases TT.el_ok _ (lkT_mem he) with ⟨_, h⟩ | ⟨h, _⟩
    · exact h
    · cases h
  obtain ⟨hown, hel⟩ := sl_ok.1 (hs.has (r := sl v e 1 (l.map cU)) List.mem_cons_self)
  rw [List.length_map] at hown
  obtain ⟨v', w', hrun, hown', hgr, hbk⟩ := app_str (ty' := ty) hut hu hi hz9 his hib hown (bs r) (by rw [bs_size]; unfold maxLen; omega) (by rw [bs_size]; omega) hs.ws.bas
  have hrun' : (execOp a.eval ⟨some d, .call { callee := .builtin .append, args := #[x, y], argTypes := #[t, u] }, ty, pos, aft, none⟩).run P w = .ok (.value v') w' := by
    simp [execOp, resolve, invoke, builtin, hs.eval hx, hs.eval hy, hrun]
  have hcl : (l.map cU).flatten ++ Lib.strCells (bs r) = ((l ++ r).map cU).flatten := by
    rw [List.map_append, List.flatten_append, flat_u r]
    rfl
  rw [bs_size, hcl] at hown'
  have hsl : (sl v' e 1 ((l ++ r).map cU)).ok B w' := sl_ok.2 ⟨by rw [List.length_map, List.length_append]; exact hown', fun c hc => by
    obtain ⟨q, _, rfl⟩ := List.mem_map.1 hc
    rfl⟩
  obtain ⟨A9, c9, hv9, _⟩ := (sl_gives v' e 1 ((l ++ r).map cU) B w' hsl).form
  subst hv9
  refine wpIn_value hrun' (hK _ _ (h _ _ _ _ _ (hs.put hN _ ?_)))
  refine hs.ws.turnNew (sl_own _ _ _ _) (fun k hk => ?_) hsl (by rw [sl_blk]; exact hgr)
  rw [sl_blk] at hk ⊢
  rcases hbk with hb | hb
  · exact .inl (by rw [← hk]; exact hb.symm)
  · exact .inr (by have : some k = some w.heap.size := hk.symm.trans hb; injection this with this; omega)
theorem L_bsU {b T e : Nat} {p v r : Value} {l : List UInt8} (hen : lkT TT.en f = some ()) (hx : evs E xs.toList = some args) (hd : Nat.blt d N.n = true) (hp : p = .pointer none ∨ p = .pointer (some ⟨b, 0, none⟩))
    (law : ∀ w, Lib.IsBuilder T e B b (Lib.byteCells l) w → B ≤ w.heap.size → Calls P f args.toArray w fun x w' => x = .returned r ∧ Below B w w') (h : L P ops Q N B w0 ((d, r) :: E) [] rest) :
    L P ops Q N B w0 E [box b T [p, v], sl v e 1 (l.map cU)] (⟨some d, .call { callee := .value (.func f), args := xs, argTypes := ts }, ty, pos, aft, none⟩ :: rest) := by
  have e9 : l.map cU = (Lib.byteCells l).map fun x => [x] := by simp [Lib.byteCells, cU, Function.comp_def]
  rw [e9]
  exact L_bs TT hen hx hd bas_nil hp law h
end
end Go.Proofs.YtacndicgpkeobaaGreatDoor
