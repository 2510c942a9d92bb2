/-
  The calculus: a package-level map that is only read: a look at it, a range over it; functions that ask what it holds. Conditions: none; no program in sight.
-/
import Derived.Test.YtacndicgpkeobaaGreatDoorShTree
import Derived.Test.YtacndicgpkeobaaGreatDoorShOwn
import Derived.Laws.CopyRow
import Derived.Test.YtacndicgpkeobaaGreatDoorSh
import Derived.Test.YtacndicgpkeobaaGreatDoorShTreeO
import Derived.Test.YtacndicgpkeobaaGreatDoorShPair
import Derived.Laws.IdiomRangeMap
namespace Go.Proofs.YtacndicgpkeobaaGreatDoor
open Go.RowKit

theorem flat_put (size : Nat) (cs : List Value) (hc : cs.length = size) : ∀ (l : List (List Value)) (i : Nat), (∀ x ∈ l, x.length = size) → i < l.length → (l.set i cs).flatten = l.flatten.take (i * size) ++ cs ++ l.flatten.drop (i * size + size)
  | [], i, _, hi => by simp at hi
  | x :: t, 0, h, _ => by
    have hx := h x List.mem_cons_self
    rw [List.set_cons_zero, List.flatten_cons, List.flatten_cons, Nat.zero_mul, Nat.zero_add, List.take_zero, List.nil_append, ← hx, List.drop_left]
  | x :: t, i + 1, h, hi => by
    have hx := h x List.mem_cons_self
    have ih := flat_put size cs hc t i (fun y hy => h y (List.mem_cons_of_mem _ hy)) (by simpa using hi)
    rw [List.set_cons_succ, List.flatten_cons, List.flatten_cons, ih]
    have e1 : (i + 1) * size = x.length + i * size := by rw [Nat.add_mul, hx]; omega
    rw [e1, List.take_length_add_append, Nat.add_assoc, List.drop_length_add_append]
    simp
section
variable {P : Program} (T : Tab P) {Q : Exit → Act → World → Prop} {ops : Array Oper} {N : Fr} {B : Nat} {w0 : World} {E : Env} {rs : List Res} {rest : List Oper} {dst : Option Tmp} {ty : TypeId} {pos : String} {aft : Array Edge}
theorem L_storeEl {t e : TypeId} {ag : Bool} {sz bs n i : Nat} {zs : List Value} {x y : Operand} {l : List (List Value)} {cs : List Value} {v u : Value} (ht : lkT T.ty t = some (ag, sz, bs, zs)) (hx : ev E x = some (elP v n)) (hy : ev E y = some u) (hc : u.cells.toList = cs)
    (hl : Nat.beq cs.length sz = true) (h1 : cs.all (·.oneCell') = true) (hi : i < l.length) (hn : n = i * sz) (h : L P ops Q N B w0 E (sl v e sz (l.set i cs) :: rs) rest) :
    L P ops Q N B w0 E (sl v e sz l :: rs) (⟨none, .store t x y, ty, pos, aft, none⟩ :: rest) := by
  subst hn
  intro a w hs
  refine wpListIn_plain rfl fun K hK => ?_
  have hsz := T.sizeOf ht w
  simp only at hsz
  have hown := hs.has (r := sl v e sz l) List.mem_cons_self
  obtain ⟨ho, hall⟩ := sl_ok.1 hown
  have hl' := Nat.eq_of_beq_eq_true hl
  have hfl : l.flatten.length = l.length * sz := ho.1
  rcases ho.2 with ⟨hv, hn0⟩ | ⟨g, cap, cur, hv, hb, hgg, hc1, hc2, hc3, hc4⟩
  · omega
  have hle : i * sz + sz ≤ l.length * sz := by
    have := Nat.mul_le_mul_right sz (show i + 1 ≤ l.length from hi)
    rw [Nat.add_mul, Nat.one_mul] at this
    exact this
  have hle2 : l.length * sz ≤ cap * sz := Nat.mul_le_mul_right sz hc1
  have hst := run_storeCells_at (P := P) g (i * sz) e cs 0 cur w hgg (by rw [hc3]; omega) (by simpa using h1)
  have hvs : u.cells.size = sz := by rw [← hl', ← hc]; simp
  subst hv
  have hx' : a.eval x = .pointer (some (Addr.add ⟨g, 0, none⟩ (i * sz))) := hs.eval hx
  have hadd : Addr.add ⟨g, 0, none⟩ (i * sz) = ⟨g, i * sz, none⟩ := by
    unfold Addr.add
    split
    · next h0 => rw [h0]
    · simp
  rw [hadd] at hx'
  generalize hys : (cur.toList.take (i * sz + 0) ++ cs ++ cur.toList.drop (i * sz + 0 + cs.length)) = ys at hst
  have hrun : (execOp a.eval ⟨none, .store t x y, ty, pos, aft, none⟩).run P w = .ok .skip (w.setRow g ys.toArray) := by
    simp only [execOp, hx', hs.eval hy, Instr.storeAt, Instr.sureAddr, storeVar, Sem.run_bind, Sem.run_pure, Result.andThen_ok, hsz, hvs, hc]
    simp [hst]
  have hcl : cur.toList.length = cap * sz := by rw [Array.length_toList, hc3]
  have hys2 : ys.length = cap * sz := by
    rw [← hys]
    simp only [List.length_append, List.length_take, List.length_drop, hcl]
    omega
  have htake : ys.take (l.length * sz) = (l.set i cs).flatten := by
    rw [flat_put sz cs hl' l i hall hi, ← hc4, ← hys]
    rw [Nat.add_zero, hl', List.take_take, List.drop_take, Nat.min_eq_left (by omega), List.take_append, List.take_append]
    simp only [List.length_append, List.length_take, hcl, hl']
    rw [Nat.min_eq_left (by omega), List.take_of_length_le (l := cs) (by omega), List.take_of_length_le (l := List.take (i * sz) cur.toList) (by rw [List.length_take]; omega)]
  refine wpIn_quiet hrun (hK _ _ (h _ _ (hs.world ?_)))
  refine hs.ws.turn (sl_own _ _ _ _) (by rw [sl_blk, sl_blk]) (sl_own _ _ _ _) (sl_ok.2 ⟨⟨?_, .inr ⟨g, cap, ys.toArray, by rw [List.length_set], hb, setRow_heap w g cur ys.toArray e (0, 0) hgg, by rw [List.length_set]; exact hc1, hc2, by simpa using hys2, by rw [List.length_set]; exact htake⟩⟩, ?_⟩)
    ⟨rfl, rfl, rfl⟩ (by rw [setRow_size]; exact Nat.le_refl _) (fun k _ hne => setRow_other w g k _ (fun e => hne (by rw [sl_blk, e]; rfl)))
  · rw [List.length_set, ← htake, List.length_take, hys2]
    omega
  · intro z hz
    rcases List.mem_or_eq_of_mem_set hz with h9 | h9
    · exact hall z h9
    · rw [h9]; exact hl'
/-! ### Ends of a function that holds a loop over a function -/
theorem ret_of0M {fn : Func} {post : Value → List Res → Prop} {w1 : World} {n : Nat} {v : Value} {rs' : List Res} (hres : ∀ a w, Sat ⟨n, [], none⟩ w1.heap.size w1 E rs a w → (results fn a.tmps).run P w = .ok v w)
    (hsub : ∀ w, WS w1.heap.size w1 rs w → WS w1.heap.size w1 rs' w) (hown : ∀ r ∈ rs', r.own = true) (hp : post v rs') :
    ∀ a w, Sat ⟨n, [], none⟩ w1.heap.size w1 E rs a w → bodyPostM (fc none) 0 P fn (PostOf post w1) .ret a w := by
  intro a w hs
  have h1 := hsub w hs.ws
  show LeavesInM (fc none) 0 P fn a.tmps (PostOf post w1) a.defers .returning w
  rw [hs.dfr]
  exact ⟨v, hres a w hs, v, rs', rfl, hs.ws.bel, hp, h1.res, hown, h1.dis⟩
end
end Go.Proofs.YtacndicgpkeobaaGreatDoor
namespace Go.Proofs.YtacndicgpkeobaaGreatDoor
open Go.RowKit

def takeV (v : Value) (k : Nat) : Value := match v with
  | .slice a _ c => .slice (if c = 0 then a else a.map (·.add 0)) k c
  | u => u
theorem add_zero (a : Addr) : a.add 0 = a := by unfold Addr.add; simp
section
variable {P : Program} (T : Tab P) {Q : Exit → Act → World → Prop} {ops : Array Oper} {N : Fr} {B : Nat} {w0 : World} {E : Env} {rs : List Res} {rest : List Oper} {dst : Option Tmp} {ty : TypeId} {pos : String} {aft : Array Edge} {gd : Option (Nat × Bool)}
theorem q_to {t e m : TypeId} {ag : Bool} {sz bs : Nat} {zs : List Value} {x y : Operand} {v : Value} {l : List (List Value)} {kd : IntKind} {k : Int} (he : lkT T.el t = some (e, m, false)) (ht : lkT T.ty e = some (ag, sz, bs, zs)) (hx : ev E x = some v) (hy : ev E y = some (.int kd k)) (hg : GvR rs v sz l) (h0 : 0 ≤ k) (h1 : k ≤ l.length) :
    Qu P N B w0 E rs ⟨dst, .slice t x none (some y) none, ty, pos, aft, gd⟩ (takeV v k.toNat) := by
  intro a w hs
  obtain ⟨A, cap, hv, hc1, hc2⟩ := (hs.reads hg).form
  have hu : P.underlying t = some (.slice e) := by
    rcases T.el_ok _ (lkT_mem he) with ⟨_, h⟩ | ⟨h, _⟩
    · exact h
    · cases h
  have he' : P.elem t = e := by simp [Program.elem, hu]
  have hu' : P.underlying t = some (.slice (P.elem t)) := by rw [he']; exact hu
  have h3 := T.sizeOf ht w
  simp only at h3
  have hr := run_slice_h (P := P) w t A l.length cap hu' kd k h0 (by omega)
  rw [he', h3] at hr
  have e2 : sliced A 0 k.toNat cap sz = takeV v k.toNat := by
    rw [hv]
    unfold sliced takeV
    simp
  simp only [execOp, hs.eval hx, Option.map_some, Option.map_none, hs.eval hy, hv, Sem.run_bind, run_sliceAt_slice (P := P) w t _ _ _ _ hu', hr, Result.andThen_ok, Sem.run_pure]
  rw [e2, hv]
def CpTo (v : Value) (sz k : Nat) (d : Value) : Prop := (d = v ∧ k = 0) ∨ d = dropV v k sz
theorem CpTo.from {v : Value} {sz k : Nat} : CpTo v sz k (dropV v k sz) := .inr rfl
end
theorem u64_in {m : Int} (h : 0 ≤ m ∧ m ≤ 18446744073709551615) : IntKind.u64.wrap m = m := by
  unfold IntKind.wrap
  simp [IntKind.signed, IntKind.bits]
  omega
theorem wrU {a b : Int} (h : a = b) (h2 : 0 ≤ b ∧ b ≤ 18446744073709551615) : IntKind.u64.wrap a = b := by subst h; exact u64_in h2
end Go.Proofs.YtacndicgpkeobaaGreatDoor
namespace Go.Proofs.YtacndicgpkeobaaGreatDoor
def bAt (s : ByteArray) (i : Nat) : Int := ((s.data[i]?.getD 0).toNat : Int)
theorem bAt_in (s : ByteArray) (i : Nat) : 0 ≤ bAt s i ∧ bAt s i ≤ 255 := by
  unfold bAt
  have := (s.data[i]?.getD 0).toNat_lt
  omega
end Go.Proofs.YtacndicgpkeobaaGreatDoor
namespace Go.Proofs.YtacndicgpkeobaaGreatDoor
open Go.RowKit

abbrev bxV (g : Nat) : Value := .slice (some ⟨g, 0, none⟩) 1 1
theorem box_gives (g : Nat) (t : TypeId) (xs : List Value) : GivesRd (box g t xs) (bxV g) xs.length [xs] := by
  intro B w h
  have h1 := (box_ok.1 h).2
  refine ⟨⟨_, 1, rfl, Nat.le_refl _, by unfold maxLen; omega⟩, fun x hx => by rw [List.mem_singleton.1 hx], fun _ => ⟨⟨g, 0, none⟩, rfl, ⟨1, 1, rfl⟩, (Array.getElem?_eq_some_iff.1 h1).1, fun j u hu => ?_⟩⟩
  rw [List.flatten_cons, List.flatten_nil, List.append_nil] at hu
  have hc := box_cell h j
  rw [Addr.add_lit, Nat.zero_add, hc]
  exact hu
theorem gbx {rs : List Res} {g : Nat} {t : TypeId} {xs : List Value} {n : Nat} (h : box g t xs ∈ rs) (hn : xs.length = n) : GvR rs (bxV g) n [xs] := hn ▸ ⟨_, h, box_gives g t xs⟩
theorem gives_rdOf (ps : List (Value × Nat × List (List Value))) : ∀ p ∈ ps, Gives (rdOf ps) p := fun p hp => ⟨rd p.1 p.2.1 p.2.2, List.mem_map.2 ⟨p, hp, rfl⟩, rd_gives _ _ _⟩
section
variable {P : Program} {Q : Exit → Act → World → Prop} {ops : Array Oper} {N : Fr} {B : Nat} {w0 : World} {E : Env} {rs : List Res} {rest : List Oper} {dst : Option Tmp} {ty : TypeId} {pos : String} {aft : Array Edge} {gd : Option (Nat × Bool)}
theorem lo_callC {f : FuncId} {x : Operand} {xs : Array Operand} {ts : Array TypeId} {args caps : List Value} {ps : List (Value × Nat × List (List Value))} {post : Value → List Res → Prop} (hent : Enters P f) (hf : ev E x = some (.func (.func f) #[] caps.toArray)) (hx : evs E xs.toList = some args) (hc : Ct P f (args ++ caps) ps post) (hps : ∀ p ∈ ps, Gives rs p)
    (hsk : ∀ v rs', post v rs' → ∀ r ∈ rs', Sinks r) : Lo P N B w0 E rs ⟨dst, .call { callee := .value x, args := xs, argTypes := ts }, ty, pos, aft, gd⟩ post := by
  intro a w hs
  have hmap := hs.evals hx
  have hmap' : xs.map a.eval = args.toArray := Array.ext' (by rw [Array.toList_map, hmap])
  refine .inr ⟨f, (args ++ caps).toArray, ?_, ?_⟩
  · have h9 := hent (args ++ caps).toArray w
    simp only [execOp, resolve, hs.eval hf, Deferred.ofValue, hmap', Sem.run_bind, Sem.run_pure, Result.andThen_ok]
    simp [invoke, h9]
  · refine (hc w (fun p hp => ?_)).mono ?_
    · exact hs.reads (hps p hp)
    · rintro e w' ⟨v, rs', he, hb, hpost, hok, hown, hd⟩
      exact ⟨v, rs', he, hb, hpost, fun r hr => ⟨hsk v rs' hpost r hr _ _ _ hs.ws.bas (hok r hr), fun k hk => r.ge (hown r hr) (hok r hr) k hk⟩, hd⟩
theorem L_callC {f : FuncId} {d : Nat} {x : Operand} {xs : Array Operand} {ts : Array TypeId} {args caps : List Value} {ps : List (Value × Nat × List (List Value))} {v : Value} (hent : Enters P f) (hf : ev E x = some (.func (.func f) #[] caps.toArray)) (hx : evs E xs.toList = some args) (hc : Ct P f (args ++ caps) ps (isV v)) (hps : ∀ p ∈ ps, Gives rs p)
    (hN : Nat.blt d N.n = true) (h : L P ops Q N B w0 ((d, v) :: E) rs rest) : L P ops Q N B w0 E rs (⟨some d, .call { callee := .value x, args := xs, argTypes := ts }, ty, pos, aft, none⟩ :: rest) :=
  L_lo rfl rfl hN (lo_callC hent hf hx hc hps (fun _ _ hp r hr => by rw [hp.2] at hr; cases hr)) fun u rs' hp => by
    obtain ⟨rfl, rfl⟩ := hp
    exact h
theorem q_indexS {t : TypeId} {x y : Operand} {s : ByteArray} {k : IntKind} {i : Nat} (ht : P.underlying t = some .string) (hx : ev E x = some (.string s)) (hy : ev E y = some (.int k (i : Int))) (h1 : i < s.size) :
    Qu P N B w0 E rs ⟨dst, .index t x y, ty, pos, aft, gd⟩ (.int .u8 (bAt s i)) := by
  intro a w hs
  have h2 : bAt s i = ((s[i]'h1).toNat : Int) := by
    unfold bAt
    have hi : i < s.data.size := h1
    rw [Array.getElem?_eq_getElem hi]
    rfl
  have h0 : (i : Int) < (s.size : Int) := by omega
  have e := run_index_string (P := P) (w := w) t s k (i : Int) ht
  simp only [execOp, hs.eval hx, hs.eval hy, Sem.run_bind, e]
  simp [h1, h2]
theorem q_neqE {t t' : TypeId} {x y : Operand} {s : ByteArray} (hx : ev E x = some (.string s)) (hy : ev E y = some (.string ⟨#[]⟩)) : Qu P N B w0 E rs ⟨dst, .binOp .neq t x y t', ty, pos, aft, gd⟩ (.bool (decide (1 ≤ s.size))) := by
  refine q_cmp hx hy fun w => ?_
  have g : eqGuard .neq t x y (.string s) (.string ⟨#[]⟩) = pure () := rfl
  have e0 : (⟨#[]⟩ : ByteArray).toList = [] := by simp
  have e : (!(s.toList == (⟨#[]⟩ : ByteArray).toList)) = decide (1 ≤ s.size) := by
    rw [e0]
    by_cases h : 1 ≤ s.size
    · rw [decide_eq_true h]
      have h9 : s.toList ≠ [] := fun hh => by
        have h8 := congrArg List.length hh
        rw [ByteArray.toList_eq, Array.length_toList] at h8
        have h7 : s.size = s.data.size := rfl
        have h6 : s.data.size = 0 := h8
        omega
      cases hl : s.toList with
      | nil => exact absurd hl h9
      | cons => rfl
    · have h0 : s.toList = [] := List.eq_nil_of_length_eq_zero (by rw [ByteArray.toList_eq, Array.length_toList]; have : s.size = s.data.size := rfl; omega)
      rw [decide_eq_false h, h0]
      rfl
  rw [g, binOp_string_neq, e]
  rfl
/-! ### Blocks that end together -/
variable {Q' : Exit → Act → World → Prop} {id id2 id3 : Nat} {y : Code}
theorem L_blk2 (h : C P Q N B w0 E rs y) : L P ops (Exit.inBlock id2 (Exit.inBlock id (Exit.then (y.wpIn (fc N.ro) 0 P Q) Q'))) N B w0 E rs [] := fun a w hs => h a w hs
theorem C_skip_blk2 (h : C P Q N B w0 E rs y) : C P (Exit.inBlock id2 (Exit.inBlock id (Exit.then (y.wpIn (fc N.ro) 0 P Q) Q'))) N B w0 E rs .skip := fun a w hs => wpIn_skip (h a w hs)
end
end Go.Proofs.YtacndicgpkeobaaGreatDoor
namespace Go.Proofs.YtacndicgpkeobaaGreatDoor
open Go.RowKit
section
variable {P : Program} (T : Tab P) {Q : Exit → Act → World → Prop} {ops : Array Oper} {N : Fr} {B : Nat} {w0 : World} {E : Env} {rs : List Res} {rest : List Oper} {dst : Option Tmp} {ty : TypeId} {pos : String} {aft : Array Edge}
end
end Go.Proofs.YtacndicgpkeobaaGreatDoor
namespace Go.Proofs.YtacndicgpkeobaaGreatDoor.Kp
open Go.RowKit
section
variable {P : Program} {ops : Array Oper} {N : Fr} {B : Nat} {w0 : World} {E : Env} {rn ro : List Res} {k d : Nat} {o : Oper} {K : Env → List Res → Prop}
end
end Go.Proofs.YtacndicgpkeobaaGreatDoor.Kp
namespace Go.Proofs.YtacndicgpkeobaaGreatDoor.Kp
open Go.RowKit
section
variable {P : Program} {ops : Array Oper} {N : Fr} {B : Nat} {w0 : World} {E : Env} {rn ro : List Res} {k d : Nat} {o : Oper} {K : Env → List Res → Prop}
theorem St_alloc (T : Tab P) {u : TypeId} {sz bs : Nat} {ag : Bool} {zs : List Value} {ty : TypeId} {pos : String} {aft : Array Edge} (ho : ops[k]? = some o) (hop : o = ⟨some d, .alloc u, ty, pos, aft, none⟩) (ht : lkT T.ty u = some (ag, sz, bs, zs)) (hN : Nat.blt d N.n = true)
    (h : ∀ g, K ((d, .pointer (some ⟨g, 0, none⟩)) :: E) (box g u zs :: rn)) : St P ops N B w0 ro k K E rn := by
  subst hop
  exact St_lo ho rfl rfl hN (lo_alloc T ht) fun _ _ ⟨g, hv, hr⟩ => by subst hv; subst hr; exact h g
theorem St_call (T : Tab P) {f : FuncId} {xs : Array Operand} {ts : Array TypeId} {args : List Value} {ps : List (Value × Nat × List (List Value))} {v : Value} {ty : TypeId} {pos : String} {aft : Array Edge} (ho : ops[k]? = some o) (hop : o = ⟨some d, .call { callee := .value (.func f), args := xs, argTypes := ts }, ty, pos, aft, none⟩)
    (hen : lkT T.en f = some ()) (hx : evs E xs.toList = some args) (hc : Ct P f args ps (isV v)) (hps : ∀ p ∈ ps, Gives (rn ++ ro) p) (hN : Nat.blt d N.n = true) (h : K ((d, v) :: E) rn) : St P ops N B w0 ro k K E rn := by
  subst hop
  exact St_v ho rfl rfl hN (lo_call T hen hx hc hps isV_sinks) h
end
end Go.Proofs.YtacndicgpkeobaaGreatDoor.Kp
namespace Go.Proofs.YtacndicgpkeobaaGreatDoor.Kp
open Go.RowKit
section
variable {P : Program} {ops : Array Oper} {md : Region.Mode} {N : Fr} {B : Nat} {w0 : World} {S : Nat → Prop}
theorem St_mkF {ro : List Res} {k : Nat} {K : Env → List Res → Prop} {E : Env} {rn : List Res} {o : Oper} {d : Tmp} {e size : Nat} {l : List (List Value)} (ho : ops[k]? = some o) (hd : o.dst = some d) (hg : o.guard = none) (hN : Nat.blt d N.n = true) (hq : Lo P N B w0 E (rn ++ ro) o (isSl e size l))
    (h : ∀ A c, K ((d, .slice A l.length c) :: E) (sl (.slice A l.length c) e size l :: rn)) : St P ops N B w0 ro k K E rn := St_lo ho hd hg hN (lo_form2 hq) fun u rs' ⟨A, c, hu, hr⟩ => by
  subst hu; subst hr
  exact h A c
end
end Go.Proofs.YtacndicgpkeobaaGreatDoor.Kp
namespace Go.Proofs.YtacndicgpkeobaaGreatDoor
open Go.RowKit

structure MapE (es : Array MapEntry) (clock : Nat) (l : List (ByteArray × Value)) : Prop where
  old : ∀ e ∈ es.toList, e.born < clock
  nod : (es.toList.map (·.born)).Nodup
  sub : ∀ e ∈ es.toList, ∃ p ∈ l, e.key = .string p.1 ∧ e.val = p.2
  all : ∀ p ∈ l, ∃ e ∈ es.toList, e.key = .string p.1 ∧ e.val = p.2
def lookV (l : List (ByteArray × Value)) (z : Value) (s : ByteArray) : Value := match l.find? (fun p => p.1.data.toList == s.data.toList) with
  | some p => .tuple #[p.2, .bool true]
  | none => .tuple #[z, .bool false]
structure KnB (P : Program) (gk t : Nat) (l : List (ByteArray × Value)) (z : Value) (w : World) (bm : Nat) (es : Array MapEntry) (clock : Nat) : Prop where
  gl : w.cell? ⟨gk, 0, none⟩ = some (.map (some bm))
  hb : w.heap[bm]? = some (.map es clock)
  en : MapE es clock l
  look : ∀ w', w'.heap[bm]? = some (.map es clock) → ∀ s : ByteArray, s.size ≤ maxLen → (Instr.lookup t (.map (some bm)) (.string s) true).run P w' = .ok (lookV l z s) w'
def KnW (P : Program) (gk t : Nat) (l : List (ByteArray × Value)) (z : Value) (w : World) : Prop := ∃ bm es clock, KnB P gk t l z w bm es clock
section
variable {P : Program} {gk t : Nat} {l : List (ByteArray × Value)} {z : Value} {w w' w0 : World} {bm : Nat} {es : Array MapEntry} {clock : Nat}
theorem cell_block {w : World} {b o : Nat} {v : Value} (h : w.cell? ⟨b, o, none⟩ = some v) : b < w.heap.size := by
  rcases Nat.lt_or_ge b w.heap.size with h9 | h9
  · exact h9
  · have h8 : w.heap[b]? = none := Array.getElem?_eq_none h9
    simp [World.cell?, h8] at h
theorem KnB.later (h : KnB P gk t l z w bm es clock) (hb : Below w.heap.size w w') : KnB P gk t l z w' bm es clock := by
  have h1 := cell_block h.gl
  have h2 := (Array.getElem?_eq_some_iff.1 h.hb).1
  exact ⟨by rw [← h.gl]; exact World.cell?_of_block (hb.block gk h1), (hb.block bm h2).trans h.hb, h.en, h.look⟩
theorem KnW.later (h : KnW P gk t l z w) (hb : Below w.heap.size w w') : KnW P gk t l z w' := by
  obtain ⟨bm, es, clock, h⟩ := h
  exact ⟨bm, es, clock, h.later hb⟩
def CtK (P : Program) (gk t : Nat) (l : List (ByteArray × Value)) (z : Value) (f : FuncId) (args : List Value) (ps : List (Value × Nat × List (List Value))) (post : Value → List Res → Prop) : Prop :=
  ∀ w, KnW P gk t l z w → (∀ p ∈ ps, Rdd w p.1 p.2.1 p.2.2) → Calls P f args.toArray w fun e w' => ∃ v rs', e = .returned v ∧ Below w.heap.size w w' ∧ post v rs' ∧ (∀ r ∈ rs', r.ok w.heap.size w') ∧ (∀ r ∈ rs', r.own = true) ∧ Disj rs'
theorem CtK.of {N : Nat} {f : FuncId} {fn : Func} {c : Code} {args : List Value} {ps : List (Value × Nat × List (List Value))} {post : Value → List Res → Prop} (hf : P.funcs[f]? = some fn) (hb : fn.body = some c) (hN : fn.ntmps = N) (hle : Nat.ble args.length N = true)
    (h : ∀ w, KnW P gk t l z w → C P (bodyPost P fn (PostOf post w)) ⟨N, [], none⟩ w.heap.size w (argE 0 args) (rdOf ps) c) : CtK P gk t l z f args ps post := by
  intro w hk hw
  have h9 : Ct P f args ps post ∨ True := .inr trivial
  clear h9
  refine calls_of_wp hf hb ((wpIn_wide (n := 0)).1 (h w hk _ _ ⟨⟨Below.refl _ _, Nat.le_refl _, fun r hr => ?_, disj_rd ps⟩, ?_, rfl, fun i v hv => ?_⟩))
  · obtain ⟨p, hp, rfl⟩ := List.mem_map.1 hr
    exact rd_ok.2 (hw p hp)
  · have := Nat.ble_eq.mp hle
    simp [hN]
    omega
  · obtain ⟨_, h1⟩ := lk_argE args 0 i v hv
    simp only [Nat.sub_zero] at h1
    have hl := (List.getElem?_eq_some_iff.1 h1).1
    have h2 := List.getElem?_eq_getElem hl
    rw [h1] at h2
    injection h2 with h2
    simp [Array.getElem?_append, hl, h2]
end
section
variable {P : Program} {N : Fr} {B : Nat} {w0 : World} {E : Env} {rs : List Res} {Q : Exit → Act → World → Prop} {ops : Array Oper} {rest : List Oper} {dst : Option Nat} {ty : TypeId} {pos : String} {aft : Array Edge} {gd : Option (Nat × Bool)}
variable {gk mt : Nat} {ml : List (ByteArray × Value)} {mz : Value} {bm : Nat} {es : Array MapEntry} {clock : Nat}
end
end Go.Proofs.YtacndicgpkeobaaGreatDoor
