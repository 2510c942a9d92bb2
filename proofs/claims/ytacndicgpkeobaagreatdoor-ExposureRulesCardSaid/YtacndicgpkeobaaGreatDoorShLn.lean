/-
  The calculus: a range over a function whose rounds leave memory of a kind; such a range where worlds are asked what they hold. Conditions: none; no program in sight.
-/
import Derived.Test.YtacndicgpkeobaaGreatDoorShStop
import Derived.Test.YtacndicgpkeobaaGreatDoorShBld
import Derived.Test.YtacndicgpkeobaaGreatDoorShKn
namespace Go.Proofs.YtacndicgpkeobaaGreatDoor
open Go.RowKit
theorem CtQ.ofM {P : Program} {K : World → Prop} {N : Nat} {f : FuncId} {fn : Func} {c : Code} {args : List Value} {ps : List (Value × Nat × List (List Value))} {post : Value → List Res → Prop} (hf : P.funcs[f]? = some fn) (hb : fn.body = some c) (hN : fn.ntmps = N) (hle : Nat.ble args.length N = true)
    (h : ∀ w, K w → C P (bodyPostM (fc none) 0 P fn (PostOf post w)) ⟨N, [], none⟩ w.heap.size w (argE 0 args) (rdOf ps) c) : CtQ K P f args ps post := by
  intro w hk hw
  refine (callsIn_wide (n := 0)).1 (callsIn_of_wp_marks hf hb trivial (h w hk _ _ ⟨⟨Below.refl _ _, Nat.le_refl _, fun r hr => ?_, disj_rd ps⟩, ?_, rfl, fun i v hv => ?_⟩))
  · obtain ⟨p, hp, rfl⟩ := List.mem_map.1 hr
    exact rd_ok.2 (hw p hp)
  · have := Nat.ble_eq.mp hle
    simp [hN]
    omega
  · obtain ⟨_, h1⟩ := lk_argE args 0 i v hv
    simp only [Nat.sub_zero] at h1
    have hl := (List.getElem?_eq_some_iff.1 h1).1
    have h2 := List.getElem?_eq_getElem hl
    rw [h1] at h2
    injection h2 with h2
    simp [Array.getElem?_append, hl, h2]
section
variable {P : Program} {N : Fr} {B : Nat} {w0 : World} {E : Env} {rs RC RC' : List Res} {Q : Exit → Act → World → Prop} {ops : Array Oper} {rest : List Oper}
def Rnd3 (P : Program) (B : Nat) (w0 : World) (l : Nat) (r : Loop) (b : Bool) (args : List Value) (RC : List Res) (S : List Res → Prop) : Prop :=
  ∀ own w, WS B w0 (own ++ (lp l r :: RC)) w →
    RoundIn (fc none) 0 P l r.fn ((r.params.zip args.toArray).foldl (fun tmps (x : Tmp × Value) => tmps.setIfInBounds x.1 x.2) r.tmps) r.assign r.body w (fun e w' => e = .returned (.bool b) ∧ ∃ RC', S RC' ∧ WS B w0 (own ++ (lp l (rb r b) :: RC')) w')
theorem L_yield3 {n : Nat} {dl : List Deferred} {l d : Nat} {r : Loop} {b : Bool} {args : List Value} {S : List Res → Prop} {x : Operand} {ys : Array Operand} {ts : Array TypeId} {ty : TypeId} {pos : String} {aft : Array Edge} (own : List Res) (hf : ev E x = some (.func (.yield l) #[] #[])) (hx : evs E ys.toList = some args)
    (hsz : args.length = r.params.size) (hR : Rnd3 P B w0 l r b args RC S) (hN : Nat.blt d n = true) (h : ∀ RC', S RC' → L P ops Q ⟨n, dl, none⟩ B w0 ((d, .bool b) :: E) (own ++ (lp l (rb r b) :: RC')) rest) :
    L P ops Q ⟨n, dl, none⟩ B w0 E (own ++ (lp l r :: RC)) (⟨some d, .call { callee := .value x, args := ys, argTypes := ts }, ty, pos, aft, none⟩ :: rest) := by
  intro a w hs
  refine wpListIn_plain rfl fun KK hKK => ?_
  have hmap := hs.evals hx
  have hmap' : ys.map a.eval = args.toArray := Array.ext' (by rw [Array.toList_map, hmap])
  have hl := (lp_ok.1 (hs.has (r := lp l r) (List.mem_append_right _ List.mem_cons_self))).2
  have hy := run_yield (P := P) (args := args.toArray) hl (by simpa using hsz)
  have hrun : (execOp a.eval ⟨some d, .call { callee := .value x, args := ys, argTypes := ts }, ty, pos, aft, none⟩).run P w = .ok (.round l r.fn ((r.params.zip args.toArray).foldl (fun tmps (x : Tmp × Value) => tmps.setIfInBounds x.1 x.2) r.tmps) r.assign r.body) w := by
    simp only [execOp, resolve, hs.eval hf]
    simp [hmap', invoke, Deferred.ofValue, hy]
  refine ⟨fun _ _ => trivial, ?_⟩
  rw [semAt_nd _ _ _ (nd_of hrun (fun d hd => by cases hd)), hrun]
  refine ⟨fc_depth, (hR own w hs.ws).mono ?_⟩
  rintro e w' ⟨rfl, RC', hS, hw'⟩
  exact hKK _ _ (h RC' hS _ _ (hs.put hN (.bool b) hw'))
def RQ3 (B : Nat) (w0 : World) (own : List Res) (l : Nat) (r : Loop) (b : Bool) (S : List Res → Prop) (e : Ending) (w' : World) : Prop := e = .returned (.bool b) ∧ ∃ RC', S RC' ∧ WS B w0 (own ++ (lp l (rb r b) :: RC')) w'
variable {fn : FuncId} {tmps : Array Value} {p D l : Nat} {assign body : Code} {n : Nat} {S : List Res → Prop}
theorem Rnd3.of {x : Value} {b : Bool} (htm : tmps.size = n) (hp : Nat.blt p n = true) (hE : ∀ i v, lk E i = some v → tmps.getD i undef = v)
    (h : ∀ own, C P (asQ P l (RQ3 B w0 own l (lrec fn tmps p assign body D) b S) body) ⟨n, [], some l⟩ B w0 ((p, x) :: E) (lp l (lrec fn tmps p assign body D) :: (RC ++ own)) assign) :
    Rnd3 P B w0 l (lrec fn tmps p assign body D) b [x] RC S := by
  intro own w hw
  refine roundIn_of_wpIn trivial ?_
  have hp' : p < tmps.size := by rw [htm]; exact blt_lt hp
  refine h own _ w ⟨?_, by simp [htm], rfl, fun i v hv => ?_⟩
  · refine hw.perm ?_
    have e2 : (own ++ (lp l (lrec fn tmps p assign body D) :: RC)).Perm ((lp l (lrec fn tmps p assign body D) :: RC) ++ own) := List.perm_append_comm
    exact e2.symm
  · rw [lk_cons] at hv
    by_cases hi : i = p
    · rw [if_pos hi] at hv
      injection hv with hv
      subst hv; subst hi
      simp [hp']
    · rw [if_neg hi] at hv
      have := hE i v hv
      simpa [Array.getElem?_setIfInBounds_ne (Ne.symm hi)] using this
theorem endR3 {own : List Res} {b : Bool} (hb : b = true) (RC' : List Res) (he : S RC') (hsub : ∀ w, WS B w0 rs w → WS B w0 (lp l (brec fn tmps p assign body D) :: (RC' ++ own)) w) :
    ∀ a w, Sat ⟨n, [], some l⟩ B w0 E rs a w → roundPost P l (RQ3 B w0 own l (lrec fn tmps p assign body D) b S) .normal a w := by
  intro a w hs
  subst hb
  have h1 := hsub w hs.ws
  have hl := (lp_ok.1 (h1.res _ List.mem_cons_self)).2
  refine ⟨_, _, run_endRound none hl, rfl, RC', he, ?_⟩
  have h2 : WS B w0 (lp l (lrec fn tmps p assign body D) :: (RC' ++ own)) _ := h1.turnLoop
  refine h2.perm ?_
  have e2 : (own ++ (lp l (lrec fn tmps p assign body D) :: RC')).Perm ((lp l (lrec fn tmps p assign body D) :: RC') ++ own) := List.perm_append_comm
  exact e2
theorem stopR3 {own : List Res} {b : Bool} (hb : b = false) (RC' : List Res) (he : S RC') (hsub : ∀ w, WS B w0 rs w → WS B w0 (lp l (brec fn tmps p assign body D) :: (RC' ++ own)) w) :
    ∀ a w, Sat ⟨n, [], some l⟩ B w0 E rs a w → roundPost P l (RQ3 B w0 own l (lrec fn tmps p assign body D) b S) .ret a w := by
  intro a w hs
  subst hb
  have h1 := hsub w hs.ws
  have hl := (lp_ok.1 (h1.res _ List.mem_cons_self)).2
  refine ⟨_, _, run_endRound (some .ret) hl, rfl, RC', he, ?_⟩
  have h2 : WS B w0 (lp l (rb (lrec fn tmps p assign body D) false) :: (RC' ++ own)) _ := h1.turnLoop
  refine h2.perm ?_
  exact (List.perm_append_comm : (own ++ (lp l (rb (lrec fn tmps p assign body D) false) :: RC')).Perm ((lp l (rb (lrec fn tmps p assign body D) false) :: RC') ++ own))
theorem wrT {a b : Int} (h : a = b) (h2 : -9223372036854775808 ≤ b ∧ b ≤ 9223372036854775807) : IntKind.i64.wrap a = b := by subst h; exact IntWalk.i64_in _ (by omega)
theorem takeV_s (A : Option Addr) (n c k : Nat) : takeV (.slice A n c) k = .slice A k c := by
  unfold takeV
  have e : (if c = 0 then A else A.map (·.add 0)) = A := by
    split
    · rfl
    · cases A with
      | none => rfl
      | some a => exact congrArg some (add_zero a)
  simp only [e]
def FinL (St Sp : Nat → List Res → Prop) (go : Nat → Bool) (M : Nat) (b : Bool) (rc : List Res) : Prop := (b = true ∧ (∀ τ, τ < M → go τ = true) ∧ St M rc) ∨ (b = false ∧ ∃ σ, σ < M ∧ go σ = false ∧ (∀ τ, τ < σ → go τ = true) ∧ Sp σ rc)
theorem FinL_true {St Sp : Nat → List Res → Prop} {go : Nat → Bool} {M : Nat} {rc : List Res} (h : FinL St Sp go M true rc) : (∀ τ, τ < M → go τ = true) ∧ St M rc := by
  rcases h with ⟨_, h⟩ | ⟨h, _⟩
  · exact h
  · cases h
theorem FinL_false {St Sp : Nat → List Res → Prop} {go : Nat → Bool} {M : Nat} {rc : List Res} (h : FinL St Sp go M false rc) : ∃ σ, σ < M ∧ go σ = false ∧ (∀ τ, τ < σ → go τ = true) ∧ Sp σ rc := by
  rcases h with ⟨h, _⟩ | ⟨_, h⟩
  · cases h
  · exact h
end
section
variable {P : Program} (T : Tab P) {N : Fr} {B : Nat} {w0 : World} {E : Env} {rs : List Res} {fn : Func} {p q c : Nat} {t t2 t3 bt b2 b3 : TypeId} {sz bs g s2 s3 x2 x3 g2 g3 : Nat} {zs xs z2 z3 : List Value} {u v : Value}
theorem res_agg {a : Act} {w : World} (hs : Sat N B w0 E rs a w) (hE : lk E p = some (.pointer (some ⟨g, 0, none⟩))) (ht : lkT T.ty t = some (true, sz, bs, zs)) (hr : box g bt xs ∈ rs) (hl : xs.length = sz) : a.tmps[p]?.getD undef = .pointer (some ⟨g, 0, none⟩) ∧ (loadVar t ⟨g, 0, none⟩).run P w = .ok (.agg xs.toArray) w := by
  refine ⟨by simpa using hs.env p _ hE, run_loadVarA T (w := w) (ad := ⟨g, 0, none⟩) (cs := xs) ht hl (fun j v hj => ?_)⟩
  rw [Addr.add_lit, box_cell (hs.has hr) (0 + j), Nat.zero_add]
  exact hj
theorem res_one {a : Act} {w : World} (hs : Sat N B w0 E rs a w) (hE : lk E p = some (.pointer (some ⟨g, 0, none⟩))) (ht : lkT T.ty t = some (false, sz, bs, zs)) (hr : box g bt [u] ∈ rs) : a.tmps[p]?.getD undef = .pointer (some ⟨g, 0, none⟩) ∧ (loadVar t ⟨g, 0, none⟩).run P w = .ok u w :=
  ⟨by simpa using hs.env p _ hE, run_loadVar1 T ht (box_cell (hs.has hr) 0)⟩
theorem resACC (hf : fn.results = #[.cell p t, .cell q t2, .cell c t3]) (hE : lk E p = some (.pointer (some ⟨g, 0, none⟩))) (hE2 : lk E q = some (.pointer (some ⟨g2, 0, none⟩))) (hE3 : lk E c = some (.pointer (some ⟨g3, 0, none⟩))) (ht : lkT T.ty t = some (true, sz, bs, zs)) (ht2 : lkT T.ty t2 = some (false, s2, x2, z2)) (ht3 : lkT T.ty t3 = some (false, s3, x3, z3)) (hr : box g bt xs ∈ rs) (hr2 : box g2 b2 [u] ∈ rs) (hr3 : box g3 b3 [v] ∈ rs) (hl : xs.length = sz) :
    ∀ a w, Sat N B w0 E rs a w → (results fn a.tmps).run P w = .ok (.tuple #[.agg xs.toArray, u, v]) w := by
  intro a w hs
  obtain ⟨h1, h2⟩ := res_agg T hs hE ht hr hl
  obtain ⟨h3, h4⟩ := res_one T hs hE2 ht2 hr2
  obtain ⟨h5, h6⟩ := res_one T hs hE3 ht3 hr3
  simp [results, hf, h1, h3, h5, asAddr, h2, h4, h6]
theorem resATT (hf : fn.results = #[.cell p t, .tmp q, .tmp c]) (hE : lk E p = some (.pointer (some ⟨g, 0, none⟩))) (hE2 : lk E q = some u) (hE3 : lk E c = some v) (ht : lkT T.ty t = some (true, sz, bs, zs)) (hr : box g bt xs ∈ rs) (hl : xs.length = sz) :
    ∀ a w, Sat N B w0 E rs a w → (results fn a.tmps).run P w = .ok (.tuple #[.agg xs.toArray, u, v]) w := by
  intro a w hs
  obtain ⟨h1, h2⟩ := res_agg T hs hE ht hr hl
  have h3 : a.tmps[q]?.getD undef = u := by simpa using hs.env q _ hE2
  have h5 : a.tmps[c]?.getD undef = v := by simpa using hs.env c _ hE3
  simp [results, hf, h1, h3, h5, asAddr, h2]
end
end Go.Proofs.YtacndicgpkeobaaGreatDoor
