/-
  Values of the models of chapter 3 at the document's examples. Conditions: none; no program in sight.
-/
import Derived.Test.YthilaakeimfedaaGreatDoorShTree
import Derived.Test.YthilaakeimfedaaGreatDoorShOwn
import Derived.Test.YthilaakeimfedaaGreatDoorShTreeO
import Derived.Test.YthilaakeimfedaaGreatDoorShRange
import Derived.Test.YthilaakeimfedaaGreatDoorSh
import Derived.Test.YthilaakeimfedaaGreatDoorShArr
import Derived.Test.YthilaakeimfedaaGreatDoorTraj
namespace Go.Proofs.YthilaakeimfedaaGreatDoor
open Go.RowKit

section
variable {P : Program} (T : Tab P) {Q : Exit → Act → World → Prop} {ops : Array Oper} {N : Fr} {B : Nat} {w0 : World} {E : Env} {rs : List Res} {rest : List Oper} {dst : Option Tmp} {ty : TypeId} {pos : String} {aft : Array Edge}
/-! ### Ends of a function that holds a loop over a function -/
end
end Go.Proofs.YthilaakeimfedaaGreatDoor
namespace Go.Proofs.YthilaakeimfedaaGreatDoor
open Go.RowKit
section
variable {P : Program} (T : Tab P) {Q : Exit → Act → World → Prop} {ops : Array Oper} {N : Fr} {B : Nat} {w0 : World} {E : Env} {rs : List Res} {rest : List Oper} {dst : Option Tmp} {ty : TypeId} {pos : String} {aft : Array Edge}
end
end Go.Proofs.YthilaakeimfedaaGreatDoor
namespace Go.Proofs.YthilaakeimfedaaGreatDoor.Kp
open Go.RowKit
section
variable {P : Program} {ops : Array Oper} {N : Fr} {B : Nat} {w0 : World} {E : Env} {rn ro : List Res} {k d : Nat} {o : Oper} {K : Env → List Res → Prop}
end
end Go.Proofs.YthilaakeimfedaaGreatDoor.Kp
namespace Go.Proofs.YthilaakeimfedaaGreatDoor.Kp
open Go.RowKit
section
variable {P : Program} {ops : Array Oper} {N : Fr} {B : Nat} {w0 : World} {E : Env} {rn ro : List Res} {k d : Nat} {o : Oper} {K : Env → List Res → Prop}
theorem perm2 {r a b : Res} {t : List Res} : (r :: a :: b :: t).Perm (a :: b :: r :: t) := perm_front (pre := [a, b])
theorem perm3 {r a b c : Res} {t : List Res} : (r :: a :: b :: c :: t).Perm (a :: b :: c :: r :: t) := perm_front (pre := [a, b, c])
theorem St_alloc (T : Tab P) {u : TypeId} {sz bs : Nat} {ag : Bool} {zs : List Value} {ty : TypeId} {pos : String} {aft : Array Edge} (ho : ops[k]? = some o) (hop : o = ⟨some d, .alloc u, ty, pos, aft, none⟩) (ht : lkT T.ty u = some (ag, sz, bs, zs)) (hN : Nat.blt d N.n = true)
    (h : ∀ g, K ((d, .pointer (some ⟨g, 0, none⟩)) :: E) (box g u zs :: rn)) : St P ops N B w0 ro k K E rn := by
  subst hop
  exact St_lo ho rfl rfl hN (lo_alloc T ht) fun _ _ ⟨g, hv, hr⟩ => by subst hv; subst hr; exact h g
theorem St_call (T : Tab P) {f : FuncId} {xs : Array Operand} {ts : Array TypeId} {args : List Value} {ps : List (Value × Nat × List (List Value))} {v : Value} {ty : TypeId} {pos : String} {aft : Array Edge} (ho : ops[k]? = some o) (hop : o = ⟨some d, .call { callee := .value (.func f), args := xs, argTypes := ts }, ty, pos, aft, none⟩)
    (hen : lkT T.en f = some ()) (hx : evs E xs.toList = some args) (hc : Ct P f args ps (isV v)) (hps : ∀ p ∈ ps, Gives (rn ++ ro) p) (hN : Nat.blt d N.n = true) (h : K ((d, v) :: E) rn) : St P ops N B w0 ro k K E rn := by
  subst hop
  exact St_v ho rfl rfl hN (lo_call T hen hx hc hps isV_sinks) h
theorem C_treeO0 {ι : Type} {id : Nat} {l : List Oper} {Q : Exit → Act → World → Prop} (tr : Tre) (J : ι → Env × List Res) (hm : P.follows .mixedOrders = true) (hsel : Region.noSelect l.toArray = true) (hn : tr.dep = l.toArray.size) (hB : flowT .any l.toArray tr (Array.replicate l.toArray.size false) = true)
    (h : Z P l.toArray N B w0 (fun E' rs' => ∃ i, ∀ a w, Sat N B w0 E' rs' a w → Sat N B w0 (J i).1 (J i).2 a w) ro tr E []) (hc : ∀ i, L P l.toArray Q N B w0 (J i).1 (J i).2 []) : C P Q N B w0 E ro (.region id l.toArray true) :=
  C_treeO (pre := []) tr J hm hsel hn hB (by intro r hr; cases hr) h hc
end
end Go.Proofs.YthilaakeimfedaaGreatDoor.Kp
namespace Go.Proofs.YthilaakeimfedaaGreatDoor
end Go.Proofs.YthilaakeimfedaaGreatDoor
namespace Go.Proofs.YthilaakeimfedaaGreatDoor
open Go.RowKit

section
variable {P : Program} {Q : Exit → Act → World → Prop} {ops : Array Oper} {N : Fr} {B : Nat} {w0 : World} {E : Env} {rs : List Res} {rest : List Oper} {dst : Option Tmp} {ty : TypeId} {pos : String} {aft : Array Edge} {gd : Option (Nat × Bool)}
theorem lo_callC {f : FuncId} {x : Operand} {xs : Array Operand} {ts : Array TypeId} {args caps : List Value} {ps : List (Value × Nat × List (List Value))} {post : Value → List Res → Prop} (hent : Enters P f) (hf : ev E x = some (.func (.func f) #[] caps.toArray)) (hx : evs E xs.toList = some args) (hc : Ct P f (args ++ caps) ps post) (hps : ∀ p ∈ ps, Gives rs p)
    (hsk : ∀ v rs', post v rs' → ∀ r ∈ rs', Sinks r) : Lo P N B w0 E rs ⟨dst, .call { callee := .value x, args := xs, argTypes := ts }, ty, pos, aft, gd⟩ post := by
  intro a w hs
  have hmap := hs.evals hx
  have hmap' : xs.map a.eval = args.toArray := Array.ext' (by rw [Array.toList_map, hmap])
  refine .inr ⟨f, (args ++ caps).toArray, ?_, ?_⟩
  · have h9 := hent (args ++ caps).toArray w
    simp only [execOp, resolve, hs.eval hf, Deferred.ofValue, hmap', Sem.run_bind, Sem.run_pure, Result.andThen_ok]
    simp [invoke, h9]
  · refine (hc w (fun p hp => ?_)).mono ?_
    · exact hs.reads (hps p hp)
    · rintro e w' ⟨v, rs', he, hb, hpost, hok, hown, hd⟩
      exact ⟨v, rs', he, hb, hpost, fun r hr => ⟨hsk v rs' hpost r hr _ _ _ hs.ws.bas (hok r hr), fun k hk => r.ge (hown r hr) (hok r hr) k hk⟩, hd⟩
theorem L_callC {f : FuncId} {d : Nat} {x : Operand} {xs : Array Operand} {ts : Array TypeId} {args caps : List Value} {ps : List (Value × Nat × List (List Value))} {v : Value} (hent : Enters P f) (hf : ev E x = some (.func (.func f) #[] caps.toArray)) (hx : evs E xs.toList = some args) (hc : Ct P f (args ++ caps) ps (isV v)) (hps : ∀ p ∈ ps, Gives rs p)
    (hN : Nat.blt d N.n = true) (h : L P ops Q N B w0 ((d, v) :: E) rs rest) : L P ops Q N B w0 E rs (⟨some d, .call { callee := .value x, args := xs, argTypes := ts }, ty, pos, aft, none⟩ :: rest) :=
  L_lo rfl rfl hN (lo_callC hent hf hx hc hps (fun _ _ hp r hr => by rw [hp.2] at hr; cases hr)) fun u rs' hp => by
    obtain ⟨rfl, rfl⟩ := hp
    exact h
/-! ### Blocks that end together -/
variable {Q' : Exit → Act → World → Prop} {id id2 id3 : Nat} {y : Code}
end
end Go.Proofs.YthilaakeimfedaaGreatDoor
namespace Go.Proofs.YthilaakeimfedaaGreatDoor
open Go.RowKit

def rb (r : Loop) : Bool → Loop
  | true => r
  | false => { r with state := .done, pending := some .ret }
section
variable {P : Program} {N : Fr} {B : Nat} {w0 : World} {E : Env} {rs RC RC' : List Res} {Q : Exit → Act → World → Prop} {ops : Array Oper} {rest : List Oper}
def Rnd2 (P : Program) (B : Nat) (w0 : World) (l : Nat) (r : Loop) (b : Bool) (args : List Value) (K RC RC' : List Res) : Prop :=
  ∀ own w, (∀ k ∈ K, k ∈ own ∧ k.own = false) → WS B w0 (own ++ (lp l r :: RC)) w →
    RoundIn (fc none) 0 P l r.fn ((r.params.zip args.toArray).foldl (fun tmps (x : Tmp × Value) => tmps.setIfInBounds x.1 x.2) r.tmps) r.assign r.body w (fun e w' => e = .returned (.bool b) ∧ WS B w0 (own ++ (lp l (rb r b) :: RC')) w')

/-! ### The caller's side of a round -/
def RQ2 (B : Nat) (w0 : World) (own : List Res) (l : Nat) (r : Loop) (b : Bool) (RC' : List Res) (e : Ending) (w' : World) : Prop := e = .returned (.bool b) ∧ WS B w0 (own ++ (lp l (rb r b) :: RC')) w'
variable {fn : FuncId} {tmps : Array Value} {p D l : Nat} {assign body : Code} {n : Nat}
theorem Rnd2.of {x : Value} {b : Bool} {K : List Res} (htm : tmps.size = n) (hp : Nat.blt p n = true) (hE : ∀ i v, lk E i = some v → tmps.getD i undef = v)
    (h : ∀ own, C P (asQ P l (RQ2 B w0 own l (lrec fn tmps p assign body D) b RC') body) ⟨n, [], some l⟩ B w0 ((p, x) :: E) (lp l (lrec fn tmps p assign body D) :: (K ++ (RC ++ own))) assign) :
    Rnd2 P B w0 l (lrec fn tmps p assign body D) b [x] K RC RC' := by
  intro own w hK hw
  refine roundIn_of_wpIn trivial ?_
  have hp' : p < tmps.size := by rw [htm]; exact blt_lt hp
  refine h own _ w ⟨?_, by simp [htm], rfl, fun i v hv => ?_⟩
  · have h1 := hw.dups (K := K) (fun k hk => ⟨List.mem_append_left _ (hK k hk).1, (hK k hk).2⟩)
    refine h1.perm ?_
    have e1 : (lp l (lrec fn tmps p assign body D) :: (K ++ (RC ++ own))).Perm (K ++ (lp l (lrec fn tmps p assign body D) :: (RC ++ own))) := perm_front
    refine e1.trans (List.Perm.append_left K ?_)
    have e2 : (own ++ (lp l (lrec fn tmps p assign body D) :: RC)).Perm ((lp l (lrec fn tmps p assign body D) :: RC) ++ own) := List.perm_append_comm
    exact e2.symm
  · rw [lk_cons] at hv
    by_cases hi : i = p
    · rw [if_pos hi] at hv
      injection hv with hv
      subst hv; subst hi
      simp [hp']
    · rw [if_neg hi] at hv
      have := hE i v hv
      simpa [Array.getElem?_setIfInBounds_ne (Ne.symm hi)] using this
/-! ### Rounds with numbers -/
/-! ### The statement -/
/-! ### Results that lie in cells -/
theorem q_nilEl {dst : Option Tmp} {ty : TypeId} {pos : String} {aft : Array Edge} {gd : Option (Nat × Bool)} {x : Operand} {v : Value} {m size : Nat} {l : List (List Value)} (hx : ev E x = some (elP v m)) (hg : GvR rs v size l) (hl : 0 < l.length) : Qu P N B w0 E rs ⟨dst, .nilCheck x, ty, pos, aft, gd⟩ (elP v m) := by
  intro a w hs
  obtain ⟨A, cap, rfl, hA⟩ := GvR.form hs.ws hg
  cases A with
  | none =>
    rw [hA rfl] at hl
    cases hl
  | some ad =>
    have h1 := hs.eval hx
    simp only [elP] at h1 ⊢
    simp [execOp, h1]
end
end Go.Proofs.YthilaakeimfedaaGreatDoor
namespace Go.Proofs.YthilaakeimfedaaGreatDoor
def cI (n : Int) : List Value := [.int .i64 n]
def cCp (c : Cp) : List Value := [.int .i64 c.n, .int .i64 c.h, .int .i64 c.b, .int .i64 c.s]
def cRg (r : Rg) : List Value := [.int .i64 r.lo, .int .i64 r.hi]
def cLd (l : Ld) : List Value := [.int .i64 l.n.lo, .int .i64 l.n.hi, .int .i64 l.h.lo, .int .i64 l.h.hi]
def cLg (x : Lg) : List Value := [.int .i64 x.f, .int .i64 x.t, .int .i64 x.s, .int .i64 x.g.o, .int .i64 x.g.h]
theorem rtsL_cells (k : Nat) : (rtsL k).map cRg ++ [cRg (rootR k)] = (rtsL (k + 1)).map cRg := by rw [rtsL_succ, List.map_append]; rfl
theorem rtsL_yes {k : Nat} (h : sqrZ (1000000000 * (rootR k).hi) * sqrZ (1000000000 * (rootR k).hi) < 1000000000 * (rootR k).hi) : (rtsL (k + 1)).map cRg ++ [cRg ⟨sqrZ (1000000000 * (rootR k).lo), sqrZ (1000000000 * (rootR k).hi) + 1⟩] = (rtsL (k + 1 + 1)).map cRg := by rw [root_yes h]; exact rtsL_cells (k + 1)
theorem rtsL_no {k : Nat} (h : ¬ sqrZ (1000000000 * (rootR k).hi) * sqrZ (1000000000 * (rootR k).hi) < 1000000000 * (rootR k).hi) : (rtsL (k + 1)).map cRg ++ [cRg ⟨sqrZ (1000000000 * (rootR k).lo), sqrZ (1000000000 * (rootR k).hi)⟩] = (rtsL (k + 1 + 1)).map cRg := by rw [root_no h]; exact rtsL_cells (k + 1)
theorem rts_cells_len (n : Nat) : ((rts n).map cRg).length = n + 1 := by rw [List.length_map, rts_len]
theorem rts_cell {n k : Nat} (h : k ≤ n) : ((rts n).map cRg)[k]? = some (cRg (rootR k)) := map_get cRg (rts_get h)
theorem rts_tail_cell {n k : Nat} (h : k < n) : (((rts n).map cRg).drop (1 : Int).toNat)[k]? = some (cRg (rootR (k + 1))) := by
  rw [List.getElem?_drop, show (1 : Int).toNat + k = k + 1 by omega]
  exact rts_cell (by omega)
theorem rts_tail_cells_len (n : Nat) : (((rts n).map cRg).drop (1 : Int).toNat).length = n := by
  rw [List.length_drop, rts_cells_len]; omega
theorem ld_cell (l : Ld) {j : Nat} (h : j < 4) : (cLd l)[(j : Int).toNat * 1]? = some (.int .i64 (ldN l j)) := by
  match j, h with
  | 0, _ => rfl
  | 1, _ => rfl
  | 2, _ => rfl
  | 3, _ => rfl
theorem len_map {α : Type} (f : α → List Value) (l : List α) : (l.map f).length = l.length := List.length_map _
theorem shr1 (m : Int) : m.fdiv (2 ^ (min (1 : Int).toNat IntKind.i64.bits)) = m / 2 := Int.fdiv_eq_ediv_of_nonneg _ (by decide : (0:Int) ≤ _)
theorem shr2 (m : Int) : m.fdiv (2 ^ (min (2 : Int).toNat IntKind.i64.bits)) = m / 4 := Int.fdiv_eq_ediv_of_nonneg _ (by decide : (0:Int) ≤ _)
theorem en {a b : Int} (h : a = b) : some (Value.int .i64 a) = some (Value.int .i64 b) := by rw [h]
def cMk (m : Mk) : List Value := [.int .i64 m.s, .int .i64 m.p.lo, .int .i64 m.p.hi]
theorem wr {a b : Int} (h : a = b) (h2 : -9223372036854775808 ≤ b ∧ b ≤ 9223372036854775807) : IntKind.i64.wrap a = b := by subst h; exact IntWalk.i64_in _ (by omega)
theorem shl_n {f n : Nat} (hf : f ≤ 6) (hn : n = 2 ^ f) : IntKind.i64.wrap (1 * 2 ^ (min (f : Int).toNat IntKind.i64.bits)) = (n : Int) := by
  subst hn
  match f, hf with
  | 0, _ => rfl
  | 1, _ => rfl
  | 2, _ => rfl
  | 3, _ => rfl
  | 4, _ => rfl
  | 5, _ => rfl
  | 6, _ => rfl
theorem stepM_cells {n : Nat} {s lo hi : Int} {g : Gs} {ts : List Cp} {ls : List Ld} {k : Nat} {c : Cp} {x : Ld} (h1 : ts[k]? = some c) (h2 : ls[k]? = some x) : ((stepM n s lo hi g ts ls).take k).map cLd ++ [cLd (stepL n s lo hi g c x)] = ((stepM n s lo hi g ts ls).take (k + 1)).map cLd := by
  unfold stepM
  rw [zip_take _ h1 h2, List.map_append]
  rfl
theorem stepM_all {n : Nat} {s lo hi : Int} {g : Gs} {ts : List Cp} {ls : List Ld} {k : Nat} (h : ls.length = ts.length) (hk : ts.length ≤ k) : (stepM n s lo hi g ts ls).take k = stepM n s lo hi g ts ls := List.take_of_length_le (by rw [stepM_len h]; exact hk)
theorem mks_cell {x : Lg} {n k j : Nat} (h : j < k) : ((mksL x n k).map cMk)[j]? = some (cMk (mkM x n j)) := map_get cMk (mksL_get h)
theorem mks_cells (x : Lg) (n k : Nat) : (mksL x n k).map cMk ++ [cMk (mkM x n k)] = (mksL x n (k + 1)).map cMk := by rw [mksL_succ, List.map_append]; rfl
theorem mks_pos {x : Lg} {n k : Nat} (h : x.s > 0) : (mksL x n k).map cMk ++ [cMk ⟨k * x.s / n, ⟨sumM x (k * x.s / n) / x.s, upZ (sumM x (k * x.s / n)) x.s⟩⟩] = (mksL x n (k + 1)).map cMk := by
  rw [← mks_cells]
  unfold mkM
  rw [if_pos h]
theorem mks_zero {x : Lg} {n k : Nat} (h : ¬ x.s > 0) : (mksL x n k).map cMk ++ [cMk ⟨k * x.s / n, ⟨x.f, x.f⟩⟩] = (mksL x n (k + 1)).map cMk := by
  rw [← mks_cells]
  unfold mkM
  rw [if_neg h]
theorem mks_alt {x : Lg} {n k : Nat} (h : x.s > 0) : (mksL x n k).map cMk ++ [cMk ⟨k * x.s / n, ⟨(x.f * x.s + (x.t - x.f) * (k * x.s / n)) / x.s, upZ (x.f * x.s + (x.t - x.f) * (k * x.s / n)) x.s⟩⟩] = (mksL x n (k + 1)).map cMk := by
  rw [← mks_pos h, sum_alt]
def rmk (x : Lg) (n : Nat) : Nat := if x.s = 0 then 1 else n + 1
theorem rmk_zero {x : Lg} {n : Nat} (h : x.s = 0) : (mksL x n (rmk x n)).map cMk = [cMk ⟨0, ⟨x.f, x.f⟩⟩] := by
  unfold rmk
  rw [if_pos h]
  show [cMk (mkM x n (0 : Nat))] = _
  unfold mkM
  rw [if_neg (by omega), h]
  simp
theorem rmk_pos {x : Lg} {n : Nat} (h : x.s ≠ 0) : rmk x n = n + 1 := if_neg h
def stC (x : Lg) (n k : Nat) (y : Value) : List Value := [.int .i64 (mkM x n k).s, .int .i64 (mkM x n k).p.lo, .int .i64 (mkM x n k).p.hi, y, .int .i64 (lowM x n k)]
theorem mks_tail_cell {x : Lg} {n j : Nat} (h : j < n) : (((mksL x n (n + 1)).map cMk).drop (1 : Int).toNat)[j]? = some (cMk (mkM x n ((j : Int) + 1))) := by
  rw [List.getElem?_drop, show (1 : Int).toNat + j = j + 1 by omega]
  exact mks_cell (by omega)
theorem mks_tail_len (x : Lg) (n : Nat) : (((mksL x n (n + 1)).map cMk).drop (1 : Int).toNat).length = n := by
  rw [List.length_drop, List.length_map, mksL_len]; omega
theorem mks_len (x : Lg) (n k : Nat) : ((mksL x n k).map cMk).length = k := by rw [List.length_map, mksL_len]
theorem rmk_one {x : Lg} {n : Nat} (h : x.s = 0) : rmk x n = 1 := if_pos h
theorem one_map {α : Type} (f : α → List Value) (hf : ∀ a, ∀ c ∈ f a, c.oneCell' = true) (l : List α) : ∀ c ∈ (l.map f).flatten, c.oneCell' = true := fun c hc => by
  obtain ⟨x, hx, hcx⟩ := List.mem_flatten.1 hc
  obtain ⟨a, _, rfl⟩ := List.mem_map.1 hx
  exact hf a c hcx
theorem oneLd (l : List Ld) : ∀ c ∈ (l.map cLd).flatten, c.oneCell' = true := one_map cLd (fun a c hc => by
  simp only [cLd, List.mem_cons, List.not_mem_nil, or_false] at hc
  rcases hc with rfl | rfl | rfl | rfl <;> rfl) l
theorem oneCp (l : List Cp) : ∀ c ∈ (l.map cCp).flatten, c.oneCell' = true := one_map cCp (fun a c hc => by
  simp only [cCp, List.mem_cons, List.not_mem_nil, or_false] at hc
  rcases hc with rfl | rfl | rfl | rfl <;> rfl) l
end Go.Proofs.YthilaakeimfedaaGreatDoor
namespace Go.Proofs.YthilaakeimfedaaGreatDoor
theorem rmk_gt (x : Lg) (n : Nat) : 0 < rmk x n := by unfold rmk; split <;> omega
theorem stM_end {ts : List Cp} {ls : List Ld} {x : Lg} {f n k : Nat} (hn : n = 2 ^ f) (hk : k + 1 = rmk x n) : stM f ts ls x n k = loadedM ts ls x f := by
  by_cases h0 : x.s = 0
  · rw [rmk_one h0] at hk
    have : k = 0 := by omega
    subst this
    rw [loadedM_zero h0]
    rfl
  · rw [rmk_pos h0] at hk
    have : k = n := by omega
    subst this
    rw [loadedM_pos h0 hn]
theorem rootS_at {a b c d e : Int} (h1 : 0 ≤ c ∧ c * c ≤ 1000000000 * a ∧ 1000000000 * a < (c + 1) * (c + 1)) (h2 : 0 ≤ d ∧ d * d ≤ 1000000000 * b ∧ 1000000000 * b < (d + 1) * (d + 1)) (he : (if d * d < 1000000000 * b then d + 1 else d) = e) : rootS ⟨a, b⟩ = ⟨c, e⟩ := by
  unfold rootS
  rw [← sqrZ_uniq (r := c) h1.1 h1.2.1 h1.2.2, ← sqrZ_uniq (r := d) h2.1 h2.2.1 h2.2.2, he]
theorem rv0 : rootR 0 = ⟨500000000, 500000000⟩ := rfl
theorem rv1 : rootR 1 = ⟨707106781, 707106782⟩ := by
  show rootS (rootR 0) = _
  rw [rv0]
  exact rootS_at (d := 707106781) (by decide) (by decide) (by decide)
theorem rv2 : rootR 2 = ⟨840896415, 840896416⟩ := by
  show rootS (rootR 1) = _
  rw [rv1]
  exact rootS_at (d := 840896415) (by decide) (by decide) (by decide)
theorem rv3 : rootR 3 = ⟨917004043, 917004044⟩ := by
  show rootS (rootR 2) = _
  rw [rv2]
  exact rootS_at (d := 917004043) (by decide) (by decide) (by decide)
theorem rv4 : rootR 4 = ⟨957603280, 957603282⟩ := by
  show rootS (rootR 3) = _
  rw [rv3]
  exact rootS_at (d := 957603281) (by decide) (by decide) (by decide)
theorem rv5 : rootR 5 = ⟨978572061, 978572063⟩ := by
  show rootS (rootR 4) = _
  rw [rv4]
  exact rootS_at (d := 978572062) (by decide) (by decide) (by decide)
theorem rv6 : rootR 6 = ⟨989228012, 989228014⟩ := by
  show rootS (rootR 5) = _
  rw [rv5]
  exact rootS_at (d := 989228013) (by decide) (by decide) (by decide)
theorem rv7 : rootR 7 = ⟨994599422, 994599424⟩ := by
  show rootS (rootR 6) = _
  rw [rv6]
  exact rootS_at (d := 994599423) (by decide) (by decide) (by decide)
theorem rv8 : rootR 8 = ⟨997296055, 997296057⟩ := by
  show rootS (rootR 7) = _
  rw [rv7]
  exact rootS_at (d := 997296056) (by decide) (by decide) (by decide)
theorem rv9 : rootR 9 = ⟨998647112, 998647114⟩ := by
  show rootS (rootR 8) = _
  rw [rv8]
  exact rootS_at (d := 998647113) (by decide) (by decide) (by decide)
theorem rv10 : rootR 10 = ⟨999323327, 999323329⟩ := by
  show rootS (rootR 9) = _
  rw [rv9]
  exact rootS_at (d := 999323328) (by decide) (by decide) (by decide)
theorem rts10 : rts 10 = [⟨500000000, 500000000⟩, ⟨707106781, 707106782⟩, ⟨840896415, 840896416⟩, ⟨917004043, 917004044⟩, ⟨957603280, 957603282⟩, ⟨978572061, 978572063⟩, ⟨989228012, 989228014⟩, ⟨994599422, 994599424⟩, ⟨997296055, 997296057⟩, ⟨998647112, 998647114⟩, ⟨999323327, 999323329⟩] := by
  show [rootR 0, rootR 1, rootR 2, rootR 3, rootR 4, rootR 5, rootR 6, rootR 7, rootR 8, rootR 9, rootR 10] = _
  rw [rv0, rv1, rv2, rv3, rv4, rv5, rv6, rv7, rv8, rv9, rv10]
theorem dv600 : decM 300 600 10 = ⟨707106781, 707106782⟩ := by
  unfold decM
  rw [rts10, rv10]
  kernel_rfl
end Go.Proofs.YthilaakeimfedaaGreatDoor
