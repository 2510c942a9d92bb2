/-
  The calculus: a range over a function out of which a round may return. Conditions: none; no program in sight.
-/
import Derived.Test.YtdmnejfpbbmcaaaSh
import Derived.Test.YtdmnejfpbbmcaaaShCopy
namespace Go.Proofs.Ytdmnejfpbbmcaaa
def bAt (s : ByteArray) (i : Nat) : Int := ((s.data[i]?.getD 0).toNat : Int)
theorem bAt_in (s : ByteArray) (i : Nat) : 0 ≤ bAt s i ∧ bAt s i ≤ 255 := by
  unfold bAt
  have := (s.data[i]?.getD 0).toNat_lt
  omega
end Go.Proofs.Ytdmnejfpbbmcaaa
namespace Go.Proofs.Ytdmnejfpbbmcaaa
open Go.RowKit

abbrev bxV (g : Nat) : Value := .slice (some ⟨g, 0, none⟩) 1 1
theorem box_gives (g : Nat) (t : TypeId) (xs : List Value) : GivesRd (box g t xs) (bxV g) xs.length [xs] := by
  intro B w h
  have h1 := (box_ok.1 h).2
  refine ⟨⟨_, 1, rfl, Nat.le_refl _, by unfold maxLen; omega⟩, fun x hx => by rw [List.mem_singleton.1 hx], fun _ => ⟨⟨g, 0, none⟩, rfl, ⟨1, 1, rfl⟩, (Array.getElem?_eq_some_iff.1 h1).1, fun j u hu => ?_⟩⟩
  rw [List.flatten_cons, List.flatten_nil, List.append_nil] at hu
  have hc := box_cell h j
  rw [Addr.add_lit, Nat.zero_add, hc]
  exact hu
theorem gbx {rs : List Res} {g : Nat} {t : TypeId} {xs : List Value} {n : Nat} (h : box g t xs ∈ rs) (hn : xs.length = n) : GvR rs (bxV g) n [xs] := hn ▸ ⟨_, h, box_gives g t xs⟩
theorem gives_rdOf (ps : List (Value × Nat × List (List Value))) : ∀ p ∈ ps, Gives (rdOf ps) p := fun p hp => ⟨rd p.1 p.2.1 p.2.2, List.mem_map.2 ⟨p, hp, rfl⟩, rd_gives _ _ _⟩
section
variable {P : Program} {Q : Exit → Act → World → Prop} {ops : Array Oper} {N : Fr} {B : Nat} {w0 : World} {E : Env} {rs : List Res} {rest : List Oper} {dst : Option Tmp} {ty : TypeId} {pos : String} {aft : Array Edge} {gd : Option (Nat × Bool)}
theorem lo_callC {f : FuncId} {x : Operand} {xs : Array Operand} {ts : Array TypeId} {args caps : List Value} {ps : List (Value × Nat × List (List Value))} {post : Value → List Res → Prop} (hent : Enters P f) (hf : ev E x = some (.func (.func f) #[] caps.toArray)) (hx : evs E xs.toList = some args) (hc : Ct P f (args ++ caps) ps post) (hps : ∀ p ∈ ps, Gives rs p)
    (hsk : ∀ v rs', post v rs' → ∀ r ∈ rs', Sinks r) : Lo P N B w0 E rs ⟨dst, .call { callee := .value x, args := xs, argTypes := ts }, ty, pos, aft, gd⟩ post := by
  intro a w hs
  have hmap := hs.evals hx
  have hmap' : xs.map a.eval = args.toArray := Array.ext' (by rw [Array.toList_map, hmap])
  refine .inr ⟨f, (args ++ caps).toArray, ?_, ?_⟩
  · have h9 := hent (args ++ caps).toArray w
    simp only [execOp, resolve, hs.eval hf, Deferred.ofValue, hmap', Sem.run_bind, Sem.run_pure, Result.andThen_ok]
    simp [invoke, h9]
  · refine (hc w (fun p hp => ?_)).mono ?_
    · exact hs.reads (hps p hp)
    · rintro e w' ⟨v, rs', he, hb, hpost, hok, hown, hd⟩
      exact ⟨v, rs', he, hb, hpost, fun r hr => ⟨hsk v rs' hpost r hr _ _ _ hs.ws.bas (hok r hr), fun k hk => r.ge (hown r hr) (hok r hr) k hk⟩, hd⟩
theorem L_callC {f : FuncId} {d : Nat} {x : Operand} {xs : Array Operand} {ts : Array TypeId} {args caps : List Value} {ps : List (Value × Nat × List (List Value))} {v : Value} (hent : Enters P f) (hf : ev E x = some (.func (.func f) #[] caps.toArray)) (hx : evs E xs.toList = some args) (hc : Ct P f (args ++ caps) ps (isV v)) (hps : ∀ p ∈ ps, Gives rs p)
    (hN : Nat.blt d N.n = true) (h : L P ops Q N B w0 ((d, v) :: E) rs rest) : L P ops Q N B w0 E rs (⟨some d, .call { callee := .value x, args := xs, argTypes := ts }, ty, pos, aft, none⟩ :: rest) :=
  L_lo rfl rfl hN (lo_callC hent hf hx hc hps (fun _ _ hp r hr => by rw [hp.2] at hr; cases hr)) fun u rs' hp => by
    obtain ⟨rfl, rfl⟩ := hp
    exact h
theorem q_indexS {t : TypeId} {x y : Operand} {s : ByteArray} {k : IntKind} {i : Nat} (ht : P.underlying t = some .string) (hx : ev E x = some (.string s)) (hy : ev E y = some (.int k (i : Int))) (h1 : i < s.size) :
    Qu P N B w0 E rs ⟨dst, .index t x y, ty, pos, aft, gd⟩ (.int .u8 (bAt s i)) := by
  intro a w hs
  have h2 : bAt s i = ((s[i]'h1).toNat : Int) := by
    unfold bAt
    have hi : i < s.data.size := h1
    rw [Array.getElem?_eq_getElem hi]
    rfl
  have h0 : (i : Int) < (s.size : Int) := by omega
  have e := run_index_string (P := P) (w := w) t s k (i : Int) ht
  simp only [execOp, hs.eval hx, hs.eval hy, Sem.run_bind, e]
  simp [h1, h2]
theorem q_neqE {t t' : TypeId} {x y : Operand} {s : ByteArray} (hx : ev E x = some (.string s)) (hy : ev E y = some (.string ⟨#[]⟩)) : Qu P N B w0 E rs ⟨dst, .binOp .neq t x y t', ty, pos, aft, gd⟩ (.bool (decide (1 ≤ s.size))) := by
  refine q_cmp hx hy fun w => ?_
  have g : eqGuard .neq t x y (.string s) (.string ⟨#[]⟩) = pure () := rfl
  have e0 : (⟨#[]⟩ : ByteArray).toList = [] := by simp
  have e : (!(s.toList == (⟨#[]⟩ : ByteArray).toList)) = decide (1 ≤ s.size) := by
    rw [e0]
    by_cases h : 1 ≤ s.size
    · rw [decide_eq_true h]
      have h9 : s.toList ≠ [] := fun hh => by
        have h8 := congrArg List.length hh
        rw [ByteArray.toList_eq, Array.length_toList] at h8
        have h7 : s.size = s.data.size := rfl
        have h6 : s.data.size = 0 := h8
        omega
      cases hl : s.toList with
      | nil => exact absurd hl h9
      | cons => rfl
    · have h0 : s.toList = [] := List.eq_nil_of_length_eq_zero (by rw [ByteArray.toList_eq, Array.length_toList]; have : s.size = s.data.size := rfl; omega)
      rw [decide_eq_false h, h0]
      rfl
  rw [g, binOp_string_neq, e]
  rfl
/-! ### Blocks that end together -/
variable {Q' : Exit → Act → World → Prop} {id id2 id3 : Nat} {y : Code}
theorem C_skip_blk2 (h : C P Q N B w0 E rs y) : C P (Exit.inBlock id2 (Exit.inBlock id (Exit.then (y.wpIn (fc N.ro) 0 P Q) Q'))) N B w0 E rs .skip := fun a w hs => wpIn_skip (h a w hs)
end
end Go.Proofs.Ytdmnejfpbbmcaaa
namespace Go.Proofs.Ytdmnejfpbbmcaaa
open Go.RowKit

def rb (r : Loop) : Bool → Loop
  | true => r
  | false => { r with state := .done, pending := some .ret }
section
variable {P : Program} {N : Fr} {B : Nat} {w0 : World} {E : Env} {rs RC RC' : List Res} {Q : Exit → Act → World → Prop} {ops : Array Oper} {rest : List Oper}
def Rnd2 (P : Program) (B : Nat) (w0 : World) (l : Nat) (r : Loop) (b : Bool) (args : List Value) (K RC RC' : List Res) : Prop :=
  ∀ own w, (∀ k ∈ K, k ∈ own ∧ k.own = false) → WS B w0 (own ++ (lp l r :: RC)) w →
    RoundIn (fc none) 0 P l r.fn ((r.params.zip args.toArray).foldl (fun tmps (x : Tmp × Value) => tmps.setIfInBounds x.1 x.2) r.tmps) r.assign r.body w (fun e w' => e = .returned (.bool b) ∧ WS B w0 (own ++ (lp l (rb r b) :: RC')) w')

/-! ### The caller's side of a round -/
def RQ2 (B : Nat) (w0 : World) (own : List Res) (l : Nat) (r : Loop) (b : Bool) (RC' : List Res) (e : Ending) (w' : World) : Prop := e = .returned (.bool b) ∧ WS B w0 (own ++ (lp l (rb r b) :: RC')) w'
variable {fn : FuncId} {tmps : Array Value} {p D l : Nat} {assign body : Code} {n : Nat}
theorem Rnd2.of {x : Value} {b : Bool} {K : List Res} (htm : tmps.size = n) (hp : Nat.blt p n = true) (hE : ∀ i v, lk E i = some v → tmps.getD i undef = v)
    (h : ∀ own, C P (asQ P l (RQ2 B w0 own l (lrec fn tmps p assign body D) b RC') body) ⟨n, [], some l⟩ B w0 ((p, x) :: E) (lp l (lrec fn tmps p assign body D) :: (K ++ (RC ++ own))) assign) :
    Rnd2 P B w0 l (lrec fn tmps p assign body D) b [x] K RC RC' := by
  intro own w hK hw
  refine roundIn_of_wpIn trivial ?_
  have hp' : p < tmps.size := by rw [htm]; exact blt_lt hp
  refine h own _ w ⟨?_, by simp [htm], rfl, fun i v hv => ?_⟩
  · have h1 := hw.dups (K := K) (fun k hk => ⟨List.mem_append_left _ (hK k hk).1, (hK k hk).2⟩)
    refine h1.perm ?_
    have e1 : (lp l (lrec fn tmps p assign body D) :: (K ++ (RC ++ own))).Perm (K ++ (lp l (lrec fn tmps p assign body D) :: (RC ++ own))) := perm_front
    refine e1.trans (List.Perm.append_left K ?_)
    have e2 : (own ++ (lp l (lrec fn tmps p assign body D) :: RC)).Perm ((lp l (lrec fn tmps p assign body D) :: RC) ++ own) := List.perm_append_comm
    exact e2.symm
  · rw [lk_cons] at hv
    by_cases hi : i = p
    · rw [if_pos hi] at hv
      injection hv with hv
      subst hv; subst hi
      simp [hp']
    · rw [if_neg hi] at hv
      have := hE i v hv
      simpa [Array.getElem?_setIfInBounds_ne (Ne.symm hi)] using this
/-! ### Rounds with numbers -/
/-! ### The statement -/
/-! ### Results that lie in cells -/
theorem lo_bsliceG {dst : Option Tmp} {ty : TypeId} {pos : String} {aft : Array Edge} {gd : Option (Nat × Bool)} {t e m : TypeId} {ag : Bool} {sz bs k : Nat} {zs : List Value} {ps : Array (Nat × Operand)} {l : List (Nat × Value)} {xs : List (List Value)} (T : Tab P) (he : lkT T.el t = some (e, m, false)) (ht : lkT T.ty e = some (ag, sz, bs, zs)) (hp : Ytdmnejfpbbmcaaa.parts E ps.toList = some l)
    (hl : fillL ((List.range k).map fun i => (i * sz, sz)) ((List.replicate k zs).flatten) (cellsOfParts l) = some xs.flatten) (hn : xs.length = k) (hx : ∀ x ∈ xs, x.length = sz) (hzl : zs.length = sz) (hs0 : 0 < sz) (hbig : Nat.ble (k * sz) 16777216 = true) :
    Lo P N B w0 E rs ⟨dst, .buildSlice t k ps, ty, pos, aft, gd⟩ (isSl e sz xs) :=
  fun a w hs => lo_bslice T (dst := dst) (ty := ty) (pos := pos) (aft := aft) he ht hp hl hn hx hzl hs0 hbig a w hs
end
end Go.Proofs.Ytdmnejfpbbmcaaa
