/-
  The calculus: closures that read their function's boxes; a library function that calls one. Conditions: none; no program in sight.
-/
import Derived.Test.YtdmnejfpbbmcaaaArgP
import Derived.Test.YtdmnejfpbbmcaaaBat
namespace Go.Proofs.Ytdmnejfpbbmcaaa
open Go.RowKit

abbrev bxV (g : Nat) : Value := .slice (some ⟨g, 0, none⟩) 1 1
theorem box_gives (g : Nat) (t : TypeId) (xs : List Value) : GivesRd (box g t xs) (bxV g) xs.length [xs] := by
  intro B w h
  have h1 := (box_ok.1 h).2
  refine ⟨⟨_, 1, rfl, Nat.le_refl _, by unfold maxLen; omega⟩, fun x hx => by rw [List.mem_singleton.1 hx], fun _ => ⟨⟨g, 0, none⟩, rfl, ⟨1, 1, rfl⟩, (Array.getElem?_eq_some_iff.1 h1).1, fun j u hu => ?_⟩⟩
  rw [List.flatten_cons, List.flatten_nil, List.append_nil] at hu
  have hc := box_cell h j
  rw [Addr.add_lit, Nat.zero_add, hc]
  exact hu
theorem gbx {rs : List Res} {g : Nat} {t : TypeId} {xs : List Value} {n : Nat} (h : box g t xs ∈ rs) (hn : xs.length = n) : GvR rs (bxV g) n [xs] := hn ▸ ⟨_, h, box_gives g t xs⟩
section
variable {P : Program} {Q : Exit → Act → World → Prop} {ops : Array Oper} {N : Fr} {B : Nat} {w0 : World} {E : Env} {rs : List Res} {rest : List Oper} {dst : Option Tmp} {ty : TypeId} {pos : String} {aft : Array Edge} {gd : Option (Nat × Bool)}
theorem lo_callC {f : FuncId} {x : Operand} {xs : Array Operand} {ts : Array TypeId} {args caps : List Value} {ps : List (Value × Nat × List (List Value))} {post : Value → List Res → Prop} (hent : Enters P f) (hf : ev E x = some (.func (.func f) #[] caps.toArray)) (hx : evs E xs.toList = some args) (hc : Ct P f (args ++ caps) ps post) (hps : ∀ p ∈ ps, Gives rs p)
    (hsk : ∀ v rs', post v rs' → ∀ r ∈ rs', Sinks r) : Lo P N B w0 E rs ⟨dst, .call { callee := .value x, args := xs, argTypes := ts }, ty, pos, aft, gd⟩ post := by
  intro a w hs
  have hmap := hs.evals hx
  have hmap' : xs.map a.eval = args.toArray := Array.ext' (by rw [Array.toList_map, hmap])
  refine .inr ⟨f, (args ++ caps).toArray, ?_, ?_⟩
  · have h9 := hent (args ++ caps).toArray w
    simp only [execOp, resolve, hs.eval hf, Deferred.ofValue, hmap', Sem.run_bind, Sem.run_pure, Result.andThen_ok]
    simp [invoke, h9]
  · refine (hc w (fun p hp => ?_)).mono ?_
    · exact hs.reads (hps p hp)
    · rintro e w' ⟨v, rs', he, hb, hpost, hok, hown, hd⟩
      exact ⟨v, rs', he, hb, hpost, fun r hr => ⟨hsk v rs' hpost r hr _ _ _ hs.ws.bas (hok r hr), fun k hk => r.ge (hown r hr) (hok r hr) k hk⟩, hd⟩
theorem L_callC {f : FuncId} {d : Nat} {x : Operand} {xs : Array Operand} {ts : Array TypeId} {args caps : List Value} {ps : List (Value × Nat × List (List Value))} {v : Value} (hent : Enters P f) (hf : ev E x = some (.func (.func f) #[] caps.toArray)) (hx : evs E xs.toList = some args) (hc : Ct P f (args ++ caps) ps (isV v)) (hps : ∀ p ∈ ps, Gives rs p)
    (hN : Nat.blt d N.n = true) (h : L P ops Q N B w0 ((d, v) :: E) rs rest) : L P ops Q N B w0 E rs (⟨some d, .call { callee := .value x, args := xs, argTypes := ts }, ty, pos, aft, none⟩ :: rest) :=
  L_lo rfl rfl hN (lo_callC hent hf hx hc hps (fun _ _ hp r hr => by rw [hp.2] at hr; cases hr)) fun u rs' hp => by
    obtain ⟨rfl, rfl⟩ := hp
    exact h
theorem q_indexS {t : TypeId} {x y : Operand} {s : ByteArray} {k : IntKind} {i : Nat} (ht : P.underlying t = some .string) (hx : ev E x = some (.string s)) (hy : ev E y = some (.int k (i : Int))) (h1 : i < s.size) :
    Qu P N B w0 E rs ⟨dst, .index t x y, ty, pos, aft, gd⟩ (.int .u8 (bAt s i)) := by
  intro a w hs
  have h2 : bAt s i = ((s[i]'h1).toNat : Int) := by
    unfold bAt
    have hi : i < s.data.size := h1
    rw [Array.getElem?_eq_getElem hi]
    rfl
  have h0 : (i : Int) < (s.size : Int) := by omega
  have e := run_index_string (P := P) (w := w) t s k (i : Int) ht
  simp only [execOp, hs.eval hx, hs.eval hy, Sem.run_bind, e]
  simp [h1, h2]
theorem q_neqE {t t' : TypeId} {x y : Operand} {s : ByteArray} (hx : ev E x = some (.string s)) (hy : ev E y = some (.string ⟨#[]⟩)) : Qu P N B w0 E rs ⟨dst, .binOp .neq t x y t', ty, pos, aft, gd⟩ (.bool (decide (1 ≤ s.size))) := by
  refine q_cmp hx hy fun w => ?_
  have g : eqGuard .neq t x y (.string s) (.string ⟨#[]⟩) = pure () := rfl
  have e0 : (⟨#[]⟩ : ByteArray).toList = [] := by simp
  have e : (!(s.toList == (⟨#[]⟩ : ByteArray).toList)) = decide (1 ≤ s.size) := by
    rw [e0]
    by_cases h : 1 ≤ s.size
    · rw [decide_eq_true h]
      have h9 : s.toList ≠ [] := fun hh => by
        have h8 := congrArg List.length hh
        rw [ByteArray.toList_eq, Array.length_toList] at h8
        have h7 : s.size = s.data.size := rfl
        have h6 : s.data.size = 0 := h8
        omega
      cases hl : s.toList with
      | nil => exact absurd hl h9
      | cons => rfl
    · have h0 : s.toList = [] := List.eq_nil_of_length_eq_zero (by rw [ByteArray.toList_eq, Array.length_toList]; have : s.size = s.data.size := rfl; omega)
      rw [decide_eq_false h, h0]
      rfl
  rw [g, binOp_string_neq, e]
  rfl
/-! ### Blocks that end together -/
variable {Q' : Exit → Act → World → Prop} {id id2 id3 : Nat} {y : Code}
theorem C_skip_blk2 (h : C P Q N B w0 E rs y) : C P (Exit.inBlock id2 (Exit.inBlock id (Exit.then (y.wpIn (fc N.ro) 0 P Q) Q'))) N B w0 E rs .skip := fun a w hs => wpIn_skip (h a w hs)
end
end Go.Proofs.Ytdmnejfpbbmcaaa
