/-
  The calculus: regions that draw their order and at their end make two pieces of memory, the one ahead of the other or behind it. Conditions: none; no program in sight.
-/
import Derived.Test.YtdmnejfpbbmcaaaShRange
namespace Go.Proofs.Ytdmnejfpbbmcaaa
open Go.RowKit

section
variable {P : Program} {Q : Exit → Act → World → Prop} {N : Fr} {B : Nat} {w0 : World} {E : Env} {rs : List Res} {x y : Code}
def At {ι : Type} (N : Fr) (B : Nat) (w0 : World) (F : ι → Env × List Res) (good : ι → Prop) (a : Act) (w : World) : Prop := ∃ i, good i ∧ Sat N B w0 (F i).1 (F i).2 a w
theorem C_cut {ι : Type} (F : ι → Env × List Res) (good : ι → Prop) (h1 : C P (Exit.then (At N B w0 F good) Q) N B w0 E rs x) (h2 : ∀ i, good i → C P Q N B w0 (F i).1 (F i).2 y) : C P Q N B w0 E rs (.seq x y) :=
  fun a w hs => wpIn_seq (wpIn_mono (h1 a w hs) fun e a' w' he => by
    cases e with
    | normal =>
      obtain ⟨i, hg, hs'⟩ := he
      exact h2 i hg a' w' hs'
    | _ => exact he)
variable {dst : Option Tmp} {ty : TypeId} {pos : String} {aft : Array Edge} {gd : Option (Nat × Bool)} {u v : Operand} {t t' : TypeId} {b c : Bool}
theorem q_ext0 {x : Operand} {a : Value} {l : List Value} (hx : ev E x = some (.tuple (a :: l).toArray)) : Qu P N B w0 E rs ⟨dst, .extract x 0, ty, pos, aft, gd⟩ a := q_extract hx (by simp)
theorem q_ext1 {x : Operand} {a b : Value} {l : List Value} (hx : ev E x = some (.tuple (a :: b :: l).toArray)) : Qu P N B w0 E rs ⟨dst, .extract x 1, ty, pos, aft, gd⟩ b := q_extract hx (by simp)
theorem q_lenS {x : Operand} {s : ByteArray} {t ts : TypeId} (ht : P.underlying t = some .string) (hx : ev E x = some (.string s)) : Qu P N B w0 E rs ⟨dst, .call { callee := .builtin .len, args := #[x], argTypes := #[t] }, ts, pos, aft, gd⟩ (.int .i64 s.size) := by
  intro a w hs
  simp [execOp, resolve, invoke, builtin, hs.eval hx, Builtin.len_, run_underlying ht, goInt]
/-! ### A field of a struct's value -/
end
end Go.Proofs.Ytdmnejfpbbmcaaa
namespace Go.Proofs.Ytdmnejfpbbmcaaa
open Go.RowKit

section
variable {P : Program} {ops : Array Oper} {md : Region.Mode} {N : Fr} {B : Nat} {w0 : World}
theorem swap_alloc {E : Env} {rs : List Res} {a : Act} {w : World} {d1 d2 g1 g2 t1 t2 : Nat} {zs1 zs2 : List Value} (hne : d1 ≠ d2) (hs : Sat N B w0 ((d1, .pointer (some ⟨g1, 0, none⟩)) :: (d2, .pointer (some ⟨g2, 0, none⟩)) :: E) (box g1 t1 zs1 :: box g2 t2 zs2 :: rs) a w) :
    Sat N B w0 ((d2, .pointer (some ⟨g2, 0, none⟩)) :: (d1, .pointer (some ⟨g1, 0, none⟩)) :: E) (box g2 t2 zs2 :: box g1 t1 zs1 :: rs) a w :=
  ⟨hs.ws.perm (List.Perm.swap _ _ _), hs.size, hs.dfr, fun i v hv => hs.env i v (by
    rw [lk_cons, lk_cons] at hv ⊢
    by_cases h1 : i = d1
    · subst h1
      rw [if_neg hne, if_pos rfl] at hv
      rw [if_pos rfl]
      exact hv
    · rw [if_neg h1] at hv ⊢
      exact hv)⟩
end
end Go.Proofs.Ytdmnejfpbbmcaaa
