/-
  Walks: each function named returns what its model says. Conditions: those in front of each theorem.
-/
import Derived.Test.YtibohfipgjljhaaDoorShStr
import Derived.Test.YtibohfipgjljhaaDoorArgG
import Derived.Lib.ItoaNum
import Derived.Lib.ConvBytes
import Derived.Test.YtibohfipgjljhaaDoorGC
import Derived.Test.YtibohfipgjljhaaDoorShelf
import Derived.Test.YtibohfipgjljhaaDoorEqT
import Derived.Test.YtibohfipgjljhaaDoorGa
import Derived.Test.YtibohfipgjljhaaDoorTx1
namespace Go.Proofs.YtibohfipgjljhaaDoor
open Go.RowKit
abbrev gsV (o h : Int) : Value := .agg #[.int .i64 o, .int .i64 h]
def knL : List (ByteArray × Value) := [(⟨#[97, 105, 114]⟩, gsV 210 0), (⟨#[104, 101, 108, 105, 117, 109]⟩, gsV 0 1000), (⟨#[111, 120, 121, 103, 101, 110]⟩, gsV 1000 0)]
abbrev knZ : Value := gsV 0 0
abbrev sTX : ByteArray := ⟨#[116, 120, 49, 56, 47, 52, 53]⟩
abbrev sNx : ByteArray := ⟨#[110, 120]⟩
abbrev sTx : ByteArray := ⟨#[116, 120]⟩
abbrev sGas : ByteArray := ⟨#[103, 97, 115]⟩
abbrev sRest : ByteArray := ⟨#[49, 56, 47, 52, 53]⟩
abbrev sSl : ByteArray := ⟨#[47]⟩
abbrev s18 : ByteArray := ⟨#[49, 56]⟩
abbrev s45 : ByteArray := ⟨#[52, 53]⟩
theorem knL_val {p : ByteArray × Value} (h : p ∈ knL) : ∃ o g, p.2 = gsV o g ∧ ¬ (o = 180 ∧ g = 450) := by
  unfold knL at h
  simp only [List.mem_cons, List.not_mem_nil, or_false] at h
  rcases h with rfl | rfl | rfl
  · exact ⟨210, 0, rfl, by decide⟩
  · exact ⟨0, 1000, rfl, by decide⟩
  · exact ⟨1000, 0, rfl, by decide⟩
theorem look_tx : lookV knL knZ sTX = .tuple #[knZ, .bool false] := by rfl
section
variable {P : Program} {N : Fr} {B : Nat} {w0 : World} {E : Env} {rs : List Res} {dst : Option Nat} {ty : TypeId} {pos : String} {aft : Array Edge} {gd : Option (Nat × Bool)}
theorem q_nilI {t t' : TypeId} {x : Operand} {c : Value} {ms : Array (String × TypeId)} (hu : P.underlying t = some (.interface ms)) (hx : ev E x = some .nilIface) (hc : c = .nilIface) : Qu P N B w0 E rs ⟨dst, .binOp .neq t x (.const c) t', ty, pos, aft, gd⟩ (.bool false) := by
  subst hc
  refine q_cmp hx rfl fun w => ?_
  rw [eqGuard_nil_constR]
  have he : ∀ d, (Op.equalIn (d + 1) t .nilIface .nilIface).run P w = .ok true w := fun d => by simp only [Op.equalIn, Sem.run_bind, run_underlying hu, Result.andThen_ok]; rfl
  have h2 : binOp .neq t .nilIface .nilIface = (do pure (.bool (!(← Op.equalIn 10000 t .nilIface .nilIface)))) := rfl
  rw [h2]
  simp only [Sem.run_bind, Sem.run_pure, Result.andThen_ok, he 9999]
  rfl
end
def aX : Aim := ⟨1000, 6000, 160, 1400, 3000⟩
theorem okAX : okAim aX := ⟨by decide, by decide, by decide, by decide⟩
theorem bsX : bsE aX = (200, 429, 0) := by decide +kernel
theorem dd18 : (⟨(Lib.decDigits 18).toArray⟩ : ByteArray) = s18 := by rw [Lib.decDigits, dif_neg (by decide), Lib.decDigits, dif_pos (by decide)]; rfl
theorem dd45 : (⟨(Lib.decDigits 45).toArray⟩ : ByteArray) = s45 := by rw [Lib.decDigits, dif_neg (by decide), Lib.decDigits, dif_pos (by decide)]; rfl
theorem modify_push {α : Type} (a : Array α) (x : α) (f : α → α) : (a.push x).modify a.size f = a.push (f x) := by
  apply Array.ext
  · simp
  · intro i h1 h2
    simp only [Array.getElem_modify, Array.getElem_push]
    by_cases h : a.size = i
    · subst h; simp
    · have hi : i < a.size := by simp at h1; omega
      simp [h, hi]
theorem below_bytes (w : World) (e : TypeId) (s : ByteArray) : Below w.heap.size w (Lib.bytesWorld w e s) := by
  unfold Lib.bytesWorld World.freeze
  rw [if_neg (by decide)]
  refine ⟨rfl, rfl, rfl, ?_, fun k hk => ?_⟩
  · show w.heap.size ≤ ((w.heap.push _).modify w.heap.size _).size
    simp
  · show ((w.heap.push _).modify w.heap.size _)[k]? = _
    rw [modify_push, Array.getElem?_push_lt hk, Array.getElem?_eq_getElem hk]
end Go.Proofs.YtibohfipgjljhaaDoor
namespace Go.Proofs.YtibohfipgjljhaaDoor
open Go.RowKit

end Go.Proofs.YtibohfipgjljhaaDoor
namespace Go.Proofs.YtibohfipgjljhaaDoor
open Go.RowKit

end Go.Proofs.YtibohfipgjljhaaDoor
namespace Go.Proofs.YtibohfipgjljhaaDoor
open Go.RowKit

end Go.Proofs.YtibohfipgjljhaaDoor
namespace Go.Proofs.YtibohfipgjljhaaDoor
open Go.RowKit

theorem eq70 : EqT Tryd.prog 2 70 3 := eqT_arr3 tb Tryd.underlying70 Tryd.underlying3 rfl
theorem eg70 : Tryd.prog.eqGuardType Tryd.prog.depth 70 = false := by kernel_rfl

end Go.Proofs.YtibohfipgjljhaaDoor
namespace Go.Proofs.YtibohfipgjljhaaDoor
open Go.RowKit

set_option maxRecDepth 100000 in
theorem ct_SizeT (n : Int) (h : -9000000000000000000 ≤ n ∧ n ≤ 9000000000000000000) : Ct Tryd.prog 75 [.int .i64 n] [] (isV (.int .i64 (max n (0 - n)))) := by
  refine Ct.of (N := 7) Tryd.func75 rfl rfl rfl fun w => ?_
  refine C_weak (E' := [(0, .int .i64 n)]) (rs' := []) ⟨rfl, trivial⟩ (fun _ h => h) ?_
  refine C_seq ?_
  refine C_region ?_
  refine L_q rfl rfl rfl (q_assign rfl) ?_
  refine L_then ?_
  refine C_seq ?_
  refine C_region ?_
  refine L_q rfl rfl rfl (q_move rfl) ?_
  refine L_q rfl rfl rfl (q_move rfl) ?_
  refine L_q rfl rfl rfl (q_neg rfl (by first | exact IntWalk.i64_in _ (by omega) | rfl)) ?_
  refine L_q rfl rfl rfl (q_max rfl rfl) ?_
  refine L_q rfl rfl rfl (q_assign rfl) ?_
  refine L_then ?_
  refine C_ret ?_
  exact ret_of (res1 rfl rfl) sub_nil (by intro r hr; cases hr) ⟨rfl, rfl⟩
end Go.Proofs.YtibohfipgjljhaaDoor
