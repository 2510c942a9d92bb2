/-
  The calculus: texts as lists of bytes. Conditions: none; no program in sight.
-/
import Derived.Test.YtibohfipgjljhaaDoorShStr
import Derived.Laws.BytesArg
namespace Go.Proofs.YtibohfipgjljhaaDoor
open Go.RowKit
abbrev bs (l : List UInt8) : ByteArray := ⟨l.toArray⟩
theorem bs_of (s : ByteArray) : s = bs s.data.toList := rfl
theorem bs_size (l : List UInt8) : (bs l).size = l.length := by show l.toArray.size = _; simp
theorem bs_list (l : List UInt8) : (bs l).data.toList = l := rfl
theorem bs_app (a b : List UInt8) : bs a ++ bs b = bs (a ++ b) := by
  apply ByteArray.ext
  simp
theorem bs_ext (l : List UInt8) (i j : Nat) : (bs l).extract i j = bs ((l.take j).drop i) := by
  apply ByteArray.ext
  simp [ByteArray.data_extract, List.extract_toArray]
  rw [List.drop_take]
/-- the list of a text's bytes, as a row of cells -/
def cU (c : UInt8) : List Value := [.int .u8 (c.toNat : Int)]
def cT (l : List UInt8) : List Value := [.string (bs l)]
section
variable {P : Program} {N : Fr} {B : Nat} {w0 : World} {E : Env} {rs : List Res} {Q : Exit → Act → World → Prop} {ops : Array Oper} {rest : List Oper} {dst : Option Nat} {ty : TypeId} {pos : String} {aft : Array Edge} {gd : Option (Nat × Bool)}
variable {t t' : TypeId} {x y z : Operand} {a b l r : List UInt8}
theorem t_len {ts : TypeId} (ht : P.underlying t = some .string) (hx : ev E x = some (.string (bs l))) : Qu P N B w0 E rs ⟨dst, .call { callee := .builtin .len, args := #[x], argTypes := #[t] }, ts, pos, aft, gd⟩ (.int .i64 (l.length : Int)) := by
  have h := q_lenS (P := P) (N := N) (B := B) (w0 := w0) (rs := rs) (dst := dst) (ts := ts) (pos := pos) (aft := aft) (gd := gd) ht hx
  rw [bs_size] at h
  exact h
theorem t_eq (hx : ev E x = some (.string (bs a))) (hy : ev E y = some (.string (bs b))) : Qu P N B w0 E rs ⟨dst, .binOp .eql t x y t', ty, pos, aft, gd⟩ (.bool (decide (a = b))) :=
  q_seq hx hy (by rw [bs_list, bs_list]; by_cases h : a = b <;> simp [h])
theorem t_ne (hx : ev E x = some (.string (bs a))) (hy : ev E y = some (.string (bs b))) : Qu P N B w0 E rs ⟨dst, .binOp .neq t x y t', ty, pos, aft, gd⟩ (.bool (decide (a ≠ b))) :=
  q_sne hx hy (by rw [bs_list, bs_list]; by_cases h : a = b <;> simp [h])
theorem t_cat (hx : ev E x = some (.string (bs a))) (hy : ev E y = some (.string (bs b))) (h : a.length + b.length ≤ 9223372036854775807) (hr : a ++ b = r) : Qu P N B w0 E rs ⟨dst, .binOp .add t x y t', ty, pos, aft, gd⟩ (.string (bs r)) :=
  q_cat hx hy (by rw [bs_size, bs_size]; exact h) (by rw [bs_app, hr])
theorem t_to {k : IntKind} {j : Nat} (ht : P.underlying t = some .string) (hx : ev E x = some (.string (bs l))) (hy : ev E y = some (.int k (j : Int))) (h1 : j ≤ l.length) (hr : l.take j = r) : Qu P N B w0 E rs ⟨dst, .slice t x none (some y) none, ty, pos, aft, gd⟩ (.string (bs r)) :=
  q_sto ht hx hy (by omega) (by rw [bs_size]; omega) (by rw [Int.toNat_natCast, bs_ext, List.drop_zero, hr])
theorem t_from {k : IntKind} {j : Nat} (ht : P.underlying t = some .string) (hx : ev E x = some (.string (bs l))) (hy : ev E y = some (.int k (j : Int))) (h1 : j ≤ l.length) (hr : l.drop j = r) : Qu P N B w0 E rs ⟨dst, .slice t x (some y) none none, ty, pos, aft, gd⟩ (.string (bs r)) :=
  q_sfrom ht hx hy (by omega) (by rw [bs_size]; omega) (by rw [Int.toNat_natCast, bs_ext, bs_size, List.take_length, hr])
theorem t_mid {k k' : IntKind} {i j : Nat} (ht : P.underlying t = some .string) (hx : ev E x = some (.string (bs l))) (hy : ev E y = some (.int k (i : Int))) (hz : ev E z = some (.int k' (j : Int))) (h0 : i ≤ j) (h1 : j ≤ l.length) (hr : (l.take j).drop i = r) : Qu P N B w0 E rs ⟨dst, .slice t x (some y) (some z) none, ty, pos, aft, gd⟩ (.string (bs r)) := by
  intro a w hs
  have h := run_slice_string (P := P) w t (bs l) k k' (i : Int) (j : Int) ht (by omega) (by omega) (by rw [bs_size]; omega)
  simp only [Int.toNat_natCast, bs_ext, hr] at h
  simp [execOp, hs.eval hx, hs.eval hy, hs.eval hz, Instr.sliceAt, run_underlying ht, h]
theorem t_idx {k : IntKind} {i : Nat} {c : UInt8} (ht : P.underlying t = some .string) (hx : ev E x = some (.string (bs l))) (hy : ev E y = some (.int k (i : Int))) (hc : l[i]? = some c) : Qu P N B w0 E rs ⟨dst, .index t x y, ty, pos, aft, gd⟩ (.int .u8 (c.toNat : Int)) := by
  have hi : i < l.length := (List.getElem?_eq_some_iff.1 hc).1
  have h := q_indexS (P := P) (N := N) (B := B) (w0 := w0) (rs := rs) (dst := dst) (ty := ty) (pos := pos) (aft := aft) (gd := gd) ht hx hy (by rw [bs_size]; exact hi)
  have e : bAt (bs l) i = (c.toNat : Int) := by
    unfold bAt
    rw [show (bs l).data[i]? = some c by simpa using hc]
    rfl
  rw [e] at h
  exact h
/-- bytes as a text -/
theorem flat_u : ∀ l : List UInt8, (l.map cU).flatten = l.map fun c => Value.int .u8 (c.toNat : Int)
  | [] => rfl
  | c :: r => by simp [cU, flat_u r]
theorem push_u (l : List UInt8) : (l.map fun c => (c.toNat : Int)).foldl (fun r n => r.push (UInt8.ofNat n.toNat)) ByteArray.empty = bs l := by
  rw [foldl_push_bytes]
  apply ByteArray.ext
  simp [ByteArray.empty, ByteArray.emptyWithCapacity, Function.comp_def]
  try rfl
theorem t_conv {u e : TypeId} {v : Value} (hne : 0 < l.length) (hu : P.underlying u = some (.slice e)) (he : P.underlying e = some (.int .u8)) (ht : P.underlying t = some .string) (hx : ev E x = some v) (hg : GvR rs v 1 (l.map cU)) : Qu P N B w0 E rs ⟨dst, .convert u t x, ty, pos, aft, gd⟩ (.string (bs l)) := by
  intro a w hs
  have hr := hs.reads hg
  obtain ⟨A, cap, hv, _, _⟩ := hr.form
  rw [List.length_map] at hv
  obtain ⟨ad, _, ⟨n, cp, hf⟩, _, hcell⟩ := hr.some (by simpa using hne)
  rw [hf] at hv
  injection hv with e1 e2 e3
  rw [flat_u] at hcell
  have hlc := run_loadCells_list (P := P) w ad (l.map fun c => Value.int .u8 (c.toNat : Int)) hcell
  rw [List.length_map] at hlc
  have h := run_convert_bytes_string (P := P) w u t e (some ad) l.length cp hu he ht
  have h2 := run_bytesToString (P := P) w ad l.length cp (l.map fun c => (c.toNat : Int)) (by rw [hlc, List.map_map]; rfl)
  rw [push_u] at h2
  have he2 : n = l.length := e2
  simp [execOp, hs.eval hx, hf, he2, h, h2]
end
end Go.Proofs.YtibohfipgjljhaaDoor
