/-
  Opening the data of plans and of chapter 5: gases, legs, plans, rules, as arguments of a statement. Conditions: none; no program in sight.
-/
import Derived.Test.YtdmnejfpbbmcaaaShPick
import Derived.Test.YtdmnejfpbbmcaaaShTree
import Derived.Test.YtdmnejfpbbmcaaaShOwn
import Derived.Test.YtdmnejfpbbmcaaaShUse
import Derived.Test.YtdmnejfpbbmcaaaXp1
import Derived.Test.YtdmnejfpbbmcaaaOpn
namespace Go.Proofs.Ytdmnejfpbbmcaaa
open Go.RowKit

theorem flat_put (size : Nat) (cs : List Value) (hc : cs.length = size) : ∀ (l : List (List Value)) (i : Nat), (∀ x ∈ l, x.length = size) → i < l.length → (l.set i cs).flatten = l.flatten.take (i * size) ++ cs ++ l.flatten.drop (i * size + size)
  | [], i, _, hi => by simp at hi
  | x :: t, 0, h, _ => by
    have hx := h x List.mem_cons_self
    rw [List.set_cons_zero, List.flatten_cons, List.flatten_cons, Nat.zero_mul, Nat.zero_add, List.take_zero, List.nil_append, ← hx, List.drop_left]
  | x :: t, i + 1, h, hi => by
    have hx := h x List.mem_cons_self
    have ih := flat_put size cs hc t i (fun y hy => h y (List.mem_cons_of_mem _ hy)) (by simpa using hi)
    rw [List.set_cons_succ, List.flatten_cons, List.flatten_cons, ih]
    have e1 : (i + 1) * size = x.length + i * size := by rw [Nat.add_mul, hx]; omega
    rw [e1, List.take_length_add_append, Nat.add_assoc, List.drop_length_add_append]
    simp
section
variable {P : Program} (T : Tab P) {Q : Exit → Act → World → Prop} {ops : Array Oper} {N : Fr} {B : Nat} {w0 : World} {E : Env} {rs : List Res} {rest : List Oper} {dst : Option Tmp} {ty : TypeId} {pos : String} {aft : Array Edge}
/-! ### Ends of a function that holds a loop over a function -/
end
end Go.Proofs.Ytdmnejfpbbmcaaa
namespace Go.Proofs.Ytdmnejfpbbmcaaa
def cI (n : Int) : List Value := [.int .i64 n]
def cGs (g : Gs) : List Value := [.int .i64 g.o, .int .i64 g.h]
def cDl (x : Dl) : List Value := [.int .i64 x.s, .int .i64 x.d, .int .i64 x.g]
def cPl (nm : ByteArray) (sf : Int) (v u : Value) : List Value := [.string nm, .int .i64 sf, v, u]
theorem len_map {α : Type} (f : α → List Value) (l : List α) : (l.map f).length = l.length := List.length_map _
theorem en {a b : Int} (h : a = b) : some (Value.int .i64 a) = some (Value.int .i64 b) := by rw [h]
theorem wr {a b : Int} (h : a = b) (h2 : -9223372036854775808 ≤ b ∧ b ≤ 9223372036854775807) : IntKind.i64.wrap a = b := by subst h; exact IntWalk.i64_in _ (by omega)
theorem dl_cell {ls : List Dl} {k : Nat} (h : k < ls.length) : (ls.map cDl)[k]? = some (cDl (dlAt ls k)) := by
  obtain ⟨x, hx⟩ := get_some ls h
  rw [dlAt_get hx]
  exact map_get cDl hx
theorem gas_cell {gs : List Gs} {i : Int} (h0 : 0 ≤ i) (h1 : i ≤ gs.length - 1) : (gs.map cGs)[i.toNat]? = some (cGs (gasAt gs i)) := by
  have : i.toNat < gs.length := by omega
  unfold gasAt
  rw [List.getElem?_map, List.getElem?_eq_getElem this]
  rfl
end Go.Proofs.Ytdmnejfpbbmcaaa
namespace Go.Proofs.Ytdmnejfpbbmcaaa
open Go.RowKit Go.ChangeShapes Go.WideShapes Go.Deep

section
variable {P : Program} {W : World} {t e : TypeId}
theorem opn_gs (h : IT P t 2) : Opn P W t (fun cs => ∃ c : Gs, (i64 c.o ∧ i64 c.h) ∧ cs = cGs c) := (h W).mono fun cs ⟨xs, hl, hq, hc⟩ => by
  match xs, hl with
  | [a, b], _ => exact ⟨⟨a, b⟩, ⟨hq a (by simp), hq b (by simp)⟩, hc⟩
theorem opn_gss (ht : P.underlying t = some (.slice e)) (hk : P.cellsOf e = 2) (h : IT P e 2) : Opn P W t (fun cs => ∃ (v : Value) (ls : List Gs), cs = [v] ∧ Rdd W v 2 (ls.map cGs) ∧ ∀ c ∈ ls, i64 c.o ∧ i64 c.h) := opn_list cGs ht hk (by decide) (opn_gs h)
def i64Dl (x : Dl) : Prop := i64 x.s ∧ i64 x.d ∧ i64 x.g
theorem opn_dl (h : IT P t 3) : Opn P W t (fun cs => ∃ c, i64Dl c ∧ cs = cDl c) := (h W).mono fun cs ⟨xs, hl, hq, hc⟩ => by
  match xs, hl with
  | [a, b, c], _ => exact ⟨⟨a, b, c⟩, ⟨hq a (by simp), hq b (by simp), hq c (by simp)⟩, hc⟩
theorem opn_dls (ht : P.underlying t = some (.slice e)) (hk : P.cellsOf e = 3) (h : IT P e 3) : Opn P W t (fun cs => ∃ (v : Value) (ls : List Dl), cs = [v] ∧ Rdd W v 3 (ls.map cDl) ∧ ∀ c ∈ ls, i64Dl c) := opn_list cDl ht hk (by decide) (opn_dl h)
theorem opn_plan {tN tS tG tL : TypeId} (hfs : fsC P t = some [(0, 1, tN), (1, 1, tS), (2, 1, tG), (3, 1, tL)]) (hC : P.cellsOf t = 4) (hN : P.underlying tN = some .string) (hS : P.underlying tS = some (.int .i64)) (hG : Opn P W tG (fun cs => ∃ (v : Value) (ls : List Gs), cs = [v] ∧ Rdd W v 2 (ls.map cGs) ∧ ∀ c ∈ ls, i64 c.o ∧ i64 c.h))
    (hL : Opn P W tL (fun cs => ∃ (v : Value) (ls : List Dl), cs = [v] ∧ Rdd W v 3 (ls.map cDl) ∧ ∀ c ∈ ls, i64Dl c)) :
    Opn P W t (fun cs => ∃ (nm : ByteArray) (sf : Int) (v u : Value) (gs : List Gs) (ls : List Dl), cs = cPl nm sf v u ∧ Rdd W v 2 (gs.map cGs) ∧ Rdd W u 3 (ls.map cDl) ∧ (∀ c ∈ gs, i64 c.o ∧ i64 c.h) ∧ (∀ c ∈ ls, i64Dl c) ∧ nm.size ≤ maxLen ∧ i64 sf) :=
  ((((opn_len hfs).and (opn_field hfs (o := 0) (k := 1) (by simp) (opn_str hN))).and (opn_field hfs (o := 1) (k := 1) (by simp) (opn_int hS))).and ((opn_field hfs (o := 2) (k := 1) (by simp) hG).and (opn_field hfs (o := 3) (k := 1) (by simp) hL))).mono
    fun cs ⟨⟨⟨hl, nm, h1, h2⟩, sf, h3, h4⟩, ⟨v, gs, h5, h6, h7⟩, u, ls, h8, h9, h10⟩ => by
      rw [hC] at hl
      match cs, hl with
      | [a, b, c, d], _ =>
        simp only [List.drop_zero, List.drop_succ_cons, List.take_succ_cons, List.take_zero, List.cons.injEq, and_true] at h2 h4 h5 h8
        subst h2; subst h4; subst h5; subst h8
        exact ⟨nm, sf, _, _, gs, ls, rfl, h6, h9, h7, h10, h1, h3⟩
theorem int_val {b0 : Nat} {r : Reach} {k : IntKind} {v u : Value} (ht : P.underlying t = some (.int k)) (hv : Value.okWide P W r b0 t v) (h : v.cells.toList = [u]) : v = u := by
  obtain ⟨n, rfl⟩ := okWide_int ht hv
  simpa [Value.cells] using h
theorem struct_val {fs : List (Nat × Nat × Nat)} {b0 : Nat} {r : Reach} {v : Value} {cs : List Value} (hf : fsC P t = some fs) (hv : Value.okWide P W r b0 t v) (h : v.cells.toList = cs) : v = .agg cs.toArray := by
  obtain ⟨cs', rfl, h'⟩ := agg_of hf hv
  rw [← h, h']
end
end Go.Proofs.Ytdmnejfpbbmcaaa
