/-
  Opening the data of chapter 3: tables, loads, legs, dives, as arguments of a statement. Conditions: none; no program in sight.
-/
import Derived.Test.YtecfnhgbgngpiaaOpn
import Derived.Test.YtecfnhgbgngpiaaEnc2
namespace Go.Proofs.Ytecfnhgbgngpiaa
open Go.RowKit Go.ChangeShapes Go.WideShapes Go.Deep

section
variable {P : Program} {W : World} {t e : TypeId}
def i64Cp (c : Cp) : Prop := i64 c.n ∧ i64 c.h ∧ i64 c.b ∧ i64 c.s
def i64Rg (r : Rg) : Prop := i64 r.lo ∧ i64 r.hi
def i64Ld (l : Ld) : Prop := i64Rg l.n ∧ i64Rg l.h
def i64Lg (x : Lg) : Prop := i64 x.f ∧ i64 x.t ∧ i64 x.s ∧ i64 x.g.o ∧ i64 x.g.h
theorem opn_cp (h : IT P t 4) : Opn P W t (fun cs => ∃ c, i64Cp c ∧ cs = cCp c) := (h W).mono fun cs ⟨xs, hl, hq, hc⟩ => by
  match xs, hl with
  | [a, b, c, d], _ => exact ⟨⟨a, b, c, d⟩, ⟨hq a (by simp), hq b (by simp), hq c (by simp), hq d (by simp)⟩, hc⟩
theorem opn_ld (h : IT P t 4) : Opn P W t (fun cs => ∃ c, i64Ld c ∧ cs = cLd c) := (h W).mono fun cs ⟨xs, hl, hq, hc⟩ => by
  match xs, hl with
  | [a, b, c, d], _ => exact ⟨⟨⟨a, b⟩, ⟨c, d⟩⟩, ⟨⟨hq a (by simp), hq b (by simp)⟩, ⟨hq c (by simp), hq d (by simp)⟩⟩, hc⟩
theorem opn_lg (h : IT P t 5) : Opn P W t (fun cs => ∃ c, i64Lg c ∧ cs = cLg c) := (h W).mono fun cs ⟨xs, hl, hq, hc⟩ => by
  match xs, hl with
  | [a, b, c, d, g], _ => exact ⟨⟨a, b, c, ⟨d, g⟩⟩, ⟨hq a (by simp), hq b (by simp), hq c (by simp), hq d (by simp), hq g (by simp)⟩, hc⟩
theorem opn_gs (h : IT P t 2) : Opn P W t (fun cs => ∃ c : Gs, (i64 c.o ∧ i64 c.h) ∧ cs = cGs c) := (h W).mono fun cs ⟨xs, hl, hq, hc⟩ => by
  match xs, hl with
  | [a, b], _ => exact ⟨⟨a, b⟩, ⟨hq a (by simp), hq b (by simp)⟩, hc⟩
theorem opn_i2 (h : IT P t 2) : Opn P W t (fun cs => ∃ a b, (i64 a ∧ i64 b) ∧ cs = [.int .i64 a, .int .i64 b]) := (h W).mono fun cs ⟨xs, hl, hq, hc⟩ => by
  match xs, hl with
  | [a, b], _ => exact ⟨a, b, ⟨hq a (by simp), hq b (by simp)⟩, hc⟩
theorem opn_i3 (h : IT P t 3) : Opn P W t (fun cs => ∃ a b c, (i64 a ∧ i64 b ∧ i64 c) ∧ cs = [.int .i64 a, .int .i64 b, .int .i64 c]) := (h W).mono fun cs ⟨xs, hl, hq, hc⟩ => by
  match xs, hl with
  | [a, b, c], _ => exact ⟨a, b, c, ⟨hq a (by simp), hq b (by simp), hq c (by simp)⟩, hc⟩
theorem opn_tab (ht : P.underlying t = some (.slice e)) (hk : P.cellsOf e = 4) (h : IT P e 4) : Opn P W t (fun cs => ∃ (v : Value) (ts : List Cp), cs = [v] ∧ Rdd W v 4 (ts.map cCp) ∧ ∀ c ∈ ts, i64Cp c) := opn_list cCp ht hk (by decide) (opn_cp h)
theorem opn_lds (ht : P.underlying t = some (.slice e)) (hk : P.cellsOf e = 4) (h : IT P e 4) : Opn P W t (fun cs => ∃ (v : Value) (ls : List Ld), cs = [v] ∧ Rdd W v 4 (ls.map cLd) ∧ ∀ c ∈ ls, i64Ld c) := opn_list cLd ht hk (by decide) (opn_ld h)
theorem opn_lgs (ht : P.underlying t = some (.slice e)) (hk : P.cellsOf e = 5) (h : IT P e 5) : Opn P W t (fun cs => ∃ (v : Value) (ls : List Lg), cs = [v] ∧ Rdd W v 5 (ls.map cLg) ∧ ∀ c ∈ ls, i64Lg c) := opn_list cLg ht hk (by decide) (opn_lg h)
theorem opn_ints (ht : P.underlying t = some (.slice e)) (hk : P.cellsOf e = 1) (he : P.underlying e = some (.int .i64)) : Opn P W t (fun cs => ∃ (v : Value) (ls : List Int), cs = [v] ∧ Rdd W v 1 (ls.map cI) ∧ ∀ c ∈ ls, i64 c) :=
  opn_list cI ht hk (by decide) ((opn_int he).mono fun _ ⟨n, h, hc⟩ => ⟨n, h, hc⟩)
/-- A table, loads, a leg and a number: a dive, or a task. -/
theorem opn_dive {tT tL tG tI : TypeId} (hfs : fsC P t = some [(0, 1, tT), (1, 1, tL), (2, 5, tG), (7, 1, tI)]) (hC : P.cellsOf t = 8) (hT : Opn P W tT (fun cs => ∃ (v : Value) (ts : List Cp), cs = [v] ∧ Rdd W v 4 (ts.map cCp) ∧ ∀ c ∈ ts, i64Cp c))
    (hL : Opn P W tL (fun cs => ∃ (v : Value) (ls : List Ld), cs = [v] ∧ Rdd W v 4 (ls.map cLd) ∧ ∀ c ∈ ls, i64Ld c)) (hG : IT P tG 5) (hI : P.underlying tI = some (.int .i64)) :
    Opn P W t (fun cs => ∃ (v u : Value) (x : Lg) (fi : Int) (ts : List Cp) (ls : List Ld), cs = cDv v u x fi ∧ Rdd W v 4 (ts.map cCp) ∧ Rdd W u 4 (ls.map cLd) ∧ (∀ c ∈ ts, i64Cp c) ∧ (∀ c ∈ ls, i64Ld c) ∧ i64Lg x ∧ i64 fi) :=
  ((((opn_len hfs).and (opn_field hfs (o := 0) (k := 1) (by simp) hT)).and (opn_field hfs (o := 1) (k := 1) (by simp) hL)).and ((opn_field hfs (o := 2) (k := 5) (by simp) (opn_lg hG)).and (opn_field hfs (o := 7) (k := 1) (by simp) (opn_int hI)))).mono
    fun cs ⟨⟨⟨hl, v, ts, h1, h2, h3⟩, u, ls, h4, h5, h6⟩, ⟨x, h7, h8⟩, fi, h9, h10⟩ => by
      rw [hC] at hl
      match cs, hl with
      | [a, b, c, d, f, g, i, j], _ =>
        simp only [List.drop_zero, List.drop_succ_cons, List.take_succ_cons, List.take_zero, List.cons.injEq, and_true, cLg] at h1 h4 h8 h10
        obtain ⟨rfl, rfl, rfl, rfl, rfl⟩ := h8
        subst h1; subst h4; subst h10
        exact ⟨_, _, x, fi, ts, ls, rfl, h2, h5, h3, h6, h7, h9⟩
theorem opn_gss (ht : P.underlying t = some (.slice e)) (hk : P.cellsOf e = 2) (h : IT P e 2) : Opn P W t (fun cs => ∃ (v : Value) (ls : List Gs), cs = [v] ∧ Rdd W v 2 (ls.map cGs) ∧ ∀ c ∈ ls, i64 c.o ∧ i64 c.h) := opn_list cGs ht hk (by decide) (opn_gs h)
def i64Dl (x : Dl) : Prop := i64 x.s ∧ i64 x.d ∧ i64 x.g
theorem opn_dl (h : IT P t 3) : Opn P W t (fun cs => ∃ c, i64Dl c ∧ cs = cDl c) := (h W).mono fun cs ⟨xs, hl, hq, hc⟩ => by
  match xs, hl with
  | [a, b, c], _ => exact ⟨⟨a, b, c⟩, ⟨hq a (by simp), hq b (by simp), hq c (by simp)⟩, hc⟩
theorem opn_dls (ht : P.underlying t = some (.slice e)) (hk : P.cellsOf e = 3) (h : IT P e 3) : Opn P W t (fun cs => ∃ (v : Value) (ls : List Dl), cs = [v] ∧ Rdd W v 3 (ls.map cDl) ∧ ∀ c ∈ ls, i64Dl c) := opn_list cDl ht hk (by decide) (opn_dl h)
theorem opn_plan {tN tS tG tL : TypeId} (hfs : fsC P t = some [(0, 1, tN), (1, 1, tS), (2, 1, tG), (3, 1, tL)]) (hC : P.cellsOf t = 4) (hN : P.underlying tN = some .string) (hS : P.underlying tS = some (.int .i64)) (hG : Opn P W tG (fun cs => ∃ (v : Value) (ls : List Gs), cs = [v] ∧ Rdd W v 2 (ls.map cGs) ∧ ∀ c ∈ ls, i64 c.o ∧ i64 c.h))
    (hL : Opn P W tL (fun cs => ∃ (v : Value) (ls : List Dl), cs = [v] ∧ Rdd W v 3 (ls.map cDl) ∧ ∀ c ∈ ls, i64Dl c)) :
    Opn P W t (fun cs => ∃ (nm : ByteArray) (sf : Int) (v u : Value) (gs : List Gs) (ls : List Dl), cs = cPl nm sf v u ∧ Rdd W v 2 (gs.map cGs) ∧ Rdd W u 3 (ls.map cDl) ∧ (∀ c ∈ gs, i64 c.o ∧ i64 c.h) ∧ (∀ c ∈ ls, i64Dl c) ∧ nm.size ≤ maxLen ∧ i64 sf) :=
  ((((opn_len hfs).and (opn_field hfs (o := 0) (k := 1) (by simp) (opn_str hN))).and (opn_field hfs (o := 1) (k := 1) (by simp) (opn_int hS))).and ((opn_field hfs (o := 2) (k := 1) (by simp) hG).and (opn_field hfs (o := 3) (k := 1) (by simp) hL))).mono
    fun cs ⟨⟨⟨hl, nm, h1, h2⟩, sf, h3, h4⟩, ⟨v, gs, h5, h6, h7⟩, u, ls, h8, h9, h10⟩ => by
      rw [hC] at hl
      match cs, hl with
      | [a, b, c, d], _ =>
        simp only [List.drop_zero, List.drop_succ_cons, List.take_succ_cons, List.take_zero, List.cons.injEq, and_true] at h2 h4 h5 h8
        subst h2; subst h4; subst h5; subst h8
        exact ⟨nm, sf, _, _, gs, ls, rfl, h6, h9, h7, h10, h1, h3⟩
/-- From the cells back to the value. -/
theorem slice_val {b0 : Nat} {r : Reach} {v u : Value} (ht : P.underlying t = some (.slice e)) (hv : Value.okWide P W r b0 t v) (h : v.cells.toList = [u]) : v = u := by
  obtain ⟨a, n, c, rfl⟩ := okWide_slice ht hv
  simpa [Value.cells] using h
theorem int_val {b0 : Nat} {r : Reach} {k : IntKind} {v u : Value} (ht : P.underlying t = some (.int k)) (hv : Value.okWide P W r b0 t v) (h : v.cells.toList = [u]) : v = u := by
  obtain ⟨n, rfl⟩ := okWide_int ht hv
  simpa [Value.cells] using h
theorem struct_val {fs : List (Nat × Nat × Nat)} {b0 : Nat} {r : Reach} {v : Value} {cs : List Value} (hf : fsC P t = some fs) (hv : Value.okWide P W r b0 t v) (h : v.cells.toList = cs) : v = .agg cs.toArray := by
  obtain ⟨cs', rfl, h'⟩ := agg_of hf hv
  rw [← h, h']
theorem arr_val {m : Nat} {b0 : Nat} {r : Reach} {v : Value} {cs : List Value} (ht : P.underlying t = some (.array m e)) (hv : Value.okWide P W r b0 t v) (h : v.cells.toList = cs) : v = .agg cs.toArray := by
  simp only [Value.okWide, ht] at hv
  obtain ⟨cs', rfl, _⟩ := hv
  rw [← h]
  simp [Value.cells]
end
end Go.Proofs.Ytecfnhgbgngpiaa
