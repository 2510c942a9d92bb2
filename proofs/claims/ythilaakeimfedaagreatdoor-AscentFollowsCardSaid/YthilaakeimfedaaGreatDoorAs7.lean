/-
  The tasks behind the legs of a schedule, as lists in memory; what is given back by the functions that make such lists. Conditions: those in front of each theorem.
-/
import Derived.Test.YthilaakeimfedaaGreatDoorAs5
import Derived.Test.YthilaakeimfedaaGreatDoorShKn
import Derived.Test.YthilaakeimfedaaGreatDoorShBld
import Derived.Test.YthilaakeimfedaaGreatDoorT
namespace Go.Proofs.YthilaakeimfedaaGreatDoor
open Go.RowKit
def cAg (x : Ag) : List Value := [.int .i64 x.g.o, .int .i64 x.g.h, .int .i64 x.d]
def cRl (r : Rl) : List Value := [.int .i64 r.sp, .int .i64 r.gr, .int .i64 r.st, .int .i64 r.lo, .int .i64 r.hi, .int .i64 r.an, .int .i64 r.fi]
def cAt (v u w : Value) (x : Asc) : List Value := [v, u, .int .i64 x.su, .int .i64 x.de, w, .int .i64 x.r.sp, .int .i64 x.r.gr, .int .i64 x.r.st, .int .i64 x.r.lo, .int .i64 x.r.hi, .int .i64 x.r.an, .int .i64 x.r.fi]
def cSp (p : Int × Int) : List Value := [.int .i64 p.1, .int .i64 p.2]
theorem one_ag (l : List Ag) : ∀ c ∈ (l.map cAg).flatten, c.oneCell' = true := one_map cAg (fun _ _ h => by simp only [cAg, List.mem_cons, List.not_mem_nil, or_false] at h; rcases h with rfl | rfl | rfl <;> rfl) l
def isTk (tc tl tg : TypeId) (X : Asc) (e : Int) (y : Value) (rs : List Res) : Prop := ∃ A1 n1 c1 A2 n2 c2 A3 n3 c3, y = .tuple #[.agg (cAt (.slice A1 n1 c1) (.slice A2 n2 c2) (.slice A3 n3 c3) X).toArray, .int .i64 e] ∧ rs = [sl (.slice A1 n1 c1) tc 4 (X.ts.map cCp), sl (.slice A2 n2 c2) tl 4 (X.ls.map cLd), sl (.slice A3 n3 c3) tg 3 (X.gs.map cAg)]
theorem isTk_sinks {tc tl tg : TypeId} {X : Asc} {e : Int} : ∀ y rs, isTk tc tl tg X e y rs → ∀ r ∈ rs, Sinks r := by
  rintro y rs ⟨A1, n1, c1, A2, n2, c2, A3, n3, c3, _, rfl⟩ r hr
  simp only [List.mem_cons, List.not_mem_nil, or_false] at hr
  rcases hr with rfl | rfl | rfl <;> exact sl_sinks _ _ _ _
theorem own3 {v u w : Value} {tc tl tg : TypeId} {a b d : List (List Value)} : ∀ r ∈ [sl v tc 4 a, sl u tl 4 b, sl w tg 3 d], r.own = true := by
  intro r hr
  simp only [List.mem_cons, List.not_mem_nil, or_false] at hr
  rcases hr with rfl | rfl | rfl <;> exact sl_own _ _ _ _
def isTo (tc tl tg : TypeId) (X : Asc) (y : Value) (rs : List Res) : Prop := ∃ A1 n1 c1 A2 n2 c2 A3 n3 c3, y = .agg (cAt (.slice A1 n1 c1) (.slice A2 n2 c2) (.slice A3 n3 c3) X).toArray ∧ rs = [sl (.slice A1 n1 c1) tc 4 (X.ts.map cCp), sl (.slice A2 n2 c2) tl 4 (X.ls.map cLd), sl (.slice A3 n3 c3) tg 3 (X.gs.map cAg)]
theorem isTo_sinks {tc tl tg : TypeId} {X : Asc} : ∀ y rs, isTo tc tl tg X y rs → ∀ r ∈ rs, Sinks r := by
  rintro y rs ⟨A1, n1, c1, A2, n2, c2, A3, n3, c3, _, rfl⟩ r hr
  simp only [List.mem_cons, List.not_mem_nil, or_false] at hr
  rcases hr with rfl | rfl | rfl <;> exact sl_sinks _ _ _ _
def isBh (tl : TypeId) (v w : Value) (X : Asc) (y : Value) (rs : List Res) : Prop := ∃ A n c, y = .agg (cAt v (.slice A n c) w X).toArray ∧ rs = [sl (.slice A n c) tl 4 (X.ls.map cLd)]
theorem isBh_sinks {tl : TypeId} {v w : Value} {X : Asc} : ∀ y rs, isBh tl v w X y rs → ∀ r ∈ rs, Sinks r := by
  rintro y rs ⟨A, n, c, _, rfl⟩ r hr
  simp only [List.mem_cons, List.not_mem_nil, or_false] at hr
  subst hr
  exact sl_sinks _ _ _ _
def isSc (td ti : TypeId) (S : Sch) (y : Value) (rs : List Res) : Prop := ∃ A1 n1 c1 A2 n2 c2, y = .tuple #[.agg #[.slice A1 n1 c1, .slice A2 n2 c2], .int .i64 S.2] ∧ rs = [sl (.slice A1 n1 c1) td 3 (S.1.1.map cDl), sl (.slice A2 n2 c2) ti 1 (S.1.2.map cI)]
theorem isSc_sinks {td ti : TypeId} {S : Sch} : ∀ y rs, isSc td ti S y rs → ∀ r ∈ rs, Sinks r := by
  rintro y rs ⟨A1, n1, c1, A2, n2, c2, _, rfl⟩ r hr
  simp only [List.mem_cons, List.not_mem_nil, or_false] at hr
  rcases hr with rfl | rfl <;> exact sl_sinks _ _ _ _
theorem own2 {v u : Value} {tc tl : TypeId} {p q : Nat} {a b : List (List Value)} : ∀ r ∈ [sl v tc p a, sl u tl q b], r.own = true := by
  intro r hr
  simp only [List.mem_cons, List.not_mem_nil, or_false] at hr
  rcases hr with rfl | rfl <;> exact sl_own _ _ _ _
def isTt (tc tl : TypeId) (ts : List Cp) (ls : List Ld) (z : Lg) (fa : Int) (y : Value) (rs : List Res) : Prop := ∃ A1 n1 c1 A2 n2 c2, y = .agg (cDv (.slice A1 n1 c1) (.slice A2 n2 c2) z fa).toArray ∧ rs = [sl (.slice A1 n1 c1) tc 4 (ts.map cCp), sl (.slice A2 n2 c2) tl 4 (ls.map cLd)]
theorem isTt_sinks {tc tl : TypeId} {ts : List Cp} {ls : List Ld} {z : Lg} {fa : Int} : ∀ y rs, isTt tc tl ts ls z fa y rs → ∀ r ∈ rs, Sinks r := by
  rintro y rs ⟨A1, n1, c1, A2, n2, c2, _, rfl⟩ r hr
  simp only [List.mem_cons, List.not_mem_nil, or_false] at hr
  rcases hr with rfl | rfl <;> exact sl_sinks _ _ _ _
def isTe (tc tl : TypeId) (ts : List Cp) (ls : List Ld) (z : Lg) (fa e : Int) (y : Value) (rs : List Res) : Prop := ∃ A1 n1 c1 A2 n2 c2, y = .tuple #[.agg (cDv (.slice A1 n1 c1) (.slice A2 n2 c2) z fa).toArray, .int .i64 e] ∧ rs = [sl (.slice A1 n1 c1) tc 4 (ts.map cCp), sl (.slice A2 n2 c2) tl 4 (ls.map cLd)]
theorem isTe_sinks {tc tl : TypeId} {ts : List Cp} {ls : List Ld} {z : Lg} {fa e : Int} : ∀ y rs, isTe tc tl ts ls z fa e y rs → ∀ r ∈ rs, Sinks r := by
  rintro y rs ⟨A1, n1, c1, A2, n2, c2, _, rfl⟩ r hr
  simp only [List.mem_cons, List.not_mem_nil, or_false] at hr
  rcases hr with rfl | rfl <;> exact sl_sinks _ _ _ _
def isSo (td ti : TypeId) (L : List Dl) (F : List Int) (y : Value) (rs : List Res) : Prop := ∃ A1 n1 c1 A2 n2 c2, y = .agg #[.slice A1 n1 c1, .slice A2 n2 c2] ∧ rs = [sl (.slice A1 n1 c1) td 3 (L.map cDl), sl (.slice A2 n2 c2) ti 1 (F.map cI)]
theorem isSo_sinks {td ti : TypeId} {L : List Dl} {F : List Int} : ∀ y rs, isSo td ti L F y rs → ∀ r ∈ rs, Sinks r := by
  rintro y rs ⟨A1, n1, c1, A2, n2, c2, _, rfl⟩ r hr
  simp only [List.mem_cons, List.not_mem_nil, or_false] at hr
  rcases hr with rfl | rfl <;> exact sl_sinks _ _ _ _
end Go.Proofs.YthilaakeimfedaaGreatDoor
namespace Go.Proofs.YthilaakeimfedaaGreatDoor
open Go.RowKit Go.ChangeShapes Go.WideShapes Go.Deep

section
variable {P : Program} {W : World} {t e : TypeId}
def i64Cp (c : Cp) : Prop := i64 c.n ∧ i64 c.h ∧ i64 c.b ∧ i64 c.s
def i64Rg (r : Rg) : Prop := i64 r.lo ∧ i64 r.hi
def i64Ld (l : Ld) : Prop := i64Rg l.n ∧ i64Rg l.h
theorem opn_cp (h : IT P t 4) : Opn P W t (fun cs => ∃ c, i64Cp c ∧ cs = cCp c) := (h W).mono fun cs ⟨xs, hl, hq, hc⟩ => by
  match xs, hl with
  | [a, b, c, d], _ => exact ⟨⟨a, b, c, d⟩, ⟨hq a (by simp), hq b (by simp), hq c (by simp), hq d (by simp)⟩, hc⟩
theorem opn_ld (h : IT P t 4) : Opn P W t (fun cs => ∃ c, i64Ld c ∧ cs = cLd c) := (h W).mono fun cs ⟨xs, hl, hq, hc⟩ => by
  match xs, hl with
  | [a, b, c, d], _ => exact ⟨⟨⟨a, b⟩, ⟨c, d⟩⟩, ⟨⟨hq a (by simp), hq b (by simp)⟩, ⟨hq c (by simp), hq d (by simp)⟩⟩, hc⟩
theorem opn_gs (h : IT P t 2) : Opn P W t (fun cs => ∃ c : Gs, (i64 c.o ∧ i64 c.h) ∧ cs = cGs c) := (h W).mono fun cs ⟨xs, hl, hq, hc⟩ => by
  match xs, hl with
  | [a, b], _ => exact ⟨⟨a, b⟩, ⟨hq a (by simp), hq b (by simp)⟩, hc⟩
theorem opn_i3 (h : IT P t 3) : Opn P W t (fun cs => ∃ a b c, (i64 a ∧ i64 b ∧ i64 c) ∧ cs = [.int .i64 a, .int .i64 b, .int .i64 c]) := (h W).mono fun cs ⟨xs, hl, hq, hc⟩ => by
  match xs, hl with
  | [a, b, c], _ => exact ⟨a, b, c, ⟨hq a (by simp), hq b (by simp), hq c (by simp)⟩, hc⟩
theorem opn_tab (ht : P.underlying t = some (.slice e)) (hk : P.cellsOf e = 4) (h : IT P e 4) : Opn P W t (fun cs => ∃ (v : Value) (ts : List Cp), cs = [v] ∧ Rdd W v 4 (ts.map cCp) ∧ ∀ c ∈ ts, i64Cp c) := opn_list cCp ht hk (by decide) (opn_cp h)
theorem opn_lds (ht : P.underlying t = some (.slice e)) (hk : P.cellsOf e = 4) (h : IT P e 4) : Opn P W t (fun cs => ∃ (v : Value) (ls : List Ld), cs = [v] ∧ Rdd W v 4 (ls.map cLd) ∧ ∀ c ∈ ls, i64Ld c) := opn_list cLd ht hk (by decide) (opn_ld h)
theorem opn_ints (ht : P.underlying t = some (.slice e)) (hk : P.cellsOf e = 1) (he : P.underlying e = some (.int .i64)) : Opn P W t (fun cs => ∃ (v : Value) (ls : List Int), cs = [v] ∧ Rdd W v 1 (ls.map cI) ∧ ∀ c ∈ ls, i64 c) :=
  opn_list cI ht hk (by decide) ((opn_int he).mono fun _ ⟨n, h, hc⟩ => ⟨n, h, hc⟩)
theorem opn_gss (ht : P.underlying t = some (.slice e)) (hk : P.cellsOf e = 2) (h : IT P e 2) : Opn P W t (fun cs => ∃ (v : Value) (ls : List Gs), cs = [v] ∧ Rdd W v 2 (ls.map cGs) ∧ ∀ c ∈ ls, i64 c.o ∧ i64 c.h) := opn_list cGs ht hk (by decide) (opn_gs h)
def i64Dl (x : Dl) : Prop := i64 x.s ∧ i64 x.d ∧ i64 x.g
theorem opn_dl (h : IT P t 3) : Opn P W t (fun cs => ∃ c, i64Dl c ∧ cs = cDl c) := (h W).mono fun cs ⟨xs, hl, hq, hc⟩ => by
  match xs, hl with
  | [a, b, c], _ => exact ⟨⟨a, b, c⟩, ⟨hq a (by simp), hq b (by simp), hq c (by simp)⟩, hc⟩
theorem opn_dls (ht : P.underlying t = some (.slice e)) (hk : P.cellsOf e = 3) (h : IT P e 3) : Opn P W t (fun cs => ∃ (v : Value) (ls : List Dl), cs = [v] ∧ Rdd W v 3 (ls.map cDl) ∧ ∀ c ∈ ls, i64Dl c) := opn_list cDl ht hk (by decide) (opn_dl h)
theorem opn_plan {tN tS tG tL : TypeId} (hfs : fsC P t = some [(0, 1, tN), (1, 1, tS), (2, 1, tG), (3, 1, tL)]) (hC : P.cellsOf t = 4) (hN : P.underlying tN = some .string) (hS : P.underlying tS = some (.int .i64)) (hG : Opn P W tG (fun cs => ∃ (v : Value) (ls : List Gs), cs = [v] ∧ Rdd W v 2 (ls.map cGs) ∧ ∀ c ∈ ls, i64 c.o ∧ i64 c.h))
    (hL : Opn P W tL (fun cs => ∃ (v : Value) (ls : List Dl), cs = [v] ∧ Rdd W v 3 (ls.map cDl) ∧ ∀ c ∈ ls, i64Dl c)) :
    Opn P W t (fun cs => ∃ (nm : ByteArray) (sf : Int) (v u : Value) (gs : List Gs) (ls : List Dl), cs = cPl nm sf v u ∧ Rdd W v 2 (gs.map cGs) ∧ Rdd W u 3 (ls.map cDl) ∧ (∀ c ∈ gs, i64 c.o ∧ i64 c.h) ∧ (∀ c ∈ ls, i64Dl c) ∧ nm.size ≤ maxLen ∧ i64 sf) :=
  ((((opn_len hfs).and (opn_field hfs (o := 0) (k := 1) (by simp) (opn_str hN))).and (opn_field hfs (o := 1) (k := 1) (by simp) (opn_int hS))).and ((opn_field hfs (o := 2) (k := 1) (by simp) hG).and (opn_field hfs (o := 3) (k := 1) (by simp) hL))).mono
    fun cs ⟨⟨⟨hl, nm, h1, h2⟩, sf, h3, h4⟩, ⟨v, gs, h5, h6, h7⟩, u, ls, h8, h9, h10⟩ => by
      rw [hC] at hl
      match cs, hl with
      | [a, b, c, d], _ =>
        simp only [List.drop_zero, List.drop_succ_cons, List.take_succ_cons, List.take_zero, List.cons.injEq, and_true] at h2 h4 h5 h8
        subst h2; subst h4; subst h5; subst h8
        exact ⟨nm, sf, _, _, gs, ls, rfl, h6, h9, h7, h10, h1, h3⟩
theorem int_val {b0 : Nat} {r : Reach} {k : IntKind} {v u : Value} (ht : P.underlying t = some (.int k)) (hv : Value.okWide P W r b0 t v) (h : v.cells.toList = [u]) : v = u := by
  obtain ⟨n, rfl⟩ := okWide_int ht hv
  simpa [Value.cells] using h
theorem struct_val {fs : List (Nat × Nat × Nat)} {b0 : Nat} {r : Reach} {v : Value} {cs : List Value} (hf : fsC P t = some fs) (hv : Value.okWide P W r b0 t v) (h : v.cells.toList = cs) : v = .agg cs.toArray := by
  obtain ⟨cs', rfl, h'⟩ := agg_of hf hv
  rw [← h, h']
theorem arr_val {m : Nat} {b0 : Nat} {r : Reach} {v : Value} {cs : List Value} (ht : P.underlying t = some (.array m e)) (hv : Value.okWide P W r b0 t v) (h : v.cells.toList = cs) : v = .agg cs.toArray := by
  simp only [Value.okWide, ht] at hv
  obtain ⟨cs', rfl, _⟩ := hv
  rw [← h]
  simp [Value.cells]
end
end Go.Proofs.YthilaakeimfedaaGreatDoor
namespace Go.Proofs.YthilaakeimfedaaGreatDoor
open Go.RowKit Go.ChangeShapes Go.WideShapes Go.Deep
section
variable {P : Program} {W : World} {t e : TypeId}
theorem opn_rl (h : IT P t 7) : Opn P W t (fun cs => ∃ r : Rl, cs = cRl r) := (h W).mono fun cs ⟨xs, hl, hq, hc⟩ => by
  match xs, hl with
  | [a, b, c, d, f, g, i], _ => exact ⟨⟨a, b, c, d, f, g, i⟩, hc⟩
theorem opn_ag (h : IT P t 3) : Opn P W t (fun cs => ∃ c : Ag, (i64 c.g.o ∧ i64 c.g.h ∧ i64 c.d) ∧ cs = cAg c) := (h W).mono fun cs ⟨xs, hl, hq, hc⟩ => by
  match xs, hl with
  | [a, b, c], _ => exact ⟨⟨⟨a, b⟩, c⟩, ⟨hq a (by simp), hq b (by simp), hq c (by simp)⟩, hc⟩
theorem opn_ags (ht : P.underlying t = some (.slice e)) (hk : P.cellsOf e = 3) (h : IT P e 3) : Opn P W t (fun cs => ∃ (v : Value) (ls : List Ag), cs = [v] ∧ Rdd W v 3 (ls.map cAg) ∧ ∀ c ∈ ls, i64 c.g.o ∧ i64 c.g.h ∧ i64 c.d) := opn_list cAg ht hk (by decide) (opn_ag h)
theorem opn_sch {tD tI : TypeId} (hfs : fsC P t = some [(0, 1, tD), (1, 1, tI)]) (hC : P.cellsOf t = 2) (hD : Opn P W tD (fun cs => ∃ (v : Value) (ls : List Dl), cs = [v] ∧ Rdd W v 3 (ls.map cDl) ∧ ∀ c ∈ ls, i64Dl c))
    (hI : Opn P W tI (fun cs => ∃ (v : Value) (ls : List Int), cs = [v] ∧ Rdd W v 1 (ls.map cI) ∧ ∀ c ∈ ls, i64 c)) :
    Opn P W t (fun cs => ∃ (v u : Value) (L : List Dl) (F : List Int), cs = [v, u] ∧ Rdd W v 3 (L.map cDl) ∧ Rdd W u 1 (F.map cI)) :=
  (((opn_len hfs).and (opn_field hfs (o := 0) (k := 1) (by simp) hD)).and (opn_field hfs (o := 1) (k := 1) (by simp) hI)).mono
    fun cs ⟨⟨hl, v, L, h1, h2, _⟩, u, F, h4, h5, _⟩ => by
      rw [hC] at hl
      match cs, hl with
      | [a, b], _ =>
        simp only [List.drop_zero, List.drop_succ_cons, List.take_succ_cons, List.take_zero, List.cons.injEq, and_true] at h1 h4
        subst h1; subst h4
        exact ⟨_, _, L, F, rfl, h2, h5⟩
theorem opn_asc {tC tL tG tR tI : TypeId} (hfs : fsC P t = some [(0, 1, tC), (1, 1, tL), (2, 1, tI), (3, 1, tI), (4, 1, tG), (5, 7, tR)]) (hC : P.cellsOf t = 12)
    (hT : Opn P W tC (fun cs => ∃ (v : Value) (ts : List Cp), cs = [v] ∧ Rdd W v 4 (ts.map cCp) ∧ ∀ c ∈ ts, i64Cp c)) (hL : Opn P W tL (fun cs => ∃ (v : Value) (ls : List Ld), cs = [v] ∧ Rdd W v 4 (ls.map cLd) ∧ ∀ c ∈ ls, i64Ld c))
    (hG : Opn P W tG (fun cs => ∃ (v : Value) (ls : List Ag), cs = [v] ∧ Rdd W v 3 (ls.map cAg) ∧ ∀ c ∈ ls, i64 c.g.o ∧ i64 c.g.h ∧ i64 c.d)) (hR : IT P tR 7) (hI : P.underlying tI = some (.int .i64)) :
    Opn P W t (fun cs => ∃ (v u w : Value) (x : Asc), cs = cAt v u w x ∧ Rdd W v 4 (x.ts.map cCp) ∧ Rdd W u 4 (x.ls.map cLd) ∧ Rdd W w 3 (x.gs.map cAg)) :=
  (((((opn_len hfs).and (opn_field hfs (o := 0) (k := 1) (by simp) hT)).and (opn_field hfs (o := 1) (k := 1) (by simp) hL)).and ((opn_field hfs (o := 2) (k := 1) (by simp) (opn_int hI)).and (opn_field hfs (o := 3) (k := 1) (by simp) (opn_int hI)))).and
    ((opn_field hfs (o := 4) (k := 1) (by simp) hG).and (opn_field hfs (o := 5) (k := 7) (by simp) (opn_rl hR)))).mono
    fun cs ⟨⟨⟨⟨hl, v, ts, h1, h2, _⟩, u, ls, h3, h4, _⟩, ⟨su, _, h5⟩, de, _, h6⟩, ⟨w, gs, h7, h8, _⟩, r, h9⟩ => by
      rw [hC] at hl
      match cs, hl with
      | [a, b, c, d, f, g, i, j, k, l, m, n], _ =>
        simp only [List.drop_zero, List.drop_succ_cons, List.take_succ_cons, List.take_zero, List.cons.injEq, and_true, cRl] at h1 h3 h5 h6 h7 h9
        obtain ⟨rfl, rfl, rfl, rfl, rfl, rfl, rfl⟩ := h9
        subst h1; subst h3; subst h5; subst h6; subst h7
        exact ⟨_, _, _, ⟨ts, ls, su, de, gs, r⟩, rfl, h2, h4, h8⟩
end
end Go.Proofs.YthilaakeimfedaaGreatDoor
namespace Go.Proofs.YthilaakeimfedaaGreatDoor
open Go.RowKit
abbrev Tri := Value × Value × Value
def tkC (x : Asc) (L : List Dl) : List Tri → List (List Value)
  | [] => []
  | q :: t => tkC x L t ++ [cAt q.1 q.2.1 q.2.2 (behA x L (t.length + 1))]
def tkR (tc tl tg : TypeId) (x : Asc) (L : List Dl) : List Tri → List Res
  | [] => []
  | q :: t => sl q.1 tc 4 ((behA x L (t.length + 1)).ts.map cCp) :: sl q.2.1 tl 4 ((behA x L (t.length + 1)).ls.map cLd) :: sl q.2.2 tg 3 ((behA x L (t.length + 1)).gs.map cAg) :: tkR tc tl tg x L t
def luR (tl : TypeId) (x : Asc) (L : List Dl) : List Value → List Res
  | [] => []
  | u :: t => sl u tl 4 ((behA x L (t.length + 1)).ls.map cLd) :: luR tl x L t
section
variable {x : Asc} {L : List Dl} {tc tl tg : TypeId}
theorem tkC_len : ∀ T : List Tri, (tkC x L T).length = T.length
  | [] => rfl
  | q :: t => by rw [tkC, List.length_append, tkC_len t]; rfl
theorem tkC_get {i : Nat} {q : Tri} : ∀ {T : List Tri}, T.reverse[i]? = some q → (tkC x L T)[i]? = some (cAt q.1 q.2.1 q.2.2 (behA x L (i + 1)))
  | [], h => by simp at h
  | a :: t, h => by
    rw [List.reverse_cons] at h
    unfold tkC
    rcases Nat.lt_or_ge i t.length with hi | hi
    · rw [List.getElem?_append_left (by simpa using hi)] at h
      rw [List.getElem?_append_left (by rw [tkC_len]; exact hi)]
      exact tkC_get h
    · rw [List.getElem?_append_right (by simpa using hi)] at h
      have h0 : i - t.reverse.length = 0 := by
        rcases Nat.eq_zero_or_pos (i - t.reverse.length) with h9 | h9
        · exact h9
        · rw [List.getElem?_eq_none (by simp at h9 ⊢; omega)] at h; cases h
      rw [h0] at h
      have hv : a = q := by simpa using h
      have hi2 : i = t.length := by simp at h0; omega
      subst hv
      subst hi2
      rw [List.getElem?_append_right (by rw [tkC_len]; exact Nat.le_refl _), tkC_len, Nat.sub_self]
      rfl
theorem tkR_mem {i : Nat} {q : Tri} : ∀ {T : List Tri}, T.reverse[i]? = some q → sl q.1 tc 4 ((behA x L (i + 1)).ts.map cCp) ∈ tkR tc tl tg x L T ∧ sl q.2.1 tl 4 ((behA x L (i + 1)).ls.map cLd) ∈ tkR tc tl tg x L T ∧ sl q.2.2 tg 3 ((behA x L (i + 1)).gs.map cAg) ∈ tkR tc tl tg x L T
  | [], h => by simp at h
  | a :: t, h => by
    rw [List.reverse_cons] at h
    unfold tkR
    rcases Nat.lt_or_ge i t.length with hi | hi
    · rw [List.getElem?_append_left (by simpa using hi)] at h
      obtain ⟨h1, h2, h3⟩ := tkR_mem h
      exact ⟨.tail _ (.tail _ (.tail _ h1)), .tail _ (.tail _ (.tail _ h2)), .tail _ (.tail _ (.tail _ h3))⟩
    · rw [List.getElem?_append_right (by simpa using hi)] at h
      have h0 : i - t.reverse.length = 0 := by
        rcases Nat.eq_zero_or_pos (i - t.reverse.length) with h9 | h9
        · exact h9
        · rw [List.getElem?_eq_none (by simp at h9 ⊢; omega)] at h; cases h
      rw [h0] at h
      have hv : a = q := by simpa using h
      have hi2 : i = t.length := by simp at h0; omega
      subst hv
      subst hi2
      exact ⟨.head _, .tail _ (.head _), .tail _ (.tail _ (.head _))⟩
theorem luR_mem {i : Nat} {u : Value} : ∀ {T : List Value}, T.reverse[i]? = some u → sl u tl 4 ((behA x L (i + 1)).ls.map cLd) ∈ luR tl x L T
  | [], h => by simp at h
  | a :: t, h => by
    rw [List.reverse_cons] at h
    unfold luR
    rcases Nat.lt_or_ge i t.length with hi | hi
    · rw [List.getElem?_append_left (by simpa using hi)] at h
      exact .tail _ (luR_mem h)
    · rw [List.getElem?_append_right (by simpa using hi)] at h
      have h0 : i - t.reverse.length = 0 := by
        rcases Nat.eq_zero_or_pos (i - t.reverse.length) with h9 | h9
        · exact h9
        · rw [List.getElem?_eq_none (by simp at h9 ⊢; omega)] at h; cases h
      rw [h0] at h
      have hv : a = u := by simpa using h
      have hi2 : i = t.length := by simp at h0; omega
      subst hv
      subst hi2
      exact .head _
theorem tkR_own : ∀ {T : List Tri}, ∀ r ∈ tkR tc tl tg x L T, r.own = true
  | [], r, h => by cases h
  | a :: t, r, h => by
    unfold tkR at h
    rcases List.mem_cons.1 h with rfl | h
    · exact sl_own _ _ _ _
    rcases List.mem_cons.1 h with rfl | h
    · exact sl_own _ _ _ _
    rcases List.mem_cons.1 h with rfl | h
    · exact sl_own _ _ _ _
    · exact tkR_own r h
theorem tkR_sinks : ∀ {T : List Tri}, ∀ r ∈ tkR tc tl tg x L T, Sinks r
  | [], r, h => by cases h
  | a :: t, r, h => by
    unfold tkR at h
    rcases List.mem_cons.1 h with rfl | h
    · exact sl_sinks _ _ _ _
    rcases List.mem_cons.1 h with rfl | h
    · exact sl_sinks _ _ _ _
    rcases List.mem_cons.1 h with rfl | h
    · exact sl_sinks _ _ _ _
    · exact tkR_sinks r h
theorem luR_own : ∀ {T : List Value}, ∀ r ∈ luR tl x L T, r.own = true
  | [], r, h => by cases h
  | a :: t, r, h => by
    unfold luR at h
    rcases List.mem_cons.1 h with rfl | h
    · exact sl_own _ _ _ _
    · exact luR_own r h
theorem luR_sinks : ∀ {T : List Value}, ∀ r ∈ luR tl x L T, Sinks r
  | [], r, h => by cases h
  | a :: t, r, h => by
    unfold luR at h
    rcases List.mem_cons.1 h with rfl | h
    · exact sl_sinks _ _ _ _
    · exact luR_sinks r h
theorem gv_tk1 {i : Nat} {q : Tri} {T : List Tri} (h : T.reverse[i]? = some q) : GvR (tkR tc tl tg x L T) q.1 4 ((behA x L (i + 1)).ts.map cCp) := ⟨_, (tkR_mem h).1, sl_gives _ _ _ _⟩
theorem gv_tk2 {i : Nat} {q : Tri} {T : List Tri} (h : T.reverse[i]? = some q) : GvR (tkR tc tl tg x L T) q.2.1 4 ((behA x L (i + 1)).ls.map cLd) := ⟨_, (tkR_mem h).2.1, sl_gives _ _ _ _⟩
theorem gv_tk3 {i : Nat} {q : Tri} {T : List Tri} (h : T.reverse[i]? = some q) : GvR (tkR tc tl tg x L T) q.2.2 3 ((behA x L (i + 1)).gs.map cAg) := ⟨_, (tkR_mem h).2.2, sl_gives _ _ _ _⟩
theorem gv_lu {i : Nat} {u : Value} {T : List Value} (h : T.reverse[i]? = some u) : GvR (luR tl x L T) u 4 ((behA x L (i + 1)).ls.map cLd) := ⟨_, luR_mem h, sl_gives _ _ _ _⟩
theorem beh_ok (H : okAsc x) : ∀ {L : List Dl} {k : Nat}, k ≤ L.length → (∀ i, i < k → ∀ y, L[i]? = some y → ckAl (behA x L i) y = 0) → okAsc (behA x L k)
  | _, 0, _, _ => H
  | L, k + 1, hk, h => by
    obtain ⟨y, hy⟩ := get_some L (k := k) (by omega)
    rw [behA_s hy]
    exact bh_ok (beh_ok H (by omega) fun i hi => h i (by omega)) (ckAl_ok (h k (by omega) y hy)).1
end
/-! ### The error of the legs of a schedule -/
def flwF : Asc → List Dl → Int
  | _, [] => 0
  | x, y :: t => if ckAl x y ≠ 0 then ckAl x y else flwF (bhA x y) t
def flwE (x : Asc) (L : List Dl) (F : List Int) : Int := if ckAsc x ≠ 0 then ckAsc x else if ckSch L F ≠ 0 then ckSch L F else flwF x L
section
variable {x : Asc} {L : List Dl} {F : List Int} {k : Nat} {y : Dl}
theorem flw_yes (h : L[k]? = some y) (h1 : ckAl x y ≠ 0) : flwF x (L.drop k) = ckAl x y := by rw [drop_cons h]; exact if_pos h1
theorem flw_no (h : L[k]? = some y) (h1 : ¬ ckAl x y ≠ 0) : flwF x (L.drop k) = flwF (bhA x y) (L.drop (k + 1)) := by rw [drop_cons h]; exact if_neg h1
theorem flw_end (h : L.length ≤ k) : flwF x (L.drop k) = 0 := by rw [drop_all h]; rfl
theorem flwE_1 (h : ckAsc x ≠ 0) : flwE x L F = ckAsc x := if_pos h
theorem flwE_2 (h : ckAsc x = 0) (h2 : ckSch L F ≠ 0) : flwE x L F = ckSch L F := by unfold flwE; rw [if_neg (fun hh => hh h), if_pos h2]
theorem flwE_3 (h : ckAsc x = 0) (h2 : ckSch L F = 0) : flwE x L F = flwF x L := by unfold flwE; rw [if_neg (fun hh => hh h), if_neg (fun hh => hh h2)]
theorem flw_all : ∀ {L : List Dl} {x : Asc}, flwF x L = 0 → ∀ i y, L[i]? = some y → ckAl (behA x L i) y = 0
  | [], _, _, i, y, h => by simp at h
  | z :: t, x, h, i, y, hy => by
    have h1 : ckAl x z = 0 := by
      apply Decidable.byContradiction
      intro hh
      rw [flwF, if_pos hh] at h
      exact hh h
    rw [flwF, if_neg (fun hh => hh h1)] at h
    match i with
    | 0 => obtain rfl : z = y := by simpa using hy
           exact h1
    | i + 1 => rw [behA_cons]; exact flw_all h i y (by simpa using hy)
theorem chk_flw {t : Int} : ∀ {L : List Dl} {F : List Int} {x : Asc} {j : Int}, F.length = L.length → (chkF t x L F j).2 = 0 → flwF x L = 0
  | [], _, _, _, _, _ => rfl
  | z :: l, [], x, j, hl, h => by simp at hl
  | z :: l, f :: F, x, j, hl, h => by
    rw [chkF] at h
    by_cases h1 : ckAl x z ≠ 0
    · rw [if_pos h1] at h; exact absurd h h1
    rw [if_neg h1] at h
    by_cases h2 : f > x.r.fi
    · rw [if_pos h2] at h; exact absurd (show (2 : Int) = 0 from h) (by decide)
    rw [if_neg h2] at h
    by_cases h3 : keptT x.ts x.ls (lgA x z) (faA x) f.toNat ≠ 2
    · rw [if_pos h3] at h; exact absurd (show (22 : Int) = 0 from h) (by decide)
    rw [if_neg h3] at h
    rw [flwF, if_neg h1]
    exact chk_flw (by simpa using hl) h
theorem chk_at {t : Int} : ∀ {L : List Dl} {F : List Int} {x : Asc} {j : Int}, F.length = L.length → (chkF t x L F j).2 = 0 → ∀ i y f, L[i]? = some y → F[i]? = some f → f ≤ x.r.fi ∧ keptT (behA x L i).ts (behA x L i).ls (lgA (behA x L i) y) (faA (behA x L i)) f.toNat = 2
  | [], _, _, _, _, _, i, y, f, h, _ => by simp at h
  | z :: l, [], x, j, hl, h, _, _, _, _, _ => by simp at hl
  | z :: l, g :: F, x, j, hl, h, i, y, f, hy, hf => by
    rw [chkF] at h
    by_cases h1 : ckAl x z ≠ 0
    · rw [if_pos h1] at h; exact absurd h h1
    rw [if_neg h1] at h
    by_cases h2 : g > x.r.fi
    · rw [if_pos h2] at h; exact absurd (show (2 : Int) = 0 from h) (by decide)
    rw [if_neg h2] at h
    by_cases h3 : keptT x.ts x.ls (lgA x z) (faA x) g.toNat ≠ 2
    · rw [if_pos h3] at h; exact absurd (show (22 : Int) = 0 from h) (by decide)
    rw [if_neg h3] at h
    match i with
    | 0 =>
      obtain rfl : z = y := by simpa using hy
      obtain rfl : g = f := by simpa using hf
      exact ⟨by omega, Decidable.not_not.1 h3⟩
    | i + 1 =>
      rw [behA_cons]
      exact chk_at (x := bhA x z) (by simpa using hl) h i y f (by simpa using hy) (by simpa using hf)
end
/-! ### What functions give back -/
def FlwP (ta tc tl tg : TypeId) (x : Asc) (L : List Dl) (e : Int) (y : Value) (rs' : List Res) : Prop := ∃ s T, y = .tuple #[s, .int .i64 e] ∧ rs' = sl s ta 12 (tkC x L T) :: tkR tc tl tg x L T ∧ T.length = if e = 0 then L.length else 0
theorem FlwP_bad {ta tc tl tg : TypeId} {x : Asc} {L : List Dl} {e : Int} (he : e ≠ 0) : FlwP ta tc tl tg x L e (.tuple #[.slice none 0 0, .int .i64 e]) [sl (.slice none 0 0) ta 12 []] := ⟨_, [], rfl, rfl, by rw [if_neg he]; rfl⟩
theorem FlwP_own {ta tc tl tg : TypeId} {x : Asc} {L : List Dl} {s : Value} {T : List Tri} : ∀ r ∈ sl s ta 12 (tkC x L T) :: tkR tc tl tg x L T, r.own = true := by
  intro r hr
  rcases List.mem_cons.1 hr with rfl | hr
  · exact sl_own _ _ _ _
  · exact tkR_own r hr
theorem FlwP_sinks {ta tc tl tg : TypeId} {x : Asc} {L : List Dl} {e : Int} : ∀ y rs, FlwP ta tc tl tg x L e y rs → ∀ r ∈ rs, Sinks r := by
  rintro y rs ⟨s, T, _, rfl, _⟩ r hr
  rcases List.mem_cons.1 hr with rfl | hr
  · exact sl_sinks _ _ _ _
  · exact tkR_sinks r hr
def FlrP (ta tl : TypeId) (v w : Value) (x : Asc) (L : List Dl) (e : Int) (y : Value) (rs' : List Res) : Prop := ∃ s T, y = .tuple #[s, .int .i64 e] ∧ rs' = sl s ta 12 (tkC x L (T.map fun u => (v, u, w))) :: luR tl x L T ∧ T.length = if e = 0 then L.length else 0
theorem FlrP_bad {ta tl : TypeId} {v w : Value} {x : Asc} {L : List Dl} {e : Int} (he : e ≠ 0) : FlrP ta tl v w x L e (.tuple #[.slice none 0 0, .int .i64 e]) [sl (.slice none 0 0) ta 12 []] := ⟨_, [], rfl, rfl, by rw [if_neg he]; rfl⟩
theorem FlrP_own {ta tl : TypeId} {x : Asc} {L : List Dl} {s : Value} {l : List (List Value)} {T : List Value} : ∀ r ∈ sl s ta 12 l :: luR tl x L T, r.own = true := by
  intro r hr
  rcases List.mem_cons.1 hr with rfl | hr
  · exact sl_own _ _ _ _
  · exact luR_own r hr
theorem FlrP_sinks {ta tl : TypeId} {v w : Value} {x : Asc} {L : List Dl} {e : Int} : ∀ y rs, FlrP ta tl v w x L e y rs → ∀ r ∈ rs, Sinks r := by
  rintro y rs ⟨s, T, _, rfl, _⟩ r hr
  rcases List.mem_cons.1 hr with rfl | hr
  · exact sl_sinks _ _ _ _
  · exact luR_sinks r hr
def isSp (t : TypeId) (l : List (Int × Int)) (e : Int) (y : Value) (rs : List Res) : Prop := ∃ a, y = .tuple #[a, .int .i64 e] ∧ rs = [sl a t 2 (l.map cSp)]
theorem isSp_sinks {t : TypeId} {l : List (Int × Int)} {e : Int} : ∀ y rs, isSp t l e y rs → ∀ r ∈ rs, Sinks r := by
  rintro y rs ⟨a, _, rfl⟩ r hr
  simp only [List.mem_cons, List.not_mem_nil, or_false] at hr
  subst hr
  exact sl_sinks _ _ _ _
def csE (x : Asc) (L : List Dl) (F : List Int) : Int × Int := if ckAsc x ≠ 0 then (0, ckAsc x) else chkA x L F
theorem csE_1 {x : Asc} {L : List Dl} {F : List Int} (h : ckAsc x ≠ 0) : csE x L F = (0, ckAsc x) := if_pos h
theorem csE_2 {x : Asc} {L : List Dl} {F : List Int} (h : ckAsc x = 0) : csE x L F = chkA x L F := if_neg (fun hh => hh h)
def alE (x : Asc) (y : Dl) : Int := if ckAsc x ≠ 0 then ckAsc x else ckAl x y
theorem alE_1 {x : Asc} {y : Dl} (h : ckAsc x ≠ 0) : alE x y = ckAsc x := if_pos h
theorem alE_2 {x : Asc} {y : Dl} (h : ckAsc x = 0) : alE x y = ckAl x y := if_neg (fun hh => hh h)
theorem alE_ok {x : Asc} {y : Dl} (h : alE x y = 0) : okAsc x ∧ ckAl x y = 0 := by
  by_cases h1 : ckAsc x ≠ 0
  · rw [alE_1 h1] at h; exact absurd h h1
  · have h2 := Decidable.not_not.1 h1
    rw [alE_2 h2] at h
    exact ⟨ckAsc_ok h2, h⟩
theorem ag_first (x : Ag) : firstE [ckGas x.g.o x.g.h, depE [x.d]] = ckAg x := by
  rw [first_2, dep_1]
  rfl
end Go.Proofs.YthilaakeimfedaaGreatDoor
