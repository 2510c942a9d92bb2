/-
  Opening the data of plans and of chapter 5: gases, legs, plans, rules, as arguments of a statement. Conditions: none; no program in sight.
-/
import Derived.Test.YtdmnejfpbbmcaaaShUse
import Derived.Test.YtdmnejfpbbmcaaaShCopy
import Derived.Test.YtdmnejfpbbmcaaaXp1
import Derived.Test.YtdmnejfpbbmcaaaXp2
import Derived.Test.YtdmnejfpbbmcaaaXp9
import Derived.Test.YtdmnejfpbbmcaaaOpn
namespace Go.Proofs.Ytdmnejfpbbmcaaa
def cI (n : Int) : List Value := [.int .i64 n]
def cRg (r : Rg) : List Value := [.int .i64 r.lo, .int .i64 r.hi]
def cGs (g : Gs) : List Value := [.int .i64 g.o, .int .i64 g.h]
def cDl (x : Dl) : List Value := [.int .i64 x.s, .int .i64 x.d, .int .i64 x.g]
def cPl (nm : ByteArray) (sf : Int) (v u : Value) : List Value := [.string nm, .int .i64 sf, v, u]
def cOw (x : Ow) : List Value := [.int .i64 x.f, .int .i64 x.r]
def cRu (t : Value) (r : Ru) : List Value := [t, .int .i64 r.lo, .int .i64 r.hi, .int .i64 r.na, .int .i64 r.de, .int .i64 r.br, .int .i64 r.em, .int .i64 r.pa, .int .i64 r.ac]
def cLe (x : Le) : List Value := [.int .i64 x.x.s, .int .i64 x.x.d, .int .i64 x.x.g, .int .i64 x.b, .int .i64 x.f, .int .i64 x.t, .int .i64 x.sf, .int .i64 x.g.o, .int .i64 x.g.h]
theorem len_map {α : Type} (f : α → List Value) (l : List α) : (l.map f).length = l.length := List.length_map _
theorem en {a b : Int} (h : a = b) : some (Value.int .i64 a) = some (Value.int .i64 b) := by rw [h]
theorem wr {a b : Int} (h : a = b) (h2 : -9223372036854775808 ≤ b ∧ b ≤ 9223372036854775807) : IntKind.i64.wrap a = b := by subst h; exact IntWalk.i64_in _ (by omega)
theorem one_map {α : Type} (f : α → List Value) (hf : ∀ a, ∀ c ∈ f a, c.oneCell' = true) (l : List α) : ∀ c ∈ (l.map f).flatten, c.oneCell' = true := fun c hc => by
  obtain ⟨x, hx, hc⟩ := List.mem_flatten.1 hc
  obtain ⟨a, _, rfl⟩ := List.mem_map.1 hx
  exact hf a c hc
theorem oneGs (l : List Gs) : ∀ c ∈ (l.map cGs).flatten, c.oneCell' = true := one_map cGs (fun a c hc => by
  simp only [cGs, List.mem_cons, List.not_mem_nil, or_false] at hc
  rcases hc with rfl | rfl <;> rfl) l
theorem oneDl (l : List Dl) : ∀ c ∈ (l.map cDl).flatten, c.oneCell' = true := one_map cDl (fun a c hc => by
  simp only [cDl, List.mem_cons, List.not_mem_nil, or_false] at hc
  rcases hc with rfl | rfl | rfl <;> rfl) l
theorem oneOw (l : List Ow) : ∀ c ∈ (l.map cOw).flatten, c.oneCell' = true := one_map cOw (fun a c hc => by
  simp only [cOw, List.mem_cons, List.not_mem_nil, or_false] at hc
  rcases hc with rfl | rfl <;> rfl) l
theorem leg_cells (sf : Int) (gs : List Gs) (ls : List Dl) (k : Nat) : (legsK sf gs ls k).map cLe ++ [cLe (legAt sf gs ls k)] = (legsK sf gs ls (k + 1)).map cLe := by rw [legsK_succ, List.map_append]; rfl
theorem dl_cell {ls : List Dl} {k : Nat} (h : k < ls.length) : (ls.map cDl)[k]? = some (cDl (dlAt ls k)) := by
  obtain ⟨x, hx⟩ := get_some ls h
  rw [dlAt_get hx]
  exact map_get cDl hx
theorem ow_cell {tb : List Ow} {k : Nat} (h : k < tb.length) : (tb.map cOw)[k]? = some (cOw (owAt tb k)) := by
  obtain ⟨x, hx⟩ := get_some tb h
  rw [owAt_get hx]
  exact map_get cOw hx
theorem gas_cell {gs : List Gs} {i : Int} (h0 : 0 ≤ i) (h1 : i ≤ gs.length - 1) : (gs.map cGs)[i.toNat]? = some (cGs (gasAt gs i)) := by
  have : i.toNat < gs.length := by omega
  unfold gasAt
  rw [List.getElem?_map, List.getElem?_eq_getElem this]
  rfl
theorem le_cell {sf : Int} {gs : List Gs} {ls : List Dl} {k i : Nat} (h : i < k) : ((legsK sf gs ls k).map cLe)[i]? = some (cLe (legAt sf gs ls i)) := map_get cLe (legsK_get h)
theorem le_len (sf : Int) (gs : List Gs) (ls : List Dl) (k : Nat) : ((legsK sf gs ls k).map cLe).length = k := by rw [List.length_map, legsK_len]
theorem clk_cells (tb : List Ow) (sf : Int) (gs : List Gs) (ls : List Dl) (k : Nat) : (clksK tb sf gs ls k).map cI ++ [cI (clkM tb (legAt sf gs ls k))] = (clksK tb sf gs ls (k + 1)).map cI := by rw [clksK_succ, List.map_append]; rfl
theorem shrU1 (i j : Nat) : ((i : Int) + (j : Int)).fdiv (2 ^ (min (1 : Int).toNat IntKind.u64.bits)) = (((i + j) / 2 : Nat) : Int) := by
  have e : (2 : Int) ^ (min (1 : Int).toNat IntKind.u64.bits) = 2 := by decide
  rw [e, Int.fdiv_eq_ediv_of_nonneg _ (by decide)]
  omega
end Go.Proofs.Ytdmnejfpbbmcaaa
namespace Go.Proofs.Ytdmnejfpbbmcaaa
theorem cons_zero (n : Nat) (ls : List Dl) (amt : Nat → Int) : List.replicate n [Value.int .i64 0] = (consK n ls amt 0).map cI := by unfold consK; rw [List.map_replicate]; rfl
theorem cons_step {n k : Nat} {ls : List Dl} {amt : Nat → Int} {v : Int} (h : (consK n ls amt k)[(dlAt ls k).g.toNat]? = some v) : ((consK n ls amt k).map cI).set (dlAt ls k).g.toNat [.int .i64 (v + amt k)] = (consK n ls amt (k + 1)).map cI := by
  show _ = (addAt (consK n ls amt k) (dlAt ls k).g.toNat (amt k)).map cI
  unfold addAt
  rw [h, List.map_set]
  rfl
end Go.Proofs.Ytdmnejfpbbmcaaa
namespace Go.Proofs.Ytdmnejfpbbmcaaa
def cSw (x : Int × Int) : List Value := [.int .i64 x.1, .int .i64 x.2]
theorem pt_cells (ls : List Dl) (k : Nat) : (ptsK ls k).map cSw ++ [cSw (secAt ls (k + 1), depAt ls (k + 1))] = (ptsK ls (k + 1)).map cSw := by rw [ptsK_succ, List.map_append]; rfl
theorem pt_cell {ls : List Dl} {k i : Nat} (h : i ≤ k) : ((ptsK ls k).map cSw)[i]? = some (cSw (secAt ls i, depAt ls i)) := map_get cSw (ptsK_get h)
end Go.Proofs.Ytdmnejfpbbmcaaa
namespace Go.Proofs.Ytdmnejfpbbmcaaa
section
variable {g : Gs} {sf a b : Int} {r : Ru} {k j : Nat} {gs : List Gs} {ls : List Dl}
theorem bk_0y (h : g.o * min a b < 1000 * r.lo) : [cI 1] = (brkK g sf a b r 0).map cI := by show _ = (if _ then _ else _ : List Int).map cI; rw [if_pos h]; rfl
theorem bk_0n (h : ¬ g.o * min a b < 1000 * r.lo) : [] = (brkK g sf a b r 0).map cI := by show _ = (if _ then _ else _ : List Int).map cI; rw [if_neg h]; rfl
theorem bk_1y (h : richB g (max a b) r = true) : (brkK g sf a b r 0).map cI ++ [cI 2] = (brkK g sf a b r 1).map cI := by show _ = (brkK g sf a b r 0 ++ (if _ then _ else _)).map cI; rw [if_pos h, List.map_append]; rfl
theorem bk_1n (h : richB g (max a b) r = false) : (brkK g sf a b r 0).map cI = (brkK g sf a b r 1).map cI := by show _ = (brkK g sf a b r 0 ++ (if _ then _ else _)).map cI; rw [if_neg (by rw [h]; decide), List.append_nil]
theorem bk_2y (h : narcB g sf (max a b) r = true) : (brkK g sf a b r 1).map cI ++ [cI 3] = (brkK g sf a b r 2).map cI := by show _ = (brkK g sf a b r 1 ++ (if _ then _ else _)).map cI; rw [if_pos h, List.map_append]; rfl
theorem bk_2n (h : narcB g sf (max a b) r = false) : (brkK g sf a b r 1).map cI = (brkK g sf a b r 2).map cI := by show _ = (brkK g sf a b r 1 ++ (if _ then _ else _)).map cI; rw [if_neg (by rw [h]; decide), List.append_nil]
theorem bk_3y (h : denB g (max a b) r = true) : (brkK g sf a b r 2).map cI ++ [cI 4] = (brkK g sf a b r 3).map cI := by show _ = (brkK g sf a b r 2 ++ (if _ then _ else _)).map cI; rw [if_pos h, List.map_append]; rfl
theorem bk_3n (h : denB g (max a b) r = false) : (brkK g sf a b r 2).map cI = (brkK g sf a b r 3).map cI := by show _ = (brkK g sf a b r 2 ++ (if _ then _ else _)).map cI; rw [if_neg (by rw [h]; decide), List.append_nil]
theorem bp_step {x : Int} (h : (brkA r sf gs ls k)[j]? = some x) : (brp r sf gs ls k j).map cSw ++ [cSw ((k : Int), x)] = (brp r sf gs ls k (j + 1)).map cSw := by rw [brp_step h, List.map_append]; rfl
end
end Go.Proofs.Ytdmnejfpbbmcaaa
namespace Go.Proofs.Ytdmnejfpbbmcaaa
section
variable {nm : ByteArray} {sf : Int} {r : Ru} {gs : List Gs} {ls : List Dl} {am : List Int}
/-! ### The first second that is not survived -/
end
end Go.Proofs.Ytdmnejfpbbmcaaa
namespace Go.Proofs.Ytdmnejfpbbmcaaa
section
variable {nm : ByteArray} {sf : Int} {r : Ru} {gs : List Gs} {ls : List Dl} {L : List (Int × Int)} {n σ : Nat}
def upP (r : Ru) (sf : Int) (gs : List Gs) (ls : List Dl) (σ : Nat) (x : Int × Int) : Prop := x.2 < 0 ∨ aN r sf gs ls σ > x.1
instance (σ : Nat) (x : Int × Int) : Decidable (upP r sf gs ls σ x) := by unfold upP; infer_instance
end
end Go.Proofs.Ytdmnejfpbbmcaaa
namespace Go.Proofs.Ytdmnejfpbbmcaaa
section
variable {sf : Int} {r : Ru} {gs : List Gs} {ls : List Dl} {σ k : Nat} {x : Int × Int}
end
end Go.Proofs.Ytdmnejfpbbmcaaa
namespace Go.Proofs.Ytdmnejfpbbmcaaa
open Go.RowKit Go.ChangeShapes Go.WideShapes Go.Deep

section
variable {P : Program} {W : World} {t e : TypeId}
theorem opn_gs (h : IT P t 2) : Opn P W t (fun cs => ∃ c : Gs, (i64 c.o ∧ i64 c.h) ∧ cs = cGs c) := (h W).mono fun cs ⟨xs, hl, hq, hc⟩ => by
  match xs, hl with
  | [a, b], _ => exact ⟨⟨a, b⟩, ⟨hq a (by simp), hq b (by simp)⟩, hc⟩
theorem opn_i2 (h : IT P t 2) : Opn P W t (fun cs => ∃ a b, (i64 a ∧ i64 b) ∧ cs = [.int .i64 a, .int .i64 b]) := (h W).mono fun cs ⟨xs, hl, hq, hc⟩ => by
  match xs, hl with
  | [a, b], _ => exact ⟨a, b, ⟨hq a (by simp), hq b (by simp)⟩, hc⟩
theorem opn_gss (ht : P.underlying t = some (.slice e)) (hk : P.cellsOf e = 2) (h : IT P e 2) : Opn P W t (fun cs => ∃ (v : Value) (ls : List Gs), cs = [v] ∧ Rdd W v 2 (ls.map cGs) ∧ ∀ c ∈ ls, i64 c.o ∧ i64 c.h) := opn_list cGs ht hk (by decide) (opn_gs h)
def i64Dl (x : Dl) : Prop := i64 x.s ∧ i64 x.d ∧ i64 x.g
theorem opn_dl (h : IT P t 3) : Opn P W t (fun cs => ∃ c, i64Dl c ∧ cs = cDl c) := (h W).mono fun cs ⟨xs, hl, hq, hc⟩ => by
  match xs, hl with
  | [a, b, c], _ => exact ⟨⟨a, b, c⟩, ⟨hq a (by simp), hq b (by simp), hq c (by simp)⟩, hc⟩
theorem opn_dls (ht : P.underlying t = some (.slice e)) (hk : P.cellsOf e = 3) (h : IT P e 3) : Opn P W t (fun cs => ∃ (v : Value) (ls : List Dl), cs = [v] ∧ Rdd W v 3 (ls.map cDl) ∧ ∀ c ∈ ls, i64Dl c) := opn_list cDl ht hk (by decide) (opn_dl h)
theorem opn_plan {tN tS tG tL : TypeId} (hfs : fsC P t = some [(0, 1, tN), (1, 1, tS), (2, 1, tG), (3, 1, tL)]) (hC : P.cellsOf t = 4) (hN : P.underlying tN = some .string) (hS : P.underlying tS = some (.int .i64)) (hG : Opn P W tG (fun cs => ∃ (v : Value) (ls : List Gs), cs = [v] ∧ Rdd W v 2 (ls.map cGs) ∧ ∀ c ∈ ls, i64 c.o ∧ i64 c.h))
    (hL : Opn P W tL (fun cs => ∃ (v : Value) (ls : List Dl), cs = [v] ∧ Rdd W v 3 (ls.map cDl) ∧ ∀ c ∈ ls, i64Dl c)) :
    Opn P W t (fun cs => ∃ (nm : ByteArray) (sf : Int) (v u : Value) (gs : List Gs) (ls : List Dl), cs = cPl nm sf v u ∧ Rdd W v 2 (gs.map cGs) ∧ Rdd W u 3 (ls.map cDl) ∧ (∀ c ∈ gs, i64 c.o ∧ i64 c.h) ∧ (∀ c ∈ ls, i64Dl c) ∧ nm.size ≤ maxLen ∧ i64 sf) :=
  ((((opn_len hfs).and (opn_field hfs (o := 0) (k := 1) (by simp) (opn_str hN))).and (opn_field hfs (o := 1) (k := 1) (by simp) (opn_int hS))).and ((opn_field hfs (o := 2) (k := 1) (by simp) hG).and (opn_field hfs (o := 3) (k := 1) (by simp) hL))).mono
    fun cs ⟨⟨⟨hl, nm, h1, h2⟩, sf, h3, h4⟩, ⟨v, gs, h5, h6, h7⟩, u, ls, h8, h9, h10⟩ => by
      rw [hC] at hl
      match cs, hl with
      | [a, b, c, d], _ =>
        simp only [List.drop_zero, List.drop_succ_cons, List.take_succ_cons, List.take_zero, List.cons.injEq, and_true] at h2 h4 h5 h8
        subst h2; subst h4; subst h5; subst h8
        exact ⟨nm, sf, _, _, gs, ls, rfl, h6, h9, h7, h10, h1, h3⟩
theorem opn_ow (h : IT P t 2) : Opn P W t (fun cs => ∃ c : Ow, (i64 c.f ∧ i64 c.r) ∧ cs = cOw c) := (h W).mono fun cs ⟨xs, hl, hq, hc⟩ => by
  match xs, hl with
  | [a, b], _ => exact ⟨⟨a, b⟩, ⟨hq a (by simp), hq b (by simp)⟩, hc⟩
theorem opn_ows (ht : P.underlying t = some (.slice e)) (hk : P.cellsOf e = 2) (h : IT P e 2) : Opn P W t (fun cs => ∃ (v : Value) (ls : List Ow), cs = [v] ∧ Rdd W v 2 (ls.map cOw) ∧ ∀ c ∈ ls, i64 c.f ∧ i64 c.r) := opn_list cOw ht hk (by decide) (opn_ow h)
theorem opn_ru {tT tO tI : TypeId} (hfs : fsC P t = some [(0, 1, tT), (1, 2, tO), (3, 1, tI), (4, 1, tI), (5, 1, tI), (6, 1, tI), (7, 1, tI), (8, 1, tI)]) (hC : P.cellsOf t = 9) (hT : Opn P W tT (fun cs => ∃ (v : Value) (ls : List Ow), cs = [v] ∧ Rdd W v 2 (ls.map cOw) ∧ ∀ c ∈ ls, i64 c.f ∧ i64 c.r))
    (hO : IT P tO 2) (hI : P.underlying tI = some (.int .i64)) : Opn P W t (fun cs => ∃ (v : Value) (r : Ru), cs = cRu v r ∧ Rdd W v 2 (r.tb.map cOw)) :=
  (((((opn_len hfs).and (opn_field hfs (o := 0) (k := 1) (by simp) hT)).and (opn_field hfs (o := 1) (k := 2) (by simp) (opn_i2 hO))).and ((opn_field hfs (o := 3) (k := 1) (by simp) (opn_int hI)).and (opn_field hfs (o := 4) (k := 1) (by simp) (opn_int hI)))).and
    (((opn_field hfs (o := 5) (k := 1) (by simp) (opn_int hI)).and (opn_field hfs (o := 6) (k := 1) (by simp) (opn_int hI))).and ((opn_field hfs (o := 7) (k := 1) (by simp) (opn_int hI)).and (opn_field hfs (o := 8) (k := 1) (by simp) (opn_int hI))))).mono
    fun cs ⟨⟨⟨⟨hl, v, tb, h1, h2, _⟩, lo, hi, _, h3⟩, ⟨na, _, h4⟩, de, _, h5⟩, ⟨⟨br, _, h6⟩, em, _, h7⟩, ⟨pa, _, h8⟩, ac, _, h9⟩ => by
      rw [hC] at hl
      match cs, hl with
      | [a, b, c, d, f, g, i, j, k], _ =>
        simp only [List.drop_zero, List.drop_succ_cons, List.take_succ_cons, List.take_zero, List.cons.injEq, and_true] at h1 h3 h4 h5 h6 h7 h8 h9
        obtain ⟨rfl, rfl⟩ := h3
        subst h1; subst h4; subst h5; subst h6; subst h7; subst h8; subst h9
        exact ⟨_, ⟨tb, lo, hi, na, de, br, em, pa, ac⟩, rfl, h2⟩
theorem int_val {b0 : Nat} {r : Reach} {k : IntKind} {v u : Value} (ht : P.underlying t = some (.int k)) (hv : Value.okWide P W r b0 t v) (h : v.cells.toList = [u]) : v = u := by
  obtain ⟨n, rfl⟩ := okWide_int ht hv
  simpa [Value.cells] using h
theorem struct_val {fs : List (Nat × Nat × Nat)} {b0 : Nat} {r : Reach} {v : Value} {cs : List Value} (hf : fsC P t = some fs) (hv : Value.okWide P W r b0 t v) (h : v.cells.toList = cs) : v = .agg cs.toArray := by
  obtain ⟨cs', rfl, h'⟩ := agg_of hf hv
  rw [← h, h']
end
end Go.Proofs.Ytdmnejfpbbmcaaa
