/-
  Opening the data of chapter 4: tasks, rules, schedules, changes, as arguments of a statement. Conditions: those in front of each theorem.
-/
import Derived.Test.YthilaakeimfedaaGreatDoorAs1
import Derived.Test.YthilaakeimfedaaGreatDoorShTree
import Derived.Test.YthilaakeimfedaaGreatDoorArg
namespace Go.Proofs.YthilaakeimfedaaGreatDoor
/-! ### Schedules -/
def dlA (L : List Dl) (k : Nat) : Dl := (L[k]?).getD ⟨0, 0, 0⟩
theorem dlA_get {L : List Dl} {k : Nat} {y : Dl} (h : L[k]? = some y) : dlA L k = y := by unfold dlA; rw [h]; rfl
def okAn (y : Dl) (f : Int) : Prop := (1 ≤ y.s ∧ y.s ≤ 100000) ∧ (0 ≤ y.d ∧ y.d ≤ 30000) ∧ (0 ≤ y.g ∧ y.g ≤ 8) ∧ 0 ≤ f ∧ f ≤ 6
instance (y : Dl) (f : Int) : Decidable (okAn y f) := by unfold okAn; infer_instance
def ckSch (L : List Dl) (F : List Int) : Int := if L.length > 400 then 8 else if F.length ≠ L.length then 10 else if all2 okAn L F then 0 else 2
section
variable {L : List Dl} {F : List Int} {k : Nat} {y : Dl} {f : Int}
theorem sch_8 (h : L.length > 400) : ckSch L F = 8 := if_pos h
theorem sch_10 (h : ¬ L.length > 400) (h2 : F.length ≠ L.length) : ckSch L F = 10 := by unfold ckSch; rw [if_neg h, if_pos h2]
theorem sch_2 (h : ¬ L.length > 400) (h2 : ¬ F.length ≠ L.length) (h3 : ¬ all2 okAn L F) : ckSch L F = 2 := by unfold ckSch; rw [if_neg h, if_neg h2, if_neg h3]
theorem sch_0 (h : ¬ L.length > 400) (h2 : ¬ F.length ≠ L.length) (h3 : all2 okAn L F) : ckSch L F = 0 := by unfold ckSch; rw [if_neg h, if_neg h2, if_pos h3]
structure okSch (L : List Dl) (F : List Int) : Prop where
  n : L.length ≤ 400
  l : F.length = L.length
  a : all2 okAn L F
theorem ckSch_ok (h : ckSch L F = 0) : okSch L F := by
  by_cases h1 : L.length > 400
  · rw [sch_8 h1] at h; exact absurd h (by decide)
  by_cases h2 : F.length ≠ L.length
  · rw [sch_10 h1 h2] at h; exact absurd h (by decide)
  by_cases h3 : all2 okAn L F
  · exact ⟨by omega, by omega, h3⟩
  · rw [sch_2 h1 h2 h3] at h; exact absurd h (by decide)
theorem okSch.ck (h : okSch L F) : ckSch L F = 0 := by
  have h1 := h.n; have h2 := h.l
  exact sch_0 (by omega) (by omega) h.a
def smS (L : List Dl) : Nat → Int
  | 0 => 0
  | k + 1 => smS L k + (dlA L k).s
theorem smS_s (h : L[k]? = some y) : smS L k + y.s = smS L (k + 1) := by show _ = smS L k + (dlA L k).s; rw [dlA_get h]
def okSec (L : List Dl) : Prop := ∀ y ∈ L, 0 ≤ y.s ∧ y.s ≤ 100000
theorem smS_in (h : okSec L) : ∀ k, k ≤ L.length → 0 ≤ smS L k ∧ smS L k ≤ k * 100000
  | 0, _ => by show (0 : Int) ≤ 0 ∧ (0 : Int) ≤ ((0 : Nat) : Int) * 100000; omega
  | k + 1, hk => by
    obtain ⟨y, hy⟩ := get_some L (k := k) (by omega)
    have := h y (List.mem_of_getElem? hy)
    have := smS_in h k (by omega)
    rw [← smS_s hy]
    omega
theorem an_get : ∀ {L : List Dl} {F : List Int} {k : Nat} {y : Dl} {f : Int}, all2 okAn L F → L[k]? = some y → F[k]? = some f → okAn y f
  | [], _, _, _, _, _, h, _ => by simp at h
  | _ :: _, [], _, _, _, _, _, h => by simp at h
  | a :: L, b :: F, 0, y, f, h, h1, h2 => by
    simp at h1 h2
    subst h1 h2
    exact h.1
  | a :: L, b :: F, k + 1, y, f, h, h1, h2 => an_get h.2 (by simpa using h1) (by simpa using h2)
theorem sch_at (h : okSch L F) (hk : k < L.length) : ∃ y f, L[k]? = some y ∧ F[k]? = some f ∧ okAn y f := by
  have h2 := h.l
  obtain ⟨y, hy⟩ := get_some L hk
  obtain ⟨f, hf⟩ := get_some F (k := k) (by omega)
  exact ⟨y, f, hy, hf, an_get h.a hy hf⟩
theorem sch_sec (h : okSch L F) : okSec L := fun y hy => by
  obtain ⟨k, hk, e⟩ := List.mem_iff_getElem.1 hy
  obtain ⟨z, f, h1, _, h3⟩ := sch_at h hk
  rw [List.getElem?_eq_getElem hk, e] at h1
  obtain rfl := Option.some.inj h1
  have := h3.1
  omega
def chkF (t : Int) : Asc → List Dl → List Int → Int → Int × Int
  | x, y :: L, f :: F, k => if ckAl x y ≠ 0 then (k, ckAl x y) else if f > x.r.fi then (k, 2) else if keptT x.ts x.ls (lgA x y) (faA x) f.toNat ≠ 2 then (k, 22) else chkF t (bhA x y) L F (k + 1)
  | x, [], _, _ => if x.de ≠ 0 then (0, 25) else (t, 0)
  | x, _ :: _, [], _ => if x.de ≠ 0 then (0, 25) else (t, 0)
variable {x : Asc} {t j : Int}
theorem chk_1 (h : L[k]? = some y) (hf : F[k]? = some f) (h1 : ckAl x y ≠ 0) : chkF t x (L.drop k) (F.drop k) j = (j, ckAl x y) := by rw [drop_cons h, drop_cons hf]; exact if_pos h1
theorem chk_2 (h : L[k]? = some y) (hf : F[k]? = some f) (h1 : ¬ ckAl x y ≠ 0) (h2 : f > x.r.fi) : chkF t x (L.drop k) (F.drop k) j = (j, 2) := by rw [drop_cons h, drop_cons hf, chkF, if_neg h1, if_pos h2]
theorem chk_3 (h : L[k]? = some y) (hf : F[k]? = some f) (h1 : ¬ ckAl x y ≠ 0) (h2 : ¬ f > x.r.fi) (h3 : keptT x.ts x.ls (lgA x y) (faA x) f.toNat ≠ 2) : chkF t x (L.drop k) (F.drop k) j = (j, 22) := by rw [drop_cons h, drop_cons hf, chkF, if_neg h1, if_neg h2, if_pos h3]
theorem chk_4 (h : L[k]? = some y) (hf : F[k]? = some f) (h1 : ¬ ckAl x y ≠ 0) (h2 : ¬ f > x.r.fi) (h3 : ¬ keptT x.ts x.ls (lgA x y) (faA x) f.toNat ≠ 2) : chkF t x (L.drop k) (F.drop k) j = chkF t (bhA x y) (L.drop (k + 1)) (F.drop (k + 1)) (j + 1) := by rw [drop_cons h, drop_cons hf, chkF, if_neg h1, if_neg h2, if_neg h3]
theorem chk_5 (h : L.length ≤ k) : chkF t x (L.drop k) (F.drop k) j = if x.de ≠ 0 then (0, 25) else (t, 0) := by rw [drop_all h, chkF]
def chkA (x : Asc) (L : List Dl) (F : List Int) : Int × Int := if ckSch L F ≠ 0 then (0, ckSch L F) else chkF (smS L L.length) x L F 0
theorem chkA_1 (h : ckSch L F ≠ 0) : chkA x L F = (0, ckSch L F) := if_pos h
theorem chkA_2 (h : ckSch L F = 0) : chkA x L F = chkF (smS L L.length) x L F 0 := if_neg (fun hh => hh h)
end
/-! ### How long one may stay -/
section
variable {x : Asc} {g k : Int} {n : Nat}
end
/-! ### The ends of plans, rests, changes -/
def zAsc : Asc := ⟨[], [], 0, 0, [], ⟨0, 0, 0, 0, 0, 0, 0⟩⟩
def withL (x : Asc) (ls : List Ld) (d : Int) : Asc := ⟨x.ts, ls, x.su, d, x.gs, x.r⟩
def lastD (d : Int) (ls : List Dl) : Int := if ls.length = 0 then d else (dlA ls (ls.length - 1)).d
def begE (x : Asc) (sf : Int) (gs : List Gs) (ls : List Dl) : Int := if x.de ≠ 0 then 24 else if sf ≠ x.su then 13 else (legsE sf gs ls).2
def begA (x : Asc) (sf : Int) (gs : List Gs) (ls : List Dl) : Asc := if begE x sf gs ls ≠ 0 then zAsc else withL x (folM x.ts x.ls (legsE sf gs ls).1 (fnA x) (legsE sf gs ls).1.length) (lastD x.de ls)
section
variable {x : Asc}
end
end Go.Proofs.YthilaakeimfedaaGreatDoor
namespace Go.Proofs.YthilaakeimfedaaGreatDoor
/-! ### Depths -/
def okD (n : Int) : Prop := 0 ≤ n ∧ n ≤ 30000
instance (n : Int) : Decidable (okD n) := by unfold okD; infer_instance
def ixD : List Int → Nat → Int
  | [], _ => -1
  | n :: t, k => if okD n then ixD t (k + 1) else k
section
variable {es : List Int} {k : Nat} {e : Int}
theorem ixD_yes (h : es[k]? = some e) (he : okD e) : ixD (es.drop k) k = ixD (es.drop (k + 1)) (k + 1) := by rw [drop_cons h]; exact if_pos he
theorem ixD_no (h : es[k]? = some e) (he : ¬ okD e) : ixD (es.drop k) k = k := by rw [drop_cons h]; exact if_neg he
theorem ixD_end (h : es.length ≤ k) : ixD (es.drop k) k = -1 := by rw [drop_all h]; rfl
end
def depE (es : List Int) : Int := if ixD es 0 ≥ 0 then 2 else 0
theorem dep_1 (d : Int) : depE [d] = if 0 ≤ d ∧ d ≤ 30000 then 0 else 2 := by
  by_cases h : okD d
  · have e : ixD [d] 0 = -1 := by unfold ixD; rw [if_pos h]; rfl
    unfold depE
    rw [e, if_neg (by decide)]
    exact (if_pos h).symm
  · have e : ixD [d] 0 = 0 := by unfold ixD; rw [if_neg h]; rfl
    unfold depE
    rw [e, if_pos (by decide)]
    exact (if_neg h).symm
/-! ### What is asked of rules -/
theorem first_2 (a b : Int) : firstE [a, b] = if a ≠ 0 then a else b := by
  show (if a = 0 then (if b = 0 then 0 else b) else a) = if a ≠ 0 then a else b
  by_cases h : a = 0
  · rw [if_pos h, if_neg (show ¬ a ≠ 0 from fun hh => hh h)]
    by_cases h2 : b = 0
    · rw [if_pos h2, h2]
    · rw [if_neg h2]
  · rw [if_neg h, if_pos h]
section
variable {r : Rl} {d a b : Int}
end
section
variable {x : Asc} {d : Int}
end
/-! ### The limits of the statements -/
def lightP (x : Asc) : Prop :=
  ¬ (2 < x.ts.length ∧ x.ts.length ≤ 16 ∨ 18 < x.ts.length ∨ 18 < x.ls.length) ∧ ¬ (3 < x.gs.length ∧ x.gs.length ≤ 8 ∨ 10 < x.gs.length ∨ 1 < x.r.fi ∧ x.r.fi ≤ 6) ∧ (¬ (0 ≤ x.de ∧ x.de ≤ 30000) ∨ ¬ (1 ≤ x.r.gr ∧ x.r.gr ≤ 3000) ∨ x.de ≤ 12 * x.r.gr)
instance (x : Asc) : Decidable (lightP x) := by unfold lightP; infer_instance
theorem light_len {x : Asc} (h : lightP x) : x.ts.length ≤ 18 ∧ x.ls.length ≤ 18 ∧ x.gs.length ≤ 10 := by
  obtain ⟨h1, h2, _⟩ := h
  omega
def shortP (L : List Dl) (F : List Int) : Prop := (L.length ≤ 30 ∨ 400 < L.length ∧ L.length ≤ 402) ∧ F.length ≤ 402
instance (L : List Dl) (F : List Int) : Decidable (shortP L F) := by unfold shortP; infer_instance
/-! ### Stops -/
section
variable {L : List Dl} {k : Nat} {y : Dl} {d : Int} {st : Bool} {out : List (Int × Int)}
end
end Go.Proofs.YthilaakeimfedaaGreatDoor
namespace Go.Proofs.YthilaakeimfedaaGreatDoor
open Go.RowKit
def cAg (x : Ag) : List Value := [.int .i64 x.g.o, .int .i64 x.g.h, .int .i64 x.d]
def cRl (r : Rl) : List Value := [.int .i64 r.sp, .int .i64 r.gr, .int .i64 r.st, .int .i64 r.lo, .int .i64 r.hi, .int .i64 r.an, .int .i64 r.fi]
def cAt (v u w : Value) (x : Asc) : List Value := [v, u, .int .i64 x.su, .int .i64 x.de, w, .int .i64 x.r.sp, .int .i64 x.r.gr, .int .i64 x.r.st, .int .i64 x.r.lo, .int .i64 x.r.hi, .int .i64 x.r.an, .int .i64 x.r.fi]
theorem one_ag (l : List Ag) : ∀ c ∈ (l.map cAg).flatten, c.oneCell' = true := one_map cAg (fun _ _ h => by simp only [cAg, List.mem_cons, List.not_mem_nil, or_false] at h; rcases h with rfl | rfl | rfl <;> rfl) l
def isTk (tc tl tg : TypeId) (X : Asc) (e : Int) (y : Value) (rs : List Res) : Prop := ∃ A1 n1 c1 A2 n2 c2 A3 n3 c3, y = .tuple #[.agg (cAt (.slice A1 n1 c1) (.slice A2 n2 c2) (.slice A3 n3 c3) X).toArray, .int .i64 e] ∧ rs = [sl (.slice A1 n1 c1) tc 4 (X.ts.map cCp), sl (.slice A2 n2 c2) tl 4 (X.ls.map cLd), sl (.slice A3 n3 c3) tg 3 (X.gs.map cAg)]
theorem isTk_sinks {tc tl tg : TypeId} {X : Asc} {e : Int} : ∀ y rs, isTk tc tl tg X e y rs → ∀ r ∈ rs, Sinks r := by
  rintro y rs ⟨A1, n1, c1, A2, n2, c2, A3, n3, c3, _, rfl⟩ r hr
  simp only [List.mem_cons, List.not_mem_nil, or_false] at hr
  rcases hr with rfl | rfl | rfl <;> exact sl_sinks _ _ _ _
theorem own3 {v u w : Value} {tc tl tg : TypeId} {a b d : List (List Value)} : ∀ r ∈ [sl v tc 4 a, sl u tl 4 b, sl w tg 3 d], r.own = true := by
  intro r hr
  simp only [List.mem_cons, List.not_mem_nil, or_false] at hr
  rcases hr with rfl | rfl | rfl <;> exact sl_own _ _ _ _
def isTo (tc tl tg : TypeId) (X : Asc) (y : Value) (rs : List Res) : Prop := ∃ A1 n1 c1 A2 n2 c2 A3 n3 c3, y = .agg (cAt (.slice A1 n1 c1) (.slice A2 n2 c2) (.slice A3 n3 c3) X).toArray ∧ rs = [sl (.slice A1 n1 c1) tc 4 (X.ts.map cCp), sl (.slice A2 n2 c2) tl 4 (X.ls.map cLd), sl (.slice A3 n3 c3) tg 3 (X.gs.map cAg)]
theorem isTo_sinks {tc tl tg : TypeId} {X : Asc} : ∀ y rs, isTo tc tl tg X y rs → ∀ r ∈ rs, Sinks r := by
  rintro y rs ⟨A1, n1, c1, A2, n2, c2, A3, n3, c3, _, rfl⟩ r hr
  simp only [List.mem_cons, List.not_mem_nil, or_false] at hr
  rcases hr with rfl | rfl | rfl <;> exact sl_sinks _ _ _ _
def isBh (tl : TypeId) (v w : Value) (X : Asc) (y : Value) (rs : List Res) : Prop := ∃ A n c, y = .agg (cAt v (.slice A n c) w X).toArray ∧ rs = [sl (.slice A n c) tl 4 (X.ls.map cLd)]
theorem isBh_sinks {tl : TypeId} {v w : Value} {X : Asc} : ∀ y rs, isBh tl v w X y rs → ∀ r ∈ rs, Sinks r := by
  rintro y rs ⟨A, n, c, _, rfl⟩ r hr
  simp only [List.mem_cons, List.not_mem_nil, or_false] at hr
  subst hr
  exact sl_sinks _ _ _ _
def isSc (td ti : TypeId) (S : Sch) (y : Value) (rs : List Res) : Prop := ∃ A1 n1 c1 A2 n2 c2, y = .tuple #[.agg #[.slice A1 n1 c1, .slice A2 n2 c2], .int .i64 S.2] ∧ rs = [sl (.slice A1 n1 c1) td 3 (S.1.1.map cDl), sl (.slice A2 n2 c2) ti 1 (S.1.2.map cI)]
theorem isSc_sinks {td ti : TypeId} {S : Sch} : ∀ y rs, isSc td ti S y rs → ∀ r ∈ rs, Sinks r := by
  rintro y rs ⟨A1, n1, c1, A2, n2, c2, _, rfl⟩ r hr
  simp only [List.mem_cons, List.not_mem_nil, or_false] at hr
  rcases hr with rfl | rfl <;> exact sl_sinks _ _ _ _
theorem own2 {v u : Value} {tc tl : TypeId} {p q : Nat} {a b : List (List Value)} : ∀ r ∈ [sl v tc p a, sl u tl q b], r.own = true := by
  intro r hr
  simp only [List.mem_cons, List.not_mem_nil, or_false] at hr
  rcases hr with rfl | rfl <;> exact sl_own _ _ _ _
def isTt (tc tl : TypeId) (ts : List Cp) (ls : List Ld) (z : Lg) (fa : Int) (y : Value) (rs : List Res) : Prop := ∃ A1 n1 c1 A2 n2 c2, y = .agg (cDv (.slice A1 n1 c1) (.slice A2 n2 c2) z fa).toArray ∧ rs = [sl (.slice A1 n1 c1) tc 4 (ts.map cCp), sl (.slice A2 n2 c2) tl 4 (ls.map cLd)]
theorem isTt_sinks {tc tl : TypeId} {ts : List Cp} {ls : List Ld} {z : Lg} {fa : Int} : ∀ y rs, isTt tc tl ts ls z fa y rs → ∀ r ∈ rs, Sinks r := by
  rintro y rs ⟨A1, n1, c1, A2, n2, c2, _, rfl⟩ r hr
  simp only [List.mem_cons, List.not_mem_nil, or_false] at hr
  rcases hr with rfl | rfl <;> exact sl_sinks _ _ _ _
end Go.Proofs.YthilaakeimfedaaGreatDoor
namespace Go.Proofs.YthilaakeimfedaaGreatDoor
open Go.RowKit Go.ChangeShapes Go.WideShapes Go.Deep
section
variable {P : Program} {W : World} {t e : TypeId}
theorem opn_rl (h : IT P t 7) : Opn P W t (fun cs => ∃ r : Rl, cs = cRl r) := (h W).mono fun cs ⟨xs, hl, hq, hc⟩ => by
  match xs, hl with
  | [a, b, c, d, f, g, i], _ => exact ⟨⟨a, b, c, d, f, g, i⟩, hc⟩
theorem opn_ag (h : IT P t 3) : Opn P W t (fun cs => ∃ c : Ag, (i64 c.g.o ∧ i64 c.g.h ∧ i64 c.d) ∧ cs = cAg c) := (h W).mono fun cs ⟨xs, hl, hq, hc⟩ => by
  match xs, hl with
  | [a, b, c], _ => exact ⟨⟨⟨a, b⟩, c⟩, ⟨hq a (by simp), hq b (by simp), hq c (by simp)⟩, hc⟩
theorem opn_ags (ht : P.underlying t = some (.slice e)) (hk : P.cellsOf e = 3) (h : IT P e 3) : Opn P W t (fun cs => ∃ (v : Value) (ls : List Ag), cs = [v] ∧ Rdd W v 3 (ls.map cAg) ∧ ∀ c ∈ ls, i64 c.g.o ∧ i64 c.g.h ∧ i64 c.d) := opn_list cAg ht hk (by decide) (opn_ag h)
theorem opn_asc {tC tL tG tR tI : TypeId} (hfs : fsC P t = some [(0, 1, tC), (1, 1, tL), (2, 1, tI), (3, 1, tI), (4, 1, tG), (5, 7, tR)]) (hC : P.cellsOf t = 12)
    (hT : Opn P W tC (fun cs => ∃ (v : Value) (ts : List Cp), cs = [v] ∧ Rdd W v 4 (ts.map cCp) ∧ ∀ c ∈ ts, i64Cp c)) (hL : Opn P W tL (fun cs => ∃ (v : Value) (ls : List Ld), cs = [v] ∧ Rdd W v 4 (ls.map cLd) ∧ ∀ c ∈ ls, i64Ld c))
    (hG : Opn P W tG (fun cs => ∃ (v : Value) (ls : List Ag), cs = [v] ∧ Rdd W v 3 (ls.map cAg) ∧ ∀ c ∈ ls, i64 c.g.o ∧ i64 c.g.h ∧ i64 c.d)) (hR : IT P tR 7) (hI : P.underlying tI = some (.int .i64)) :
    Opn P W t (fun cs => ∃ (v u w : Value) (x : Asc), cs = cAt v u w x ∧ Rdd W v 4 (x.ts.map cCp) ∧ Rdd W u 4 (x.ls.map cLd) ∧ Rdd W w 3 (x.gs.map cAg)) :=
  (((((opn_len hfs).and (opn_field hfs (o := 0) (k := 1) (by simp) hT)).and (opn_field hfs (o := 1) (k := 1) (by simp) hL)).and ((opn_field hfs (o := 2) (k := 1) (by simp) (opn_int hI)).and (opn_field hfs (o := 3) (k := 1) (by simp) (opn_int hI)))).and
    ((opn_field hfs (o := 4) (k := 1) (by simp) hG).and (opn_field hfs (o := 5) (k := 7) (by simp) (opn_rl hR)))).mono
    fun cs ⟨⟨⟨⟨hl, v, ts, h1, h2, _⟩, u, ls, h3, h4, _⟩, ⟨su, _, h5⟩, de, _, h6⟩, ⟨w, gs, h7, h8, _⟩, r, h9⟩ => by
      rw [hC] at hl
      match cs, hl with
      | [a, b, c, d, f, g, i, j, k, l, m, n], _ =>
        simp only [List.drop_zero, List.drop_succ_cons, List.take_succ_cons, List.take_zero, List.cons.injEq, and_true, cRl] at h1 h3 h5 h6 h7 h9
        obtain ⟨rfl, rfl, rfl, rfl, rfl, rfl, rfl⟩ := h9
        subst h1; subst h3; subst h5; subst h6; subst h7
        exact ⟨_, _, _, ⟨ts, ls, su, de, gs, r⟩, rfl, h2, h4, h8⟩
end
end Go.Proofs.YthilaakeimfedaaGreatDoor
