/-
  Opening the data of plans and of chapter 5: gases, legs, plans, rules, as arguments of a statement. Conditions: none; no program in sight.
-/
import Derived.Test.YtacndicgpkeobaaGreatDoorXp1
import Derived.Test.YtacndicgpkeobaaGreatDoorShArr
import Derived.Test.YtacndicgpkeobaaGreatDoorShKn
import Derived.Test.YtacndicgpkeobaaGreatDoorShBld
namespace Go.Proofs.YtacndicgpkeobaaGreatDoor

theorem upZ_in {n b N : Int} (h : 0 ≤ n ∧ n ≤ N) (hb : 1 ≤ b) : 0 ≤ upZ n b ∧ upZ n b ≤ N := by
  unfold upZ
  refine ⟨Int.ediv_nonneg (by omega) (by omega), ?_⟩
  have : (n + b - 1) / b < N + 1 := Int.ediv_lt_of_lt_mul (by omega) (by
    have := Int.mul_le_mul_of_nonneg_left hb (show 0 ≤ N by omega)
    have e : (N + 1) * b = N * b + b := by rw [Int.add_mul]; omega
    omega)
  omega
def brM (b n : Int) (x : Le) : Int := if n = x.x.s then upZ (b * (x.f + x.t) * n) 120000 else upZ (b * n * (2 * x.f * x.x.s + (x.t - x.f) * n)) (120000 * x.x.s)
theorem br_fact {b n : Int} {x : Le} (h : okLe x) (hb : 1 ≤ b ∧ b ≤ 100000) (hn : 0 ≤ n ∧ n ≤ x.x.s) : (0 ≤ b * (x.f + x.t) ∧ b * (x.f + x.t) ≤ 6220000000) ∧ (0 ≤ b * (x.f + x.t) * n ∧ b * (x.f + x.t) * n ≤ 6220000000000000) := by
  have h1 := h.f
  have h2 := h.t
  have h3 := h.sf
  have h4 := h.s
  have a := mulB (a := b) (b := x.f + x.t) (A := 100000) (B := 62200) (by omega) (by omega)
  have c := mulB (a := b * (x.f + x.t)) (b := n) (A := 6220000000) (B := 1000000) (by omega) (by omega)
  exact ⟨by omega, by omega⟩
theorem br_fact2 {b n : Int} {x : Le} (h : okLe x) (hb : 1 ≤ b ∧ b ≤ 100000) (hn : 0 ≤ n ∧ n ≤ x.x.s) (hs : x.x.s ≤ 20000) : (0 ≤ b * n ∧ b * n ≤ 2000000000) ∧ (0 ≤ x.f * x.x.s ∧ x.f * x.x.s ≤ 622000000) ∧ (-622000000 ≤ (x.t - x.f) * n ∧ (x.t - x.f) * n ≤ 622000000) ∧ (0 ≤ 2 * x.f * x.x.s + (x.t - x.f) * n ∧ 2 * x.f * x.x.s + (x.t - x.f) * n ≤ 1244000000) ∧
    (0 ≤ b * n * (2 * x.f * x.x.s + (x.t - x.f) * n) ∧ b * n * (2 * x.f * x.x.s + (x.t - x.f) * n) ≤ 2488000000000000000) ∧ (0 ≤ 2 * x.f * x.x.s ∧ 2 * x.f * x.x.s ≤ 1244000000) := by
  have h1 := h.f
  have h2 := h.t
  have h3 := h.sf
  have h4 := h.s
  have a := mulB (a := b) (b := n) (A := 100000) (B := 20000) (by omega) (by omega)
  have c := mulB (a := x.f) (b := x.x.s) (A := 31100) (B := 20000) (by omega) (by omega)
  have d := mulB (a := x.t) (b := n) (A := 31100) (B := n) (by omega) (by omega)
  have e := mulB (a := x.f) (b := n) (A := 31100) (B := 20000) (by omega) (by omega)
  have f := mulB (a := x.f) (b := x.x.s - n) (A := 31100) (B := x.x.s - n) (by omega) (by omega)
  have e1 : (x.t - x.f) * n = x.t * n - x.f * n := by rw [Int.sub_mul]
  have e2 : 2 * x.f * x.x.s = 2 * (x.f * x.x.s) := by rw [Int.mul_assoc]
  have e3 : x.f * (x.x.s - n) = x.f * x.x.s - x.f * n := by rw [Int.mul_sub]
  have hsum : 0 ≤ 2 * x.f * x.x.s + (x.t - x.f) * n ∧ 2 * x.f * x.x.s + (x.t - x.f) * n ≤ 1244000000 := by
    rw [e1, e2]
    omega
  have g := mulB (A := 2000000000) (B := 1244000000) (show 0 ≤ b * n ∧ b * n ≤ 2000000000 by omega) hsum
  exact ⟨⟨a.1, by omega⟩, by omega, by rw [e1]; omega, hsum, ⟨g.1, by omega⟩, by rw [e2]; omega⟩
theorem brM_in {b n : Int} {x : Le} (h : okLe x) (hb : 1 ≤ b ∧ b ≤ 100000) (hn : 0 ≤ n ∧ n ≤ x.x.s) (hs : n = x.x.s ∨ x.x.s ≤ 20000) : 0 ≤ brM b n x ∧ brM b n x ≤ 51833333334 := by
  unfold brM
  by_cases hc : n = x.x.s
  · rw [if_pos hc]
    have := (br_fact h hb hn).2
    unfold upZ
    omega
  · rw [if_neg hc]
    have h9 := br_fact2 h hb hn (by omega)
    have h8 := h9.1
    have h4 := h.s
    have h7 := h9.2.2.2.1
    have hbn := mulB (a := b * n) (b := 2 * x.f * x.x.s + (x.t - x.f) * n) (A := 100000 * x.x.s) (B := 1244000000) (by
      have := mulB (a := b) (b := n) (A := 100000) (B := x.x.s) (by omega) (by omega)
      omega) (by omega)
    unfold upZ
    generalize b * n * (2 * x.f * x.x.s + (x.t - x.f) * n) = m at *
    constructor
    · exact Int.ediv_nonneg (by omega) (by omega)
    · have h6 : (m + 120000 * x.x.s - 1) / (120000 * x.x.s) < 51833333334 + 1 := Int.ediv_lt_of_lt_mul (by omega) (by
        have e1 : 100000 * x.x.s * 1244000000 = 124400000000000 * x.x.s := by grind
        have e2 : (51833333334 + 1) * (120000 * x.x.s) = 6220000000200000 * x.x.s := by grind
        omega)
      omega
/-! ### Answers with errors -/
def clkE (nm : ByteArray) (sf : Int) (gs : List Gs) (ls : List Dl) (r : Ru) : List Int × Int := if bothE nm sf gs ls r ≠ 0 then ([], bothE nm sf gs ls r) else (clksK r.tb sf gs ls ls.length, 0)
theorem clkE_1 {nm : ByteArray} {sf : Int} {gs : List Gs} {ls : List Dl} {r : Ru} (h : bothE nm sf gs ls r ≠ 0) : clkE nm sf gs ls r = ([], bothE nm sf gs ls r) := if_pos h
theorem clkE_2 {nm : ByteArray} {sf : Int} {gs : List Gs} {ls : List Dl} {r : Ru} (h : bothE nm sf gs ls r = 0) : clkE nm sf gs ls r = (clksK r.tb sf gs ls ls.length, 0) := if_neg (fun hh => hh h)
/-! ### Sums by gases -/
def addAt (L : List Int) (i : Nat) (a : Int) : List Int := L.set i (L[i]?.getD 0 + a)
theorem addAt_len (L : List Int) (i : Nat) (a : Int) : (addAt L i a).length = L.length := by simp [addAt]
def consK (n : Nat) (ls : List Dl) (amt : Nat → Int) : Nat → List Int
  | 0 => List.replicate n 0
  | k + 1 => addAt (consK n ls amt k) (dlAt ls k).g.toNat (amt k)
theorem consK_len (n : Nat) (ls : List Dl) (amt : Nat → Int) : ∀ k, (consK n ls amt k).length = n
  | 0 => by simp [consK]
  | k + 1 => by unfold consK; rw [addAt_len, consK_len n ls amt k]
theorem addAt_get {L : List Int} {i j : Nat} {a v : Int} (h : (addAt L i a)[j]? = some v) : (i = j ∧ ∃ u, L[j]? = some u ∧ v = u + a) ∨ (i ≠ j ∧ L[j]? = some v) := by
  unfold addAt at h
  rw [List.getElem?_set] at h
  by_cases hij : i = j
  · subst hij
    rw [if_pos rfl] at h
    by_cases h2 : i < L.length
    · rw [if_pos h2] at h
      injection h with h
      exact .inl ⟨rfl, L[i], List.getElem?_eq_getElem h2, by rw [← h, List.getElem?_eq_getElem h2]; rfl⟩
    · rw [if_neg h2] at h; cases h
  · rw [if_neg hij] at h
    exact .inr ⟨hij, h⟩
theorem consK_in {n : Nat} {ls : List Dl} {amt : Nat → Int} {A : Int} (hA : 0 ≤ A) : ∀ k, (∀ i, i < k → 0 ≤ amt i ∧ amt i ≤ A) → ∀ (j : Nat) (v : Int), (consK n ls amt k)[j]? = some v → 0 ≤ v ∧ v ≤ A * k
  | 0, _, j, v, hv => by
    unfold consK at hv
    rw [List.getElem?_replicate] at hv
    split at hv
    · injection hv with hv; subst hv; simp
    · cases hv
  | k + 1, h, j, v, hv => by
    have ih := consK_in (n := n) (ls := ls) hA k (fun i hi => h i (by omega))
    have ha := h k (by omega)
    have e : A * ((k + 1 : Nat) : Int) = A * k + A := by rw [Int.natCast_add, Int.mul_add]; omega
    rw [e]
    unfold consK at hv
    rcases addAt_get hv with ⟨_, u, hu, rfl⟩ | ⟨_, hu⟩
    · have := ih j u hu; omega
    · have := ih j v hu; omega
def amtS (sf : Int) (gs : List Gs) (ls : List Dl) (b : Int) (i : Nat) : Int := brM b (dlAt ls i).s (legAt sf gs ls i)
theorem amtS_in {sf : Int} {gs : List Gs} {ls : List Dl} {b : Int} (H : okPl sf gs ls) (hb : 1 ≤ b ∧ b ≤ 100000) {i : Nat} (hi : i < ls.length) : 0 ≤ amtS sf gs ls b i ∧ amtS sf gs ls b i ≤ 51833333334 := by
  have h := H.le hi
  have hs : 1 ≤ (dlAt ls i).s ∧ _ := h.s
  exact brM_in h hb (by show 0 ≤ (dlAt ls i).s ∧ (dlAt ls i).s ≤ (dlAt ls i).s; omega) (.inl rfl)
def consE (nm : ByteArray) (sf : Int) (gs : List Gs) (ls : List Dl) (b : Int) : List Int × Int := if (ckPl nm sf gs ls).2 ≠ 0 then ([], (ckPl nm sf gs ls).2) else if 1 ≤ b ∧ b ≤ 100000 then (consK gs.length ls (amtS sf gs ls b) ls.length, 0) else ([], 2)
theorem consE_1 {nm : ByteArray} {sf b : Int} {gs : List Gs} {ls : List Dl} (h : (ckPl nm sf gs ls).2 ≠ 0) : consE nm sf gs ls b = ([], (ckPl nm sf gs ls).2) := if_pos h
theorem consE_2 {nm : ByteArray} {sf b : Int} {gs : List Gs} {ls : List Dl} (h : (ckPl nm sf gs ls).2 = 0) (h2 : ¬ (1 ≤ b ∧ b ≤ 100000)) : consE nm sf gs ls b = ([], 2) := by unfold consE; rw [if_neg (fun hh => hh h), if_neg h2]
theorem consE_3 {nm : ByteArray} {sf b : Int} {gs : List Gs} {ls : List Dl} (h : (ckPl nm sf gs ls).2 = 0) (h2 : 1 ≤ b ∧ b ≤ 100000) : consE nm sf gs ls b = (consK gs.length ls (amtS sf gs ls b) ls.length, 0) := by unfold consE; rw [if_neg (fun hh => hh h), if_pos h2]
/-! ### Escapes -/
def escM (r : Ru) (sf d : Int) : Int := upZ (r.em * ((sf + d) * r.pa * r.ac + (2 * sf + d) * 30 * d)) (60000 * r.ac)
theorem esc_fact {r : Ru} (H : okRu r) {sf d : Int} (hs : 400 ≤ sf ∧ sf ≤ 1100) (hd : 0 ≤ d ∧ d ≤ 30000) : (0 ≤ (sf + d) * r.pa ∧ (sf + d) * r.pa ≤ 111960000) ∧ (0 ≤ (sf + d) * r.pa * r.ac ∧ (sf + d) * r.pa * r.ac ≤ 335880000000) ∧ (0 ≤ (2 * sf + d) * 30 * d ∧ (2 * sf + d) * 30 * d ≤ 28980000000) ∧
    (0 ≤ r.em * ((sf + d) * r.pa * r.ac + (2 * sf + d) * 30 * d) ∧ r.em * ((sf + d) * r.pa * r.ac + (2 * sf + d) * 30 * d) ≤ 36486000000000000) := by
  have h1 := H.pa
  have h2 := H.ac
  have h3 := H.em
  have a := mulB (a := sf + d) (b := r.pa) (A := 31100) (B := 3600) (by omega) (by omega)
  have b := mulB (a := (sf + d) * r.pa) (b := r.ac) (A := 111960000) (B := 3000) (by omega) (by omega)
  have c := mulB (a := (2 * sf + d) * 30) (b := d) (A := 966000) (B := 30000) (by omega) (by omega)
  have e := mulB (a := r.em) (b := (sf + d) * r.pa * r.ac + (2 * sf + d) * 30 * d) (A := 100000) (B := 364860000000) (by omega) (by omega)
  exact ⟨by omega, by omega, by omega, by omega⟩
theorem escM_in {r : Ru} (H : okRu r) {sf d : Int} (hs : 400 ≤ sf ∧ sf ≤ 1100) (hd : 0 ≤ d ∧ d ≤ 30000) : 0 ≤ escM r sf d ∧ escM r sf d ≤ 36486000000000000 := by
  have := esc_fact H hs hd
  have h2 := H.ac
  exact upZ_in this.2.2.2 (by omega)
theorem upZ_mono {a b c : Int} (h : a ≤ b) (hc : 1 ≤ c) : upZ a c ≤ upZ b c := by
  unfold upZ
  exact Int.ediv_le_ediv (by omega) (by omega)
end Go.Proofs.YtacndicgpkeobaaGreatDoor
namespace Go.Proofs.YtacndicgpkeobaaGreatDoor
def cI (n : Int) : List Value := [.int .i64 n]
def cRg (r : Rg) : List Value := [.int .i64 r.lo, .int .i64 r.hi]
def cGs (g : Gs) : List Value := [.int .i64 g.o, .int .i64 g.h]
def cDl (x : Dl) : List Value := [.int .i64 x.s, .int .i64 x.d, .int .i64 x.g]
def cPl (nm : ByteArray) (sf : Int) (v u : Value) : List Value := [.string nm, .int .i64 sf, v, u]
def cOw (x : Ow) : List Value := [.int .i64 x.f, .int .i64 x.r]
def cRu (t : Value) (r : Ru) : List Value := [t, .int .i64 r.lo, .int .i64 r.hi, .int .i64 r.na, .int .i64 r.de, .int .i64 r.br, .int .i64 r.em, .int .i64 r.pa, .int .i64 r.ac]
def cLe (x : Le) : List Value := [.int .i64 x.x.s, .int .i64 x.x.d, .int .i64 x.x.g, .int .i64 x.b, .int .i64 x.f, .int .i64 x.t, .int .i64 x.sf, .int .i64 x.g.o, .int .i64 x.g.h]
theorem len_map {α : Type} (f : α → List Value) (l : List α) : (l.map f).length = l.length := List.length_map _
theorem en {a b : Int} (h : a = b) : some (Value.int .i64 a) = some (Value.int .i64 b) := by rw [h]
theorem wr {a b : Int} (h : a = b) (h2 : -9223372036854775808 ≤ b ∧ b ≤ 9223372036854775807) : IntKind.i64.wrap a = b := by subst h; exact IntWalk.i64_in _ (by omega)
theorem one_map {α : Type} (f : α → List Value) (hf : ∀ a, ∀ c ∈ f a, c.oneCell' = true) (l : List α) : ∀ c ∈ (l.map f).flatten, c.oneCell' = true := fun c hc => by
  obtain ⟨x, hx, hc⟩ := List.mem_flatten.1 hc
  obtain ⟨a, _, rfl⟩ := List.mem_map.1 hx
  exact hf a c hc
theorem oneOw (l : List Ow) : ∀ c ∈ (l.map cOw).flatten, c.oneCell' = true := one_map cOw (fun a c hc => by
  simp only [cOw, List.mem_cons, List.not_mem_nil, or_false] at hc
  rcases hc with rfl | rfl <;> rfl) l
theorem leg_cells (sf : Int) (gs : List Gs) (ls : List Dl) (k : Nat) : (legsK sf gs ls k).map cLe ++ [cLe (legAt sf gs ls k)] = (legsK sf gs ls (k + 1)).map cLe := by rw [legsK_succ, List.map_append]; rfl
theorem dl_cell {ls : List Dl} {k : Nat} (h : k < ls.length) : (ls.map cDl)[k]? = some (cDl (dlAt ls k)) := by
  obtain ⟨x, hx⟩ := get_some ls h
  rw [dlAt_get hx]
  exact map_get cDl hx
theorem ow_cell {tb : List Ow} {k : Nat} (h : k < tb.length) : (tb.map cOw)[k]? = some (cOw (owAt tb k)) := by
  obtain ⟨x, hx⟩ := get_some tb h
  rw [owAt_get hx]
  exact map_get cOw hx
theorem gas_cell {gs : List Gs} {i : Int} (h0 : 0 ≤ i) (h1 : i ≤ gs.length - 1) : (gs.map cGs)[i.toNat]? = some (cGs (gasAt gs i)) := by
  have : i.toNat < gs.length := by omega
  unfold gasAt
  rw [List.getElem?_map, List.getElem?_eq_getElem this]
  rfl
theorem le_cell {sf : Int} {gs : List Gs} {ls : List Dl} {k i : Nat} (h : i < k) : ((legsK sf gs ls k).map cLe)[i]? = some (cLe (legAt sf gs ls i)) := map_get cLe (legsK_get h)
theorem le_len (sf : Int) (gs : List Gs) (ls : List Dl) (k : Nat) : ((legsK sf gs ls k).map cLe).length = k := by rw [List.length_map, legsK_len]
theorem clk_cells (tb : List Ow) (sf : Int) (gs : List Gs) (ls : List Dl) (k : Nat) : (clksK tb sf gs ls k).map cI ++ [cI (clkM tb (legAt sf gs ls k))] = (clksK tb sf gs ls (k + 1)).map cI := by rw [clksK_succ, List.map_append]; rfl
theorem shrU1 (i j : Nat) : ((i : Int) + (j : Int)).fdiv (2 ^ (min (1 : Int).toNat IntKind.u64.bits)) = (((i + j) / 2 : Nat) : Int) := by
  have e : (2 : Int) ^ (min (1 : Int).toNat IntKind.u64.bits) = 2 := by decide
  rw [e, Int.fdiv_eq_ediv_of_nonneg _ (by decide)]
  omega
end Go.Proofs.YtacndicgpkeobaaGreatDoor
namespace Go.Proofs.YtacndicgpkeobaaGreatDoor
theorem cons_zero (n : Nat) (ls : List Dl) (amt : Nat → Int) : List.replicate n [Value.int .i64 0] = (consK n ls amt 0).map cI := by unfold consK; rw [List.map_replicate]; rfl
theorem cons_step {n k : Nat} {ls : List Dl} {amt : Nat → Int} {v : Int} (h : (consK n ls amt k)[(dlAt ls k).g.toNat]? = some v) : ((consK n ls amt k).map cI).set (dlAt ls k).g.toNat [.int .i64 (v + amt k)] = (consK n ls amt (k + 1)).map cI := by
  show _ = (addAt (consK n ls amt k) (dlAt ls k).g.toNat (amt k)).map cI
  unfold addAt
  rw [h, List.map_set]
  rfl
end Go.Proofs.YtacndicgpkeobaaGreatDoor
namespace Go.Proofs.YtacndicgpkeobaaGreatDoor
open Go.RowKit Go.ChangeShapes Go.WideShapes Go.Deep

section
variable {P : Program} {W : World} {t e : TypeId}
theorem opn_i2 (h : IT P t 2) : Opn P W t (fun cs => ∃ a b, (i64 a ∧ i64 b) ∧ cs = [.int .i64 a, .int .i64 b]) := (h W).mono fun cs ⟨xs, hl, hq, hc⟩ => by
  match xs, hl with
  | [a, b], _ => exact ⟨a, b, ⟨hq a (by simp), hq b (by simp)⟩, hc⟩
theorem opn_ow (h : IT P t 2) : Opn P W t (fun cs => ∃ c : Ow, (i64 c.f ∧ i64 c.r) ∧ cs = cOw c) := (h W).mono fun cs ⟨xs, hl, hq, hc⟩ => by
  match xs, hl with
  | [a, b], _ => exact ⟨⟨a, b⟩, ⟨hq a (by simp), hq b (by simp)⟩, hc⟩
theorem opn_ows (ht : P.underlying t = some (.slice e)) (hk : P.cellsOf e = 2) (h : IT P e 2) : Opn P W t (fun cs => ∃ (v : Value) (ls : List Ow), cs = [v] ∧ Rdd W v 2 (ls.map cOw) ∧ ∀ c ∈ ls, i64 c.f ∧ i64 c.r) := opn_list cOw ht hk (by decide) (opn_ow h)
theorem opn_ru {tT tO tI : TypeId} (hfs : fsC P t = some [(0, 1, tT), (1, 2, tO), (3, 1, tI), (4, 1, tI), (5, 1, tI), (6, 1, tI), (7, 1, tI), (8, 1, tI)]) (hC : P.cellsOf t = 9) (hT : Opn P W tT (fun cs => ∃ (v : Value) (ls : List Ow), cs = [v] ∧ Rdd W v 2 (ls.map cOw) ∧ ∀ c ∈ ls, i64 c.f ∧ i64 c.r))
    (hO : IT P tO 2) (hI : P.underlying tI = some (.int .i64)) : Opn P W t (fun cs => ∃ (v : Value) (r : Ru), cs = cRu v r ∧ Rdd W v 2 (r.tb.map cOw)) :=
  (((((opn_len hfs).and (opn_field hfs (o := 0) (k := 1) (by simp) hT)).and (opn_field hfs (o := 1) (k := 2) (by simp) (opn_i2 hO))).and ((opn_field hfs (o := 3) (k := 1) (by simp) (opn_int hI)).and (opn_field hfs (o := 4) (k := 1) (by simp) (opn_int hI)))).and
    (((opn_field hfs (o := 5) (k := 1) (by simp) (opn_int hI)).and (opn_field hfs (o := 6) (k := 1) (by simp) (opn_int hI))).and ((opn_field hfs (o := 7) (k := 1) (by simp) (opn_int hI)).and (opn_field hfs (o := 8) (k := 1) (by simp) (opn_int hI))))).mono
    fun cs ⟨⟨⟨⟨hl, v, tb, h1, h2, _⟩, lo, hi, _, h3⟩, ⟨na, _, h4⟩, de, _, h5⟩, ⟨⟨br, _, h6⟩, em, _, h7⟩, ⟨pa, _, h8⟩, ac, _, h9⟩ => by
      rw [hC] at hl
      match cs, hl with
      | [a, b, c, d, f, g, i, j, k], _ =>
        simp only [List.drop_zero, List.drop_succ_cons, List.take_succ_cons, List.take_zero, List.cons.injEq, and_true] at h1 h3 h4 h5 h6 h7 h8 h9
        obtain ⟨rfl, rfl⟩ := h3
        subst h1; subst h4; subst h5; subst h6; subst h7; subst h8; subst h9
        exact ⟨_, ⟨tb, lo, hi, na, de, br, em, pa, ac⟩, rfl, h2⟩
theorem struct_val {fs : List (Nat × Nat × Nat)} {b0 : Nat} {r : Reach} {v : Value} {cs : List Value} (hf : fsC P t = some fs) (hv : Value.okWide P W r b0 t v) (h : v.cells.toList = cs) : v = .agg cs.toArray := by
  obtain ⟨cs', rfl, h'⟩ := agg_of hf hv
  rw [← h, h']
end
end Go.Proofs.YtacndicgpkeobaaGreatDoor
