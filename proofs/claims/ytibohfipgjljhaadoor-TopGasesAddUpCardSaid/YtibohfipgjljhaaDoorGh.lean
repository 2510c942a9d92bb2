/-
  Plain models of chapter 1: what the named gases, the library's pieces and numbers say of a text. Conditions: none; no program in sight.
-/
import Derived.Test.YtibohfipgjljhaaDoorGg
import Derived.Test.YtibohfipgjljhaaDoorLaidT
import Derived.Lib.Bytealg
import Derived.Sort.Grow
namespace Go.Proofs.YtibohfipgjljhaaDoor
open Go.RowKit
theorem below_grow (w : World) (k : Nat) (os : Array Obj) : Below w.heap.size w (Go.Sort.grow (w.drewN k) os) := by
  refine ⟨rfl, rfl, rfl, ?_, fun j hj => ?_⟩
  · show w.heap.size ≤ (w.heap ++ os).size
    simp
  · show (w.heap ++ os)[j]? = w.heap[j]?
    rw [Array.getElem?_append_left hj]
/-! ### The first mark -/
theorem idx_cut (c : UInt8) : ∀ l : Tx, (Lib.indexByte l c = -1 ∧ cut1 c l = (l, [])) ∨ ∃ j : Nat, Lib.indexByte l c = j ∧ j < l.length ∧ cut1 c l = (l.take j, l.drop (j + 1))
  | [] => .inl ⟨rfl, rfl⟩
  | b :: l => by
    by_cases h : b = c
    · refine .inr ⟨0, ?_, by simp, ?_⟩
      · unfold Lib.indexByte; rw [if_pos (by simpa using h)]; rfl
      · unfold cut1; rw [if_pos h]; rfl
    · have h9 : ¬ (b == c) = true := by simpa using h
      rcases idx_cut c l with ⟨h1, h2⟩ | ⟨j, h1, h2, h3⟩
      · refine .inl ⟨?_, ?_⟩
        · unfold Lib.indexByte; rw [if_neg h9, h1]; rfl
        · unfold cut1; rw [if_neg h, h2]
      · refine .inr ⟨j + 1, ?_, by simp; omega, ?_⟩
        · unfold Lib.indexByte; rw [if_neg h9, h1, if_neg (by simp <;> omega)]; omega
        · unfold cut1; rw [if_neg h, h3]; rfl
theorem cut1_len (c : UInt8) (l : Tx) : (cut1 c l).1.length ≤ l.length ∧ (cut1 c l).2.length ≤ l.length := by
  rcases idx_cut c l with ⟨_, h⟩ | ⟨j, _, h1, h⟩
  · rw [h]; simp
  · rw [h]; simp; omega
/-! ### Numbers -/
def atB (l : Tx) : Bool := match Lib.atoiAll l with
  | .ok _ => false
  | _ => true
def atN (l : Tx) : Int := match Lib.atoiAll l with
  | .ok v => v
  | .syntax => 0
  | .range => Lib.atoiSat l
def AtP (t : TypeId) (l : Tx) (y : Value) (rs : List Res) : Prop := ∃ N, y = .tuple #[.int .i64 (atN l), errV t N (atB l)] ∧ rs = []
theorem AtP_sinks {t : TypeId} {l : Tx} : ∀ y rs, AtP t l y rs → ∀ r ∈ rs, Sinks r := by
  rintro y rs ⟨N, _, rfl⟩ r hr
  cases hr
theorem rdN_eq {u : Int} {r a b : Tx} (ha : (cut1 47 r).1 = a) (hb : rdB (cut1 47 r).2 = b) : rdN u r = if atB a = false ∧ atB b = false ∧ (0 ≤ atN a ∧ atN a ≤ 1000) ∧ 0 ≤ atN b ∧ atN b ≤ 1000 then some ⟨atN a * u, atN b * u⟩ else none := by
  unfold rdN atB atN
  rw [ha, hb]
  cases Lib.atoiAll a <;> cases Lib.atoiAll b <;> simp
/-! ### The named ones -/
def lkB (l : Tx) : Prop := l = tAir ∨ l = tHel ∨ l = tOxy
instance (l : Tx) : Decidable (lkB l) := by unfold lkB; infer_instance
def lkG (l : Tx) : Gs := if l = tAir then ⟨210, 0⟩ else if l = tHel then ⟨0, 1000⟩ else if l = tOxy then ⟨1000, 0⟩ else ⟨0, 0⟩
theorem look_all (l : Tx) : lookV knL knZ (bs l) = .tuple #[gsV (lkG l).o (lkG l).h, .bool (decide (lkB l))] := by
  by_cases h1 : l = tAir
  · subst h1; rfl
  by_cases h2 : l = tHel
  · subst h2; rfl
  by_cases h3 : l = tOxy
  · subst h3; rfl
  have hb : ∀ m : Tx, l ≠ m → ((bs m).data.toList == (bs l).data.toList) = false := fun m h => by
    rw [bs_list, bs_list]
    simpa using fun e => h e.symm
  have e : knL = [(bs tAir, gsV 210 0), (bs tHel, gsV 0 1000), (bs tOxy, gsV 1000 0)] := rfl
  unfold lookV lkG lkB
  rw [e]
  simp only [List.find?, hb _ h1, hb _ h2, hb _ h3]
  simp [h1, h2, h3]
theorem rd_known {l : Tx} (h : lkB l) : rdS l = some (lkG l) := by
  unfold rdS lkG
  rcases h with h | h | h
  · rw [if_pos h, if_pos h]
  · subst h; rw [if_neg (by decide), if_pos rfl, if_neg (by decide), if_pos rfl]
  · subst h; rw [if_neg (by decide), if_neg (by decide), if_pos rfl, if_neg (by decide), if_neg (by decide), if_pos rfl]
theorem rd_form {l : Tx} (h : ¬ lkB l) : rdS l = if Lib.hasPrefix l [110, 120] = true then rdN 10 (l.drop 2) else if Lib.hasPrefix l [116, 120] = true then rdN 10 (l.drop 2) else if Lib.hasPrefix l [103, 97, 115] = true then rdN 1 (l.drop 3) else none := by
  unfold lkB at h
  unfold rdS
  rw [if_neg (fun e => h (.inl e)), if_neg (fun e => h (.inr (.inl e))), if_neg (fun e => h (.inr (.inr e)))]
theorem rd_0 {l : Tx} (h : ¬ lkB l) (h1 : Lib.hasPrefix l [110, 120] = true) : rdS l = rdN 10 (Lib.trimPrefix l [110, 120]) := by
  rw [rd_form h, if_pos h1]
  unfold Lib.trimPrefix
  rw [if_pos h1]; rfl
theorem rd_1 {l : Tx} (h : ¬ lkB l) (h1 : Lib.hasPrefix l [110, 120] = false) (h2 : Lib.hasPrefix l [116, 120] = true) : rdS l = rdN 10 (Lib.trimPrefix l [116, 120]) := by
  rw [rd_form h, h1, if_neg (by decide), if_pos h2]
  unfold Lib.trimPrefix
  rw [if_pos h2]; rfl
theorem rd_2 {l : Tx} (h : ¬ lkB l) (h1 : Lib.hasPrefix l [110, 120] = false) (h2 : Lib.hasPrefix l [116, 120] = false) (h3 : Lib.hasPrefix l [103, 97, 115] = true) : rdS l = rdN 1 (Lib.trimPrefix l [103, 97, 115]) := by
  rw [rd_form h, h1, h2, if_neg (by decide), if_neg (by decide), if_pos h3]
  unfold Lib.trimPrefix
  rw [if_pos h3]; rfl
theorem rd_3 {l : Tx} (h : ¬ lkB l) (h1 : Lib.hasPrefix l [110, 120] = false) (h2 : Lib.hasPrefix l [116, 120] = false) (h3 : Lib.hasPrefix l [103, 97, 115] = false) : rdS l = none := by
  rw [rd_form h, h1, h2, h3, if_neg (by decide), if_neg (by decide), if_neg (by decide)]
theorem trim_len (l p : Tx) : (Lib.trimPrefix l p).length ≤ l.length := by
  unfold Lib.trimPrefix
  split <;> simp
theorem knL_nm {p : ByteArray × Value} (h : p ∈ knL) : ∃ o h9, p.2 = gsV o h9 ∧ ∀ g : Gs, o = g.o ∧ h9 = g.h → p.1 = bs (nmL g) := by
  unfold knL at h
  simp only [List.mem_cons, List.not_mem_nil, or_false] at h
  rcases h with rfl | rfl | rfl
  · refine ⟨210, 0, rfl, ?_⟩; rintro ⟨o, h⟩ ⟨rfl, rfl⟩; rfl
  · refine ⟨0, 1000, rfl, ?_⟩; rintro ⟨o, h⟩ ⟨rfl, rfl⟩; rfl
  · refine ⟨1000, 0, rfl, ?_⟩; rintro ⟨o, h⟩ ⟨rfl, rfl⟩; rfl
def seenNo (es : Array MapEntry) (seen : Array Nat) (g : Gs) : Prop := ∀ e ∈ es.toList, seen.contains e.born = true → ∀ o h, e.val = gsV o h → ¬ (o = g.o ∧ h = g.h)
theorem seen_0 (es : Array MapEntry) (g : Gs) : seenNo es #[] g := fun e _ h => by simp at h
theorem seen_s {es : Array MapEntry} {seen : Array Nat} {g : Gs} {clock : Nat} {ml : List (ByteArray × Value)} (H : MapE es clock ml) (hs : seenNo es seen g) {e : MapEntry} {o h : Int} (he : e ∈ es.toList) (hv : e.val = gsV o h) (hne : ¬ (o = g.o ∧ h = g.h)) : seenNo es (seen.push e.born) g := by
  intro d hd hc o2 h2 hv2
  rw [Array.contains_iff_mem, Array.mem_push] at hc
  rcases hc with hc | hc
  · exact hs d hd (by rw [Array.contains_iff_mem]; exact hc) o2 h2 hv2
  · have : d = e := by
      have hn := H.nod
      have := find_born e es.toList hn he
      have h9 := find_born d es.toList hn hd
      rw [hc] at h9
      rw [this] at h9
      exact (Option.some.inj h9).symm
    subst this
    rw [hv] at hv2
    injection hv2 with e1
    injection e1 with e2
    simp at e2
    rw [← e2.1, ← e2.2]
    exact hne
theorem seen_e {es : Array MapEntry} {seen : Array Nat} {g : Gs} {clock : Nat} (H : MapE es clock knL) (hs : seenNo es seen g) (h0 : (leftOf es seen).size = 0) : ¬ (g.o = 210 ∧ g.h = 0) ∧ ¬ (g.o = 1000 ∧ g.h = 0) ∧ ¬ (g.o = 0 ∧ g.h = 1000) := by
  have key : ∀ p ∈ knL, ∀ o h, p.2 = gsV o h → ¬ (o = g.o ∧ h = g.h) := by
    intro p hp o h hv
    obtain ⟨e, he, _, he2⟩ := H.all p hp
    refine hs e he ?_ o h (he2.trans hv)
    rcases hc : seen.contains e.born with _ | _
    · exfalso
      have : e ∈ (leftOf es seen).toList := by
        unfold leftOf
        simp only [Array.toList_filter, List.mem_filter, he, hc, Bool.not_false, and_self]
      have h9 : (leftOf es seen).toList.length = 0 := h0
      rw [List.eq_nil_of_length_eq_zero h9] at this
      cases this
    · rfl
  have k1 := key (bs tAir, gsV 210 0) (by unfold knL; simp [tAir]) 210 0 rfl
  have k2 := key (bs tHel, gsV 0 1000) (by unfold knL; simp [tHel]) 0 1000 rfl
  have k3 := key (bs tOxy, gsV 1000 0) (by unfold knL; simp [tOxy]) 1000 0 rfl
  omega
section
variable {g : Gs}
theorem nm_nx (h1 : ¬ (g.o = 210 ∧ g.h = 0)) (h2 : ¬ (g.o = 1000 ∧ g.h = 0)) (h4 : g.h = 0 ∧ g.o % 10 = 0) : nmL g = 110 :: 120 :: nDg (g.o / 10) := by
  unfold nmL
  rw [if_neg h1, if_neg h2, if_neg (by omega), if_pos h4]
theorem nm_tx (h1 : ¬ (g.o = 210 ∧ g.h = 0)) (h2 : ¬ (g.o = 1000 ∧ g.h = 0)) (h3 : ¬ (g.o = 0 ∧ g.h = 1000)) (h4 : ¬ (g.h = 0 ∧ g.o % 10 = 0)) (h5 : g.h % 10 = 0 ∧ g.o % 10 = 0) : nmL g = 116 :: 120 :: (nDg (g.o / 10) ++ 47 :: nDg (g.h / 10)) := by
  unfold nmL
  rw [if_neg h1, if_neg h2, if_neg h3, if_neg h4, if_pos h5]
theorem nm_gs (h1 : ¬ (g.o = 210 ∧ g.h = 0)) (h2 : ¬ (g.o = 1000 ∧ g.h = 0)) (h3 : ¬ (g.o = 0 ∧ g.h = 1000)) (h4 : ¬ (g.h = 0 ∧ g.o % 10 = 0)) (h5 : ¬ (g.h % 10 = 0 ∧ g.o % 10 = 0)) : nmL g = 103 :: 97 :: 115 :: (nDg g.o ++ 47 :: nDg g.h) := by
  unfold nmL
  rw [if_neg h1, if_neg h2, if_neg h3, if_neg h4, if_neg h5]
theorem nm_a (h1 : g.o = 210 ∧ g.h = 0) : nmL g = tAir := if_pos h1
theorem nm_o (h1 : ¬ (g.o = 210 ∧ g.h = 0)) (h2 : g.o = 1000 ∧ g.h = 0) : nmL g = tOxy := by unfold nmL; rw [if_neg h1, if_pos h2]
theorem nm_h (h1 : ¬ (g.o = 210 ∧ g.h = 0)) (h2 : ¬ (g.o = 1000 ∧ g.h = 0)) (h3 : g.o = 0 ∧ g.h = 1000) : nmL g = tHel := by unfold nmL; rw [if_neg h1, if_neg h2, if_pos h3]
end
theorem nDg_len {n : Int} (h : 0 ≤ n ∧ n ≤ 1000) : (nDg n).length ≤ 4 := by
  obtain ⟨k, _, hd⟩ := nDg_ok h
  exact hd.le
def rdG (l : Tx) : Gs := (rdS l).getD ⟨0, 0⟩
theorem pr_none {l : Tx} (h : rdS l = none) : prS l = (⟨0, 0⟩, 7) := by unfold prS; rw [h]
theorem pr_some {l : Tx} {g : Gs} (h : rdS l = some g) : prS l = if ckGas g.o g.h = 0 ∧ nmL g = l then (g, 0) else (⟨0, 0⟩, 7) := by unfold prS; rw [h]
def rfG (l : Tx) : Gs := (rfS l).getD ⟨0, 0⟩
theorem rd_is {l : Tx} (h : (rdS l).isSome = true) : rdS l = some (rdG l) := by
  unfold rdG
  cases hr : rdS l with
  | none => rw [hr] at h; cases h
  | some g => rfl
theorem rd_isn {l : Tx} (h : (rdS l).isSome = false) : rdS l = none := by
  cases hr : rdS l with
  | none => rfl
  | some g => rw [hr] at h; cases h
theorem pr_air {l : Tx} (h : l = tAir) : prS l = (⟨210, 0⟩, 0) := by subst h; exact pr_name (g := ⟨210, 0⟩) (by decide)
theorem pr_oxy {l : Tx} (h : l = tOxy) : prS l = (⟨1000, 0⟩, 0) := by subst h; exact pr_name (g := ⟨1000, 0⟩) (by decide)
theorem pr_hel {l : Tx} (h : l = tHel) : prS l = (⟨0, 1000⟩, 0) := by subst h; exact pr_name (g := ⟨0, 1000⟩) (by decide)
theorem pr_rn {l : Tx} (h : rfS l = none) : prS l = (⟨0, 0⟩, 7) := by rw [pr_ref, h]
theorem pr_rs {l : Tx} {g : Gs} (h : rfS l = some g) : prS l = if ckGas g.o g.h = 0 ∧ nmL g = l then (g, 0) else (⟨0, 0⟩, 7) := by rw [pr_ref, h]
theorem rf_3 {l : Tx} (h1 : l ≠ tAir) (h2 : l ≠ tOxy) (h3 : l ≠ tHel) (h4 : l.length > 3) (h5 : l.take 3 = [103, 97, 115]) : rfS l = rfN 1 (cutF 47 [] (l.drop 3)) := by
  unfold rfS
  rw [if_neg h1, if_neg h2, if_neg h3, if_pos ⟨h4, h5⟩]
theorem rf_0 {l : Tx} (h1 : l ≠ tAir) (h2 : l ≠ tOxy) (h3 : l ≠ tHel) (h4 : ¬ (l.length > 3 ∧ l.take 3 = [103, 97, 115])) (h5 : l.length < 3 ∨ (l.take 2 ≠ [110, 120] ∧ l.take 2 ≠ [116, 120])) : rfS l = none := by
  unfold rfS
  rw [if_neg h1, if_neg h2, if_neg h3, if_neg h4, if_pos h5]
theorem rf_2 {l : Tx} (h1 : l ≠ tAir) (h2 : l ≠ tOxy) (h3 : l ≠ tHel) (h4 : ¬ (l.length > 3 ∧ l.take 3 = [103, 97, 115])) (h5 : ¬ (l.length < 3 ∨ (l.take 2 ≠ [110, 120] ∧ l.take 2 ≠ [116, 120]))) : rfS l = rfN 10 (cutF 47 [] (l.drop 2)) := by
  unfold rfS
  rw [if_neg h1, if_neg h2, if_neg h3, if_neg h4, if_neg h5]
theorem cutF_ne (m : UInt8) : ∀ (l cur : Tx), 1 ≤ (cutF m cur l).length
  | [], cur => by unfold cutF; simp
  | c :: r, cur => by
    unfold cutF
    split
    · simp
    · exact cutF_ne m r _
theorem cutF_len (m : UInt8) : ∀ (l cur : Tx), ∀ p ∈ cutF m cur l, p.length ≤ cur.length + l.length
  | [], cur, p, h => by
    unfold cutF at h
    rw [List.mem_singleton.1 h]
    simp
  | c :: r, cur, p, h => by
    unfold cutF at h
    split at h
    · rcases List.mem_cons.1 h with rfl | h
      · simp
      · have := cutF_len m r [] p h
        simp at this ⊢
        omega
    · have := cutF_len m r _ p h
      simp at this ⊢
      omega
theorem numF_in : ∀ (l : Tx) (n x : Int) (k : Nat), 0 ≤ n → n < 10 ^ k → numF l n = some x → 0 ≤ x ∧ x < 10 ^ (k + l.length)
  | [], n, x, k, h0, h1, h => by
    unfold numF at h
    obtain rfl := Option.some.inj h
    exact ⟨h0, h1⟩
  | c :: r, n, x, k, h0, h1, h => by
    unfold numF at h
    split at h
    · cases h
    · rename_i hc
      have e : (10 : Int) ^ (k + 1) = 10 * 10 ^ k := by rw [Int.pow_succ, Int.mul_comm]
      have := numF_in r (10 * n + ((c.toNat : Int) - 48)) x (k + 1) (by omega) (by rw [e]; omega) h
      rw [List.length_cons, show k + (r.length + 1) = k + 1 + r.length by omega]
      exact this
theorem num_in {l : Tx} {n : Int} (h : numM l 4 = some n) : -10000 < n ∧ n < 10000 := by
  unfold numM at h
  split at h
  · cases h
  · rename_i hc
    cases hx : numF (l.drop (numA l)) 0 with
    | none => rw [hx] at h; cases h
    | some x =>
      rw [hx] at h
      have h9 := numF_in (l.drop (numA l)) 0 x 0 (by decide) (by decide) hx
      have hl : (l.drop (numA l)).length ≤ 4 := by rw [List.length_drop]; omega
      have hp : ∀ j : Nat, j < 5 → (10 : Int) ^ (0 + j) ≤ 10000 := by decide
      have := hp _ (show (l.drop (numA l)).length < 5 by omega)
      have e := Option.some.inj h
      dsimp only at e
      split at e <;> omega
theorem rn_3 {u : Int} {W : List Tx} (h : W.length > 2) : rfN u W = none := by
  match W, h with
  | _ :: _ :: _ :: _, _ => rfl
theorem rn_bad {u : Int} {W : List Tx} {a : Tx} (ha : W[0]? = some a) (h : numM a 4 = none) : rfN u W = none := by
  match W, ha with
  | [b], ha =>
    obtain rfl : b = a := by simpa using ha
    unfold rfN; dsimp only; rw [h]
  | [b, c], ha =>
    obtain rfl : b = a := by simpa using ha
    unfold rfN; dsimp only; rw [h]
  | b :: c :: d :: e, _ => rfl
theorem rn_1 {u n : Int} {W : List Tx} {a : Tx} (hl : W.length = 1) (ha : W[0]? = some a) (h : numM a 4 = some n) : rfN u W = some ⟨u * n, 0⟩ := by
  match W, hl, ha with
  | [b], _, ha =>
    obtain rfl : b = a := by simpa using ha
    unfold rfN; dsimp only; rw [h]
theorem rn_b2 {u : Int} {W : List Tx} {a b : Tx} (hl : W.length = 2) (ha : W[0]? = some a) (hb : W[1]? = some b) (h : numM b 4 = none) : rfN u W = none := by
  match W, hl, ha, hb with
  | [c, d], _, ha, hb =>
    obtain rfl : c = a := by simpa using ha
    obtain rfl : d = b := by simpa using hb
    unfold rfN; dsimp only; rw [h]
    cases numM c 4 <;> rfl
theorem rn_2 {u n m : Int} {W : List Tx} {a b : Tx} (hl : W.length = 2) (ha : W[0]? = some a) (hb : W[1]? = some b) (h : numM a 4 = some n) (h2 : numM b 4 = some m) : rfN u W = some ⟨u * n, u * m⟩ := by
  match W, hl, ha, hb with
  | [c, d], _, ha, hb =>
    obtain rfl : c = a := by simpa using ha
    obtain rfl : d = b := by simpa using hb
    unfold rfN; dsimp only; rw [h, h2]
theorem is_get {l : Tx} {d : Nat} (h : (numM l d).isSome = true) : numM l d = some ((numM l d).getD 0) := by
  cases hr : numM l d with
  | none => rw [hr] at h; cases h
  | some g => rfl
theorem is_not {l : Tx} {d : Nat} (h : (numM l d).isSome = false) : numM l d = none := by
  cases hr : numM l d with
  | none => rfl
  | some g => rw [hr] at h; cases h
theorem nm_len {g : Gs} (hg : ckGas g.o g.h = 0) : (nmL g).length ≤ 12 := by
  have hk := ckGas_ok hg
  have h1 := nDg_len (n := g.o / 10) (by omega); have h2 := nDg_len (n := g.h / 10) (by omega); have h3 := nDg_len (n := g.o) (by omega); have h4 := nDg_len (n := g.h) (by omega)
  unfold nmL
  split
  · decide
  split
  · decide
  split
  · decide
  split
  · simp only [List.length_cons]; omega
  split
  · simp only [List.length_cons, List.length_append]; omega
  · simp only [List.length_cons, List.length_append]; omega
end Go.Proofs.YtibohfipgjljhaaDoor
