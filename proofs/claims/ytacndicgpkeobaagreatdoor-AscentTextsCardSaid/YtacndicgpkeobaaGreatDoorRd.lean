/-
  Plain laws of reading texts: pieces at a mark, lines, numbers as the library reads them. Conditions: those in front of each theorem; no program in sight.
-/
import Derived.Test.YtacndicgpkeobaaGreatDoorMod2
import Derived.Lib.Bytealg
import Derived.Lib.IndexLaws
import Derived.Lib.Strings
import Derived.Lib.ConvBytes
import Derived.Test.YtacndicgpkeobaaGreatDoorShBld
namespace Go.Proofs.YtacndicgpkeobaaGreatDoor
open Go.RowKit
def dgs : Tx → Nat → Nat
  | [], n => n
  | c :: r, n => dgs r (10 * n + (c.toNat - 48))
def allD (l : Tx) : Prop := ∀ c ∈ l, 48 ≤ c.toNat ∧ c.toNat ≤ 57
theorem allD_cons {c : UInt8} {r : Tx} : allD (c :: r) ↔ (48 ≤ c.toNat ∧ c.toNat ≤ 57) ∧ allD r := by
  unfold allD
  simp only [List.mem_cons, forall_eq_or_imp]
theorem numF_dg : ∀ {l : Tx} {n : Nat}, allD l → numF l (n : Int) = some (dgs l n : Int)
  | [], n, _ => rfl
  | c :: r, n, h => by
    obtain ⟨h1, h2⟩ := allD_cons.1 h
    rw [numF, if_neg (by omega), show 10 * (n : Int) + ((c.toNat : Int) - 48) = ((10 * n + (c.toNat - 48) : Nat) : Int) by omega, numF_dg h2]
    rfl
theorem numF_all : ∀ {l : Tx} {n v : Int}, numF l n = some v → allD l
  | [], _, _, _ => fun c hc => by cases hc
  | c :: r, n, v, h => by
    rw [numF] at h
    by_cases h1 : c.toNat < 48 ∨ c.toNat > 57
    · rw [if_pos h1] at h; cases h
    · rw [if_neg h1] at h
      exact allD_cons.2 ⟨by omega, numF_all h⟩
theorem dgs_le : ∀ {l : Tx} {n : Nat}, n ≤ dgs l n
  | [], n => Nat.le_refl _
  | c :: r, n => by
    have := dgs_le (l := r) (n := 10 * n + (c.toNat - 48))
    rw [dgs]
    omega
theorem dgs_app : ∀ (l : Tx) (c : UInt8) (n : Nat), dgs (l ++ [c]) n = 10 * dgs l n + (c.toNat - 48)
  | [], _, _ => rfl
  | _ :: r, c, _ => dgs_app r c _
theorem dgs_lt : ∀ {l : Tx} {n : Nat}, allD l → dgs l n < (n + 1) * 10 ^ l.length
  | [], n, _ => by rw [dgs, List.length_nil]; omega
  | c :: r, n, h => by
    obtain ⟨h1, h2⟩ := allD_cons.1 h
    have h3 := dgs_lt (n := 10 * n + (c.toNat - 48)) h2
    rw [dgs, List.length_cons, Nat.pow_succ]
    have h4 : (10 * n + (c.toNat - 48) + 1) * 10 ^ r.length ≤ ((n + 1) * 10) * 10 ^ r.length := Nat.mul_le_mul_right _ (by omega)
    have h5 : (n + 1) * 10 * 10 ^ r.length = (n + 1) * (10 ^ r.length * 10) := by rw [Nat.mul_assoc, Nat.mul_comm 10]
    omega
theorem uint_dg : ∀ {l : Tx} {n : Nat}, allD l → dgs l n < 1000000000000000000 → Lib.parseUint10 n l = .ok (dgs l n)
  | [], n, _, _ => rfl
  | c :: r, n, h, hb => by
    obtain ⟨h1, h2⟩ := allD_cons.1 h
    have h3 := dgs_le (l := r) (n := 10 * n + (c.toNat - 48))
    rw [dgs] at hb ⊢
    rw [Lib.parseUint10, if_pos h1, if_neg (by omega), if_neg (by omega), Nat.mul_comm n 10]
    exact uint_dg h2 hb
theorem dig_u {c : UInt8} (h : 48 ≤ c.toNat ∧ c.toNat ≤ 57) : UInt8.ofNat (48 + (c.toNat - 48)) = c := by
  rw [show 48 + (c.toNat - 48) = c.toNat by omega]
  exact UInt8.ofNat_toNat
theorem dec_dgs : ∀ (n : Nat) {l : Tx}, l.length = n + 1 → allD l → (∀ c, l.head? = some c → c.toNat = 48 → n = 0) → Lib.decDigits (dgs l 0) = l ∧ (1 ≤ n → 10 ^ n ≤ dgs l 0)
  | 0, l, hl, h, _ => by
    match l, hl with
    | [c], _ =>
      have h1 := (allD_cons.1 h).1
      refine ⟨?_, fun h => by omega⟩
      have e : dgs [c] 0 = c.toNat - 48 := by show 10 * 0 + (c.toNat - 48) = _; omega
      rw [e, Lib.decDigits, dif_pos (by omega), dig_u h1]
  | n + 1, l, hl, h, hz => by
    obtain ⟨t, c, rfl⟩ : ∃ t c, l = t ++ [c] := ⟨l.dropLast, l.getLast (by intro h0; rw [h0] at hl; cases hl), (List.dropLast_concat_getLast _).symm⟩
    have ht : t.length = n + 1 := by simpa using hl
    have hc : 48 ≤ c.toNat ∧ c.toNat ≤ 57 := h c (by simp)
    have hd : allD t := fun x hx => h x (by simp [hx])
    have hhd : ∀ x, t.head? = some x → x.toNat ≠ 48 := by
      intro x hx hx0
      have := hz x (by
        cases t with
        | nil => cases hx
        | cons a b => exact hx) hx0
      omega
    obtain ⟨h1, h2⟩ := dec_dgs n ht hd (fun x hx hx0 => absurd hx0 (hhd x hx))
    have h3 : 10 ^ n ≤ dgs t 0 := by
      rcases Nat.eq_zero_or_pos n with h0 | h0
      · subst h0
        match t, ht with
        | [a], _ =>
          have h9 := hhd a rfl
          have h8 := (allD_cons.1 hd).1
          show 10 ^ 0 ≤ 10 * 0 + (a.toNat - 48)
          omega
      · exact h2 h0
    have h4 : 1 ≤ 10 ^ n := Nat.one_le_pow _ _ (by decide)
    rw [dgs_app]
    refine ⟨?_, fun _ => by rw [Nat.pow_succ]; omega⟩
    rw [Lib.decDigits, dif_neg (by omega), show (10 * dgs t 0 + (c.toNat - 48)) / 10 = dgs t 0 by omega, show (10 * dgs t 0 + (c.toNat - 48)) % 10 = c.toNat - 48 by omega, h1, dig_u hc]
theorem digs_all (n : Nat) : allD (Lib.decDigits n) ∧ dgs (Lib.decDigits n) 0 = n ∧ 1 ≤ (Lib.decDigits n).length ∧ (∀ c, (Lib.decDigits n).head? = some c → c.toNat = 48 → n = 0) := by
  induction n using Nat.strongRecOn with
  | _ n ih =>
    have hc : ∀ k, k < 10 → (UInt8.ofNat (48 + k)).toNat = 48 + k := fun k hk => by rw [UInt8.toNat_ofNat']; omega
    by_cases h : n < 10
    · rw [Lib.decDigits, dif_pos h]
      have := hc n h
      refine ⟨fun c hx => ?_, ?_, Nat.le_refl _, fun c hx h0 => ?_⟩
      · rw [List.mem_singleton.1 hx]; omega
      · show 10 * 0 + ((UInt8.ofNat (48 + n)).toNat - 48) = n
        omega
      · have : UInt8.ofNat (48 + n) = c := by simpa using hx
        subst this
        omega
    · rw [Lib.decDigits, dif_neg h]
      have := hc (n % 10) (by omega)
      obtain ⟨h1, h2, h3, h4⟩ := ih (n / 10) (by omega)
      refine ⟨fun c hx => ?_, ?_, by simp, fun c hx h0 => ?_⟩
      · rcases List.mem_append.1 hx with hx | hx
        · exact h1 c hx
        · rw [List.mem_singleton.1 hx]; omega
      · rw [dgs_app, h2]
        omega
      · have h5 : (Lib.decDigits (n / 10)).head? = some c := by
          cases hd : Lib.decDigits (n / 10) with
          | nil => rw [hd] at h3; simp at h3
          | cons a b => rw [hd] at hx; exact hx
        have := h4 c h5 h0
        omega
theorem digs_len {n d : Nat} (h : n < 10 ^ d) (hd : 1 ≤ d) : (Lib.decDigits n).length ≤ d := by
  rw [Lib.decDigits_length]
  rcases Nat.lt_or_ge d (Lib.nDigits n) with h1 | h1
  · obtain ⟨e, he⟩ : ∃ e, Lib.nDigits n = e + 1 := ⟨Lib.nDigits n - 1, by have := Lib.nDigits_pos n; omega⟩
    have h2 : 10 ^ e ≤ n := by
      have h9 := digs_all n
      have hl : (Lib.decDigits n).length = e + 1 := by rw [Lib.decDigits_length, he]
      obtain ⟨_, h8⟩ := dec_dgs e hl h9.1 (fun c hc h0 => by
        have h7 := h9.2.2.2 c hc h0
        subst h7
        rw [Lib.nDigits_small (by decide)] at he
        omega)
      have := h8 (by omega)
      rw [h9.2.1] at this
      exact this
    have h3 : 10 ^ d ≤ 10 ^ e := Nat.pow_le_pow_right (by decide) (by omega)
    omega
  · exact h1
theorem itoa_p {n : Nat} : Lib.itoa (n : Int) = Lib.decDigits n := itoa_n n
theorem itoa_m {n : Nat} (h : n ≠ 0) : Lib.itoa (-(n : Int)) = 45 :: Lib.decDigits n := by
  unfold Lib.itoa
  rw [if_pos (by omega), Int.natAbs_neg, Int.natAbs_natCast]
theorem head_not {l : Tx} (h : allD l) {c : UInt8} (hc : l.head? = some c) : c.toNat ≠ 45 ∧ c.toNat ≠ 43 := by
  have := h c (List.mem_of_mem_head? (by rw [hc]; rfl))
  omega
theorem numA_dg {l : Tx} (h : allD l) : numA l = 0 := by
  unfold numA
  cases hl : l.head? with
  | none => rfl
  | some c =>
    have := (head_not h hl).1
    rw [Option.map_some, if_neg (by rw [Option.some.injEq]; exact this)]
theorem num_itoa {l : Tx} {d : Nat} {n : Int} (h : numM l d = some n) : l = Lib.itoa n ∧ (Lib.trimPrefix l [45]).length ≤ d := by
  unfold numM at h
  by_cases h0 : l.length = numA l ∨ l.length - numA l > d ∨ ((l.drop (numA l)).head?.map (·.toNat) = some 48 ∧ l.length > 1)
  · rw [if_pos h0] at h; cases h
  rw [if_neg h0] at h
  obtain ⟨v, hv, hn⟩ := Option.map_eq_some_iff.1 h
  have hD := numF_all hv
  have hE := numF_dg (n := 0) hD
  rw [show ((0 : Nat) : Int) = 0 from rfl, hv] at hE
  have hve : v = (dgs (l.drop (numA l)) 0 : Int) := Option.some.inj hE
  have hle := numA_le (l := l)
  rcases (show numA l = 0 ∨ numA l = 1 by omega) with ha | ha
  · rw [ha] at h0 hn hD hve
    rw [List.drop_zero] at h0 hD hve
    rw [if_neg (by decide)] at hn
    have h1 : ¬ l.length = 0 := fun hh => h0 (.inl hh)
    obtain ⟨e, he⟩ : ∃ e, l.length = e + 1 := ⟨l.length - 1, by omega⟩
    have h2 := (dec_dgs e he hD (fun c hc hc0 => by
      rcases Nat.eq_zero_or_pos e with h9 | h9
      · exact h9
      · exact absurd (.inr (.inr ⟨by rw [hc]; exact congrArg some hc0, by omega⟩)) h0)).1
    refine ⟨by rw [← hn, hve, itoa_p, h2], ?_⟩
    unfold Lib.trimPrefix
    split
    · rw [List.length_drop]; omega
    · omega
  · match l, ha with
    | [], ha => cases ha
    | c :: r, ha =>
      have hc : c.toNat = 45 := by
        unfold numA at ha
        by_cases h9 : c.toNat = 45
        · exact h9
        · rw [List.head?_cons, Option.map_some, if_neg (by rw [Option.some.injEq]; exact h9)] at ha
          cases ha
      have hc' : c = 45 := UInt8.toNat_inj.1 hc
      subst hc'
      rw [ha] at h0 hn hD hve
      rw [List.drop_succ_cons, List.drop_zero] at h0 hD hve
      rw [if_pos rfl] at hn
      rw [List.length_cons] at h0
      have h1 : ¬ r.length = 0 := fun hh => h0 (.inl (by omega))
      obtain ⟨e, he⟩ : ∃ e, r.length = e + 1 := ⟨r.length - 1, by omega⟩
      have hnz : ∀ c, r.head? = some c → c.toNat ≠ 48 := fun c hc hc0 => h0 (.inr (.inr ⟨by rw [hc]; exact congrArg some hc0, by omega⟩))
      obtain ⟨h2, h3⟩ := dec_dgs e he hD (fun c hc hc0 => absurd hc0 (hnz c hc))
      have h4 : dgs r 0 ≠ 0 := by
        intro h9
        match r, he with
        | a :: q, _ =>
          have h8 := hnz a rfl
          have h7 := (allD_cons.1 hD).1
          have h6 := dgs_le (l := q) (n := 10 * 0 + (a.toNat - 48))
          rw [dgs] at h9
          omega
      refine ⟨by rw [← hn, hve, itoa_m h4, h2], ?_⟩
      show (Lib.trimPrefix (45 :: r) [45]).length ≤ d
      rw [show Lib.trimPrefix (45 :: r) [45] = r from rfl]
      have : ¬ r.length + 1 - 1 > d := fun hh => h0 (.inr (.inl hh))
      omega
theorem itoa_num {n : Int} {d : Nat} (hd : d ≤ 17) (h : (Lib.trimPrefix (Lib.itoa n) [45]).length ≤ d) : numM (Lib.itoa n) d = some n ∧ Lib.atoiAll (Lib.itoa n) = .ok n := by
  have hp : ∀ j, j < 18 → 10 ^ j < 1000000000000000000 := by decide
  have hb := hp d (by omega)
  rcases Int.lt_or_le n 0 with h0 | h0
  · obtain ⟨m, rfl⟩ : ∃ m : Nat, n = -(m : Int) := ⟨n.natAbs, by omega⟩
    have hm : m ≠ 0 := by omega
    rw [itoa_m hm] at h ⊢
    rw [show Lib.trimPrefix (45 :: Lib.decDigits m) [45] = Lib.decDigits m from rfl] at h
    obtain ⟨h1, h2, h3, h4⟩ := digs_all m
    have h5 := dgs_lt (n := 0) h1
    rw [h2, Nat.zero_add, Nat.one_mul] at h5
    have h6 : 10 ^ (Lib.decDigits m).length ≤ 10 ^ d := Nat.pow_le_pow_right (by decide) h
    have ha : numA (45 :: Lib.decDigits m) = 1 := rfl
    refine ⟨?_, ?_⟩
    · unfold numM
      rw [ha, List.drop_succ_cons, List.drop_zero, List.length_cons, if_neg, show (0 : Int) = ((0 : Nat) : Int) from rfl, numF_dg h1, h2, Option.map_some, if_pos rfl]
      rintro (h9 | h9 | h9)
      · omega
      · omega
      · cases hh : (Lib.decDigits m).head? with
        | none => rw [hh] at h9; exact absurd h9.1 (by simp)
        | some c =>
          rw [hh, Option.map_some, Option.some.injEq] at h9
          exact hm (h4 c hh h9.1)
    · rw [Lib.atoiAll_minus]
      unfold Lib.parseMag
      rw [if_neg (by intro h9; rw [h9] at h3; simp at h3), uint_dg h1 (by rw [h2]; omega), h2]
      unfold Lib.signed
      simp only
      split <;> first | rfl | omega
  · obtain ⟨m, rfl⟩ := Int.eq_ofNat_of_zero_le h0
    rw [itoa_p] at h ⊢
    obtain ⟨h1, h2, h3, h4⟩ := digs_all m
    have ht : Lib.trimPrefix (Lib.decDigits m) [45] = Lib.decDigits m := by
      unfold Lib.trimPrefix
      rw [if_neg]
      intro h9
      cases hh : Lib.decDigits m with
      | nil => rw [hh] at h3; simp at h3
      | cons c r =>
        rw [hh] at h9 h1
        have h8 := (head_not h1 (c := c) rfl).1
        have h7 : (45 : UInt8) = c := by
          unfold Lib.hasPrefix at h9
          simp [List.isPrefixOf] at h9
          exact h9
        exact h8 (by rw [← h7]; rfl)
    rw [ht] at h
    have h5 := dgs_lt (n := 0) h1
    rw [h2, Nat.zero_add, Nat.one_mul] at h5
    have h6 : 10 ^ (Lib.decDigits m).length ≤ 10 ^ d := Nat.pow_le_pow_right (by decide) h
    have ha := numA_dg h1
    refine ⟨?_, ?_⟩
    · unfold numM
      rw [ha, List.drop_zero, if_neg, show (0 : Int) = ((0 : Nat) : Int) from rfl, numF_dg h1, h2, Option.map_some, if_neg (by decide)]
      rintro (h9 | h9 | h9)
      · omega
      · omega
      · cases hh : (Lib.decDigits m).head? with
        | none => rw [hh] at h9; exact absurd h9.1 (by simp)
        | some c =>
          rw [hh, Option.map_some, Option.some.injEq] at h9
          have h8 := h4 c hh h9.1
          subst h8
          rw [dig_0] at h9
          simp at h9
    · cases hh : Lib.decDigits m with
      | nil => rw [hh] at h3; simp at h3
      | cons c r =>
        rw [hh] at h1 h2
        have h8 := head_not h1 (c := c) rfl
        rw [Lib.atoiAll_plain c r h8.2 h8.1]
        unfold Lib.parseMag
        rw [if_neg (by simp), uint_dg h1 (by rw [h2]; omega), h2]
        unfold Lib.signless
        simp only
        split <;> first | rfl | omega
def rdNum (l : Tx) (d : Nat) : Option Int := match Lib.atoiAll l with
  | .ok n => if Lib.itoa n = l ∧ (Lib.trimPrefix l [45]).length ≤ d then some n else none
  | _ => none
theorem rd_num {l : Tx} {d : Nat} (hd : d ≤ 17) : rdNum l d = numM l d := by
  cases h : numM l d with
  | some n =>
    obtain ⟨h1, h2⟩ := num_itoa h
    obtain ⟨_, h4⟩ := itoa_num (n := n) hd (by rw [← h1]; exact h2)
    unfold rdNum
    rw [← h1] at h4
    rw [h4]
    exact if_pos ⟨h1.symm, h2⟩
  | none =>
    cases h9 : rdNum l d with
    | none => rfl
    | some n =>
      unfold rdNum at h9
      split at h9
      · rename_i m hm
        by_cases h8 : Lib.itoa m = l ∧ (Lib.trimPrefix l [45]).length ≤ d
        · have h7 := (itoa_num (n := m) hd (by rw [h8.1]; exact h8.2)).1
          rw [h8.1, h] at h7
          cases h7
        · rw [if_neg h8] at h9; cases h9
      · cases h9
end Go.Proofs.YtacndicgpkeobaaGreatDoor
namespace Go.Proofs.YtacndicgpkeobaaGreatDoor
open Go.RowKit
theorem idx_two (c : UInt8) : ∀ l : Tx, (Lib.indexByte l c = -1 ∧ ∀ x ∈ l, x ≠ c) ∨ ∃ j : Nat, Lib.indexByte l c = j ∧ j < l.length ∧ l = l.take j ++ c :: l.drop (j + 1) ∧ ∀ x ∈ l.take j, x ≠ c
  | [] => .inl ⟨rfl, fun x hx => by cases hx⟩
  | b :: l => by
    by_cases h : b = c
    · subst h
      refine .inr ⟨0, ?_, by simp, by simp, by simp⟩
      unfold Lib.indexByte
      rw [if_pos (by simp)]
      rfl
    · have h9 : ¬ (b == c) = true := by simpa using h
      rcases idx_two c l with ⟨h1, h2⟩ | ⟨j, h1, h2, h3, h4⟩
      · refine .inl ⟨by unfold Lib.indexByte; rw [if_neg h9, h1]; rfl, fun x hx => ?_⟩
        rcases List.mem_cons.1 hx with rfl | hx
        · exact h
        · exact h2 x hx
      · refine .inr ⟨j + 1, ?_, by simp; omega, ?_, fun x hx => ?_⟩
        · unfold Lib.indexByte; rw [if_neg h9, h1, if_neg (by simp <;> omega)]; omega
        · rw [List.take_succ_cons, List.drop_succ_cons, List.cons_append, ← h3]
        · rw [List.take_succ_cons] at hx
          rcases List.mem_cons.1 hx with rfl | hx
          · exact h
          · exact h4 x hx
theorem cutF_i0 {m : UInt8} {l : Tx} (h : Lib.indexByte l m < 0) : cutF m [] l = [l] := by
  rcases idx_two m l with ⟨_, h2⟩ | ⟨j, h1, _⟩
  · rw [cutF_no h2, List.nil_append]
  · omega
theorem cutF_ij {m : UInt8} {l : Tx} (h : ¬ Lib.indexByte l m < 0) : ∃ j : Nat, Lib.indexByte l m = j ∧ j < l.length ∧ l[j]? = some m ∧ (∀ x ∈ l.take j, x ≠ m) ∧ cutF m [] l = l.take j :: cutF m [] (l.drop (j + 1)) := by
  rcases idx_two m l with ⟨h1, _⟩ | ⟨j, h1, h2, h3, h4⟩
  · omega
  · refine ⟨j, h1, h2, ?_, h4, ?_⟩
    · rw [h3, List.getElem?_append_right (by rw [List.length_take]; omega), show j - (l.take j).length = 0 by rw [List.length_take]; omega]
      rfl
    · conv => lhs; rw [h3]
      rw [cutF_at h4, List.nil_append]
theorem cutF_cnt {m : UInt8} : ∀ (l cur : Tx), (cutF m cur l).length = Lib.countByte l m + 1
  | [], cur => rfl
  | c :: r, cur => by
    unfold cutF Lib.countByte
    by_cases h : c = m
    · subst h
      rw [if_pos rfl, List.length_cons, cutF_cnt r [], List.count_cons_self]
      rfl
    · rw [if_neg h, cutF_cnt r _, List.count_cons_of_ne h]
      rfl
theorem cutF_one {m : UInt8} {l z : Tx} (h : cutF m [] l = [z]) : z = l := by
  by_cases h1 : Lib.indexByte l m < 0
  · rw [cutF_i0 h1, List.cons.injEq] at h
    exact h.1.symm
  · obtain ⟨j, _, _, _, _, h2⟩ := cutF_ij h1
    rw [h2, List.cons.injEq] at h
    have h9 := cutF_cnt (m := m) (l.drop (j + 1)) []
    rw [h.2] at h9
    simp at h9
theorem cnt_le (l : Tx) (m : UInt8) : Lib.countByte l m ≤ l.length := List.count_le_length
theorem cutF_ne {m : UInt8} {l cur : Tx} : 1 ≤ (cutF m cur l).length := by rw [cutF_cnt]; omega
theorem cutF_le {m : UInt8} : ∀ (l cur : Tx), ∀ p ∈ cutF m cur l, p.length ≤ cur.length + l.length
  | [], cur, p, hp => by
    rw [cutF, List.mem_singleton] at hp
    subst hp
    exact Nat.le_add_right _ _
  | c :: r, cur, p, hp => by
    unfold cutF at hp
    rw [List.length_cons]
    by_cases h : c = m
    · rw [if_pos h] at hp
      rcases List.mem_cons.1 hp with rfl | hp
      · omega
      · have := cutF_le r [] p hp
        rw [List.length_nil] at this
        omega
    · rw [if_neg h] at hp
      have := cutF_le r _ p hp
      rw [List.length_append, List.length_singleton] at this
      omega
/-! ### Pieces that are laid one behind the other -/
theorem pc_step {ps : List Tx} {i : Nat} {p : Tx} {t : List Tx} (h : ps.drop i = p :: t) : ps.take (i + 1) = ps.take i ++ [p] ∧ ps.drop (i + 1) = t ∧ i < ps.length := by
  have h1 : ps[i]? = some p := by
    have := List.getElem?_drop (xs := ps) (i := i) (j := 0)
    rw [h, Nat.add_zero] at this
    exact this.symm
  refine ⟨?_, ?_, (List.getElem?_eq_some_iff.1 h1).1⟩
  · rw [List.take_add_one, h1]
    rfl
  · rw [← List.drop_drop, h]
    rfl
def pcR (ps : List Tx) (i : Nat) : List (List Value) := (ps.take i).map cT ++ List.replicate (ps.length - i) (cT [])
theorem pcR_len {ps : List Tx} {i : Nat} (h : i ≤ ps.length) : (pcR ps i).length = ps.length := by
  unfold pcR
  rw [List.length_append, List.length_map, List.length_take, List.length_replicate]
  omega
theorem pcR_all {ps : List Tx} : pcR ps ps.length = ps.map cT := by
  unfold pcR
  rw [List.take_length, Nat.sub_self]
  exact List.append_nil _
theorem pcR_s {ps : List Tx} {i : Nat} {p : Tx} {t : List Tx} (h : ps.drop i = p :: t) : (pcR ps i).set i (cT p) = pcR ps (i + 1) := by
  obtain ⟨h1, _, h3⟩ := pc_step h
  unfold pcR
  have hl : ((ps.take i).map cT).length = i := by rw [List.length_map, List.length_take]; omega
  rw [List.set_append_right _ _ (by omega), hl, Nat.sub_self, h1, List.map_append, List.append_assoc, show ps.length - i = (ps.length - (i + 1)) + 1 by omega, List.replicate_succ]
  rfl
theorem ln_get {ls : List Tx} {i : Nat} {p : Tx} {t : List Tx} (h : ls.drop i = p :: t) : ls[i]? = some p ∧ ls.drop (i + 1) = t ∧ i < ls.length := by
  have h1 : ls[i]? = some p := by
    have := List.getElem?_drop (xs := ls) (i := i) (j := 0)
    rw [h, Nat.add_zero] at this
    exact this.symm
  exact ⟨h1, (pc_step h).2.1, (pc_step h).2.2⟩
/-! ### Lines -/
def lnsP : List Tx → List Tx
  | [] => []
  | [p] => if p = [] then [] else [p]
  | p :: q :: t => (p ++ [10]) :: lnsP (q :: t)
def lnsF (t : Tx) : List Tx := lnsP (cutF 10 [] t)
theorem lnsF_1 {r : Tx} (h0 : 0 < r.length) (h : Lib.indexByte r 10 < 0) : lnsF r = [r] := by
  unfold lnsF
  rw [cutF_i0 h]
  unfold lnsP
  rw [if_neg (fun hh => by rw [hh] at h0; cases h0)]
theorem takeC_at {l : Tx} {j : Nat} {c : UInt8} (h : l[j]? = some c) : l.take (j + 1) = l.take j ++ [c] := by rw [List.take_add_one, h]; rfl
theorem lnsF_2 {r : Tx} (h : ¬ Lib.indexByte r 10 < 0) : ∃ j : Nat, Lib.indexByte r 10 = j ∧ j < r.length ∧ (r.take (j + 1)).length = j + 1 ∧ lnsF r = r.take (j + 1) :: lnsF (r.drop (j + 1)) := by
  obtain ⟨j, h1, h2, h3, h4, h5⟩ := cutF_ij h
  refine ⟨j, h1, h2, by rw [List.length_take]; omega, ?_⟩
  unfold lnsF
  rw [h5, takeC_at h3]
  obtain ⟨q, t, hq⟩ : ∃ q t, cutF 10 [] (r.drop (j + 1)) = q :: t := by
    cases hc : cutF 10 [] (r.drop (j + 1)) with
    | nil => have := cutF_ne (m := 10) (l := r.drop (j + 1)) (cur := []); rw [hc] at this; cases this
    | cons q t => exact ⟨q, t, rfl⟩
  rw [hq]
  rfl
def lnE (l : Tx) : Bool := Lib.hasSuffix l [10]
def lnB (l : Tx) : Tx := Lib.trimSuffix l [10]
theorem lnE_app (p : Tx) : lnE (p ++ [10]) = true ∧ lnB (p ++ [10]) = p := by
  have h : lnE (p ++ [10]) = true := by
    unfold lnE Lib.hasSuffix
    rw [List.isSuffixOf_iff_suffix]
    exact List.suffix_append _ _
  refine ⟨h, ?_⟩
  have h2 : lnB (p ++ [10]) = (p ++ [10]).take ((p ++ [10]).length - [(10 : UInt8)].length) := if_pos h
  rw [h2]
  simp
theorem lnE_no {p : Tx} (h : ∀ c ∈ p, c ≠ 10) : lnE p = false := by
  cases h9 : lnE p with
  | false => rfl
  | true =>
    unfold lnE Lib.hasSuffix at h9
    rw [List.isSuffixOf_iff_suffix] at h9
    exact absurd rfl (h 10 (h9.subset (List.mem_singleton.2 rfl)))
theorem lnB_len (l : Tx) : (lnB l).length ≤ l.length := by
  unfold lnB Lib.trimSuffix
  split
  · rw [List.length_take]; omega
  · exact Nat.le_refl _
theorem cutF_all {m : UInt8} : ∀ (l cur : Tx), (∀ c ∈ cur, c ≠ m) → ∀ p ∈ cutF m cur l, ∀ c ∈ p, c ≠ m
  | [], cur, h, p, hp, c, hc => by
    rw [cutF, List.mem_singleton] at hp
    subst hp
    exact h c hc
  | a :: r, cur, h, p, hp, c, hc => by
    unfold cutF at hp
    by_cases h1 : a = m
    · rw [if_pos h1] at hp
      rcases List.mem_cons.1 hp with rfl | hp
      · exact h c hc
      · exact cutF_all r [] (fun _ hx => by cases hx) p hp c hc
    · rw [if_neg h1] at hp
      refine cutF_all r _ (fun x hx => ?_) p hp c hc
      rcases List.mem_append.1 hx with hx | hx
      · exact h x hx
      · rw [List.mem_singleton.1 hx]; exact h1
theorem modify_pushT {α : Type} (a : Array α) (x : α) (f : α → α) : (a.push x).modify a.size f = a.push (f x) := by
  apply Array.ext
  · simp
  · intro i h1 h2
    simp only [Array.getElem_modify, Array.getElem_push]
    by_cases h : a.size = i
    · subst h; simp
    · have hi : i < a.size := by simp at h1; omega
      simp [h, hi]
theorem below_byT (w : World) (e : TypeId) (s : ByteArray) : Below w.heap.size w (Lib.bytesWorld w e s) := by
  unfold Lib.bytesWorld World.freeze
  rw [if_neg (by decide)]
  refine ⟨rfl, rfl, rfl, ?_, fun k hk => ?_⟩
  · show w.heap.size ≤ ((w.heap.push _).modify w.heap.size _).size
    simp
  · show ((w.heap.push _).modify w.heap.size _)[k]? = _
    rw [modify_pushT, Array.getElem?_push_lt hk, Array.getElem?_eq_getElem hk]
theorem lnsP_len : ∀ ps : List Tx, (lnsP ps).length ≤ ps.length
  | [] => Nat.le_refl _
  | [p] => by
    unfold lnsP
    split
    · exact Nat.zero_le _
    · exact Nat.le_refl _
  | p :: q :: t => by
    have := lnsP_len (q :: t)
    rw [lnsP, List.length_cons, List.length_cons]
    omega
theorem lnsF_len (t : Tx) : (lnsF t).length ≤ t.length + 1 := by
  have h1 := lnsP_len (cutF 10 [] t)
  have h2 := cutF_cnt (m := 10) t []
  have h3 := cnt_le t 10
  unfold lnsF
  omega
theorem lnsP_le {n : Nat} : ∀ ps : List Tx, (∀ p ∈ ps, p.length ≤ n) → ∀ p ∈ lnsP ps, p.length ≤ n + 1
  | [], _, p, hp => by cases hp
  | [q], h, p, hp => by
    unfold lnsP at hp
    split at hp
    · cases hp
    · have := h p hp
      omega
  | a :: q :: t, h, p, hp => by
    rw [lnsP] at hp
    rcases List.mem_cons.1 hp with rfl | hp
    · have := h a List.mem_cons_self
      rw [List.length_append, List.length_singleton]
      omega
    · exact lnsP_le (q :: t) (fun x hx => h x (List.mem_cons_of_mem _ hx)) p hp
theorem lnsF_le {t p : Tx} {i : Nat} (h : (lnsF t)[i]? = some p) : p.length ≤ t.length + 1 := by
  refine lnsP_le _ (fun x hx => ?_) p (List.mem_of_getElem? h)
  have := cutF_le (m := 10) t [] x hx
  rw [List.length_nil] at this
  omega
/-! ### Numbers as the library reads them -/
def azB (l : Tx) : Bool := match Lib.atoiAll l with
  | .ok _ => false
  | _ => true
def azN (l : Tx) : Int := match Lib.atoiAll l with
  | .ok v => v
  | .syntax => 0
  | .range => Lib.atoiSat l
def AzP (t : TypeId) (l : Tx) (y : Value) (rs : List Res) : Prop := ∃ N, y = .tuple #[.int .i64 (azN l), errV t N (azB l)] ∧ rs = []
theorem AzP_sinks {t : TypeId} {l : Tx} : ∀ y rs, AzP t l y rs → ∀ r ∈ rs, Sinks r := by
  rintro y rs ⟨N, _, rfl⟩ r hr
  cases hr
section
variable {l : Tx} {d : Nat}
theorem az_1 (hd : d ≤ 17) (h : azB l = true) : numM l d = none := by
  rw [← rd_num hd]
  unfold azB at h
  unfold rdNum
  split
  · rename_i n hn; rw [hn] at h; cases h
  · rfl
theorem az_0 (h : azB l = false) : Lib.atoiAll l = .ok (azN l) := by
  unfold azB at h
  unfold azN
  generalize Lib.atoiAll l = q at h ⊢
  match q with
  | .ok v => rfl
  | .syntax => cases h
  | .range => cases h
theorem az_2 (hd : d ≤ 17) (h : azB l = false) (h2 : Lib.itoa (azN l) ≠ l) : numM l d = none := by
  rw [← rd_num hd]
  unfold rdNum
  rw [az_0 h]
  exact if_neg fun hh => h2 hh.1
theorem az_3 (hd : d ≤ 17) (h : azB l = false) (h2 : (Lib.trimPrefix l [45]).length > d) : numM l d = none := by
  rw [← rd_num hd]
  unfold rdNum
  rw [az_0 h]
  exact if_neg fun hh => by omega
theorem az_4 (hd : d ≤ 17) (h : azB l = false) (h2 : ¬ Lib.itoa (azN l) ≠ l) (h3 : ¬ (Lib.trimPrefix l [45]).length > d) : numM l d = some (azN l) := by
  rw [← rd_num hd]
  unfold rdNum
  rw [az_0 h]
  exact if_pos ⟨Decidable.not_not.1 h2, by omega⟩
theorem az_in (h : azB l = false) : -9223372036854775808 ≤ azN l ∧ azN l ≤ 9223372036854775807 := Lib.atoiAll_bounds (az_0 h)
end
end Go.Proofs.YtacndicgpkeobaaGreatDoor
