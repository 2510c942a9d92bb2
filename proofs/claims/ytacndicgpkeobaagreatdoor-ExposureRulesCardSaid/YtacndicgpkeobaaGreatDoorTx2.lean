/-
  Plain laws of numerals: a number that is read by the reference is one that is read, and written the same, by the library. Conditions: those in front of each theorem; no program in sight.
-/
import Derived.Test.YtacndicgpkeobaaGreatDoorTx1
namespace Go.Proofs.YtacndicgpkeobaaGreatDoor
open Go.RowKit
def dgs : Tx → Nat → Nat
  | [], n => n
  | c :: r, n => dgs r (10 * n + (c.toNat - 48))
def allD (l : Tx) : Prop := ∀ c ∈ l, 48 ≤ c.toNat ∧ c.toNat ≤ 57
theorem allD_cons {c : UInt8} {r : Tx} : allD (c :: r) ↔ (48 ≤ c.toNat ∧ c.toNat ≤ 57) ∧ allD r := by
  unfold allD
  simp only [List.mem_cons, forall_eq_or_imp]
theorem numF_dg : ∀ {l : Tx} {n : Nat}, allD l → numF l (n : Int) = some (dgs l n : Int)
  | [], n, _ => rfl
  | c :: r, n, h => by
    obtain ⟨h1, h2⟩ := allD_cons.1 h
    rw [numF, if_neg (by omega), show 10 * (n : Int) + ((c.toNat : Int) - 48) = ((10 * n + (c.toNat - 48) : Nat) : Int) by omega, numF_dg h2]
    rfl
theorem numF_all : ∀ {l : Tx} {n v : Int}, numF l n = some v → allD l
  | [], _, _, _ => fun c hc => by cases hc
  | c :: r, n, v, h => by
    rw [numF] at h
    by_cases h1 : c.toNat < 48 ∨ c.toNat > 57
    · rw [if_pos h1] at h; cases h
    · rw [if_neg h1] at h
      exact allD_cons.2 ⟨by omega, numF_all h⟩
theorem dgs_le : ∀ {l : Tx} {n : Nat}, n ≤ dgs l n
  | [], n => Nat.le_refl _
  | c :: r, n => by
    have := dgs_le (l := r) (n := 10 * n + (c.toNat - 48))
    rw [dgs]
    omega
theorem dgs_app : ∀ (l : Tx) (c : UInt8) (n : Nat), dgs (l ++ [c]) n = 10 * dgs l n + (c.toNat - 48)
  | [], _, _ => rfl
  | _ :: r, c, _ => dgs_app r c _
theorem dgs_lt : ∀ {l : Tx} {n : Nat}, allD l → dgs l n < (n + 1) * 10 ^ l.length
  | [], n, _ => by rw [dgs, List.length_nil]; omega
  | c :: r, n, h => by
    obtain ⟨h1, h2⟩ := allD_cons.1 h
    have h3 := dgs_lt (n := 10 * n + (c.toNat - 48)) h2
    rw [dgs, List.length_cons, Nat.pow_succ]
    have h4 : (10 * n + (c.toNat - 48) + 1) * 10 ^ r.length ≤ ((n + 1) * 10) * 10 ^ r.length := Nat.mul_le_mul_right _ (by omega)
    have h5 : (n + 1) * 10 * 10 ^ r.length = (n + 1) * (10 ^ r.length * 10) := by rw [Nat.mul_assoc, Nat.mul_comm 10]
    omega
theorem uint_dg : ∀ {l : Tx} {n : Nat}, allD l → dgs l n < 1000000000000000000 → Lib.parseUint10 n l = .ok (dgs l n)
  | [], n, _, _ => rfl
  | c :: r, n, h, hb => by
    obtain ⟨h1, h2⟩ := allD_cons.1 h
    have h3 := dgs_le (l := r) (n := 10 * n + (c.toNat - 48))
    rw [dgs] at hb ⊢
    rw [Lib.parseUint10, if_pos h1, if_neg (by omega), if_neg (by omega), Nat.mul_comm n 10]
    exact uint_dg h2 hb
theorem dig_u {c : UInt8} (h : 48 ≤ c.toNat ∧ c.toNat ≤ 57) : UInt8.ofNat (48 + (c.toNat - 48)) = c := by
  rw [show 48 + (c.toNat - 48) = c.toNat by omega]
  exact UInt8.ofNat_toNat
theorem dec_dgs : ∀ (n : Nat) {l : Tx}, l.length = n + 1 → allD l → (∀ c, l.head? = some c → c.toNat = 48 → n = 0) → Lib.decDigits (dgs l 0) = l ∧ (1 ≤ n → 10 ^ n ≤ dgs l 0)
  | 0, l, hl, h, _ => by
    match l, hl with
    | [c], _ =>
      have h1 := (allD_cons.1 h).1
      refine ⟨?_, fun h => by omega⟩
      have e : dgs [c] 0 = c.toNat - 48 := by show 10 * 0 + (c.toNat - 48) = _; omega
      rw [e, Lib.decDigits, dif_pos (by omega), dig_u h1]
  | n + 1, l, hl, h, hz => by
    obtain ⟨t, c, rfl⟩ : ∃ t c, l = t ++ [c] := ⟨l.dropLast, l.getLast (by intro h0; rw [h0] at hl; cases hl), (List.dropLast_concat_getLast _).symm⟩
    have ht : t.length = n + 1 := by simpa using hl
    have hc : 48 ≤ c.toNat ∧ c.toNat ≤ 57 := h c (by simp)
    have hd : allD t := fun x hx => h x (by simp [hx])
    have hhd : ∀ x, t.head? = some x → x.toNat ≠ 48 := by
      intro x hx hx0
      have := hz x (by
        cases t with
        | nil => cases hx
        | cons a b => exact hx) hx0
      omega
    obtain ⟨h1, h2⟩ := dec_dgs n ht hd (fun x hx hx0 => absurd hx0 (hhd x hx))
    have h3 : 10 ^ n ≤ dgs t 0 := by
      rcases Nat.eq_zero_or_pos n with h0 | h0
      · subst h0
        match t, ht with
        | [a], _ =>
          have h9 := hhd a rfl
          have h8 := (allD_cons.1 hd).1
          show 10 ^ 0 ≤ 10 * 0 + (a.toNat - 48)
          omega
      · exact h2 h0
    have h4 : 1 ≤ 10 ^ n := Nat.one_le_pow _ _ (by decide)
    rw [dgs_app]
    refine ⟨?_, fun _ => by rw [Nat.pow_succ]; omega⟩
    rw [Lib.decDigits, dif_neg (by omega), show (10 * dgs t 0 + (c.toNat - 48)) / 10 = dgs t 0 by omega, show (10 * dgs t 0 + (c.toNat - 48)) % 10 = c.toNat - 48 by omega, h1, dig_u hc]
theorem digs_all (n : Nat) : allD (Lib.decDigits n) ∧ dgs (Lib.decDigits n) 0 = n ∧ 1 ≤ (Lib.decDigits n).length ∧ (∀ c, (Lib.decDigits n).head? = some c → c.toNat = 48 → n = 0) := by
  induction n using Nat.strongRecOn with
  | _ n ih =>
    have hc : ∀ k, k < 10 → (UInt8.ofNat (48 + k)).toNat = 48 + k := fun k hk => by rw [UInt8.toNat_ofNat']; omega
    by_cases h : n < 10
    · rw [Lib.decDigits, dif_pos h]
      have := hc n h
      refine ⟨fun c hx => ?_, ?_, Nat.le_refl _, fun c hx h0 => ?_⟩
      · rw [List.mem_singleton.1 hx]; omega
      · show 10 * 0 + ((UInt8.ofNat (48 + n)).toNat - 48) = n
        omega
      · have : UInt8.ofNat (48 + n) = c := by simpa using hx
        subst this
        omega
    · rw [Lib.decDigits, dif_neg h]
      have := hc (n % 10) (by omega)
      obtain ⟨h1, h2, h3, h4⟩ := ih (n / 10) (by omega)
      refine ⟨fun c hx => ?_, ?_, by simp, fun c hx h0 => ?_⟩
      · rcases List.mem_append.1 hx with hx | hx
        · exact h1 c hx
        · rw [List.mem_singleton.1 hx]; omega
      · rw [dgs_app, h2]
        omega
      · have h5 : (Lib.decDigits (n / 10)).head? = some c := by
          cases hd : Lib.decDigits (n / 10) with
          | nil => rw [hd] at h3; simp at h3
          | cons a b => rw [hd] at hx; exact hx
        have := h4 c h5 h0
        omega
theorem digs_len {n d : Nat} (h : n < 10 ^ d) (hd : 1 ≤ d) : (Lib.decDigits n).length ≤ d := by
  rw [Lib.decDigits_length]
  rcases Nat.lt_or_ge d (Lib.nDigits n) with h1 | h1
  · obtain ⟨e, he⟩ : ∃ e, Lib.nDigits n = e + 1 := ⟨Lib.nDigits n - 1, by have := Lib.nDigits_pos n; omega⟩
    have h2 : 10 ^ e ≤ n := by
      have h9 := digs_all n
      have hl : (Lib.decDigits n).length = e + 1 := by rw [Lib.decDigits_length, he]
      obtain ⟨_, h8⟩ := dec_dgs e hl h9.1 (fun c hc h0 => by
        have h7 := h9.2.2.2 c hc h0
        subst h7
        rw [Lib.nDigits_small (by decide)] at he
        omega)
      have := h8 (by omega)
      rw [h9.2.1] at this
      exact this
    have h3 : 10 ^ d ≤ 10 ^ e := Nat.pow_le_pow_right (by decide) (by omega)
    omega
  · exact h1
theorem itoa_p {n : Nat} : Lib.itoa (n : Int) = Lib.decDigits n := itoa_n n
theorem itoa_m {n : Nat} (h : n ≠ 0) : Lib.itoa (-(n : Int)) = 45 :: Lib.decDigits n := by
  unfold Lib.itoa
  rw [if_pos (by omega), Int.natAbs_neg, Int.natAbs_natCast]
theorem head_not {l : Tx} (h : allD l) {c : UInt8} (hc : l.head? = some c) : c.toNat ≠ 45 ∧ c.toNat ≠ 43 := by
  have := h c (List.mem_of_mem_head? (by rw [hc]; rfl))
  omega
theorem numA_dg {l : Tx} (h : allD l) : numA l = 0 := by
  unfold numA
  cases hl : l.head? with
  | none => rfl
  | some c =>
    have := (head_not h hl).1
    rw [Option.map_some, if_neg (by rw [Option.some.injEq]; exact this)]
theorem num_itoa {l : Tx} {d : Nat} {n : Int} (h : numM l d = some n) : l = Lib.itoa n ∧ (Lib.trimPrefix l [45]).length ≤ d := by
  unfold numM at h
  by_cases h0 : l.length = numA l ∨ l.length - numA l > d ∨ ((l.drop (numA l)).head?.map (·.toNat) = some 48 ∧ l.length > 1)
  · rw [if_pos h0] at h; cases h
  rw [if_neg h0] at h
  obtain ⟨v, hv, hn⟩ := Option.map_eq_some_iff.1 h
  have hD := numF_all hv
  have hE := numF_dg (n := 0) hD
  rw [show ((0 : Nat) : Int) = 0 from rfl, hv] at hE
  have hve : v = (dgs (l.drop (numA l)) 0 : Int) := Option.some.inj hE
  have hle := numA_le (l := l)
  rcases (show numA l = 0 ∨ numA l = 1 by omega) with ha | ha
  · rw [ha] at h0 hn hD hve
    rw [List.drop_zero] at h0 hD hve
    rw [if_neg (by decide)] at hn
    have h1 : ¬ l.length = 0 := fun hh => h0 (.inl hh)
    obtain ⟨e, he⟩ : ∃ e, l.length = e + 1 := ⟨l.length - 1, by omega⟩
    have h2 := (dec_dgs e he hD (fun c hc hc0 => by
      rcases Nat.eq_zero_or_pos e with h9 | h9
      · exact h9
      · exact absurd (.inr (.inr ⟨by rw [hc]; exact congrArg some hc0, by omega⟩)) h0)).1
    refine ⟨by rw [← hn, hve, itoa_p, h2], ?_⟩
    unfold Lib.trimPrefix
    split
    · rw [List.length_drop]; omega
    · omega
  · match l, ha with
    | [], ha => cases ha
    | c :: r, ha =>
      have hc : c.toNat = 45 := by
        unfold numA at ha
        by_cases h9 : c.toNat = 45
        · exact h9
        · rw [List.head?_cons, Option.map_some, if_neg (by rw [Option.some.injEq]; exact h9)] at ha
          cases ha
      have hc' : c = 45 := UInt8.toNat_inj.1 hc
      subst hc'
      rw [ha] at h0 hn hD hve
      rw [List.drop_succ_cons, List.drop_zero] at h0 hD hve
      rw [if_pos rfl] at hn
      rw [List.length_cons] at h0
      have h1 : ¬ r.length = 0 := fun hh => h0 (.inl (by omega))
      obtain ⟨e, he⟩ : ∃ e, r.length = e + 1 := ⟨r.length - 1, by omega⟩
      have hnz : ∀ c, r.head? = some c → c.toNat ≠ 48 := fun c hc hc0 => h0 (.inr (.inr ⟨by rw [hc]; exact congrArg some hc0, by omega⟩))
      obtain ⟨h2, h3⟩ := dec_dgs e he hD (fun c hc hc0 => absurd hc0 (hnz c hc))
      have h4 : dgs r 0 ≠ 0 := by
        intro h9
        match r, he with
        | a :: q, _ =>
          have h8 := hnz a rfl
          have h7 := (allD_cons.1 hD).1
          have h6 := dgs_le (l := q) (n := 10 * 0 + (a.toNat - 48))
          rw [dgs] at h9
          omega
      refine ⟨by rw [← hn, hve, itoa_m h4, h2], ?_⟩
      show (Lib.trimPrefix (45 :: r) [45]).length ≤ d
      rw [show Lib.trimPrefix (45 :: r) [45] = r from rfl]
      have : ¬ r.length + 1 - 1 > d := fun hh => h0 (.inr (.inl hh))
      omega
theorem itoa_num {n : Int} {d : Nat} (hd : d ≤ 17) (h : (Lib.trimPrefix (Lib.itoa n) [45]).length ≤ d) : numM (Lib.itoa n) d = some n ∧ Lib.atoiAll (Lib.itoa n) = .ok n := by
  have hp : ∀ j, j < 18 → 10 ^ j < 1000000000000000000 := by decide
  have hb := hp d (by omega)
  rcases Int.lt_or_le n 0 with h0 | h0
  · obtain ⟨m, rfl⟩ : ∃ m : Nat, n = -(m : Int) := ⟨n.natAbs, by omega⟩
    have hm : m ≠ 0 := by omega
    rw [itoa_m hm] at h ⊢
    rw [show Lib.trimPrefix (45 :: Lib.decDigits m) [45] = Lib.decDigits m from rfl] at h
    obtain ⟨h1, h2, h3, h4⟩ := digs_all m
    have h5 := dgs_lt (n := 0) h1
    rw [h2, Nat.zero_add, Nat.one_mul] at h5
    have h6 : 10 ^ (Lib.decDigits m).length ≤ 10 ^ d := Nat.pow_le_pow_right (by decide) h
    have ha : numA (45 :: Lib.decDigits m) = 1 := rfl
    refine ⟨?_, ?_⟩
    · unfold numM
      rw [ha, List.drop_succ_cons, List.drop_zero, List.length_cons, if_neg, show (0 : Int) = ((0 : Nat) : Int) from rfl, numF_dg h1, h2, Option.map_some, if_pos rfl]
      rintro (h9 | h9 | h9)
      · omega
      · omega
      · cases hh : (Lib.decDigits m).head? with
        | none => rw [hh] at h9; exact absurd h9.1 (by simp)
        | some c =>
          rw [hh, Option.map_some, Option.some.injEq] at h9
          exact hm (h4 c hh h9.1)
    · rw [Lib.atoiAll_minus]
      unfold Lib.parseMag
      rw [if_neg (by intro h9; rw [h9] at h3; simp at h3), uint_dg h1 (by rw [h2]; omega), h2]
      unfold Lib.signed
      simp only
      split <;> first | rfl | omega
  · obtain ⟨m, rfl⟩ := Int.eq_ofNat_of_zero_le h0
    rw [itoa_p] at h ⊢
    obtain ⟨h1, h2, h3, h4⟩ := digs_all m
    have ht : Lib.trimPrefix (Lib.decDigits m) [45] = Lib.decDigits m := by
      unfold Lib.trimPrefix
      rw [if_neg]
      intro h9
      cases hh : Lib.decDigits m with
      | nil => rw [hh] at h3; simp at h3
      | cons c r =>
        rw [hh] at h9 h1
        have h8 := (head_not h1 (c := c) rfl).1
        have h7 : (45 : UInt8) = c := by
          unfold Lib.hasPrefix at h9
          simp [List.isPrefixOf] at h9
          exact h9
        exact h8 (by rw [← h7]; rfl)
    rw [ht] at h
    have h5 := dgs_lt (n := 0) h1
    rw [h2, Nat.zero_add, Nat.one_mul] at h5
    have h6 : 10 ^ (Lib.decDigits m).length ≤ 10 ^ d := Nat.pow_le_pow_right (by decide) h
    have ha := numA_dg h1
    refine ⟨?_, ?_⟩
    · unfold numM
      rw [ha, List.drop_zero, if_neg, show (0 : Int) = ((0 : Nat) : Int) from rfl, numF_dg h1, h2, Option.map_some, if_neg (by decide)]
      rintro (h9 | h9 | h9)
      · omega
      · omega
      · cases hh : (Lib.decDigits m).head? with
        | none => rw [hh] at h9; exact absurd h9.1 (by simp)
        | some c =>
          rw [hh, Option.map_some, Option.some.injEq] at h9
          have h8 := h4 c hh h9.1
          subst h8
          rw [dig_0] at h9
          simp at h9
    · cases hh : Lib.decDigits m with
      | nil => rw [hh] at h3; simp at h3
      | cons c r =>
        rw [hh] at h1 h2
        have h8 := head_not h1 (c := c) rfl
        rw [Lib.atoiAll_plain c r h8.2 h8.1]
        unfold Lib.parseMag
        rw [if_neg (by simp), uint_dg h1 (by rw [h2]; omega), h2]
        unfold Lib.signless
        simp only
        split <;> first | rfl | omega
def rdNum (l : Tx) (d : Nat) : Option Int := match Lib.atoiAll l with
  | .ok n => if Lib.itoa n = l ∧ (Lib.trimPrefix l [45]).length ≤ d then some n else none
  | _ => none
theorem rd_num {l : Tx} {d : Nat} (hd : d ≤ 17) : rdNum l d = numM l d := by
  cases h : numM l d with
  | some n =>
    obtain ⟨h1, h2⟩ := num_itoa h
    obtain ⟨_, h4⟩ := itoa_num (n := n) hd (by rw [← h1]; exact h2)
    unfold rdNum
    rw [← h1] at h4
    rw [h4]
    exact if_pos ⟨h1.symm, h2⟩
  | none =>
    cases h9 : rdNum l d with
    | none => rfl
    | some n =>
      unfold rdNum at h9
      split at h9
      · rename_i m hm
        by_cases h8 : Lib.itoa m = l ∧ (Lib.trimPrefix l [45]).length ≤ d
        · have h7 := (itoa_num (n := m) hd (by rw [h8.1]; exact h8.2)).1
          rw [h8.1, h] at h7
          cases h7
        · rw [if_neg h8] at h9; cases h9
      · cases h9
end Go.Proofs.YtacndicgpkeobaaGreatDoor
