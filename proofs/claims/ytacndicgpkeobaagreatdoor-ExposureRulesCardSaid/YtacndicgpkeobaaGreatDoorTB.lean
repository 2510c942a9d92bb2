/-
  Walks: each function named returns what its model says. Conditions: those in front of each theorem.
-/
import Derived.Test.YtacndicgpkeobaaGreatDoorTA
namespace Go.Proofs.YtacndicgpkeobaaGreatDoor
open Go.RowKit

set_option maxRecDepth 100000 in
theorem ct_strings_Lines (l : Tx) : Ct Tryz.prog 78 [.string (bs l)] [] (fun y rs => ∃ g, y = .func (.func 138) #[] #[.pointer (some ⟨g, 0, none⟩)] ∧ rs = [box g 9 [.string (bs l)]]) := by
 refine Ct.of (N := 4) Tryz.func78 rfl rfl rfl fun w => ?_
 refine C_weak (E' := [(0, .string (bs l))]) (rs' := []) ⟨rfl, trivial⟩ (fun _ h => h) ?_
 refine C_seq ?_
 refine C_region ?_
 refine L_box rfl rfl rfl fun g1 => ?_
 refine Jq (q_assign rfl) ?_
 refine L_then ?_
 refine C_seq ?_
 refine C_region ?_
 refine Jq (q_makeFunc rfl rfl) ?_
 refine Jq (q_assign rfl) ?_
 refine L_then ?_
 refine C_ret ?_
 exact ret_of (rs' := [box g1 9 [.string (bs l)]]) (res1 rfl rfl) (fun w_ h_ => h_.pk (by repeat (first | with_reducible exact pk_nil | refine pk_box rfl ?_ | refine pk_rd rfl ?_ | refine pk_sl rfl ?_ | with_reducible refine pk_app ?_ | with_reducible refine pk_app0 ?_ | with_reducible refine pk_app0L ?_ | with_reducible exact pk_tl | refine pk_var ?_))) (by intro r hr; rw [List.mem_singleton.1 hr]; exact box_own _ _ _) ⟨g1, rfl, rfl⟩
set_option maxRecDepth 100000 in
set_option maxHeartbeats 1000000 in
theorem it_lines (B : Nat) (w0 : World) (l D : Nat) (q : Loop) (St Sp : Nat → List Res → Prop) (go : Nat → Bool) (t : Tx) (g : Nat) (hl : t.length ≤ 1000000) (hp1 : 1 = q.params.size) (hR : ∀ τ p, (lnsF t)[τ]? = some p → (∀ i, i < τ → go i = true) → ∀ RC, St τ RC → Rnd3 Tryz.prog B w0 l q (go τ) [.string (bs p)] RC (fun RC9 => if go τ = true then St (τ + 1) RC9 else Sp τ RC9)) (RC0 : List Res) (h0 : St 0 RC0) : It Tryz.prog 138 [.func (.yield l) #[] #[], .pointer (some ⟨g, 0, none⟩)] B w0 ([box g 9 [.string (bs t)], df D, lp l q] ++ RC0) (fun w9 => ∃ b rc, FinL St Sp go (lnsF t).length b rc ∧ WS B w0 (lp l (rb q b) :: df D :: rc) w9) := by
  refine It.of (N := 25) Tryz.func138 rfl rfl rfl ?_
  refine C_weak (E' := [(0, .func (.yield l) #[] #[]), (1, .pointer (some ⟨g, 0, none⟩))]) (rs' := [box g 9 [.string (bs t)], df D, lp l q] ++ RC0) ⟨rfl, rfl, trivial⟩ (fun _ h => h) ?_
  refine C_block ?_
  refine C_loop (ι := Nat × Tx × List Res) (fun q9 => ([(0, .func (.yield l) #[] #[]), (1, .pointer (some ⟨g, 0, none⟩))], [box g 9 [.string (bs q9.2.1)], df D, lp l q] ++ q9.2.2)) (fun q9 => lnsF q9.2.1 = (lnsF t).drop q9.1 ∧ q9.2.1.length ≤ t.length ∧ (∀ i, i < q9.1 → go i = true) ∧ St q9.1 q9.2.2 ∧ q9.1 ≤ (lnsF t).length) (fun q9 => q9.2.1.length) (0, t, RC0) ⟨rfl, Nat.le_refl _, fun i h => absurd h (Nat.not_lt_zero _), h0, Nat.zero_le _⟩ (fun a w hs => hs.weak ⟨rfl, rfl, trivial⟩ (fun h => h.pk (by repeat (first | with_reducible exact pk_nil | refine pk_box rfl ?_ | refine pk_rd rfl ?_ | refine pk_sl rfl ?_ | with_reducible refine pk_app ?_ | with_reducible refine pk_app0 ?_ | with_reducible refine pk_app0L ?_ | with_reducible exact pk_tl | refine pk_var ?_)))) ?_
  rintro ⟨τ, s, RC⟩ ⟨hs1, hs2, hgo, hS, hτ9⟩
  dsimp only at hs1 hs2 hgo hS hτ9 ⊢
  refine C_seq ?_
  refine C_seq ?_
  refine C_region ?_
  refine Jq (by first | exact q_load tb rfl rfl bxo rfl | exact q_loadE tb rfl rfl (by first | exact gvo | exact gvd gvo (by omega)) (by omega) (by simp) rfl) ?_
  refine Jq (t_len Tryz.underlying9 rfl) ?_
  refine Jq (q_gtr rfl rfl) ?_
  refine L_then ?_
  refine C_dec rfl (fun h7 => ?_) (fun h7 => ?_)
  · -- t7 True
    refine C_skip_then ?_
    refine C_block ?_
    refine C_seq ?_
    refine C_region ?_
    refine Jq (q_assign rfl) ?_
    refine L_then ?_
    refine C_seq ?_
    refine C_seq ?_
    refine C_region ?_
    refine Jq (by first | exact q_load tb rfl rfl bxo rfl | exact q_loadE tb rfl rfl (by first | exact gvo | exact gvd gvo (by omega)) (by omega) (by simp) rfl) ?_
    refine L_call tb rfl rfl (ct_IndexBT s) no_ps rfl ?_
    refine Jq (q_assign rfl) ?_
    refine L_then ?_
    refine C_seq ?_
    refine C_region ?_
    refine Jq (q_move rfl) ?_
    refine Jq (q_geq rfl rfl) ?_
    refine L_then ?_
    refine C_dec rfl (fun h11 => ?_) (fun h11 => ?_)
    · -- t11 True
      obtain ⟨j, hj, hjl, hjt, hjn⟩ := lnsF_2 (r := s) (by omega)
      rw [hjn] at hs1
      obtain ⟨hget, hdr, hτ⟩ := ln_get hs1.symm
      rw [hj]
      refine C_draw (n := 9) [(0, false), (1, false), (2, false), (3, false), (4, false), (5, false), (6, false), (7, false), (8, false)] mixed (by kernel_rfl) ?_
      refine Yq rfl (by first | exact q_load tb rfl rfl bxo rfl | exact q_loadE tb rfl rfl (by first | exact gvo | exact gvd gvo (by omega)) (by omega) (by simp) rfl) ?_
      refine Yq rfl (q_move rfl) ?_
      refine Yq rfl (q_add (e := ((j + 1 : Nat) : Int)) rfl rfl (wrT (by simp) (by omega))) ?_
      refine Yq rfl (t_to (j := j + 1) Tryz.underlying9 rfl rfl (by omega) rfl) ?_
      refine Yq rfl (by first | exact q_load tb rfl rfl bxo rfl | exact q_loadE tb rfl rfl (by first | exact gvo | exact gvd gvo (by omega)) (by omega) (by simp) rfl) ?_
      refine Yq rfl (q_move rfl) ?_
      refine Yq rfl (q_add (e := ((j + 1 : Nat) : Int)) rfl rfl (wrT (by simp) (by omega))) ?_
      refine Yq rfl (t_from (j := j + 1) Tryz.underlying9 rfl rfl (by omega) rfl) ?_
      refine Yq rfl (q_assign rfl) ?_
      refine W_nil ?_
      refine L_st tb rfl rfl ?_
      refine L_then ?_
      refine C_seq ?_
      refine C_region ?_
      refine Jq (q_move rfl) ?_
      refine Jq (q_move rfl) ?_
      refine L_yield3 [_, _] rfl rfl hp1 (hR τ _ hget hgo RC hS) rfl (fun RC9 hS9 => ?_)
      refine Jq (q_not rfl (by first | exact (rfl : (!true) = false) | exact (rfl : (!false) = true) | exact decide_not.symm | rfl)) ?_
      refine L_then ?_
      refine C_bool rfl (fun hstop => ?_) (fun hstop => ?_)
      · -- t24 True
        have hb : go τ = false := by simpa using hstop
        have hS8 : Sp τ RC9 := by simpa [hb] using hS9
        rw [hb]
        refine C_ret ?_
        exact it_ret rfl (fun wf_ hw_ => ⟨false, RC9, .inr ⟨rfl, τ, hτ, hb, hgo, hS8⟩, hw_.pk (by repeat (first | with_reducible exact pk_nil | refine pk_box rfl ?_ | refine pk_rd rfl ?_ | refine pk_sl rfl ?_ | with_reducible refine pk_app ?_ | with_reducible refine pk_app0 ?_ | with_reducible refine pk_app0L ?_ | with_reducible exact pk_tl | refine pk_var ?_))⟩)
      · -- t24 False
        have hb : go τ = true := by simpa using hstop
        have hS8 : St (τ + 1) RC9 := by simpa [hb] using hS9
        rw [hb, rb_true]
        have hgo9 : ∀ i, i < τ + 1 → go i = true := fun i hi => (Nat.lt_succ_iff_lt_or_eq.1 hi).elim (hgo i) (fun h => by rw [h]; exact hb)
        refine C_skip ?_
        exact fun ac_ wo_ hs_ => ⟨(τ + 1, s.drop (j + 1), RC9), ⟨hdr.symm, by dsimp only; rw [List.length_drop]; omega, hgo9, hS8, by dsimp only; omega⟩, (by dsimp only; rw [List.length_drop]; omega), hs_.weak ⟨rfl, rfl, trivial⟩ (fun h_ => h_.pk (by repeat (first | with_reducible exact pk_nil | refine pk_box rfl ?_ | refine pk_rd rfl ?_ | refine pk_sl rfl ?_ | with_reducible refine pk_app ?_ | with_reducible refine pk_app0 ?_ | with_reducible refine pk_app0L ?_ | with_reducible exact pk_tl | refine pk_var ?_)))⟩
    · -- t11 False
      have hjn := lnsF_1 (r := s) (by omega) (by omega)
      rw [hjn] at hs1
      obtain ⟨hget, hdr, hτ⟩ := ln_get hs1.symm
      refine C_region ?_
      refine Jq (by first | exact q_load tb rfl rfl bxo rfl | exact q_loadE tb rfl rfl (by first | exact gvo | exact gvd gvo (by omega)) (by omega) (by simp) rfl) ?_
      refine Jq (q_assign rfl) ?_
      refine L_st tb rfl rfl ?_
      refine L_then ?_
      refine C_seq ?_
      refine C_region ?_
      refine Jq (q_move rfl) ?_
      refine Jq (q_move rfl) ?_
      refine L_yield3 [_, _] rfl rfl hp1 (hR τ _ hget hgo RC hS) rfl (fun RC9 hS9 => ?_)
      refine Jq (q_not rfl (by first | exact (rfl : (!true) = false) | exact (rfl : (!false) = true) | exact decide_not.symm | rfl)) ?_
      refine L_then ?_
      refine C_bool rfl (fun hstop => ?_) (fun hstop => ?_)
      · -- t24 True
        have hb : go τ = false := by simpa using hstop
        have hS8 : Sp τ RC9 := by simpa [hb] using hS9
        rw [hb]
        refine C_ret ?_
        exact it_ret rfl (fun wf_ hw_ => ⟨false, RC9, .inr ⟨rfl, τ, hτ, hb, hgo, hS8⟩, hw_.pk (by repeat (first | with_reducible exact pk_nil | refine pk_box rfl ?_ | refine pk_rd rfl ?_ | refine pk_sl rfl ?_ | with_reducible refine pk_app ?_ | with_reducible refine pk_app0 ?_ | with_reducible refine pk_app0L ?_ | with_reducible exact pk_tl | refine pk_var ?_))⟩)
      · -- t24 False
        have hb : go τ = true := by simpa using hstop
        have hS8 : St (τ + 1) RC9 := by simpa [hb] using hS9
        rw [hb, rb_true]
        have hgo9 : ∀ i, i < τ + 1 → go i = true := fun i hi => (Nat.lt_succ_iff_lt_or_eq.1 hi).elim (hgo i) (fun h => by rw [h]; exact hb)
        refine C_skip ?_
        exact fun ac_ wo_ hs_ => ⟨(τ + 1, [], RC9), ⟨(show lnsF [] = _ from hdr.symm), by dsimp only; exact Nat.zero_le _, hgo9, hS8, by dsimp only; omega⟩, (by dsimp only; exact (by omega : 0 < s.length)), hs_.weak ⟨rfl, rfl, trivial⟩ (fun h_ => h_.pk (by repeat (first | with_reducible exact pk_nil | refine pk_box rfl ?_ | refine pk_rd rfl ?_ | refine pk_sl rfl ?_ | with_reducible refine pk_app ?_ | with_reducible refine pk_app0 ?_ | with_reducible refine pk_app0L ?_ | with_reducible exact pk_tl | refine pk_var ?_)))⟩
  · -- t7 False
    refine C_exit ?_
    have hs0 : s = [] := List.eq_nil_of_length_eq_zero (by omega)
    rw [hs0] at hs1
    have h9 := congrArg List.length hs1
    rw [List.length_drop] at h9
    have e9 : τ = (lnsF t).length := by have h8 : (lnsF []).length = 0 := rfl; omega
    subst e9
    exact it_end rfl (fun wf_ hw_ => ⟨true, RC, .inl ⟨rfl, hgo, hS⟩, (show WS B w0 (lp l q :: df D :: RC) wf_ from hw_.pk (by repeat (first | with_reducible exact pk_nil | refine pk_box rfl ?_ | refine pk_rd rfl ?_ | refine pk_sl rfl ?_ | with_reducible refine pk_app ?_ | with_reducible refine pk_app0 ?_ | with_reducible refine pk_app0L ?_ | with_reducible exact pk_tl | refine pk_var ?_)))⟩)
theorem it_linesR (B : Nat) (w0 : World) (l D : Nat) (q : Loop) (St Sp : Nat → List Res → Prop) (go : Nat → Bool) (t : Tx) (g : Nat) (hl : t.length ≤ 1000000) (hp1 : 1 = q.params.size) (hR : ∀ τ p, (lnsF t)[τ]? = some p → (∀ i, i < τ → go i = true) → ∀ RC, St τ RC → Rnd3 Tryz.prog B w0 l q (go τ) [.string (bs p)] RC (fun RC9 => if go τ = true then St (τ + 1) RC9 else Sp τ RC9)) (RC0 : List Res) (h0 : St 0 RC0) (rs : List Res) (hs : ∀ w, WS B w0 (lp l q :: df D :: rs) w → WS B w0 ([box g 9 [.string (bs t)], df D, lp l q] ++ RC0) w) :
    It Tryz.prog 138 [.func (.yield l) #[] #[], .pointer (some ⟨g, 0, none⟩)] B w0 (lp l q :: df D :: rs) (fun w9 => ∃ b rc, FinL St Sp go (lnsF t).length b rc ∧ WS B w0 (lp l (rb q b) :: df D :: rc) w9) :=
  (it_lines B w0 l D q St Sp go t g hl hp1 hR RC0 h0).mono hs (fun _ h => h)

end Go.Proofs.YtacndicgpkeobaaGreatDoor
