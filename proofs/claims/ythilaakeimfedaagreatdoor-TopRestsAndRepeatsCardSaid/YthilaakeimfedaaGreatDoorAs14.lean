/-
  Plain laws for TopStaysAccepted: a schedule that is accepted, with one more leg at the depth of one of its own behind this one. Conditions: those in front of each theorem; no program in sight.
-/
import Derived.Test.YthilaakeimfedaaGreatDoorShBld
import Derived.Test.YthilaakeimfedaaGreatDoorAQ
import Derived.Test.YthilaakeimfedaaGreatDoorAD
import Derived.Test.YthilaakeimfedaaGreatDoorTraj5
import Derived.Test.YthilaakeimfedaaGreatDoorShRange
import Derived.Test.YthilaakeimfedaaGreatDoorShStop
namespace Go.Proofs.YthilaakeimfedaaGreatDoor
open Go.RowKit
theorem ex_ck1 : ckAsc (exA (ldA 2400000 2400000) 1000) = 0 := by decide
abbrev exL : List Dl := [⟨60, 500, 0⟩, ⟨600, 500, 0⟩, ⟨60, 0, 0⟩]
abbrev exF : List Int := [0, 0, 0]
theorem sc_ex : ckSch exL exF = 0 := sch_0 (by decide) (by decide) (by unfold all2 all2 all2 all2 okAn; decide)
abbrev exT : Tx := [108, 101, 103, 32, 54, 48, 32, 53, 48, 48, 32, 48, 32, 48, 10, 108, 101, 103, 32, 54, 48, 48, 32, 53, 48, 48, 32, 48, 32, 48, 10, 108, 101, 103, 32, 54, 48, 32, 48, 32, 48, 32, 48, 10]
theorem it_0 : Lib.itoa 0 = [48] := by kernel_rfl
theorem it_60 : Lib.itoa 60 = [54, 48] := by kernel_rfl
theorem it_600 : Lib.itoa 600 = [54, 48, 48] := by kernel_rfl
theorem it_500 : Lib.itoa 500 = [53, 48, 48] := by kernel_rfl
theorem ln_1 : lnT ⟨60, 500, 0⟩ 0 = [108, 101, 103, 32, 54, 48, 32, 53, 48, 48, 32, 48, 32, 48, 10] := by
  show ([108, 101, 103] ++ ([32] ++ Lib.itoa 60) ++ ([32] ++ Lib.itoa 500) ++ ([32] ++ Lib.itoa 0) ++ ([32] ++ Lib.itoa 0)) ++ [10] = _
  rw [it_0, it_60, it_500]
  rfl
theorem ln_2 : lnT ⟨600, 500, 0⟩ 0 = [108, 101, 103, 32, 54, 48, 48, 32, 53, 48, 48, 32, 48, 32, 48, 10] := by
  show ([108, 101, 103] ++ ([32] ++ Lib.itoa 600) ++ ([32] ++ Lib.itoa 500) ++ ([32] ++ Lib.itoa 0) ++ ([32] ++ Lib.itoa 0)) ++ [10] = _
  rw [it_0, it_600, it_500]
  rfl
theorem ln_3 : lnT ⟨60, 0, 0⟩ 0 = [108, 101, 103, 32, 54, 48, 32, 48, 32, 48, 32, 48, 10] := by
  show ([108, 101, 103] ++ ([32] ++ Lib.itoa 60) ++ ([32] ++ Lib.itoa 0) ++ ([32] ++ Lib.itoa 0) ++ ([32] ++ Lib.itoa 0)) ++ [10] = _
  rw [it_0, it_60]
  rfl
theorem pr_ex : prE exL exF = exT := by
  rw [prE_2 sc_ex]
  show ([] ++ lnT ⟨60, 500, 0⟩ 0) ++ lnT ⟨600, 500, 0⟩ 0 ++ lnT ⟨60, 0, 0⟩ 0 = _
  rw [ln_1, ln_2, ln_3]
  rfl
end Go.Proofs.YthilaakeimfedaaGreatDoor
namespace Go.Proofs.YthilaakeimfedaaGreatDoor
set_option maxRecDepth 100000
set_option maxHeartbeats 4000000
open Go.RowKit

end Go.Proofs.YthilaakeimfedaaGreatDoor
namespace Go.Proofs.YthilaakeimfedaaGreatDoor
open Go.RowKit
section
variable {r : Rl} {a b : Int}
end
end Go.Proofs.YthilaakeimfedaaGreatDoor
namespace Go.Proofs.YthilaakeimfedaaGreatDoor

/-! ### Loads out of numbers -/
end Go.Proofs.YthilaakeimfedaaGreatDoor
namespace Go.Proofs.YthilaakeimfedaaGreatDoor
/-! ### Stops of a schedule that is found -/
/-! ### How many seconds stops have -/
/-! ### A surely kept leg, at every instant -/
/-! ### The direct ascent as a schedule -/
end Go.Proofs.YthilaakeimfedaaGreatDoor
namespace Go.Proofs.YthilaakeimfedaaGreatDoor
open Go.RowKit

set_option maxRecDepth 100000 in
set_option maxHeartbeats 2000000 in
theorem ct_shotlinetop_risen  : CtQ KQ Tryz.prog 80 [] [] (isV (.bool true)) := by
 refine CtQ.of (N := 25) Tryz.func80 rfl rfl rfl fun w hQ => ?_
 refine C_weak (E' := []) (rs' := []) trivial (fun _ h => h) ?_
 refine C_seq ?_
 refine C_region ?_
 refine Jq (q_assign rfl) ?_
 refine L_then ?_
 refine C_seq ?_
 refine C_region ?_
 refine L_lo rfl rfl rfl (lo_call tb rfl rfl (ct_shotlinelaw04_At1000 2400000) no_ps isTo_sinks) ?_
 rintro _ _ ⟨A6, n6, c6, B6, m6, d6, C6, k6, e6, rfl, rfl⟩
 refine L_lo rfl rfl rfl (lo_call tb rfl rfl (ct_ascent_Generate _ _ _ (exA (ldA 2400000 2400000) 1000) (by decide) (by decide) (by decide)) (ps_cons gvo (ps_cons gvo (ps_cons gvo no_ps))) isSc_sinks) ?_
 rintro _ _ ⟨A7, n7, c7, B7, m7, d7, rfl, rfl⟩
 rw [gnE_2 ex_ck1, gen_ex]
 dsimp only
 refine Jq (q_move rfl) ?_
 refine Jq (q_ext0 rfl) ?_
 refine Jq (q_ext1 rfl) ?_
 refine L_alloc tb rfl rfl fun g1 => ?_
 refine L_st tb rfl rfl ?_
 refine Jq (q_assign rfl) ?_
 refine L_then ?_
 refine C_seq ?_
 refine C_region ?_
 refine Jq (q_loadA tb rfl rfl bxo rfl rfl) ?_
 refine L_lo rfl rfl rfl (lo_callQ tb stQ hQ rfl rfl (ct_ascent_Print _ _ exL exF (by decide) (by decide)) (ps_cons gvo (ps_cons gvo no_ps)) isV_sinks) ?_
 rintro _ _ ⟨rfl, rfl⟩
 rw [pr_ex, sc_ex]
 refine Jq (q_move rfl) ?_
 refine Jq (q_ext0 rfl) ?_
 refine Jq (q_ext1 rfl) ?_
 refine Jq (q_assign rfl) ?_
 refine Jq (q_assign rfl) ?_
 refine L_then ?_
 refine C_seq ?_
 refine C_region ?_
 refine Jq (q_move rfl) ?_
 refine Jq (q_true (q_eql rfl rfl) rfl) ?_
 refine Jq (q_move rfl) ?_
 refine Jg (q_move rfl) ?_
 refine Jg (q_true (q_eql rfl rfl) rfl) ?_
 refine Jq (q_pickT rfl rfl) ?_
 refine Jq (q_move rfl) ?_
 refine Jg (q_move rfl) ?_
 refine Jg (q_true (t_eq (a := exT) (b := exT) rfl rfl) (decide_eq_true rfl)) ?_
 refine Jq (q_pickT rfl rfl) ?_
 refine Jq (q_assign rfl) ?_
 refine L_then ?_
 refine C_ret ?_
 exact ret_of (res1 rfl rfl) sub_nil (by intro r hr; cases hr) ⟨rfl, rfl⟩
end Go.Proofs.YthilaakeimfedaaGreatDoor
namespace Go.Proofs.YthilaakeimfedaaGreatDoor
open Go.RowKit
section
variable {rs t s : List Res}
instance (priority := low) gvC {v : Value} {size : Nat} {l : List (List Value)} [h : Gv t v size l] : Gv (s ++ t) v size l := ⟨by
  obtain ⟨r, hr, hg⟩ := h.out
  exact ⟨r, List.mem_append_right _ hr, hg⟩⟩
instance (priority := low) bxC {g : Nat} {u : TypeId} {xs : List Value} [h : Bx t g u xs] : Bx (s ++ t) g u xs := ⟨List.mem_append_right _ h.out⟩
end
section
variable {x : Asc} {L : List Dl} {F : List Int}
theorem gen_bad : ∀ (n : Nat) (x : Asc) (s : Int) (L : List Dl) (F : List Int), (genN n x s L F).2 ≠ 0 → (genN n x s L F).1 = ([], [])
  | n, x, s, L, F, h => by
    by_cases hd : x.de = 0
    · rw [gen_0 hd] at h
      exact absurd rfl h
    match n, h with
    | 0, _ => rw [gen_8 hd]
    | n + 1, h =>
      by_cases hg : gasA x x.de < 0
      · rw [gen_14 hd (by omega) hg]
      by_cases h1 : (dcA x (gUp x)).1 = 2
      · rw [gen_up hd (by omega) hg h1, Nat.add_sub_cancel] at h ⊢
        exact gen_bad n _ _ _ _ h
      by_cases hs : s = 60
      · rw [gen_12 hd (by omega) hg h1 hs]
      by_cases h2 : (dcA x (gSy x)).1 = 2
      · rw [gen_sy hd (by omega) hg h1 hs h2, Nat.add_sub_cancel] at h ⊢
        exact gen_bad n _ _ _ _ h
      · rw [gen_26 hd (by omega) hg h1 hs h2]
theorem gen_flw (H : okAsc x) (h : (genA x).2 = 0) : flwF x (genA x).1.1 = 0 ∧ wsE x (genA x).1.1 (genA x).1.2 = 0 ∧ csE x (genA x).1.1 (genA x).1.2 = (smS (genA x).1.1 (genA x).1.1.length, 0) := by
  obtain ⟨hS, hc⟩ := gen_chk H h
  refine ⟨?_, by rw [wsE_2 H.ck]; exact hS.ck, by rw [csE_2 H.ck]; exact hc⟩
  rw [chkA_2 hS.ck] at hc
  exact chk_flw hS.l (by rw [hc])
theorem gn_ok (h : (gnE x).2 = 0) : ckAsc x = 0 ∧ (genA x).2 = 0 := by
  by_cases h1 : ckAsc x ≠ 0
  · rw [gnE_1 h1] at h
    exact absurd h h1
  · have h2 := Decidable.not_not.1 h1
    rw [gnE_2 h2] at h
    exact ⟨h2, h⟩
theorem gn_bad (h : (gnE x).2 ≠ 0) : (gnE x).1 = ([], []) := by
  by_cases h1 : ckAsc x ≠ 0
  · rw [gnE_1 h1]
  · have h2 := Decidable.not_not.1 h1
    rw [gnE_2 h2] at h ⊢
    exact gen_bad 400 x 0 [] [] h
theorem cs_ok (h : (csE x L F).2 = 0) : okAsc x ∧ okSch L F ∧ flwF x L = 0 ∧ ∀ i y f, L[i]? = some y → F[i]? = some f → f ≤ x.r.fi ∧ keptT (behA x L i).ts (behA x L i).ls (lgA (behA x L i) y) (faA (behA x L i)) f.toNat = 2 := by
  by_cases h1 : ckAsc x ≠ 0
  · rw [csE_1 h1] at h
    exact absurd h h1
  · have h2 := Decidable.not_not.1 h1
    rw [csE_2 h2] at h
    by_cases h3 : ckSch L F ≠ 0
    · rw [chkA_1 h3] at h
      exact absurd h h3
    · have h4 := Decidable.not_not.1 h3
      rw [chkA_2 h4] at h
      have hS := ckSch_ok h4
      exact ⟨ckAsc_ok h2, hS, chk_flw hS.l h, fun i y f hy hf => chk_at hS.l h i y f hy hf⟩
end
end Go.Proofs.YthilaakeimfedaaGreatDoor
namespace Go.Proofs.YthilaakeimfedaaGreatDoor
open Go.RowKit
/-! ### Legs of plans -/
def dpK (d : Int) (ls : List Dl) (k : Nat) : Int := if k = 0 then d else (dlA ls (k - 1)).d
theorem dpK_s {d : Int} {ls : List Dl} {k : Nat} {y : Dl} (h : ls[k]? = some y) : y.d = dpK d ls (k + 1) := by
  unfold dpK
  rw [if_neg (Nat.succ_ne_zero k), Nat.add_sub_cancel, dlA_get h]
section
variable {x : Asc} {sf : Int} {gs : List Gs} {ls : List Dl} {s : Int}
def rsE (x : Asc) (s : Int) : Int := if ckAsc x ≠ 0 then ckAsc x else resE x s
def rsA (x : Asc) (s : Int) : Asc := if ckAsc x ≠ 0 then zAsc else resA x s
theorem rs_1 (h : ckAsc x ≠ 0) : rsE x s = ckAsc x ∧ rsA x s = zAsc := ⟨if_pos h, if_pos h⟩
theorem rs_2 (h : ckAsc x = 0) : rsE x s = resE x s ∧ rsA x s = resA x s := ⟨if_neg (fun hh => hh h), if_neg (fun hh => hh h)⟩
theorem res_1 (h : x.de ≠ 0) : resE x s = 24 ∧ resA x s = zAsc := by
  have e : resE x s = 24 := if_pos h
  exact ⟨e, if_pos (by rw [e]; decide)⟩
theorem res_2 (h : ¬ x.de ≠ 0) (h2 : ¬ (0 ≤ s ∧ s ≤ 1000000)) : resE x s = 2 ∧ resA x s = zAsc := by
  have e : resE x s = 2 := by unfold resE; rw [if_neg h, if_neg h2]
  exact ⟨e, if_pos (by rw [e]; decide)⟩
theorem res_3 (h : ¬ x.de ≠ 0) (h2 : 0 ≤ s ∧ s ≤ 1000000) : resE x s = 0 ∧ resA x s = withL x (restM x.ts x.ls x.su s) x.de := by
  have e : resE x s = 0 := by unfold resE; rw [if_neg h, if_pos h2]
  exact ⟨e, if_neg (fun hh => hh e)⟩
theorem rst_bad (H : okAsc x) (h : (restE x.ts x.ls x.su s).2 ≠ 0) : ¬ (0 ≤ s ∧ s ≤ 1000000) ∧ (restE x.ts x.ls x.su s).2 = 2 := by
  have h1 := H.su
  by_cases h2 : 0 ≤ s ∧ s ≤ 1000000
  · rw [restE_3 (fun hh => hh (ckLoads_mk H.k)) ⟨h1.1, h1.2, h2⟩] at h
    exact absurd rfl h
  · exact ⟨h2, by rw [restE_2 (fun hh => hh (ckLoads_mk H.k)) (by omega)]⟩
theorem rst_ok (H : okAsc x) (h : ¬ (restE x.ts x.ls x.su s).2 ≠ 0) : (0 ≤ s ∧ s ≤ 1000000) ∧ restE x.ts x.ls x.su s = (restM x.ts x.ls x.su s, 0) := by
  have h1 := H.su
  by_cases h2 : 0 ≤ s ∧ s ≤ 1000000
  · exact ⟨h2, restE_3 (fun hh => hh (ckLoads_mk H.k)) ⟨h1.1, h1.2, h2⟩⟩
  · rw [restE_2 (fun hh => hh (ckLoads_mk H.k)) (by omega)] at h
    exact absurd (by decide) h
end
end Go.Proofs.YthilaakeimfedaaGreatDoor
namespace Go.Proofs.YthilaakeimfedaaGreatDoor
def fnL (F : List Int) (k : Nat) : Int := (F[k]?).getD 0
theorem fnL_get {F : List Int} {k : Nat} {f : Int} (h : F[k]? = some f) : fnL F k = f := by unfold fnL; rw [h]; rfl
def insA {α : Type} (e : Nat → α) (y : α) (i : Nat) : Nat → List α
  | 0 => []
  | k + 1 => if k = i then insA e y i k ++ [e k] ++ [y] else insA e y i k ++ [e k]
section
variable {α : Type} {e : Nat → α} {y : α} {i k : Nat}
theorem ins_yes (h : k = i) : insA e y i (k + 1) = insA e y i k ++ [e k] ++ [y] := if_pos h
theorem ins_no (h : ¬ k = i) : insA e y i (k + 1) = insA e y i k ++ [e k] := if_neg h
theorem ins_len : ∀ k, (insA e y i k).length = if i < k then k + 1 else k
  | 0 => by rw [if_neg (by omega)]; rfl
  | k + 1 => by
    have h := ins_len k
    by_cases hk : k = i
    · rw [ins_yes hk, List.length_append, List.length_append, List.length_singleton, List.length_singleton, h, if_neg (by omega), if_pos (by omega)]
    · rw [ins_no hk, List.length_append, List.length_singleton, h]
      by_cases h2 : i < k
      · rw [if_pos h2, if_pos (by omega)]
      · rw [if_neg h2, if_neg (by omega)]
theorem ins_mem {P : α → Prop} (hy : P y) : ∀ k, (∀ j, j < k → P (e j)) → ∀ z ∈ insA e y i k, P z
  | 0, _, z, hz => by cases hz
  | k + 1, h, z, hz => by
    have ih := ins_mem hy k (fun j hj => h j (by omega)) z
    by_cases hk : k = i
    · rw [ins_yes hk] at hz
      rcases List.mem_append.1 hz with hz | hz
      · rcases List.mem_append.1 hz with hz | hz
        · exact ih hz
        · rw [List.mem_singleton.1 hz]; exact h k (by omega)
      · rw [List.mem_singleton.1 hz]; exact hy
    · rw [ins_no hk] at hz
      rcases List.mem_append.1 hz with hz | hz
      · exact ih hz
      · rw [List.mem_singleton.1 hz]; exact h k (by omega)
end
theorem all2_snoc {α β : Type} {R : α → β → Prop} {x : α} {y : β} (hr : R x y) : ∀ {a : List α} {b : List β}, a.length = b.length → all2 R a b → all2 R (a ++ [x]) (b ++ [y])
  | [], [], _, _ => ⟨hr, trivial⟩
  | [], _ :: _, h, _ => by simp at h
  | _ :: _, [], h, _ => by simp at h
  | u :: a, v :: b, h, h2 => ⟨h2.1, all2_snoc hr (by simpa using h) h2.2⟩
section
variable {L : List Dl} {F : List Int} {y : Dl} {f : Int} {i : Nat}
theorem ins_an (hS : okSch L F) (hy : okAn y f) : ∀ k, k ≤ L.length → all2 okAn (insA (dlA L) y i k) (insA (fnL F) f i k)
  | 0, _ => trivial
  | k + 1, hk => by
    have ih := ins_an hS hy k (by omega)
    have hl : (insA (dlA L) y i k).length = (insA (fnL F) f i k).length := by rw [ins_len, ins_len]
    obtain ⟨z, g, h1, h2, h3⟩ := sch_at hS (k := k) (by omega)
    have h4 := all2_snoc h3 hl ih
    by_cases hk2 : k = i
    · rw [ins_yes hk2, ins_yes hk2, dlA_get h1, fnL_get h2]
      exact all2_snoc hy (by rw [List.length_append, List.length_append, hl]; rfl) h4
    · rw [ins_no hk2, ins_no hk2, dlA_get h1, fnL_get h2]
      exact h4
theorem smS_app (A B : List Dl) : ∀ k, k ≤ A.length → smS (A ++ B) k = smS A k
  | 0, _ => rfl
  | k + 1, hk => by
    show smS (A ++ B) k + (dlA (A ++ B) k).s = smS A k + (dlA A k).s
    rw [smS_app A B k (by omega)]
    unfold dlA
    rw [List.getElem?_append_left (by omega)]
theorem smS_snoc (A : List Dl) (y : Dl) : smS (A ++ [y]) (A ++ [y]).length = smS A A.length + y.s := by
  have h : (A ++ [y])[A.length]? = some y := by simp
  rw [List.length_append, List.length_singleton, ← smS_s h, smS_app A [y] A.length (Nat.le_refl _)]
theorem dpK_snoc (d : Int) (A : List Dl) (y : Dl) : dpK d (A ++ [y]) (A ++ [y]).length = y.d := by
  have h : (A ++ [y])[A.length]? = some y := by simp
  rw [List.length_append, List.length_singleton, ← dpK_s h]
theorem ins_sum : ∀ k, smS (insA (dlA L) y i k) (insA (dlA L) y i k).length = smS L k + if i < k then y.s else 0
  | 0 => by rw [if_neg (by omega)]; rfl
  | k + 1 => by
    have ih := ins_sum k
    have e : smS L (k + 1) = smS L k + (dlA L k).s := rfl
    by_cases hk : k = i
    · rw [ins_yes hk, smS_snoc, smS_snoc, ih, if_neg (by omega), if_pos (by omega), e]; omega
    · rw [ins_no hk, smS_snoc, ih, e]
      by_cases h2 : i < k
      · rw [if_pos h2, if_pos (by omega)]; omega
      · rw [if_neg h2, if_neg (by omega)]; omega
theorem ins_dep {d : Int} (hy : y.d = (dlA L i).d) : ∀ k, dpK d (insA (dlA L) y i k) (insA (dlA L) y i k).length = dpK d L k
  | 0 => rfl
  | k + 1 => by
    have e : dpK d L (k + 1) = (dlA L k).d := rfl
    by_cases hk : k = i
    · rw [ins_yes hk, dpK_snoc, hy, e, hk]
    · rw [ins_no hk, dpK_snoc, e]
theorem chk_end {t : Int} : ∀ {L : List Dl} {F : List Int} {x : Asc} {j : Int}, F.length = L.length → (chkF t x L F j).2 = 0 → dpK x.de L L.length = 0
  | [], _, x, j, _, h => by
    rw [chkF] at h
    by_cases hd : x.de ≠ 0
    · rw [if_pos hd] at h; exact absurd h (by decide)
    · exact Decidable.not_not.1 hd
  | z :: l, [], x, j, hl, h => by simp at hl
  | z :: l, f :: F, x, j, hl, h => by
    rw [chkF] at h
    by_cases h1 : ckAl x z ≠ 0
    · rw [if_pos h1] at h; exact absurd h h1
    rw [if_neg h1] at h
    by_cases h2 : f > x.r.fi
    · rw [if_pos h2] at h; exact absurd h (by show ¬ ((2 : Int) = 0); decide)
    rw [if_neg h2] at h
    by_cases h3 : keptT x.ts x.ls (lgA x z) (faA x) f.toNat ≠ 2
    · rw [if_pos h3] at h; exact absurd h (by show ¬ ((22 : Int) = 0); decide)
    rw [if_neg h3] at h
    have ih := chk_end (by simpa using hl) h
    cases l with
    | nil => exact ih
    | cons w l => exact ih
end
structure InsOk (x : Asc) (L M : List Dl) (G : List Int) (s : Int) : Prop where
  n : M.length = L.length + 1
  S : okSch M G
  f : ∀ g ∈ G, g ≤ x.r.fi
  d : dpK x.de M M.length = 0
  s : smS M M.length = smS L L.length + s
  cs : csE x M G = chkF (smS M M.length) x M G 0
theorem ins_ok {x : Asc} (H : okAsc x) (h : (genA x).2 = 0) {L : List Dl} {F : List Int} (hL : L = (genA x).1.1) (hF : F = (genA x).1.2) {i : Nat} {z : Dl} {s : Int} (hn : L.length ≤ 25) (hz : L[i]? = some z) (hs : 1 ≤ s ∧ s ≤ 100000) :
    InsOk x L (insA (dlA L) ⟨s, z.d, z.g⟩ i L.length) (insA (fnL F) x.r.fi i L.length) s := by
  subst hL hF
  have hg := (gen_chk H h).1
  have hfl := gen_flw H h
  have hi : i < (genA x).1.1.length := by
    rcases Nat.lt_or_ge i (genA x).1.1.length with h1 | h1
    · exact h1
    · rw [List.getElem?_eq_none h1] at hz; cases hz
  have hlen : (insA (dlA (genA x).1.1) ⟨s, z.d, z.g⟩ i (genA x).1.1.length).length = (genA x).1.1.length + 1 := by rw [ins_len, if_pos hi]
  have hlg : (insA (fnL (genA x).1.2) x.r.fi i (genA x).1.1.length).length = (genA x).1.1.length + 1 := by rw [ins_len, if_pos hi]
  obtain ⟨z2, f2, h1, h2, h3⟩ := sch_at hg hi
  obtain rfl := Option.some.inj (hz.symm.trans h1)
  have hrf := H.r.fi
  have hzd := h3.2.1; have hzg := h3.2.2.1
  have hy9 : okAn ⟨s, z.d, z.g⟩ x.r.fi := ⟨hs, hzd, hzg, by omega, by omega⟩
  have hS : okSch (insA (dlA (genA x).1.1) ⟨s, z.d, z.g⟩ i (genA x).1.1.length) (insA (fnL (genA x).1.2) x.r.fi i (genA x).1.1.length) := ⟨by omega, by omega, ins_an hg hy9 _ (Nat.le_refl _)⟩
  have hc := hfl.2.2
  have hkp := (cs_ok (x := x) (L := (genA x).1.1) (F := (genA x).1.2) (by rw [hc])).2.2.2
  refine ⟨hlen, hS, ins_mem (P := fun g => g ≤ x.r.fi) (Int.le_refl _) _ fun j hj => ?_, ?_, ?_, ?_⟩
  · obtain ⟨y9, f9, e1, e2, _⟩ := sch_at hg hj
    rw [fnL_get e2]
    exact (hkp j y9 f9 e1 e2).1
  · rw [ins_dep (by rw [dlA_get hz])]
    have h4 : (chkF (smS (genA x).1.1 (genA x).1.1.length) x (genA x).1.1 (genA x).1.2 0).2 = 0 := by
      rw [← chkA_2 hg.ck, ← csE_2 H.ck, hc]
    exact chk_end hg.l h4
  · rw [ins_sum, if_pos hi]
  · rw [csE_2 H.ck, chkA_2 hS.ck]
theorem sl3_rd {B : Nat} {w0 w : World} {rs : List Res} {a b c : Value} {ea eb ec na nb nc : Nat} {k l m : List (List Value)} (h : WS B w0 (sl a ea na k :: sl b eb nb l :: sl c ec nc m :: rs) w) : WS B w0 (rd a na k :: rd b nb l :: rd c nc m :: rs) w := by
  have h1 := (sl_to_rd h).perm (rs' := sl b eb nb l :: sl c ec nc m :: rd a na k :: rs) ((List.perm_middle (l₁ := [sl b eb nb l, sl c ec nc m]) (a := rd a na k) (l₂ := rs)))
  have h2 := (sl_to_rd h1).perm (rs' := sl c ec nc m :: rd a na k :: rd b nb l :: rs) ((List.perm_middle (l₁ := [sl c ec nc m, rd a na k]) (a := rd b nb l) (l₂ := rs)))
  exact (sl_to_rd h2).perm (rs' := rd a na k :: rd b nb l :: rd c nc m :: rs) ((List.perm_middle (l₁ := [rd a na k, rd b nb l]) (a := rd c nc m) (l₂ := rs)))
end Go.Proofs.YthilaakeimfedaaGreatDoor
