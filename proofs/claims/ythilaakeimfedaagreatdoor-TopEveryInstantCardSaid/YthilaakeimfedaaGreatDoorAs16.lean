/-
  Plans: names, the check of a plan, seconds and depths, points; how they lie in memory. Conditions: those in front of each theorem; no program in sight.
-/
import Derived.Test.YthilaakeimfedaaGreatDoorPr
import Derived.Test.YthilaakeimfedaaGreatDoorAS
import Derived.Test.YthilaakeimfedaaGreatDoorAD
import Derived.Test.YthilaakeimfedaaGreatDoorTraj5
import Derived.Test.YthilaakeimfedaaGreatDoorAT
import Derived.Test.YthilaakeimfedaaGreatDoorJ
import Derived.Test.YthilaakeimfedaaGreatDoorU
import Derived.Test.YthilaakeimfedaaGreatDoorW
import Derived.Test.YthilaakeimfedaaGreatDoorFo
import Derived.Test.YthilaakeimfedaaGreatDoorShRange
import Derived.Test.YthilaakeimfedaaGreatDoorShTree
import Derived.Test.YthilaakeimfedaaGreatDoorT
import Derived.Test.YthilaakeimfedaaGreatDoorMod8
import Derived.Test.YthilaakeimfedaaGreatDoorArg
namespace Go.Proofs.YthilaakeimfedaaGreatDoor
open Go.RowKit
theorem ex_ck1 : ckAsc (exA (ldA 2400000 2400000) 1000) = 0 := by decide
abbrev exL : List Dl := [⟨60, 500, 0⟩, ⟨600, 500, 0⟩, ⟨60, 0, 0⟩]
abbrev exF : List Int := [0, 0, 0]
theorem sc_ex : ckSch exL exF = 0 := sch_0 (by decide) (by decide) (by unfold all2 all2 all2 all2 okAn; decide)
abbrev exT : Tx := [108, 101, 103, 32, 54, 48, 32, 53, 48, 48, 32, 48, 32, 48, 10, 108, 101, 103, 32, 54, 48, 48, 32, 53, 48, 48, 32, 48, 32, 48, 10, 108, 101, 103, 32, 54, 48, 32, 48, 32, 48, 32, 48, 10]
theorem it_0 : Lib.itoa 0 = [48] := by kernel_rfl
theorem it_60 : Lib.itoa 60 = [54, 48] := by kernel_rfl
theorem it_600 : Lib.itoa 600 = [54, 48, 48] := by kernel_rfl
theorem it_500 : Lib.itoa 500 = [53, 48, 48] := by kernel_rfl
theorem ln_1 : lnT ⟨60, 500, 0⟩ 0 = [108, 101, 103, 32, 54, 48, 32, 53, 48, 48, 32, 48, 32, 48, 10] := by
  show ([108, 101, 103] ++ ([32] ++ Lib.itoa 60) ++ ([32] ++ Lib.itoa 500) ++ ([32] ++ Lib.itoa 0) ++ ([32] ++ Lib.itoa 0)) ++ [10] = _
  rw [it_0, it_60, it_500]
  rfl
theorem ln_2 : lnT ⟨600, 500, 0⟩ 0 = [108, 101, 103, 32, 54, 48, 48, 32, 53, 48, 48, 32, 48, 32, 48, 10] := by
  show ([108, 101, 103] ++ ([32] ++ Lib.itoa 600) ++ ([32] ++ Lib.itoa 500) ++ ([32] ++ Lib.itoa 0) ++ ([32] ++ Lib.itoa 0)) ++ [10] = _
  rw [it_0, it_600, it_500]
  rfl
theorem ln_3 : lnT ⟨60, 0, 0⟩ 0 = [108, 101, 103, 32, 54, 48, 32, 48, 32, 48, 32, 48, 10] := by
  show ([108, 101, 103] ++ ([32] ++ Lib.itoa 60) ++ ([32] ++ Lib.itoa 0) ++ ([32] ++ Lib.itoa 0) ++ ([32] ++ Lib.itoa 0)) ++ [10] = _
  rw [it_0, it_60]
  rfl
theorem pr_ex : prE exL exF = exT := by
  rw [prE_2 sc_ex]
  show ([] ++ lnT ⟨60, 500, 0⟩ 0) ++ lnT ⟨600, 500, 0⟩ 0 ++ lnT ⟨60, 0, 0⟩ 0 = _
  rw [ln_1, ln_2, ln_3]
  rfl
end Go.Proofs.YthilaakeimfedaaGreatDoor
namespace Go.Proofs.YthilaakeimfedaaGreatDoor
set_option maxRecDepth 100000
set_option maxHeartbeats 4000000
open Go.RowKit

end Go.Proofs.YthilaakeimfedaaGreatDoor
namespace Go.Proofs.YthilaakeimfedaaGreatDoor
open Go.RowKit
section
variable {r : Rl} {a b : Int}
end
end Go.Proofs.YthilaakeimfedaaGreatDoor
namespace Go.Proofs.YthilaakeimfedaaGreatDoor

/-! ### Loads out of numbers -/
end Go.Proofs.YthilaakeimfedaaGreatDoor
namespace Go.Proofs.YthilaakeimfedaaGreatDoor
/-! ### Stops of a schedule that is found -/
/-! ### How many seconds stops have -/
/-! ### A surely kept leg, at every instant -/
theorem at_inst {x : Asc} {y : Dl} {f g : Nat} {s d : Int} (H : okAsc x) (hy : okAl x y) (hf : f ≤ 6) (hg : g ≤ 6) (hs : 1 ≤ s ∧ s ≤ y.s) (hd : (y.d - x.de) * s = y.s * d) (h2 : keptT x.ts x.ls (lgA x y) (faA x) f = 2) :
    ckLeg ⟨x.su + x.de, x.su + x.de + d, s, (agAt x.gs y.g.toNat).g⟩ = 0 ∧ okPr (x.su + x.de + d) ∧ okTL x.ts (loadedM x.ts x.ls ⟨x.su + x.de, x.su + x.de + d, s, (agAt x.gs y.g.toNat).g⟩ g) ∧ keptM x.ts (loadedM x.ts x.ls ⟨x.su + x.de, x.su + x.de + d, s, (agAt x.gs y.g.toNat).g⟩ g) (x.su + x.de + d) (faA x) ≠ 0 := by
  have T := tk_ok H hy
  have hb : begins (lgA x y) ⟨x.su + x.de, x.su + x.de + d, s, (agAt x.gs y.g.toNat).g⟩ := begin_mk (x := lgA x y) hs (show (x.su + y.d - (x.su + x.de)) * s = y.s * d by rw [show x.su + y.d - (x.su + x.de) = y.d - x.de by omega]; exact hd)
  have hO := hb.ok T.xx
  exact ⟨ckLeg_yes hO hs.1, hO.t, loaded_ok H.k hO hg, hb.kept T hf hg h2⟩
/-! ### The direct ascent as a schedule -/
end Go.Proofs.YthilaakeimfedaaGreatDoor
namespace Go.Proofs.YthilaakeimfedaaGreatDoor
open Go.RowKit

set_option maxRecDepth 100000 in
set_option maxHeartbeats 2000000 in
theorem ct_shotlinetop_risen  : CtQ KQ Tryz.prog 80 [] [] (isV (.bool true)) := by
 refine CtQ.of (N := 25) Tryz.func80 rfl rfl rfl fun w hQ => ?_
 refine C_weak (E' := []) (rs' := []) trivial (fun _ h => h) ?_
 refine C_seq ?_
 refine C_region ?_
 refine Jq (q_assign rfl) ?_
 refine L_then ?_
 refine C_seq ?_
 refine C_region ?_
 refine L_lo rfl rfl rfl (lo_call tb rfl rfl (ct_shotlinelaw04_At1000 2400000) no_ps isTo_sinks) ?_
 rintro _ _ ⟨A6, n6, c6, B6, m6, d6, C6, k6, e6, rfl, rfl⟩
 refine L_lo rfl rfl rfl (lo_call tb rfl rfl (ct_ascent_Generate _ _ _ (exA (ldA 2400000 2400000) 1000) (by decide) (by decide) (by decide)) (ps_cons gvo (ps_cons gvo (ps_cons gvo no_ps))) isSc_sinks) ?_
 rintro _ _ ⟨A7, n7, c7, B7, m7, d7, rfl, rfl⟩
 rw [gnE_2 ex_ck1, gen_ex]
 dsimp only
 refine Jq (q_move rfl) ?_
 refine Jq (q_ext0 rfl) ?_
 refine Jq (q_ext1 rfl) ?_
 refine L_alloc tb rfl rfl fun g1 => ?_
 refine L_st tb rfl rfl ?_
 refine Jq (q_assign rfl) ?_
 refine L_then ?_
 refine C_seq ?_
 refine C_region ?_
 refine Jq (q_loadA tb rfl rfl bxo rfl rfl) ?_
 refine L_lo rfl rfl rfl (lo_callQ tb stQ hQ rfl rfl (ct_ascent_Print _ _ exL exF (by decide) (by decide)) (ps_cons gvo (ps_cons gvo no_ps)) isV_sinks) ?_
 rintro _ _ ⟨rfl, rfl⟩
 rw [pr_ex, sc_ex]
 refine Jq (q_move rfl) ?_
 refine Jq (q_ext0 rfl) ?_
 refine Jq (q_ext1 rfl) ?_
 refine Jq (q_assign rfl) ?_
 refine Jq (q_assign rfl) ?_
 refine L_then ?_
 refine C_seq ?_
 refine C_region ?_
 refine Jq (q_move rfl) ?_
 refine Jq (q_true (q_eql rfl rfl) rfl) ?_
 refine Jq (q_move rfl) ?_
 refine Jg (q_move rfl) ?_
 refine Jg (q_true (q_eql rfl rfl) rfl) ?_
 refine Jq (q_pickT rfl rfl) ?_
 refine Jq (q_move rfl) ?_
 refine Jg (q_move rfl) ?_
 refine Jg (q_true (t_eq (a := exT) (b := exT) rfl rfl) (decide_eq_true rfl)) ?_
 refine Jq (q_pickT rfl rfl) ?_
 refine Jq (q_assign rfl) ?_
 refine L_then ?_
 refine C_ret ?_
 exact ret_of (res1 rfl rfl) sub_nil (by intro r hr; cases hr) ⟨rfl, rfl⟩
end Go.Proofs.YthilaakeimfedaaGreatDoor
namespace Go.Proofs.YthilaakeimfedaaGreatDoor
open Go.RowKit
section
variable {rs t s : List Res}
instance (priority := low) gvC {v : Value} {size : Nat} {l : List (List Value)} [h : Gv t v size l] : Gv (s ++ t) v size l := ⟨by
  obtain ⟨r, hr, hg⟩ := h.out
  exact ⟨r, List.mem_append_right _ hr, hg⟩⟩
instance (priority := low) bxC {g : Nat} {u : TypeId} {xs : List Value} [h : Bx t g u xs] : Bx (s ++ t) g u xs := ⟨List.mem_append_right _ h.out⟩
theorem gv_l {v : Value} {size : Nat} {l : List (List Value)} (h : GvR s v size l) : GvR (s ++ t) v size l := by
  obtain ⟨r, hr, hg⟩ := h
  exact ⟨r, List.mem_append_left _ hr, hg⟩
theorem gv_r {v : Value} {size : Nat} {l : List (List Value)} (h : GvR t v size l) : GvR (s ++ t) v size l := by
  obtain ⟨r, hr, hg⟩ := h
  exact ⟨r, List.mem_append_right _ hr, hg⟩
end
section
variable {x : Asc} {L : List Dl} {F : List Int}
theorem gen_bad : ∀ (n : Nat) (x : Asc) (s : Int) (L : List Dl) (F : List Int), (genN n x s L F).2 ≠ 0 → (genN n x s L F).1 = ([], [])
  | n, x, s, L, F, h => by
    by_cases hd : x.de = 0
    · rw [gen_0 hd] at h
      exact absurd rfl h
    match n, h with
    | 0, _ => rw [gen_8 hd]
    | n + 1, h =>
      by_cases hg : gasA x x.de < 0
      · rw [gen_14 hd (by omega) hg]
      by_cases h1 : (dcA x (gUp x)).1 = 2
      · rw [gen_up hd (by omega) hg h1, Nat.add_sub_cancel] at h ⊢
        exact gen_bad n _ _ _ _ h
      by_cases hs : s = 60
      · rw [gen_12 hd (by omega) hg h1 hs]
      by_cases h2 : (dcA x (gSy x)).1 = 2
      · rw [gen_sy hd (by omega) hg h1 hs h2, Nat.add_sub_cancel] at h ⊢
        exact gen_bad n _ _ _ _ h
      · rw [gen_26 hd (by omega) hg h1 hs h2]
theorem gen_flw (H : okAsc x) (h : (genA x).2 = 0) : flwF x (genA x).1.1 = 0 ∧ wsE x (genA x).1.1 (genA x).1.2 = 0 ∧ csE x (genA x).1.1 (genA x).1.2 = (smS (genA x).1.1 (genA x).1.1.length, 0) := by
  obtain ⟨hS, hc⟩ := gen_chk H h
  refine ⟨?_, by rw [wsE_2 H.ck]; exact hS.ck, by rw [csE_2 H.ck]; exact hc⟩
  rw [chkA_2 hS.ck] at hc
  exact chk_flw hS.l (by rw [hc])
theorem gn_ok (h : (gnE x).2 = 0) : ckAsc x = 0 ∧ (genA x).2 = 0 := by
  by_cases h1 : ckAsc x ≠ 0
  · rw [gnE_1 h1] at h
    exact absurd h h1
  · have h2 := Decidable.not_not.1 h1
    rw [gnE_2 h2] at h
    exact ⟨h2, h⟩
theorem gn_bad (h : (gnE x).2 ≠ 0) : (gnE x).1 = ([], []) := by
  by_cases h1 : ckAsc x ≠ 0
  · rw [gnE_1 h1]
  · have h2 := Decidable.not_not.1 h1
    rw [gnE_2 h2] at h ⊢
    exact gen_bad 400 x 0 [] [] h
theorem cs_ok (h : (csE x L F).2 = 0) : okAsc x ∧ okSch L F ∧ flwF x L = 0 ∧ ∀ i y f, L[i]? = some y → F[i]? = some f → f ≤ x.r.fi ∧ keptT (behA x L i).ts (behA x L i).ls (lgA (behA x L i) y) (faA (behA x L i)) f.toNat = 2 := by
  by_cases h1 : ckAsc x ≠ 0
  · rw [csE_1 h1] at h
    exact absurd h h1
  · have h2 := Decidable.not_not.1 h1
    rw [csE_2 h2] at h
    by_cases h3 : ckSch L F ≠ 0
    · rw [chkA_1 h3] at h
      exact absurd h h3
    · have h4 := Decidable.not_not.1 h3
      rw [chkA_2 h4] at h
      have hS := ckSch_ok h4
      exact ⟨ckAsc_ok h2, hS, chk_flw hS.l h, fun i y f hy hf => chk_at hS.l h i y f hy hf⟩
theorem rev_at {α : Type} {T : List α} {n k : Nat} (h : T.length = n) (hk : k < n) : ∃ q, T.reverse[k]? = some q := get_some _ (by rw [List.length_reverse]; omega)
end
end Go.Proofs.YthilaakeimfedaaGreatDoor
namespace Go.Proofs.YthilaakeimfedaaGreatDoor
open Go.RowKit
/-! ### Legs of plans -/
theorem chain_lgs : ∀ {L : List Lg} {a : Int}, chain a L → ckLgs L = 0
  | [], _, _ => rfl
  | x :: t, a, h => by
    unfold ckLgs
    rw [if_neg (fun hh => hh h.2.1)]
    exact chain_lgs h.2.2
theorem legsF_len {sf : Int} {gs : List Gs} : ∀ (ls : List Dl) (d : Int) (acc : List Lg), (legsF sf gs d ls acc).2 = 0 → (legsF sf gs d ls acc).1.length = acc.length + ls.length
  | [], _, _, _ => rfl
  | x :: t, d, acc, h => by
    rw [legsF] at h ⊢
    by_cases hc : ckDl gs.length d x ≠ 0
    · rw [if_pos hc] at h
      exact absurd h hc
    · rw [if_neg hc] at h ⊢
      rw [legsF_len t x.d _ h, List.length_append, List.length_singleton, List.length_cons]
      omega
theorem legsE_len {sf : Int} {gs : List Gs} {ls : List Dl} (h : (legsE sf gs ls).2 = 0) : (legsE sf gs ls).1.length = ls.length ∧ ls.length ≤ 60 := by
  by_cases h1 : 400 ≤ sf ∧ sf ≤ 1100
  · by_cases h2 : gs.length > 8
    · rw [legsE_2 h1 h2] at h; cases h
    · by_cases h3 : ckGs gs = 0
      · by_cases h4 : ls.length > 60
        · rw [legsE_4 h1 h2 h3 h4] at h; cases h
        · rw [legsE_5 h1 h2 h3 h4] at h ⊢
          have := legsF_len ls 0 [] h
          rw [List.length_nil, Nat.zero_add] at this
          exact ⟨this, by omega⟩
      · rw [legsE_3 h1 h2 h3] at h; exact absurd h h3
  · rw [legsE_1 h1] at h; cases h
def dpK (d : Int) (ls : List Dl) (k : Nat) : Int := if k = 0 then d else (dlA ls (k - 1)).d
theorem dpK_s {d : Int} {ls : List Dl} {k : Nat} {y : Dl} (h : ls[k]? = some y) : y.d = dpK d ls (k + 1) := by
  unfold dpK
  rw [if_neg (Nat.succ_ne_zero k), Nat.add_sub_cancel, dlA_get h]
abbrev bgX (x : Asc) (sf : Int) (gs : List Gs) (ls : List Dl) (k : Nat) : Asc := withL x (folM x.ts x.ls (legsE sf gs ls).1 (fnA x) k) (dpK x.de ls k)
section
variable {x : Asc} {sf : Int} {gs : List Gs} {ls : List Dl} {s : Int}
theorem beg_1 (h : x.de ≠ 0) : begE x sf gs ls = 24 ∧ begA x sf gs ls = zAsc := by
  have e : begE x sf gs ls = 24 := if_pos h
  exact ⟨e, if_pos (by rw [e]; decide)⟩
theorem beg_2 (h : ¬ x.de ≠ 0) (h2 : sf ≠ x.su) : begE x sf gs ls = 13 ∧ begA x sf gs ls = zAsc := by
  have e : begE x sf gs ls = 13 := by unfold begE; rw [if_neg h, if_pos h2]
  exact ⟨e, if_pos (by rw [e]; decide)⟩
theorem beg_3 (h : ¬ x.de ≠ 0) (h2 : ¬ sf ≠ x.su) : begE x sf gs ls = (legsE sf gs ls).2 := by unfold begE; rw [if_neg h, if_neg h2]
theorem beg_4 (h : ¬ x.de ≠ 0) (h2 : ¬ sf ≠ x.su) (h3 : (legsE sf gs ls).2 ≠ 0) : begA x sf gs ls = zAsc := if_pos (by rw [beg_3 h h2]; exact h3)
theorem beg_5 (h : ¬ x.de ≠ 0) (h2 : ¬ sf ≠ x.su) (h3 : ¬ (legsE sf gs ls).2 ≠ 0) : begA x sf gs ls = bgX x sf gs ls ls.length := by
  have h4 := legsE_len (Decidable.not_not.1 h3)
  unfold begA
  rw [if_neg (by rw [beg_3 h h2]; exact h3), h4.1]
  rfl
theorem fol_c (H : okAsc x) : folC x.ts x.ls (legsE sf gs ls).1 x.r.fi = 0 := by
  have h1 := legsE_chain sf gs ls
  exact folC_0 (fun hh => hh (ckLoads_mk H.k)) (by omega) (fun hh => hh (chain_lgs h1.1)) H.r.fi
theorem bgX_ok (H : okAsc x) (k : Nat) (hd : 0 ≤ dpK x.de ls k ∧ dpK x.de ls k ≤ 30000) : okAsc (bgX x sf gs ls k) := by
  have h1 := legsE_chain sf gs ls
  exact ⟨folM_ok H.k (chain_lgs h1.1) (fnA_in H).2 k, H.su, hd, H.g1, H.g8, H.gg, H.r⟩
def bgE (x : Asc) (sf : Int) (gs : List Gs) (ls : List Dl) : Int := if ckAsc x ≠ 0 then ckAsc x else begE x sf gs ls
def bgA (x : Asc) (sf : Int) (gs : List Gs) (ls : List Dl) : Asc := if ckAsc x ≠ 0 then zAsc else begA x sf gs ls
theorem bg_1 (h : ckAsc x ≠ 0) : bgE x sf gs ls = ckAsc x ∧ bgA x sf gs ls = zAsc := ⟨if_pos h, if_pos h⟩
theorem bg_2 (h : ckAsc x = 0) : bgE x sf gs ls = begE x sf gs ls ∧ bgA x sf gs ls = begA x sf gs ls := ⟨if_neg (fun hh => hh h), if_neg (fun hh => hh h)⟩
end
theorem rev_last {v : Value} {t : List Value} {n : Nat} (h : t.length + 1 = n) : (((v :: t).map fun q => [q]).reverse)[n - 1]? = some [v] := by
  subst h
  rw [List.map_cons, List.reverse_cons, Nat.add_sub_cancel, List.getElem?_append_right (by rw [List.length_reverse, List.length_map]; exact Nat.le_refl _), List.length_reverse, List.length_map, Nat.sub_self]
  rfl
end Go.Proofs.YthilaakeimfedaaGreatDoor
namespace Go.Proofs.YthilaakeimfedaaGreatDoor
set_option maxRecDepth 100000
set_option maxHeartbeats 4000000
open Go.RowKit

end Go.Proofs.YthilaakeimfedaaGreatDoor
namespace Go.Proofs.YthilaakeimfedaaGreatDoor
section
variable {α : Type} {e : Nat → α} {y : α} {i k : Nat}
end
section
variable {L : List Dl} {F : List Int} {y : Dl} {f : Int} {i : Nat}
theorem chk_end {t : Int} : ∀ {L : List Dl} {F : List Int} {x : Asc} {j : Int}, F.length = L.length → (chkF t x L F j).2 = 0 → dpK x.de L L.length = 0
  | [], _, x, j, _, h => by
    rw [chkF] at h
    by_cases hd : x.de ≠ 0
    · rw [if_pos hd] at h; exact absurd h (by decide)
    · exact Decidable.not_not.1 hd
  | z :: l, [], x, j, hl, h => by simp at hl
  | z :: l, f :: F, x, j, hl, h => by
    rw [chkF] at h
    by_cases h1 : ckAl x z ≠ 0
    · rw [if_pos h1] at h; exact absurd h h1
    rw [if_neg h1] at h
    by_cases h2 : f > x.r.fi
    · rw [if_pos h2] at h; exact absurd h (by show ¬ ((2 : Int) = 0); decide)
    rw [if_neg h2] at h
    by_cases h3 : keptT x.ts x.ls (lgA x z) (faA x) f.toNat ≠ 2
    · rw [if_pos h3] at h; exact absurd h (by show ¬ ((22 : Int) = 0); decide)
    rw [if_neg h3] at h
    have ih := chk_end (by simpa using hl) h
    cases l with
    | nil => exact ih
    | cons w l => exact ih
end
structure InsOk (x : Asc) (L M : List Dl) (G : List Int) (s : Int) : Prop where
  n : M.length = L.length + 1
  S : okSch M G
  f : ∀ g ∈ G, g ≤ x.r.fi
  d : dpK x.de M M.length = 0
  s : smS M M.length = smS L L.length + s
  cs : csE x M G = chkF (smS M M.length) x M G 0
end Go.Proofs.YthilaakeimfedaaGreatDoor
namespace Go.Proofs.YthilaakeimfedaaGreatDoor
structure RestOk (p : Int) (z y : Ld) : Prop where
  nl : min z.n.lo (satL ⟨210, 0⟩ p).n.lo ≤ y.n.lo
  nh : y.n.hi ≤ max z.n.hi (satL ⟨210, 0⟩ p).n.hi
  hl : min z.h.lo (satL ⟨210, 0⟩ p).h.lo ≤ y.h.lo
  hh : y.h.hi ≤ max z.h.hi (satL ⟨210, 0⟩ p).h.hi
  xn : inX y.n ∧ inX z.n ∧ inX (satL ⟨210, 0⟩ p).n
  xh : inX y.h ∧ inX z.h ∧ inX (satL ⟨210, 0⟩ p).h
theorem gen_last {x : Asc} (H : okAsc x) (h : (genA x).2 = 0) : okAsc (behA x (genA x).1.1 (genA x).1.1.length) ∧ (behA x (genA x).1.1 (genA x).1.1.length).de = 0 := by
  have hg := (gen_chk H h).1
  have hfl := gen_flw H h
  have h4 : (chkF (smS (genA x).1.1 (genA x).1.1.length) x (genA x).1.1 (genA x).1.2 0).2 = 0 := by
    rw [← chkA_2 hg.ck, ← csE_2 H.ck, hfl.2.2]
  have h5 := chk_end hg.l h4
  refine ⟨beh_ok H (Nat.le_refl _) fun i _ => flw_all hfl.1 i, ?_⟩
  cases hL : (genA x).1.1 with
  | nil => rw [hL] at h5; exact h5
  | cons a l => rw [hL] at h5; exact h5
end Go.Proofs.YthilaakeimfedaaGreatDoor
namespace Go.Proofs.YthilaakeimfedaaGreatDoor
/-! ### Names -/
abbrev ltrI (c : Int) : Prop := (97 ≤ c ∧ c ≤ 122) ∨ (65 ≤ c ∧ c ≤ 90)
abbrev okB (i : Nat) (c : Int) : Prop := ltrI c ∨ (i ≠ 0 ∧ (c = 45 ∨ (48 ≤ c ∧ c ≤ 57)))
def nameP (s : ByteArray) : Prop := 1 ≤ s.size ∧ s.size ≤ 12 ∧ ∀ i, i < s.size → okB i (bAt s i)
instance (s : ByteArray) : Decidable (nameP s) := by unfold nameP; infer_instance

/-! ### Plans -/
def ckDl1 (n e : Int) (x : Dl) : Int := if ¬ (1 ≤ x.s ∧ x.s ≤ 1000000 ∧ 0 ≤ x.d ∧ x.d ≤ 30000) then 2 else if ¬ (0 ≤ x.g ∧ x.g ≤ n - 1) then 6 else if e + x.s > 1000000 then 8 else 0
def ckLegs (n : Int) : Nat → Int → List Dl → Int × Int
  | _, _, [] => (0, 0)
  | i, e, x :: t => if ckDl1 n e x ≠ 0 then ((i : Int), ckDl1 n e x) else ckLegs n (i + 1) (e + x.s) t
theorem ckLegs_bad {n e : Int} {ls : List Dl} {k i : Nat} {x : Dl} (h : ls[k]? = some x) (hc : ckDl1 n e x ≠ 0) : ckLegs n i e (ls.drop k) = ((i : Int), ckDl1 n e x) := by rw [drop_cons h]; exact if_pos hc
theorem ckLegs_ok {n e : Int} {ls : List Dl} {k i : Nat} {x : Dl} (h : ls[k]? = some x) (hc : ckDl1 n e x = 0) : ckLegs n i e (ls.drop k) = ckLegs n (i + 1) (e + x.s) (ls.drop (k + 1)) := by rw [drop_cons h]; exact if_neg (fun hh => hh hc)
theorem ckLegs_end {n e : Int} {ls : List Dl} {k i : Nat} (h : ls.length ≤ k) : ckLegs n i e (ls.drop k) = (0, 0) := by rw [drop_all h]; rfl
def ckPl (nm : ByteArray) (sf : Int) (gs : List Gs) (ls : List Dl) : Int × Int :=
  if ¬ nameP nm then (0, 4) else if ¬ (400 ≤ sf ∧ sf ≤ 1100) then (0, 2) else if gs.length = 0 then (0, 10) else if gs.length > 8 then (0, 8)
  else if ckGs gs ≠ 0 then (0, ckGs gs) else if ls.length > 60 then (0, 8) else ckLegs gs.length 0 0 ls
section
variable {nm : ByteArray} {sf : Int} {gs : List Gs} {ls : List Dl}
theorem ckPl_1 (h : ¬ nameP nm) : ckPl nm sf gs ls = (0, 4) := if_pos h
theorem ckPl_2 (h : nameP nm) (h2 : ¬ (400 ≤ sf ∧ sf ≤ 1100)) : ckPl nm sf gs ls = (0, 2) := by unfold ckPl; rw [if_neg (fun hh => hh h), if_pos h2]
theorem ckPl_3 (h : nameP nm) (h2 : 400 ≤ sf ∧ sf ≤ 1100) (h3 : gs.length = 0) : ckPl nm sf gs ls = (0, 10) := by unfold ckPl; rw [if_neg (fun hh => hh h), if_neg (fun hh => hh h2), if_pos h3]
theorem ckPl_4 (h : nameP nm) (h2 : 400 ≤ sf ∧ sf ≤ 1100) (h3 : ¬ gs.length = 0) (h4 : gs.length > 8) : ckPl nm sf gs ls = (0, 8) := by unfold ckPl; rw [if_neg (fun hh => hh h), if_neg (fun hh => hh h2), if_neg h3, if_pos h4]
theorem ckPl_5 (h : nameP nm) (h2 : 400 ≤ sf ∧ sf ≤ 1100) (h3 : ¬ gs.length = 0) (h4 : ¬ gs.length > 8) (h5 : ckGs gs ≠ 0) : ckPl nm sf gs ls = (0, ckGs gs) := by unfold ckPl; rw [if_neg (fun hh => hh h), if_neg (fun hh => hh h2), if_neg h3, if_neg h4, if_pos h5]
theorem ckPl_6 (h : nameP nm) (h2 : 400 ≤ sf ∧ sf ≤ 1100) (h3 : ¬ gs.length = 0) (h4 : ¬ gs.length > 8) (h5 : ckGs gs = 0) (h6 : ls.length > 60) : ckPl nm sf gs ls = (0, 8) := by unfold ckPl; rw [if_neg (fun hh => hh h), if_neg (fun hh => hh h2), if_neg h3, if_neg h4, if_neg (fun hh => hh h5), if_pos h6]
theorem ckPl_7 (h : nameP nm) (h2 : 400 ≤ sf ∧ sf ≤ 1100) (h3 : ¬ gs.length = 0) (h4 : ¬ gs.length > 8) (h5 : ckGs gs = 0) (h6 : ¬ ls.length > 60) : ckPl nm sf gs ls = ckLegs gs.length 0 0 ls := by unfold ckPl; rw [if_neg (fun hh => hh h), if_neg (fun hh => hh h2), if_neg h3, if_neg h4, if_neg (fun hh => hh h5), if_neg h6]
end
def dlAt (ls : List Dl) (i : Nat) : Dl := ls[i]?.getD ⟨0, 0, 0⟩
def secAt (ls : List Dl) : Nat → Int
  | 0 => 0
  | k + 1 => secAt ls k + (dlAt ls k).s
def depAt (ls : List Dl) : Nat → Int
  | 0 => 0
  | k + 1 => (dlAt ls k).d
theorem dlAt_get {ls : List Dl} {k : Nat} {x : Dl} (h : ls[k]? = some x) : dlAt ls k = x := by unfold dlAt; rw [h]; rfl
structure okDl (n : Int) (x : Dl) : Prop where
  s : 1 ≤ x.s ∧ x.s ≤ 1000000
  d : 0 ≤ x.d ∧ x.d ≤ 30000
  g : 0 ≤ x.g ∧ x.g ≤ n - 1
theorem ckDl1_0 {n e : Int} {x : Dl} (h : ckDl1 n e x = 0) : okDl n x ∧ e + x.s ≤ 1000000 := by
  unfold ckDl1 at h
  by_cases h1 : ¬ (1 ≤ x.s ∧ x.s ≤ 1000000 ∧ 0 ≤ x.d ∧ x.d ≤ 30000)
  · rw [if_pos h1] at h; cases h
  · rw [if_neg h1] at h
    by_cases h2 : ¬ (0 ≤ x.g ∧ x.g ≤ n - 1)
    · rw [if_pos h2] at h; cases h
    · rw [if_neg h2] at h
      by_cases h3 : e + x.s > 1000000
      · rw [if_pos h3] at h; cases h
      · exact ⟨⟨by omega, by omega, by omega⟩, by omega⟩
structure okPl (sf : Int) (gs : List Gs) (ls : List Dl) : Prop where
  sf : 400 ≤ sf ∧ sf ≤ 1100
  gl : 1 ≤ gs.length ∧ gs.length ≤ 8
  g : ∀ g ∈ gs, ckGas g.o g.h = 0
  ll : ls.length ≤ 60
  l : ∀ x ∈ ls, okDl gs.length x
  e : ∀ k, k ≤ ls.length → 0 ≤ secAt ls k ∧ secAt ls k ≤ 1000000
theorem ckLegs_all {n : Int} {ls : List Dl} : ∀ (m k : Nat), k + m = ls.length → (ckLegs n k (secAt ls k) (ls.drop k)).2 = 0 → (∀ j, k ≤ j → j < ls.length → okDl n (dlAt ls j) ∧ secAt ls (j + 1) ≤ 1000000)
  | 0, k, hm, _, j, h1, h2 => by omega
  | m + 1, k, hm, h, j, h1, h2 => by
    obtain ⟨x, hx⟩ := get_some ls (show k < ls.length by omega)
    by_cases hc : ckDl1 n (secAt ls k) x = 0
    · have e1 : secAt ls (k + 1) = secAt ls k + x.s := by show secAt ls k + (dlAt ls k).s = _; rw [dlAt_get hx]
      rw [ckLegs_ok hx hc, ← e1] at h
      rcases Nat.lt_or_eq_of_le h1 with h3 | rfl
      · exact ckLegs_all m (k + 1) (by omega) h j h3 h2
      · rw [dlAt_get hx, e1]; exact ckDl1_0 hc
    · rw [ckLegs_bad hx hc] at h
      exact absurd h hc
theorem ckPl_ok {nm : ByteArray} {sf : Int} {gs : List Gs} {ls : List Dl} (h : (ckPl nm sf gs ls).2 = 0) : nameP nm ∧ okPl sf gs ls := by
  by_cases h1 : nameP nm
  · by_cases h2 : 400 ≤ sf ∧ sf ≤ 1100
    · by_cases h3 : gs.length = 0
      · rw [ckPl_3 h1 h2 h3] at h; cases h
      · by_cases h4 : gs.length > 8
        · rw [ckPl_4 h1 h2 h3 h4] at h; cases h
        · by_cases h5 : ckGs gs = 0
          · by_cases h6 : ls.length > 60
            · rw [ckPl_6 h1 h2 h3 h4 h5 h6] at h; cases h
            · rw [ckPl_7 h1 h2 h3 h4 h5 h6] at h
              have h7 := ckLegs_all (n := gs.length) (ls := ls) ls.length 0 (by omega) h
              have h8 : ∀ k, k ≤ ls.length → 0 ≤ secAt ls k := by
                intro k
                induction k with
                | zero => intro _; exact Int.le_refl _
                | succ k ih =>
                  intro hk
                  have a := ih (by omega)
                  have b := (h7 k (by omega) (by omega)).1.s
                  show 0 ≤ secAt ls k + (dlAt ls k).s
                  omega
              refine ⟨h1, h2, by omega, ckGs_ok h5, by omega, fun x hx => ?_, fun k hk => ⟨h8 k hk, ?_⟩⟩
              · obtain ⟨j, hj⟩ := List.getElem?_of_mem hx
                have := (h7 j (by omega) (List.getElem?_eq_some_iff.1 hj).1).1
                rwa [dlAt_get hj] at this
              · cases k with
                | zero => show (0 : Int) ≤ 1000000; omega
                | succ k => exact (h7 k (by omega) (by omega)).2
          · rw [ckPl_5 h1 h2 h3 h4 h5] at h; exact absurd h h5
    · rw [ckPl_2 h1 h2] at h; cases h
  · rw [ckPl_1 h1] at h; cases h
theorem okPl.at {sf : Int} {gs : List Gs} {ls : List Dl} (h : okPl sf gs ls) {k : Nat} (hk : k < ls.length) : okDl gs.length (dlAt ls k) := by
  obtain ⟨x, hx⟩ := get_some ls hk
  rw [dlAt_get hx]
  exact h.l x (List.mem_of_getElem? hx)
theorem okPl.dep {sf : Int} {gs : List Gs} {ls : List Dl} (h : okPl sf gs ls) {k : Nat} (hk : k ≤ ls.length) : 0 ≤ depAt ls k ∧ depAt ls k ≤ 30000 := by
  cases k with
  | zero => show (0 : Int) ≤ 0 ∧ (0 : Int) ≤ 30000; omega
  | succ k => exact (h.at (k := k) (by omega)).d
theorem okPl.gas {sf : Int} {gs : List Gs} {ls : List Dl} (h : okPl sf gs ls) {k : Nat} (hk : k < ls.length) : gs[(dlAt ls k).g.toNat]? = some (gasAt gs (dlAt ls k).g) := by
  have h1 := (h.at hk).g
  obtain ⟨x, hx⟩ := get_some gs (k := (dlAt ls k).g.toNat) (by omega)
  unfold gasAt
  rw [hx]
  rfl
theorem secAt_succ (ls : List Dl) (k : Nat) : secAt ls (k + 1) = secAt ls k + (dlAt ls k).s := rfl
def ptsK (ls : List Dl) (k : Nat) : List (Int × Int) := (List.range (k + 1)).map fun i => (secAt ls i, depAt ls i)
theorem ptsK_len (ls : List Dl) (k : Nat) : (ptsK ls k).length = k + 1 := by simp [ptsK]
theorem ptsK_get {ls : List Dl} {k i : Nat} (h : i ≤ k) : (ptsK ls k)[i]? = some (secAt ls i, depAt ls i) := by
  unfold ptsK
  rw [List.getElem?_map, List.getElem?_range (by omega)]
  rfl
theorem ptsK_succ (ls : List Dl) (k : Nat) : ptsK ls (k + 1) = ptsK ls k ++ [(secAt ls (k + 1), depAt ls (k + 1))] := by
  unfold ptsK
  rw [List.range_succ, List.map_append]
  rfl
def cSw (x : Int × Int) : List Value := [.int .i64 x.1, .int .i64 x.2]
theorem pt_cells (ls : List Dl) (k : Nat) : (ptsK ls k).map cSw ++ [cSw (secAt ls (k + 1), depAt ls (k + 1))] = (ptsK ls (k + 1)).map cSw := by rw [ptsK_succ, List.map_append]; rfl
theorem pt_cell {ls : List Dl} {k i : Nat} (h : i ≤ k) : ((ptsK ls k).map cSw)[i]? = some (cSw (secAt ls i, depAt ls i)) := map_get cSw (ptsK_get h)
theorem dl_cell {ls : List Dl} {k : Nat} (h : k < ls.length) : (ls.map cDl)[k]? = some (cDl (dlAt ls k)) := by
  obtain ⟨x, hx⟩ := get_some ls h
  rw [dlAt_get hx]
  exact map_get cDl hx
theorem ckLegs_zero {n : Int} {ls : List Dl} : ∀ (m k : Nat), k + m = ls.length → (∀ j, k ≤ j → j < ls.length → okDl n (dlAt ls j) ∧ secAt ls (j + 1) ≤ 1000000) → ckLegs n k (secAt ls k) (ls.drop k) = (0, 0)
  | 0, k, hm, _ => ckLegs_end (by omega)
  | m + 1, k, hm, h => by
    obtain ⟨x, hx⟩ := get_some ls (show k < ls.length by omega)
    have h1 := h k (Nat.le_refl _) (by omega)
    rw [dlAt_get hx, secAt_succ, dlAt_get hx] at h1
    have hc : ckDl1 n (secAt ls k) x = 0 := by
      have a := h1.1.s; have b := h1.1.d; have g := h1.1.g
      unfold ckDl1
      rw [if_neg (fun hh => hh ⟨a.1, a.2, b.1, b.2⟩), if_neg (fun hh => hh g), if_neg (by omega)]
    have e1 : secAt ls (k + 1) = secAt ls k + x.s := by rw [secAt_succ, dlAt_get hx]
    rw [ckLegs_ok hx hc, ← e1]
    exact ckLegs_zero m (k + 1) (by omega) (fun j hj hl => h j (by omega) hl)
end Go.Proofs.YthilaakeimfedaaGreatDoor
