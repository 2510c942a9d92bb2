/-
  Walks: each function named returns what its model says. Conditions: those in front of each theorem.
-/
import Derived.Test.YthilaakeimfedaaGreatDoorArg
import Derived.Test.YthilaakeimfedaaGreatDoorShTree
import Derived.Test.YthilaakeimfedaaGreatDoorJ
namespace Go.Proofs.YthilaakeimfedaaGreatDoor
open Go.RowKit

def folM (ts : List Cp) (ls : List Ld) (xs : List Lg) (f : Nat) : Nat → List Ld
  | 0 => ls
  | k + 1 => match xs[k]? with
    | some x => loadedM ts (folM ts ls xs f k) x f
    | none => folM ts ls xs f k
section
variable {ts : List Cp} {ls : List Ld} {xs : List Lg} {x : Lg} {f k : Nat} {fi : Int}
theorem folM_step (h : xs[k]? = some x) : folM ts ls xs f (k + 1) = loadedM ts (folM ts ls xs f k) x f := by
  rw [folM, h]
def ckLgs : List Lg → Int
  | [] => 0
  | x :: t => if ckLeg x ≠ 0 then ckLeg x else ckLgs t
theorem ckLgs_step (h : xs[k]? = some x) : ckLgs (xs.drop k) = if ckLeg x ≠ 0 then ckLeg x else ckLgs (xs.drop (k + 1)) := by rw [drop_cons h]; rfl
theorem ckLgs_yes (h : xs[k]? = some x) (hx : ckLeg x ≠ 0) : ckLgs (xs.drop k) = ckLeg x := by rw [ckLgs_step h, if_pos hx]
theorem ckLgs_no (h : xs[k]? = some x) (hx : ¬ ckLeg x ≠ 0) : ckLgs (xs.drop k) = ckLgs (xs.drop (k + 1)) := by rw [ckLgs_step h, if_neg hx]
theorem ckLgs_end (h : xs.length ≤ k) : ckLgs (xs.drop k) = 0 := by rw [drop_all h]; rfl
theorem ckLgs_ok : ∀ {xs : List Lg}, ckLgs xs = 0 → ∀ x ∈ xs, ckLeg x = 0
  | [], _, x, hx => by cases hx
  | d :: t, h, x, hx => by
    unfold ckLgs at h
    split at h
    · rename_i hd; exact absurd h hd
    · rename_i hd
      rcases List.mem_cons.1 hx with rfl | hx
      · exact Decidable.not_not.1 hd
      · exact ckLgs_ok h x hx
theorem folM_ok (h : okTL ts ls) (hx : ckLgs xs = 0) (hf : f ≤ 6) : ∀ k, okTL ts (folM ts ls xs f k)
  | 0 => h
  | k + 1 => by
    rcases he : xs[k]? with _ | x
    · rw [folM, he]; exact folM_ok h hx hf k
    · rw [folM_step he]; exact loaded_ok (folM_ok h hx hf k) (ckLeg_ok (ckLgs_ok hx x (List.mem_of_getElem? he))).1 hf
def folC (ts : List Cp) (ls : List Ld) (xs : List Lg) (f : Int) : Int :=
  if ckLoads ts ls ≠ 0 then ckLoads ts ls else if xs.length > 200 then 8 else if ckLgs xs ≠ 0 then ckLgs xs else if 0 ≤ f ∧ f ≤ 6 then 0 else 2
structure okFol (ts : List Cp) (ls : List Ld) (xs : List Lg) (fi : Int) : Prop where
  k : okTL ts ls
  l : xs.length ≤ 200
  c : ckLgs xs = 0
  f : 0 ≤ fi ∧ fi ≤ 6
theorem folC_ok (h : folC ts ls xs fi = 0) : okFol ts ls xs fi := by
  unfold folC at h
  split at h
  · rename_i h1; exact absurd h h1
  · rename_i h1
    split at h
    · cases h
    · rename_i h2
      split at h
      · rename_i h3; exact absurd h h3
      · rename_i h3
        split at h
        · rename_i h4; exact ⟨ckLoads_ok (Decidable.not_not.1 h1), by omega, Decidable.not_not.1 h3, h4⟩
        · cases h
theorem folC_0 (h : ¬ ckLoads ts ls ≠ 0) (h2 : ¬ xs.length > 200) (h3 : ¬ ckLgs xs ≠ 0) (h4 : 0 ≤ fi ∧ fi ≤ 6) : folC ts ls xs fi = 0 := by unfold folC; rw [if_neg h, if_neg h2, if_neg h3, if_pos h4]
theorem folC_1 (h : ckLoads ts ls ≠ 0) : folC ts ls xs fi = ckLoads ts ls := if_pos h
theorem folC_2 (h : ¬ ckLoads ts ls ≠ 0) (h2 : xs.length > 200) : folC ts ls xs fi = 8 := by unfold folC; rw [if_neg h, if_pos h2]
theorem folC_3 (h : ¬ ckLoads ts ls ≠ 0) (h2 : ¬ xs.length > 200) (h3 : ckLgs xs ≠ 0) : folC ts ls xs fi = ckLgs xs := by unfold folC; rw [if_neg h, if_neg h2, if_pos h3]
theorem folC_4 (h : ¬ ckLoads ts ls ≠ 0) (h2 : ¬ xs.length > 200) (h3 : ¬ ckLgs xs ≠ 0) (h4 : ¬ (0 ≤ fi ∧ fi ≤ 6)) : folC ts ls xs fi = 2 := by unfold folC; rw [if_neg h, if_neg h2, if_neg h3, if_neg h4]
def rlR (u : Nat) (ts : List Cp) (ls : List Ld) (xs : List Lg) (f : Nat) : List Value → List Res
  | [] => []
  | v :: t => sl v u 4 ((folM ts ls xs f (t.length + 1)).map cLd) :: rlR u ts ls xs f t
theorem rlR_mem {u i : Nat} {v : Value} : ∀ {vs : List Value}, vs.reverse[i]? = some v → sl v u 4 ((folM ts ls xs f (i + 1)).map cLd) ∈ rlR u ts ls xs f vs
  | [], h => by simp at h
  | a :: t, h => by
    rw [List.reverse_cons] at h
    unfold rlR
    rcases Nat.lt_or_ge i t.length with hi | hi
    · rw [List.getElem?_append_left (by simpa using hi)] at h
      exact List.mem_cons_of_mem _ (rlR_mem h)
    · rw [List.getElem?_append_right (by simpa using hi)] at h
      have h0 : i - t.reverse.length = 0 := by
        rcases Nat.eq_zero_or_pos (i - t.reverse.length) with h9 | h9
        · exact h9
        · rw [List.getElem?_eq_none (by simp at h9 ⊢; omega)] at h; cases h
      rw [h0] at h
      have hv : a = v := by simpa using h
      have hi2 : i = t.length := by simp at h0; omega
      subst hv
      subst hi2
      exact List.mem_cons_self
theorem rlR_own {u : Nat} : ∀ {vs : List Value}, ∀ r ∈ rlR u ts ls xs f vs, r.own = true
  | [], r, h => by cases h
  | a :: t, r, h => by
    unfold rlR at h
    rcases List.mem_cons.1 h with rfl | h
    · exact sl_own _ _ _ _
    · exact rlR_own r h
theorem rlR_sinks {u : Nat} : ∀ {vs : List Value}, ∀ r ∈ rlR u ts ls xs f vs, Sinks r
  | [], r, h => by cases h
  | a :: t, r, h => by
    unfold rlR at h
    rcases List.mem_cons.1 h with rfl | h
    · exact sl_sinks _ _ _ _
    · exact rlR_sinks r h
def FolP (o u : Nat) (ts : List Cp) (ls : List Ld) (xs : List Lg) (fi : Int) (v : Value) (rs' : List Res) : Prop :=
  ∃ s vs, v = .tuple #[s, .int .i64 (folC ts ls xs fi)] ∧ rs' = sl s o 1 (vs.reverse.map fun x => [x]) :: rlR u ts ls xs fi.toNat vs ∧ vs.length = if folC ts ls xs fi = 0 then xs.length else 0
theorem FolP_bad {o u : Nat} {c : Int} (h : folC ts ls xs fi = c) (hc : c ≠ 0) : FolP o u ts ls xs fi (.tuple #[.slice none 0 0, .int .i64 c]) [sl (.slice none 0 0) o 1 []] := ⟨_, [], by rw [h], rfl, by rw [h, if_neg hc]; rfl⟩
theorem FolP_own {o u : Nat} {s : Value} {vs : List Value} : ∀ r ∈ sl s o 1 (vs.reverse.map fun x => [x]) :: rlR u ts ls xs f vs, r.own = true := by
  intro r hr
  rcases List.mem_cons.1 hr with rfl | hr
  · exact sl_own _ _ _ _
  · exact rlR_own r hr
theorem FolP_sinks {o u : Nat} : ∀ v rs', FolP o u ts ls xs fi v rs' → ∀ r ∈ rs', Sinks r := by
  rintro v rs' ⟨s, vs, _, rfl, _⟩ r hr
  rcases List.mem_cons.1 hr with rfl | hr
  · exact sl_sinks _ _ _ _
  · exact rlR_sinks r hr
theorem gv_rl {u i : Nat} {v : Value} {vs : List Value} (h : vs.reverse[i]? = some v) : GvR (rlR u ts ls xs f vs) v 4 ((folM ts ls xs f (i + 1)).map cLd) := ⟨_, rlR_mem h, sl_gives _ _ _ _⟩
end
section
variable {rs rs1 t s : List Res} {r : Res}
instance (priority := low) rmBC {g : Nat} {u : TypeId} {xs : List Value} [h : RmB t g u xs rs1] : RmB (s ++ t) g u xs (s ++ rs1) := ⟨List.perm_middle.symm.trans (h.out.append_left s)⟩
instance (priority := low) rmRC {v : Value} {size : Nat} {l : List (List Value)} [h : RmR t v size l rs1] : RmR (s ++ t) v size l (s ++ rs1) := ⟨List.perm_middle.symm.trans (h.out.append_left s)⟩
instance (priority := low) rmSC {v : Value} {e size : Nat} {l : List (List Value)} [h : RmS t v e size l rs1] : RmS (s ++ t) v e size l (s ++ rs1) := ⟨List.perm_middle.symm.trans (h.out.append_left s)⟩
instance (priority := low) tlC [h : Tl rs t] : Tl (rs ++ s) t := ⟨by
  obtain ⟨d, hd⟩ := h.out
  exact ⟨d ++ s, by rw [← List.append_assoc]; exact hd.append_right s⟩⟩
end
end Go.Proofs.YthilaakeimfedaaGreatDoor
namespace Go.Proofs.YthilaakeimfedaaGreatDoor
open Go.RowKit

set_option maxRecDepth 100000 in
set_option maxHeartbeats 2000000 in
theorem ct_tissue_Followed (v u z : Value) (fi : Int) (ts : List Cp) (ls : List Ld) (xs : List Lg) (hle : ts.length ≤ 1000000) (hle2 : ls.length ≤ 1000000) (hle3 : xs.length ≤ 1000000) : Ct Tryz.prog 89 [v, u, z, .int .i64 fi] [(v, 4, ts.map cCp), (u, 4, ls.map cLd), (z, 5, xs.map cLg)] (FolP 23 139 ts ls xs fi) := by
 refine Ct.of (N := 59) Tryz.func89 rfl rfl rfl fun w => ?_
 refine C_weak (E' := [(0, v), (1, u), (2, z), (3, .int .i64 fi)]) (rs' := [rd v 4 (ts.map cCp), rd u 4 (ls.map cLd), rd z 5 (xs.map cLg)]) ⟨rfl, rfl, rfl, rfl, trivial⟩ (fun _ h => h) ?_
 have hl1 := len_map cCp ts
 have hl2 := len_map cLd ls
 have hl3 := len_map cLg xs
 refine C_seq ?_
 refine C_region ?_
 refine Jq (q_assign rfl) ?_
 refine Jq (q_assign rfl) ?_
 refine L_then ?_
 refine C_seq ?_
 refine C_seq ?_
 refine C_region ?_
 refine Jq (q_move rfl) ?_
 refine Jq (q_move rfl) ?_
 refine L_call tb rfl rfl (ct_tissue_CheckLoads _ _ ts ls hle hle2) (ps_cons gvo (ps_cons gvo no_ps)) rfl ?_
 refine Jq (q_assign rfl) ?_
 refine L_then ?_
 refine C_seq ?_
 refine C_region ?_
 refine Jq (q_move rfl) ?_
 refine Jq (q_neq rfl rfl) ?_
 refine L_then ?_
 refine C_dec rfl (fun h1 => ?_) (fun h1 => ?_)
 refine C_seq ?_
 refine C_region ?_
 refine Jq (q_move rfl) ?_
 refine Jq (q_assign rfl) ?_
 refine Jq (q_assign rfl) ?_
 refine L_then ?_
 refine C_ret ?_
 exact ret_of (rs' := [sl (.slice none 0 0) 23 1 []]) (res2 rfl rfl rfl) (fun w_ h_ => ws_nil (sub_nil w_ h_)) own1 (FolP_bad (folC_1 h1) h1)
 refine C_skip_then ?_
 refine C_seq ?_
 refine C_seq ?_
 refine C_region ?_
 refine Jq (q_move rfl) ?_
 refine Jq (q_len tb rfl rfl gvo) ?_
 refine Jq (q_gtr rfl rfl) ?_
 refine L_then ?_
 refine C_dec rfl (fun h2 => ?_) (fun h2 => ?_)
 refine C_seq ?_
 refine C_region ?_
 refine Jq (q_assign rfl) ?_
 refine Jq (q_assign rfl) ?_
 refine L_then ?_
 refine C_ret ?_
 exact ret_of (rs' := [sl (.slice none 0 0) 23 1 []]) (res2 rfl rfl rfl) (fun w_ h_ => ws_nil (sub_nil w_ h_)) own1 (FolP_bad (folC_2 h1 (by omega)) (by decide))
 refine C_skip_then ?_
 refine C_seq ?_
 refine C_seq ?_
 refine C_region ?_
 refine Jq (q_move rfl) ?_
 refine Jq (q_len tb rfl rfl gvo) ?_
 refine Jq (q_move rfl) ?_
 refine L_then ?_
 refine C_block ?_
 refine C_loop (ι := Nat) (fun k => ([(0, v), (1, u), (2, z), (3, .int .i64 fi), (26, z), (27, .int .i64 (xs.map cLg).length), (28, .int .i64 (k : Int))], [rd v 4 (ts.map cCp), rd u 4 (ls.map cLd), rd z 5 (xs.map cLg)])) (fun k => k ≤ xs.length ∧ ckLgs (xs.drop k) = ckLgs xs) (fun k => xs.length - k) 0 ⟨Nat.zero_le _, rfl⟩ (fun a w hs => hs.weak ⟨rfl, rfl, rfl, rfl, rfl, rfl, rfl, trivial⟩ (fun h => h.pk (by repeat (first | with_reducible exact pk_nil | refine pk_box rfl ?_ | refine pk_rd rfl ?_ | refine pk_sl rfl ?_ | with_reducible refine pk_app ?_ | with_reducible refine pk_app0 ?_ | with_reducible refine pk_app0L ?_ | with_reducible exact pk_tl | refine pk_var ?_)))) ?_
 rintro k ⟨hk, hf⟩
 dsimp only at hk hf ⊢
 refine C_seq ?_
 refine C_region ?_
 refine Jq (q_lss rfl rfl) ?_
 refine L_then ?_
 refine C_seq ?_
 refine C_dec rfl (fun h3 => ?_) (fun h3 => ?_)
 obtain ⟨x, he⟩ := get_some xs (k := k) (by omega); have hel := map_get cLg he
 refine C_skip_then ?_
 refine C_seq ?_
 refine C_block ?_
 refine C_seq ?_
 refine C_region ?_
 refine Jq (by first | exact q_index tb rfl rfl rfl rfl gvo (by omega) (by first | omega | (simp; done) | (simp; omega)) | exact q_indexP tb rfl rfl rfl rfl (by omega) (by omega)) ?_
 refine Jq (q_loadEA tb rfl rfl gvo (i := k) (o := 0) (by omega) hel rfl rfl) ?_
 refine L_alloc tb rfl rfl fun g12 => ?_
 refine L_st tb rfl rfl ?_
 refine L_then ?_
 refine C_seq ?_
 refine C_region ?_
 refine Jq (q_loadA tb rfl rfl bxo rfl rfl) ?_
 refine L_call tb rfl rfl (ct_tissue_CheckLeg x) no_ps rfl ?_
 refine Jq (q_assign rfl) ?_
 refine L_then ?_
 refine C_seq ?_
 refine C_region ?_
 refine Jq (q_move rfl) ?_
 refine Jq (q_neq rfl rfl) ?_
 refine L_then ?_
 refine C_dec rfl (fun h5 => ?_) (fun h5 => ?_)
 refine C_seq ?_
 refine C_region ?_
 refine Jq (q_move rfl) ?_
 refine Jq (q_assign rfl) ?_
 refine Jq (q_assign rfl) ?_
 refine L_then ?_
 refine C_ret ?_
 have hq : ckLgs xs = ckLeg x := by rw [← hf]; exact ckLgs_yes he h5
 exact ret_of (rs' := [sl (.slice none 0 0) 23 1 []]) (res2 rfl rfl rfl) (fun w_ h_ => ws_nil (sub_nil w_ h_)) own1 (FolP_bad ((folC_3 h1 (by omega) (by rw [hq]; exact h5)).trans hq) h5)
 refine C_skip_blk ?_
 refine C_region ?_
 refine Jq (q_add rfl rfl (by first | exact IntWalk.i64_in _ (by omega) | rfl)) ?_
 refine Jq (q_move rfl) ?_
 refine L_end ?_
 exact fun ac_ wo_ hs_ => ⟨k + 1, ⟨by omega, by rw [← hf, ckLgs_no he h5]⟩, (by dsimp only; omega), hs_.weak ⟨rfl, rfl, rfl, rfl, rfl, rfl, rfl, trivial⟩ (fun h => h.pk (by repeat (first | with_reducible exact pk_nil | refine pk_box rfl ?_ | refine pk_rd rfl ?_ | refine pk_sl rfl ?_ | with_reducible refine pk_app ?_ | with_reducible refine pk_app0 ?_ | with_reducible refine pk_app0L ?_ | with_reducible exact pk_tl | refine pk_var ?_)))⟩
 have h3 : ckLgs xs = 0 := by rw [← hf]; exact ckLgs_end (by omega)
 refine C_exit ?_
 change C Tryz.prog _ _ _ _ _ _ _
 refine C_seq ?_
 refine C_seq ?_
 refine C_region ?_
 refine Jq (q_move rfl) ?_
 refine L_call tb rfl rfl (ct_tissue_isFine _) no_ps rfl ?_
 refine Jq (q_not rfl decide_not.symm) ?_
 refine L_then ?_
 refine C_dec rfl (fun h4 => ?_) (fun h4 => ?_)
 refine C_seq ?_
 refine C_region ?_
 refine Jq (q_assign rfl) ?_
 refine Jq (q_assign rfl) ?_
 refine L_then ?_
 refine C_ret ?_
 exact ret_of (rs' := [sl (.slice none 0 0) 23 1 []]) (res2 rfl rfl rfl) (fun w_ h_ => ws_nil (sub_nil w_ h_)) own1 (FolP_bad (folC_4 h1 (by omega) (fun h => h h3) (by omega)) (by decide))
 have hO9 : folC ts ls xs fi = 0 := folC_0 h1 (by omega) (fun h => h h3) (by omega)
 have hO := folC_ok hO9; have hok := hO.k; have hob := hok.b; have hol := hO.l
 obtain ⟨n, rfl⟩ := Int.eq_ofNat_of_zero_le (show 0 ≤ fi by omega)
 refine C_skip_then ?_
 refine C_seq ?_
 refine C_region ?_
 refine Jq (q_assign rfl) ?_
 refine L_then ?_
 refine C_seq ?_
 refine C_seq ?_
 refine C_region ?_
 refine Jq (q_move rfl) ?_
 refine Jq (q_len tb rfl rfl gvo) ?_
 refine Jq (q_move rfl) ?_
 refine L_then ?_
 refine C_block ?_
 refine C_nil 23 1 ?_
 refine C_res (rs' := [rd u 4 (ls.map cLd), sl (.slice none 0 0) 23 1 [], rd v 4 (ts.map cCp), rd z 5 (xs.map cLg)]) (fun _ h => h.pk (by repeat (first | with_reducible exact pk_nil | refine pk_box rfl ?_ | refine pk_rd rfl ?_ | refine pk_sl rfl ?_ | with_reducible refine pk_app ?_ | with_reducible refine pk_app0 ?_ | with_reducible refine pk_app0L ?_ | with_reducible exact pk_tl | refine pk_var ?_))) ?_
 refine C_loop (ι := Nat × Value × Value × List Value) (fun q => ([(0, v), (1, q.2.2.1), (3, .int .i64 (n : Int)), (14, q.2.1), (41, z), (42, .int .i64 (xs.map cLg).length), (43, .int .i64 (q.1 : Int))], (rd q.2.2.1 4 ((folM ts ls xs n q.1).map cLd) :: sl q.2.1 23 1 (q.2.2.2.reverse.map fun x => [x]) :: rd v 4 (ts.map cCp) :: rd z 5 (xs.map cLg) :: rlR 139 ts ls xs n q.2.2.2))) (fun q => q.1 ≤ xs.length ∧ q.2.2.2.length = q.1) (fun q => xs.length - q.1) (0, .slice none 0 0, u, []) ⟨Nat.zero_le _, rfl⟩ (fun a w hs => hs.weak ⟨rfl, rfl, rfl, rfl, rfl, rfl, rfl, trivial⟩ (fun h => h)) ?_
 rintro ⟨k, y, lv, vs⟩ ⟨hkl, hvl⟩
 dsimp only at hkl hvl ⊢
 refine C_seq ?_
 refine C_region ?_
 refine Jq (q_lss rfl rfl) ?_
 refine L_then ?_
 refine C_seq ?_
 refine C_dec rfl (fun h6 => ?_) (fun h6 => ?_)
 obtain ⟨x, he⟩ := get_some xs (k := k) (by omega); have hel := map_get cLg he; have hxx := (ckLeg_ok (ckLgs_ok hO.c x (List.mem_of_getElem? he))).1; have hF := folM_ok hok hO.c (show n ≤ 6 by omega) k
 refine C_skip_then ?_
 refine C_seq ?_
 refine C_block ?_
 refine C_seq ?_
 refine C_region ?_
 refine Jq (by first | exact q_index tb rfl rfl rfl rfl gvo (by omega) (by first | omega | (simp; done) | (simp; omega)) | exact q_indexP tb rfl rfl rfl rfl (by omega) (by omega)) ?_
 refine Jq (q_loadEA tb rfl rfl gvo (i := k) (o := 0) (by omega) hel rfl rfl) ?_
 refine L_alloc tb rfl rfl fun g16 => ?_
 refine L_st tb rfl rfl ?_
 refine L_then ?_
 refine C_seq ?_
 refine C_region ?_
 refine Jq (q_move rfl) ?_
 refine Jq (q_move rfl) ?_
 refine Jq (q_loadA tb rfl rfl bxo rfl rfl) ?_
 refine Jq (q_move rfl) ?_
 refine L_callS tb rfl rfl (ct_tissue_loaded _ _ x n ts (folM ts ls xs n k) (by omega) hxx hF.len (by omega) hF.c hF.x) (ps_cons gvo (ps_cons gvo no_ps)) rfl fun v51 => ?_
 refine Jq (q_assign rfl) ?_
 refine L_then ?_
 refine C_region ?_
 refine Jq (q_move rfl) ?_
 refine Jq (q_move rfl) ?_
 refine L_callSF tb rfl rfl (ct_CloneLoads v51 (loadedM ts (folM ts ls xs n k) x n) (by rw [loadedM_len hF.len]; omega)) (ps_cons gvo no_ps) rfl fun A54 n54 c54 => ?_
 refine L_mk (lo_bslice tb rfl rfl rfl (xs := [[.slice A54 n54 c54]]) rfl rfl (by simp) rfl (by omega) rfl) rfl rfl rfl fun v55 => ?_
 refine L_ap tb rfl rfl rfl rfl gvo (by simp [Value.oneCell']) (by simp [maxLen]; omega) (by simp; omega) fun v56 => ?_
 refine Jq (q_assign rfl) ?_
 refine L_blk ?_
 refine C_region ?_
 refine Jq (q_add rfl rfl (by first | exact IntWalk.i64_in _ (by omega) | rfl)) ?_
 refine Jq (q_move rfl) ?_
 refine L_end ?_
 have e9 : (loadedM ts (folM ts ls xs n k) x n).map cLd = (folM ts ls xs n (k + 1)).map cLd := by rw [folM_step he]
 have e8 : (vs.reverse.map fun x => [x]) ++ [[Value.slice A54 n54 c54]] = ((Value.slice A54 n54 c54 :: vs).reverse.map fun x => [x]) := by simp
 have e7 : (loadedM ts (folM ts ls xs n k) x n).map cLd = (folM ts ls xs n (vs.length + 1)).map cLd := by rw [hvl, folM_step he]
 exact fun ac_ wo_ hs_ => ⟨(k + 1, v56, v51, .slice A54 n54 c54 :: vs), ⟨by dsimp only; omega, by simp [hvl]⟩, (by dsimp only; omega), hs_.weak ⟨rfl, rfl, rfl, rfl, rfl, rfl, rfl, trivial⟩ (fun h_ => sl_to_rd (show WS _ _ (sl v51 139 4 ((folM ts ls xs n (k + 1)).map cLd) :: sl v56 23 1 ((.slice A54 n54 c54 :: vs).reverse.map fun x => [x]) :: rd v 4 (ts.map cCp) :: rd z 5 (xs.map cLg) :: sl (.slice A54 n54 c54) 139 4 ((folM ts ls xs n (vs.length + 1)).map cLd) :: rlR 139 ts ls xs n vs) _ from h_.pk (by repeat (first | with_reducible exact pk_nil | refine pk_box (by first | rfl | exact e9 | exact e8 | exact e7) ?_ | refine pk_rd rfl ?_ | refine pk_sl (by first | rfl | exact e9 | exact e8 | exact e7) ?_ | with_reducible refine pk_app ?_ | with_reducible refine pk_app0 ?_ | with_reducible refine pk_app0L ?_ | with_reducible exact pk_tl | refine pk_var ?_))))⟩
 refine C_exit ?_
 change C Tryz.prog _ _ _ _ _ _ _
 refine C_seq ?_
 refine C_region ?_
 refine Jq (q_move rfl) ?_
 refine Jq (q_assign rfl) ?_
 refine Jq (q_assign rfl) ?_
 refine L_then ?_
 refine C_ret ?_
 obtain rfl : k = xs.length := by omega
 exact ret_of (rs' := sl y 23 1 (vs.reverse.map fun x => [x]) :: rlR 139 ts ls xs n vs) (res2 rfl rfl rfl) (fun w_ h_ => h_.pk (by repeat (first | with_reducible exact pk_nil | refine pk_box rfl ?_ | refine pk_rd rfl ?_ | refine pk_sl rfl ?_ | with_reducible refine pk_app ?_ | with_reducible refine pk_app0 ?_ | with_reducible refine pk_app0L ?_ | with_reducible exact pk_tl | refine pk_var ?_))) FolP_own ⟨_, _, by rw [hO9], rfl, by rw [hO9, if_pos rfl]; omega⟩
end Go.Proofs.YthilaakeimfedaaGreatDoor
