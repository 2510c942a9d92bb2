/-
  Walks: each function named returns what its model says. Conditions: those in front of each theorem.
-/
import Derived.Test.YthilaakeimfedaaGreatDoorTab
import Derived.Test.YthilaakeimfedaaGreatDoorShCopy
import Derived.Test.YthilaakeimfedaaGreatDoorR
import Derived.Test.YthilaakeimfedaaGreatDoorMod8
import Derived.Test.YthilaakeimfedaaGreatDoorShStop
namespace Go.Proofs.YthilaakeimfedaaGreatDoor
open Go.RowKit

set_option maxRecDepth 100000 in
theorem ct_math_bits_Mul64 (n : Int) (h : 0 ≤ n ∧ n < 4294967296) : Ct Tryz.prog 225 [.int .u64 1, .int .u64 n] [] (isV (.tuple #[.int .u64 0, .int .u64 n])) := by
 refine Ct.of (N := 51) Tryz.func225 rfl rfl rfl fun w => ?_
 refine C_weak (E' := [(0, .int .u64 1), (1, .int .u64 n)]) (rs' := []) ⟨rfl, rfl, trivial⟩ (fun _ h => h) ?_
 refine C_seq ?_
 refine C_region ?_
 refine Jq (q_assign rfl) ?_
 refine Jq (q_assign rfl) ?_
 refine L_then ?_
 refine C_seq ?_
 refine C_region ?_
 refine Jq (q_move rfl) ?_
 refine Jq (q_and32 rfl rfl (by omega) (by omega)) ?_
 refine Jq (q_assign rfl) ?_
 refine L_then ?_
 refine C_seq ?_
 refine C_region ?_
 refine Jq (q_move rfl) ?_
 refine Jq (q_shr rfl rfl (by omega) (shr32 (by omega))) ?_
 refine Jq (q_assign rfl) ?_
 refine L_then ?_
 refine C_seq ?_
 refine C_region ?_
 refine Jq (q_move rfl) ?_
 refine Jq (q_and32 rfl rfl (by omega) (by omega)) ?_
 refine Jq (q_assign rfl) ?_
 refine L_then ?_
 refine C_seq ?_
 refine C_region ?_
 refine Jq (q_move rfl) ?_
 refine Jq (q_shr rfl rfl (by omega) (shr32 (by omega))) ?_
 refine Jq (q_assign rfl) ?_
 refine L_then ?_
 refine C_seq ?_
 refine C_region ?_
 refine Jq (q_move rfl) ?_
 refine Jq (q_move rfl) ?_
 refine Jq (q_mul rfl rfl (wrU (b := n) (by omega) (by omega))) ?_
 refine Jq (q_assign rfl) ?_
 refine L_then ?_
 refine C_seq ?_
 refine C_region ?_
 refine Jq (q_move rfl) ?_
 refine Jq (q_move rfl) ?_
 refine Jq (q_mul rfl rfl (wrU (b := 0) (by omega) (by omega))) ?_
 refine Jq (q_move rfl) ?_
 refine Jq (q_shr rfl rfl (by omega) (shr32 (by omega))) ?_
 refine Jq (q_add rfl rfl (wrU (b := 0) (by omega) (by omega))) ?_
 refine Jq (q_assign rfl) ?_
 refine L_then ?_
 refine C_seq ?_
 refine C_region ?_
 refine Jq (q_move rfl) ?_
 refine Jq (q_and32 rfl rfl (by omega) (by omega)) ?_
 refine Jq (q_assign rfl) ?_
 refine L_then ?_
 refine C_seq ?_
 refine C_region ?_
 refine Jq (q_move rfl) ?_
 refine Jq (q_shr rfl rfl (by omega) (shr32 (by omega))) ?_
 refine Jq (q_assign rfl) ?_
 refine L_then ?_
 refine C_seq ?_
 refine C_region ?_
 refine Jq (q_move rfl) ?_
 refine Jq (q_move rfl) ?_
 refine Jq (q_move rfl) ?_
 refine Jq (q_mul rfl rfl (wrU (b := 0) (by omega) (by omega))) ?_
 refine Jq (q_add rfl rfl (wrU (b := 0) (by omega) (by omega))) ?_
 refine Jq (q_assign rfl) ?_
 refine L_then ?_
 refine C_seq ?_
 refine C_region ?_
 refine Jq (q_move rfl) ?_
 refine Jq (q_move rfl) ?_
 refine Jq (q_mul rfl rfl (wrU (b := 0) (by omega) (by omega))) ?_
 refine Jq (q_move rfl) ?_
 refine Jq (q_add rfl rfl (wrU (b := 0) (by omega) (by omega))) ?_
 refine Jq (q_move rfl) ?_
 refine Jq (q_shr rfl rfl (by omega) (shr32 (by omega))) ?_
 refine Jq (q_add rfl rfl (wrU (b := 0) (by omega) (by omega))) ?_
 refine Jq (q_assign rfl) ?_
 refine L_then ?_
 refine C_seq ?_
 refine C_region ?_
 refine Jq (q_move rfl) ?_
 refine Jq (q_move rfl) ?_
 refine Jq (q_mul rfl rfl (wrU (b := n) (by omega) (by omega))) ?_
 refine Jq (q_assign rfl) ?_
 refine L_then ?_
 refine C_ret ?_
 exact ret_of (res2 rfl rfl rfl) sub_nil (by intro r hr; cases hr) ⟨rfl, rfl⟩
set_option maxRecDepth 100000 in
theorem ct_math_bits_Mul (n : Int) (h : 0 ≤ n ∧ n < 4294967296) : Ct Tryz.prog 200 [.int .u64 1, .int .u64 n] [] (isV (.tuple #[.int .u64 0, .int .u64 n])) := by
 refine Ct.of (N := 30) Tryz.func200 rfl rfl rfl fun w => ?_
 refine C_weak (E' := [(0, .int .u64 1), (1, .int .u64 n)]) (rs' := []) ⟨rfl, rfl, trivial⟩ (fun _ h => h) ?_
 refine C_seq ?_
 refine C_region ?_
 refine Jq (q_assign rfl) ?_
 refine Jq (q_assign rfl) ?_
 refine L_then ?_
 refine C_seq ?_
 refine C_false rfl ?_
 refine C_skip_then ?_
 refine C_seq ?_
 refine C_region ?_
 refine Jq (q_move rfl) ?_
 refine Jq (q_move rfl) ?_
 refine L_call tb rfl rfl (ct_math_bits_Mul64 _ (by omega)) no_ps rfl ?_
 refine Jq (q_move rfl) ?_
 refine Jq (q_ext0 rfl) ?_
 refine Jq (q_ext1 rfl) ?_
 refine Jq (q_assign rfl) ?_
 refine Jq (q_assign rfl) ?_
 refine L_then ?_
 refine C_seq ?_
 refine C_region ?_
 refine Jq (q_move rfl) ?_
 refine Jq (q_move rfl) ?_
 refine Jq (q_assign rfl) ?_
 refine Jq (q_assign rfl) ?_
 refine L_then ?_
 refine C_ret ?_
 exact ret_of (res2 rfl rfl rfl) sub_nil (by intro r hr; cases hr) ⟨rfl, rfl⟩
set_option maxRecDepth 100000 in
theorem ct_slices_Repeat_shotline_api_TissueLoad_shotline_api_TissueLoad (v : Value) (c : List Value) (n : Nat) (hn : 1 ≤ n ∧ n ≤ 100000) (hz1 : ∀ x ∈ c, x.oneCell' = true) : Ct Tryz.prog 154 [v, .int .i64 (n : Int)] [(v, 4, [c])] (isSl 139 4 (List.replicate n c)) := by
 refine Ct.of (N := 48) Tryz.func154 rfl rfl rfl fun w => ?_
 refine C_weak (E' := [(0, v), (1, .int .i64 (n : Int))]) (rs' := [rd v 4 ([c])]) ⟨rfl, rfl, trivial⟩ (fun _ h => h) ?_
 obtain ⟨zs9, hz9⟩ : ∃ z : List Value, z = [.int .i64 0, .int .i64 0, .int .i64 0, .int .i64 0] := ⟨_, rfl⟩
 refine C_seq ?_
 refine C_region ?_
 refine Jq (q_assign rfl) ?_
 refine L_then ?_
 refine C_seq ?_
 refine C_seq ?_
 refine C_region ?_
 refine Jq (q_move rfl) ?_
 refine Jq (q_lss rfl rfl) ?_
 refine L_then ?_
 refine C_dec rfl (fun h1 => ?_) (fun h1 => ?_)
 exfalso; omega
 refine C_skip_then ?_
 refine C_seq ?_
 refine C_region ?_
 refine Jq (q_move rfl) ?_
 refine Jq (q_len tb rfl rfl (by first | exact gvo | exact gvd gvo (by omega))) ?_
 refine Jq (q_conv tb rfl rfl rfl (wrU (b := 1) (by simp) (by omega))) ?_
 refine Jq (q_move rfl) ?_
 refine Jq (q_conv tb rfl rfl rfl (wrU (b := (n : Int)) rfl (by omega))) ?_
 refine L_call tb rfl rfl (ct_math_bits_Mul (n : Int) (by omega)) no_ps rfl ?_
 refine Jq (q_move rfl) ?_
 refine Jq (q_ext0 rfl) ?_
 refine Jq (q_ext1 rfl) ?_
 refine Jq (q_assign rfl) ?_
 refine Jq (q_assign rfl) ?_
 refine L_then ?_
 refine C_seq ?_
 refine C_seq ?_
 refine C_region ?_
 refine Jq (q_move rfl) ?_
 refine Jq (q_gtr rfl rfl) ?_
 refine Jq (q_move rfl) ?_
 refine L_dec (d := 23) rfl (fun h2 => ?_) (fun h2 => ?_)
 exfalso; omega
 refine Jg (q_move rfl) ?_
 refine Jg (q_gtr rfl rfl) ?_
 refine Jq (q_pickF rfl rfl) ?_
 refine L_then ?_
 refine C_dec rfl (fun h3 => ?_) (fun h3 => ?_)
 exfalso; omega
 refine C_skip_then ?_
 refine C_seq ?_
 refine C_region ?_
 refine Jq (q_move rfl) ?_
 refine Jq (q_conv tb rfl rfl rfl (by first | exact IntWalk.i64_in _ (by omega) | rfl)) ?_
 refine L_mk (lo_make tb rfl rfl rfl (n := n) rfl rfl (by omega) (by simp [maxLen]; omega)) rfl rfl rfl fun v30 => ?_
 refine Jq (q_assign rfl) ?_
 refine L_then ?_
 refine C_seq ?_
 rw [← hz9]
 refine C_formC (v := v30) gvo (fun A9 c9 hv9 hc9 => ?_)
 rw [List.length_replicate] at hv9 hc9
 subst hv9
 refine C_region ?_
 refine Jq (q_move rfl) ?_
 refine Jq (q_move rfl) ?_
 first | refine L_copy tb (k := 0) (q := 1) rfl rfl rfl CpTo.self rfl (by first | exact gvo | exact gvd gvo (by omega)) (fun x hx => hz1 x (by simpa using hx)) (by first | omega | (simp; done) | (simp; omega)) (by first | omega | (simp; done) | (simp; omega)) (by first | omega | (simp; done) | (simp; omega)) rfl ?_ | (refine L_front1 ?_; refine L_copy tb (k := 0) (q := 1) rfl rfl rfl CpTo.self rfl (by first | exact gvo | exact gvd gvo (by omega)) (fun x hx => hz1 x (by simpa using hx)) (by first | omega | (simp; done) | (simp; omega)) (by first | omega | (simp; done) | (simp; omega)) (by first | omega | (simp; done) | (simp; omega)) rfl ?_) | (refine L_front2 ?_; refine L_copy tb (k := 0) (q := 1) rfl rfl rfl CpTo.self rfl (by first | exact gvo | exact gvd gvo (by omega)) (fun x hx => hz1 x (by simpa using hx)) (by first | omega | (simp; done) | (simp; omega)) (by first | omega | (simp; done) | (simp; omega)) (by first | omega | (simp; done) | (simp; omega)) rfl ?_) | (refine L_front3 ?_; refine L_copy tb (k := 0) (q := 1) rfl rfl rfl CpTo.self rfl (by first | exact gvo | exact gvd gvo (by omega)) (fun x hx => hz1 x (by simpa using hx)) (by first | omega | (simp; done) | (simp; omega)) (by first | omega | (simp; done) | (simp; omega)) (by first | omega | (simp; done) | (simp; omega)) rfl ?_)
 refine Jq (q_assign rfl) ?_
 refine L_then ?_
 refine C_seq ?_
 refine C_block ?_
 refine C_res (rs' := [sl (.slice A9 n c9) 139 4 (List.replicate 1 c ++ List.replicate (n - 1) zs9), rd v 4 [c]]) (fun _ h => h.pk (by repeat (first | with_reducible exact pk_nil | refine pk_box (by first | rfl | exact rep_first c zs9 (n := n)) ?_ | refine pk_rd rfl ?_ | refine pk_sl (by first | rfl | exact rep_first c zs9 (n := n)) ?_ | with_reducible refine pk_app ?_ | with_reducible refine pk_app0 ?_ | with_reducible refine pk_app0L ?_ | with_reducible exact pk_tl | refine pk_var ?_))) ?_
 refine C_loop (ι := Nat) (fun k => ([(7, .slice A9 n c9), (8, .int .i64 (k : Int))], [sl (.slice A9 n c9) 139 4 (List.replicate k c ++ List.replicate (n - k) zs9), rd v 4 [c]])) (fun k => 1 ≤ k ∧ k ≤ n) (fun k => n - k) 1 ⟨by omega, by omega⟩ (fun a w hs => hs.weak ⟨rfl, rfl, trivial⟩ (fun h => h.pk (by repeat (first | with_reducible exact pk_nil | refine pk_box rfl ?_ | refine pk_rd rfl ?_ | refine pk_sl rfl ?_ | with_reducible refine pk_app ?_ | with_reducible refine pk_app0 ?_ | with_reducible refine pk_app0L ?_ | with_reducible exact pk_tl | refine pk_var ?_)))) ?_
 rintro k ⟨hk1, hkn⟩
 dsimp only at hk1 hkn ⊢
 have hl9 : (List.replicate k c ++ List.replicate (n - k) zs9).length = n := by simp; omega
 refine C_seq ?_
 refine C_seq ?_
 refine C_region ?_
 refine Jq (q_move rfl) ?_
 refine Jq (q_move rfl) ?_
 refine Jq (q_len tb rfl rfl (by first | exact gvo | exact gvd gvo (by omega))) ?_
 refine Jq (q_lss rfl rfl) ?_
 refine L_then ?_
 refine C_dec rfl (fun h4 => ?_) (fun h4 => ?_)
 refine C_skip_then ?_
 refine C_block ?_
 refine Kp.C_ownS [.q 0, .q 1, .q 2, .q 3, .q 4, .q 5, .q 6, .s 7, .q 8, .q 9] mixed (by kernel_rfl) rfl (by kernel_rfl) ?_
 refine Kp.X_q rfl rfl rfl rfl (q_move rfl) ?_
 refine Kp.X_q rfl rfl rfl rfl (q_move rfl) ?_
 refine Kp.X_q rfl rfl rfl rfl (q_move rfl) ?_
 refine Kp.X_q rfl rfl rfl rfl (q_fromF tb rfl rfl rfl rfl (by omega) (by omega)) ?_
 refine Kp.X_q rfl rfl rfl rfl (q_move rfl) ?_
 refine Kp.X_q rfl rfl rfl rfl (q_move rfl) ?_
 refine Kp.X_q rfl rfl rfl rfl (q_toF tb rfl rfl rfl rfl (by omega) (by omega)) ?_
 refine Kp.X_copy tb (k := k) (q := (min k (n - k))) rfl rfl rfl rfl rfl CpTo.from rfl (gvt gvo (by omega)) (fun x hx => hz1 x (by rw [List.take_append_of_le_length (by simp), List.take_of_length_le (by simp)] at hx; exact rep_mem hx)) (by first | omega | (simp; done) | (simp; omega)) (by first | omega | (simp; done) | (simp; omega)) (by first | omega | (simp; done) | (simp; omega)) rfl ?_
 refine Kp.X_q rfl rfl rfl rfl (q_add rfl rfl (by first | exact IntWalk.i64_in _ (by omega) | rfl)) ?_
 refine Kp.X_q rfl rfl rfl rfl (q_assign rfl) ?_
 refine Kp.X_nil ?_
 dsimp only [List.cons_append, List.nil_append]
 refine L_end ?_
 have e9 := rep_next c zs9 (k := k) (n := n) (q := min k (n - k)) rfl
 exact fun ac_ wo_ hs_ => ⟨(k + min k (n - k)), ⟨by omega, by omega⟩, (by dsimp only; omega), hs_.weak ⟨rfl, rfl, trivial⟩ (fun h => h.pk (by repeat (first | with_reducible exact pk_nil | refine pk_box (by first | rfl | exact e9) ?_ | refine pk_rd rfl ?_ | refine pk_sl (by first | rfl | exact e9) ?_ | with_reducible refine pk_app ?_ | with_reducible refine pk_app0 ?_ | with_reducible refine pk_app0L ?_ | with_reducible exact pk_tl | refine pk_var ?_)))⟩
 refine C_exit ?_
 change C Tryz.prog _ _ _ _ _ _ _
 refine C_seq ?_
 refine C_region ?_
 refine Jq (q_move rfl) ?_
 refine Jq (q_assign rfl) ?_
 refine L_then ?_
 refine C_ret ?_
 rw [rep_all c zs9 (k := k) (n := n) (by omega) hkn]
 exact ret_of (rs' := [sl (.slice A9 n c9) 139 4 (List.replicate n c)]) (res1 rfl rfl) (fun _ h => h.sub (by repeat (first | exact List.Sublist.refl _ | apply List.Sublist.cons_cons | apply List.Sublist.cons))) own1 rfl
end Go.Proofs.YthilaakeimfedaaGreatDoor
namespace Go.Proofs.YthilaakeimfedaaGreatDoor
def cDv (v u : Value) (x : Lg) (fi : Int) : List Value := [v, u, .int .i64 x.f, .int .i64 x.t, .int .i64 x.s, .int .i64 x.g.o, .int .i64 x.g.h, .int .i64 fi]
def cDl (x : Dl) : List Value := [.int .i64 x.s, .int .i64 x.d, .int .i64 x.g]
end Go.Proofs.YthilaakeimfedaaGreatDoor
namespace Go.Proofs.YthilaakeimfedaaGreatDoor
open Go.RowKit

section
variable {ts : List Cp} {ls : List Ld} {xs : List Lg} {x : Lg} {f k : Nat} {fi : Int}
def ckLgs : List Lg → Int
  | [] => 0
  | x :: t => if ckLeg x ≠ 0 then ckLeg x else ckLgs t
structure okFol (ts : List Cp) (ls : List Ld) (xs : List Lg) (fi : Int) : Prop where
  k : okTL ts ls
  l : xs.length ≤ 200
  c : ckLgs xs = 0
  f : 0 ≤ fi ∧ fi ≤ 6
end
section
variable {rs rs1 t s : List Res} {r : Res}
instance (priority := low) rmBC {g : Nat} {u : TypeId} {xs : List Value} [h : RmB t g u xs rs1] : RmB (s ++ t) g u xs (s ++ rs1) := ⟨List.perm_middle.symm.trans (h.out.append_left s)⟩
instance (priority := low) rmRC {v : Value} {size : Nat} {l : List (List Value)} [h : RmR t v size l rs1] : RmR (s ++ t) v size l (s ++ rs1) := ⟨List.perm_middle.symm.trans (h.out.append_left s)⟩
instance (priority := low) rmSC {v : Value} {e size : Nat} {l : List (List Value)} [h : RmS t v e size l rs1] : RmS (s ++ t) v e size l (s ++ rs1) := ⟨List.perm_middle.symm.trans (h.out.append_left s)⟩
instance (priority := low) tlC [h : Tl rs t] : Tl (rs ++ s) t := ⟨by
  obtain ⟨d, hd⟩ := h.out
  exact ⟨d ++ s, by rw [← List.append_assoc]; exact hd.append_right s⟩⟩
end
end Go.Proofs.YthilaakeimfedaaGreatDoor
namespace Go.Proofs.YthilaakeimfedaaGreatDoor
set_option maxRecDepth 100000
set_option maxHeartbeats 4000000
open Go.RowKit

set_option maxRecDepth 100000 in
theorem ct_shotlinebase_Mod (n b : Int) (hb : 1 ≤ b ∧ b ≤ 4000000000000000000) : Ct Tryz.prog 67 [.int .i64 n, .int .i64 b] [] (isV (.int .i64 (n % b))) := by
 refine Ct.of (N := 14) Tryz.func67 rfl rfl rfl fun w => ?_
 refine C_weak (E' := [(0, .int .i64 n), (1, .int .i64 b)]) (rs' := []) ⟨rfl, rfl, trivial⟩ (fun _ h => h) ?_
 have ht := tmod_in (n := n) hb.1
 refine C_seq ?_
 refine C_region ?_
 refine Jq (q_assign rfl) ?_
 refine L_then ?_
 refine C_seq ?_
 refine C_region ?_
 refine Jq (q_move rfl) ?_
 refine Jq (q_move rfl) ?_
 refine Jq (q_rem rfl rfl (by omega) rfl) ?_
 refine Jq (q_assign rfl) ?_
 refine L_then ?_
 refine C_seq ?_
 refine C_seq ?_
 refine C_region ?_
 refine Jq (q_move rfl) ?_
 refine Jq (q_lss rfl rfl) ?_
 refine L_then ?_
 refine C_dec rfl (fun hc => ?_) (fun hc => ?_)
 refine C_region ?_
 refine Jq (q_move rfl) ?_
 refine Jq (q_move rfl) ?_
 refine Jq (q_add rfl rfl (by first | exact IntWalk.i64_in _ (by omega) | rfl)) ?_
 refine Jq (q_assign rfl) ?_
 refine L_then ?_
 refine C_seq ?_
 refine C_region ?_
 refine Jq (q_move rfl) ?_
 refine Jq (q_assign rfl) ?_
 refine L_then ?_
 refine C_ret ?_
 exact ret_of (res1 rfl rfl) sub_nil (by intro r hr; cases hr) ⟨(congrArg (Value.int .i64) (by exact emod_yes hb.1 hc)), rfl⟩
 refine C_skip_then ?_
 refine C_seq ?_
 refine C_region ?_
 refine Jq (q_move rfl) ?_
 refine Jq (q_assign rfl) ?_
 refine L_then ?_
 refine C_ret ?_
 exact ret_of (res1 rfl rfl) sub_nil (by intro r hr; cases hr) ⟨(congrArg (Value.int .i64) (by exact emod_no hb.1 hc)), rfl⟩
end Go.Proofs.YthilaakeimfedaaGreatDoor
namespace Go.Proofs.YthilaakeimfedaaGreatDoor
open Go.RowKit

theorem satM_cells (ts : List Cp) (g : Gs) (p : Int) : List.replicate (ts.map cCp).length (cLd (satL g p)) = (satM ts g p).map cLd := by unfold satM; rw [List.map_replicate, List.length_map]
set_option maxRecDepth 100000 in
theorem ct_tissue_Saturated (v : Value) (g : Gs) (p : Int) (ts : List Cp) (hle : ts.length ≤ 1000000) : Ct Tryz.prog 82 [v, .agg #[.int .i64 g.o, .int .i64 g.h], .int .i64 p] [(v, 4, ts.map cCp)] (isSlN 139 4 ((satE ts g p).1.map cLd) (.int .i64 (satE ts g p).2)) := by
 refine Ct.of (N := 42) Tryz.func82 rfl rfl rfl fun w => ?_
 refine C_weak (E' := [(0, v), (1, .agg #[.int .i64 g.o, .int .i64 g.h]), (2, .int .i64 p)]) (rs' := [rd v 4 (ts.map cCp)]) ⟨rfl, rfl, rfl, trivial⟩ (fun _ h => h) ?_
 have hl1 := len_map cCp ts
 refine C_seq ?_
 refine C_region ?_
 refine L_box rfl rfl rfl fun g4 => ?_
 refine Jq (q_assign rfl) ?_
 refine Jq (q_assign rfl) ?_
 refine L_then ?_
 refine C_seq ?_
 refine C_seq ?_
 refine C_region ?_
 refine Jq (q_move rfl) ?_
 refine L_call tb rfl rfl (ct_tissue_CheckTable v ts hle) (ps_cons gvo no_ps) rfl ?_
 refine Jq (q_assign rfl) ?_
 refine L_then ?_
 refine C_seq ?_
 refine C_region ?_
 refine Jq (q_move rfl) ?_
 refine Jq (q_neq rfl rfl) ?_
 refine L_then ?_
 refine C_dec rfl (fun h1 => ?_) (fun h1 => ?_)
 refine C_seq ?_
 refine C_region ?_
 refine Jq (q_move rfl) ?_
 refine Jq (q_assign rfl) ?_
 refine Jq (q_assign rfl) ?_
 refine L_then ?_
 refine C_ret ?_
 rw [satE_1 h1]
 exact ret_of (rs' := [sl (.slice none 0 0) 139 4 []]) (res2 rfl rfl rfl) (fun w_ h_ => ws_nil (sub_nil w_ h_)) own1 ⟨_, rfl, rfl⟩
 refine C_skip_then ?_
 refine C_seq ?_
 refine C_seq ?_
 refine C_region ?_
 refine Jq (q_loadA tb rfl rfl bxo rfl rfl) ?_
 refine L_call tb rfl rfl (ct_gas_CheckGas g.o g.h) no_ps rfl ?_
 refine Jq (q_assign rfl) ?_
 refine L_then ?_
 refine C_seq ?_
 refine C_region ?_
 refine Jq (q_move rfl) ?_
 refine Jq (q_neq rfl rfl) ?_
 refine L_then ?_
 refine C_dec rfl (fun h2 => ?_) (fun h2 => ?_)
 refine C_seq ?_
 refine C_region ?_
 refine Jq (q_move rfl) ?_
 refine Jq (q_assign rfl) ?_
 refine Jq (q_assign rfl) ?_
 refine L_then ?_
 refine C_ret ?_
 rw [satE_2 (Decidable.not_not.1 h1) h2]
 exact ret_of (rs' := [sl (.slice none 0 0) 139 4 []]) (res2 rfl rfl rfl) (fun w_ h_ => ws_nil (sub_nil w_ h_)) own1 ⟨_, rfl, rfl⟩
 have hg9 := ckGas_rg (Decidable.not_not.1 h2)
 refine C_skip_then ?_
 refine C_seq ?_
 refine C_seq ?_
 refine C_region ?_
 refine Jq (q_move rfl) ?_
 refine L_call tb rfl rfl (ct_tissue_isPressure p) no_ps rfl ?_
 refine Jq (q_not rfl decide_not.symm) ?_
 refine L_then ?_
 refine C_dec rfl (fun h3 => ?_) (fun h3 => ?_)
 refine C_seq ?_
 refine C_region ?_
 refine Jq (q_assign rfl) ?_
 refine Jq (q_assign rfl) ?_
 refine L_then ?_
 refine C_ret ?_
 rw [satE_3 (Decidable.not_not.1 h1) (Decidable.not_not.1 h2) (fun hh => h3 (by unfold okPr at hh; exact hh))]
 exact ret_of (rs' := [sl (.slice none 0 0) 139 4 []]) (res2 rfl rfl rfl) (fun w_ h_ => ws_nil (sub_nil w_ h_)) own1 ⟨_, rfl, rfl⟩
 have ht9 := ckTab_yes9 (Decidable.not_not.1 h1)
 refine C_skip_then ?_
 refine C_seq ?_
 refine C_region ?_
 refine Jq (q_loadA tb rfl rfl bxo rfl rfl) ?_
 refine Jq (q_move rfl) ?_
 refine L_call tb rfl rfl (ct_tissue_breathed g.o g.h p (by omega) (by omega)) no_ps rfl ?_
 refine Jq (q_move rfl) ?_
 refine Jq (q_ext0 rfl) ?_
 refine Jq (q_ext1 rfl) ?_
 refine Jq (q_assign rfl) ?_
 refine Jq (q_assign rfl) ?_
 refine L_then ?_
 refine C_seq ?_
 refine C_region ?_
 refine Jq (q_move rfl) ?_
 refine Jq (q_move rfl) ?_
 refine Jq (by first | exact q_build tb rfl rfl rfl rfl | exact q_buildArr tb rfl rfl rfl rfl rfl) ?_
 refine Jq (q_move rfl) ?_
 refine Jq (q_move rfl) ?_
 refine Jq (by first | exact q_build tb rfl rfl rfl rfl | exact q_buildArr tb rfl rfl rfl rfl rfl) ?_
 refine Jq (by first | exact q_build tb rfl rfl rfl rfl | exact q_buildArr tb rfl rfl rfl rfl rfl) ?_
 refine L_mk (lo_bslice tb rfl rfl rfl (xs := [cLd (satL g p)]) rfl rfl (by simp [cLd]) rfl (by omega) rfl) rfl rfl rfl fun v38 => ?_
 refine Jq (q_move rfl) ?_
 refine Jq (q_len tb rfl rfl gvo) ?_
 refine L_callS tb rfl rfl (ct_slices_Repeat_shotline_api_TissueLoad_shotline_api_TissueLoad v38 (cLd (satL g p)) (ts.map cCp).length (by omega) (by simp [cLd, Value.oneCell'])) (ps_cons gvo no_ps) rfl fun v41 => ?_
 refine Jq (q_assign rfl) ?_
 refine Jq (q_assign rfl) ?_
 refine L_then ?_
 refine C_ret ?_
 rw [satE_4 (Decidable.not_not.1 h1) (Decidable.not_not.1 h2) (by unfold okPr; omega)]
 exact ret_of (rs' := [sl v41 139 4 ((satM ts g p).map cLd)]) (res2 rfl rfl rfl) (fun w_ h_ => h_.pk (by repeat (first | with_reducible exact pk_nil | refine pk_box (by first | rfl | exact satM_cells _ _ _) ?_ | refine pk_rd rfl ?_ | refine pk_sl (by first | rfl | exact satM_cells _ _ _) ?_ | with_reducible refine pk_app ?_ | with_reducible refine pk_app0 ?_ | with_reducible refine pk_app0L ?_ | with_reducible exact pk_tl | refine pk_var ?_))) own1 ⟨_, rfl, rfl⟩
end Go.Proofs.YthilaakeimfedaaGreatDoor
namespace Go.Proofs.YthilaakeimfedaaGreatDoor
set_option maxRecDepth 100000
set_option maxHeartbeats 4000000
open Go.RowKit

set_option maxRecDepth 100000 in
theorem ct_tissue_breaks (v u : Value) (p f : Int) (ts : List Cp) (ls : List Ld) (hk : okTL ts ls) (hp : 0 ≤ p ∧ p ≤ 50000) (hf : 0 ≤ f ∧ f ≤ 1000) : Ct Tryz.prog 138 [v, u, .int .i64 p, .int .i64 f] [(v, 4, ts.map cCp), (u, 4, ls.map cLd)] (isV (.bool (decide (¬ lowP p f ts ls)))) := by
 refine Ct.of (N := 31) Tryz.func138 rfl rfl rfl fun w => ?_
 refine C_weak (E' := [(0, v), (1, u), (2, .int .i64 p), (3, .int .i64 f)]) (rs' := [rd v 4 (ts.map cCp), rd u 4 (ls.map cLd)]) ⟨rfl, rfl, rfl, rfl, trivial⟩ (fun _ h => h) ?_
 have hl := len_map cCp ts
 have hl2 := len_map cLd ls
 have hkb := hk.b; have hkl2 := hk.len
 refine C_seq ?_
 refine C_region ?_
 refine Jq (q_assign rfl) ?_
 refine L_then ?_
 refine C_seq ?_
 refine C_seq ?_
 refine C_region ?_
 refine Jq (q_move rfl) ?_
 refine Jq (q_len tb rfl rfl gvo) ?_
 refine Jq (q_move rfl) ?_
 refine L_then ?_
 refine C_block ?_
 refine C_loop (ι := Nat) (fun k => ([(1, u), (2, .int .i64 p), (3, .int .i64 f), (11, v), (12, .int .i64 (ts.map cCp).length), (13, .int .i64 k)], [rd v 4 (ts.map cCp), rd u 4 (ls.map cLd)])) (fun k => k ≤ ts.length ∧ (all2 (lw1 p f) (ts.drop k) (ls.drop k) ↔ all2 (lw1 p f) ts ls)) (fun k => ts.length - k) 0 ⟨Nat.zero_le _, Iff.rfl⟩ (fun a w hs => hs.weak ⟨rfl, rfl, rfl, rfl, rfl, rfl, trivial⟩ (fun h => h.sub (by repeat (first | exact List.Sublist.refl _ | apply List.Sublist.cons_cons | apply List.Sublist.cons)))) ?_
 rintro k ⟨hkl, hf9⟩
 dsimp only at hkl hf9 ⊢
 refine C_seq ?_
 refine C_region ?_
 refine Jq (q_lss rfl rfl) ?_
 refine L_then ?_
 refine C_seq ?_
 refine C_dec rfl (fun h1 => ?_) (fun h1 => ?_)
 obtain ⟨c, hec⟩ := get_some ts (k := k) (by omega); obtain ⟨x, hex⟩ := get_some ls (k := k) (by omega); have helc := map_get cCp hec; have helx := map_get cLd hex; have hck := hk.c c (List.mem_of_getElem? hec); have hxi := hk.x x (List.mem_of_getElem? hex); have x1 := hxi.1.a; have x2 := hxi.1.b; have x3 := hxi.1.c; have x4 := hxi.1.e; have x5 := hxi.2.a; have x6 := hxi.2.b; have x7 := hxi.2.c; have x8 := hxi.2.e; have hst := all2_step (R := lw1 p f) hec hex
 refine C_skip_then ?_
 refine C_seq ?_
 refine C_block ?_
 refine C_seq ?_
 refine C_region ?_
 refine Jq (q_move rfl) ?_
 refine Jq (by first | exact q_index tb rfl rfl rfl rfl gvo (by omega) (by first | omega | (simp; done) | (simp; omega)) | exact q_indexP tb rfl rfl rfl rfl (by omega) (by omega)) ?_
 refine Jq (q_loadEA tb rfl rfl gvo (i := k) (o := 0) (by omega) helc rfl rfl) ?_
 refine L_alloc tb rfl rfl fun g10 => ?_
 refine Jq (q_assign rfl) ?_
 refine L_st tb rfl rfl ?_
 refine L_then ?_
 refine C_seq ?_
 refine C_draw (n := 12) [(0, false), (1, false), (2, false), (3, false), (7, false), (8, false), (9, false), (4, true), (5, false), (6, false), (10, true), (11, false)] mixed (by kernel_rfl) ?_
 refine Yq rfl (q_move rfl) ?_
 refine Yq rfl (q_move rfl) ?_
 refine Yq rfl (by first | exact q_index tb rfl rfl rfl rfl gvo (by omega) (by first | omega | (simp; done) | (simp; omega)) | exact q_indexP tb rfl rfl rfl rfl (by omega) (by omega)) ?_
 refine Yq rfl (q_loadEA tb rfl rfl gvo (i := k) (o := 0) (by omega) helx rfl rfl) ?_
 refine Yq rfl (q_loadA tb rfl rfl bxo rfl rfl) ?_
 refine Yq rfl (q_move rfl) ?_
 refine Yq rfl (q_move rfl) ?_
 refine W_call tb rfl rfl rfl rfl (ct_tissue_total x hxi) no_ps rfl ?_
 refine Yq rfl (by first | exact q_fieldV (off := 0) (sz := 1) (by kernel_rfl) rfl rfl | exact q_fieldVA (off := 0) (sz := 1) (by kernel_rfl) rfl rfl) ?_
 have hlim := lim_in hck hp hf
 refine Yq rfl (q_mul rfl rfl (by first | exact IntWalk.i64_in _ (by omega) | rfl)) ?_
 refine W_call tb rfl rfl rfl rfl (ct_tissue_limit c p f hck hp hf) no_ps rfl ?_
 refine Yq rfl (q_gtr rfl rfl) ?_
 refine W_nil ?_
 refine L_then ?_
 refine C_dec rfl (fun h2 => ?_) (fun h2 => ?_)
 have hno : ¬ all2 (lw1 p f) ts ls := fun hh => by have h9 := (hst.1 (hf9.2 hh)).1; unfold lw1 at h9; omega
 refine C_seq ?_
 refine C_region ?_
 refine Jq (q_assign rfl) ?_
 refine L_then ?_
 refine C_ret ?_
 exact ret_of (res1 rfl rfl) sub_nil (by intro r hr; cases hr) ⟨(congrArg Value.bool (decide_eq_true hno).symm), rfl⟩
 refine C_skip_blk ?_
 refine C_region ?_
 refine Jq (q_add rfl rfl (by first | exact IntWalk.i64_in _ (by omega) | rfl)) ?_
 refine Jq (q_move rfl) ?_
 refine L_end ?_
 exact fun ac_ wo_ hs_ => ⟨k + 1, ⟨by omega, by rw [← hf9]; exact ⟨fun h => hst.2 ⟨by unfold lw1; omega, h⟩, fun h => (hst.1 h).2⟩⟩, (by dsimp only; omega), hs_.weak ⟨rfl, rfl, rfl, rfl, rfl, rfl, trivial⟩ (fun h => h.sub (by repeat (first | exact List.Sublist.refl _ | apply List.Sublist.cons_cons | apply List.Sublist.cons)))⟩
 refine C_exit ?_
 change C Tryz.prog _ _ _ _ _ _ _
 refine C_seq ?_
 refine C_region ?_
 refine Jq (q_assign rfl) ?_
 refine L_then ?_
 refine C_ret ?_
 exact ret_of (res1 rfl rfl) sub_nil (by intro r hr; cases hr) ⟨(congrArg Value.bool (decide_eq_false (fun h => h (hf9.1 (all2_end (by omega))))).symm), rfl⟩
set_option maxRecDepth 100000 in
theorem ct_tissue_answer (y n : Bool) : Ct Tryz.prog 136 [.bool y, .bool n] [] (isV (.int .i64 (if y = true then 2 else if n = true then 0 else 1))) := by
 refine Ct.of (N := 9) Tryz.func136 rfl rfl rfl fun w => ?_
 refine C_weak (E' := [(0, .bool y), (1, .bool n)]) (rs' := []) ⟨rfl, rfl, trivial⟩ (fun _ h => h) ?_
 refine C_seq ?_
 refine C_region ?_
 refine Jq (q_assign rfl) ?_
 refine L_then ?_
 refine C_seq ?_
 refine C_block ?_
 refine C_seq ?_
 refine C_region ?_
 refine Jq (q_move rfl) ?_
 refine Jq (q_assign rfl) ?_
 refine L_then ?_
 refine C_bool rfl (fun hy => ?_) (fun hy => ?_)
 refine C_seq ?_
 refine C_region ?_
 refine Jq (q_assign rfl) ?_
 refine L_then ?_
 refine C_ret ?_
 exact ret_of (res1 rfl rfl) sub_nil (by intro r hr; cases hr) ⟨(congrArg (Value.int .i64) (by subst hy; first | rfl | (subst hn; rfl))), rfl⟩
 refine C_seq ?_
 refine C_region ?_
 refine Jq (q_move rfl) ?_
 refine Jq (q_assign rfl) ?_
 refine L_then ?_
 refine C_bool rfl (fun hn => ?_) (fun hn => ?_)
 refine C_seq ?_
 refine C_region ?_
 refine Jq (q_assign rfl) ?_
 refine L_then ?_
 refine C_ret ?_
 exact ret_of (res1 rfl rfl) sub_nil (by intro r hr; cases hr) ⟨(congrArg (Value.int .i64) (by subst hy; first | rfl | (subst hn; rfl))), rfl⟩
 refine C_skip_blk ?_
 refine C_seq ?_
 refine C_region ?_
 refine Jq (q_assign rfl) ?_
 refine L_then ?_
 refine C_ret ?_
 exact ret_of (res1 rfl rfl) sub_nil (by intro r hr; cases hr) ⟨(congrArg (Value.int .i64) (by subst hy; first | rfl | (subst hn; rfl))), rfl⟩
end Go.Proofs.YthilaakeimfedaaGreatDoor
