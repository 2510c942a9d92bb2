/-
  Walks: each function named returns what its model says. Conditions: those in front of each theorem.
-/
import Derived.Test.YtdmnejfpbbmcaaaTab
import Derived.Test.YtdmnejfpbbmcaaaShBool
import Derived.Test.YtdmnejfpbbmcaaaXI
import Derived.Test.YtdmnejfpbbmcaaaXp9
import Derived.Test.YtdmnejfpbbmcaaaYB
namespace Go.Proofs.Ytdmnejfpbbmcaaa
open Go.RowKit
theorem eq80 : EqT Try.prog 2 80 2 := EqT.of tb (l := [(false, 0, 3), (false, 1, 3)]) (by kernel_rfl) (by kernel_rfl) (by kernel_rfl) (.int rfl rfl (.int rfl rfl (.nil _)))
theorem eg80 : Try.prog.eqGuardType Try.prog.depth 80 = false := by kernel_rfl
theorem eq82 : EqT Try.prog 2 82 3 := EqT.of tb (l := [(false, 0, 3), (false, 1, 3), (false, 2, 3)]) (by kernel_rfl) (by kernel_rfl) (by kernel_rfl) (.int rfl rfl (.int rfl rfl (.int rfl rfl (.nil _))))
theorem eg82 : Try.prog.eqGuardType Try.prog.depth 82 = false := by kernel_rfl
end Go.Proofs.Ytdmnejfpbbmcaaa
namespace Go.Proofs.Ytdmnejfpbbmcaaa
open Go.RowKit

set_option maxRecDepth 100000 in
theorem ct_shotlinebase_Ints (v u : Value) (ns : List Int) (hle : ns.length ≤ 100000) : Ct Try.prog 32 [v, u] [(v, 1, ns.map cI), (u, 1, ns.map cI)] (isV (.bool true)) := by
 refine Ct.of (N := 26) Try.func32 rfl rfl rfl fun w => ?_
 refine C_weak (E' := [(0, v), (1, u)]) (rs' := [rd v 1 (ns.map cI), rd u 1 (ns.map cI)]) ⟨rfl, rfl, trivial⟩ (fun _ h => h) ?_
 have hl := len_map cI ns
 refine C_seq ?_
 refine C_region ?_
 refine Jq (q_assign rfl) ?_
 refine L_then ?_
 refine C_seq ?_
 refine C_seq ?_
 refine C_region ?_
 refine Jq (q_move rfl) ?_
 refine Jq (q_len tb rfl rfl gvo) ?_
 refine Jq (q_move rfl) ?_
 refine Jq (q_len tb rfl rfl gvo) ?_
 refine Jq (q_neq rfl rfl) ?_
 refine L_then ?_
 refine C_dec rfl (fun h1 => ?_) (fun h1 => ?_)
 exfalso; omega
 refine C_skip_then ?_
 refine C_seq ?_
 refine C_seq ?_
 refine C_region ?_
 refine Jq (q_assign rfl) ?_
 refine L_then ?_
 refine C_block ?_
 refine C_loop (ι := Nat) (fun k => ([(0, v), (1, u), (5, .int .i64 (k : Int))], [rd v 1 (ns.map cI), rd u 1 (ns.map cI)])) (fun k => k ≤ ns.length) (fun k => ns.length - k) 0 (Nat.zero_le _) (fun a w hs => hs.weak ⟨rfl, rfl, rfl, trivial⟩ (fun h => h.pk (by repeat (first | with_reducible exact pk_nil | refine pk_box rfl ?_ | refine pk_rd rfl ?_ | refine pk_sl rfl ?_ | with_reducible refine pk_app ?_ | with_reducible refine pk_app0 ?_ | with_reducible refine pk_app0L ?_ | with_reducible exact pk_tl | refine pk_var ?_)))) ?_
 intro k hk
 dsimp only at hk ⊢
 refine C_seq ?_
 refine C_seq ?_
 refine C_region ?_
 refine Jq (q_move rfl) ?_
 refine Jq (q_move rfl) ?_
 refine Jq (q_len tb rfl rfl gvo) ?_
 refine Jq (q_lss rfl rfl) ?_
 refine L_then ?_
 refine C_dec rfl (fun h2 => ?_) (fun h2 => ?_)
 obtain ⟨x, hx⟩ := get_some ns (k := k) (by omega); have hel := map_get cI hx
 refine C_skip_then ?_
 refine C_seq ?_
 refine C_block ?_
 refine C_seq ?_
 refine C_draw (n := 9) [(0, false), (1, false), (2, false), (3, false), (4, false), (5, false), (6, false), (7, false), (8, false)] mixed (by kernel_rfl) ?_
 refine Yq rfl (q_move rfl) ?_
 refine Yq rfl (q_move rfl) ?_
 refine Yq rfl (by first | exact q_index tb rfl rfl rfl rfl gvo (by omega) (by first | omega | (simp; done) | (simp; omega)) | exact q_indexP tb rfl rfl rfl rfl (by omega) (by omega)) ?_
 refine Yq rfl (q_loadE tb rfl rfl gvo (i := k) (o := 0) (by omega) hel rfl) ?_
 refine Yq rfl (q_move rfl) ?_
 refine Yq rfl (q_move rfl) ?_
 refine Yq rfl (by first | exact q_index tb rfl rfl rfl rfl gvo (by omega) (by first | omega | (simp; done) | (simp; omega)) | exact q_indexP tb rfl rfl rfl rfl (by omega) (by omega)) ?_
 refine Yq rfl (q_loadE tb rfl rfl gvo (i := k) (o := 0) (by omega) hel rfl) ?_
 refine Yq rfl (q_false (q_neq rfl rfl) (by simp)) ?_
 refine W_nil ?_
 refine L_then ?_
 refine C_false rfl ?_
 refine C_skip_blk ?_
 refine C_region ?_
 refine Jq (q_move rfl) ?_
 refine Jq (q_add rfl rfl (by first | exact IntWalk.i64_in _ (by omega) | rfl)) ?_
 refine Jq (q_assign rfl) ?_
 refine L_end ?_
 exact fun ac_ wo_ hs_ => ⟨k + 1, (by dsimp only; omega), (by dsimp only; omega), hs_.weak ⟨rfl, rfl, rfl, trivial⟩ (fun h => h.pk (by repeat (first | with_reducible exact pk_nil | refine pk_box rfl ?_ | refine pk_rd rfl ?_ | refine pk_sl rfl ?_ | with_reducible refine pk_app ?_ | with_reducible refine pk_app0 ?_ | with_reducible refine pk_app0L ?_ | with_reducible exact pk_tl | refine pk_var ?_)))⟩
 refine C_exit ?_
 change C Try.prog _ _ _ _ _ _ _
 refine C_seq ?_
 refine C_region ?_
 refine Jq (q_assign rfl) ?_
 refine L_then ?_
 refine C_ret ?_
 exact ret_of (res1 rfl rfl) sub_nil (by intro r hr; cases hr) ⟨rfl, rfl⟩
set_option maxRecDepth 100000 in
theorem ct_shotlinelaw05_Dive  : Ct Try.prog 50 [] [] (fun y rs => ∃ a b, y = .agg (cPl nmD 1013 a b).toArray ∧ rs = [sl b 82 3 (lsD.map cDl), sl a 80 2 (gsD.map cGs)]) := by
 refine Ct.of (N := 10) Try.func50 rfl rfl rfl fun w => ?_
 refine C_weak (E' := []) (rs' := []) trivial (fun _ h => h) ?_
 refine C_seq ?_
 refine C_region ?_
 refine L_alloc tb rfl rfl fun g0 => ?_
 refine L_then ?_
 refine C_seq ?_
 refine C_region ?_
 refine Jq (by first | exact q_build tb rfl rfl rfl rfl | exact q_buildArr tb rfl rfl rfl rfl rfl) ?_
 refine Jq (by first | exact q_build tb rfl rfl rfl rfl | exact q_buildArr tb rfl rfl rfl rfl rfl) ?_
 refine L_mk (lo_bslice tb rfl rfl rfl (xs := (gsD.map cGs)) rfl rfl (by decide) rfl (by omega) rfl) rfl rfl rfl fun v3 => ?_
 refine Jq (by first | exact q_build tb rfl rfl rfl rfl | exact q_buildArr tb rfl rfl rfl rfl rfl) ?_
 refine Jq (by first | exact q_build tb rfl rfl rfl rfl | exact q_buildArr tb rfl rfl rfl rfl rfl) ?_
 refine Jq (by first | exact q_build tb rfl rfl rfl rfl | exact q_buildArr tb rfl rfl rfl rfl rfl) ?_
 refine Jq (by first | exact q_build tb rfl rfl rfl rfl | exact q_buildArr tb rfl rfl rfl rfl rfl) ?_
 refine L_mk (lo_bslice tb rfl rfl rfl (xs := (lsD.map cDl)) rfl rfl (by decide) rfl (by omega) rfl) rfl rfl rfl fun v8 => ?_
 refine L_form (v := v8) gvo (fun A8 c8 hv8 _ => ?_)
 subst hv8
 refine L_form (v := v3) gvo (fun A3 c3 hv3 _ => ?_)
 subst hv3
 refine Jq (q_build (r := cPl nmD 1013 (.slice A3 (gsD.map cGs).length c3) (.slice A8 (lsD.map cDl).length c8)) tb rfl rfl rfl rfl) ?_
 refine L_st tb rfl rfl ?_
 refine L_then ?_
 refine C_ret ?_
 exact ret_of (rs' := [sl _ 82 3 (lsD.map cDl), sl _ 80 2 (gsD.map cGs)]) (resC tb rfl rfl rfl bxo rfl) (fun w_ h_ => h_.sub (by repeat (first | exact List.Sublist.refl _ | apply List.Sublist.cons_cons | apply List.Sublist.cons))) (by intro r hr; simp only [List.mem_cons, List.not_mem_nil, or_false] at hr; rcases hr with rfl | rfl <;> exact sl_own _ _ _ _) ⟨_, _, rfl, rfl⟩
theorem ct_ex_cons (v u : Value) : Ct Try.prog 28 [.agg (cPl nmD 1013 v u).toArray, .int .i64 20000] [(v, 2, gsD.map cGs), (u, 3, lsD.map cDl)] (isSlN 3 1 ([689380, 161300].map cI) (.int .i64 0)) := by
 have h := ct_exposure_Consumed nmD 1013 v u gsD lsD (show 2 ≤ 100000 by omega) (show 4 ≤ 100000 by omega) (show 1 ≤ 1000000000000 by omega) 20000
 rw [cons_ex] at h
 exact h

end Go.Proofs.Ytdmnejfpbbmcaaa
namespace Go.Proofs.Ytdmnejfpbbmcaaa
open Go.RowKit

set_option maxRecDepth 100000 in
theorem ct_shotlinelaw05_Few (t : Value) (r : Ru) : Ct Try.prog 18 [.agg (cRu t r).toArray] [(t, 2, r.tb.map cOw)] (isV (.bool (decide (r.tb.length ≤ 6 ∨ (r.tb.length > 20 ∧ r.tb.length ≤ 22))))) := by
 refine Ct.of (N := 5) Try.func18 rfl rfl rfl fun w => ?_
 refine C_weak (E' := [(0, .agg (cRu t r).toArray)]) (rs' := [rd t 2 (r.tb.map cOw)]) ⟨rfl, trivial⟩ (fun _ h => h) ?_
 have hl1 := len_map cOw r.tb
 refine C_seq ?_
 refine C_region ?_
 refine L_box rfl rfl rfl fun g1 => ?_
 refine Jq (q_assign rfl) ?_
 refine L_then ?_
 refine C_seq ?_
 refine C_region ?_
 refine Jq (q_loadA tb rfl rfl bxo rfl rfl) ?_
 refine L_call tb rfl rfl (ct_shotlinelaw05_few _ _) (ps_cons gvo no_ps) rfl ?_
 refine Jq (q_assign rfl) ?_
 refine L_then ?_
 refine C_ret ?_
 exact ret_of (res1 rfl rfl) sub_nil (by intro r hr; cases hr) ⟨rfl, rfl⟩
set_option maxRecDepth 100000 in
theorem ct_shotlinetop_exposed  : Ct Try.prog 16 [] [] (isV (.bool true)) := by
 refine Ct.of (N := 15) Try.func16 rfl rfl rfl fun w => ?_
 refine C_weak (E' := []) (rs' := []) trivial (fun _ h => h) ?_
 refine C_seq ?_
 refine C_region ?_
 refine Jq (q_assign rfl) ?_
 refine L_then ?_
 refine C_seq ?_
 refine C_region ?_
 refine L_lo rfl rfl rfl (lo_call tb rfl rfl (ct_shotlinelaw05_Dive) no_ps (by rintro y rs ⟨a, b, _, rfl⟩ r hr; simp only [List.mem_cons, List.not_mem_nil, or_false] at hr; rcases hr with rfl | rfl <;> exact sl_sinks _ _ _ _)) ?_
 rintro _ _ ⟨a4, b4, rfl, rfl⟩
 refine L_callSN tb rfl rfl (ct_ex_cons _ _) (ps_cons gvo (ps_cons gvo no_ps)) rfl fun v5 => ?_
 refine Jq (q_move rfl) ?_
 refine Jq (q_ext0 rfl) ?_
 refine Jq (q_ext1 rfl) ?_
 refine Jq (q_assign rfl) ?_
 refine Jq (q_assign rfl) ?_
 refine L_then ?_
 refine C_seq ?_
 refine C_region ?_
 refine Jq (q_move rfl) ?_
 refine Jq (q_true (q_eql rfl rfl) rfl) ?_
 refine Jq (q_move rfl) ?_
 refine Jg (q_move rfl) ?_
 refine L_log rfl rfl rfl rfl rfl rfl rfl (lo_bsliceG tb rfl rfl rfl (xs := ([689380, 161300].map cI)) rfl rfl (by decide) rfl (by omega) rfl) ?_
 intro v12 rs_ hr_; unfold isSl at hr_; subst hr_
 refine L_callg tb rfl rfl rfl rfl rfl rfl (ct_shotlinebase_Ints _ _ [689380, 161300] (by decide)) (ps_cons gvo (ps_cons gvo no_ps)) rfl ?_
 refine Jq (q_pickT rfl rfl) ?_
 refine Jq (q_assign rfl) ?_
 refine L_then ?_
 refine C_ret ?_
 exact ret_of (res1 rfl rfl) sub_nil (by intro r hr; cases hr) ⟨rfl, rfl⟩
set_option maxRecDepth 100000 in
theorem ct_shotlinetop_sumOf (v : Value) (ns : List Int) (hle : ns.length ≤ 100) (hin : ∀ x ∈ ns, 0 ≤ x ∧ x ≤ 100000000000000) : Ct Try.prog 29 [v] [(v, 1, ns.map cI)] (isV (.int .i64 (sumT ns ns.length))) := by
 refine Ct.of (N := 29) Try.func29 rfl rfl rfl fun w => ?_
 refine C_weak (E' := [(0, v)]) (rs' := [rd v 1 (ns.map cI)]) ⟨rfl, trivial⟩ (fun _ h => h) ?_
 have hl := len_map cI ns
 refine C_seq ?_
 refine C_region ?_
 refine Jq (q_assign rfl) ?_
 refine L_then ?_
 refine C_seq ?_
 refine C_region ?_
 refine Jq (q_assign rfl) ?_
 refine L_then ?_
 refine C_seq ?_
 refine C_seq ?_
 refine C_region ?_
 refine Jq (q_assign rfl) ?_
 refine L_then ?_
 refine C_block ?_
 refine C_loop (ι := Nat) (fun k => ([(0, v), (3, .int .i64 ((sumT ns k))), (4, .int .i64 (k : Int))], [rd v 1 (ns.map cI)])) (fun k => k ≤ ns.length) (fun k => ns.length - k) 0 (Nat.zero_le _) (fun a w hs => hs.weak ⟨rfl, rfl, rfl, trivial⟩ (fun h => h.pk (by repeat (first | with_reducible exact pk_nil | refine pk_box rfl ?_ | refine pk_rd rfl ?_ | refine pk_sl rfl ?_ | with_reducible refine pk_app ?_ | with_reducible refine pk_app0 ?_ | with_reducible refine pk_app0L ?_ | with_reducible exact pk_tl | refine pk_var ?_)))) ?_
 intro k hk
 dsimp only at hk ⊢
 refine C_seq ?_
 refine C_seq ?_
 refine C_region ?_
 refine Jq (q_move rfl) ?_
 refine Jq (q_move rfl) ?_
 refine Jq (q_len tb rfl rfl gvo) ?_
 refine Jq (q_lss rfl rfl) ?_
 refine L_then ?_
 refine C_dec rfl (fun h1 => ?_) (fun h1 => ?_)
 obtain ⟨x, hx⟩ := get_some ns (k := k) (by omega); have hel := map_get cI hx; have hix := hin x (List.mem_of_getElem? hx); have hsk := sumT_in hin k; have hss : sumT ns (k + 1) = sumT ns k + x := by show sumT ns k + (ns[k]?).getD 0 = _; rw [hx]; rfl
 refine C_skip_then ?_
 refine C_seq ?_
 refine C_block ?_
 refine C_seq ?_
 refine C_seq ?_
 refine C_region ?_
 refine Jq (q_move rfl) ?_
 refine Jq (q_move rfl) ?_
 refine Jq (by first | exact q_index tb rfl rfl rfl rfl gvo (by omega) (by first | omega | (simp; done) | (simp; omega)) | exact q_indexP tb rfl rfl rfl rfl (by omega) (by omega)) ?_
 refine Jq (q_loadE tb rfl rfl gvo (i := k) (o := 0) (by omega) hel rfl) ?_
 refine L_call tb rfl rfl (ct_shotlinebase_Within _ _ _) no_ps rfl ?_
 refine Jq (q_not rfl decide_not.symm) ?_
 refine Jq (q_move rfl) ?_
 refine L_dec (d := 17) rfl (fun h17 => ?_) (fun h17 => ?_)
 exfalso; omega
 refine Jg (q_move rfl) ?_
 refine Jg (q_len tb rfl rfl gvo) ?_
 refine Jg (q_gtr rfl rfl) ?_
 refine Jq (q_pickF rfl rfl) ?_
 refine L_then ?_
 refine C_dec rfl (fun h21 => ?_) (fun h21 => ?_)
 exfalso; omega
 refine C_skip_then ?_
 refine C_region ?_
 refine Jq (q_move rfl) ?_
 refine Jq (q_move rfl) ?_
 refine Jq (q_move rfl) ?_
 refine Jq (by first | exact q_index tb rfl rfl rfl rfl gvo (by omega) (by first | omega | (simp; done) | (simp; omega)) | exact q_indexP tb rfl rfl rfl rfl (by omega) (by omega)) ?_
 refine Jq (q_loadE tb rfl rfl gvo (i := k) (o := 0) (by omega) hel rfl) ?_
 refine Jq (q_add rfl rfl (by first | exact IntWalk.i64_in _ (by omega) | rfl)) ?_
 refine Jq (q_assign rfl) ?_
 refine L_blk ?_
 refine C_region ?_
 refine Jq (q_move rfl) ?_
 refine Jq (q_add rfl rfl (by first | exact IntWalk.i64_in _ (by omega) | rfl)) ?_
 refine Jq (q_assign rfl) ?_
 refine L_end ?_
 exact fun ac_ wo_ hs_ => ⟨k + 1, (by dsimp only; omega), (by dsimp only; omega), hs_.weak ⟨rfl, en hss.symm, rfl, trivial⟩ (fun h => h.pk (by repeat (first | with_reducible exact pk_nil | refine pk_box rfl ?_ | refine pk_rd rfl ?_ | refine pk_sl rfl ?_ | with_reducible refine pk_app ?_ | with_reducible refine pk_app0 ?_ | with_reducible refine pk_app0L ?_ | with_reducible exact pk_tl | refine pk_var ?_)))⟩
 refine C_exit ?_
 change C Try.prog _ _ _ _ _ _ _
 refine C_seq ?_
 refine C_region ?_
 refine Jq (q_move rfl) ?_
 refine Jq (q_assign rfl) ?_
 refine L_then ?_
 refine C_ret ?_
 obtain rfl : k = ns.length := by omega
 exact ret_of (res1 rfl rfl) sub_nil (by intro r hr; cases hr) ⟨rfl, rfl⟩
end Go.Proofs.Ytdmnejfpbbmcaaa
