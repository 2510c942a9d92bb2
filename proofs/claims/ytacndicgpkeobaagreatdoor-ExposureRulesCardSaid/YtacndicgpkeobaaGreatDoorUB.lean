/-
  Walks: each function named returns what its model says. Conditions: those in front of each theorem.
-/
import Derived.Test.YtacndicgpkeobaaGreatDoorUA
namespace Go.Proofs.YtacndicgpkeobaaGreatDoor
open Go.RowKit

set_option maxRecDepth 100000 in
set_option maxHeartbeats 1000000 in
theorem ct_shotlineref05_numbers (wd : Tx) (v : Value) (ns : List Int) (hok : okN ns) (hn : ns.length ≤ 3) (hw : wd.length ≤ 9) : Ct Tryz.prog 98 [.string (bs wd), v] [(v, 1, ns.map cI)] (isV (.string (bs (lnU wd ns)))) := by
 refine Ct.of (N := 22) Tryz.func98 rfl rfl rfl fun w => ?_
 refine C_weak (E' := [(0, .string (bs wd)), (1, v)]) (rs' := [rd v 1 (ns.map cI)]) ⟨rfl, rfl, trivial⟩ (fun _ h => h) ?_
 have hl := len_map cI ns
 refine C_seq ?_
 refine C_region ?_
 refine Jq (q_assign rfl) ?_
 refine L_then ?_
 refine C_seq ?_
 refine C_seq ?_
 refine C_region ?_
 refine Jq (q_assign rfl) ?_
 refine L_then ?_
 refine C_block ?_
 refine C_loop (ι := Nat) (fun k => ([(0, .string (bs (wd ++ nsT (ns.take k)))), (1, v), (5, .int .i64 (k : Int))], [rd v 1 (ns.map cI)])) (fun k => k ≤ ns.length) (fun k => ns.length - k) 0 (Nat.zero_le _) (fun a w hs => hs.weak ⟨(congrArg (fun x => some (Value.string (bs x))) (List.append_nil wd).symm), rfl, rfl, trivial⟩ (fun h => h.pk (by repeat (first | with_reducible exact pk_nil | refine pk_box rfl ?_ | refine pk_rd rfl ?_ | refine pk_sl rfl ?_ | with_reducible refine pk_app ?_ | with_reducible refine pk_app0 ?_ | with_reducible refine pk_app0L ?_ | with_reducible exact pk_tl | refine pk_var ?_)))) ?_
 intro k hk
 dsimp only at hk ⊢
 refine C_seq ?_
 refine C_seq ?_
 refine C_region ?_
 refine Jq (q_move rfl) ?_
 refine Jq (q_move rfl) ?_
 refine Jq (q_len tb rfl rfl gvo) ?_
 refine Jq (q_lss rfl rfl) ?_
 refine L_then ?_
 refine C_dec rfl (fun h1 => ?_) (fun h1 => ?_)
 obtain ⟨n, hn9⟩ := get_some ns (k := k) (by omega); have hel := map_get cI hn9; have hb9 := hok n (List.mem_of_getElem? hn9); have hl9 := itU_len hb9; have hlt := nsT_take hok k
 refine C_skip_then ?_
 refine C_seq ?_
 refine C_block ?_
 refine C_region ?_
 refine Jq (q_move rfl) ?_
 refine Jq (t_cat (a := (wd ++ nsT (ns.take k))) (b := [32]) (r := (wd ++ nsT (ns.take k)) ++ [32]) rfl rfl (by simp only [List.length_append, List.length_cons, List.length_nil]; omega) rfl) ?_
 refine Jq (q_move rfl) ?_
 refine Jq (q_move rfl) ?_
 refine Jq (by first | exact q_index tb rfl rfl rfl rfl gvo (by omega) (by first | omega | (simp; done) | (simp; omega)) | exact q_indexP tb rfl rfl rfl rfl (by omega) (by omega)) ?_
 refine Jq (q_loadE tb rfl rfl gvo (i := k) (o := 0) (by omega) hel rfl) ?_
 refine L_call tb rfl rfl (ct_DecT n (by omega)) no_ps rfl ?_
 refine Jq (t_cat (a := (wd ++ nsT (ns.take k)) ++ [32]) (b := Lib.itoa n) (r := wd ++ nsT (ns.take (k + 1))) rfl rfl (by simp only [List.length_append, List.length_cons, List.length_nil]; omega) ((List.append_assoc _ _ _).trans (nsT_s hn9))) ?_
 refine Jq (q_assign rfl) ?_
 refine L_blk ?_
 refine C_region ?_
 refine Jq (q_move rfl) ?_
 refine Jq (q_add rfl rfl (by first | exact IntWalk.i64_in _ (by omega) | rfl)) ?_
 refine Jq (q_assign rfl) ?_
 refine L_end ?_
 exact fun ac_ wo_ hs_ => ⟨k + 1, (by omega), (by dsimp only; omega), hs_.weak ⟨rfl, rfl, rfl, trivial⟩ (fun h_ => h_)⟩
 obtain rfl : k = ns.length := by omega
 rw [List.take_length]
 have hlt := nsT_len hok
 refine C_exit ?_
 change C Tryz.prog _ _ _ _ _ _ _
 refine C_seq ?_
 refine C_region ?_
 refine Jq (q_move rfl) ?_
 refine Jq (t_cat (a := wd ++ nsT ns) (b := [10]) (r := lnU wd ns) rfl rfl (by simp only [List.length_append, List.length_cons, List.length_nil]; omega) rfl) ?_
 refine Jq (q_assign rfl) ?_
 refine L_then ?_
 refine C_ret ?_
 exact ret_of (res1 rfl rfl) sub_nil (by intro r hr; cases hr) ⟨rfl, rfl⟩
set_option maxRecDepth 100000 in
set_option maxHeartbeats 2000000 in
theorem ct_shotlineref05_read (p wd : Tx) (c : Nat) (hp : p.length ≤ 1000000) (hc : c ≤ 3) : Ct Tryz.prog 99 [.string (bs p), .string (bs wd), .int .i64 (c : Int)] [] (RnP 3 wd c p) := by
 refine Ct.of (N := 48) Tryz.func99 rfl rfl rfl fun w => ?_
 refine C_weak (E' := [(0, .string (bs p)), (1, .string (bs wd)), (2, .int .i64 (c : Int))]) (rs' := []) ⟨rfl, rfl, rfl, trivial⟩ (fun _ h => h) ?_
 obtain ⟨a, q, e⟩ := pcs_hd p
 have hpm := len_map cT (cutF 32 [] p)
 have hql : (cutF 32 [] p).length = q.length + 1 := by rw [e]; rfl
 refine C_seq ?_
 refine C_region ?_
 refine Jq (q_assign rfl) ?_
 refine Jq (q_assign rfl) ?_
 refine L_then ?_
 refine C_seq ?_
 refine C_region ?_
 refine Jq (q_move rfl) ?_
 refine L_callS tb rfl rfl (ct_shotlinebase_Cut p 32 hp) no_ps rfl fun v14 => ?_
 refine Jq (q_assign rfl) ?_
 refine L_then ?_
 refine C_seq ?_
 refine C_seq ?_
 refine C_region ?_
 refine Jq (q_move rfl) ?_
 refine Jq (q_len tb rfl rfl gvo) ?_
 refine Jq (q_move rfl) ?_
 refine Jq (q_add (e := ((c + 1 : Nat) : Int)) rfl rfl (wr (by simp) (by omega))) ?_
 refine Jq (q_neq rfl rfl) ?_
 refine Jq (q_move rfl) ?_
 refine L_dec (d := 20) rfl (fun h20 => ?_) (fun h20 => ?_)
 iterate 5 refine Jk ?_
 refine Jq (q_pickT rfl rfl) ?_
 refine L_then ?_
 refine C_true rfl ?_
 refine C_seq ?_
 refine C_region ?_
 refine Jq (q_assign rfl) ?_
 refine Jq (q_assign rfl) ?_
 refine L_then ?_
 refine C_ret ?_
 have e9 := rdN_1 (w := wd) (p := p) (c := c) (fun hh => h20 (by omega))
 unfold RnP
 rw [e9]
 exact ret_of (rs' := [sl nilU 3 1 []]) (res2 rfl rfl rfl) (fun w_ h_ => ws_nil (sub_nil w_ h_)) own1 ⟨none, 0, 0, rfl, rfl⟩
 refine Jg (q_move rfl) ?_
 refine Jg (by first | exact q_index tb rfl rfl rfl rfl gvo (by omega) (by first | omega | (simp; done) | (simp; omega)) | exact q_indexP tb rfl rfl rfl rfl (by omega) (by omega)) ?_
 refine Jg (q_loadE tb rfl rfl gvo (i := 0) (o := 0) (by omega) (by rw [e]; rfl) rfl) ?_
 refine Jg (q_move rfl) ?_
 refine Jg (t_ne (a := a) (b := wd) rfl rfl) ?_
 refine Jq (q_pickF rfl rfl) ?_
 refine L_then ?_
 refine C_dec rfl (fun h26 => ?_) (fun h26 => ?_)
 refine C_seq ?_
 refine C_region ?_
 refine Jq (q_assign rfl) ?_
 refine Jq (q_assign rfl) ?_
 refine L_then ?_
 refine C_ret ?_
 have e9 := rdN_2 (c := c) e h26
 unfold RnP
 rw [e9]
 exact ret_of (rs' := [sl nilU 3 1 []]) (res2 rfl rfl rfl) (fun w_ h_ => ws_nil (sub_nil w_ h_)) own1 ⟨none, 0, 0, rfl, rfl⟩
 refine C_skip_then ?_
 refine C_seq ?_
 refine C_region ?_
 refine Jq (q_assign rfl) ?_
 refine L_then ?_
 refine C_seq ?_
 refine C_seq ?_
 refine C_region ?_
 refine Jq (q_assign rfl) ?_
 refine L_then ?_
 refine C_block ?_
 refine C_nil 3 1 ?_
 refine C_loop (ι := Nat × List Int × Value) (fun q9 => ([(8, v14), (9, q9.2.2), (10, .int .i64 ((q9.1 + 1 : Nat) : Int))], [sl q9.2.2 3 1 (q9.2.1.map cI), sl v14 9 1 ((cutF 32 [] p).map cT)])) (fun q9 => q9.1 ≤ q.length ∧ q9.2.1.length = q9.1 ∧ nsL (q.take q9.1) = some q9.2.1) (fun q9 => q.length - q9.1) (0, [], nilU) ⟨Nat.zero_le _, rfl, rfl⟩ (fun a w hs => hs.weak ⟨rfl, rfl, rfl, trivial⟩ (fun h => h.pk (by repeat (first | with_reducible exact pk_nil | refine pk_box rfl ?_ | refine pk_rd rfl ?_ | refine pk_sl rfl ?_ | with_reducible refine pk_app ?_ | with_reducible refine pk_app0 ?_ | with_reducible refine pk_app0L ?_ | with_reducible exact pk_tl | refine pk_var ?_)))) ?_
 rintro ⟨k, ns, a9⟩ ⟨hk, hnl, hns⟩
 dsimp only at hk hnl hns ⊢
 have hnm := len_map cI ns
 refine C_seq ?_
 refine C_seq ?_
 refine C_region ?_
 refine Jq (q_move rfl) ?_
 refine Jq (q_move rfl) ?_
 refine Jq (q_len tb rfl rfl gvo) ?_
 refine Jq (q_lss rfl rfl) ?_
 refine L_then ?_
 refine C_dec rfl (fun h4 => ?_) (fun h4 => ?_)
 obtain ⟨b, hb⟩ := get_some q (k := k) (by omega)
 have hel : ((cutF 32 [] p).map cT)[k + 1]? = some (cT b) := by rw [e]; exact map_get cT hb
 refine C_skip_then ?_
 refine C_seq ?_
 refine C_block ?_
 refine C_seq ?_
 refine C_region ?_
 refine Jq (q_move rfl) ?_
 refine Jq (q_move rfl) ?_
 refine Jq (by first | exact q_index tb rfl rfl rfl rfl gvo (by omega) (by first | omega | (simp; done) | (simp; omega)) | exact q_indexP tb rfl rfl rfl rfl (by omega) (by omega)) ?_
 refine Jq (q_loadE tb rfl rfl gvo (i := k + 1) (o := 0) (by omega) hel rfl) ?_
 refine L_call tb rfl rfl (ct_shotlinebase_Number b 7 (by have := cutF_le (m := 32) p [] b (by rw [e]; exact List.mem_cons_of_mem _ (List.mem_of_getElem? hb)); simp at this; omega) (by decide)) no_ps rfl ?_
 refine Jq (q_move rfl) ?_
 refine Jq (q_ext0 rfl) ?_
 refine Jq (q_ext1 rfl) ?_
 refine Jq (q_assign rfl) ?_
 refine Jq (q_assign rfl) ?_
 refine L_then ?_
 refine C_seq ?_
 refine C_seq ?_
 refine C_region ?_
 refine Jq (q_move rfl) ?_
 refine Jq (q_not rfl (by first | exact (rfl : (!true) = false) | exact (rfl : (!false) = true) | exact decide_not.symm | rfl)) ?_
 refine L_then ?_
 refine C_bool rfl (fun h42 => ?_) (fun h42 => ?_)
 refine C_seq ?_
 refine C_region ?_
 refine Jq (q_assign rfl) ?_
 refine Jq (q_assign rfl) ?_
 refine L_then ?_
 refine C_ret ?_
 have e9 := (rdN_3 (c := c) e (by omega) (Decidable.not_not.1 h26)).trans (nsL_no hb (by simpa using h42))
 unfold RnP
 rw [e9]
 exact ret_of (rs' := [sl nilU 3 1 []]) (res2 rfl rfl rfl) (fun w_ h_ => ws_nil (sub_nil w_ h_)) own1 ⟨none, 0, 0, rfl, rfl⟩
 obtain ⟨n, hn9⟩ := isS_get (o := numM b 7) (by simpa using h42)
 rw [hn9]
 dsimp only [Option.getD_some]
 refine C_skip_then ?_
 refine C_region ?_
 refine Jq (q_move rfl) ?_
 refine Jq (q_move rfl) ?_
 refine L_mk (lo_bslice tb rfl rfl rfl (xs := [[_]]) rfl rfl (by simp) rfl (by omega) rfl) rfl rfl rfl fun v45 => ?_
 refine L_ap tb rfl rfl rfl rfl gvo (by simp [Value.oneCell']) (by simp [maxLen]; omega) (by simp; omega) fun v46 => ?_
 refine Jq (q_assign rfl) ?_
 refine L_blk ?_
 refine C_region ?_
 refine Jq (q_move rfl) ?_
 refine Jq (q_add (e := (((k + 1) + 1 : Nat) : Int)) rfl rfl (wr (by simp) (by omega))) ?_
 refine Jq (q_assign rfl) ?_
 refine L_end ?_
 exact fun ac_ wo_ hs_ => ⟨(k + 1, ns ++ [n], v46), ⟨by dsimp only; omega, by dsimp only; rw [List.length_append, hnl]; rfl, (congrArg nsL (takeU_one hb)).trans (nsL_app hns hn9)⟩, (by dsimp only; omega), hs_.weak ⟨rfl, rfl, rfl, trivial⟩ (fun h_ => h_.pk (by repeat (first | with_reducible exact pk_nil | refine pk_box (by first | rfl | exact (cu_snoc _ _)) ?_ | refine pk_rd rfl ?_ | refine pk_sl (by first | rfl | exact (cu_snoc _ _)) ?_ | with_reducible refine pk_app ?_ | with_reducible refine pk_app0 ?_ | with_reducible refine pk_app0L ?_ | with_reducible exact pk_tl | refine pk_var ?_)))⟩
 obtain rfl : k = q.length := by omega
 rw [List.take_length] at hns
 refine C_form (v := a9) gvo (fun A9 c9 hv9 _ => ?_)
 subst hv9
 refine C_exit ?_
 change C Tryz.prog _ _ _ _ _ _ _
 refine C_seq ?_
 refine C_region ?_
 refine Jq (q_move rfl) ?_
 refine Jq (q_assign rfl) ?_
 refine Jq (q_assign rfl) ?_
 refine L_then ?_
 refine C_ret ?_
 have e9 := (rdN_3 (c := c) e (by omega) (Decidable.not_not.1 h26)).trans hns
 unfold RnP
 rw [e9]
 exact ret_of (rs' := [sl (.slice A9 (ns.map cI).length c9) 3 1 (ns.map cI)]) (res2 rfl rfl rfl) (fun w_ h_ => h_.pk (by repeat (first | with_reducible exact pk_nil | refine pk_box rfl ?_ | refine pk_rd rfl ?_ | refine pk_sl rfl ?_ | with_reducible refine pk_app ?_ | with_reducible refine pk_app0 ?_ | with_reducible refine pk_app0L ?_ | with_reducible exact pk_tl | refine pk_var ?_))) own1 ⟨_, _, _, rfl, rfl⟩
end Go.Proofs.YtacndicgpkeobaaGreatDoor
