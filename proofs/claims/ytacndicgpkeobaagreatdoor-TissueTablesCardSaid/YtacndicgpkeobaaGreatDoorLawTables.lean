/-
  Walks: each function named returns what its model says. Conditions: those in front of each theorem.
-/
import Derived.Test.YtacndicgpkeobaaGreatDoorAP
import Derived.Test.YtacndicgpkeobaaGreatDoorB
import Derived.Test.YtacndicgpkeobaaGreatDoorRd3
import Derived.Test.YtacndicgpkeobaaGreatDoorZG
import Derived.Test.YtacndicgpkeobaaGreatDoorZD
import Derived.Test.YtacndicgpkeobaaGreatDoorZC
import Derived.Test.YtacndicgpkeobaaGreatDoorM
import Derived.Test.YtacndicgpkeobaaGreatDoorR
namespace Go.Proofs.YtacndicgpkeobaaGreatDoor
open Go.RowKit

set_option maxRecDepth 100000 in
set_option maxHeartbeats 4000000 in
theorem ct_tissue_Print (v : Value) (ts : List Cp) (hle : ts.length ≤ 100000) : CtQ KQ Tryz.prog 20 [v] [(v, 4, ts.map cCp)] (isV (.tuple #[.string (bs (pcE ts)), .int .i64 (ckTab ts)])) := by
 refine CtQ.of (N := 42) Tryz.func20 rfl rfl rfl fun w hQ => ?_
 refine C_weak (E' := [(0, v)]) (rs' := [rd v 4 (ts.map cCp)]) ⟨rfl, trivial⟩ (fun _ h => h) ?_
 have hl := len_map cCp ts
 refine C_seq ?_
 refine C_region ?_
 refine Jq (q_assign rfl) ?_
 refine Jq (q_assign rfl) ?_
 refine L_then ?_
 refine C_seq ?_
 refine C_seq ?_
 refine C_region ?_
 refine Jq (q_move rfl) ?_
 refine L_call tb rfl rfl (ct_tissue_CheckTable v ts (by omega)) (ps_cons gvo no_ps) rfl ?_
 refine Jq (q_assign rfl) ?_
 refine L_then ?_
 refine C_seq ?_
 refine C_region ?_
 refine Jq (q_move rfl) ?_
 refine Jq (q_neq rfl rfl) ?_
 refine L_then ?_
 refine C_dec rfl (fun h1 => ?_) (fun h1 => ?_)
 refine C_seq ?_
 refine C_region ?_
 refine Jq (q_move rfl) ?_
 refine Jq (q_assign rfl) ?_
 refine Jq (q_assign rfl) ?_
 refine L_then ?_
 refine C_ret ?_
 rw [pcE_1 h1]
 exact ret_of (res2 rfl rfl rfl) sub_nil (by intro r hr; cases hr) ⟨rfl, rfl⟩
 have hz := Decidable.not_not.1 h1
 obtain ⟨hn16, hS⟩ := tab_ok hz
 refine C_skip_then ?_
 refine C_seq ?_
 refine C_region ?_
 refine L_alloc tb rfl rfl fun g5 => ?_
 refine L_then ?_
 refine C_seq ?_
 refine C_seq ?_
 refine C_region ?_
 refine Jq (q_move rfl) ?_
 refine Jq (q_len tb rfl rfl gvo) ?_
 refine Jq (q_move rfl) ?_
 refine L_then ?_
 refine C_block ?_
 refine C_nil 5 1 ?_
 refine C_loop (ι := Nat × Value × Value) (fun q => ([(5, .pointer (some ⟨g5, 0, none⟩)), (15, v), (16, .int .i64 (ts.map cCp).length), (17, .int .i64 (q.1 : Int))], [box g5 138 [q.2.1, q.2.2], sl q.2.2 5 1 ((pcK ts q.1).map cU), rd v 4 (ts.map cCp)])) (fun q => q.1 ≤ ts.length ∧ (q.2.1 = .pointer none ∨ q.2.1 = .pointer (some ⟨g5, 0, none⟩))) (fun q => ts.length - q.1) (0, .pointer none, .slice none 0 0) ⟨Nat.zero_le _, .inl rfl⟩ (fun a w hs => hs.weak ⟨rfl, rfl, rfl, rfl, trivial⟩ (fun h => h.pk (by repeat (first | with_reducible exact pk_nil | refine pk_box rfl ?_ | refine pk_rd rfl ?_ | refine pk_sl rfl ?_ | with_reducible refine pk_app ?_ | with_reducible refine pk_app0 ?_ | with_reducible refine pk_app0L ?_ | with_reducible exact pk_tl | refine pk_var ?_)))) ?_
 rintro ⟨k, p9, v9⟩ ⟨hk, hp⟩
 dsimp only at hk hp ⊢
 have hpk := pcK_len hS k hk
 refine C_seq ?_
 refine C_region ?_
 refine Jq (q_lss rfl rfl) ?_
 refine L_then ?_
 refine C_seq ?_
 refine C_dec rfl (fun h2 => ?_) (fun h2 => ?_)
 obtain ⟨y, he⟩ := get_some ts (k := k) (by omega); have hel := map_get cCp he; have hy := hS y (List.mem_of_getElem? he)
 refine C_skip_then ?_
 refine C_seq ?_
 refine C_block ?_
 refine C_seq ?_
 refine C_region ?_
 refine Jq (by first | exact q_index tb rfl rfl rfl rfl gvo (by omega) (by first | omega | (simp; done) | (simp; omega)) | exact q_indexP tb rfl rfl rfl rfl (by omega) (by omega)) ?_
 refine Jq (q_loadEA tb rfl rfl gvo (i := k) (o := 0) (by omega) hel rfl rfl) ?_
 refine L_alloc tb rfl rfl fun g7 => ?_
 refine L_st tb rfl rfl ?_
 refine L_then ?_
 refine C_seq ?_
 refine C_region ?_
 refine L_res (rs' := [box g5 138 [p9, v9], sl v9 5 1 ((pcK ts k).map cU), box g7 120 (cCp y), rd v 4 (ts.map cCp)]) (fun _ h_ => h_.pk (by repeat (first | with_reducible exact pk_nil | refine pk_box rfl ?_ | refine pk_rd rfl ?_ | refine pk_sl rfl ?_ | with_reducible refine pk_app ?_ | with_reducible refine pk_app0 ?_ | with_reducible refine pk_app0L ?_ | with_reducible exact pk_tl | refine pk_var ?_))) ?_
 refine L_callI tb (post := fun _ rs9 => ∃ A n c, rs9 = box g5 138 [.pointer (some ⟨g5, 0, none⟩), .slice A n c] :: sl (.slice A n c) 5 1 ((pcK ts k ++ tTis).map cU) :: [box g7 120 (cCp y), rd v 4 (ts.map cCp)]) rfl rfl rfl (ct_WriteString _ _ _ g5 p9 v9 (pcK ts k) hp tTis (by simp only [List.length_append, List.length_cons, List.length_nil]; omega)) (fun y9 rs9 hy9 => ?_)
 obtain ⟨A21, n21, c21, rfl⟩ := hy9
 refine L_then ?_
 refine C_seq ?_
 refine C_seq ?_
 refine C_region ?_
 refine Jq (q_field tb rfl rfl rfl) ?_
 refine Jq (q_load tb rfl rfl bxo rfl) ?_
 refine Jq (q_field tb rfl rfl rfl) ?_
 refine Jq (q_load tb rfl rfl bxo rfl) ?_
 refine Jq (q_field tb rfl rfl rfl) ?_
 refine Jq (q_load tb rfl rfl bxo rfl) ?_
 refine Jq (q_field tb rfl rfl rfl) ?_
 refine Jq (q_load tb rfl rfl bxo rfl) ?_
 refine Jq (by first | exact q_build tb rfl rfl rfl rfl | exact q_buildArr tb rfl rfl rfl rfl rfl) ?_
 refine Jq (q_move rfl) ?_
 refine L_then ?_
 refine C_block ?_
 refine C_loop (ι := Nat × Value) (fun q => ([(5, .pointer (some ⟨g5, 0, none⟩)), (15, v), (16, .int .i64 (ts.map cCp).length), (17, .int .i64 (k : Int)), (30, .agg (cCp y).toArray), (31, .int .i64 (q.1 : Int))], [box g5 138 [.pointer (some ⟨g5, 0, none⟩), q.2], sl q.2 5 1 ((pcK ts k ++ ptC y q.1).map cU), rd v 4 (ts.map cCp)])) (fun q => q.1 ≤ 4) (fun q => 4 - q.1) (0, .slice A21 n21 c21) (Nat.zero_le _) (fun a w hs => hs.weak ⟨rfl, rfl, rfl, rfl, rfl, rfl, trivial⟩ (fun h => h.pk (by repeat (first | with_reducible exact pk_nil | refine pk_box rfl ?_ | refine pk_rd rfl ?_ | refine pk_sl rfl ?_ | with_reducible refine pk_app ?_ | with_reducible refine pk_app0 ?_ | with_reducible refine pk_app0L ?_ | with_reducible exact pk_tl | refine pk_var ?_)))) ?_
 rintro ⟨j, u9⟩ hj
 dsimp only at hj ⊢
 have hpj := ptC_len hy j; have hnl := nuC_len hy j
 refine C_seq ?_
 refine C_region ?_
 refine Jq (q_lss rfl rfl) ?_
 refine L_then ?_
 refine C_seq ?_
 refine C_dec rfl (fun h3 => ?_) (fun h3 => ?_)
 refine C_skip_then ?_
 refine C_seq ?_
 refine C_block ?_
 refine C_seq ?_
 refine C_region ?_
 refine Jq (q_indexV tb rfl rfl rfl rfl (by omega) (by omega) (nuC_cell y (by omega))) ?_
 refine Jq (q_assign rfl) ?_
 refine L_then ?_
 refine C_region ?_
 refine Jq (q_move rfl) ?_
 refine L_lo rfl rfl rfl (lo_callQ tb stQ hQ rfl rfl (ct_ItoaQ (nuC y j) (by have := nuC_in hy j; omega)) no_ps isV_sinks) ?_
 rintro _ _ ⟨rfl, rfl⟩
 refine Jq (t_cat (a := [32]) (b := Lib.itoa (nuC y j)) rfl rfl (by rw [List.length_singleton]; omega) rfl) ?_
 refine L_callI tb (post := fun _ rs9 => ∃ A n c, rs9 = box g5 138 [.pointer (some ⟨g5, 0, none⟩), .slice A n c] :: sl (.slice A n c) 5 1 ((pcK ts k ++ ptC y j ++ ([32] ++ Lib.itoa (nuC y j))).map cU) :: [rd v 4 (ts.map cCp)]) rfl rfl rfl (ct_WriteString _ _ _ g5 (.pointer (some ⟨g5, 0, none⟩)) u9 (pcK ts k ++ ptC y j) (.inr rfl) ([32] ++ Lib.itoa (nuC y j)) (by simp only [List.length_append, List.length_cons, List.length_nil]; omega)) (fun y9 rs9 hy9 => ?_)
 obtain ⟨A37, n37, c37, rfl⟩ := hy9
 refine L_blk ?_
 refine C_region ?_
 refine Jq (q_add rfl rfl (by first | exact IntWalk.i64_in _ (by omega) | rfl)) ?_
 refine Jq (q_move rfl) ?_
 refine L_end ?_
 rw [ptC_s]
 exact fun ac_ wo_ hs_ => ⟨(j + 1, .slice A37 n37 c37), (by dsimp only; omega), (by dsimp only; omega), hs_.weak ⟨rfl, rfl, rfl, rfl, rfl, rfl, trivial⟩ (fun h => h.pk (by repeat (first | with_reducible exact pk_nil | refine pk_box rfl ?_ | refine pk_rd rfl ?_ | refine pk_sl rfl ?_ | with_reducible refine pk_app ?_ | with_reducible refine pk_app0 ?_ | with_reducible refine pk_app0L ?_ | with_reducible exact pk_tl | refine pk_var ?_)))⟩
 obtain rfl : j = 4 := by omega
 refine C_exit ?_
 change C Tryz.prog _ _ _ _ _ _ _
 refine C_region ?_
 refine L_callI tb (post := fun _ rs9 => ∃ A n c, rs9 = box g5 138 [.pointer (some ⟨g5, 0, none⟩), .slice A n c] :: sl (.slice A n c) 5 1 ((pcK ts k ++ ptC y 4 ++ [10]).map cU) :: [rd v 4 (ts.map cCp)]) rfl rfl rfl (ct_WriteNl _ _ _ g5 (.pointer (some ⟨g5, 0, none⟩)) u9 (pcK ts k ++ ptC y 4) (.inr rfl) (by simp only [List.length_append, List.length_cons, List.length_nil]; omega)) (fun y9 rs9 hy9 => ?_)
 obtain ⟨A39, n39, c39, rfl⟩ := hy9
 refine L_blk ?_
 refine C_region ?_
 refine Jq (q_add rfl rfl (by first | exact IntWalk.i64_in _ (by omega) | rfl)) ?_
 refine Jq (q_move rfl) ?_
 refine L_end ?_
 rw [pcK_s he]
 exact fun ac_ wo_ hs_ => ⟨(k + 1, .pointer (some ⟨g5, 0, none⟩), .slice A39 n39 c39), ⟨by dsimp only; omega, .inr rfl⟩, (by dsimp only; omega), hs_.weak ⟨rfl, rfl, rfl, rfl, trivial⟩ (fun h => h.pk (by repeat (first | with_reducible exact pk_nil | refine pk_box rfl ?_ | refine pk_rd rfl ?_ | refine pk_sl rfl ?_ | with_reducible refine pk_app ?_ | with_reducible refine pk_app0 ?_ | with_reducible refine pk_app0L ?_ | with_reducible exact pk_tl | refine pk_var ?_)))⟩
 obtain rfl : k = ts.length := by omega
 refine C_exit ?_
 change C Tryz.prog _ _ _ _ _ _ _
 refine C_seq ?_
 refine C_region ?_
 refine L_res (rs' := [box g5 138 [p9, v9], sl v9 5 1 ((pcK ts ts.length).map cU)]) (fun _ h_ => h_.pk (by repeat (first | with_reducible exact pk_nil | refine pk_box rfl ?_ | refine pk_rd rfl ?_ | refine pk_sl rfl ?_ | with_reducible refine pk_app ?_ | with_reducible refine pk_app0 ?_ | with_reducible refine pk_app0L ?_ | with_reducible exact pk_tl | refine pk_var ?_))) ?_
 refine L_bsU tb rfl rfl rfl hp (fun w_ h1_ h2_ => Tryz.Builder_String_any _ g5 (pcK ts ts.length) w_ h1_ h2_) ?_
 refine Jq (q_assign rfl) ?_
 refine Jq (q_assign rfl) ?_
 refine L_then ?_
 refine C_ret ?_
 rw [pcE_2 hz, hz]
 exact ret_of (res2 rfl rfl rfl) sub_nil (by intro r hr; cases hr) ⟨rfl, rfl⟩
end Go.Proofs.YtacndicgpkeobaaGreatDoor
namespace Go.Proofs.YtacndicgpkeobaaGreatDoor
open Go.RowKit

set_option maxRecDepth 100000 in
set_option maxHeartbeats 4000000 in
theorem ct_shotlinelaw03_TissueTables (v : Value) (ts : List Cp) (t : Tx) : CtQ KQ Tryz.prog 4 [v, .string (bs t)] [(v, 4, ts.map cCp)] (isV (.bool true)) := by
 refine CtQ.of (N := 111) Tryz.func4 rfl rfl rfl fun w hQ => ?_
 refine C_weak (E' := [(0, v), (1, .string (bs t))]) (rs' := [rd v 4 (ts.map cCp)]) ⟨rfl, rfl, trivial⟩ (fun _ h => h) ?_
 have hlm := len_map cCp ts
 have hpa := pacA_len t
 refine C_seq ?_
 refine C_region ?_
 refine Jq (q_assign rfl) ?_
 refine L_then ?_
 refine C_seq ?_
 refine C_seq ?_
 refine C_region ?_
 refine L_call tb rfl rfl (ct_shotlinelaw03_awake) no_ps rfl ?_
 refine Jq (q_not rfl rfl) ?_
 refine L_then ?_
 refine C_false rfl ?_
 refine C_skip_then ?_
 refine C_seq ?_
 refine C_seq ?_
 refine C_region ?_
 refine Jq (q_move rfl) ?_
 refine L_call tb rfl rfl (ct_shotlinelaw03_Few v ts) (ps_cons gvo no_ps) rfl ?_
 refine Jq (q_not rfl decide_not.symm) ?_
 refine Jq (q_move rfl) ?_
 refine L_dec (d := 21) rfl (fun hs => ?_) (fun hs => ?_)
 iterate 4 refine Jk ?_
 iterate 3 refine Ju ?_
 refine Jk ?_
 refine Jq (q_pickT rfl rfl) ?_
 refine Jq (q_move rfl) ?_
 iterate 3 refine Jk ?_
 refine Jq (q_pickT rfl rfl) ?_
 refine L_then ?_
 refine C_true rfl ?_
 refine C_seq ?_
 refine C_region ?_
 refine Jq (q_assign rfl) ?_
 refine L_then ?_
 refine C_ret ?_
 exact ret_of (res1 rfl rfl) sub_nil (by intro r hr; cases hr) ⟨rfl, rfl⟩
 refine Jg (q_move rfl) ?_
 refine Jg (t_len Tryz.underlying9 rfl) ?_
 refine Jg (q_gtr rfl rfl) ?_
 refine Jg (q_move rfl) ?_
 refine L_dec (d := 25) rfl (fun h4 => ?_) (fun h4 => ?_)
 refine Jg (q_move rfl) ?_
 refine Jg (t_len Tryz.underlying9 rfl) ?_
 refine Jg (q_leq rfl rfl) ?_
 refine Jg (q_pickT rfl rfl) ?_
 refine Jq (q_pickF rfl rfl) ?_
 refine Jq (q_move rfl) ?_
 refine L_dec (d := 31) rfl (fun h5 => ?_) (fun h5 => ?_)
 iterate 3 refine Jk ?_
 refine Jq (q_pickT rfl rfl) ?_
 refine L_then ?_
 refine C_true rfl ?_
 refine C_seq ?_
 refine C_region ?_
 refine Jq (q_assign rfl) ?_
 refine L_then ?_
 refine C_ret ?_
 exact ret_of (res1 rfl rfl) sub_nil (by intro r hr; cases hr) ⟨rfl, rfl⟩
 refine Jg (q_move rfl) ?_
 refine Jg (t_len Tryz.underlying9 rfl) ?_
 refine Jg (q_gtr rfl rfl) ?_
 refine Jq (q_pickF rfl rfl) ?_
 refine L_then ?_
 refine C_dec rfl (fun hq => ?_) (fun hq => ?_)
 refine C_seq ?_
 refine C_region ?_
 refine Jq (q_assign rfl) ?_
 refine L_then ?_
 refine C_ret ?_
 exact ret_of (res1 rfl rfl) sub_nil (by intro r hr; cases hr) ⟨rfl, rfl⟩
 refine C_skip_then ?_
 refine C_seq ?_
 refine C_region ?_
 refine Jq (q_move rfl) ?_
 refine L_callS tb rfl rfl (ct_shotlinelaw03_table v ts (by omega)) (ps_cons gvo no_ps) rfl fun v38 => ?_
 refine L_lo rfl rfl rfl (lo_callQ tb stQ hQ rfl rfl (ct_tissue_Print _ ts (by omega)) (ps_cons gvo no_ps) isV_sinks) ?_
 rintro _ _ ⟨rfl, rfl⟩
 refine Jq (q_move rfl) ?_
 refine Jq (q_ext0 rfl) ?_
 refine Jq (q_ext1 rfl) ?_
 refine Jq (q_assign rfl) ?_
 refine Jq (q_assign rfl) ?_
 refine L_then ?_
 refine C_seq ?_
 refine C_region ?_
 refine Jq (q_move rfl) ?_
 refine L_call tb rfl rfl (ct_shotlineref03_CheckTable v ts (by omega)) (ps_cons gvo no_ps) rfl ?_
 refine Jq (q_assign rfl) ?_
 refine L_then ?_
 refine C_seq ?_
 refine C_seq ?_
 refine C_region ?_
 refine Jq (q_move rfl) ?_
 refine L_callS tb rfl rfl (ct_shotlinelaw03_table v ts (by omega)) (ps_cons gvo no_ps) rfl fun v45 => ?_
 refine L_call tb rfl rfl (ct_tissue_CheckTable _ ts (by omega)) (ps_cons gvo no_ps) rfl ?_
 refine Jq (q_move rfl) ?_
 refine Jq (q_false (q_neq rfl rfl) (decide_eq_false fun h => h rfl)) ?_
 refine L_then ?_
 refine C_false rfl ?_
 refine C_skip_then ?_
 refine C_seq ?_
 refine C_seq ?_
 refine C_region ?_
 refine Jq (q_move rfl) ?_
 refine Jq (q_neq rfl rfl) ?_
 refine L_then ?_
 refine C_dec rfl (fun h50 => ?_) (fun h50 => ?_)
 rw [pcE_1 h50]
 refine C_seq ?_
 refine C_region ?_
 refine Jq (q_move rfl) ?_
 refine Jq (q_move rfl) ?_
 refine Jq (q_false (q_neq rfl rfl) (decide_eq_false fun h => h rfl)) ?_
 refine Jq (q_move rfl) ?_
 refine Jg (q_move rfl) ?_
 refine Jg (q_false (t_ne (a := []) (b := []) rfl rfl) (decide_eq_false (fun h => h rfl))) ?_
 refine Jq (q_pickF rfl rfl) ?_
 refine L_then ?_
 refine C_false rfl ?_
 refine C_skip_then ?_
 refine C_seq ?_
 refine C_region ?_
 refine Jq (q_move rfl) ?_
 refine L_lo rfl rfl rfl (lo_callQ tb stQ hQ rfl rfl (ct_tissue_Parse t (by omega)) no_ps PcP_sinks) ?_
 rintro _ _ ⟨A88, n88, c88, rfl, rfl⟩
 refine Jq (q_move rfl) ?_
 refine Jq (q_ext0 rfl) ?_
 refine Jq (q_ext1 rfl) ?_
 refine Jq (q_ext2 rfl) ?_
 refine Jq (q_assign rfl) ?_
 refine Jq (q_assign rfl) ?_
 refine Jq (q_assign rfl) ?_
 refine L_then ?_
 refine C_seq ?_
 refine C_region ?_
 refine Jq (q_move rfl) ?_
 refine L_lo rfl rfl rfl (lo_call tb rfl rfl (ct_shotlineref03_Parse t (by omega)) no_ps PcP_sinks) ?_
 rintro _ _ ⟨A94, n94, c94, rfl, rfl⟩
 refine Jq (q_move rfl) ?_
 refine Jq (q_ext0 rfl) ?_
 refine Jq (q_ext1 rfl) ?_
 refine Jq (q_ext2 rfl) ?_
 refine Jq (q_assign rfl) ?_
 refine Jq (q_assign rfl) ?_
 refine Jq (q_assign rfl) ?_
 refine L_then ?_
 refine C_seq ?_
 refine C_region ?_
 refine Jq (q_move rfl) ?_
 refine Jq (q_move rfl) ?_
 refine Jq (q_true (q_eql rfl rfl) (decide_eq_true rfl)) ?_
 refine Jq (q_move rfl) ?_
 refine Jg (q_move rfl) ?_
 refine Jg (q_move rfl) ?_
 refine Jg (q_true (q_eql rfl rfl) (decide_eq_true rfl)) ?_
 refine Jq (q_pickT rfl rfl) ?_
 refine Jq (q_move rfl) ?_
 refine Jg (q_move rfl) ?_
 refine Jg (q_move rfl) ?_
 refine L_callg tb rfl rfl rfl rfl rfl rfl (ct_shotlinelaw03_same _ _ (pacA t).1 (by omega)) (ps_cons gvo (ps_cons gvo no_ps)) rfl ?_
 refine Jq (q_pickT rfl rfl) ?_
 refine Jq (q_assign rfl) ?_
 refine L_then ?_
 refine C_ret ?_
 exact ret_of (res1 rfl rfl) sub_nil (by intro r hr; cases hr) ⟨rfl, rfl⟩
 have hz := Decidable.not_not.1 h50
 rw [pcE_2 hz, hz]
 have hpb := pac_back hz
 refine C_seq ?_
 refine C_region ?_
 refine Jq (q_move rfl) ?_
 refine L_lo rfl rfl rfl (lo_callQ tb stQ hQ rfl rfl (ct_tissue_Parse (pcT ts) (by have := pcT_len hz; omega)) no_ps PcP_sinks) ?_
 rintro _ _ ⟨A60, n60, c60, rfl, rfl⟩
 refine Jq (q_move rfl) ?_
 rw [hpb]
 dsimp only
 refine Jq (q_ext0 rfl) ?_
 refine Jq (q_ext1 rfl) ?_
 refine Jq (q_ext2 rfl) ?_
 refine Jq (q_assign rfl) ?_
 refine Jq (q_assign rfl) ?_
 refine Jq (q_assign rfl) ?_
 refine L_then ?_
 refine C_seq ?_
 refine C_region ?_
 refine Jq (q_move rfl) ?_
 refine Jq (q_false (q_neq rfl rfl) (decide_eq_false fun h => h rfl)) ?_
 refine Jq (q_move rfl) ?_
 refine Jg (q_move rfl) ?_
 refine Jg (q_move rfl) ?_
 refine L_callg tb rfl rfl rfl rfl rfl rfl (ct_shotlineref03_Print v ts hz) (ps_cons gvo no_ps) rfl ?_
 refine Jg (q_false (t_ne (a := pcT ts) (b := pcT ts) rfl rfl) (decide_eq_false (fun h => h rfl))) ?_
 refine Jq (q_pickF rfl rfl) ?_
 refine Jq (q_move rfl) ?_
 refine Jg (q_move rfl) ?_
 refine Jg (q_false (q_neq rfl rfl) (decide_eq_false fun h => h rfl)) ?_
 refine Jq (q_pickF rfl rfl) ?_
 refine Jq (q_move rfl) ?_
 refine Jg (q_move rfl) ?_
 refine Jg (q_false (q_neq rfl rfl) (decide_eq_false fun h => h rfl)) ?_
 refine Jq (q_pickF rfl rfl) ?_
 refine Jq (q_move rfl) ?_
 refine Jg (q_move rfl) ?_
 refine Jg (q_move rfl) ?_
 refine L_callg tb rfl rfl rfl rfl rfl rfl (ct_shotlinelaw03_same _ _ ts (by omega)) (ps_cons gvo (ps_cons gvo no_ps)) rfl ?_
 refine Jg (q_not rfl rfl) ?_
 refine Jq (q_pickF rfl rfl) ?_
 refine L_then ?_
 refine C_false rfl ?_
 refine C_skip_then ?_
 refine C_seq ?_
 refine C_region ?_
 refine Jq (q_move rfl) ?_
 refine L_lo rfl rfl rfl (lo_callQ tb stQ hQ rfl rfl (ct_tissue_Parse t (by omega)) no_ps PcP_sinks) ?_
 rintro _ _ ⟨A88, n88, c88, rfl, rfl⟩
 refine Jq (q_move rfl) ?_
 refine Jq (q_ext0 rfl) ?_
 refine Jq (q_ext1 rfl) ?_
 refine Jq (q_ext2 rfl) ?_
 refine Jq (q_assign rfl) ?_
 refine Jq (q_assign rfl) ?_
 refine Jq (q_assign rfl) ?_
 refine L_then ?_
 refine C_seq ?_
 refine C_region ?_
 refine Jq (q_move rfl) ?_
 refine L_lo rfl rfl rfl (lo_call tb rfl rfl (ct_shotlineref03_Parse t (by omega)) no_ps PcP_sinks) ?_
 rintro _ _ ⟨A94, n94, c94, rfl, rfl⟩
 refine Jq (q_move rfl) ?_
 refine Jq (q_ext0 rfl) ?_
 refine Jq (q_ext1 rfl) ?_
 refine Jq (q_ext2 rfl) ?_
 refine Jq (q_assign rfl) ?_
 refine Jq (q_assign rfl) ?_
 refine Jq (q_assign rfl) ?_
 refine L_then ?_
 refine C_seq ?_
 refine C_region ?_
 refine Jq (q_move rfl) ?_
 refine Jq (q_move rfl) ?_
 refine Jq (q_true (q_eql rfl rfl) (decide_eq_true rfl)) ?_
 refine Jq (q_move rfl) ?_
 refine Jg (q_move rfl) ?_
 refine Jg (q_move rfl) ?_
 refine Jg (q_true (q_eql rfl rfl) (decide_eq_true rfl)) ?_
 refine Jq (q_pickT rfl rfl) ?_
 refine Jq (q_move rfl) ?_
 refine Jg (q_move rfl) ?_
 refine Jg (q_move rfl) ?_
 refine L_callg tb rfl rfl rfl rfl rfl rfl (ct_shotlinelaw03_same _ _ (pacA t).1 (by omega)) (ps_cons gvo (ps_cons gvo no_ps)) rfl ?_
 refine Jq (q_pickT rfl rfl) ?_
 refine Jq (q_assign rfl) ?_
 refine L_then ?_
 refine C_ret ?_
 exact ret_of (res1 rfl rfl) sub_nil (by intro r hr; cases hr) ⟨rfl, rfl⟩
 iterate 3 refine Jk ?_
 refine Jg (q_pickF rfl rfl) ?_
 refine Jq (q_pickF rfl rfl) ?_
 refine Jq (q_move rfl) ?_
 refine Jg (q_move rfl) ?_
 refine Jg (t_len Tryz.underlying9 rfl) ?_
 refine Jg (q_gtr rfl rfl) ?_
 refine Jq (q_pickF rfl rfl) ?_
 refine L_then ?_
 refine C_dec rfl (fun hq => ?_) (fun hq => ?_)
 refine C_seq ?_
 refine C_region ?_
 refine Jq (q_assign rfl) ?_
 refine L_then ?_
 refine C_ret ?_
 exact ret_of (res1 rfl rfl) sub_nil (by intro r hr; cases hr) ⟨rfl, rfl⟩
 refine C_skip_then ?_
 refine C_seq ?_
 refine C_region ?_
 refine Jq (q_move rfl) ?_
 refine L_callS tb rfl rfl (ct_shotlinelaw03_table v ts (by omega)) (ps_cons gvo no_ps) rfl fun v38 => ?_
 refine L_lo rfl rfl rfl (lo_callQ tb stQ hQ rfl rfl (ct_tissue_Print _ ts (by omega)) (ps_cons gvo no_ps) isV_sinks) ?_
 rintro _ _ ⟨rfl, rfl⟩
 refine Jq (q_move rfl) ?_
 refine Jq (q_ext0 rfl) ?_
 refine Jq (q_ext1 rfl) ?_
 refine Jq (q_assign rfl) ?_
 refine Jq (q_assign rfl) ?_
 refine L_then ?_
 refine C_seq ?_
 refine C_region ?_
 refine Jq (q_move rfl) ?_
 refine L_call tb rfl rfl (ct_shotlineref03_CheckTable v ts (by omega)) (ps_cons gvo no_ps) rfl ?_
 refine Jq (q_assign rfl) ?_
 refine L_then ?_
 refine C_seq ?_
 refine C_seq ?_
 refine C_region ?_
 refine Jq (q_move rfl) ?_
 refine L_callS tb rfl rfl (ct_shotlinelaw03_table v ts (by omega)) (ps_cons gvo no_ps) rfl fun v45 => ?_
 refine L_call tb rfl rfl (ct_tissue_CheckTable _ ts (by omega)) (ps_cons gvo no_ps) rfl ?_
 refine Jq (q_move rfl) ?_
 refine Jq (q_false (q_neq rfl rfl) (decide_eq_false fun h => h rfl)) ?_
 refine L_then ?_
 refine C_false rfl ?_
 refine C_skip_then ?_
 refine C_seq ?_
 refine C_seq ?_
 refine C_region ?_
 refine Jq (q_move rfl) ?_
 refine Jq (q_neq rfl rfl) ?_
 refine L_then ?_
 refine C_dec rfl (fun h50 => ?_) (fun h50 => ?_)
 rw [pcE_1 h50]
 refine C_seq ?_
 refine C_region ?_
 refine Jq (q_move rfl) ?_
 refine Jq (q_move rfl) ?_
 refine Jq (q_false (q_neq rfl rfl) (decide_eq_false fun h => h rfl)) ?_
 refine Jq (q_move rfl) ?_
 refine Jg (q_move rfl) ?_
 refine Jg (q_false (t_ne (a := []) (b := []) rfl rfl) (decide_eq_false (fun h => h rfl))) ?_
 refine Jq (q_pickF rfl rfl) ?_
 refine L_then ?_
 refine C_false rfl ?_
 refine C_skip_then ?_
 refine C_seq ?_
 refine C_region ?_
 refine Jq (q_move rfl) ?_
 refine L_lo rfl rfl rfl (lo_callQ tb stQ hQ rfl rfl (ct_tissue_Parse t (by omega)) no_ps PcP_sinks) ?_
 rintro _ _ ⟨A88, n88, c88, rfl, rfl⟩
 refine Jq (q_move rfl) ?_
 refine Jq (q_ext0 rfl) ?_
 refine Jq (q_ext1 rfl) ?_
 refine Jq (q_ext2 rfl) ?_
 refine Jq (q_assign rfl) ?_
 refine Jq (q_assign rfl) ?_
 refine Jq (q_assign rfl) ?_
 refine L_then ?_
 refine C_seq ?_
 refine C_region ?_
 refine Jq (q_move rfl) ?_
 refine L_lo rfl rfl rfl (lo_call tb rfl rfl (ct_shotlineref03_Parse t (by omega)) no_ps PcP_sinks) ?_
 rintro _ _ ⟨A94, n94, c94, rfl, rfl⟩
 refine Jq (q_move rfl) ?_
 refine Jq (q_ext0 rfl) ?_
 refine Jq (q_ext1 rfl) ?_
 refine Jq (q_ext2 rfl) ?_
 refine Jq (q_assign rfl) ?_
 refine Jq (q_assign rfl) ?_
 refine Jq (q_assign rfl) ?_
 refine L_then ?_
 refine C_seq ?_
 refine C_region ?_
 refine Jq (q_move rfl) ?_
 refine Jq (q_move rfl) ?_
 refine Jq (q_true (q_eql rfl rfl) (decide_eq_true rfl)) ?_
 refine Jq (q_move rfl) ?_
 refine Jg (q_move rfl) ?_
 refine Jg (q_move rfl) ?_
 refine Jg (q_true (q_eql rfl rfl) (decide_eq_true rfl)) ?_
 refine Jq (q_pickT rfl rfl) ?_
 refine Jq (q_move rfl) ?_
 refine Jg (q_move rfl) ?_
 refine Jg (q_move rfl) ?_
 refine L_callg tb rfl rfl rfl rfl rfl rfl (ct_shotlinelaw03_same _ _ (pacA t).1 (by omega)) (ps_cons gvo (ps_cons gvo no_ps)) rfl ?_
 refine Jq (q_pickT rfl rfl) ?_
 refine Jq (q_assign rfl) ?_
 refine L_then ?_
 refine C_ret ?_
 exact ret_of (res1 rfl rfl) sub_nil (by intro r hr; cases hr) ⟨rfl, rfl⟩
 have hz := Decidable.not_not.1 h50
 rw [pcE_2 hz, hz]
 have hpb := pac_back hz
 refine C_seq ?_
 refine C_region ?_
 refine Jq (q_move rfl) ?_
 refine L_lo rfl rfl rfl (lo_callQ tb stQ hQ rfl rfl (ct_tissue_Parse (pcT ts) (by have := pcT_len hz; omega)) no_ps PcP_sinks) ?_
 rintro _ _ ⟨A60, n60, c60, rfl, rfl⟩
 refine Jq (q_move rfl) ?_
 rw [hpb]
 dsimp only
 refine Jq (q_ext0 rfl) ?_
 refine Jq (q_ext1 rfl) ?_
 refine Jq (q_ext2 rfl) ?_
 refine Jq (q_assign rfl) ?_
 refine Jq (q_assign rfl) ?_
 refine Jq (q_assign rfl) ?_
 refine L_then ?_
 refine C_seq ?_
 refine C_region ?_
 refine Jq (q_move rfl) ?_
 refine Jq (q_false (q_neq rfl rfl) (decide_eq_false fun h => h rfl)) ?_
 refine Jq (q_move rfl) ?_
 refine Jg (q_move rfl) ?_
 refine Jg (q_move rfl) ?_
 refine L_callg tb rfl rfl rfl rfl rfl rfl (ct_shotlineref03_Print v ts hz) (ps_cons gvo no_ps) rfl ?_
 refine Jg (q_false (t_ne (a := pcT ts) (b := pcT ts) rfl rfl) (decide_eq_false (fun h => h rfl))) ?_
 refine Jq (q_pickF rfl rfl) ?_
 refine Jq (q_move rfl) ?_
 refine Jg (q_move rfl) ?_
 refine Jg (q_false (q_neq rfl rfl) (decide_eq_false fun h => h rfl)) ?_
 refine Jq (q_pickF rfl rfl) ?_
 refine Jq (q_move rfl) ?_
 refine Jg (q_move rfl) ?_
 refine Jg (q_false (q_neq rfl rfl) (decide_eq_false fun h => h rfl)) ?_
 refine Jq (q_pickF rfl rfl) ?_
 refine Jq (q_move rfl) ?_
 refine Jg (q_move rfl) ?_
 refine Jg (q_move rfl) ?_
 refine L_callg tb rfl rfl rfl rfl rfl rfl (ct_shotlinelaw03_same _ _ ts (by omega)) (ps_cons gvo (ps_cons gvo no_ps)) rfl ?_
 refine Jg (q_not rfl rfl) ?_
 refine Jq (q_pickF rfl rfl) ?_
 refine L_then ?_
 refine C_false rfl ?_
 refine C_skip_then ?_
 refine C_seq ?_
 refine C_region ?_
 refine Jq (q_move rfl) ?_
 refine L_lo rfl rfl rfl (lo_callQ tb stQ hQ rfl rfl (ct_tissue_Parse t (by omega)) no_ps PcP_sinks) ?_
 rintro _ _ ⟨A88, n88, c88, rfl, rfl⟩
 refine Jq (q_move rfl) ?_
 refine Jq (q_ext0 rfl) ?_
 refine Jq (q_ext1 rfl) ?_
 refine Jq (q_ext2 rfl) ?_
 refine Jq (q_assign rfl) ?_
 refine Jq (q_assign rfl) ?_
 refine Jq (q_assign rfl) ?_
 refine L_then ?_
 refine C_seq ?_
 refine C_region ?_
 refine Jq (q_move rfl) ?_
 refine L_lo rfl rfl rfl (lo_call tb rfl rfl (ct_shotlineref03_Parse t (by omega)) no_ps PcP_sinks) ?_
 rintro _ _ ⟨A94, n94, c94, rfl, rfl⟩
 refine Jq (q_move rfl) ?_
 refine Jq (q_ext0 rfl) ?_
 refine Jq (q_ext1 rfl) ?_
 refine Jq (q_ext2 rfl) ?_
 refine Jq (q_assign rfl) ?_
 refine Jq (q_assign rfl) ?_
 refine Jq (q_assign rfl) ?_
 refine L_then ?_
 refine C_seq ?_
 refine C_region ?_
 refine Jq (q_move rfl) ?_
 refine Jq (q_move rfl) ?_
 refine Jq (q_true (q_eql rfl rfl) (decide_eq_true rfl)) ?_
 refine Jq (q_move rfl) ?_
 refine Jg (q_move rfl) ?_
 refine Jg (q_move rfl) ?_
 refine Jg (q_true (q_eql rfl rfl) (decide_eq_true rfl)) ?_
 refine Jq (q_pickT rfl rfl) ?_
 refine Jq (q_move rfl) ?_
 refine Jg (q_move rfl) ?_
 refine Jg (q_move rfl) ?_
 refine L_callg tb rfl rfl rfl rfl rfl rfl (ct_shotlinelaw03_same _ _ (pacA t).1 (by omega)) (ps_cons gvo (ps_cons gvo no_ps)) rfl ?_
 refine Jq (q_pickT rfl rfl) ?_
 refine Jq (q_assign rfl) ?_
 refine L_then ?_
 refine C_ret ?_
 exact ret_of (res1 rfl rfl) sub_nil (by intro r hr; cases hr) ⟨rfl, rfl⟩
end Go.Proofs.YtacndicgpkeobaaGreatDoor
