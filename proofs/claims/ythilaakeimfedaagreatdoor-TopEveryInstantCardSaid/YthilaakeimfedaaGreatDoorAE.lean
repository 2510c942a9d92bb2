/-
  Walks: each function named returns what its model says. Conditions: those in front of each theorem.
-/
import Derived.Test.YthilaakeimfedaaGreatDoorAC
namespace Go.Proofs.YthilaakeimfedaaGreatDoor
set_option maxRecDepth 100000
set_option maxHeartbeats 4000000
open Go.RowKit

set_option maxRecDepth 100000 in
set_option maxHeartbeats 1000000 in
theorem ct_ascent_checkAlone (a b : Value) (L : List Dl) (F : List Int) (hla : L.length ≤ 1000000) (hlb : F.length ≤ 1000000) : Ct Tryz.prog 124 [.agg #[a, b]] [(a, 3, L.map cDl), (b, 1, F.map cI)] (isV (.int .i64 (ckSch L F))) := by
 refine Ct.of (N := 52) Tryz.func124 rfl rfl rfl fun w => ?_
 refine C_weak (E' := [(0, .agg #[a, b])]) (rs' := [rd a 3 (L.map cDl), rd b 1 (F.map cI)]) ⟨rfl, trivial⟩ (fun _ h => h) ?_
 have hl4 := len_map cDl L
 have hl5 := len_map cI F
 have _h := hlb
 refine C_seq ?_
 refine C_region ?_
 refine L_box rfl rfl rfl fun g1 => ?_
 refine Jq (q_assign rfl) ?_
 refine L_then ?_
 refine C_seq ?_
 refine C_block ?_
 refine C_seq ?_
 refine C_region ?_
 refine Jq (q_field tb rfl rfl rfl) ?_
 refine Jq (q_load tb rfl rfl bxo rfl) ?_
 refine Jq (q_len tb rfl rfl gvo) ?_
 refine Jq (q_gtr rfl rfl) ?_
 refine Jq (q_assign rfl) ?_
 refine L_then ?_
 refine C_dec rfl (fun h1 => ?_) (fun h1 => ?_)
 refine C_seq ?_
 refine C_region ?_
 refine Jq (q_assign rfl) ?_
 refine L_then ?_
 refine C_ret ?_
 exact ret_of (res1 rfl rfl) sub_nil (by intro r hr; cases hr) ⟨(congrArg (Value.int .i64) (by exact (sch_8 (by omega)).symm)), rfl⟩
 refine C_seq ?_
 refine C_region ?_
 refine Jq (q_field tb rfl rfl rfl) ?_
 refine Jq (q_load tb rfl rfl bxo rfl) ?_
 refine Jq (q_len tb rfl rfl gvo) ?_
 refine Jq (q_field tb rfl rfl rfl) ?_
 refine Jq (q_load tb rfl rfl bxo rfl) ?_
 refine Jq (q_len tb rfl rfl gvo) ?_
 refine Jq (q_neq rfl rfl) ?_
 refine Jq (q_assign rfl) ?_
 refine L_then ?_
 refine C_dec rfl (fun h2 => ?_) (fun h2 => ?_)
 refine C_seq ?_
 refine C_region ?_
 refine Jq (q_assign rfl) ?_
 refine L_then ?_
 refine C_ret ?_
 exact ret_of (res1 rfl rfl) sub_nil (by intro r hr; cases hr) ⟨(congrArg (Value.int .i64) (by exact (sch_10 (by omega) (by omega)).symm)), rfl⟩
 refine C_skip_blk ?_
 refine C_seq ?_
 refine C_seq ?_
 refine C_region ?_
 refine Jq (q_field tb rfl rfl rfl) ?_
 refine Jq (q_load tb rfl rfl bxo rfl) ?_
 refine Jq (q_len tb rfl rfl gvo) ?_
 refine Jq (q_move rfl) ?_
 refine L_then ?_
 refine C_block ?_
 refine C_loop (ι := Nat) (fun k => ([(1, .pointer (some ⟨g1, 0, none⟩)), (19, a), (20, .int .i64 (L.map cDl).length), (21, .int .i64 (k : Int))], [box g1 74 [a, b], rd a 3 (L.map cDl), rd b 1 (F.map cI)])) (fun k => k ≤ L.length ∧ (all2 okAn (L.drop k) (F.drop k) ↔ all2 okAn L F)) (fun k => L.length - k) 0 ⟨Nat.zero_le _, Iff.rfl⟩ (fun a w hs => hs.weak ⟨rfl, rfl, rfl, rfl, trivial⟩ (fun h => h.pk (by repeat (first | with_reducible exact pk_nil | refine pk_box rfl ?_ | refine pk_rd rfl ?_ | refine pk_sl rfl ?_ | with_reducible refine pk_app ?_ | with_reducible refine pk_app0 ?_ | with_reducible refine pk_app0L ?_ | with_reducible exact pk_tl | refine pk_var ?_)))) ?_
 rintro k ⟨hk, hf⟩
 dsimp only at hk hf ⊢
 refine C_seq ?_
 refine C_region ?_
 refine Jq (q_lss rfl rfl) ?_
 refine L_then ?_
 refine C_seq ?_
 refine C_dec rfl (fun h3 => ?_) (fun h3 => ?_)
 obtain ⟨y, he⟩ := get_some L (k := k) (by omega); have hel := map_get cDl he; obtain ⟨f, hf9⟩ := get_some F (k := k) (by omega); have hef := map_get cI hf9; have hst := all2_step (R := okAn) he hf9
 refine C_skip_then ?_
 refine C_seq ?_
 refine C_block ?_
 refine C_seq ?_
 refine C_region ?_
 refine Jq (q_move rfl) ?_
 refine Jq (by first | exact q_index tb rfl rfl rfl rfl gvo (by omega) (by first | omega | (simp; done) | (simp; omega)) | exact q_indexP tb rfl rfl rfl rfl (by omega) (by omega)) ?_
 refine Jq (q_loadEA tb rfl rfl gvo (i := k) (o := 0) (by omega) hel rfl rfl) ?_
 refine L_alloc tb rfl rfl fun g4 => ?_
 refine Jq (q_assign rfl) ?_
 refine L_st tb rfl rfl ?_
 refine L_then ?_
 refine C_seq ?_
 refine C_region ?_
 refine Jq (q_field tb rfl rfl rfl) ?_
 refine Jq (q_load tb rfl rfl bxo rfl) ?_
 refine L_call tb rfl rfl (ct_ascent_isSeconds _) no_ps rfl ?_
 refine Jq (q_not rfl decide_not.symm) ?_
 refine Jq (q_move rfl) ?_
 refine L_dec (d := 30) rfl (fun b0 => ?_) (fun b0 => ?_)
 iterate 4 refine Jk ?_
 refine Jq (q_pickT rfl rfl) ?_
 refine Jq (q_move rfl) ?_
 iterate 4 refine Jk ?_
 refine Jq (q_pickT rfl rfl) ?_
 refine Jq (q_move rfl) ?_
 iterate 7 refine Jk ?_
 refine Jq (q_pickT rfl rfl) ?_
 refine L_then ?_
 refine C_true rfl ?_
 refine C_seq ?_
 refine C_region ?_
 refine Jq (q_assign rfl) ?_
 refine L_then ?_
 refine C_ret ?_
 have hno : ¬ okAn y f := by unfold okAn; omega
 exact ret_of (res1 rfl rfl) sub_nil (by intro r hr; cases hr) ⟨(congrArg (Value.int .i64) (by exact (sch_2 (by omega) (by omega) (fun hh => hno (hst.1 (hf.2 hh)).1)).symm)), rfl⟩
 refine Jg (q_field tb rfl rfl rfl) ?_
 refine Jg (q_load tb rfl rfl bxo rfl) ?_
 refine L_callg tb rfl rfl rfl rfl rfl rfl (ct_ascent_isDepth _) no_ps rfl ?_
 refine Jg (q_not rfl decide_not.symm) ?_
 refine Jq (q_pickF rfl rfl) ?_
 refine Jq (q_move rfl) ?_
 refine L_dec (d := 36) rfl (fun b1 => ?_) (fun b1 => ?_)
 iterate 4 refine Jk ?_
 refine Jq (q_pickT rfl rfl) ?_
 refine Jq (q_move rfl) ?_
 iterate 7 refine Jk ?_
 refine Jq (q_pickT rfl rfl) ?_
 refine L_then ?_
 refine C_true rfl ?_
 refine C_seq ?_
 refine C_region ?_
 refine Jq (q_assign rfl) ?_
 refine L_then ?_
 refine C_ret ?_
 have hno : ¬ okAn y f := by unfold okAn; omega
 exact ret_of (res1 rfl rfl) sub_nil (by intro r hr; cases hr) ⟨(congrArg (Value.int .i64) (by exact (sch_2 (by omega) (by omega) (fun hh => hno (hst.1 (hf.2 hh)).1)).symm)), rfl⟩
 refine Jg (q_field tb rfl rfl rfl) ?_
 refine Jg (q_load tb rfl rfl bxo rfl) ?_
 refine L_callg tb rfl rfl rfl rfl rfl rfl (ct_ascent_within _ _ _) no_ps rfl ?_
 refine Jg (q_not rfl decide_not.symm) ?_
 refine Jq (q_pickF rfl rfl) ?_
 refine Jq (q_move rfl) ?_
 refine L_dec (d := 42) rfl (fun b2 => ?_) (fun b2 => ?_)
 iterate 7 refine Jk ?_
 refine Jq (q_pickT rfl rfl) ?_
 refine L_then ?_
 refine C_true rfl ?_
 refine C_seq ?_
 refine C_region ?_
 refine Jq (q_assign rfl) ?_
 refine L_then ?_
 refine C_ret ?_
 have hno : ¬ okAn y f := by unfold okAn; omega
 exact ret_of (res1 rfl rfl) sub_nil (by intro r hr; cases hr) ⟨(congrArg (Value.int .i64) (by exact (sch_2 (by omega) (by omega) (fun hh => hno (hst.1 (hf.2 hh)).1)).symm)), rfl⟩
 refine Jg (q_field tb rfl rfl rfl) ?_
 refine Jg (q_load tb rfl rfl bxo rfl) ?_
 refine Jg (q_move rfl) ?_
 refine Jg (by first | exact q_index tb rfl rfl rfl rfl gvo (by omega) (by first | omega | (simp; done) | (simp; omega)) | exact q_indexP tb rfl rfl rfl rfl (by omega) (by omega)) ?_
 refine Jg (q_loadE tb rfl rfl gvo (i := k) (o := 0) (by omega) hef rfl) ?_
 refine L_callg tb rfl rfl rfl rfl rfl rfl (ct_ascent_within _ _ _) no_ps rfl ?_
 refine Jg (q_not rfl decide_not.symm) ?_
 refine Jq (q_pickF rfl rfl) ?_
 refine L_then ?_
 refine C_dec rfl (fun b3 => ?_) (fun b3 => ?_)
 refine C_seq ?_
 refine C_region ?_
 refine Jq (q_assign rfl) ?_
 refine L_then ?_
 refine C_ret ?_
 have hno : ¬ okAn y f := by unfold okAn; omega
 exact ret_of (res1 rfl rfl) sub_nil (by intro r hr; cases hr) ⟨(congrArg (Value.int .i64) (by exact (sch_2 (by omega) (by omega) (fun hh => hno (hst.1 (hf.2 hh)).1)).symm)), rfl⟩
 refine C_skip_blk ?_
 refine C_region ?_
 refine Jq (q_add rfl rfl (by first | exact IntWalk.i64_in _ (by omega) | rfl)) ?_
 refine Jq (q_move rfl) ?_
 refine L_end ?_
 exact fun ac_ wo_ hs_ => ⟨k + 1, ⟨by omega, by rw [← hf]; exact ⟨fun h => hst.2 ⟨by unfold okAn; omega, h⟩, fun h => (hst.1 h).2⟩⟩, (by dsimp only; omega), hs_.weak ⟨rfl, rfl, rfl, rfl, trivial⟩ (fun h => h.pk (by repeat (first | with_reducible exact pk_nil | refine pk_box rfl ?_ | refine pk_rd rfl ?_ | refine pk_sl rfl ?_ | with_reducible refine pk_app ?_ | with_reducible refine pk_app0 ?_ | with_reducible refine pk_app0L ?_ | with_reducible exact pk_tl | refine pk_var ?_)))⟩
 refine C_exit ?_
 change C Tryz.prog _ _ _ _ _ _ _
 refine C_seq ?_
 refine C_region ?_
 refine Jq (q_assign rfl) ?_
 refine L_then ?_
 refine C_ret ?_
 exact ret_of (res1 rfl rfl) sub_nil (by intro r hr; cases hr) ⟨(congrArg (Value.int .i64) (by exact (sch_0 (by omega) (by omega) (hf.1 (all2_end (by omega)))).symm)), rfl⟩
set_option maxRecDepth 100000 in
theorem ct_ascent_seconds (a b : Value) (L : List Dl) (hs : okSec L) (hla : L.length ≤ 1000) : Ct Tryz.prog 119 [.agg #[a, b]] [(a, 3, L.map cDl)] (isV (.int .i64 (smS L L.length))) := by
 refine Ct.of (N := 19) Tryz.func119 rfl rfl rfl fun w => ?_
 refine C_weak (E' := [(0, .agg #[a, b])]) (rs' := [rd a 3 (L.map cDl)]) ⟨rfl, trivial⟩ (fun _ h => h) ?_
 have hl4 := len_map cDl L
 refine C_seq ?_
 refine C_region ?_
 refine L_box rfl rfl rfl fun g1 => ?_
 refine Jq (q_assign rfl) ?_
 refine L_then ?_
 refine C_seq ?_
 refine C_region ?_
 refine Jq (q_assign rfl) ?_
 refine L_then ?_
 refine C_seq ?_
 refine C_seq ?_
 refine C_region ?_
 refine Jq (q_field tb rfl rfl rfl) ?_
 refine Jq (q_load tb rfl rfl bxo rfl) ?_
 refine Jq (q_len tb rfl rfl gvo) ?_
 refine Jq (q_move rfl) ?_
 refine L_then ?_
 refine C_block ?_
 refine C_loop (ι := Nat) (fun k => ([(3, .int .i64 ((smS L k))), (7, a), (8, .int .i64 (L.map cDl).length), (9, .int .i64 (k : Int))], [box g1 74 [a, b], rd a 3 (L.map cDl)])) (fun k => k ≤ L.length) (fun k => L.length - k) 0 (Nat.zero_le _) (fun a w hs => hs.weak ⟨rfl, rfl, rfl, rfl, trivial⟩ (fun h => h.pk (by repeat (first | with_reducible exact pk_nil | refine pk_box rfl ?_ | refine pk_rd rfl ?_ | refine pk_sl rfl ?_ | with_reducible refine pk_app ?_ | with_reducible refine pk_app0 ?_ | with_reducible refine pk_app0L ?_ | with_reducible exact pk_tl | refine pk_var ?_)))) ?_
 intro k hk
 dsimp only at hk ⊢
 refine C_seq ?_
 refine C_region ?_
 refine Jq (q_lss rfl rfl) ?_
 refine L_then ?_
 refine C_seq ?_
 refine C_dec rfl (fun h1 => ?_) (fun h1 => ?_)
 obtain ⟨y, he⟩ := get_some L (k := k) (by omega); have hel := map_get cDl he; have hsy := hs y (List.mem_of_getElem? he); have hsm := smS_in hs k (by omega)
 refine C_skip_then ?_
 refine C_seq ?_
 refine C_block ?_
 refine C_seq ?_
 refine C_region ?_
 refine Jq (by first | exact q_index tb rfl rfl rfl rfl gvo (by omega) (by first | omega | (simp; done) | (simp; omega)) | exact q_indexP tb rfl rfl rfl rfl (by omega) (by omega)) ?_
 refine Jq (q_loadEA tb rfl rfl gvo (i := k) (o := 0) (by omega) hel rfl rfl) ?_
 refine L_alloc tb rfl rfl fun g5 => ?_
 refine L_st tb rfl rfl ?_
 refine L_then ?_
 refine C_region ?_
 refine Jq (q_move rfl) ?_
 refine Jq (q_field tb rfl rfl rfl) ?_
 refine Jq (q_load tb rfl rfl bxo rfl) ?_
 refine Jq (q_add rfl rfl (by first | exact IntWalk.i64_in _ (by omega) | rfl)) ?_
 refine Jq (q_assign rfl) ?_
 refine L_blk ?_
 refine C_region ?_
 refine Jq (q_add rfl rfl (by first | exact IntWalk.i64_in _ (by omega) | rfl)) ?_
 refine Jq (q_move rfl) ?_
 refine L_end ?_
 exact fun ac_ wo_ hs_ => ⟨k + 1, (by omega), (by dsimp only; omega), hs_.weak ⟨en (smS_s he), rfl, rfl, rfl, trivial⟩ (fun h => h.pk (by repeat (first | with_reducible exact pk_nil | refine pk_box rfl ?_ | refine pk_rd rfl ?_ | refine pk_sl rfl ?_ | with_reducible refine pk_app ?_ | with_reducible refine pk_app0 ?_ | with_reducible refine pk_app0L ?_ | with_reducible exact pk_tl | refine pk_var ?_)))⟩
 obtain rfl : k = L.length := by omega
 refine C_exit ?_
 change C Tryz.prog _ _ _ _ _ _ _
 refine C_seq ?_
 refine C_region ?_
 refine Jq (q_move rfl) ?_
 refine Jq (q_assign rfl) ?_
 refine L_then ?_
 refine C_ret ?_
 exact ret_of (res1 rfl rfl) sub_nil (by intro r hr; cases hr) ⟨rfl, rfl⟩
set_option maxRecDepth 100000 in
set_option maxHeartbeats 2000000 in
theorem ct_ascent_withSchedule (v u z : Value) (x : Asc) (a b : Value) (L : List Dl) (F : List Int) (hle1 : x.ts.length ≤ 100000) (hle2 : x.ls.length ≤ 100000) (hle3 : x.gs.length ≤ 100000) (hla : L.length ≤ 1000000) (hlb : F.length ≤ 1000000) : Ct Tryz.prog 117 [.agg (cAt v u z x).toArray, .agg #[a, b]] [(v, 4, x.ts.map cCp), (u, 4, x.ls.map cLd), (z, 3, x.gs.map cAg), (a, 3, L.map cDl), (b, 1, F.map cI)] (isTk 66 139 144 (opA x) (wsE x L F)) := by
 refine Ct.of (N := 20) Tryz.func117 rfl rfl rfl fun w => ?_
 refine C_weak (E' := [(0, .agg (cAt v u z x).toArray), (1, .agg #[a, b])]) (rs' := [rd v 4 (x.ts.map cCp), rd u 4 (x.ls.map cLd), rd z 3 (x.gs.map cAg), rd a 3 (L.map cDl), rd b 1 (F.map cI)]) ⟨rfl, rfl, trivial⟩ (fun _ h => h) ?_
 have hl1 := len_map cCp x.ts
 have hl2 := len_map cLd x.ls
 have hl3 := len_map cAg x.gs
 have hl4 := len_map cDl L
 have hl5 := len_map cI F
 refine C_seq ?_
 refine C_region ?_
 refine L_box rfl rfl rfl fun g2 => ?_
 refine L_box rfl rfl rfl fun g3 => ?_
 refine L_alloc tb rfl rfl fun g4 => ?_
 refine Jq (q_assign rfl) ?_
 refine L_then ?_
 refine C_seq ?_
 refine C_region ?_
 refine Jq (q_loadA tb rfl rfl bxo rfl rfl) ?_
 refine L_lo rfl rfl rfl (lo_call tb rfl rfl (ct_ascent_open v u z x (by omega) (by omega) (by omega)) (ps_cons gvo (ps_cons gvo (ps_cons gvo no_ps))) isTk_sinks) ?_
 rintro _ _ ⟨A10, n10, c10, B10, m10, d10, C10, k10, e10, rfl, rfl⟩
 refine Jq (q_move rfl) ?_
 refine Jq (q_ext0 rfl) ?_
 refine Jq (q_ext1 rfl) ?_
 refine L_alloc tb rfl rfl fun g6 => ?_
 refine L_st tb rfl rfl ?_
 refine Jq (q_assign rfl) ?_
 refine L_then ?_
 refine C_seq ?_
 refine C_seq ?_
 refine C_region ?_
 refine Jq (q_move rfl) ?_
 refine Jq (q_neq rfl rfl) ?_
 refine L_then ?_
 refine C_dec rfl (fun h1 => ?_) (fun h1 => ?_)
 refine C_seq ?_
 refine C_region ?_
 refine Jq (q_loadA tb rfl rfl bxo rfl rfl) ?_
 refine Jq (q_move rfl) ?_
 refine L_st tb rfl rfl ?_
 refine Jq (q_assign rfl) ?_
 refine L_then ?_
 refine C_ret ?_
 rw [wsE_1 h1]
 exact ret_of (rs' := [sl _ 66 4 ((opA x).ts.map cCp), sl _ 139 4 ((opA x).ls.map cLd), sl _ 144 3 ((opA x).gs.map cAg)]) (resCT tb rfl rfl rfl rfl bxo rfl) (fun w_ h_ => h_.pk (by repeat (first | with_reducible exact pk_nil | refine pk_box rfl ?_ | refine pk_rd rfl ?_ | refine pk_sl rfl ?_ | with_reducible refine pk_app ?_ | with_reducible refine pk_app0 ?_ | with_reducible refine pk_app0L ?_ | with_reducible exact pk_tl | refine pk_var ?_))) own3 ⟨_, _, _, _, _, _, _, _, _, rfl, rfl⟩
 have hz := Decidable.not_not.1 h1
 have H := ckAsc_ok hz
 rw [opA_2 hz]
 refine C_skip_then ?_
 refine C_seq ?_
 refine C_draw (n := 3) [(0, false), (1, false), (2, true)] mixed (by kernel_rfl) ?_
 refine Yq rfl (q_loadA tb rfl rfl bxo rfl rfl) ?_
 refine Yq rfl (q_loadA tb rfl rfl bxo rfl rfl) ?_
 refine W_call tb rfl rfl rfl rfl (ct_ascent_checkAlone _ _ L F (by omega) (by omega)) (ps_cons gvo (ps_cons gvo no_ps)) rfl ?_
 refine W_nil ?_
 refine L_st tb rfl rfl ?_
 refine Jq (q_assign rfl) ?_
 refine L_then ?_
 refine C_ret ?_
 rw [wsE_2 hz]
 exact ret_of (rs' := [sl _ 66 4 (x.ts.map cCp), sl _ 139 4 (x.ls.map cLd), sl _ 144 3 (x.gs.map cAg)]) (resCT tb rfl rfl rfl rfl bxo rfl) (fun w_ h_ => h_.pk (by repeat (first | with_reducible exact pk_nil | refine pk_box rfl ?_ | refine pk_rd rfl ?_ | refine pk_sl rfl ?_ | with_reducible refine pk_app ?_ | with_reducible refine pk_app0 ?_ | with_reducible refine pk_app0L ?_ | with_reducible exact pk_tl | refine pk_var ?_))) own3 ⟨_, _, _, _, _, _, _, _, _, rfl, rfl⟩
set_option maxRecDepth 100000 in
set_option maxHeartbeats 4000000 in
theorem ct_ascent_CheckSchedule (v u z : Value) (x : Asc) (a b : Value) (L : List Dl) (F : List Int) (hle1 : x.ts.length ≤ 100000) (hle2 : x.ls.length ≤ 100000) (hle3 : x.gs.length ≤ 100000) (hla : L.length ≤ 1000000) (hlb : F.length ≤ 1000000) : Ct Tryz.prog 47 [.agg (cAt v u z x).toArray, .agg #[a, b]] [(v, 4, x.ts.map cCp), (u, 4, x.ls.map cLd), (z, 3, x.gs.map cAg), (a, 3, L.map cDl), (b, 1, F.map cI)] (isV (.tuple #[.int .i64 (csE x L F).1, .int .i64 (csE x L F).2])) := by
 refine Ct.of (N := 72) Tryz.func47 rfl rfl rfl fun w => ?_
 refine C_weak (E' := [(0, .agg (cAt v u z x).toArray), (1, .agg #[a, b])]) (rs' := [rd v 4 (x.ts.map cCp), rd u 4 (x.ls.map cLd), rd z 3 (x.gs.map cAg), rd a 3 (L.map cDl), rd b 1 (F.map cI)]) ⟨rfl, rfl, trivial⟩ (fun _ h => h) ?_
 have hl1 := len_map cCp x.ts
 have hl2 := len_map cLd x.ls
 have hl3 := len_map cAg x.gs
 have hl4 := len_map cDl L
 have hl5 := len_map cI F
 refine C_seq ?_
 refine C_region ?_
 refine L_box rfl rfl rfl fun g2 => ?_
 refine L_box rfl rfl rfl fun g3 => ?_
 refine Jq (q_assign rfl) ?_
 refine Jq (q_assign rfl) ?_
 refine L_then ?_
 refine C_seq ?_
 refine C_region ?_
 refine Jq (q_loadA tb rfl rfl bxo rfl rfl) ?_
 refine Jq (q_loadA tb rfl rfl bxo rfl rfl) ?_
 refine L_lo rfl rfl rfl (lo_call tb rfl rfl (ct_ascent_withSchedule v u z x a b L F (by omega) (by omega) (by omega) (by omega) (by omega)) (ps_cons gvo (ps_cons gvo (ps_cons gvo (ps_cons gvo (ps_cons gvo no_ps))))) isTk_sinks) ?_
 rintro _ _ ⟨A16, n16, c16, B16, m16, d16, C16, k16, e16, rfl, rfl⟩
 refine Jq (q_move rfl) ?_
 refine Jq (q_ext0 rfl) ?_
 refine Jq (q_ext1 rfl) ?_
 refine L_alloc tb rfl rfl fun g6 => ?_
 refine L_st tb rfl rfl ?_
 refine Jq (q_assign rfl) ?_
 refine L_then ?_
 refine C_seq ?_
 refine C_seq ?_
 refine C_region ?_
 refine Jq (q_move rfl) ?_
 refine Jq (q_neq rfl rfl) ?_
 refine L_then ?_
 refine C_dec rfl (fun h1 => ?_) (fun h1 => ?_)
 refine C_seq ?_
 refine C_region ?_
 refine Jq (q_move rfl) ?_
 refine Jq (q_assign rfl) ?_
 refine Jq (q_assign rfl) ?_
 refine L_then ?_
 refine C_ret ?_
 rw [wsE_bad h1]
 exact ret_of (res2 rfl rfl rfl) sub_nil (by intro r hr; cases hr) ⟨rfl, rfl⟩
 have hz := Decidable.not_not.1 h1
 obtain ⟨H, hS, hcs⟩ := wsE_ok hz
 rw [opA_2 H.ck]
 have hSn := hS.n; have hSl := hS.l
 refine C_skip_then ?_
 refine C_seq ?_
 refine C_seq ?_
 refine C_region ?_
 refine Jq (q_field tb rfl rfl rfl) ?_
 refine Jq (q_load tb rfl rfl bxo rfl) ?_
 refine Jq (q_len tb rfl rfl gvo) ?_
 refine Jq (q_move rfl) ?_
 refine L_then ?_
 refine C_block ?_
 refine C_res (rs' := [rd (.slice B16 m16 d16) 4 (x.ls.map cLd), box g6 156 (cAt (.slice A16 n16 c16) (.slice B16 m16 d16) (.slice C16 k16 e16) x), sl (.slice A16 n16 c16) 66 4 (x.ts.map cCp), sl (.slice C16 k16 e16) 144 3 (x.gs.map cAg), box g3 74 [a, b], box g2 28 (cAt v u z x), rd a 3 (L.map cDl), rd b 1 (F.map cI)]) (fun _ h_ => sl_to_rd (show WS _ _ (sl (.slice B16 m16 d16) 139 4 (x.ls.map cLd) :: _) _ from h_.pk (by repeat (first | with_reducible exact pk_nil | refine pk_box rfl ?_ | refine pk_rd rfl ?_ | refine pk_sl rfl ?_ | with_reducible refine pk_app ?_ | with_reducible refine pk_app0 ?_ | with_reducible refine pk_app0L ?_ | with_reducible exact pk_tl | refine pk_var ?_)))) ?_
 refine C_loop (ι := Nat × Asc × Value) (fun q => ([(2, .pointer (some ⟨g2, 0, none⟩)), (3, .pointer (some ⟨g3, 0, none⟩)), (6, .pointer (some ⟨g6, 0, none⟩)), (23, a), (24, .int .i64 (L.map cDl).length), (25, .int .i64 (q.1 : Int))], [rd q.2.2 4 (q.2.1.ls.map cLd), box g6 156 (cAt (.slice A16 n16 c16) q.2.2 (.slice C16 k16 e16) q.2.1), sl (.slice A16 n16 c16) 66 4 (q.2.1.ts.map cCp), sl (.slice C16 k16 e16) 144 3 (q.2.1.gs.map cAg), box g3 74 [a, b], box g2 28 (cAt v u z x), rd a 3 (L.map cDl), rd b 1 (F.map cI)])) (fun q => q.1 ≤ L.length ∧ okAsc q.2.1 ∧ q.2.1.r = x.r ∧ chkF (smS L L.length) q.2.1 (L.drop q.1) (F.drop q.1) q.1 = chkF (smS L L.length) x L F 0) (fun q => L.length - q.1) (0, x, .slice B16 m16 d16) ⟨Nat.zero_le _, H, rfl, rfl⟩ (fun a w hs => hs.weak ⟨rfl, rfl, rfl, rfl, rfl, rfl, trivial⟩ (fun h => h.pk (by repeat (first | with_reducible exact pk_nil | refine pk_box rfl ?_ | refine pk_rd rfl ?_ | refine pk_sl rfl ?_ | with_reducible refine pk_app ?_ | with_reducible refine pk_app0 ?_ | with_reducible refine pk_app0L ?_ | with_reducible exact pk_tl | refine pk_var ?_)))) ?_
 rintro ⟨k, X, u9⟩ ⟨hk, hX, hXr, hf⟩
 dsimp only at hk hX hXr hf ⊢
 refine C_form (v := u9) gvo (fun A9 c9 hv9 _ => ?_)
 subst hv9
 have hXde := hX.de; have hXbl := beh_len hX; have hXst := hX.r.st; have hXgi := gasA_in X X.de
 refine C_seq ?_
 refine C_region ?_
 refine Jq (q_lss rfl rfl) ?_
 refine L_then ?_
 refine C_seq ?_
 refine C_dec rfl (fun h2 => ?_) (fun h2 => ?_)
 obtain ⟨y, f, he, hf9, han⟩ := sch_at hS (k := k) (by omega); have hel := map_get cDl he; have hef := map_get cI hf9; obtain ⟨_, _, _, hf6⟩ := han
 refine C_skip_then ?_
 refine C_seq ?_
 refine C_block ?_
 refine C_seq ?_
 refine C_region ?_
 refine Jq (q_move rfl) ?_
 refine Jq (by first | exact q_index tb rfl rfl rfl rfl gvo (by omega) (by first | omega | (simp; done) | (simp; omega)) | exact q_indexP tb rfl rfl rfl rfl (by omega) (by omega)) ?_
 refine Jq (q_loadEA tb rfl rfl gvo (i := k) (o := 0) (by omega) hel rfl rfl) ?_
 refine L_alloc tb rfl rfl fun g9 => ?_
 refine Jq (q_assign rfl) ?_
 refine L_st tb rfl rfl ?_
 refine L_then ?_
 refine C_seq ?_
 refine C_seq ?_
 refine C_region ?_
 refine Jq (q_loadA tb rfl rfl bxo rfl rfl) ?_
 refine Jq (q_loadA tb rfl rfl bxo rfl rfl) ?_
 refine L_call tb rfl rfl (ct_ascent_task_check _ _ _ X y hX) (ps_cons gvo no_ps) rfl ?_
 refine Jq (q_assign rfl) ?_
 refine L_then ?_
 refine C_seq ?_
 refine C_region ?_
 refine Jq (q_move rfl) ?_
 refine Jq (q_neq rfl rfl) ?_
 refine L_then ?_
 refine C_dec rfl (fun h5 => ?_) (fun h5 => ?_)
 refine C_seq ?_
 refine C_region ?_
 refine Jq (q_move rfl) ?_
 refine Jq (q_move rfl) ?_
 refine Jq (q_assign rfl) ?_
 refine Jq (q_assign rfl) ?_
 refine L_then ?_
 refine C_ret ?_
 have e9 := hf.symm.trans (chk_1 he hf9 h5)
 rw [hcs, e9]
 exact ret_of (res2 rfl rfl rfl) sub_nil (by intro r hr; cases hr) ⟨rfl, rfl⟩
 have hk0 := Decidable.not_not.1 h5
 have hy := (ckAl_ok hk0).1
 refine C_skip_then ?_
 refine C_seq ?_
 refine C_seq ?_
 refine C_draw (n := 9) [(0, false), (1, false), (2, false), (3, false), (4, false), (5, false), (6, false), (7, false), (8, false)] mixed (by kernel_rfl) ?_
 refine Yq rfl (q_field tb rfl rfl rfl) ?_
 refine Yq rfl (q_load tb rfl rfl bxo rfl) ?_
 refine Yq rfl (q_move rfl) ?_
 refine Yq rfl (by first | exact q_index tb rfl rfl rfl rfl gvo (by omega) (by first | omega | (simp; done) | (simp; omega)) | exact q_indexP tb rfl rfl rfl rfl (by omega) (by omega)) ?_
 refine Yq rfl (q_loadE tb rfl rfl gvo (i := k) (o := 0) (by omega) hef rfl) ?_
 refine Yq rfl (q_field tb rfl rfl rfl) ?_
 refine Yq rfl (q_field tb rfl rfl rfl) ?_
 refine Yq rfl (q_load tb rfl rfl bxo rfl) ?_
 refine Yq rfl (q_gtr rfl rfl) ?_
 refine W_nil ?_
 refine L_then ?_
 refine C_dec rfl (fun h6 => ?_) (fun h6 => ?_)
 rw [← hXr] at h6
 refine C_seq ?_
 refine C_region ?_
 refine Jq (q_move rfl) ?_
 refine Jq (q_assign rfl) ?_
 refine Jq (q_assign rfl) ?_
 refine L_then ?_
 refine C_ret ?_
 have e9 := hf.symm.trans (chk_2 he hf9 (fun hh => hh hk0) h6)
 rw [hcs, e9]
 exact ret_of (res2 rfl rfl rfl) sub_nil (by intro r hr; cases hr) ⟨rfl, rfl⟩
 rw [← hXr] at h6
 refine C_skip_then ?_
 refine C_seq ?_
 refine C_seq ?_
 refine C_draw (n := 14) [(0, false), (1, false), (3, false), (4, false), (5, false), (6, false), (7, false), (2, true), (8, true), (9, false), (10, false), (11, false), (12, false), (13, false)] mixed (by kernel_rfl) ?_
 refine Yq rfl (q_loadA tb rfl rfl bxo rfl rfl) ?_
 refine Yq rfl (q_loadA tb rfl rfl bxo rfl rfl) ?_
 refine Yq rfl (q_field tb rfl rfl rfl) ?_
 refine Yq rfl (q_load tb rfl rfl bxo rfl) ?_
 refine Yq rfl (q_move rfl) ?_
 refine Yq rfl (by first | exact q_index tb rfl rfl rfl rfl gvo (by omega) (by first | omega | (simp; done) | (simp; omega)) | exact q_indexP tb rfl rfl rfl rfl (by omega) (by omega)) ?_
 refine Yq rfl (q_loadE tb rfl rfl gvo (i := k) (o := 0) (by omega) hef rfl) ?_
 refine W_lo rfl rfl rfl rfl (lo_call tb rfl rfl (ct_ascent_task_tissues _ _ _ X y hX hy) (ps_cons gvo (ps_cons gvo (ps_cons gvo no_ps))) isTt_sinks) ?_
 rintro _ _ ⟨A50, n50, c50, B50, m50, d50, rfl, rfl⟩
 refine W_call tb rfl rfl rfl rfl (ct_tissue_Kept _ _ (lgA X y) (faA X) f X.ts X.ls (by omega) (by omega)) (ps_cons gvo (ps_cons gvo no_ps)) rfl ?_
 rw [kp_E hX hy hf6]
 refine Yq rfl (q_move rfl) ?_
 refine Yq rfl (q_ext0 rfl) ?_
 refine Yq rfl (q_ext1 rfl) ?_
 refine Yq rfl (q_assign rfl) ?_
 refine Yq rfl (q_assign rfl) ?_
 refine W_nil ?_
 refine L_then ?_
 refine C_seq ?_
 refine C_region ?_
 refine Jq (q_move rfl) ?_
 refine Jq (q_neq rfl rfl) ?_
 refine L_then ?_
 refine C_dec rfl (fun h7 => ?_) (fun h7 => ?_)
 refine C_seq ?_
 refine C_region ?_
 refine Jq (q_move rfl) ?_
 refine Jq (q_assign rfl) ?_
 refine Jq (q_assign rfl) ?_
 refine L_then ?_
 refine C_ret ?_
 have e9 := hf.symm.trans (chk_3 he hf9 (fun hh => hh hk0) h6 h7)
 rw [hcs, e9]
 exact ret_of (res2 rfl rfl rfl) sub_nil (by intro r hr; cases hr) ⟨rfl, rfl⟩
 refine C_skip_then ?_
 refine C_region ?_
 refine Jq (q_loadA tb rfl rfl bxo rfl rfl) ?_
 refine Jq (q_loadA tb rfl rfl bxo rfl rfl) ?_
 refine L_lo rfl rfl rfl (lo_call tb rfl rfl (ct_ascent_task_behind _ _ _ X y hX hy) (ps_cons gvo (ps_cons gvo (ps_cons gvo no_ps))) isBh_sinks) ?_
 rintro _ _ ⟨A64, n64, c64, rfl, rfl⟩
 refine L_st tb rfl rfl ?_
 refine L_blk ?_
 refine C_region ?_
 refine Jq (q_add rfl rfl (by first | exact IntWalk.i64_in _ (by omega) | rfl)) ?_
 refine Jq (q_move rfl) ?_
 refine L_end ?_
 exact fun ac_ wo_ hs_ => ⟨(k + 1, bhA X y, .slice A64 n64 c64), ⟨by dsimp only; omega, bh_ok hX hy, hXr, by rw [← hf, chk_4 he hf9 (fun hh => hh hk0) h6 h7]; rfl⟩, (by dsimp only; omega), hs_.weak ⟨rfl, rfl, rfl, rfl, rfl, rfl, trivial⟩ (fun h_ => sl_to_rd (show WS _ _ (sl (.slice A64 n64 c64) 139 4 ((bhA X y).ls.map cLd) :: _) _ from h_.pk (by repeat (first | with_reducible exact pk_nil | refine pk_box rfl ?_ | refine pk_rd rfl ?_ | refine pk_sl rfl ?_ | with_reducible refine pk_app ?_ | with_reducible refine pk_app0 ?_ | with_reducible refine pk_app0L ?_ | with_reducible exact pk_tl | refine pk_var ?_))))⟩
 refine C_exit ?_
 change C Tryz.prog _ _ _ _ _ _ _
 refine C_seq ?_
 refine C_seq ?_
 refine C_region ?_
 refine Jq (q_field tb rfl rfl rfl) ?_
 refine Jq (q_field tb rfl rfl rfl) ?_
 refine Jq (q_load tb rfl rfl bxo rfl) ?_
 refine Jq (q_neq rfl rfl) ?_
 refine L_then ?_
 refine C_dec rfl (fun h8 => ?_) (fun h8 => ?_)
 refine C_seq ?_
 refine C_region ?_
 refine Jq (q_assign rfl) ?_
 refine Jq (q_assign rfl) ?_
 refine L_then ?_
 refine C_ret ?_
 have e9 := hf.symm.trans ((chk_5 (by omega)).trans (if_pos h8))
 rw [hcs, e9]
 exact ret_of (res2 rfl rfl rfl) sub_nil (by intro r hr; cases hr) ⟨rfl, rfl⟩
 refine C_skip_then ?_
 refine C_seq ?_
 refine C_region ?_
 refine Jq (q_loadA tb rfl rfl bxo rfl rfl) ?_
 refine L_call tb rfl rfl (ct_ascent_seconds _ _ L (sch_sec hS) (by omega)) (ps_cons gvo no_ps) rfl ?_
 refine Jq (q_assign rfl) ?_
 refine Jq (q_assign rfl) ?_
 refine L_then ?_
 refine C_ret ?_
 have e9 := hf.symm.trans ((chk_5 (by omega)).trans (if_neg h8))
 rw [hcs, e9]
 exact ret_of (res2 rfl rfl rfl) sub_nil (by intro r hr; cases hr) ⟨rfl, rfl⟩
end Go.Proofs.YthilaakeimfedaaGreatDoor
