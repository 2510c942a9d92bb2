/-
  Walks: each function named returns what its model says. Conditions: those in front of each theorem.
-/
import Derived.Test.YtacndicgpkeobaaGreatDoorT
namespace Go.Proofs.YtacndicgpkeobaaGreatDoor
open Go.RowKit

set_option maxRecDepth 100000 in
theorem ct_tissue_CheckTask (v u : Value) (x : Lg) (fa : Int) (ts : List Cp) (ls : List Ld) (hle : ts.length ≤ 1000000) (hle2 : ls.length ≤ 1000000) : Ct Tryz.prog 243 [.agg (cDv v u x fa).toArray] [(v, 4, ts.map cCp), (u, 4, ls.map cLd)] (isV (.int .i64 (ckTask ts ls x fa))) := by
 refine Ct.of (N := 23) Tryz.func243 rfl rfl rfl fun w => ?_
 refine C_weak (E' := [(0, .agg (cDv v u x fa).toArray)]) (rs' := [rd v 4 (ts.map cCp), rd u 4 (ls.map cLd)]) ⟨rfl, trivial⟩ (fun _ h => h) ?_
 refine C_seq ?_
 refine C_region ?_
 refine L_box rfl rfl rfl fun g1 => ?_
 refine Jq (q_assign rfl) ?_
 refine L_then ?_
 refine C_seq ?_
 refine C_seq ?_
 refine C_region ?_
 refine Jq (q_field tb rfl rfl rfl) ?_
 refine Jq (q_load tb rfl rfl bxo rfl) ?_
 refine Jq (q_field tb rfl rfl rfl) ?_
 refine Jq (q_load tb rfl rfl bxo rfl) ?_
 refine L_call tb rfl rfl (ct_tissue_CheckLoads v u ts ls (by omega) (by omega)) (ps_cons gvo (ps_cons gvo no_ps)) rfl ?_
 refine Jq (q_assign rfl) ?_
 refine L_then ?_
 refine C_seq ?_
 refine C_region ?_
 refine Jq (q_move rfl) ?_
 refine Jq (q_neq rfl rfl) ?_
 refine L_then ?_
 refine C_dec rfl (fun h1 => ?_) (fun h1 => ?_)
 refine C_seq ?_
 refine C_region ?_
 refine Jq (q_move rfl) ?_
 refine Jq (q_assign rfl) ?_
 refine L_then ?_
 refine C_ret ?_
 exact ret_of (res1 rfl rfl) sub_nil (by intro r hr; cases hr) ⟨(congrArg (Value.int .i64) (by simp only [ckTask]; (repeat' split) <;> omega)), rfl⟩
 refine C_skip_then ?_
 refine C_seq ?_
 refine C_seq ?_
 refine C_region ?_
 refine Jq (q_field tb rfl rfl rfl) ?_
 refine Jq (q_loadA tb rfl rfl bxo rfl rfl) ?_
 refine L_call tb rfl rfl (ct_tissue_CheckLeg x) no_ps rfl ?_
 refine Jq (q_assign rfl) ?_
 refine L_then ?_
 refine C_seq ?_
 refine C_region ?_
 refine Jq (q_move rfl) ?_
 refine Jq (q_neq rfl rfl) ?_
 refine L_then ?_
 refine C_dec rfl (fun h2 => ?_) (fun h2 => ?_)
 refine C_seq ?_
 refine C_region ?_
 refine Jq (q_move rfl) ?_
 refine Jq (q_assign rfl) ?_
 refine L_then ?_
 refine C_ret ?_
 exact ret_of (res1 rfl rfl) sub_nil (by intro r hr; cases hr) ⟨(congrArg (Value.int .i64) (by simp only [ckTask]; (repeat' split) <;> omega)), rfl⟩
 refine C_skip_then ?_
 refine C_seq ?_
 refine C_seq ?_
 refine C_region ?_
 refine Jq (q_field tb rfl rfl rfl) ?_
 refine Jq (q_load tb rfl rfl bxo rfl) ?_
 refine L_call tb rfl rfl (ct_tissue_isFactor _) no_ps rfl ?_
 refine Jq (q_not rfl decide_not.symm) ?_
 refine L_then ?_
 refine C_dec rfl (fun h3 => ?_) (fun h3 => ?_)
 refine C_seq ?_
 refine C_region ?_
 refine Jq (q_assign rfl) ?_
 refine L_then ?_
 refine C_ret ?_
 exact ret_of (res1 rfl rfl) sub_nil (by intro r hr; cases hr) ⟨(congrArg (Value.int .i64) (by simp only [ckTask]; (repeat' split) <;> omega)), rfl⟩
 refine C_skip_then ?_
 refine C_seq ?_
 refine C_region ?_
 refine Jq (q_assign rfl) ?_
 refine L_then ?_
 refine C_ret ?_
 exact ret_of (res1 rfl rfl) sub_nil (by intro r hr; cases hr) ⟨(congrArg (Value.int .i64) (by simp only [ckTask]; (repeat' split) <;> omega)), rfl⟩
set_option maxRecDepth 100000 in
theorem ct_tissue_checkFine (v u : Value) (x : Lg) (fa fi : Int) (ts : List Cp) (ls : List Ld) (hle : ts.length ≤ 1000000) (hle2 : ls.length ≤ 1000000) : Ct Tryz.prog 204 [.agg (cDv v u x fa).toArray, .int .i64 fi] [(v, 4, ts.map cCp), (u, 4, ls.map cLd)] (isV (.int .i64 (ckFine ts ls x fa fi))) := by
 refine Ct.of (N := 14) Tryz.func204 rfl rfl rfl fun w => ?_
 refine C_weak (E' := [(0, .agg (cDv v u x fa).toArray), (1, .int .i64 fi)]) (rs' := [rd v 4 (ts.map cCp), rd u 4 (ls.map cLd)]) ⟨rfl, rfl, trivial⟩ (fun _ h => h) ?_
 refine C_seq ?_
 refine C_region ?_
 refine L_box rfl rfl rfl fun g2 => ?_
 refine Jq (q_assign rfl) ?_
 refine L_then ?_
 refine C_seq ?_
 refine C_seq ?_
 refine C_region ?_
 refine Jq (q_loadA tb rfl rfl bxo rfl rfl) ?_
 refine L_call tb rfl rfl (ct_tissue_CheckTask v u x fa ts ls hle hle2) (ps_cons gvo (ps_cons gvo no_ps)) rfl ?_
 refine Jq (q_assign rfl) ?_
 refine L_then ?_
 refine C_seq ?_
 refine C_region ?_
 refine Jq (q_move rfl) ?_
 refine Jq (q_neq rfl rfl) ?_
 refine L_then ?_
 refine C_dec rfl (fun h1 => ?_) (fun h1 => ?_)
 refine C_seq ?_
 refine C_region ?_
 refine Jq (q_move rfl) ?_
 refine Jq (q_assign rfl) ?_
 refine L_then ?_
 refine C_ret ?_
 exact ret_of (res1 rfl rfl) sub_nil (by intro r hr; cases hr) ⟨(congrArg (Value.int .i64) (by simp only [ckFine]; (repeat' split) <;> omega)), rfl⟩
 refine C_skip_then ?_
 refine C_seq ?_
 refine C_seq ?_
 refine C_region ?_
 refine Jq (q_move rfl) ?_
 refine L_call tb rfl rfl (ct_tissue_isFine _) no_ps rfl ?_
 refine Jq (q_not rfl decide_not.symm) ?_
 refine L_then ?_
 refine C_dec rfl (fun h2 => ?_) (fun h2 => ?_)
 refine C_seq ?_
 refine C_region ?_
 refine Jq (q_assign rfl) ?_
 refine L_then ?_
 refine C_ret ?_
 exact ret_of (res1 rfl rfl) sub_nil (by intro r hr; cases hr) ⟨(congrArg (Value.int .i64) (by simp only [ckFine]; (repeat' split) <;> omega)), rfl⟩
 refine C_skip_then ?_
 refine C_seq ?_
 refine C_region ?_
 refine Jq (q_assign rfl) ?_
 refine L_then ?_
 refine C_ret ?_
 exact ret_of (res1 rfl rfl) sub_nil (by intro r hr; cases hr) ⟨(congrArg (Value.int .i64) (by simp only [ckFine]; (repeat' split) <;> omega)), rfl⟩
set_option maxRecDepth 100000 in
theorem ct_tissue_peak (a b : Ld) (ha : inLd a) (hb : inLd b) : Ct Tryz.prog 244 [.agg (cLd a).toArray, .agg (cLd b).toArray] [] (isV (.int .i64 (peakL a b))) := by
 refine Ct.of (N := 20) Tryz.func244 rfl rfl rfl fun w => ?_
 refine C_weak (E' := [(0, .agg (cLd a).toArray), (1, .agg (cLd b).toArray)]) (rs' := []) ⟨rfl, rfl, trivial⟩ (fun _ h => h) ?_
 have h1 := ha.1.c; have h2 := ha.1.e; have h3 := ha.2.c; have h4 := ha.2.e; have h5 := hb.1.c; have h6 := hb.1.e; have h7 := hb.2.c; have h8 := hb.2.e
 refine C_seq ?_
 refine C_region ?_
 refine L_box rfl rfl rfl fun g2 => ?_
 refine L_box rfl rfl rfl fun g3 => ?_
 refine Jq (q_assign rfl) ?_
 refine L_then ?_
 refine C_seq ?_
 refine C_region ?_
 refine Jq (q_field tb rfl rfl rfl) ?_
 refine Jq (q_field tb rfl rfl rfl) ?_
 refine Jq (q_load tb rfl rfl bxo rfl) ?_
 refine Jq (q_field tb rfl rfl rfl) ?_
 refine Jq (q_field tb rfl rfl rfl) ?_
 refine Jq (q_load tb rfl rfl bxo rfl) ?_
 refine Jq (q_max rfl rfl) ?_
 refine Jq (q_field tb rfl rfl rfl) ?_
 refine Jq (q_field tb rfl rfl rfl) ?_
 refine Jq (q_load tb rfl rfl bxo rfl) ?_
 refine Jq (q_field tb rfl rfl rfl) ?_
 refine Jq (q_field tb rfl rfl rfl) ?_
 refine Jq (q_load tb rfl rfl bxo rfl) ?_
 refine Jq (q_max rfl rfl) ?_
 refine Jq (q_add rfl rfl (by first | exact IntWalk.i64_in _ (by omega) | rfl)) ?_
 refine Jq (q_assign rfl) ?_
 refine L_then ?_
 refine C_ret ?_
 exact ret_of (res1 rfl rfl) sub_nil (by intro r hr; cases hr) ⟨rfl, rfl⟩
set_option maxRecDepth 100000 in
set_option maxHeartbeats 4000000 in
theorem ct_tissue_task_kept (v u : Value) (x : Lg) (fa : Int) (f : Nat) (ts : List Cp) (ls : List Ld) (H : okTask ts ls x fa) (hf : f ≤ 6) : Ct Tryz.prog 205 [.agg (cDv v u x fa).toArray, .int .i64 (f : Int)] [(v, 4, ts.map cCp), (u, 4, ls.map cLd)] (isV (.int .i64 (keptT ts ls x fa f))) := by
 refine Ct.ofM (N := 79) Tryz.func205 rfl rfl rfl fun w => ?_
 refine C_weak (E' := [(0, .agg (cDv v u x fa).toArray), (1, .int .i64 (f : Int))]) (rs' := [rd v 4 (ts.map cCp), rd u 4 (ls.map cLd)]) ⟨rfl, rfl, trivial⟩ (fun _ h => h) ?_
 obtain ⟨n, hn⟩ : ∃ n : Nat, n = 2 ^ f := ⟨_, rfl⟩
 have hT : onTask ts ls x fa f n := ⟨H, hf, hn⟩
 have h64 := two_f hf hn
 have hk := H.k; have hlen := hk.len; have htb := hk.b
 have hl1 := len_map cCp ts; have hl2 := len_map cLd ls
 refine C_form (v := u) (gv1 gr0) (fun Au cu hu _ => ?_)
 subst hu
 refine C_res (fun _ hw => hw.dup (k := rd (.slice Au (ls.map cLd).length cu) 4 (ls.map cLd)) m1 (rd_own _ _ _)) ?_
 refine C_res (fun _ hw => hw.dup (k := rd v 4 (ts.map cCp)) m1 (rd_own _ _ _)) ?_
 refine C_seq ?_
 refine C_region ?_
 refine L_box rfl rfl rfl fun g2 => ?_
 refine Jq (q_assign rfl) ?_
 refine L_then ?_
 refine C_seq ?_
 refine C_region ?_
 refine Jq (q_field tb rfl rfl rfl) ?_
 refine Jq (q_field tb rfl rfl rfl) ?_
 refine Jq (q_load tb rfl rfl bxo rfl) ?_
 refine L_alloc tb rfl rfl fun g5 => ?_
 refine L_st tb rfl rfl ?_
 refine L_then ?_
 refine C_seq ?_
 refine C_region ?_
 refine L_alloc tb rfl rfl fun g6 => ?_
 refine L_alloc tb rfl rfl fun g7 => ?_
 refine L_st tb rfl rfl ?_
 refine L_st tb rfl rfl ?_
 refine L_then ?_
 refine C_seq ?_
 refine C_seq ?_
 refine C_region ?_
 refine Jq (q_field tb rfl rfl rfl) ?_
 refine Jq (q_field tb rfl rfl rfl) ?_
 refine Jq (q_load tb rfl rfl bxo rfl) ?_
 refine Jq (q_field tb rfl rfl rfl) ?_
 refine Jq (q_field tb rfl rfl rfl) ?_
 refine Jq (q_load tb rfl rfl bxo rfl) ?_
 refine Jq (q_field tb rfl rfl rfl) ?_
 refine Jq (q_field tb rfl rfl rfl) ?_
 refine Jq (q_loadA tb rfl rfl bxo rfl rfl) ?_
 refine Jq (q_move rfl) ?_
 refine L_lo rfl rfl rfl (lo_call tb rfl rfl (ct_tissue_states v (.slice Au (ls.map cLd).length cu) x f ts ls) (ps_cons gvo (ps_cons gvo no_ps)) (by rintro y rs ⟨g4, g5, g6, g7, _, rfl⟩ r hr; simp only [List.mem_cons, List.not_mem_nil, or_false] at hr; rcases hr with rfl | rfl | rfl | rfl <;> exact box_sinks _ _ _)) ?_
 rintro _ _ ⟨s4, s5, s6, s7, rfl, rfl⟩
 refine L_then ?_
 refine C_block ?_
 refine C_range (fun rs_ => ∃ y : Value, rs_ = [rd y 4 ((prevM f ts ls x n (rmk x n)).map cLd), box g5 23 [y], box g6 4 [.bool (yesB fa f ts ls x n (rmk x n))], box g7 4 [.bool (noB fa f ts ls x n (rmk x n))], box g2 289 (cDv v (.slice Au (ls.map cLd).length cu) x fa), rd v 4 (ts.map cCp), rd y 4 ((loadedM ts ls x f).map cLd)]) rfl (tb.en_ok _ (lkT_mem (rfl : lkT tb.en 214 = some ()))) (fun l D fn tm hts hE => ?_) ?_
 refine it_statesR _ _ l D _ (fun k y => [rd y 4 ((prevM f ts ls x n k).map cLd), box g5 23 [y], box g6 4 [.bool (yesB fa f ts ls x n k)], box g7 4 [.bool (noB fa f ts ls x n k)], box g2 289 (cDv v (.slice Au (ls.map cLd).length cu) x fa), rd v 4 (ts.map cCp)]) v (.slice Au (ls.map cLd).length cu) x f n ts ls s4 s5 s6 s7 hf hn H.xx hlen (by omega) hk.c hk.x rfl ?hR _ _ (fun w_ h_ => h_.pick0 [2, 3, 4, 5, 10, 11, 1, 0, 13, 8, 7, 6, 9, 12] (by decide)) (fun y => ⟨y, rfl⟩)
 intro k y y9 hk9
 refine Rnd.of hts rfl hE (fun own => ?_)
 refine C_form (v := y9) (gv1 gr0) (fun Ay cy hy _ => ?_)
 subst hy
 have hlw := low_le H.xx h64 hk9; have hpl := prevM_len (f := f) (ts := ts) (x := x) (n := n) hlen k; have hsl := stM_len (f := f) (ts := ts) (x := x) (n := n) hlen k
 refine C_region ?_
 refine L_alloc tb rfl rfl fun g8 => ?_
 refine L_st tb rfl rfl ?_
 refine L_front1 ?_
 refine L_end ?_
 refine beginRh fun LP hLP => ?_
 refine C_block ?_
 refine C_cut (ι := Unit) (fun _p => ([(2, .pointer (some ⟨g2, 0, none⟩)), (5, .pointer (some ⟨g5, 0, none⟩)), (6, .pointer (some ⟨g6, 0, none⟩)), (7, .pointer (some ⟨g7, 0, none⟩)), (8, .pointer (some ⟨g8, 0, none⟩))], [box g6 4 [.bool (yesB fa f ts ls x n (k + 1))], LP, box g8 270 (stC x n k (.slice Ay (List.map cLd (stM f ts ls x n k)).length cy)), rd (.slice Ay (List.map cLd (stM f ts ls x n k)).length cy) 4 ((stM f ts ls x n k).map cLd), rd y 4 ((prevM f ts ls x n k).map cLd), box g5 23 [y], box g7 4 [.bool (noB fa f ts ls x n k)], box g2 289 (cDv v (.slice Au (ls.map cLd).length cu) x fa), rd v 4 (ts.map cCp)] ++ own)) (fun _p => True) ?_ ?_
 refine C_seq ?_
 refine C_region ?_
 refine Jq (q_field tb rfl rfl rfl) ?_
 refine Jq (q_field tb rfl rfl rfl) ?_
 refine Jq (q_load tb rfl rfl bxo rfl) ?_
 refine Jq (q_len tb rfl rfl gvo) ?_
 refine Jq (q_move rfl) ?_
 refine L_then ?_
 refine C_block ?_
 refine C_loop (ι := Nat × Bool) (fun q => ([(2, .pointer (some ⟨g2, 0, none⟩)), (5, .pointer (some ⟨g5, 0, none⟩)), (6, .pointer (some ⟨g6, 0, none⟩)), (7, .pointer (some ⟨g7, 0, none⟩)), (8, .pointer (some ⟨g8, 0, none⟩)), (28, v), (29, .int .i64 (ts.map cCp).length), (30, .int .i64 (q.1 : Int))], [box g6 4 [.bool q.2], LP, box g8 270 (stC x n k (.slice Ay (List.map cLd (stM f ts ls x n k)).length cy)), rd (.slice Ay (List.map cLd (stM f ts ls x n k)).length cy) 4 ((stM f ts ls x n k).map cLd), rd y 4 ((prevM f ts ls x n k).map cLd), box g5 23 [y], box g7 4 [.bool (noB fa f ts ls x n k)], box g2 289 (cDv v (.slice Au (ls.map cLd).length cu) x fa), rd v 4 (ts.map cCp)] ++ own)) (fun q => q.1 ≤ ts.length ∧ (q.2 = true ∧ all2 (pk1 (lowM x n k) fa) (ts.drop q.1) (((prevM f ts ls x n k).zip (stM f ts ls x n k)).drop q.1) ↔ yesB fa f ts ls x n k = true ∧ pkP (lowM x n k) fa ts (prevM f ts ls x n k) (stM f ts ls x n k))) (fun q => ts.length - q.1) (0, yesB fa f ts ls x n k) ⟨Nat.zero_le _, Iff.rfl⟩ (fun a w hs => hs.weak ⟨rfl, rfl, rfl, rfl, rfl, rfl, rfl, rfl, trivial⟩ (fun h => h.pk (by repeat (first | with_reducible exact pk_nil | refine pk_box rfl ?_ | refine pk_rd rfl ?_ | refine pk_sl rfl ?_ | with_reducible refine pk_app ?_ | with_reducible refine pk_app0 ?_ | with_reducible refine pk_app0L ?_ | with_reducible exact pk_tl | refine pk_var ?_)))) ?_
 rintro ⟨i, b⟩ ⟨hi9, hb9⟩
 dsimp only at hi9 hb9 ⊢
 refine C_seq ?_
 refine C_region ?_
 refine Jq (q_lss rfl rfl) ?_
 refine L_then ?_
 refine C_seq ?_
 refine C_dec rfl (fun h1 => ?_) (fun h1 => ?_)
 obtain ⟨c, hec⟩ := get_some ts (k := i) (by omega); obtain ⟨a, hea⟩ := get_some (prevM f ts ls x n k) (k := i) (by omega); obtain ⟨b9, heb⟩ := get_some (stM f ts ls x n k) (k := i) (by omega); have helc := map_get cCp hec; have hela := map_get cLd hea; have helb := map_get cLd heb; have hst := all2_step (R := pk1 (lowM x n k) fa) hec (zip_get hea heb); have hai := prevM_in (f := f) (ts := ts) H.xx h64 hk.x k (by omega) a (List.mem_of_getElem? hea); have hbi := stM_in (f := f) (ts := ts) H.xx h64 hk.x k hk9 b9 (List.mem_of_getElem? heb); have hck := hk.c c (List.mem_of_getElem? hec); have hpk := peak_in hai hbi
 refine C_skip_then ?_
 refine C_seq ?_
 refine C_block ?_
 refine C_seq ?_
 refine C_region ?_
 refine Jq (q_move rfl) ?_
 refine Jq (by first | exact q_index tb rfl rfl rfl rfl gvo (by omega) (by first | omega | (simp; done) | (simp; omega)) | exact q_indexP tb rfl rfl rfl rfl (by omega) (by omega)) ?_
 refine Jq (q_loadEA tb rfl rfl gvo (i := i) (o := 0) (by omega) helc rfl rfl) ?_
 refine L_alloc tb rfl rfl fun g10 => ?_
 refine Jq (q_assign rfl) ?_
 refine L_st tb rfl rfl ?_
 refine L_then ?_
 refine C_draw (n := 22) [(0, false), (1, false), (2, false), (3, false), (4, false), (5, false), (6, false), (7, false), (8, false), (9, false), (10, false), (13, false), (14, false), (15, false), (16, false), (17, false), (18, false), (11, true), (12, false), (19, true), (20, false), (21, false)] mixed (by kernel_rfl) ?_
 refine Yq rfl (q_load tb rfl rfl bxo rfl) ?_
 refine Yq rfl (q_move rfl) ?_
 refine W_bool (d := 36) rfl (fun hbt => ?_) (fun hbt => ?_)
 refine Yg rfl (q_load tb rfl rfl bxo rfl) ?_
 refine Yg rfl (q_move rfl) ?_
 refine Yg rfl (by first | exact q_index tb rfl rfl rfl rfl gvo (by omega) (by first | omega | (simp; done) | (simp; omega)) | exact q_indexP tb rfl rfl rfl rfl (by omega) (by omega)) ?_
 refine Yg rfl (q_loadEA tb rfl rfl gvo (i := i) (o := 0) (by omega) hela rfl rfl) ?_
 refine Yg rfl (q_field tb rfl rfl rfl) ?_
 refine Yg rfl (q_load tb rfl rfl bxo rfl) ?_
 refine Yg rfl (q_move rfl) ?_
 refine Yg rfl (by first | exact q_index tb rfl rfl rfl rfl gvo (by omega) (by first | omega | (simp; done) | (simp; omega)) | exact q_indexP tb rfl rfl rfl rfl (by omega) (by omega)) ?_
 refine Yg rfl (q_loadEA tb rfl rfl gvo (i := i) (o := 0) (by omega) helb rfl rfl) ?_
 refine Yg rfl (q_loadA tb rfl rfl bxo rfl rfl) ?_
 refine Yg rfl (q_field tb rfl rfl rfl) ?_
 refine Yg rfl (q_load tb rfl rfl bxo rfl) ?_
 refine Yg rfl (q_field tb rfl rfl rfl) ?_
 refine Yg rfl (q_field tb rfl rfl rfl) ?_
 refine Yg rfl (q_load tb rfl rfl bxo rfl) ?_
 skip
 refine W_callg tb rfl rfl rfl rfl rfl rfl rfl rfl (ct_tissue_peak a b9 hai hbi) no_ps rfl ?_
 refine Yg rfl (q_mul rfl rfl (by first | exact IntWalk.i64_in _ (by omega) | rfl)) ?_
 have hlim := lim_in hck (p := lowM x n k) (by omega) H.fa
 refine W_callg tb rfl rfl rfl rfl rfl rfl rfl rfl (ct_tissue_limit c (lowM x n k) fa hck (by omega) H.fa) no_ps rfl ?_
 refine Yg rfl (q_leq rfl rfl) ?_
 refine Yq rfl (q_pickT rfl rfl) ?_
 refine W_nil ?_
 refine L_st tb rfl rfl ?_
 refine L_blk ?_
 refine C_region ?_
 refine Jq (q_add rfl rfl (by first | exact IntWalk.i64_in _ (by omega) | rfl)) ?_
 refine Jq (q_move rfl) ?_
 refine L_end ?_
 exact fun ac_ wo_ hs_ => ⟨(i + 1, decide (1000 * peakL a b9 ≤ limM c (lowM x n k) fa)), ⟨by dsimp only; omega, by dsimp only; rw [← hb9, hst, hbt]; simp [pk1]⟩, (by dsimp only; omega), hs_.weak ⟨rfl, rfl, rfl, rfl, rfl, rfl, rfl, rfl, trivial⟩ (fun h => h.pk (by repeat (first | with_reducible exact pk_nil | refine pk_box rfl ?_ | refine pk_rd rfl ?_ | refine pk_sl rfl ?_ | with_reducible refine pk_app ?_ | with_reducible refine pk_app0 ?_ | with_reducible refine pk_app0L ?_ | with_reducible exact pk_tl | refine pk_var ?_)))⟩
 refine Yk rfl ?_
 refine Yk rfl ?_
 refine Yk rfl ?_
 refine Yk rfl ?_
 refine Yk rfl ?_
 refine Yk rfl ?_
 refine Yk rfl ?_
 refine Yk rfl ?_
 refine Yk rfl ?_
 refine Yk rfl ?_
 refine Yk rfl ?_
 refine Yk rfl ?_
 refine Yk rfl ?_
 refine Yk rfl ?_
 refine Yk rfl ?_
 skip
 refine Ykl rfl ?_
 refine Yk rfl ?_
 have hlim := lim_in hck (p := lowM x n k) (by omega) H.fa
 refine Ykl rfl ?_
 refine Yk rfl ?_
 refine Yq rfl (q_pickF rfl rfl) ?_
 refine W_nil ?_
 refine L_st tb rfl rfl ?_
 refine L_blk ?_
 refine C_region ?_
 refine Jq (q_add rfl rfl (by first | exact IntWalk.i64_in _ (by omega) | rfl)) ?_
 refine Jq (q_move rfl) ?_
 refine L_end ?_
 exact fun ac_ wo_ hs_ => ⟨(i + 1, false), ⟨by dsimp only; omega, by dsimp only; rw [← hb9, hbt]; simp⟩, (by dsimp only; omega), hs_.weak ⟨rfl, rfl, rfl, rfl, rfl, rfl, rfl, rfl, trivial⟩ (fun h => h.pk (by repeat (first | with_reducible exact pk_nil | refine pk_box rfl ?_ | refine pk_rd rfl ?_ | refine pk_sl rfl ?_ | with_reducible refine pk_app ?_ | with_reducible refine pk_app0 ?_ | with_reducible refine pk_app0L ?_ | with_reducible exact pk_tl | refine pk_var ?_)))⟩
 refine C_exit ?_
 have e6 : b = yesB fa f ts ls x n (k + 1) := yesB_next (by rw [← hb9]; exact ⟨fun h => ⟨h, all2_end (by omega)⟩, fun h => h.1⟩)
 exact fun ac_ wo_ hs_ => ⟨(), trivial, hs_.weak ⟨rfl, rfl, rfl, rfl, rfl, trivial⟩ (fun h => h.pk (by repeat (first | with_reducible exact pk_nil | refine pk_box (by first | rfl | exact congrArg (fun b_ => [Value.bool b_]) e6) ?_ | refine pk_rd rfl ?_ | refine pk_sl (by first | rfl | exact congrArg (fun b_ => [Value.bool b_]) e6) ?_ | with_reducible refine pk_app ?_ | with_reducible refine pk_app0 ?_ | with_reducible refine pk_app0L ?_ | with_reducible exact pk_tl | refine pk_var ?_)))⟩
 intro _ _
 refine C_seq ?_
 refine C_region ?_
 refine Jq (q_load tb rfl rfl bxo rfl) ?_
 refine Jq (q_move rfl) ?_
 refine L_bool (d := 59) rfl (fun hno => ?_) (fun hno => ?_)
 iterate 13 refine Jk ?_
 refine Jq (q_pickT rfl rfl) ?_
 refine L_st tb rfl rfl ?_
 refine L_then ?_
 refine C_region ?_
 refine Jq (q_field tb rfl rfl rfl) ?_
 refine Jq (q_load tb rfl rfl bxo rfl) ?_
 refine L_st tb rfl rfl ?_
 refine L_end ?_
 subst hLP
 have e7 := noB_t (fa := fa) (f := f) (ts := ts) (ls := ls) (x := x) (n := n) (k := k) hno
 refine endR (fun w_ h_ => h_.pk (by repeat (first | with_reducible exact pk_nil | refine pk_box (by first | rfl | exact congrArg (fun b_ => [Value.bool b_]) e7.symm) ?_ | refine pk_rd rfl ?_ | refine pk_sl (by first | rfl | exact congrArg (fun b_ => [Value.bool b_]) e7.symm) ?_ | with_reducible refine pk_app ?_ | with_reducible refine pk_app0 ?_ | with_reducible refine pk_app0L ?_ | with_reducible exact pk_tl | refine pk_var ?_)))
 refine Jg (q_field tb rfl rfl rfl) ?_
 refine Jg (q_field tb rfl rfl rfl) ?_
 refine Jg (q_load tb rfl rfl bxo rfl) ?_
 refine Jg (q_field tb rfl rfl rfl) ?_
 refine Jg (q_load tb rfl rfl bxo rfl) ?_
 refine Jg (q_field tb rfl rfl rfl) ?_
 refine Jg (q_field tb rfl rfl rfl) ?_
 refine Jg (q_field tb rfl rfl rfl) ?_
 refine Jg (q_load tb rfl rfl bxo rfl) ?_
 refine Jg (q_field tb rfl rfl rfl) ?_
 refine Jg (q_field tb rfl rfl rfl) ?_
 refine Jg (q_load tb rfl rfl bxo rfl) ?_
 refine L_callg tb rfl rfl rfl rfl rfl rfl (ct_tissue_breaks v (.slice Ay (List.map cLd (stM f ts ls x n k)).length cy) (mkM x n k).p.hi fa ts (stM f ts ls x n k) (stM_ok hT hk9) (by omega) H.fa) (ps_cons gvo (ps_cons gvo no_ps)) rfl ?_
 refine Jq (q_pickF rfl rfl) ?_
 refine L_st tb rfl rfl ?_
 refine L_then ?_
 refine C_region ?_
 refine Jq (q_field tb rfl rfl rfl) ?_
 refine Jq (q_load tb rfl rfl bxo rfl) ?_
 refine L_st tb rfl rfl ?_
 refine L_end ?_
 subst hLP
 have e7 := noB_f (fa := fa) (f := f) (ts := ts) (ls := ls) (x := x) (n := n) (k := k) hno
 refine endR (fun w_ h_ => h_.pk (by repeat (first | with_reducible exact pk_nil | refine pk_box (by first | rfl | exact congrArg (fun b_ => [Value.bool b_]) e7.symm) ?_ | refine pk_rd rfl ?_ | refine pk_sl (by first | rfl | exact congrArg (fun b_ => [Value.bool b_]) e7.symm) ?_ | with_reducible refine pk_app ?_ | with_reducible refine pk_app0 ?_ | with_reducible refine pk_app0L ?_ | with_reducible exact pk_tl | refine pk_var ?_)))
 rintro D rs_ ⟨y, rfl⟩
 refine blk_end ?_
 refine C_seq ?_
 refine C_region ?_
 refine Jq (q_load tb rfl rfl bxo rfl) ?_
 refine Jq (q_load tb rfl rfl bxo rfl) ?_
 refine L_call tb rfl rfl (ct_tissue_answer (yesB fa f ts ls x n (rmk x n)) (noB fa f ts ls x n (rmk x n))) no_ps rfl ?_
 refine Jq (q_assign rfl) ?_
 refine L_then ?_
 refine C_ret ?_
 have e9 : ansM (yesB fa f ts ls x n (rmk x n)) (noB fa f ts ls x n (rmk x n)) = keptT ts ls x fa f := by unfold keptT; rw [← hn]; rfl
 exact ret_ofM (rs' := []) (res1M rfl rfl) (fun w_ h_ => h_.sub ((List.nil_sublist _).cons_cons _)) (by intro r hr; cases hr) ⟨congrArg (Value.int .i64) e9, rfl⟩
end Go.Proofs.YtacndicgpkeobaaGreatDoor
namespace Go.Proofs.YtacndicgpkeobaaGreatDoor
set_option maxRecDepth 100000
set_option maxHeartbeats 4000000
open Go.RowKit

set_option maxRecDepth 100000 in
theorem ct_tissue_Decided (v u : Value) (x : Lg) (fa fi : Int) (ts : List Cp) (ls : List Ld) (hle : ts.length ≤ 1000000) (hle2 : ls.length ≤ 1000000) : Ct Tryz.prog 164 [.agg (cDv v u x fa).toArray, .int .i64 fi] [(v, 4, ts.map cCp), (u, 4, ls.map cLd)] (isV (.tuple #[.int .i64 (decE_ ts ls x fa fi).1.1, .int .i64 (decE_ ts ls x fa fi).1.2, .int .i64 (decE_ ts ls x fa fi).2])) := by
 refine Ct.of (N := 31) Tryz.func164 rfl rfl rfl fun w => ?_
 refine C_weak (E' := [(0, .agg (cDv v u x fa).toArray), (1, .int .i64 fi)]) (rs' := [rd v 4 (ts.map cCp), rd u 4 (ls.map cLd)]) ⟨rfl, rfl, trivial⟩ (fun _ h => h) ?_
 refine C_seq ?_
 refine C_region ?_
 refine L_box rfl rfl rfl fun g2 => ?_
 refine Jq (q_assign rfl) ?_
 refine Jq (q_assign rfl) ?_
 refine Jq (q_assign rfl) ?_
 refine L_then ?_
 refine C_seq ?_
 refine C_seq ?_
 refine C_region ?_
 refine Jq (q_loadA tb rfl rfl bxo rfl rfl) ?_
 refine Jq (q_move rfl) ?_
 refine L_call tb rfl rfl (ct_tissue_checkFine v u x fa fi ts ls hle hle2) (ps_cons gvo (ps_cons gvo no_ps)) rfl ?_
 refine Jq (q_assign rfl) ?_
 refine L_then ?_
 refine C_seq ?_
 refine C_region ?_
 refine Jq (q_move rfl) ?_
 refine Jq (q_neq rfl rfl) ?_
 refine L_then ?_
 refine C_dec rfl (fun h1 => ?_) (fun h1 => ?_)
 refine C_seq ?_
 refine C_region ?_
 refine Jq (q_move rfl) ?_
 refine Jq (q_assign rfl) ?_
 refine Jq (q_assign rfl) ?_
 refine Jq (q_assign rfl) ?_
 refine L_then ?_
 refine C_ret ?_
 rw [decE_1 h1]
 exact ret_of (res3 rfl rfl rfl rfl) sub_nil (by intro r hr; cases hr) ⟨rfl, rfl⟩
 obtain ⟨H, hf0, hf6⟩ := ckFine_ok (Decidable.not_not.1 h1)
 obtain ⟨f, rfl⟩ := Int.eq_ofNat_of_zero_le hf0
 have hf : f ≤ 6 := by omega
 refine C_skip_then ?_
 refine C_seq ?_
 refine C_seq ?_
 refine C_region ?_
 refine Jq (q_move rfl) ?_
 refine Jq (q_add rfl rfl (by first | exact IntWalk.i64_in _ (by omega) | rfl)) ?_
 refine Jq (q_move rfl) ?_
 refine L_then ?_
 refine C_block ?_
 refine C_loop (ι := Nat) (fun k => ([(2, .pointer (some ⟨g2, 0, none⟩)), (1, .int .i64 (f : Int)), (17, .int .i64 ((f : Int) + 1)), (18, .int .i64 (k : Int))], [box g2 208 (cDv v u x fa), rd v 4 (ts.map cCp), rd u 4 (ls.map cLd)])) (fun k => k ≤ f + 1 ∧ decT ts ls x fa f = decF ts ls x fa f (f + 1 - k)) (fun k => f + 1 - k) 0 ⟨Nat.zero_le _, rfl⟩ (fun a w hs => hs.weak ⟨rfl, rfl, rfl, rfl, trivial⟩ (fun h => h.pk (by repeat (first | with_reducible exact pk_nil | refine pk_box rfl ?_ | refine pk_rd rfl ?_ | refine pk_sl rfl ?_ | with_reducible refine pk_app ?_ | with_reducible refine pk_app0 ?_ | with_reducible refine pk_app0L ?_ | with_reducible exact pk_tl | refine pk_var ?_)))) ?_
 rintro k ⟨hk, hd9⟩
 dsimp only at hk hd9 ⊢
 refine C_seq ?_
 refine C_region ?_
 refine Jq (q_lss rfl rfl) ?_
 refine L_then ?_
 refine C_seq ?_
 refine C_dec rfl (fun h2 => ?_) (fun h2 => ?_)
 refine C_skip_then ?_
 refine C_seq ?_
 refine C_block ?_
 refine C_seq ?_
 refine C_region ?_
 refine Jq (q_move rfl) ?_
 refine Jq (q_assign rfl) ?_
 refine L_then ?_
 refine C_seq ?_
 refine C_region ?_
 refine Jq (q_loadA tb rfl rfl bxo rfl rfl) ?_
 refine Jq (by first | exact q_build tb rfl rfl rfl rfl | exact q_buildArr tb rfl rfl rfl rfl rfl) ?_
 refine Jq (q_move rfl) ?_
 refine L_call tb rfl rfl (ct_tissue_task_kept v u x fa k ts ls H (by omega)) (ps_cons gvo (ps_cons gvo no_ps)) rfl ?_
 refine Jq (q_assign rfl) ?_
 refine L_then ?_
 refine C_seq ?_
 refine C_region ?_
 refine Jq (q_move rfl) ?_
 refine Jq (q_neq rfl rfl) ?_
 refine L_then ?_
 refine C_dec rfl (fun hq => ?_) (fun hq => ?_)
 refine C_seq ?_
 refine C_region ?_
 refine Jq (q_move rfl) ?_
 refine Jq (q_move rfl) ?_
 refine Jq (q_assign rfl) ?_
 refine Jq (q_assign rfl) ?_
 refine Jq (q_assign rfl) ?_
 refine L_then ?_
 refine C_ret ?_
 rw [decE_2 (Decidable.not_not.1 h1), hd9, decF_step (by omega), if_pos hq]
 exact ret_of (res3 rfl rfl rfl rfl) sub_nil (by intro r hr; cases hr) ⟨rfl, rfl⟩
 refine C_skip_blk ?_
 refine C_region ?_
 refine Jq (q_add rfl rfl (by first | exact IntWalk.i64_in _ (by omega) | rfl)) ?_
 refine Jq (q_move rfl) ?_
 refine L_end ?_
 exact fun ac_ wo_ hs_ => ⟨k + 1, ⟨by omega, by rw [hd9, decF_step (by omega), if_neg (fun hh => hh (Decidable.not_not.1 hq))]⟩, (by show f + 1 - (k + 1) < f + 1 - k; omega), hs_.weak ⟨rfl, rfl, rfl, rfl, trivial⟩ (fun h => h.pk (by repeat (first | with_reducible exact pk_nil | refine pk_box rfl ?_ | refine pk_rd rfl ?_ | refine pk_sl rfl ?_ | with_reducible refine pk_app ?_ | with_reducible refine pk_app0 ?_ | with_reducible refine pk_app0L ?_ | with_reducible exact pk_tl | refine pk_var ?_)))⟩
 refine C_exit ?_
 change C Tryz.prog _ _ _ _ _ _ _
 refine C_seq ?_
 refine C_region ?_
 refine Jq (q_move rfl) ?_
 refine Jq (q_assign rfl) ?_
 refine Jq (q_assign rfl) ?_
 refine Jq (q_assign rfl) ?_
 refine L_then ?_
 refine C_ret ?_
 have hkf : f + 1 - k = 0 := by omega
 rw [decE_2 (Decidable.not_not.1 h1), hd9, hkf]
 exact ret_of (res3 rfl rfl rfl rfl) sub_nil (by intro r hr; cases hr) ⟨rfl, rfl⟩
end Go.Proofs.YtacndicgpkeobaaGreatDoor
