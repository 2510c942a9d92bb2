/-
  Walks: each function named returns what its model says. Conditions: those in front of each theorem.
-/
import Derived.Test.YtacndicgpkeobaaGreatDoorAD
import Derived.Test.YtacndicgpkeobaaGreatDoorFol
import Derived.Test.YtacndicgpkeobaaGreatDoorEqT
import Derived.Test.YtacndicgpkeobaaGreatDoorShTreeI
namespace Go.Proofs.YtacndicgpkeobaaGreatDoor
open Go.RowKit

set_option maxRecDepth 100000 in
set_option maxHeartbeats 2000000 in
theorem ct_shotlinelaw04_same (v u z a b c : Value) (x : Asc) (hle1 : x.ts.length ≤ 100000) (hle2 : x.ls.length ≤ 100000) (hle3 : x.gs.length ≤ 100000) : Ct Tryz.prog 15 [.agg (cAt v u z x).toArray, .agg (cAt a b c x).toArray] [(v, 4, x.ts.map cCp), (u, 4, x.ls.map cLd), (z, 3, x.gs.map cAg), (a, 4, x.ts.map cCp), (b, 4, x.ls.map cLd), (c, 3, x.gs.map cAg)] (isV (.bool true)) := by
 refine Ct.of (N := 88) Tryz.func15 rfl rfl rfl fun w => ?_
 refine C_weak (E' := [(0, .agg (cAt v u z x).toArray), (1, .agg (cAt a b c x).toArray)]) (rs' := [rd v 4 (x.ts.map cCp), rd u 4 (x.ls.map cLd), rd z 3 (x.gs.map cAg), rd a 4 (x.ts.map cCp), rd b 4 (x.ls.map cLd), rd c 3 (x.gs.map cAg)]) ⟨rfl, rfl, trivial⟩ (fun _ h => h) ?_
 have hl1 := len_map cCp x.ts
 have hl2 := len_map cLd x.ls
 have hl3 := len_map cAg x.gs
 refine C_seq ?_
 refine C_region ?_
 refine L_box rfl rfl rfl fun g2 => ?_
 refine L_box rfl rfl rfl fun g3 => ?_
 refine Jq (q_assign rfl) ?_
 refine L_then ?_
 refine C_seq ?_
 refine C_seq ?_
 refine C_region ?_
 refine Jq (q_field tb rfl rfl rfl) ?_
 refine Jq (q_load tb rfl rfl bxo rfl) ?_
 refine Jq (q_len tb rfl rfl gvo) ?_
 refine Jq (q_field tb rfl rfl rfl) ?_
 refine Jq (q_load tb rfl rfl bxo rfl) ?_
 refine Jq (q_len tb rfl rfl gvo) ?_
 refine Jq (q_false (q_neq rfl rfl) (decide_eq_false fun h => h rfl)) ?_
 refine Jq (q_move rfl) ?_
 refine Jg (q_field tb rfl rfl rfl) ?_
 refine Jg (q_load tb rfl rfl bxo rfl) ?_
 refine Jg (q_len tb rfl rfl gvo) ?_
 refine Jg (q_field tb rfl rfl rfl) ?_
 refine Jg (q_load tb rfl rfl bxo rfl) ?_
 refine Jg (q_len tb rfl rfl gvo) ?_
 refine Jg (q_false (q_neq rfl rfl) (decide_eq_false fun h => h rfl)) ?_
 refine Jq (q_pickF rfl rfl) ?_
 refine Jq (q_move rfl) ?_
 refine Jg (q_field tb rfl rfl rfl) ?_
 refine Jg (q_load tb rfl rfl bxo rfl) ?_
 refine Jg (q_field tb rfl rfl rfl) ?_
 refine Jg (q_load tb rfl rfl bxo rfl) ?_
 refine Jg (q_false (q_neq rfl rfl) (decide_eq_false fun h => h rfl)) ?_
 refine Jq (q_pickF rfl rfl) ?_
 refine Jq (q_move rfl) ?_
 refine Jg (q_field tb rfl rfl rfl) ?_
 refine Jg (q_load tb rfl rfl bxo rfl) ?_
 refine Jg (q_field tb rfl rfl rfl) ?_
 refine Jg (q_load tb rfl rfl bxo rfl) ?_
 refine Jg (q_false (q_neq rfl rfl) (decide_eq_false fun h => h rfl)) ?_
 refine Jq (q_pickF rfl rfl) ?_
 refine Jq (q_move rfl) ?_
 refine Jg (q_field tb rfl rfl rfl) ?_
 refine Jg (q_loadA tb rfl rfl bxo rfl rfl) ?_
 refine Jg (q_field tb rfl rfl rfl) ?_
 refine Jg (q_loadA tb rfl rfl bxo rfl rfl) ?_
 refine Jg (q_false (q_neI (xs := [x.r.sp, x.r.gr, x.r.st, x.r.lo, x.r.hi, x.r.an, x.r.fi]) (ys := [x.r.sp, x.r.gr, x.r.st, x.r.lo, x.r.hi, x.r.an, x.r.fi]) eq26 (by omega) eg26 rfl rfl rfl rfl Iff.rfl) (by simp)) ?_
 refine Jq (q_pickF rfl rfl) ?_
 refine Jq (q_move rfl) ?_
 refine Jg (q_field tb rfl rfl rfl) ?_
 refine Jg (q_load tb rfl rfl bxo rfl) ?_
 refine Jg (q_field tb rfl rfl rfl) ?_
 refine Jg (q_load tb rfl rfl bxo rfl) ?_
 refine L_callg tb rfl rfl rfl rfl rfl rfl (ct_shotlineref03_Same _ _ x.ls (by omega)) (ps_cons gvo (ps_cons gvo no_ps)) rfl ?_
 refine Jg (q_not rfl rfl) ?_
 refine Jq (q_pickF rfl rfl) ?_
 refine L_then ?_
 refine C_false rfl ?_
 refine C_skip_then ?_
 refine C_seq ?_
 refine C_seq ?_
 refine C_region ?_
 refine Jq (q_assign rfl) ?_
 refine L_then ?_
 refine C_block ?_
 refine C_loop (ι := Nat) (fun k => ([(2, .pointer (some ⟨g2, 0, none⟩)), (3, .pointer (some ⟨g3, 0, none⟩)), (5, .int .i64 (k : Int))], [box g2 28 (cAt v u z x), box g3 28 (cAt a b c x), rd v 4 (x.ts.map cCp), rd u 4 (x.ls.map cLd), rd z 3 (x.gs.map cAg), rd a 4 (x.ts.map cCp), rd b 4 (x.ls.map cLd), rd c 3 (x.gs.map cAg)])) (fun k => k ≤ x.ts.length) (fun k => x.ts.length - k) 0 (Nat.zero_le _) (fun a w hs => hs.weak ⟨rfl, rfl, rfl, trivial⟩ (fun h => h.pk (by repeat (first | with_reducible exact pk_nil | refine pk_box rfl ?_ | refine pk_rd rfl ?_ | refine pk_sl rfl ?_ | with_reducible refine pk_app ?_ | with_reducible refine pk_app0 ?_ | with_reducible refine pk_app0L ?_ | with_reducible exact pk_tl | refine pk_var ?_)))) ?_
 intro k hk
 dsimp only at hk ⊢
 refine C_seq ?_
 refine C_seq ?_
 refine C_region ?_
 refine Jq (q_move rfl) ?_
 refine Jq (q_field tb rfl rfl rfl) ?_
 refine Jq (q_load tb rfl rfl bxo rfl) ?_
 refine Jq (q_len tb rfl rfl gvo) ?_
 refine Jq (q_lss rfl rfl) ?_
 refine L_then ?_
 refine C_dec rfl (fun h2 => ?_) (fun h2 => ?_)
 obtain ⟨c9, he⟩ := get_some x.ts (k := k) (by omega); have hel := map_get cCp he
 refine C_skip_then ?_
 refine C_seq ?_
 refine C_block ?_
 refine C_seq ?_
 refine C_draw (n := 11) [(0, false), (1, false), (2, false), (3, false), (4, false), (5, false), (6, false), (7, false), (8, false), (9, false), (10, false)] mixed (by kernel_rfl) ?_
 refine Yq rfl (q_field tb rfl rfl rfl) ?_
 refine Yq rfl (q_load tb rfl rfl bxo rfl) ?_
 refine Yq rfl (q_move rfl) ?_
 refine Yq rfl (by first | exact q_index tb rfl rfl rfl rfl gvo (by omega) (by first | omega | (simp; done) | (simp; omega)) | exact q_indexP tb rfl rfl rfl rfl (by omega) (by omega)) ?_
 refine Yq rfl (q_loadEA tb rfl rfl gvo (i := k) (o := 0) (by omega) hel rfl rfl) ?_
 refine Yq rfl (q_field tb rfl rfl rfl) ?_
 refine Yq rfl (q_load tb rfl rfl bxo rfl) ?_
 refine Yq rfl (q_move rfl) ?_
 refine Yq rfl (by first | exact q_index tb rfl rfl rfl rfl gvo (by omega) (by first | omega | (simp; done) | (simp; omega)) | exact q_indexP tb rfl rfl rfl rfl (by omega) (by omega)) ?_
 refine Yq rfl (q_loadEA tb rfl rfl gvo (i := k) (o := 0) (by omega) hel rfl rfl) ?_
 refine Yq rfl (q_false (q_neI (xs := [c9.n, c9.h, c9.b, c9.s]) (ys := [c9.n, c9.h, c9.b, c9.s]) eq120 (by omega) eg120 rfl rfl rfl rfl Iff.rfl) (by simp)) ?_
 refine W_nil ?_
 refine L_then ?_
 refine C_false rfl ?_
 refine C_skip_blk ?_
 refine C_region ?_
 refine Jq (q_move rfl) ?_
 refine Jq (q_add rfl rfl (by first | exact IntWalk.i64_in _ (by omega) | rfl)) ?_
 refine Jq (q_assign rfl) ?_
 refine L_end ?_
 exact fun ac_ wo_ hs_ => ⟨k + 1, (by omega), (by dsimp only; omega), hs_.weak ⟨rfl, rfl, rfl, trivial⟩ (fun h => h.pk (by repeat (first | with_reducible exact pk_nil | refine pk_box rfl ?_ | refine pk_rd rfl ?_ | refine pk_sl rfl ?_ | with_reducible refine pk_app ?_ | with_reducible refine pk_app0 ?_ | with_reducible refine pk_app0L ?_ | with_reducible exact pk_tl | refine pk_var ?_)))⟩
 refine C_exit ?_
 change C Tryz.prog _ _ _ _ _ _ _
 refine C_seq ?_
 refine C_seq ?_
 refine C_region ?_
 refine Jq (q_assign rfl) ?_
 refine L_then ?_
 refine C_block ?_
 refine C_loop (ι := Nat) (fun k => ([(2, .pointer (some ⟨g2, 0, none⟩)), (3, .pointer (some ⟨g3, 0, none⟩)), (6, .int .i64 (k : Int))], [box g2 28 (cAt v u z x), box g3 28 (cAt a b c x), rd v 4 (x.ts.map cCp), rd u 4 (x.ls.map cLd), rd z 3 (x.gs.map cAg), rd a 4 (x.ts.map cCp), rd b 4 (x.ls.map cLd), rd c 3 (x.gs.map cAg)])) (fun k => k ≤ x.gs.length) (fun k => x.gs.length - k) 0 (Nat.zero_le _) (fun a w hs => hs.weak ⟨rfl, rfl, rfl, trivial⟩ (fun h => h.pk (by repeat (first | with_reducible exact pk_nil | refine pk_box rfl ?_ | refine pk_rd rfl ?_ | refine pk_sl rfl ?_ | with_reducible refine pk_app ?_ | with_reducible refine pk_app0 ?_ | with_reducible refine pk_app0L ?_ | with_reducible exact pk_tl | refine pk_var ?_)))) ?_
 intro k hk
 dsimp only at hk ⊢
 refine C_seq ?_
 refine C_seq ?_
 refine C_region ?_
 refine Jq (q_move rfl) ?_
 refine Jq (q_field tb rfl rfl rfl) ?_
 refine Jq (q_load tb rfl rfl bxo rfl) ?_
 refine Jq (q_len tb rfl rfl gvo) ?_
 refine Jq (q_lss rfl rfl) ?_
 refine L_then ?_
 refine C_dec rfl (fun h4 => ?_) (fun h4 => ?_)
 obtain ⟨g9, he⟩ := get_some x.gs (k := k) (by omega); have hel := map_get cAg he
 refine C_skip_then ?_
 refine C_seq ?_
 refine C_block ?_
 refine C_seq ?_
 refine C_draw (n := 11) [(0, false), (1, false), (2, false), (3, false), (4, false), (5, false), (6, false), (7, false), (8, false), (9, false), (10, false)] mixed (by kernel_rfl) ?_
 refine Yq rfl (q_field tb rfl rfl rfl) ?_
 refine Yq rfl (q_load tb rfl rfl bxo rfl) ?_
 refine Yq rfl (q_move rfl) ?_
 refine Yq rfl (by first | exact q_index tb rfl rfl rfl rfl gvo (by omega) (by first | omega | (simp; done) | (simp; omega)) | exact q_indexP tb rfl rfl rfl rfl (by omega) (by omega)) ?_
 refine Yq rfl (q_loadEA tb rfl rfl gvo (i := k) (o := 0) (by omega) hel rfl rfl) ?_
 refine Yq rfl (q_field tb rfl rfl rfl) ?_
 refine Yq rfl (q_load tb rfl rfl bxo rfl) ?_
 refine Yq rfl (q_move rfl) ?_
 refine Yq rfl (by first | exact q_index tb rfl rfl rfl rfl gvo (by omega) (by first | omega | (simp; done) | (simp; omega)) | exact q_indexP tb rfl rfl rfl rfl (by omega) (by omega)) ?_
 refine Yq rfl (q_loadEA tb rfl rfl gvo (i := k) (o := 0) (by omega) hel rfl rfl) ?_
 refine Yq rfl (q_false (q_neI (xs := [g9.g.o, g9.g.h, g9.d]) (ys := [g9.g.o, g9.g.h, g9.d]) eq112 (by omega) eg112 rfl rfl rfl rfl Iff.rfl) (by simp)) ?_
 refine W_nil ?_
 refine L_then ?_
 refine C_false rfl ?_
 refine C_skip_blk ?_
 refine C_region ?_
 refine Jq (q_move rfl) ?_
 refine Jq (q_add rfl rfl (by first | exact IntWalk.i64_in _ (by omega) | rfl)) ?_
 refine Jq (q_assign rfl) ?_
 refine L_end ?_
 exact fun ac_ wo_ hs_ => ⟨k + 1, (by omega), (by dsimp only; omega), hs_.weak ⟨rfl, rfl, rfl, trivial⟩ (fun h => h.pk (by repeat (first | with_reducible exact pk_nil | refine pk_box rfl ?_ | refine pk_rd rfl ?_ | refine pk_sl rfl ?_ | with_reducible refine pk_app ?_ | with_reducible refine pk_app0 ?_ | with_reducible refine pk_app0L ?_ | with_reducible exact pk_tl | refine pk_var ?_)))⟩
 refine C_exit ?_
 change C Tryz.prog _ _ _ _ _ _ _
 refine C_seq ?_
 refine C_region ?_
 refine Jq (q_assign rfl) ?_
 refine L_then ?_
 refine C_ret ?_
 exact ret_of (res1 rfl rfl) sub_nil (by intro r hr; cases hr) ⟨rfl, rfl⟩
set_option maxRecDepth 100000 in
set_option maxHeartbeats 1000000 in
theorem ct_shotlinelaw04_none (v u z : Value) : Ct Tryz.prog 13 [.agg (cAt v u z zAsc).toArray] [(v, 4, zAsc.ts.map cCp), (u, 4, zAsc.ls.map cLd), (z, 3, zAsc.gs.map cAg)] (isV (.bool true)) := by
 refine Ct.of (N := 6) Tryz.func13 rfl rfl rfl fun w => ?_
 refine C_weak (E' := [(0, .agg (cAt v u z zAsc).toArray)]) (rs' := [rd v 4 (zAsc.ts.map cCp), rd u 4 (zAsc.ls.map cLd), rd z 3 (zAsc.gs.map cAg)]) ⟨rfl, trivial⟩ (fun _ h => h) ?_
 refine C_seq ?_
 refine C_region ?_
 refine L_box rfl rfl rfl fun g1 => ?_
 refine Jq (q_assign rfl) ?_
 refine L_then ?_
 refine C_seq ?_
 refine C_nil 120 4 ?_
 refine C_nil 134 4 ?_
 refine C_nil 112 3 ?_
 refine C_region ?_
 refine Jq (q_loadA tb rfl rfl bxo rfl rfl) ?_
 refine Jq (by first | exact q_build tb rfl rfl rfl rfl | exact q_buildArr tb rfl rfl rfl rfl rfl) ?_
 refine L_call tb rfl rfl (ct_shotlinelaw04_same v u z (.slice none 0 0) (.slice none 0 0) (.slice none 0 0) zAsc (by decide) (by decide) (by decide)) (ps_cons gvo (ps_cons gvo (ps_cons gvo (ps_cons (show GvR _ (.slice none 0 0) 4 [] from ⟨_, m2, sl_gives _ _ _ _⟩) (ps_cons (show GvR _ (.slice none 0 0) 4 [] from ⟨_, m1, sl_gives _ _ _ _⟩) (ps_cons (show GvR _ (.slice none 0 0) 3 [] from ⟨_, m0, sl_gives _ _ _ _⟩) no_ps)))))) rfl ?_
 refine Jq (q_assign rfl) ?_
 refine L_then ?_
 refine C_ret ?_
 exact ret_of (res1 rfl rfl) sub_nil (by intro r hr; cases hr) ⟨rfl, rfl⟩
end Go.Proofs.YtacndicgpkeobaaGreatDoor
