/-
  Walks: each function named returns what its model says. Conditions: those in front of each theorem.
-/
import Derived.Test.YtdmnejfpbbmcaaaPB
import Derived.Test.YtdmnejfpbbmcaaaShDag
namespace Go.Proofs.Ytdmnejfpbbmcaaa
open Go.RowKit

set_option maxRecDepth 100000 in
set_option maxHeartbeats 2000000 in
theorem ct_profile_normal (nm : ByteArray) (sf : Int) (v u : Value) (gs : List Gs) (ls : List Dl) (H : okPl sf gs ls) : Ct Try.prog 41 [.agg (cPl nm sf v u).toArray] [(v, 2, gs.map cGs), (u, 3, ls.map cDl)] (fun y rs => ∃ (A B : Option Addr) (n c m d : Nat), y = .agg (cPl nm sf (.slice A n c) (.slice B m d)).toArray ∧ rs = [sl (.slice B m d) 82 3 ((nfL gs ls).map cDl), sl (.slice A n c) 80 2 ((nfG gs ls).map cGs)]) := by
 refine Ct.of (N := 132) Try.func41 rfl rfl rfl fun w => ?_
 refine C_weak (E' := [(0, .agg (cPl nm sf v u).toArray)]) (rs' := [rd v 2 (gs.map cGs), rd u 3 (ls.map cDl)]) ⟨rfl, trivial⟩ (fun _ h => h) ?_
 have hl1 := len_map cGs gs
 have hl2 := len_map cDl ls
 have hll := H.ll; have hgl := H.gl
 refine C_seq ?_
 refine C_region ?_
 refine L_box rfl rfl rfl fun g1 => ?_
 refine L_alloc tb rfl rfl fun g2 => ?_
 refine L_then ?_
 refine C_seq ?_
 refine C_region ?_
 refine Jq (q_field tb rfl rfl rfl) ?_
 refine Jq (q_load tb rfl rfl bxo rfl) ?_
 refine Jq (q_field tb rfl rfl rfl) ?_
 refine Jq (q_load tb rfl rfl bxo rfl) ?_
 refine Jq (by first | exact q_build tb rfl rfl rfl rfl | exact q_buildArr tb rfl rfl rfl rfl rfl) ?_
 refine L_alloc tb rfl rfl fun g3 => ?_
 refine L_st tb rfl rfl ?_
 refine L_then ?_
 refine C_seq ?_
 refine C_region ?_
 refine Jq (by first | exact q_build tb rfl rfl rfl rfl | exact q_buildArr tb rfl rfl rfl rfl rfl) ?_
 refine L_mk (lo_bslice tb rfl rfl rfl (xs := [cSw (0, 0)]) rfl rfl (by simp [cSw]) rfl (by omega) rfl) rfl rfl rfl fun v16 => ?_
 refine Jq (q_assign rfl) ?_
 refine L_then ?_
 refine C_seq ?_
 refine C_seq ?_
 refine C_res (rs' := [box g3 25 (cPl nm sf (.slice none 0 0) (.slice none 0 0)), sl v16 47 2 ((ptsK [] 0).map cSw), box g1 25 (cPl nm sf v u), box g2 25 [.string ⟨#[]⟩, .int .i64 0, .slice none 0 0, .slice none 0 0], rd v 2 (gs.map cGs), rd u 3 (ls.map cDl)]) (fun _ h => h.pk (by repeat (first | with_reducible exact pk_nil | refine pk_box rfl ?_ | refine pk_rd rfl ?_ | refine pk_sl rfl ?_ | with_reducible refine pk_app ?_ | with_reducible refine pk_app0 ?_ | with_reducible refine pk_app0L ?_ | with_reducible exact pk_tl | refine pk_var ?_))) ?_
 refine C_region ?_
 refine Jq (q_field tb rfl rfl rfl) ?_
 refine Jq (q_load tb rfl rfl bxo rfl) ?_
 refine Jq (q_len tb rfl rfl gvo) ?_
 refine Jq (q_move rfl) ?_
 refine L_then ?_
 refine C_block ?_
 refine C_nil 82 3 ?_
 refine C_nil 80 2 ?_
 refine C_loop (ι := Nat × Value × Value × Value) (fun q => ([(1, .pointer (some ⟨g1, 0, none⟩)), (2, .pointer (some ⟨g2, 0, none⟩)), (3, .pointer (some ⟨g3, 0, none⟩)), (4, q.2.2.2), (18, u), (19, .int .i64 (ls.map cDl).length), (20, .int .i64 (q.1 : Int))], [box g3 25 (cPl nm sf q.2.1 q.2.2.1), sl q.2.1 80 2 ((nfK gs ls q.1).1.map cGs), sl q.2.2.1 82 3 ((nfK gs ls q.1).2.map cDl), sl q.2.2.2 47 2 ((ptsK (nfK gs ls q.1).2 (nfK gs ls q.1).2.length).map cSw), box g1 25 (cPl nm sf v u), box g2 25 [.string ⟨#[]⟩, .int .i64 0, .slice none 0 0, .slice none 0 0], rd v 2 (gs.map cGs), rd u 3 (ls.map cDl)])) (fun q => q.1 ≤ ls.length) (fun q => ls.length - q.1) (0, .slice none 0 0, .slice none 0 0, v16) (Nat.zero_le _) (fun a w hs => hs.weak ⟨rfl, rfl, rfl, rfl, rfl, rfl, rfl, trivial⟩ (fun h => h.pk (pk_box rfl (pk_sl rfl (pk_sl rfl (pk_sl rfl (pk_box rfl (pk_box rfl (pk_rd rfl (pk_rd rfl pk_nil)))))))))) ?_
 rintro ⟨k, a9, b9, c9⟩ hk9
 dsimp only at hk9 ⊢
 refine C_seq ?_
 refine C_region ?_
 refine Jq (q_lss rfl rfl) ?_
 refine L_then ?_
 refine C_seq ?_
 refine C_dec rfl (fun h1 => ?_) (fun h1 => ?_)
 have hel := dl_cell (show k < ls.length by omega)
 have hds := H.at (k := k) (by omega); have hse := H.e k (by omega); have hse2 := H.e (k + 1) (by omega); have hsu := secAt_succ ls k
 have hs1 := hds.s; have hd1 := hds.d; have hg1 := hds.g
 have hgc := gas_cell (gs := gs) (i := (dlAt ls k).g) hg1.1 hg1.2
 have hgn : (dlAt ls k).g.toNat < gs.length := by omega
 obtain ⟨hbs, hbl, hbd, hbp⟩ := nf_b H (k := k) (by omega)
 have hg8 := nf_g8 H (k := k) (by omega)
 refine C_form (v := a9) gvo (fun Ag cg hag _ => ?_)
 subst hag
 refine C_form (v := b9) gvo (fun Am cm ham _ => ?_)
 subst ham
 refine C_form (v := c9) gvo (fun At ct hat _ => ?_)
 subst hat
 have hgl9 := len_map cGs (nfK gs ls k).1; have hml9 := len_map cDl (nfK gs ls k).2; have htl9 : ((ptsK (nfK gs ls k).2 (nfK gs ls k).2.length).map cSw).length = (nfK gs ls k).2.length + 1 := by rw [List.length_map, ptsK_len]
 have hix := gIx_le (nfK gs ls k).1 (gasAt gs (dlAt ls k).g); have hg2n := nfGs_len (gs := gs) (G := (nfK gs ls k).1) (x := (dlAt ls k))
 refine C_skip_then ?_
 refine C_seq ?_
 refine C_block ?_
 refine C_seq ?_
 refine C_region ?_
 refine Jq (by first | exact q_index tb rfl rfl rfl rfl gvo (by omega) (by first | omega | (simp; done) | (simp; omega)) | exact q_indexP tb rfl rfl rfl rfl (by omega) (by omega)) ?_
 refine Jq (q_loadEA tb rfl rfl gvo (i := k) (o := 0) (by omega) hel rfl rfl) ?_
 refine L_alloc tb rfl rfl fun g6 => ?_
 refine L_st tb rfl rfl ?_
 refine L_then ?_
 refine C_seq ?_
 refine C_region ?_
 refine Jq (q_field tb rfl rfl rfl) ?_
 refine Jq (q_load tb rfl rfl bxo rfl) ?_
 refine Jq (q_field tb rfl rfl rfl) ?_
 refine Jq (q_load tb rfl rfl bxo rfl) ?_
 refine Jq (by first | exact q_index tb rfl rfl rfl rfl gvo (by omega) (by first | omega | (simp; done) | (simp; omega)) | exact q_indexP tb rfl rfl rfl rfl (by omega) (by omega)) ?_
 refine Jq (q_loadEA tb rfl rfl gvo (i := (dlAt ls k).g.toNat) (o := 0) (by omega) hgc rfl rfl) ?_
 refine L_alloc tb rfl rfl fun g7 => ?_
 refine L_st tb rfl rfl ?_
 refine L_then ?_
 refine C_cut (ι := Value) (fun q => ([(1, .pointer (some ⟨g1, 0, none⟩)), (2, .pointer (some ⟨g2, 0, none⟩)), (3, .pointer (some ⟨g3, 0, none⟩)), (4, (.slice At ((ptsK (nfK gs ls k).2 (nfK gs ls k).2.length).map cSw).length ct)), (6, .pointer (some ⟨g6, 0, none⟩)), (18, u), (19, .int .i64 (ls.map cDl).length), (20, .int .i64 (k : Int))], [box g6 82 [.int .i64 (dlAt ls k).s, .int .i64 (dlAt ls k).d, .int .i64 (nfIx gs (nfK gs ls k).1 (dlAt ls k))], box g3 25 (cPl nm sf q (.slice Am ((nfK gs ls k).2.map cDl).length cm)), sl q 80 2 ((nfGs gs (nfK gs ls k).1 (dlAt ls k)).map cGs), sl (.slice Am ((nfK gs ls k).2.map cDl).length cm) 82 3 ((nfK gs ls k).2.map cDl), sl (.slice At ((ptsK (nfK gs ls k).2 (nfK gs ls k).2.length).map cSw).length ct) 47 2 ((ptsK (nfK gs ls k).2 (nfK gs ls k).2.length).map cSw), box g1 25 (cPl nm sf v u), box g2 25 [.string ⟨#[]⟩, .int .i64 0, .slice none 0 0, .slice none 0 0], rd v 2 (gs.map cGs), rd u 3 (ls.map cDl)])) (fun q => True) ?_ ?_
 refine C_seq ?_
 refine C_res (rs' := [box g7 80 (cGs (gasAt gs (dlAt ls k).g)), box g6 82 (cDl (dlAt ls k)), box g3 25 (cPl nm sf (.slice Ag ((nfK gs ls k).1.map cGs).length cg) (.slice Am ((nfK gs ls k).2.map cDl).length cm)), sl (.slice Ag ((nfK gs ls k).1.map cGs).length cg) 80 2 ((nfK gs ls k).1.map cGs), sl (.slice Am ((nfK gs ls k).2.map cDl).length cm) 82 3 ((nfK gs ls k).2.map cDl), sl (.slice At ((ptsK (nfK gs ls k).2 (nfK gs ls k).2.length).map cSw).length ct) 47 2 ((ptsK (nfK gs ls k).2 (nfK gs ls k).2.length).map cSw), box g1 25 (cPl nm sf v u), box g2 25 [.string ⟨#[]⟩, .int .i64 0, .slice none 0 0, .slice none 0 0], rd v 2 (gs.map cGs), rd u 3 (ls.map cDl)]) (fun _ h => h.pk (by repeat (first | with_reducible exact pk_nil | refine pk_box rfl ?_ | refine pk_rd rfl ?_ | refine pk_sl rfl ?_ | with_reducible refine pk_app ?_ | with_reducible refine pk_app0 ?_ | with_reducible refine pk_app0L ?_ | with_reducible exact pk_tl | refine pk_var ?_))) ?_
 refine C_region ?_
 refine Jq (q_field tb rfl rfl rfl) ?_
 refine Jq (q_load tb rfl rfl bxo rfl) ?_
 refine Jq (q_loadA tb rfl rfl bxo rfl rfl) ?_
 refine L_call tb rfl rfl (ct_slices_Index_shotline_api_Gas_shotline_api_Gas (.slice Ag ((nfK gs ls k).1.map cGs).length cg) (nfK gs ls k).1 (gasAt gs (dlAt ls k).g) (by omega)) (ps_cons gvo no_ps) rfl ?_
 refine Jq (q_field tb rfl rfl rfl) ?_
 refine L_st tb rfl rfl ?_
 refine L_then ?_
 refine C_seq ?_
 refine C_region ?_
 refine Jq (q_field tb rfl rfl rfl) ?_
 refine Jq (q_load tb rfl rfl bxo rfl) ?_
 refine Jq (q_lss rfl rfl) ?_
 refine L_then ?_
 refine C_dec rfl (fun h37 => ?_) (fun h37 => ?_)
 have hno : ¬ gIx (nfK gs ls k).1 (gasAt gs (dlAt ls k).g) < (nfK gs ls k).1.length := fun h9 => by rw [if_pos h9] at h37; omega
 refine C_seq ?_
 refine C_region ?_
 refine Jq (q_field tb rfl rfl rfl) ?_
 refine Jq (q_load tb rfl rfl bxo rfl) ?_
 refine Jq (q_len tb rfl rfl gvo) ?_
 refine Jq (q_field tb rfl rfl rfl) ?_
 refine L_st tb rfl rfl ?_
 refine L_then ?_
 refine C_region ?_
 refine Jq (q_field tb rfl rfl rfl) ?_
 refine Jq (q_load tb rfl rfl bxo rfl) ?_
 refine Jq (q_loadA tb rfl rfl bxo rfl rfl) ?_
 refine L_mk (lo_bslice tb rfl rfl rfl (xs := [cGs (gasAt gs (dlAt ls k).g)]) rfl rfl (by simp [cGs]) rfl (by omega) rfl) rfl rfl rfl fun v45 => ?_
 refine L_ap tb rfl rfl rfl rfl gvo (by simp [Value.oneCell', cGs]) (by simp [maxLen]; omega) (by simp; omega) fun v46 => ?_
 refine Jq (q_field tb rfl rfl rfl) ?_
 refine L_form (v := v46) gvo (fun Ag2 cg2 hg2 _ => ?_)
 subst hg2
 refine L_st tb rfl rfl ?_
 refine L_end ?_
 have e6 : ([.int .i64 (dlAt ls k).s, .int .i64 (dlAt ls k).d, .int .i64 (((nfK gs ls k).1.map cGs).length : Int)] : List Value) = [.int .i64 (dlAt ls k).s, .int .i64 (dlAt ls k).d, .int .i64 (nfIx gs (nfK gs ls k).1 (dlAt ls k))] := by rw [nfIx_n hno, hgl9]
 have eG : (nfK gs ls k).1.map cGs ++ [cGs (gasAt gs (dlAt ls k).g)] = (nfGs gs (nfK gs ls k).1 (dlAt ls k)).map cGs := by rw [nfGs_1 hno, List.map_append]; rfl
 exact fun ac_ wo_ hs_ => ⟨(.slice Ag2 _ cg2), trivial, hs_.weak ⟨rfl, rfl, rfl, rfl, rfl, rfl, rfl, rfl, trivial⟩ (fun h => h.pk (pk_box e6 (pk_box rfl (pk_sl eG (pk_sl rfl (pk_sl rfl (pk_box rfl (pk_box rfl (pk_rd rfl (pk_rd rfl pk_nil))))))))))⟩
 have hys : gIx (nfK gs ls k).1 (gasAt gs (dlAt ls k).g) < (nfK gs ls k).1.length := Decidable.byContradiction fun h9 => by rw [if_neg h9] at h37; omega
 refine C_skip ?_
 have e6 : ([.int .i64 (dlAt ls k).s, .int .i64 (dlAt ls k).d, .int .i64 (if gIx (nfK gs ls k).1 (gasAt gs (dlAt ls k).g) < (nfK gs ls k).1.length then (gIx (nfK gs ls k).1 (gasAt gs (dlAt ls k).g) : Int) else -1)] : List Value) = [.int .i64 (dlAt ls k).s, .int .i64 (dlAt ls k).d, .int .i64 (nfIx gs (nfK gs ls k).1 (dlAt ls k))] := by rw [if_pos hys]; rfl
 have eG : (nfK gs ls k).1.map cGs = (nfGs gs (nfK gs ls k).1 (dlAt ls k)).map cGs := by rw [nfGs_0 hys]
 exact fun ac_ wo_ hs_ => ⟨(.slice Ag ((nfK gs ls k).1.map cGs).length cg), trivial, hs_.weak ⟨rfl, rfl, rfl, rfl, rfl, rfl, rfl, rfl, trivial⟩ (fun h => h.pk (pk_box e6 (pk_box rfl (pk_sl eG (pk_sl rfl (pk_sl rfl (pk_box rfl (pk_box rfl (pk_rd rfl (pk_rd rfl pk_nil))))))))))⟩
 intro q _
 refine C_form (v := q) gvo (fun Ag2 cg2 hg2 _ => ?_)
 subst hg2
 have hg2l := len_map cGs (nfGs gs (nfK gs ls k).1 (dlAt ls k))
 refine C_seq ?_
 refine C_drawA1 tb (n := 9) (k := 8) [(0, false), (2, false), (3, false), (5, false), (6, false), (1, true), (4, false), (7, false)] mixed rfl rfl rfl (by kernel_rfl) rfl ?_
 refine Yq rfl (q_move rfl) ?_
 refine Yq rfl (q_field tb rfl rfl rfl) ?_
 refine Yq rfl (q_load tb rfl rfl bxo rfl) ?_
 refine Yq rfl (q_field tb rfl rfl rfl) ?_
 refine Yq rfl (q_load tb rfl rfl bxo rfl) ?_
 refine W_call tb rfl rfl rfl rfl (ct_profile_track_end (.slice At ((ptsK (nfK gs ls k).2 (nfK gs ls k).2.length).map cSw).length ct) (nfK gs ls k).2 (by omega)) (ps_cons gvo no_ps) rfl ?_
 refine Yq rfl (q_add rfl rfl (by first | exact IntWalk.i64_in _ (by omega) | rfl)) ?_
 refine Yq rfl (by first | exact q_build tb rfl rfl rfl rfl | exact q_buildArr tb rfl rfl rfl rfl rfl) ?_
 refine W_nil ?_
 intro g8
 refine L_st tb rfl rfl ?_
 refine L_then ?_
 refine C_seq ?_
 refine C_seq ?_
 refine C_region ?_
 refine Jq (q_field tb rfl rfl rfl) ?_
 refine Jq (q_load tb rfl rfl bxo rfl) ?_
 refine Jq (q_len tb rfl rfl gvo) ?_
 refine Jq (q_assign rfl) ?_
 refine L_then ?_
 refine C_cut (ι := Unit) (fun _p => ([(1, .pointer (some ⟨g1, 0, none⟩)), (2, .pointer (some ⟨g2, 0, none⟩)), (3, .pointer (some ⟨g3, 0, none⟩)), (4, (.slice At ((ptsK (nfK gs ls k).2 (nfK gs ls k).2.length).map cSw).length ct)), (6, .pointer (some ⟨g6, 0, none⟩)), (8, .pointer (some ⟨g8, 0, none⟩)), (9, .int .i64 ((nfK gs ls k).2.map cDl).length), (18, u), (19, .int .i64 (ls.map cDl).length), (20, .int .i64 (k : Int)), (85, .bool (decide (mrgP (nfK gs ls k).2 (nfIx gs (nfK gs ls k).1 (dlAt ls k)) (dlAt ls k))))], [box g8 47 (cSw (secAt (nfK gs ls k).2 (nfK gs ls k).2.length + (dlAt ls k).s, (dlAt ls k).d)), box g6 82 [.int .i64 (dlAt ls k).s, .int .i64 (dlAt ls k).d, .int .i64 (nfIx gs (nfK gs ls k).1 (dlAt ls k))], box g3 25 (cPl nm sf (.slice Ag2 ((nfGs gs (nfK gs ls k).1 (dlAt ls k)).map cGs).length cg2) (.slice Am ((nfK gs ls k).2.map cDl).length cm)), sl (.slice Ag2 ((nfGs gs (nfK gs ls k).1 (dlAt ls k)).map cGs).length cg2) 80 2 ((nfGs gs (nfK gs ls k).1 (dlAt ls k)).map cGs), sl (.slice Am ((nfK gs ls k).2.map cDl).length cm) 82 3 ((nfK gs ls k).2.map cDl), sl (.slice At ((ptsK (nfK gs ls k).2 (nfK gs ls k).2.length).map cSw).length ct) 47 2 ((ptsK (nfK gs ls k).2 (nfK gs ls k).2.length).map cSw), box g1 25 (cPl nm sf v u), box g2 25 [.string ⟨#[]⟩, .int .i64 0, .slice none 0 0, .slice none 0 0], rd v 2 (gs.map cGs), rd u 3 (ls.map cDl)])) (fun _p => True) ?_ ?_
 refine C_res (rs' := [box g8 47 (cSw (secAt (nfK gs ls k).2 (nfK gs ls k).2.length + (dlAt ls k).s, (dlAt ls k).d)), box g6 82 [.int .i64 (dlAt ls k).s, .int .i64 (dlAt ls k).d, .int .i64 (nfIx gs (nfK gs ls k).1 (dlAt ls k))], box g3 25 (cPl nm sf (.slice Ag2 ((nfGs gs (nfK gs ls k).1 (dlAt ls k)).map cGs).length cg2) (.slice Am ((nfK gs ls k).2.map cDl).length cm)), sl (.slice Ag2 ((nfGs gs (nfK gs ls k).1 (dlAt ls k)).map cGs).length cg2) 80 2 ((nfGs gs (nfK gs ls k).1 (dlAt ls k)).map cGs), sl (.slice Am ((nfK gs ls k).2.map cDl).length cm) 82 3 ((nfK gs ls k).2.map cDl), sl (.slice At ((ptsK (nfK gs ls k).2 (nfK gs ls k).2.length).map cSw).length ct) 47 2 ((ptsK (nfK gs ls k).2 (nfK gs ls k).2.length).map cSw), box g1 25 (cPl nm sf v u), box g2 25 [.string ⟨#[]⟩, .int .i64 0, .slice none 0 0, .slice none 0 0], rd v 2 (gs.map cGs), rd u 3 (ls.map cDl)]) (fun _ h => h.pk (by repeat (first | with_reducible exact pk_nil | refine pk_box rfl ?_ | refine pk_rd rfl ?_ | refine pk_sl rfl ?_ | with_reducible refine pk_app ?_ | with_reducible refine pk_app0 ?_ | with_reducible refine pk_app0L ?_ | with_reducible exact pk_tl | refine pk_var ?_))) ?_
 refine C_draw (n := 27) [(0, false), (1, false), (2, false), (3, false), (4, false), (5, false), (6, false), (7, false), (8, false), (9, false), (10, false), (11, false), (12, false), (13, false), (14, false), (15, false), (16, false), (17, false), (18, false), (19, false), (20, false), (21, false), (22, false), (23, false), (24, false), (25, true), (26, false)] mixed (by kernel_rfl) ?_
 refine Yq rfl (q_move rfl) ?_
 refine Yq rfl (q_gtr rfl rfl) ?_
 refine Yq rfl (q_move rfl) ?_
 refine W_dec (d := 61) rfl (fun h61 => ?_) (fun h61 => ?_)
 have h0m : 0 < (nfK gs ls k).2.length := by omega
 obtain ⟨p1, p2, p3, p4⟩ := hbp h0m
 have hst1 : 0 ≤ secAt (nfK gs ls k).2 ((nfK gs ls k).2.length - 1) ∧ secAt (nfK gs ls k).2 ((nfK gs ls k).2.length - 1) ≤ secAt (nfK gs ls k).2 (nfK gs ls k).2.length ∧ secAt (nfK gs ls k).2 (nfK gs ls k).2.length ≤ secAt (nfK gs ls k).2 (nfK gs ls k).2.length + (dlAt ls k).s ∧ secAt (nfK gs ls k).2 (nfK gs ls k).2.length + (dlAt ls k).s ≤ 1000000 := by omega
 have hst2 : 0 ≤ depAt (nfK gs ls k).2 ((nfK gs ls k).2.length - 1) ∧ depAt (nfK gs ls k).2 ((nfK gs ls k).2.length - 1) ≤ 30000 ∧ 0 ≤ depAt (nfK gs ls k).2 (nfK gs ls k).2.length ∧ depAt (nfK gs ls k).2 (nfK gs ls k).2.length ≤ 30000 ∧ 0 ≤ (dlAt ls k).d ∧ (dlAt ls k).d ≤ 30000 := by omega
 refine Yg rfl (q_field tb rfl rfl rfl) ?_
 refine Yg rfl (q_load tb rfl rfl bxo rfl) ?_
 refine Yg rfl (q_move rfl) ?_
 refine Yg rfl (q_sub rfl rfl (by first | exact IntWalk.i64_in _ (by omega) | rfl)) ?_
 refine Yg rfl (by first | exact q_index tb rfl rfl rfl rfl gvo (by omega) (by first | omega | (simp; done) | (simp; omega)) | exact q_indexP tb rfl rfl rfl rfl (by omega) (by omega)) ?_
 refine Yg rfl (q_fieldE tb rfl rfl rfl gvo (by first | omega | (simp; done) | (simp; omega))) ?_
 refine Yg rfl (q_loadE tb rfl rfl gvo (i := (nfK gs ls k).2.length - 1) (o := 2) (by omega) (dl_cell (by omega)) rfl) ?_
 refine Yg rfl (q_field tb rfl rfl rfl) ?_
 refine Yg rfl (q_load tb rfl rfl bxo rfl) ?_
 refine Yg rfl (q_eql rfl rfl) ?_
 refine Yq rfl (q_pickT rfl rfl) ?_
 refine Yq rfl (q_move rfl) ?_
 refine W_dec (d := 73) rfl (fun h73 => ?_) (fun h73 => ?_)
 refine Yg rfl (q_move rfl) ?_
 refine Yg rfl (q_move rfl) ?_
 refine Yg rfl (q_sub rfl rfl (by first | exact IntWalk.i64_in _ (by omega) | rfl)) ?_
 refine Yg rfl (by first | exact q_index tb rfl rfl rfl rfl gvo (by omega) (by first | omega | (simp; done) | (simp; omega)) | exact q_indexP tb rfl rfl rfl rfl (by omega) (by omega)) ?_
 refine Yg rfl (by first | exact q_loadA tb rfl rfl bxo rfl rfl | exact q_loadEA tb rfl rfl gvo (i := (nfK gs ls k).2.length - 1) (o := 0) (by omega) (pt_cell (by omega)) rfl rfl) ?_
 refine Yg rfl (q_move rfl) ?_
 refine Yg rfl (q_move rfl) ?_
 refine Yg rfl (by first | exact q_index tb rfl rfl rfl rfl gvo (by omega) (by first | omega | (simp; done) | (simp; omega)) | exact q_indexP tb rfl rfl rfl rfl (by omega) (by omega)) ?_
 refine Yg rfl (by first | exact q_loadA tb rfl rfl bxo rfl rfl | exact q_loadEA tb rfl rfl gvo (i := (nfK gs ls k).2.length) (o := 0) (by omega) (pt_cell (by omega)) rfl rfl) ?_
 refine Yg rfl (q_loadA tb rfl rfl bxo rfl rfl) ?_
 refine W_callg tb rfl rfl rfl rfl rfl rfl rfl rfl (ct_profile_straight (secAt (nfK gs ls k).2 ((nfK gs ls k).2.length - 1)) (depAt (nfK gs ls k).2 ((nfK gs ls k).2.length - 1)) (secAt (nfK gs ls k).2 (nfK gs ls k).2.length) (depAt (nfK gs ls k).2 (nfK gs ls k).2.length) (secAt (nfK gs ls k).2 (nfK gs ls k).2.length + (dlAt ls k).s) (dlAt ls k).d hst1 hst2) no_ps rfl ?_
 refine Yq rfl (q_pickT rfl rfl) ?_
 refine W_nil ?_
 refine L_end ?_
 exact fun ac_ wo_ hs_ => ⟨(), trivial, hs_.weak ⟨rfl, rfl, rfl, rfl, rfl, rfl, rfl, rfl, rfl, rfl, (congrArg (fun b_ => some (Value.bool b_)) (decide_eq_decide.2 ⟨fun h9 => (⟨by omega, h73, (strt_eq (by omega)).2 h9⟩ : (mrgP (nfK gs ls k).2 (nfIx gs (nfK gs ls k).1 (dlAt ls k)) (dlAt ls k))), fun hh => (strt_eq (by omega)).1 hh.2.2⟩)), trivial⟩ (fun h => h.pk (pk_box rfl (pk_box rfl (pk_box rfl (pk_sl rfl (pk_sl rfl (pk_sl rfl (pk_box rfl (pk_box rfl (pk_rd rfl (pk_rd rfl pk_nil)))))))))))⟩
 refine Yk rfl ?_
 refine Yk rfl ?_
 refine Yk rfl ?_
 refine Yk rfl ?_
 refine Yk rfl ?_
 refine Yk rfl ?_
 refine Yk rfl ?_
 refine Yk rfl ?_
 refine Yk rfl ?_
 refine Yk rfl ?_
 refine Ykl rfl ?_
 refine Yq rfl (q_pickF rfl rfl) ?_
 refine W_nil ?_
 refine L_end ?_
 exact fun ac_ wo_ hs_ => ⟨(), trivial, hs_.weak ⟨rfl, rfl, rfl, rfl, rfl, rfl, rfl, rfl, rfl, rfl, (congrArg (fun b_ => some (Value.bool b_)) (decide_eq_false (p := (mrgP (nfK gs ls k).2 (nfIx gs (nfK gs ls k).1 (dlAt ls k)) (dlAt ls k))) (fun hh => h73 hh.2.1)).symm), trivial⟩ (fun h => h.pk (pk_box rfl (pk_box rfl (pk_box rfl (pk_sl rfl (pk_sl rfl (pk_sl rfl (pk_box rfl (pk_box rfl (pk_rd rfl (pk_rd rfl pk_nil)))))))))))⟩
 refine Yk rfl ?_
 refine Yk rfl ?_
 refine Yk rfl ?_
 refine Yk rfl ?_
 refine Yk rfl ?_
 refine Yk rfl ?_
 refine Yk rfl ?_
 refine Yk rfl ?_
 refine Yk rfl ?_
 refine Yk rfl ?_
 refine Yq rfl (q_pickF rfl rfl) ?_
 refine Yq rfl (q_move rfl) ?_
 refine Yk rfl ?_
 refine Yk rfl ?_
 refine Yk rfl ?_
 refine Yk rfl ?_
 refine Yk rfl ?_
 refine Yk rfl ?_
 refine Yk rfl ?_
 refine Yk rfl ?_
 refine Yk rfl ?_
 refine Yk rfl ?_
 refine Ykl rfl ?_
 refine Yq rfl (q_pickF rfl rfl) ?_
 refine W_nil ?_
 refine L_end ?_
 exact fun ac_ wo_ hs_ => ⟨(), trivial, hs_.weak ⟨rfl, rfl, rfl, rfl, rfl, rfl, rfl, rfl, rfl, rfl, (congrArg (fun b_ => some (Value.bool b_)) (decide_eq_false (p := (mrgP (nfK gs ls k).2 (nfIx gs (nfK gs ls k).1 (dlAt ls k)) (dlAt ls k))) (fun hh => by have h9 := hh.1; omega)).symm), trivial⟩ (fun h => h.pk (pk_box rfl (pk_box rfl (pk_box rfl (pk_sl rfl (pk_sl rfl (pk_sl rfl (pk_box rfl (pk_box rfl (pk_rd rfl (pk_rd rfl pk_nil)))))))))))⟩
 intro _ _
 dsimp only
 refine C_dec rfl (fun h85 => ?_) (fun h85 => ?_)
 have eM := (mrg_cells (x := (dlAt ls k)) h85.1 h85.2.1).trans (congrArg (List.map cDl) (nfL_1 h85).symm)
 have eT : ((ptsK (nfK gs ls k).2 (nfK gs ls k).2.length).map cSw).set (nfK gs ls k).2.length (cSw (secAt (nfK gs ls k).2 (nfK gs ls k).2.length + (dlAt ls k).s, (dlAt ls k).d)) = (ptsK (nfK gs ls (k + 1)).2 (nfK gs ls (k + 1)).2.length).map cSw := by rw [nfK_s2, nfL_1 h85]; exact mrg_pts h85.1
 have h0m : 0 < (nfK gs ls k).2.length := h85.1
 obtain ⟨p1, p2, p3, p4⟩ := hbp h0m
 have hlc := dl_cell (ls := (nfK gs ls k).2) (k := (nfK gs ls k).2.length - 1) (by omega)
 refine C_seq ?_
 refine C_draw (n := 12) [(0, false), (1, false), (2, false), (3, false), (4, false), (5, false), (6, false), (7, false), (8, false), (9, false), (10, false), (11, false)] mixed (by kernel_rfl) ?_
 refine Yq rfl (q_field tb rfl rfl rfl) ?_
 refine Yq rfl (q_load tb rfl rfl bxo rfl) ?_
 refine Yq rfl (q_move rfl) ?_
 refine Yq rfl (q_sub rfl rfl (by first | exact IntWalk.i64_in _ (by omega) | rfl)) ?_
 refine Yq rfl (by first | exact q_index tb rfl rfl rfl rfl gvo (by omega) (by first | omega | (simp; done) | (simp; omega)) | exact q_indexP tb rfl rfl rfl rfl (by omega) (by omega)) ?_
 refine Yq rfl (q_fieldE tb rfl rfl rfl gvo (by first | omega | (simp; done) | (simp; omega))) ?_
 refine Yq rfl (q_loadE tb rfl rfl gvo (i := (nfK gs ls k).2.length - 1) (o := 0) (by omega) (dl_cell (by omega)) rfl) ?_
 refine Yq rfl (q_field tb rfl rfl rfl) ?_
 refine Yq rfl (q_load tb rfl rfl bxo rfl) ?_
 refine Yq rfl (q_add rfl rfl (by first | exact IntWalk.i64_in _ (by omega) | rfl)) ?_
 refine Yq rfl (by first | exact q_index tb rfl rfl rfl rfl gvo (by omega) (by first | omega | (simp; done) | (simp; omega)) | exact q_indexP tb rfl rfl rfl rfl (by omega) (by omega)) ?_
 refine Yq rfl (q_fieldE tb rfl rfl rfl gvo (by first | omega | (simp; done) | (simp; omega))) ?_
 refine W_nil ?_
 first | refine L_storeFld tb rfl rfl rfl rfl rfl rfl (i := (nfK gs ls k).2.length - 1) (o := 0) hlc (by omega) (by omega) ?_ | (refine L_front1 ?_; refine L_storeFld tb rfl rfl rfl rfl rfl rfl (i := (nfK gs ls k).2.length - 1) (o := 0) hlc (by omega) (by omega) ?_) | (refine L_front2 ?_; refine L_storeFld tb rfl rfl rfl rfl rfl rfl (i := (nfK gs ls k).2.length - 1) (o := 0) hlc (by omega) (by omega) ?_) | (refine L_front3 ?_; refine L_storeFld tb rfl rfl rfl rfl rfl rfl (i := (nfK gs ls k).2.length - 1) (o := 0) hlc (by omega) (by omega) ?_) | (refine L_front4 ?_; refine L_storeFld tb rfl rfl rfl rfl rfl rfl (i := (nfK gs ls k).2.length - 1) (o := 0) hlc (by omega) (by omega) ?_) | (refine L_front5 ?_; refine L_storeFld tb rfl rfl rfl rfl rfl rfl (i := (nfK gs ls k).2.length - 1) (o := 0) hlc (by omega) (by omega) ?_) | (refine L_front6 ?_; refine L_storeFld tb rfl rfl rfl rfl rfl rfl (i := (nfK gs ls k).2.length - 1) (o := 0) hlc (by omega) (by omega) ?_)
 refine L_then ?_
 refine C_seq ?_
 refine C_res (rs' := [sl (.slice Am ((nfK gs ls k).2.map cDl).length cm) 82 3 (((nfK gs ls k).2.map cDl).set ((nfK gs ls k).2.length - 1) [.int .i64 ((dlAt (nfK gs ls k).2 ((nfK gs ls k).2.length - 1)).s + (dlAt ls k).s), .int .i64 (dlAt (nfK gs ls k).2 ((nfK gs ls k).2.length - 1)).d, .int .i64 (dlAt (nfK gs ls k).2 ((nfK gs ls k).2.length - 1)).g]), sl (.slice At ((ptsK (nfK gs ls k).2 (nfK gs ls k).2.length).map cSw).length ct) 47 2 ((ptsK (nfK gs ls k).2 (nfK gs ls k).2.length).map cSw), box g3 25 (cPl nm sf (.slice Ag2 ((nfGs gs (nfK gs ls k).1 (dlAt ls k)).map cGs).length cg2) (.slice Am ((nfK gs ls k).2.map cDl).length cm)), box g8 47 (cSw (secAt (nfK gs ls k).2 (nfK gs ls k).2.length + (dlAt ls k).s, (dlAt ls k).d)), box g6 82 [.int .i64 (dlAt ls k).s, .int .i64 (dlAt ls k).d, .int .i64 (nfIx gs (nfK gs ls k).1 (dlAt ls k))], sl (.slice Ag2 ((nfGs gs (nfK gs ls k).1 (dlAt ls k)).map cGs).length cg2) 80 2 ((nfGs gs (nfK gs ls k).1 (dlAt ls k)).map cGs), box g1 25 (cPl nm sf v u), box g2 25 [.string ⟨#[]⟩, .int .i64 0, .slice none 0 0, .slice none 0 0], rd v 2 (gs.map cGs), rd u 3 (ls.map cDl)]) (fun _ h => h.pk (by repeat (first | with_reducible exact pk_nil | refine pk_box rfl ?_ | refine pk_rd rfl ?_ | refine pk_sl rfl ?_ | with_reducible refine pk_app ?_ | with_reducible refine pk_app0 ?_ | with_reducible refine pk_app0L ?_ | with_reducible exact pk_tl | refine pk_var ?_))) ?_
 refine Kp.C_treeOT (ι := Unit) (.q 0 (.q 2 (.q 3 (.q 4 (.q 5 (.q 6 (.q 7 (.q 8 (.s 1 (.s 9 (.s 10 (.s 11 (.s 12 (.s 13 .nil)))))))))))))) (fun q => ([(1, .pointer (some ⟨g1, 0, none⟩)), (2, .pointer (some ⟨g2, 0, none⟩)), (3, .pointer (some ⟨g3, 0, none⟩)), (4, (.slice At ((ptsK (nfK gs ls k).2 (nfK gs ls k).2.length).map cSw).length ct)), (18, u), (19, .int .i64 (ls.map cDl).length), (20, .int .i64 (k : Int))], [box g3 25 (cPl nm sf (.slice Ag2 ((nfGs gs (nfK gs ls k).1 (dlAt ls k)).map cGs).length cg2) (.slice Am ((nfK gs ls k).2.map cDl).length cm)), sl (.slice Ag2 ((nfGs gs (nfK gs ls k).1 (dlAt ls k)).map cGs).length cg2) 80 2 ((nfGs gs (nfK gs ls k).1 (dlAt ls k)).map cGs), sl (.slice Am ((nfK gs ls k).2.map cDl).length cm) 82 3 ((nfK gs ls (k + 1)).2.map cDl), sl (.slice At ((ptsK (nfK gs ls k).2 (nfK gs ls k).2.length).map cSw).length ct) 47 2 ((ptsK (nfK gs ls (k + 1)).2 (nfK gs ls (k + 1)).2.length).map cSw), box g1 25 (cPl nm sf v u), box g2 25 [.string ⟨#[]⟩, .int .i64 0, .slice none 0 0, .slice none 0 0], rd v 2 (gs.map cGs), rd u 3 (ls.map cDl)])) mixed (by kernel_rfl) rfl (by kernel_rfl) ?_ ?_
 refine Kp.Zq rfl (q_field tb rfl rfl rfl) ?_
 refine Kp.Zq rfl (q_move rfl) ?_
 refine Kp.Zq rfl (q_sub rfl rfl (by first | exact IntWalk.i64_in _ (by omega) | rfl)) ?_
 refine Kp.Zq rfl (q_move rfl) ?_
 refine Kp.Zq rfl (q_move rfl) ?_
 refine Kp.Zq rfl (q_field tb rfl rfl rfl) ?_
 refine Kp.Zq rfl (q_load tb rfl rfl bxo rfl) ?_
 refine Kp.Zq rfl (q_loadA tb rfl rfl bxo rfl rfl) ?_
 refine Kp.Z_s ?_
 refine Kp.Sq rfl (q_load tb rfl rfl bxo rfl) ?_
 refine Kp.Z_s ?_
 refine Kp.Sq rfl (by first | exact q_index tb rfl rfl rfl rfl (by first | exact gvo | exact gs0 | exact gv1 gs0) (by omega) (by first | omega | (simp; done) | (simp; omega)) | exact q_indexP tb rfl rfl rfl rfl (by omega) (by omega)) ?_
 refine Kp.Z_s ?_
 refine Kp.Sq rfl (q_fieldE tb rfl rfl rfl (by first | exact gvo | exact gs0 | exact gv1 gs0) (by first | omega | (simp; done) | (simp; omega))) ?_
 refine Kp.Z_s ?_
 first | refine Kp.St_storeFld tb rfl rfl (List.Perm.refl _) rfl rfl rfl rfl rfl rfl (of := 1) (i := (nfK gs ls k).2.length - 1) (set_at hlc) (by omega) (by omega) ?_ | refine Kp.St_storeFld tb rfl rfl perm1 rfl rfl rfl rfl rfl rfl (of := 1) (i := (nfK gs ls k).2.length - 1) (set_at hlc) (by omega) (by omega) ?_ | refine Kp.St_storeFld tb rfl rfl Kp.perm2 rfl rfl rfl rfl rfl rfl (of := 1) (i := (nfK gs ls k).2.length - 1) (set_at hlc) (by omega) (by omega) ?_ | refine Kp.St_storeFld tb rfl rfl Kp.perm3 rfl rfl rfl rfl rfl rfl (of := 1) (i := (nfK gs ls k).2.length - 1) (set_at hlc) (by omega) (by omega) ?_ | refine Kp.St_storeFld tb rfl rfl (perm_front (pre := [_, _])) rfl rfl rfl rfl rfl rfl (of := 1) (i := (nfK gs ls k).2.length - 1) (set_at hlc) (by omega) (by omega) ?_ | refine Kp.St_storeFld tb rfl rfl (perm_front (pre := [_, _, _])) rfl rfl rfl rfl rfl rfl (of := 1) (i := (nfK gs ls k).2.length - 1) (set_at hlc) (by omega) (by omega) ?_ | refine Kp.St_storeFld tb rfl rfl (perm_front (pre := [_, _, _, _])) rfl rfl rfl rfl rfl rfl (of := 1) (i := (nfK gs ls k).2.length - 1) (set_at hlc) (by omega) (by omega) ?_
 refine Kp.Z_s ?_
 refine Kp.Sq rfl (by first | exact q_index tb rfl rfl rfl rfl (by first | exact gvo | exact gs0 | exact gv1 gs0) (by omega) (by first | omega | (simp; done) | (simp; omega)) | exact q_indexP tb rfl rfl rfl rfl (by omega) (by omega)) ?_
 refine Kp.Z_s ?_
 first | refine Kp.St_storeFld tb rfl rfl (List.Perm.refl _) rfl rfl rfl rfl rfl rfl (of := 0) (i := (nfK gs ls k).2.length) (pt_cell (Nat.le_refl _)) (by omega) (by omega) ?_ | refine Kp.St_storeFld tb rfl rfl perm1 rfl rfl rfl rfl rfl rfl (of := 0) (i := (nfK gs ls k).2.length) (pt_cell (Nat.le_refl _)) (by omega) (by omega) ?_ | refine Kp.St_storeFld tb rfl rfl Kp.perm2 rfl rfl rfl rfl rfl rfl (of := 0) (i := (nfK gs ls k).2.length) (pt_cell (Nat.le_refl _)) (by omega) (by omega) ?_ | refine Kp.St_storeFld tb rfl rfl Kp.perm3 rfl rfl rfl rfl rfl rfl (of := 0) (i := (nfK gs ls k).2.length) (pt_cell (Nat.le_refl _)) (by omega) (by omega) ?_ | refine Kp.St_storeFld tb rfl rfl (perm_front (pre := [_, _])) rfl rfl rfl rfl rfl rfl (of := 0) (i := (nfK gs ls k).2.length) (pt_cell (Nat.le_refl _)) (by omega) (by omega) ?_ | refine Kp.St_storeFld tb rfl rfl (perm_front (pre := [_, _, _])) rfl rfl rfl rfl rfl rfl (of := 0) (i := (nfK gs ls k).2.length) (pt_cell (Nat.le_refl _)) (by omega) (by omega) ?_ | refine Kp.St_storeFld tb rfl rfl (perm_front (pre := [_, _, _, _])) rfl rfl rfl rfl rfl rfl (of := 0) (i := (nfK gs ls k).2.length) (pt_cell (Nat.le_refl _)) (by omega) (by omega) ?_
 refine Kp.Z_nil ?_
 try dsimp only [List.append, List.cons_append, List.nil_append]
 exact ⟨(), fun a_ w_ hs_ => hs_.weak ⟨rfl, rfl, rfl, rfl, rfl, rfl, rfl, trivial⟩ (fun h_ => h_.pk (pk_box rfl (pk_sl rfl (pk_sl (set_set.trans eM) (pk_sl eT (pk_box rfl (pk_box rfl (pk_rd rfl (pk_rd rfl pk_nil)))))))))⟩
 (intro _; dsimp only)
 refine L_then ?_
 refine C_exit ?_
 change C Try.prog _ _ _ _ _ _ _
 refine C_region ?_
 refine Jq (q_add rfl rfl (by first | exact IntWalk.i64_in _ (by omega) | rfl)) ?_
 refine Jq (q_move rfl) ?_
 refine L_end ?_
 exact fun ac_ wo_ hs_ => ⟨(k + 1, (.slice Ag2 ((nfGs gs (nfK gs ls k).1 (dlAt ls k)).map cGs).length cg2), (.slice Am ((nfK gs ls k).2.map cDl).length cm), (.slice At ((ptsK (nfK gs ls k).2 (nfK gs ls k).2.length).map cSw).length ct)), (by dsimp only; omega), (by dsimp only; omega), hs_.weak ⟨rfl, rfl, rfl, rfl, rfl, rfl, rfl, trivial⟩ (fun h => h.pk (pk_box rfl (pk_sl rfl (pk_sl rfl (pk_sl rfl (pk_box rfl (pk_box rfl (pk_rd rfl (pk_rd rfl pk_nil)))))))))⟩
 refine C_skip_then ?_
 refine C_res (rs' := [sl (.slice Am ((nfK gs ls k).2.map cDl).length cm) 82 3 ((nfK gs ls k).2.map cDl), sl (.slice At ((ptsK (nfK gs ls k).2 (nfK gs ls k).2.length).map cSw).length ct) 47 2 ((ptsK (nfK gs ls k).2 (nfK gs ls k).2.length).map cSw), box g3 25 (cPl nm sf (.slice Ag2 ((nfGs gs (nfK gs ls k).1 (dlAt ls k)).map cGs).length cg2) (.slice Am ((nfK gs ls k).2.map cDl).length cm)), box g8 47 (cSw (secAt (nfK gs ls k).2 (nfK gs ls k).2.length + (dlAt ls k).s, (dlAt ls k).d)), box g6 82 [.int .i64 (dlAt ls k).s, .int .i64 (dlAt ls k).d, .int .i64 (nfIx gs (nfK gs ls k).1 (dlAt ls k))], sl (.slice Ag2 ((nfGs gs (nfK gs ls k).1 (dlAt ls k)).map cGs).length cg2) 80 2 ((nfGs gs (nfK gs ls k).1 (dlAt ls k)).map cGs), box g1 25 (cPl nm sf v u), box g2 25 [.string ⟨#[]⟩, .int .i64 0, .slice none 0 0, .slice none 0 0], rd v 2 (gs.map cGs), rd u 3 (ls.map cDl)]) (fun _ h => h.pk (by repeat (first | with_reducible exact pk_nil | refine pk_box rfl ?_ | refine pk_rd rfl ?_ | refine pk_sl rfl ?_ | with_reducible refine pk_app ?_ | with_reducible refine pk_app0 ?_ | with_reducible refine pk_app0L ?_ | with_reducible exact pk_tl | refine pk_var ?_))) ?_
 refine Kp.C_treeOT (ι := Option Addr × Nat × Option Addr × Nat) (.q 0 (.q 2 (.q 5 (.q 6 (.s3 1 3 7 (.s2 3 7 (.s2 4 7 (.q 9 (.s 7 (.s 8 (.s 10 (.s 11 .nil))))) (.s 4 (.q 9 (.s 8 (.s 10 (.s 11 .nil)))))) (.s 3 (.s 4 (.q 9 (.s 8 (.s 10 (.s 11 .nil))))))) (.s2 1 7 (.s2 4 7 (.q 9 (.s 7 (.s 8 (.s 10 (.s 11 .nil))))) (.s 4 (.q 9 (.s 8 (.s 10 (.s 11 .nil)))))) (.s 1 (.s 4 (.q 9 (.s 8 (.s 10 (.s 11 .nil))))))) (.s2 1 3 (.s 3 (.s 4 (.q 9 (.s 8 (.s 10 (.s 11 .nil)))))) (.s 1 (.s 4 (.q 9 (.s 8 (.s 10 (.s 11 .nil)))))))))))) (fun q => ([(1, .pointer (some ⟨g1, 0, none⟩)), (2, .pointer (some ⟨g2, 0, none⟩)), (3, .pointer (some ⟨g3, 0, none⟩)), (4, (.slice q.2.2.1 ((ptsK (nfK gs ls k).2 (nfK gs ls k).2.length).map cSw ++ [cSw (secAt (nfK gs ls k).2 (nfK gs ls k).2.length + (dlAt ls k).s, (dlAt ls k).d)]).length q.2.2.2)), (18, u), (19, .int .i64 (ls.map cDl).length), (20, .int .i64 (k : Int))], [box g3 25 (cPl nm sf (.slice Ag2 ((nfGs gs (nfK gs ls k).1 (dlAt ls k)).map cGs).length cg2) (.slice q.1 ((nfK gs ls k).2.map cDl ++ [cDl (⟨(dlAt ls k).s, (dlAt ls k).d, (nfIx gs (nfK gs ls k).1 (dlAt ls k))⟩ : Dl)]).length q.2.1)), sl (.slice Ag2 ((nfGs gs (nfK gs ls k).1 (dlAt ls k)).map cGs).length cg2) 80 2 ((nfGs gs (nfK gs ls k).1 (dlAt ls k)).map cGs), sl (.slice q.1 ((nfK gs ls k).2.map cDl ++ [cDl (⟨(dlAt ls k).s, (dlAt ls k).d, (nfIx gs (nfK gs ls k).1 (dlAt ls k))⟩ : Dl)]).length q.2.1) 82 3 ((nfK gs ls k).2.map cDl ++ [cDl (⟨(dlAt ls k).s, (dlAt ls k).d, (nfIx gs (nfK gs ls k).1 (dlAt ls k))⟩ : Dl)]), sl (.slice q.2.2.1 ((ptsK (nfK gs ls k).2 (nfK gs ls k).2.length).map cSw ++ [cSw (secAt (nfK gs ls k).2 (nfK gs ls k).2.length + (dlAt ls k).s, (dlAt ls k).d)]).length q.2.2.2) 47 2 ((ptsK (nfK gs ls k).2 (nfK gs ls k).2.length).map cSw ++ [cSw (secAt (nfK gs ls k).2 (nfK gs ls k).2.length + (dlAt ls k).s, (dlAt ls k).d)]), box g1 25 (cPl nm sf v u), box g2 25 [.string ⟨#[]⟩, .int .i64 0, .slice none 0 0, .slice none 0 0], rd v 2 (gs.map cGs), rd u 3 (ls.map cDl)])) mixed (by kernel_rfl) rfl (by kernel_rfl) ?_ ?_
 refine Kp.Zq rfl (q_field tb rfl rfl rfl) ?_
 refine Kp.Zq rfl (q_loadA tb rfl rfl bxo rfl rfl) ?_
 refine Kp.Zq rfl (q_move rfl) ?_
 refine Kp.Zq rfl (q_loadA tb rfl rfl bxo rfl rfl) ?_
 refine Kp.Z_s3 ?_ ?_ ?_
 refine Kp.Sq rfl (q_load tb rfl rfl bxo rfl) ?_
 refine Kp.Z_s2 ?_ ?_
 refine Kp.St_mk rfl rfl rfl rfl (lo_bslice tb rfl rfl rfl (xs := [cDl (⟨(dlAt ls k).s, (dlAt ls k).d, (nfIx gs (nfK gs ls k).1 (dlAt ls k))⟩ : Dl)]) rfl rfl (by simp [cDl]) rfl (by omega) rfl) fun v113 => ?_
 refine Kp.Z_s2 ?_ ?_
 first | refine Kp.St_appendF tb rfl rfl rfl (List.Perm.refl _) rfl rfl rfl (by omega) rfl rfl gvo (by simp [Value.oneCell', cDl]) (by simp [maxLen]; omega) (by simp; omega) fun A114 c114 => ?_ | refine Kp.St_appendF tb rfl rfl rfl perm1 rfl rfl rfl (by omega) rfl rfl gvo (by simp [Value.oneCell', cDl]) (by simp [maxLen]; omega) (by simp; omega) fun A114 c114 => ?_ | refine Kp.St_appendF tb rfl rfl rfl Kp.perm2 rfl rfl rfl (by omega) rfl rfl gvo (by simp [Value.oneCell', cDl]) (by simp [maxLen]; omega) (by simp; omega) fun A114 c114 => ?_ | refine Kp.St_appendF tb rfl rfl rfl Kp.perm3 rfl rfl rfl (by omega) rfl rfl gvo (by simp [Value.oneCell', cDl]) (by simp [maxLen]; omega) (by simp; omega) fun A114 c114 => ?_ | refine Kp.St_appendF tb rfl rfl rfl (perm_front (pre := [_, _])) rfl rfl rfl (by omega) rfl rfl gvo (by simp [Value.oneCell', cDl]) (by simp [maxLen]; omega) (by simp; omega) fun A114 c114 => ?_ | refine Kp.St_appendF tb rfl rfl rfl (perm_front (pre := [_, _, _])) rfl rfl rfl (by omega) rfl rfl gvo (by simp [Value.oneCell', cDl]) (by simp [maxLen]; omega) (by simp; omega) fun A114 c114 => ?_ | refine Kp.St_appendF tb rfl rfl rfl (perm_front (pre := [_, _, _, _])) rfl rfl rfl (by omega) rfl rfl gvo (by simp [Value.oneCell', cDl]) (by simp [maxLen]; omega) (by simp; omega) fun A114 c114 => ?_
 refine Kp.Zq rfl (q_field tb rfl rfl rfl) ?_
 refine Kp.Z_s ?_
 refine Kp.St_mk rfl rfl rfl rfl (lo_bslice tb rfl rfl rfl (xs := [cSw (secAt (nfK gs ls k).2 (nfK gs ls k).2.length + (dlAt ls k).s, (dlAt ls k).d)]) rfl rfl (by simp [cSw]) rfl (by omega) rfl) fun v117 => ?_
 refine Kp.Z_s ?_
 first | refine Kp.St_appendF tb rfl rfl rfl (List.Perm.refl _) rfl rfl rfl (by omega) rfl rfl gvo (by simp [Value.oneCell', cSw]) (by simp [maxLen, ptsK_len]; omega) (by simp [ptsK_len]; omega) fun A118 c118 => ?_ | refine Kp.St_appendF tb rfl rfl rfl perm1 rfl rfl rfl (by omega) rfl rfl gvo (by simp [Value.oneCell', cSw]) (by simp [maxLen, ptsK_len]; omega) (by simp [ptsK_len]; omega) fun A118 c118 => ?_ | refine Kp.St_appendF tb rfl rfl rfl Kp.perm2 rfl rfl rfl (by omega) rfl rfl gvo (by simp [Value.oneCell', cSw]) (by simp [maxLen, ptsK_len]; omega) (by simp [ptsK_len]; omega) fun A118 c118 => ?_ | refine Kp.St_appendF tb rfl rfl rfl Kp.perm3 rfl rfl rfl (by omega) rfl rfl gvo (by simp [Value.oneCell', cSw]) (by simp [maxLen, ptsK_len]; omega) (by simp [ptsK_len]; omega) fun A118 c118 => ?_ | refine Kp.St_appendF tb rfl rfl rfl (perm_front (pre := [_, _])) rfl rfl rfl (by omega) rfl rfl gvo (by simp [Value.oneCell', cSw]) (by simp [maxLen, ptsK_len]; omega) (by simp [ptsK_len]; omega) fun A118 c118 => ?_ | refine Kp.St_appendF tb rfl rfl rfl (perm_front (pre := [_, _, _])) rfl rfl rfl (by omega) rfl rfl gvo (by simp [Value.oneCell', cSw]) (by simp [maxLen, ptsK_len]; omega) (by simp [ptsK_len]; omega) fun A118 c118 => ?_ | refine Kp.St_appendF tb rfl rfl rfl (perm_front (pre := [_, _, _, _])) rfl rfl rfl (by omega) rfl rfl gvo (by simp [Value.oneCell', cSw]) (by simp [maxLen, ptsK_len]; omega) (by simp [ptsK_len]; omega) fun A118 c118 => ?_
 refine Kp.Z_s ?_
 first | refine Kp.St_store tb rfl rfl (List.Perm.refl _) rfl rfl rfl rfl rfl rfl rfl rfl ?_ | refine Kp.St_store tb rfl rfl perm1 rfl rfl rfl rfl rfl rfl rfl rfl ?_ | refine Kp.St_store tb rfl rfl Kp.perm2 rfl rfl rfl rfl rfl rfl rfl rfl ?_ | refine Kp.St_store tb rfl rfl Kp.perm3 rfl rfl rfl rfl rfl rfl rfl rfl ?_ | refine Kp.St_store tb rfl rfl (perm_front (pre := [_, _])) rfl rfl rfl rfl rfl rfl rfl rfl ?_ | refine Kp.St_store tb rfl rfl (perm_front (pre := [_, _, _])) rfl rfl rfl rfl rfl rfl rfl rfl ?_ | refine Kp.St_store tb rfl rfl (perm_front (pre := [_, _, _, _])) rfl rfl rfl rfl rfl rfl rfl rfl ?_
 refine Kp.Z_s ?_
 refine Kp.Sq rfl (q_assign rfl) ?_
 refine Kp.Z_nil ?_
 try dsimp only [List.append, List.cons_append, List.nil_append]
 exact ⟨(A114, c114, A118, c118), fun a_ w_ hs_ => hs_.weak ⟨rfl, rfl, rfl, rfl, rfl, rfl, rfl, trivial⟩ (fun h_ => h_.pk (pk_box rfl (pk_sl rfl (pk_sl rfl (pk_sl rfl (pk_box rfl (pk_box rfl (pk_rd rfl (pk_rd rfl pk_nil)))))))))⟩
 refine Kp.St_mk rfl rfl rfl rfl (lo_bslice tb rfl rfl rfl (xs := [cSw (secAt (nfK gs ls k).2 (nfK gs ls k).2.length + (dlAt ls k).s, (dlAt ls k).d)]) rfl rfl (by simp [cSw]) rfl (by omega) rfl) fun v117 => ?_
 refine Kp.Z_s ?_
 first | refine Kp.St_appendF tb rfl rfl rfl (List.Perm.refl _) rfl rfl rfl (by omega) rfl rfl gvo (by simp [Value.oneCell', cDl]) (by simp [maxLen]; omega) (by simp; omega) fun A114 c114 => ?_ | refine Kp.St_appendF tb rfl rfl rfl perm1 rfl rfl rfl (by omega) rfl rfl gvo (by simp [Value.oneCell', cDl]) (by simp [maxLen]; omega) (by simp; omega) fun A114 c114 => ?_ | refine Kp.St_appendF tb rfl rfl rfl Kp.perm2 rfl rfl rfl (by omega) rfl rfl gvo (by simp [Value.oneCell', cDl]) (by simp [maxLen]; omega) (by simp; omega) fun A114 c114 => ?_ | refine Kp.St_appendF tb rfl rfl rfl Kp.perm3 rfl rfl rfl (by omega) rfl rfl gvo (by simp [Value.oneCell', cDl]) (by simp [maxLen]; omega) (by simp; omega) fun A114 c114 => ?_ | refine Kp.St_appendF tb rfl rfl rfl (perm_front (pre := [_, _])) rfl rfl rfl (by omega) rfl rfl gvo (by simp [Value.oneCell', cDl]) (by simp [maxLen]; omega) (by simp; omega) fun A114 c114 => ?_ | refine Kp.St_appendF tb rfl rfl rfl (perm_front (pre := [_, _, _])) rfl rfl rfl (by omega) rfl rfl gvo (by simp [Value.oneCell', cDl]) (by simp [maxLen]; omega) (by simp; omega) fun A114 c114 => ?_ | refine Kp.St_appendF tb rfl rfl rfl (perm_front (pre := [_, _, _, _])) rfl rfl rfl (by omega) rfl rfl gvo (by simp [Value.oneCell', cDl]) (by simp [maxLen]; omega) (by simp; omega) fun A114 c114 => ?_
 refine Kp.Zq rfl (q_field tb rfl rfl rfl) ?_
 refine Kp.Z_s ?_
 first | refine Kp.St_appendF tb rfl rfl rfl (List.Perm.refl _) rfl rfl rfl (by omega) rfl rfl gvo (by simp [Value.oneCell', cSw]) (by simp [maxLen, ptsK_len]; omega) (by simp [ptsK_len]; omega) fun A118 c118 => ?_ | refine Kp.St_appendF tb rfl rfl rfl perm1 rfl rfl rfl (by omega) rfl rfl gvo (by simp [Value.oneCell', cSw]) (by simp [maxLen, ptsK_len]; omega) (by simp [ptsK_len]; omega) fun A118 c118 => ?_ | refine Kp.St_appendF tb rfl rfl rfl Kp.perm2 rfl rfl rfl (by omega) rfl rfl gvo (by simp [Value.oneCell', cSw]) (by simp [maxLen, ptsK_len]; omega) (by simp [ptsK_len]; omega) fun A118 c118 => ?_ | refine Kp.St_appendF tb rfl rfl rfl Kp.perm3 rfl rfl rfl (by omega) rfl rfl gvo (by simp [Value.oneCell', cSw]) (by simp [maxLen, ptsK_len]; omega) (by simp [ptsK_len]; omega) fun A118 c118 => ?_ | refine Kp.St_appendF tb rfl rfl rfl (perm_front (pre := [_, _])) rfl rfl rfl (by omega) rfl rfl gvo (by simp [Value.oneCell', cSw]) (by simp [maxLen, ptsK_len]; omega) (by simp [ptsK_len]; omega) fun A118 c118 => ?_ | refine Kp.St_appendF tb rfl rfl rfl (perm_front (pre := [_, _, _])) rfl rfl rfl (by omega) rfl rfl gvo (by simp [Value.oneCell', cSw]) (by simp [maxLen, ptsK_len]; omega) (by simp [ptsK_len]; omega) fun A118 c118 => ?_ | refine Kp.St_appendF tb rfl rfl rfl (perm_front (pre := [_, _, _, _])) rfl rfl rfl (by omega) rfl rfl gvo (by simp [Value.oneCell', cSw]) (by simp [maxLen, ptsK_len]; omega) (by simp [ptsK_len]; omega) fun A118 c118 => ?_
 refine Kp.Z_s ?_
 first | refine Kp.St_store tb rfl rfl (List.Perm.refl _) rfl rfl rfl rfl rfl rfl rfl rfl ?_ | refine Kp.St_store tb rfl rfl perm1 rfl rfl rfl rfl rfl rfl rfl rfl ?_ | refine Kp.St_store tb rfl rfl Kp.perm2 rfl rfl rfl rfl rfl rfl rfl rfl ?_ | refine Kp.St_store tb rfl rfl Kp.perm3 rfl rfl rfl rfl rfl rfl rfl rfl ?_ | refine Kp.St_store tb rfl rfl (perm_front (pre := [_, _])) rfl rfl rfl rfl rfl rfl rfl rfl ?_ | refine Kp.St_store tb rfl rfl (perm_front (pre := [_, _, _])) rfl rfl rfl rfl rfl rfl rfl rfl ?_ | refine Kp.St_store tb rfl rfl (perm_front (pre := [_, _, _, _])) rfl rfl rfl rfl rfl rfl rfl rfl ?_
 refine Kp.Z_s ?_
 refine Kp.Sq rfl (q_assign rfl) ?_
 refine Kp.Z_nil ?_
 try dsimp only [List.append, List.cons_append, List.nil_append]
 exact ⟨(A114, c114, A118, c118), fun a_ w_ hs_ => hs_.weak ⟨rfl, rfl, rfl, rfl, rfl, rfl, rfl, trivial⟩ (fun h_ => h_.pk (pk_box rfl (pk_sl rfl (pk_sl rfl (pk_sl rfl (pk_box rfl (pk_box rfl (pk_rd rfl (pk_rd rfl pk_nil)))))))))⟩
 refine Kp.St_mk rfl rfl rfl rfl (lo_bslice tb rfl rfl rfl (xs := [cSw (secAt (nfK gs ls k).2 (nfK gs ls k).2.length + (dlAt ls k).s, (dlAt ls k).d)]) rfl rfl (by simp [cSw]) rfl (by omega) rfl) fun v117 => ?_
 refine Kp.Z_s ?_
 refine Kp.St_mk rfl rfl rfl rfl (lo_bslice tb rfl rfl rfl (xs := [cDl (⟨(dlAt ls k).s, (dlAt ls k).d, (nfIx gs (nfK gs ls k).1 (dlAt ls k))⟩ : Dl)]) rfl rfl (by simp [cDl]) rfl (by omega) rfl) fun v113 => ?_
 refine Kp.Z_s ?_
 first | refine Kp.St_appendF tb rfl rfl rfl (List.Perm.refl _) rfl rfl rfl (by omega) rfl rfl gvo (by simp [Value.oneCell', cDl]) (by simp [maxLen]; omega) (by simp; omega) fun A114 c114 => ?_ | refine Kp.St_appendF tb rfl rfl rfl perm1 rfl rfl rfl (by omega) rfl rfl gvo (by simp [Value.oneCell', cDl]) (by simp [maxLen]; omega) (by simp; omega) fun A114 c114 => ?_ | refine Kp.St_appendF tb rfl rfl rfl Kp.perm2 rfl rfl rfl (by omega) rfl rfl gvo (by simp [Value.oneCell', cDl]) (by simp [maxLen]; omega) (by simp; omega) fun A114 c114 => ?_ | refine Kp.St_appendF tb rfl rfl rfl Kp.perm3 rfl rfl rfl (by omega) rfl rfl gvo (by simp [Value.oneCell', cDl]) (by simp [maxLen]; omega) (by simp; omega) fun A114 c114 => ?_ | refine Kp.St_appendF tb rfl rfl rfl (perm_front (pre := [_, _])) rfl rfl rfl (by omega) rfl rfl gvo (by simp [Value.oneCell', cDl]) (by simp [maxLen]; omega) (by simp; omega) fun A114 c114 => ?_ | refine Kp.St_appendF tb rfl rfl rfl (perm_front (pre := [_, _, _])) rfl rfl rfl (by omega) rfl rfl gvo (by simp [Value.oneCell', cDl]) (by simp [maxLen]; omega) (by simp; omega) fun A114 c114 => ?_ | refine Kp.St_appendF tb rfl rfl rfl (perm_front (pre := [_, _, _, _])) rfl rfl rfl (by omega) rfl rfl gvo (by simp [Value.oneCell', cDl]) (by simp [maxLen]; omega) (by simp; omega) fun A114 c114 => ?_
 refine Kp.Zq rfl (q_field tb rfl rfl rfl) ?_
 refine Kp.Z_s ?_
 first | refine Kp.St_appendF tb rfl rfl rfl (List.Perm.refl _) rfl rfl rfl (by omega) rfl rfl gvo (by simp [Value.oneCell', cSw]) (by simp [maxLen, ptsK_len]; omega) (by simp [ptsK_len]; omega) fun A118 c118 => ?_ | refine Kp.St_appendF tb rfl rfl rfl perm1 rfl rfl rfl (by omega) rfl rfl gvo (by simp [Value.oneCell', cSw]) (by simp [maxLen, ptsK_len]; omega) (by simp [ptsK_len]; omega) fun A118 c118 => ?_ | refine Kp.St_appendF tb rfl rfl rfl Kp.perm2 rfl rfl rfl (by omega) rfl rfl gvo (by simp [Value.oneCell', cSw]) (by simp [maxLen, ptsK_len]; omega) (by simp [ptsK_len]; omega) fun A118 c118 => ?_ | refine Kp.St_appendF tb rfl rfl rfl Kp.perm3 rfl rfl rfl (by omega) rfl rfl gvo (by simp [Value.oneCell', cSw]) (by simp [maxLen, ptsK_len]; omega) (by simp [ptsK_len]; omega) fun A118 c118 => ?_ | refine Kp.St_appendF tb rfl rfl rfl (perm_front (pre := [_, _])) rfl rfl rfl (by omega) rfl rfl gvo (by simp [Value.oneCell', cSw]) (by simp [maxLen, ptsK_len]; omega) (by simp [ptsK_len]; omega) fun A118 c118 => ?_ | refine Kp.St_appendF tb rfl rfl rfl (perm_front (pre := [_, _, _])) rfl rfl rfl (by omega) rfl rfl gvo (by simp [Value.oneCell', cSw]) (by simp [maxLen, ptsK_len]; omega) (by simp [ptsK_len]; omega) fun A118 c118 => ?_ | refine Kp.St_appendF tb rfl rfl rfl (perm_front (pre := [_, _, _, _])) rfl rfl rfl (by omega) rfl rfl gvo (by simp [Value.oneCell', cSw]) (by simp [maxLen, ptsK_len]; omega) (by simp [ptsK_len]; omega) fun A118 c118 => ?_
 refine Kp.Z_s ?_
 first | refine Kp.St_store tb rfl rfl (List.Perm.refl _) rfl rfl rfl rfl rfl rfl rfl rfl ?_ | refine Kp.St_store tb rfl rfl perm1 rfl rfl rfl rfl rfl rfl rfl rfl ?_ | refine Kp.St_store tb rfl rfl Kp.perm2 rfl rfl rfl rfl rfl rfl rfl rfl ?_ | refine Kp.St_store tb rfl rfl Kp.perm3 rfl rfl rfl rfl rfl rfl rfl rfl ?_ | refine Kp.St_store tb rfl rfl (perm_front (pre := [_, _])) rfl rfl rfl rfl rfl rfl rfl rfl ?_ | refine Kp.St_store tb rfl rfl (perm_front (pre := [_, _, _])) rfl rfl rfl rfl rfl rfl rfl rfl ?_ | refine Kp.St_store tb rfl rfl (perm_front (pre := [_, _, _, _])) rfl rfl rfl rfl rfl rfl rfl rfl ?_
 refine Kp.Z_s ?_
 refine Kp.Sq rfl (q_assign rfl) ?_
 refine Kp.Z_nil ?_
 try dsimp only [List.append, List.cons_append, List.nil_append]
 exact ⟨(A114, c114, A118, c118), fun a_ w_ hs_ => hs_.weak ⟨rfl, rfl, rfl, rfl, rfl, rfl, rfl, trivial⟩ (fun h_ => h_.pk (pk_box rfl (pk_sl rfl (pk_sl rfl (pk_sl rfl (pk_box rfl (pk_box rfl (pk_rd rfl (pk_rd rfl pk_nil)))))))))⟩
 refine Kp.St_mk rfl rfl rfl rfl (lo_bslice tb rfl rfl rfl (xs := [cDl (⟨(dlAt ls k).s, (dlAt ls k).d, (nfIx gs (nfK gs ls k).1 (dlAt ls k))⟩ : Dl)]) rfl rfl (by simp [cDl]) rfl (by omega) rfl) fun v113 => ?_
 refine Kp.Z_s2 ?_ ?_
 refine Kp.Sq rfl (q_load tb rfl rfl bxo rfl) ?_
 refine Kp.Z_s2 ?_ ?_
 first | refine Kp.St_appendF tb rfl rfl rfl (List.Perm.refl _) rfl rfl rfl (by omega) rfl rfl gvo (by simp [Value.oneCell', cDl]) (by simp [maxLen]; omega) (by simp; omega) fun A114 c114 => ?_ | refine Kp.St_appendF tb rfl rfl rfl perm1 rfl rfl rfl (by omega) rfl rfl gvo (by simp [Value.oneCell', cDl]) (by simp [maxLen]; omega) (by simp; omega) fun A114 c114 => ?_ | refine Kp.St_appendF tb rfl rfl rfl Kp.perm2 rfl rfl rfl (by omega) rfl rfl gvo (by simp [Value.oneCell', cDl]) (by simp [maxLen]; omega) (by simp; omega) fun A114 c114 => ?_ | refine Kp.St_appendF tb rfl rfl rfl Kp.perm3 rfl rfl rfl (by omega) rfl rfl gvo (by simp [Value.oneCell', cDl]) (by simp [maxLen]; omega) (by simp; omega) fun A114 c114 => ?_ | refine Kp.St_appendF tb rfl rfl rfl (perm_front (pre := [_, _])) rfl rfl rfl (by omega) rfl rfl gvo (by simp [Value.oneCell', cDl]) (by simp [maxLen]; omega) (by simp; omega) fun A114 c114 => ?_ | refine Kp.St_appendF tb rfl rfl rfl (perm_front (pre := [_, _, _])) rfl rfl rfl (by omega) rfl rfl gvo (by simp [Value.oneCell', cDl]) (by simp [maxLen]; omega) (by simp; omega) fun A114 c114 => ?_ | refine Kp.St_appendF tb rfl rfl rfl (perm_front (pre := [_, _, _, _])) rfl rfl rfl (by omega) rfl rfl gvo (by simp [Value.oneCell', cDl]) (by simp [maxLen]; omega) (by simp; omega) fun A114 c114 => ?_
 refine Kp.Zq rfl (q_field tb rfl rfl rfl) ?_
 refine Kp.Z_s ?_
 refine Kp.St_mk rfl rfl rfl rfl (lo_bslice tb rfl rfl rfl (xs := [cSw (secAt (nfK gs ls k).2 (nfK gs ls k).2.length + (dlAt ls k).s, (dlAt ls k).d)]) rfl rfl (by simp [cSw]) rfl (by omega) rfl) fun v117 => ?_
 refine Kp.Z_s ?_
 first | refine Kp.St_appendF tb rfl rfl rfl (List.Perm.refl _) rfl rfl rfl (by omega) rfl rfl gvo (by simp [Value.oneCell', cSw]) (by simp [maxLen, ptsK_len]; omega) (by simp [ptsK_len]; omega) fun A118 c118 => ?_ | refine Kp.St_appendF tb rfl rfl rfl perm1 rfl rfl rfl (by omega) rfl rfl gvo (by simp [Value.oneCell', cSw]) (by simp [maxLen, ptsK_len]; omega) (by simp [ptsK_len]; omega) fun A118 c118 => ?_ | refine Kp.St_appendF tb rfl rfl rfl Kp.perm2 rfl rfl rfl (by omega) rfl rfl gvo (by simp [Value.oneCell', cSw]) (by simp [maxLen, ptsK_len]; omega) (by simp [ptsK_len]; omega) fun A118 c118 => ?_ | refine Kp.St_appendF tb rfl rfl rfl Kp.perm3 rfl rfl rfl (by omega) rfl rfl gvo (by simp [Value.oneCell', cSw]) (by simp [maxLen, ptsK_len]; omega) (by simp [ptsK_len]; omega) fun A118 c118 => ?_ | refine Kp.St_appendF tb rfl rfl rfl (perm_front (pre := [_, _])) rfl rfl rfl (by omega) rfl rfl gvo (by simp [Value.oneCell', cSw]) (by simp [maxLen, ptsK_len]; omega) (by simp [ptsK_len]; omega) fun A118 c118 => ?_ | refine Kp.St_appendF tb rfl rfl rfl (perm_front (pre := [_, _, _])) rfl rfl rfl (by omega) rfl rfl gvo (by simp [Value.oneCell', cSw]) (by simp [maxLen, ptsK_len]; omega) (by simp [ptsK_len]; omega) fun A118 c118 => ?_ | refine Kp.St_appendF tb rfl rfl rfl (perm_front (pre := [_, _, _, _])) rfl rfl rfl (by omega) rfl rfl gvo (by simp [Value.oneCell', cSw]) (by simp [maxLen, ptsK_len]; omega) (by simp [ptsK_len]; omega) fun A118 c118 => ?_
 refine Kp.Z_s ?_
 first | refine Kp.St_store tb rfl rfl (List.Perm.refl _) rfl rfl rfl rfl rfl rfl rfl rfl ?_ | refine Kp.St_store tb rfl rfl perm1 rfl rfl rfl rfl rfl rfl rfl rfl ?_ | refine Kp.St_store tb rfl rfl Kp.perm2 rfl rfl rfl rfl rfl rfl rfl rfl ?_ | refine Kp.St_store tb rfl rfl Kp.perm3 rfl rfl rfl rfl rfl rfl rfl rfl ?_ | refine Kp.St_store tb rfl rfl (perm_front (pre := [_, _])) rfl rfl rfl rfl rfl rfl rfl rfl ?_ | refine Kp.St_store tb rfl rfl (perm_front (pre := [_, _, _])) rfl rfl rfl rfl rfl rfl rfl rfl ?_ | refine Kp.St_store tb rfl rfl (perm_front (pre := [_, _, _, _])) rfl rfl rfl rfl rfl rfl rfl rfl ?_
 refine Kp.Z_s ?_
 refine Kp.Sq rfl (q_assign rfl) ?_
 refine Kp.Z_nil ?_
 try dsimp only [List.append, List.cons_append, List.nil_append]
 exact ⟨(A114, c114, A118, c118), fun a_ w_ hs_ => hs_.weak ⟨rfl, rfl, rfl, rfl, rfl, rfl, rfl, trivial⟩ (fun h_ => h_.pk (pk_box rfl (pk_sl rfl (pk_sl rfl (pk_sl rfl (pk_box rfl (pk_box rfl (pk_rd rfl (pk_rd rfl pk_nil)))))))))⟩
 refine Kp.St_mk rfl rfl rfl rfl (lo_bslice tb rfl rfl rfl (xs := [cSw (secAt (nfK gs ls k).2 (nfK gs ls k).2.length + (dlAt ls k).s, (dlAt ls k).d)]) rfl rfl (by simp [cSw]) rfl (by omega) rfl) fun v117 => ?_
 refine Kp.Z_s ?_
 first | refine Kp.St_appendF tb rfl rfl rfl (List.Perm.refl _) rfl rfl rfl (by omega) rfl rfl gvo (by simp [Value.oneCell', cDl]) (by simp [maxLen]; omega) (by simp; omega) fun A114 c114 => ?_ | refine Kp.St_appendF tb rfl rfl rfl perm1 rfl rfl rfl (by omega) rfl rfl gvo (by simp [Value.oneCell', cDl]) (by simp [maxLen]; omega) (by simp; omega) fun A114 c114 => ?_ | refine Kp.St_appendF tb rfl rfl rfl Kp.perm2 rfl rfl rfl (by omega) rfl rfl gvo (by simp [Value.oneCell', cDl]) (by simp [maxLen]; omega) (by simp; omega) fun A114 c114 => ?_ | refine Kp.St_appendF tb rfl rfl rfl Kp.perm3 rfl rfl rfl (by omega) rfl rfl gvo (by simp [Value.oneCell', cDl]) (by simp [maxLen]; omega) (by simp; omega) fun A114 c114 => ?_ | refine Kp.St_appendF tb rfl rfl rfl (perm_front (pre := [_, _])) rfl rfl rfl (by omega) rfl rfl gvo (by simp [Value.oneCell', cDl]) (by simp [maxLen]; omega) (by simp; omega) fun A114 c114 => ?_ | refine Kp.St_appendF tb rfl rfl rfl (perm_front (pre := [_, _, _])) rfl rfl rfl (by omega) rfl rfl gvo (by simp [Value.oneCell', cDl]) (by simp [maxLen]; omega) (by simp; omega) fun A114 c114 => ?_ | refine Kp.St_appendF tb rfl rfl rfl (perm_front (pre := [_, _, _, _])) rfl rfl rfl (by omega) rfl rfl gvo (by simp [Value.oneCell', cDl]) (by simp [maxLen]; omega) (by simp; omega) fun A114 c114 => ?_
 refine Kp.Zq rfl (q_field tb rfl rfl rfl) ?_
 refine Kp.Z_s ?_
 first | refine Kp.St_appendF tb rfl rfl rfl (List.Perm.refl _) rfl rfl rfl (by omega) rfl rfl gvo (by simp [Value.oneCell', cSw]) (by simp [maxLen, ptsK_len]; omega) (by simp [ptsK_len]; omega) fun A118 c118 => ?_ | refine Kp.St_appendF tb rfl rfl rfl perm1 rfl rfl rfl (by omega) rfl rfl gvo (by simp [Value.oneCell', cSw]) (by simp [maxLen, ptsK_len]; omega) (by simp [ptsK_len]; omega) fun A118 c118 => ?_ | refine Kp.St_appendF tb rfl rfl rfl Kp.perm2 rfl rfl rfl (by omega) rfl rfl gvo (by simp [Value.oneCell', cSw]) (by simp [maxLen, ptsK_len]; omega) (by simp [ptsK_len]; omega) fun A118 c118 => ?_ | refine Kp.St_appendF tb rfl rfl rfl Kp.perm3 rfl rfl rfl (by omega) rfl rfl gvo (by simp [Value.oneCell', cSw]) (by simp [maxLen, ptsK_len]; omega) (by simp [ptsK_len]; omega) fun A118 c118 => ?_ | refine Kp.St_appendF tb rfl rfl rfl (perm_front (pre := [_, _])) rfl rfl rfl (by omega) rfl rfl gvo (by simp [Value.oneCell', cSw]) (by simp [maxLen, ptsK_len]; omega) (by simp [ptsK_len]; omega) fun A118 c118 => ?_ | refine Kp.St_appendF tb rfl rfl rfl (perm_front (pre := [_, _, _])) rfl rfl rfl (by omega) rfl rfl gvo (by simp [Value.oneCell', cSw]) (by simp [maxLen, ptsK_len]; omega) (by simp [ptsK_len]; omega) fun A118 c118 => ?_ | refine Kp.St_appendF tb rfl rfl rfl (perm_front (pre := [_, _, _, _])) rfl rfl rfl (by omega) rfl rfl gvo (by simp [Value.oneCell', cSw]) (by simp [maxLen, ptsK_len]; omega) (by simp [ptsK_len]; omega) fun A118 c118 => ?_
 refine Kp.Z_s ?_
 first | refine Kp.St_store tb rfl rfl (List.Perm.refl _) rfl rfl rfl rfl rfl rfl rfl rfl ?_ | refine Kp.St_store tb rfl rfl perm1 rfl rfl rfl rfl rfl rfl rfl rfl ?_ | refine Kp.St_store tb rfl rfl Kp.perm2 rfl rfl rfl rfl rfl rfl rfl rfl ?_ | refine Kp.St_store tb rfl rfl Kp.perm3 rfl rfl rfl rfl rfl rfl rfl rfl ?_ | refine Kp.St_store tb rfl rfl (perm_front (pre := [_, _])) rfl rfl rfl rfl rfl rfl rfl rfl ?_ | refine Kp.St_store tb rfl rfl (perm_front (pre := [_, _, _])) rfl rfl rfl rfl rfl rfl rfl rfl ?_ | refine Kp.St_store tb rfl rfl (perm_front (pre := [_, _, _, _])) rfl rfl rfl rfl rfl rfl rfl rfl ?_
 refine Kp.Z_s ?_
 refine Kp.Sq rfl (q_assign rfl) ?_
 refine Kp.Z_nil ?_
 try dsimp only [List.append, List.cons_append, List.nil_append]
 exact ⟨(A114, c114, A118, c118), fun a_ w_ hs_ => hs_.weak ⟨rfl, rfl, rfl, rfl, rfl, rfl, rfl, trivial⟩ (fun h_ => h_.pk (pk_box rfl (pk_sl rfl (pk_sl rfl (pk_sl rfl (pk_box rfl (pk_box rfl (pk_rd rfl (pk_rd rfl pk_nil)))))))))⟩
 refine Kp.St_mk rfl rfl rfl rfl (lo_bslice tb rfl rfl rfl (xs := [cSw (secAt (nfK gs ls k).2 (nfK gs ls k).2.length + (dlAt ls k).s, (dlAt ls k).d)]) rfl rfl (by simp [cSw]) rfl (by omega) rfl) fun v117 => ?_
 refine Kp.Z_s ?_
 refine Kp.Sq rfl (q_load tb rfl rfl bxo rfl) ?_
 refine Kp.Z_s ?_
 first | refine Kp.St_appendF tb rfl rfl rfl (List.Perm.refl _) rfl rfl rfl (by omega) rfl rfl gvo (by simp [Value.oneCell', cDl]) (by simp [maxLen]; omega) (by simp; omega) fun A114 c114 => ?_ | refine Kp.St_appendF tb rfl rfl rfl perm1 rfl rfl rfl (by omega) rfl rfl gvo (by simp [Value.oneCell', cDl]) (by simp [maxLen]; omega) (by simp; omega) fun A114 c114 => ?_ | refine Kp.St_appendF tb rfl rfl rfl Kp.perm2 rfl rfl rfl (by omega) rfl rfl gvo (by simp [Value.oneCell', cDl]) (by simp [maxLen]; omega) (by simp; omega) fun A114 c114 => ?_ | refine Kp.St_appendF tb rfl rfl rfl Kp.perm3 rfl rfl rfl (by omega) rfl rfl gvo (by simp [Value.oneCell', cDl]) (by simp [maxLen]; omega) (by simp; omega) fun A114 c114 => ?_ | refine Kp.St_appendF tb rfl rfl rfl (perm_front (pre := [_, _])) rfl rfl rfl (by omega) rfl rfl gvo (by simp [Value.oneCell', cDl]) (by simp [maxLen]; omega) (by simp; omega) fun A114 c114 => ?_ | refine Kp.St_appendF tb rfl rfl rfl (perm_front (pre := [_, _, _])) rfl rfl rfl (by omega) rfl rfl gvo (by simp [Value.oneCell', cDl]) (by simp [maxLen]; omega) (by simp; omega) fun A114 c114 => ?_ | refine Kp.St_appendF tb rfl rfl rfl (perm_front (pre := [_, _, _, _])) rfl rfl rfl (by omega) rfl rfl gvo (by simp [Value.oneCell', cDl]) (by simp [maxLen]; omega) (by simp; omega) fun A114 c114 => ?_
 refine Kp.Zq rfl (q_field tb rfl rfl rfl) ?_
 refine Kp.Z_s ?_
 first | refine Kp.St_appendF tb rfl rfl rfl (List.Perm.refl _) rfl rfl rfl (by omega) rfl rfl gvo (by simp [Value.oneCell', cSw]) (by simp [maxLen, ptsK_len]; omega) (by simp [ptsK_len]; omega) fun A118 c118 => ?_ | refine Kp.St_appendF tb rfl rfl rfl perm1 rfl rfl rfl (by omega) rfl rfl gvo (by simp [Value.oneCell', cSw]) (by simp [maxLen, ptsK_len]; omega) (by simp [ptsK_len]; omega) fun A118 c118 => ?_ | refine Kp.St_appendF tb rfl rfl rfl Kp.perm2 rfl rfl rfl (by omega) rfl rfl gvo (by simp [Value.oneCell', cSw]) (by simp [maxLen, ptsK_len]; omega) (by simp [ptsK_len]; omega) fun A118 c118 => ?_ | refine Kp.St_appendF tb rfl rfl rfl Kp.perm3 rfl rfl rfl (by omega) rfl rfl gvo (by simp [Value.oneCell', cSw]) (by simp [maxLen, ptsK_len]; omega) (by simp [ptsK_len]; omega) fun A118 c118 => ?_ | refine Kp.St_appendF tb rfl rfl rfl (perm_front (pre := [_, _])) rfl rfl rfl (by omega) rfl rfl gvo (by simp [Value.oneCell', cSw]) (by simp [maxLen, ptsK_len]; omega) (by simp [ptsK_len]; omega) fun A118 c118 => ?_ | refine Kp.St_appendF tb rfl rfl rfl (perm_front (pre := [_, _, _])) rfl rfl rfl (by omega) rfl rfl gvo (by simp [Value.oneCell', cSw]) (by simp [maxLen, ptsK_len]; omega) (by simp [ptsK_len]; omega) fun A118 c118 => ?_ | refine Kp.St_appendF tb rfl rfl rfl (perm_front (pre := [_, _, _, _])) rfl rfl rfl (by omega) rfl rfl gvo (by simp [Value.oneCell', cSw]) (by simp [maxLen, ptsK_len]; omega) (by simp [ptsK_len]; omega) fun A118 c118 => ?_
 refine Kp.Z_s ?_
 first | refine Kp.St_store tb rfl rfl (List.Perm.refl _) rfl rfl rfl rfl rfl rfl rfl rfl ?_ | refine Kp.St_store tb rfl rfl perm1 rfl rfl rfl rfl rfl rfl rfl rfl ?_ | refine Kp.St_store tb rfl rfl Kp.perm2 rfl rfl rfl rfl rfl rfl rfl rfl ?_ | refine Kp.St_store tb rfl rfl Kp.perm3 rfl rfl rfl rfl rfl rfl rfl rfl ?_ | refine Kp.St_store tb rfl rfl (perm_front (pre := [_, _])) rfl rfl rfl rfl rfl rfl rfl rfl ?_ | refine Kp.St_store tb rfl rfl (perm_front (pre := [_, _, _])) rfl rfl rfl rfl rfl rfl rfl rfl ?_ | refine Kp.St_store tb rfl rfl (perm_front (pre := [_, _, _, _])) rfl rfl rfl rfl rfl rfl rfl rfl ?_
 refine Kp.Z_s ?_
 refine Kp.Sq rfl (q_assign rfl) ?_
 refine Kp.Z_nil ?_
 try dsimp only [List.append, List.cons_append, List.nil_append]
 exact ⟨(A114, c114, A118, c118), fun a_ w_ hs_ => hs_.weak ⟨rfl, rfl, rfl, rfl, rfl, rfl, rfl, trivial⟩ (fun h_ => h_.pk (pk_box rfl (pk_sl rfl (pk_sl rfl (pk_sl rfl (pk_box rfl (pk_box rfl (pk_rd rfl (pk_rd rfl pk_nil)))))))))⟩
 refine Kp.St_mk rfl rfl rfl rfl (lo_bslice tb rfl rfl rfl (xs := [cSw (secAt (nfK gs ls k).2 (nfK gs ls k).2.length + (dlAt ls k).s, (dlAt ls k).d)]) rfl rfl (by simp [cSw]) rfl (by omega) rfl) fun v117 => ?_
 refine Kp.Z_s2 ?_ ?_
 refine Kp.Sq rfl (q_load tb rfl rfl bxo rfl) ?_
 refine Kp.Z_s ?_
 refine Kp.St_mk rfl rfl rfl rfl (lo_bslice tb rfl rfl rfl (xs := [cDl (⟨(dlAt ls k).s, (dlAt ls k).d, (nfIx gs (nfK gs ls k).1 (dlAt ls k))⟩ : Dl)]) rfl rfl (by simp [cDl]) rfl (by omega) rfl) fun v113 => ?_
 refine Kp.Z_s ?_
 first | refine Kp.St_appendF tb rfl rfl rfl (List.Perm.refl _) rfl rfl rfl (by omega) rfl rfl gvo (by simp [Value.oneCell', cDl]) (by simp [maxLen]; omega) (by simp; omega) fun A114 c114 => ?_ | refine Kp.St_appendF tb rfl rfl rfl perm1 rfl rfl rfl (by omega) rfl rfl gvo (by simp [Value.oneCell', cDl]) (by simp [maxLen]; omega) (by simp; omega) fun A114 c114 => ?_ | refine Kp.St_appendF tb rfl rfl rfl Kp.perm2 rfl rfl rfl (by omega) rfl rfl gvo (by simp [Value.oneCell', cDl]) (by simp [maxLen]; omega) (by simp; omega) fun A114 c114 => ?_ | refine Kp.St_appendF tb rfl rfl rfl Kp.perm3 rfl rfl rfl (by omega) rfl rfl gvo (by simp [Value.oneCell', cDl]) (by simp [maxLen]; omega) (by simp; omega) fun A114 c114 => ?_ | refine Kp.St_appendF tb rfl rfl rfl (perm_front (pre := [_, _])) rfl rfl rfl (by omega) rfl rfl gvo (by simp [Value.oneCell', cDl]) (by simp [maxLen]; omega) (by simp; omega) fun A114 c114 => ?_ | refine Kp.St_appendF tb rfl rfl rfl (perm_front (pre := [_, _, _])) rfl rfl rfl (by omega) rfl rfl gvo (by simp [Value.oneCell', cDl]) (by simp [maxLen]; omega) (by simp; omega) fun A114 c114 => ?_ | refine Kp.St_appendF tb rfl rfl rfl (perm_front (pre := [_, _, _, _])) rfl rfl rfl (by omega) rfl rfl gvo (by simp [Value.oneCell', cDl]) (by simp [maxLen]; omega) (by simp; omega) fun A114 c114 => ?_
 refine Kp.Zq rfl (q_field tb rfl rfl rfl) ?_
 refine Kp.Z_s ?_
 first | refine Kp.St_appendF tb rfl rfl rfl (List.Perm.refl _) rfl rfl rfl (by omega) rfl rfl gvo (by simp [Value.oneCell', cSw]) (by simp [maxLen, ptsK_len]; omega) (by simp [ptsK_len]; omega) fun A118 c118 => ?_ | refine Kp.St_appendF tb rfl rfl rfl perm1 rfl rfl rfl (by omega) rfl rfl gvo (by simp [Value.oneCell', cSw]) (by simp [maxLen, ptsK_len]; omega) (by simp [ptsK_len]; omega) fun A118 c118 => ?_ | refine Kp.St_appendF tb rfl rfl rfl Kp.perm2 rfl rfl rfl (by omega) rfl rfl gvo (by simp [Value.oneCell', cSw]) (by simp [maxLen, ptsK_len]; omega) (by simp [ptsK_len]; omega) fun A118 c118 => ?_ | refine Kp.St_appendF tb rfl rfl rfl Kp.perm3 rfl rfl rfl (by omega) rfl rfl gvo (by simp [Value.oneCell', cSw]) (by simp [maxLen, ptsK_len]; omega) (by simp [ptsK_len]; omega) fun A118 c118 => ?_ | refine Kp.St_appendF tb rfl rfl rfl (perm_front (pre := [_, _])) rfl rfl rfl (by omega) rfl rfl gvo (by simp [Value.oneCell', cSw]) (by simp [maxLen, ptsK_len]; omega) (by simp [ptsK_len]; omega) fun A118 c118 => ?_ | refine Kp.St_appendF tb rfl rfl rfl (perm_front (pre := [_, _, _])) rfl rfl rfl (by omega) rfl rfl gvo (by simp [Value.oneCell', cSw]) (by simp [maxLen, ptsK_len]; omega) (by simp [ptsK_len]; omega) fun A118 c118 => ?_ | refine Kp.St_appendF tb rfl rfl rfl (perm_front (pre := [_, _, _, _])) rfl rfl rfl (by omega) rfl rfl gvo (by simp [Value.oneCell', cSw]) (by simp [maxLen, ptsK_len]; omega) (by simp [ptsK_len]; omega) fun A118 c118 => ?_
 refine Kp.Z_s ?_
 first | refine Kp.St_store tb rfl rfl (List.Perm.refl _) rfl rfl rfl rfl rfl rfl rfl rfl ?_ | refine Kp.St_store tb rfl rfl perm1 rfl rfl rfl rfl rfl rfl rfl rfl ?_ | refine Kp.St_store tb rfl rfl Kp.perm2 rfl rfl rfl rfl rfl rfl rfl rfl ?_ | refine Kp.St_store tb rfl rfl Kp.perm3 rfl rfl rfl rfl rfl rfl rfl rfl ?_ | refine Kp.St_store tb rfl rfl (perm_front (pre := [_, _])) rfl rfl rfl rfl rfl rfl rfl rfl ?_ | refine Kp.St_store tb rfl rfl (perm_front (pre := [_, _, _])) rfl rfl rfl rfl rfl rfl rfl rfl ?_ | refine Kp.St_store tb rfl rfl (perm_front (pre := [_, _, _, _])) rfl rfl rfl rfl rfl rfl rfl rfl ?_
 refine Kp.Z_s ?_
 refine Kp.Sq rfl (q_assign rfl) ?_
 refine Kp.Z_nil ?_
 try dsimp only [List.append, List.cons_append, List.nil_append]
 exact ⟨(A114, c114, A118, c118), fun a_ w_ hs_ => hs_.weak ⟨rfl, rfl, rfl, rfl, rfl, rfl, rfl, trivial⟩ (fun h_ => h_.pk (pk_box rfl (pk_sl rfl (pk_sl rfl (pk_sl rfl (pk_box rfl (pk_box rfl (pk_rd rfl (pk_rd rfl pk_nil)))))))))⟩
 refine Kp.St_mk rfl rfl rfl rfl (lo_bslice tb rfl rfl rfl (xs := [cDl (⟨(dlAt ls k).s, (dlAt ls k).d, (nfIx gs (nfK gs ls k).1 (dlAt ls k))⟩ : Dl)]) rfl rfl (by simp [cDl]) rfl (by omega) rfl) fun v113 => ?_
 refine Kp.Z_s ?_
 refine Kp.Sq rfl (q_load tb rfl rfl bxo rfl) ?_
 refine Kp.Z_s ?_
 first | refine Kp.St_appendF tb rfl rfl rfl (List.Perm.refl _) rfl rfl rfl (by omega) rfl rfl gvo (by simp [Value.oneCell', cDl]) (by simp [maxLen]; omega) (by simp; omega) fun A114 c114 => ?_ | refine Kp.St_appendF tb rfl rfl rfl perm1 rfl rfl rfl (by omega) rfl rfl gvo (by simp [Value.oneCell', cDl]) (by simp [maxLen]; omega) (by simp; omega) fun A114 c114 => ?_ | refine Kp.St_appendF tb rfl rfl rfl Kp.perm2 rfl rfl rfl (by omega) rfl rfl gvo (by simp [Value.oneCell', cDl]) (by simp [maxLen]; omega) (by simp; omega) fun A114 c114 => ?_ | refine Kp.St_appendF tb rfl rfl rfl Kp.perm3 rfl rfl rfl (by omega) rfl rfl gvo (by simp [Value.oneCell', cDl]) (by simp [maxLen]; omega) (by simp; omega) fun A114 c114 => ?_ | refine Kp.St_appendF tb rfl rfl rfl (perm_front (pre := [_, _])) rfl rfl rfl (by omega) rfl rfl gvo (by simp [Value.oneCell', cDl]) (by simp [maxLen]; omega) (by simp; omega) fun A114 c114 => ?_ | refine Kp.St_appendF tb rfl rfl rfl (perm_front (pre := [_, _, _])) rfl rfl rfl (by omega) rfl rfl gvo (by simp [Value.oneCell', cDl]) (by simp [maxLen]; omega) (by simp; omega) fun A114 c114 => ?_ | refine Kp.St_appendF tb rfl rfl rfl (perm_front (pre := [_, _, _, _])) rfl rfl rfl (by omega) rfl rfl gvo (by simp [Value.oneCell', cDl]) (by simp [maxLen]; omega) (by simp; omega) fun A114 c114 => ?_
 refine Kp.Zq rfl (q_field tb rfl rfl rfl) ?_
 refine Kp.Z_s ?_
 first | refine Kp.St_appendF tb rfl rfl rfl (List.Perm.refl _) rfl rfl rfl (by omega) rfl rfl gvo (by simp [Value.oneCell', cSw]) (by simp [maxLen, ptsK_len]; omega) (by simp [ptsK_len]; omega) fun A118 c118 => ?_ | refine Kp.St_appendF tb rfl rfl rfl perm1 rfl rfl rfl (by omega) rfl rfl gvo (by simp [Value.oneCell', cSw]) (by simp [maxLen, ptsK_len]; omega) (by simp [ptsK_len]; omega) fun A118 c118 => ?_ | refine Kp.St_appendF tb rfl rfl rfl Kp.perm2 rfl rfl rfl (by omega) rfl rfl gvo (by simp [Value.oneCell', cSw]) (by simp [maxLen, ptsK_len]; omega) (by simp [ptsK_len]; omega) fun A118 c118 => ?_ | refine Kp.St_appendF tb rfl rfl rfl Kp.perm3 rfl rfl rfl (by omega) rfl rfl gvo (by simp [Value.oneCell', cSw]) (by simp [maxLen, ptsK_len]; omega) (by simp [ptsK_len]; omega) fun A118 c118 => ?_ | refine Kp.St_appendF tb rfl rfl rfl (perm_front (pre := [_, _])) rfl rfl rfl (by omega) rfl rfl gvo (by simp [Value.oneCell', cSw]) (by simp [maxLen, ptsK_len]; omega) (by simp [ptsK_len]; omega) fun A118 c118 => ?_ | refine Kp.St_appendF tb rfl rfl rfl (perm_front (pre := [_, _, _])) rfl rfl rfl (by omega) rfl rfl gvo (by simp [Value.oneCell', cSw]) (by simp [maxLen, ptsK_len]; omega) (by simp [ptsK_len]; omega) fun A118 c118 => ?_ | refine Kp.St_appendF tb rfl rfl rfl (perm_front (pre := [_, _, _, _])) rfl rfl rfl (by omega) rfl rfl gvo (by simp [Value.oneCell', cSw]) (by simp [maxLen, ptsK_len]; omega) (by simp [ptsK_len]; omega) fun A118 c118 => ?_
 refine Kp.Z_s ?_
 first | refine Kp.St_store tb rfl rfl (List.Perm.refl _) rfl rfl rfl rfl rfl rfl rfl rfl ?_ | refine Kp.St_store tb rfl rfl perm1 rfl rfl rfl rfl rfl rfl rfl rfl ?_ | refine Kp.St_store tb rfl rfl Kp.perm2 rfl rfl rfl rfl rfl rfl rfl rfl ?_ | refine Kp.St_store tb rfl rfl Kp.perm3 rfl rfl rfl rfl rfl rfl rfl rfl ?_ | refine Kp.St_store tb rfl rfl (perm_front (pre := [_, _])) rfl rfl rfl rfl rfl rfl rfl rfl ?_ | refine Kp.St_store tb rfl rfl (perm_front (pre := [_, _, _])) rfl rfl rfl rfl rfl rfl rfl rfl ?_ | refine Kp.St_store tb rfl rfl (perm_front (pre := [_, _, _, _])) rfl rfl rfl rfl rfl rfl rfl rfl ?_
 refine Kp.Z_s ?_
 refine Kp.Sq rfl (q_assign rfl) ?_
 refine Kp.Z_nil ?_
 try dsimp only [List.append, List.cons_append, List.nil_append]
 exact ⟨(A114, c114, A118, c118), fun a_ w_ hs_ => hs_.weak ⟨rfl, rfl, rfl, rfl, rfl, rfl, rfl, trivial⟩ (fun h_ => h_.pk (pk_box rfl (pk_sl rfl (pk_sl rfl (pk_sl rfl (pk_box rfl (pk_box rfl (pk_rd rfl (pk_rd rfl pk_nil)))))))))⟩
 (rintro ⟨A114, c114, A118, c118⟩; dsimp only)
 refine L_blk ?_
 refine C_region ?_
 refine Jq (q_add rfl rfl (by first | exact IntWalk.i64_in _ (by omega) | rfl)) ?_
 refine Jq (q_move rfl) ?_
 refine L_end ?_
 have eM : (nfK gs ls k).2.map cDl ++ [cDl (⟨(dlAt ls k).s, (dlAt ls k).d, (nfIx gs (nfK gs ls k).1 (dlAt ls k))⟩ : Dl)] = (nfK gs ls (k + 1)).2.map cDl := by rw [nfK_s2, nfL_0 h85, List.map_append]; rfl
 have eT : (ptsK (nfK gs ls k).2 (nfK gs ls k).2.length).map cSw ++ [cSw (secAt (nfK gs ls k).2 (nfK gs ls k).2.length + (dlAt ls k).s, (dlAt ls k).d)] = (ptsK (nfK gs ls (k + 1)).2 (nfK gs ls (k + 1)).2.length).map cSw := by rw [nfK_s2, nfL_0 h85]; exact pts_app (⟨(dlAt ls k).s, (dlAt ls k).d, (nfIx gs (nfK gs ls k).1 (dlAt ls k))⟩ : Dl)
 exact fun ac_ wo_ hs_ => ⟨(k + 1, (.slice Ag2 ((nfGs gs (nfK gs ls k).1 (dlAt ls k)).map cGs).length cg2), .slice A114 _ c114, .slice A118 _ c118), (by dsimp only; omega), (by dsimp only; omega), hs_.weak ⟨rfl, rfl, rfl, rfl, rfl, rfl, rfl, trivial⟩ (fun h => h.pk (pk_box rfl (pk_sl rfl (pk_sl eM (pk_sl eT (pk_box rfl (pk_box rfl (pk_rd rfl (pk_rd rfl pk_nil)))))))))⟩
 obtain rfl : k = ls.length := by omega
 refine C_form (v := a9) gvo (fun Ag cg hag _ => ?_)
 subst hag
 refine C_form (v := b9) gvo (fun Am cm ham _ => ?_)
 subst ham
 have hgl9 := len_map cGs (nfK gs ls ls.length).1; have hml9 := len_map cDl (nfK gs ls ls.length).2
 refine C_exit ?_
 change C Try.prog _ _ _ _ _ _ _
 refine C_seq ?_
 refine C_seq ?_
 refine C_region ?_
 refine Jq (q_field tb rfl rfl rfl) ?_
 refine Jq (q_load tb rfl rfl bxo rfl) ?_
 refine Jq (q_len tb rfl rfl gvo) ?_
 refine Jq (q_eql rfl rfl) ?_
 refine L_then ?_
 refine C_dec rfl (fun h124 => ?_) (fun h124 => ?_)
 refine C_region ?_
 refine Jq (q_field tb rfl rfl rfl) ?_
 refine Jq (q_load tb rfl rfl bxo rfl) ?_
 refine Jq (by first | exact q_index tb rfl rfl rfl rfl gvo (by omega) (by first | omega | (simp; done) | (simp; omega)) | exact q_indexP tb rfl rfl rfl rfl (by omega) (by omega)) ?_
 refine Jq (q_loadEA tb rfl rfl gvo (i := 0) (o := 0) (by omega) (gas_cell (i := 0) (by omega) (by omega)) rfl rfl) ?_
 refine L_mk (lo_bslice tb rfl rfl rfl (xs := [cGs (gasAt gs 0)]) rfl rfl (by simp [cGs]) rfl (by omega) rfl) rfl rfl rfl fun v129 => ?_
 refine Jq (q_field tb rfl rfl rfl) ?_
 refine L_form (v := v129) gvo (fun Ag2 cg2 hg2 _ => ?_)
 subst hg2
 refine L_st tb rfl rfl ?_
 refine L_then ?_
 refine C_seq ?_
 refine C_region ?_
 refine Jq (q_loadA tb rfl rfl bxo rfl rfl) ?_
 refine L_st tb rfl rfl ?_
 refine L_then ?_
 refine C_ret ?_
 have eG : [cGs (gasAt gs 0)] = (nfG gs ls).map cGs := by rw [nfG_0 (by omega)]; rfl
 exact ret_of (rs' := [sl (.slice Am _ cm) 82 3 ((nfL gs ls).map cDl), sl (.slice Ag2 _ cg2) 80 2 ((nfG gs ls).map cGs)]) (resC tb rfl rfl rfl bxo rfl) (fun w_ h_ => h_.pk (pk_sl rfl (pk_sl eG pk_nil))) (by intro r hr; simp only [List.mem_cons, List.not_mem_nil, or_false] at hr; rcases hr with rfl | rfl <;> exact sl_own _ _ _ _) ⟨Ag2, Am, _, cg2, _, cm, rfl, rfl⟩
 refine C_skip_then ?_
 refine C_seq ?_
 refine C_region ?_
 refine Jq (q_loadA tb rfl rfl bxo rfl rfl) ?_
 refine L_st tb rfl rfl ?_
 refine L_then ?_
 refine C_ret ?_
 have eG : (nfK gs ls ls.length).1.map cGs = (nfG gs ls).map cGs := by rw [nfG_1 (by omega)]
 exact ret_of (rs' := [sl (.slice Am _ cm) 82 3 ((nfL gs ls).map cDl), sl (.slice Ag _ cg) 80 2 ((nfG gs ls).map cGs)]) (resC tb rfl rfl rfl bxo rfl) (fun w_ h_ => h_.pk (pk_sl rfl (pk_sl eG pk_nil))) (by intro r hr; simp only [List.mem_cons, List.not_mem_nil, or_false] at hr; rcases hr with rfl | rfl <;> exact sl_own _ _ _ _) ⟨Ag, Am, _, cg, _, cm, rfl, rfl⟩
end Go.Proofs.Ytdmnejfpbbmcaaa
