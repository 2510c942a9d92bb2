/-
  Walks: each function named returns what its model says. Conditions: those in front of each theorem.
-/
import Derived.Test.YtacndicgpkeobaaGreatDoorTB
import Derived.Test.YtacndicgpkeobaaGreatDoorRd3
namespace Go.Proofs.YtacndicgpkeobaaGreatDoor
open Go.RowKit

set_option maxRecDepth 100000 in
set_option maxHeartbeats 4000000 in
theorem ct_tissue_compartment (l : Tx) (hl : l.length ≤ 1000000) : CtQ KQ Tryz.prog 79 [.string (bs l)] [] (RcP l) := by
 refine CtQ.of (N := 72) Tryz.func79 rfl rfl rfl fun w hQ => ?_
 refine C_weak (E' := [(0, .string (bs l))]) (rs' := []) ⟨rfl, trivial⟩ (fun _ h => h) ?_
 have hbl := lnB_len l
 have hpm := len_map cT (cutF 32 [] (lnB l))
 refine C_seq ?_
 refine C_region ?_
 refine L_alloc tb rfl rfl fun g2 => ?_
 refine Jq (q_assign rfl) ?_
 refine L_then ?_
 refine C_seq ?_
 refine C_region ?_
 refine Jq (q_move rfl) ?_
 refine L_call tb rfl rfl (ct_CutT l hl) no_ps rfl ?_
 refine Jq (q_move rfl) ?_
 refine Jq (q_ext0 rfl) ?_
 refine Jq (q_ext1 rfl) ?_
 refine Jq (q_assign rfl) ?_
 refine Jq (q_assign rfl) ?_
 refine L_then ?_
 refine C_seq ?_
 refine C_region ?_
 refine Jq (q_move rfl) ?_
 refine L_callS tb rfl rfl (ct_strings_Split (lnB l) 32 (by omega)) no_ps rfl fun v18 => ?_
 refine Jq (q_assign rfl) ?_
 refine L_then ?_
 refine C_seq ?_
 refine C_seq ?_
 refine C_region ?_
 refine Jq (q_move rfl) ?_
 refine Jq (q_not rfl (by first | exact (rfl : (!true) = false) | exact (rfl : (!false) = true) | exact decide_not.symm | rfl)) ?_
 refine Jq (q_move rfl) ?_
 refine L_bool (d := 21) rfl (fun h21 => ?_) (fun h21 => ?_)
 iterate 3 refine Jk ?_
 refine Jq (q_pickT rfl rfl) ?_
 refine Jq (q_move rfl) ?_
 iterate 4 refine Jk ?_
 refine Jq (q_pickT rfl rfl) ?_
 refine L_then ?_
 refine C_true rfl ?_
 refine C_seq ?_
 refine C_region ?_
 refine Jq (q_loadA tb rfl rfl bxo rfl rfl) ?_
 refine L_st tb rfl rfl ?_
 refine Jq (q_assign rfl) ?_
 refine L_then ?_
 refine C_ret ?_
 have e9 := rdC_0 (by simpa using h21)
 exact ret_of (rs' := []) (resCT tb rfl rfl rfl rfl bxo rfl) (fun w_ h_ => h_.pk pk_nil) (by intro r hr; cases hr) ⟨⟨0, 0, 0, 0⟩, by rw [e9]; rfl, (fun hh => by rw [e9] at hh; cases hh), rfl⟩
 refine Jg (q_move rfl) ?_
 refine Jg (q_len tb rfl rfl gvo) ?_
 refine Jg (q_neq rfl rfl) ?_
 refine Jq (q_pickF rfl rfl) ?_
 refine Jq (q_move rfl) ?_
 refine L_dec (d := 26) rfl (fun h26 => ?_) (fun h26 => ?_)
 iterate 4 refine Jk ?_
 refine Jq (q_pickT rfl rfl) ?_
 refine L_then ?_
 refine C_true rfl ?_
 refine C_seq ?_
 refine C_region ?_
 refine Jq (q_loadA tb rfl rfl bxo rfl rfl) ?_
 refine L_st tb rfl rfl ?_
 refine Jq (q_assign rfl) ?_
 refine L_then ?_
 refine C_ret ?_
 have e9 := rdC_1 (fun hh => h26 (by rw [hpm, hh]; rfl))
 exact ret_of (rs' := []) (resCT tb rfl rfl rfl rfl bxo rfl) (fun w_ h_ => h_.pk pk_nil) (by intro r hr; cases hr) ⟨⟨0, 0, 0, 0⟩, by rw [e9]; rfl, (fun hh => by rw [e9] at hh; cases hh), rfl⟩
 obtain ⟨a, b, c, d, e, hc⟩ := five3 (show (cutF 32 [] (lnB l)).length = 5 by omega)
 refine Jg (q_move rfl) ?_
 refine Jg (by first | exact q_index tb rfl rfl rfl rfl gvo (by omega) (by first | omega | (simp; done) | (simp; omega)) | exact q_indexP tb rfl rfl rfl rfl (by omega) (by omega)) ?_
 refine Jg (q_loadE tb rfl rfl gvo (i := 0) (o := 0) (by omega) (by rw [hc]; rfl) rfl) ?_
 refine Jg (t_ne (a := a) (b := tTis) rfl rfl) ?_
 refine Jq (q_pickF rfl rfl) ?_
 refine L_then ?_
 refine C_dec rfl (fun h30 => ?_) (fun h30 => ?_)
 refine C_seq ?_
 refine C_region ?_
 refine Jq (q_loadA tb rfl rfl bxo rfl rfl) ?_
 refine L_st tb rfl rfl ?_
 refine Jq (q_assign rfl) ?_
 refine L_then ?_
 refine C_ret ?_
 have e9 := rdC_2 hc h30
 exact ret_of (rs' := []) (resCT tb rfl rfl rfl rfl bxo rfl) (fun w_ h_ => h_.pk pk_nil) (by intro r hr; cases hr) ⟨⟨0, 0, 0, 0⟩, by rw [e9]; rfl, (fun hh => by rw [e9] at hh; cases hh), rfl⟩
 refine C_skip_then ?_
 refine C_seq ?_
 refine C_seq ?_
 refine C_region ?_
 refine Jq (q_field tb rfl rfl rfl) ?_
 refine Jq (q_field tb rfl rfl rfl) ?_
 refine Jq (q_field tb rfl rfl rfl) ?_
 refine Jq (q_field tb rfl rfl rfl) ?_
 refine Jq (by first | exact q_build tb rfl rfl rfl rfl | exact q_buildArr tb rfl rfl rfl rfl rfl) ?_
 refine Jq (q_move rfl) ?_
 refine L_then ?_
 refine C_block ?_
 refine C_res (rs' := [box g2 120 (cCp ⟨0, 0, 0, 0⟩), sl v18 9 1 ((cutF 32 [] (lnB l)).map cT)]) (fun _ h_ => h_.pk (by repeat (first | with_reducible exact pk_nil | refine pk_box rfl ?_ | refine pk_rd rfl ?_ | refine pk_sl rfl ?_ | with_reducible refine pk_app ?_ | with_reducible refine pk_app0 ?_ | with_reducible refine pk_app0L ?_ | with_reducible exact pk_tl | refine pk_var ?_))) ?_
 refine C_loop (ι := Nat × Cp) (fun q9 => ([(2, .pointer (some ⟨g2, 0, none⟩)), (6, v18), (37, .agg #[.pointer (some ⟨g2, 0, none⟩), .pointer (some ⟨g2, 1, none⟩), .pointer (some ⟨g2, 2, none⟩), .pointer (some ⟨g2, 3, none⟩)]), (38, .int .i64 (q9.1 : Int))], [box g2 120 (cCp q9.2), sl v18 9 1 ((cutF 32 [] (lnB l)).map cT)])) (fun q9 => q9.1 ≤ 4 ∧ (0 < q9.1 → numM b 7 = some q9.2.n) ∧ (1 < q9.1 → numM c 7 = some q9.2.h) ∧ (2 < q9.1 → numM d 7 = some q9.2.b) ∧ (3 < q9.1 → numM e 7 = some q9.2.s)) (fun q9 => 4 - q9.1) (0, ⟨0, 0, 0, 0⟩) ⟨Nat.zero_le _, fun h => absurd h (by decide), fun h => absurd h (by decide), fun h => absurd h (by decide), fun h => absurd h (by decide)⟩ (fun a w hs => hs.weak ⟨rfl, rfl, rfl, rfl, trivial⟩ (fun h => h.pk (by repeat (first | with_reducible exact pk_nil | refine pk_box rfl ?_ | refine pk_rd rfl ?_ | refine pk_sl rfl ?_ | with_reducible refine pk_app ?_ | with_reducible refine pk_app0 ?_ | with_reducible refine pk_app0L ?_ | with_reducible exact pk_tl | refine pk_var ?_)))) ?_
 rintro ⟨k, z⟩ ⟨hk, i1, i2, i3, i4⟩
 dsimp only at hk i1 i2 i3 i4 ⊢
 refine C_seq ?_
 refine C_region ?_
 refine Jq (q_lss rfl rfl) ?_
 refine L_then ?_
 refine C_seq ?_
 refine C_dec rfl (fun h6 => ?_) (fun h6 => ?_)
 obtain rfl | rfl | rfl | rfl : k = 0 ∨ k = 1 ∨ k = 2 ∨ k = 3 := by omega
 refine C_skip_then ?_
 refine C_seq ?_
 refine C_block ?_
 refine C_seq ?_
 refine C_region ?_
 refine Jq (q_move rfl) ?_
 refine Jq (q_indexV tb rfl rfl rfl rfl (by omega) (by omega) rfl) ?_
 refine Jq (q_assign rfl) ?_
 refine Jq (q_assign rfl) ?_
 refine L_then ?_
 refine C_seq ?_
 refine C_region ?_
 refine Jq (q_move rfl) ?_
 refine Jq (q_move rfl) ?_
 refine Jq (q_add rfl rfl (by first | exact IntWalk.i64_in _ (by omega) | rfl)) ?_
 refine Jq (by first | exact q_index tb rfl rfl rfl rfl gvo (by omega) (by first | omega | (simp; done) | (simp; omega)) | exact q_indexP tb rfl rfl rfl rfl (by omega) (by omega)) ?_
 refine Jq (q_loadE tb rfl rfl gvo (i := 1) (o := 0) (by omega) (by rw [hc]; rfl) rfl) ?_
 refine Jq (q_assign rfl) ?_
 refine L_then ?_
 refine C_seq ?_
 refine C_region ?_
 refine Jq (q_move rfl) ?_
 refine L_lo rfl rfl rfl (lo_callQ tb stQ hQ rfl rfl (ct_AtoiT b (by have := cutF_le (m := 32) (lnB l) [] b (by rw [hc]; simp); simp at this; omega)) no_ps AzP_sinks) ?_
 rintro _ _ ⟨N49, rfl, rfl⟩
 refine Jq (q_move rfl) ?_
 refine Jq (q_ext0 rfl) ?_
 refine Jq (q_ext1 rfl) ?_
 refine Jq (q_assign rfl) ?_
 refine Jq (q_assign rfl) ?_
 refine L_then ?_
 refine C_seq ?_
 refine C_seq ?_
 refine C_region ?_
 refine Jq (q_move rfl) ?_
 refine Jq (q_errV Tryz.underlying140 rfl) ?_
 refine Jq (q_move rfl) ?_
 refine L_bool (d := 54) rfl (fun h52 => ?_) (fun h52 => ?_)
 iterate 4 refine Jk ?_
 refine Jq (q_pickT rfl rfl) ?_
 refine Jq (q_move rfl) ?_
 iterate 4 refine Jk ?_
 refine Jq (q_pickT rfl rfl) ?_
 refine L_then ?_
 refine C_true rfl ?_
 refine C_seq ?_
 refine C_region ?_
 refine Jq (q_loadA tb rfl rfl bxo rfl rfl) ?_
 refine L_st tb rfl rfl ?_
 refine Jq (q_assign rfl) ?_
 refine L_then ?_
 refine C_ret ?_
 have e9 := rdC_n hc (.inl (az_1 (d := 7) (by decide) h52))
 exact ret_of (rs' := []) (resCT tb rfl rfl rfl rfl bxo rfl) (fun w_ h_ => h_.pk pk_nil) (by intro r hr; cases hr) ⟨z, by rw [e9]; rfl, (fun hh => by rw [e9] at hh; cases hh), rfl⟩
 refine Jg (q_move rfl) ?_
 refine L_log rfl rfl rfl rfl rfl rfl rfl (lo_callQ tb stQ hQ rfl rfl (ct_ItoaQ (azN b) (az_in h52)) no_ps isV_sinks) ?_
 rintro _ _ ⟨rfl, rfl⟩
 refine Jg (q_move rfl) ?_
 refine Jg (t_ne (a := Lib.itoa (azN b)) (b := b) rfl rfl) ?_
 refine Jq (q_pickF rfl rfl) ?_
 refine Jq (q_move rfl) ?_
 refine L_dec (d := 60) rfl (fun h60 => ?_) (fun h60 => ?_)
 iterate 4 refine Jk ?_
 refine Jq (q_pickT rfl rfl) ?_
 refine L_then ?_
 refine C_true rfl ?_
 refine C_seq ?_
 refine C_region ?_
 refine Jq (q_loadA tb rfl rfl bxo rfl rfl) ?_
 refine L_st tb rfl rfl ?_
 refine Jq (q_assign rfl) ?_
 refine L_then ?_
 refine C_ret ?_
 have e9 := rdC_n hc (.inl (az_2 (d := 7) (by decide) h52 h60))
 exact ret_of (rs' := []) (resCT tb rfl rfl rfl rfl bxo rfl) (fun w_ h_ => h_.pk pk_nil) (by intro r hr; cases hr) ⟨z, by rw [e9]; rfl, (fun hh => by rw [e9] at hh; cases hh), rfl⟩
 refine Jg (q_move rfl) ?_
 refine L_callg tb rfl rfl rfl rfl rfl rfl (ct_TrimT b) no_ps rfl ?_
 refine Jg (t_len Tryz.underlying9 rfl) ?_
 refine Jg (q_gtr rfl rfl) ?_
 refine Jq (q_pickF rfl rfl) ?_
 refine L_then ?_
 refine C_dec rfl (fun h70 => ?_) (fun h70 => ?_)
 refine C_seq ?_
 refine C_region ?_
 refine Jq (q_loadA tb rfl rfl bxo rfl rfl) ?_
 refine L_st tb rfl rfl ?_
 refine Jq (q_assign rfl) ?_
 refine L_then ?_
 refine C_ret ?_
 have e9 := rdC_n hc (.inl (az_3 (d := 7) (by decide) h52 (by omega)))
 exact ret_of (rs' := []) (resCT tb rfl rfl rfl rfl bxo rfl) (fun w_ h_ => h_.pk pk_nil) (by intro r hr; cases hr) ⟨z, by rw [e9]; rfl, (fun hh => by rw [e9] at hh; cases hh), rfl⟩
 have hn9 := az_4 (d := 7) (by decide) h52 h60 (by omega)
 refine C_skip_then ?_
 refine C_region ?_
 refine Jq (q_move rfl) ?_
 refine Jq (q_move rfl) ?_
 refine Jq (by first | exact q_nilP rfl | exact q_nilEl rfl gvo (by simp)) ?_
 refine L_st tb rfl rfl ?_
 refine L_blk ?_
 refine C_region ?_
 refine Jq (q_add rfl rfl (by first | exact IntWalk.i64_in _ (by omega) | rfl)) ?_
 refine Jq (q_move rfl) ?_
 refine L_end ?_
 exact fun ac_ wo_ hs_ => ⟨(1, ⟨azN b, z.h, z.b, z.s⟩), ⟨by dsimp only; omega, (fun _ => hn9), (fun h => by dsimp only at h; omega), (fun h => by dsimp only at h; omega), (fun h => by dsimp only at h; omega)⟩, (by dsimp only; omega), hs_.weak ⟨rfl, rfl, rfl, rfl, trivial⟩ (fun h_ => h_.pk (by repeat (first | with_reducible exact pk_nil | refine pk_box rfl ?_ | refine pk_rd rfl ?_ | refine pk_sl rfl ?_ | with_reducible refine pk_app ?_ | with_reducible refine pk_app0 ?_ | with_reducible refine pk_app0L ?_ | with_reducible exact pk_tl | refine pk_var ?_)))⟩
 refine C_skip_then ?_
 refine C_seq ?_
 refine C_block ?_
 refine C_seq ?_
 refine C_region ?_
 refine Jq (q_move rfl) ?_
 refine Jq (q_indexV tb rfl rfl rfl rfl (by omega) (by omega) rfl) ?_
 refine Jq (q_assign rfl) ?_
 refine Jq (q_assign rfl) ?_
 refine L_then ?_
 refine C_seq ?_
 refine C_region ?_
 refine Jq (q_move rfl) ?_
 refine Jq (q_move rfl) ?_
 refine Jq (q_add rfl rfl (by first | exact IntWalk.i64_in _ (by omega) | rfl)) ?_
 refine Jq (by first | exact q_index tb rfl rfl rfl rfl gvo (by omega) (by first | omega | (simp; done) | (simp; omega)) | exact q_indexP tb rfl rfl rfl rfl (by omega) (by omega)) ?_
 refine Jq (q_loadE tb rfl rfl gvo (i := 2) (o := 0) (by omega) (by rw [hc]; rfl) rfl) ?_
 refine Jq (q_assign rfl) ?_
 refine L_then ?_
 refine C_seq ?_
 refine C_region ?_
 refine Jq (q_move rfl) ?_
 refine L_lo rfl rfl rfl (lo_callQ tb stQ hQ rfl rfl (ct_AtoiT c (by have := cutF_le (m := 32) (lnB l) [] c (by rw [hc]; simp); simp at this; omega)) no_ps AzP_sinks) ?_
 rintro _ _ ⟨N49, rfl, rfl⟩
 refine Jq (q_move rfl) ?_
 refine Jq (q_ext0 rfl) ?_
 refine Jq (q_ext1 rfl) ?_
 refine Jq (q_assign rfl) ?_
 refine Jq (q_assign rfl) ?_
 refine L_then ?_
 refine C_seq ?_
 refine C_seq ?_
 refine C_region ?_
 refine Jq (q_move rfl) ?_
 refine Jq (q_errV Tryz.underlying140 rfl) ?_
 refine Jq (q_move rfl) ?_
 refine L_bool (d := 54) rfl (fun h52 => ?_) (fun h52 => ?_)
 iterate 4 refine Jk ?_
 refine Jq (q_pickT rfl rfl) ?_
 refine Jq (q_move rfl) ?_
 iterate 4 refine Jk ?_
 refine Jq (q_pickT rfl rfl) ?_
 refine L_then ?_
 refine C_true rfl ?_
 refine C_seq ?_
 refine C_region ?_
 refine Jq (q_loadA tb rfl rfl bxo rfl rfl) ?_
 refine L_st tb rfl rfl ?_
 refine Jq (q_assign rfl) ?_
 refine L_then ?_
 refine C_ret ?_
 have e9 := rdC_n hc (.inr (.inl (az_1 (d := 7) (by decide) h52)))
 exact ret_of (rs' := []) (resCT tb rfl rfl rfl rfl bxo rfl) (fun w_ h_ => h_.pk pk_nil) (by intro r hr; cases hr) ⟨z, by rw [e9]; rfl, (fun hh => by rw [e9] at hh; cases hh), rfl⟩
 refine Jg (q_move rfl) ?_
 refine L_log rfl rfl rfl rfl rfl rfl rfl (lo_callQ tb stQ hQ rfl rfl (ct_ItoaQ (azN c) (az_in h52)) no_ps isV_sinks) ?_
 rintro _ _ ⟨rfl, rfl⟩
 refine Jg (q_move rfl) ?_
 refine Jg (t_ne (a := Lib.itoa (azN c)) (b := c) rfl rfl) ?_
 refine Jq (q_pickF rfl rfl) ?_
 refine Jq (q_move rfl) ?_
 refine L_dec (d := 60) rfl (fun h60 => ?_) (fun h60 => ?_)
 iterate 4 refine Jk ?_
 refine Jq (q_pickT rfl rfl) ?_
 refine L_then ?_
 refine C_true rfl ?_
 refine C_seq ?_
 refine C_region ?_
 refine Jq (q_loadA tb rfl rfl bxo rfl rfl) ?_
 refine L_st tb rfl rfl ?_
 refine Jq (q_assign rfl) ?_
 refine L_then ?_
 refine C_ret ?_
 have e9 := rdC_n hc (.inr (.inl (az_2 (d := 7) (by decide) h52 h60)))
 exact ret_of (rs' := []) (resCT tb rfl rfl rfl rfl bxo rfl) (fun w_ h_ => h_.pk pk_nil) (by intro r hr; cases hr) ⟨z, by rw [e9]; rfl, (fun hh => by rw [e9] at hh; cases hh), rfl⟩
 refine Jg (q_move rfl) ?_
 refine L_callg tb rfl rfl rfl rfl rfl rfl (ct_TrimT c) no_ps rfl ?_
 refine Jg (t_len Tryz.underlying9 rfl) ?_
 refine Jg (q_gtr rfl rfl) ?_
 refine Jq (q_pickF rfl rfl) ?_
 refine L_then ?_
 refine C_dec rfl (fun h70 => ?_) (fun h70 => ?_)
 refine C_seq ?_
 refine C_region ?_
 refine Jq (q_loadA tb rfl rfl bxo rfl rfl) ?_
 refine L_st tb rfl rfl ?_
 refine Jq (q_assign rfl) ?_
 refine L_then ?_
 refine C_ret ?_
 have e9 := rdC_n hc (.inr (.inl (az_3 (d := 7) (by decide) h52 (by omega))))
 exact ret_of (rs' := []) (resCT tb rfl rfl rfl rfl bxo rfl) (fun w_ h_ => h_.pk pk_nil) (by intro r hr; cases hr) ⟨z, by rw [e9]; rfl, (fun hh => by rw [e9] at hh; cases hh), rfl⟩
 have hn9 := az_4 (d := 7) (by decide) h52 h60 (by omega)
 refine C_skip_then ?_
 refine C_region ?_
 refine Jq (q_move rfl) ?_
 refine Jq (q_move rfl) ?_
 refine Jq (by first | exact q_nilP rfl | exact q_nilEl rfl gvo (by simp)) ?_
 refine L_st tb rfl rfl ?_
 refine L_blk ?_
 refine C_region ?_
 refine Jq (q_add rfl rfl (by first | exact IntWalk.i64_in _ (by omega) | rfl)) ?_
 refine Jq (q_move rfl) ?_
 refine L_end ?_
 exact fun ac_ wo_ hs_ => ⟨(2, ⟨z.n, azN c, z.b, z.s⟩), ⟨by dsimp only; omega, (fun _ => i1 (by omega)), (fun _ => hn9), (fun h => by dsimp only at h; omega), (fun h => by dsimp only at h; omega)⟩, (by dsimp only; omega), hs_.weak ⟨rfl, rfl, rfl, rfl, trivial⟩ (fun h_ => h_.pk (by repeat (first | with_reducible exact pk_nil | refine pk_box rfl ?_ | refine pk_rd rfl ?_ | refine pk_sl rfl ?_ | with_reducible refine pk_app ?_ | with_reducible refine pk_app0 ?_ | with_reducible refine pk_app0L ?_ | with_reducible exact pk_tl | refine pk_var ?_)))⟩
 refine C_skip_then ?_
 refine C_seq ?_
 refine C_block ?_
 refine C_seq ?_
 refine C_region ?_
 refine Jq (q_move rfl) ?_
 refine Jq (q_indexV tb rfl rfl rfl rfl (by omega) (by omega) rfl) ?_
 refine Jq (q_assign rfl) ?_
 refine Jq (q_assign rfl) ?_
 refine L_then ?_
 refine C_seq ?_
 refine C_region ?_
 refine Jq (q_move rfl) ?_
 refine Jq (q_move rfl) ?_
 refine Jq (q_add rfl rfl (by first | exact IntWalk.i64_in _ (by omega) | rfl)) ?_
 refine Jq (by first | exact q_index tb rfl rfl rfl rfl gvo (by omega) (by first | omega | (simp; done) | (simp; omega)) | exact q_indexP tb rfl rfl rfl rfl (by omega) (by omega)) ?_
 refine Jq (q_loadE tb rfl rfl gvo (i := 3) (o := 0) (by omega) (by rw [hc]; rfl) rfl) ?_
 refine Jq (q_assign rfl) ?_
 refine L_then ?_
 refine C_seq ?_
 refine C_region ?_
 refine Jq (q_move rfl) ?_
 refine L_lo rfl rfl rfl (lo_callQ tb stQ hQ rfl rfl (ct_AtoiT d (by have := cutF_le (m := 32) (lnB l) [] d (by rw [hc]; simp); simp at this; omega)) no_ps AzP_sinks) ?_
 rintro _ _ ⟨N49, rfl, rfl⟩
 refine Jq (q_move rfl) ?_
 refine Jq (q_ext0 rfl) ?_
 refine Jq (q_ext1 rfl) ?_
 refine Jq (q_assign rfl) ?_
 refine Jq (q_assign rfl) ?_
 refine L_then ?_
 refine C_seq ?_
 refine C_seq ?_
 refine C_region ?_
 refine Jq (q_move rfl) ?_
 refine Jq (q_errV Tryz.underlying140 rfl) ?_
 refine Jq (q_move rfl) ?_
 refine L_bool (d := 54) rfl (fun h52 => ?_) (fun h52 => ?_)
 iterate 4 refine Jk ?_
 refine Jq (q_pickT rfl rfl) ?_
 refine Jq (q_move rfl) ?_
 iterate 4 refine Jk ?_
 refine Jq (q_pickT rfl rfl) ?_
 refine L_then ?_
 refine C_true rfl ?_
 refine C_seq ?_
 refine C_region ?_
 refine Jq (q_loadA tb rfl rfl bxo rfl rfl) ?_
 refine L_st tb rfl rfl ?_
 refine Jq (q_assign rfl) ?_
 refine L_then ?_
 refine C_ret ?_
 have e9 := rdC_n hc (.inr (.inr (.inl (az_1 (d := 7) (by decide) h52))))
 exact ret_of (rs' := []) (resCT tb rfl rfl rfl rfl bxo rfl) (fun w_ h_ => h_.pk pk_nil) (by intro r hr; cases hr) ⟨z, by rw [e9]; rfl, (fun hh => by rw [e9] at hh; cases hh), rfl⟩
 refine Jg (q_move rfl) ?_
 refine L_log rfl rfl rfl rfl rfl rfl rfl (lo_callQ tb stQ hQ rfl rfl (ct_ItoaQ (azN d) (az_in h52)) no_ps isV_sinks) ?_
 rintro _ _ ⟨rfl, rfl⟩
 refine Jg (q_move rfl) ?_
 refine Jg (t_ne (a := Lib.itoa (azN d)) (b := d) rfl rfl) ?_
 refine Jq (q_pickF rfl rfl) ?_
 refine Jq (q_move rfl) ?_
 refine L_dec (d := 60) rfl (fun h60 => ?_) (fun h60 => ?_)
 iterate 4 refine Jk ?_
 refine Jq (q_pickT rfl rfl) ?_
 refine L_then ?_
 refine C_true rfl ?_
 refine C_seq ?_
 refine C_region ?_
 refine Jq (q_loadA tb rfl rfl bxo rfl rfl) ?_
 refine L_st tb rfl rfl ?_
 refine Jq (q_assign rfl) ?_
 refine L_then ?_
 refine C_ret ?_
 have e9 := rdC_n hc (.inr (.inr (.inl (az_2 (d := 7) (by decide) h52 h60))))
 exact ret_of (rs' := []) (resCT tb rfl rfl rfl rfl bxo rfl) (fun w_ h_ => h_.pk pk_nil) (by intro r hr; cases hr) ⟨z, by rw [e9]; rfl, (fun hh => by rw [e9] at hh; cases hh), rfl⟩
 refine Jg (q_move rfl) ?_
 refine L_callg tb rfl rfl rfl rfl rfl rfl (ct_TrimT d) no_ps rfl ?_
 refine Jg (t_len Tryz.underlying9 rfl) ?_
 refine Jg (q_gtr rfl rfl) ?_
 refine Jq (q_pickF rfl rfl) ?_
 refine L_then ?_
 refine C_dec rfl (fun h70 => ?_) (fun h70 => ?_)
 refine C_seq ?_
 refine C_region ?_
 refine Jq (q_loadA tb rfl rfl bxo rfl rfl) ?_
 refine L_st tb rfl rfl ?_
 refine Jq (q_assign rfl) ?_
 refine L_then ?_
 refine C_ret ?_
 have e9 := rdC_n hc (.inr (.inr (.inl (az_3 (d := 7) (by decide) h52 (by omega)))))
 exact ret_of (rs' := []) (resCT tb rfl rfl rfl rfl bxo rfl) (fun w_ h_ => h_.pk pk_nil) (by intro r hr; cases hr) ⟨z, by rw [e9]; rfl, (fun hh => by rw [e9] at hh; cases hh), rfl⟩
 have hn9 := az_4 (d := 7) (by decide) h52 h60 (by omega)
 refine C_skip_then ?_
 refine C_region ?_
 refine Jq (q_move rfl) ?_
 refine Jq (q_move rfl) ?_
 refine Jq (by first | exact q_nilP rfl | exact q_nilEl rfl gvo (by simp)) ?_
 refine L_st tb rfl rfl ?_
 refine L_blk ?_
 refine C_region ?_
 refine Jq (q_add rfl rfl (by first | exact IntWalk.i64_in _ (by omega) | rfl)) ?_
 refine Jq (q_move rfl) ?_
 refine L_end ?_
 exact fun ac_ wo_ hs_ => ⟨(3, ⟨z.n, z.h, azN d, z.s⟩), ⟨by dsimp only; omega, (fun _ => i1 (by omega)), (fun _ => i2 (by omega)), (fun _ => hn9), (fun h => by dsimp only at h; omega)⟩, (by dsimp only; omega), hs_.weak ⟨rfl, rfl, rfl, rfl, trivial⟩ (fun h_ => h_.pk (by repeat (first | with_reducible exact pk_nil | refine pk_box rfl ?_ | refine pk_rd rfl ?_ | refine pk_sl rfl ?_ | with_reducible refine pk_app ?_ | with_reducible refine pk_app0 ?_ | with_reducible refine pk_app0L ?_ | with_reducible exact pk_tl | refine pk_var ?_)))⟩
 refine C_skip_then ?_
 refine C_seq ?_
 refine C_block ?_
 refine C_seq ?_
 refine C_region ?_
 refine Jq (q_move rfl) ?_
 refine Jq (q_indexV tb rfl rfl rfl rfl (by omega) (by omega) rfl) ?_
 refine Jq (q_assign rfl) ?_
 refine Jq (q_assign rfl) ?_
 refine L_then ?_
 refine C_seq ?_
 refine C_region ?_
 refine Jq (q_move rfl) ?_
 refine Jq (q_move rfl) ?_
 refine Jq (q_add rfl rfl (by first | exact IntWalk.i64_in _ (by omega) | rfl)) ?_
 refine Jq (by first | exact q_index tb rfl rfl rfl rfl gvo (by omega) (by first | omega | (simp; done) | (simp; omega)) | exact q_indexP tb rfl rfl rfl rfl (by omega) (by omega)) ?_
 refine Jq (q_loadE tb rfl rfl gvo (i := 4) (o := 0) (by omega) (by rw [hc]; rfl) rfl) ?_
 refine Jq (q_assign rfl) ?_
 refine L_then ?_
 refine C_seq ?_
 refine C_region ?_
 refine Jq (q_move rfl) ?_
 refine L_lo rfl rfl rfl (lo_callQ tb stQ hQ rfl rfl (ct_AtoiT e (by have := cutF_le (m := 32) (lnB l) [] e (by rw [hc]; simp); simp at this; omega)) no_ps AzP_sinks) ?_
 rintro _ _ ⟨N49, rfl, rfl⟩
 refine Jq (q_move rfl) ?_
 refine Jq (q_ext0 rfl) ?_
 refine Jq (q_ext1 rfl) ?_
 refine Jq (q_assign rfl) ?_
 refine Jq (q_assign rfl) ?_
 refine L_then ?_
 refine C_seq ?_
 refine C_seq ?_
 refine C_region ?_
 refine Jq (q_move rfl) ?_
 refine Jq (q_errV Tryz.underlying140 rfl) ?_
 refine Jq (q_move rfl) ?_
 refine L_bool (d := 54) rfl (fun h52 => ?_) (fun h52 => ?_)
 iterate 4 refine Jk ?_
 refine Jq (q_pickT rfl rfl) ?_
 refine Jq (q_move rfl) ?_
 iterate 4 refine Jk ?_
 refine Jq (q_pickT rfl rfl) ?_
 refine L_then ?_
 refine C_true rfl ?_
 refine C_seq ?_
 refine C_region ?_
 refine Jq (q_loadA tb rfl rfl bxo rfl rfl) ?_
 refine L_st tb rfl rfl ?_
 refine Jq (q_assign rfl) ?_
 refine L_then ?_
 refine C_ret ?_
 have e9 := rdC_n hc (.inr (.inr (.inr (az_1 (d := 7) (by decide) h52))))
 exact ret_of (rs' := []) (resCT tb rfl rfl rfl rfl bxo rfl) (fun w_ h_ => h_.pk pk_nil) (by intro r hr; cases hr) ⟨z, by rw [e9]; rfl, (fun hh => by rw [e9] at hh; cases hh), rfl⟩
 refine Jg (q_move rfl) ?_
 refine L_log rfl rfl rfl rfl rfl rfl rfl (lo_callQ tb stQ hQ rfl rfl (ct_ItoaQ (azN e) (az_in h52)) no_ps isV_sinks) ?_
 rintro _ _ ⟨rfl, rfl⟩
 refine Jg (q_move rfl) ?_
 refine Jg (t_ne (a := Lib.itoa (azN e)) (b := e) rfl rfl) ?_
 refine Jq (q_pickF rfl rfl) ?_
 refine Jq (q_move rfl) ?_
 refine L_dec (d := 60) rfl (fun h60 => ?_) (fun h60 => ?_)
 iterate 4 refine Jk ?_
 refine Jq (q_pickT rfl rfl) ?_
 refine L_then ?_
 refine C_true rfl ?_
 refine C_seq ?_
 refine C_region ?_
 refine Jq (q_loadA tb rfl rfl bxo rfl rfl) ?_
 refine L_st tb rfl rfl ?_
 refine Jq (q_assign rfl) ?_
 refine L_then ?_
 refine C_ret ?_
 have e9 := rdC_n hc (.inr (.inr (.inr (az_2 (d := 7) (by decide) h52 h60))))
 exact ret_of (rs' := []) (resCT tb rfl rfl rfl rfl bxo rfl) (fun w_ h_ => h_.pk pk_nil) (by intro r hr; cases hr) ⟨z, by rw [e9]; rfl, (fun hh => by rw [e9] at hh; cases hh), rfl⟩
 refine Jg (q_move rfl) ?_
 refine L_callg tb rfl rfl rfl rfl rfl rfl (ct_TrimT e) no_ps rfl ?_
 refine Jg (t_len Tryz.underlying9 rfl) ?_
 refine Jg (q_gtr rfl rfl) ?_
 refine Jq (q_pickF rfl rfl) ?_
 refine L_then ?_
 refine C_dec rfl (fun h70 => ?_) (fun h70 => ?_)
 refine C_seq ?_
 refine C_region ?_
 refine Jq (q_loadA tb rfl rfl bxo rfl rfl) ?_
 refine L_st tb rfl rfl ?_
 refine Jq (q_assign rfl) ?_
 refine L_then ?_
 refine C_ret ?_
 have e9 := rdC_n hc (.inr (.inr (.inr (az_3 (d := 7) (by decide) h52 (by omega)))))
 exact ret_of (rs' := []) (resCT tb rfl rfl rfl rfl bxo rfl) (fun w_ h_ => h_.pk pk_nil) (by intro r hr; cases hr) ⟨z, by rw [e9]; rfl, (fun hh => by rw [e9] at hh; cases hh), rfl⟩
 have hn9 := az_4 (d := 7) (by decide) h52 h60 (by omega)
 refine C_skip_then ?_
 refine C_region ?_
 refine Jq (q_move rfl) ?_
 refine Jq (q_move rfl) ?_
 refine Jq (by first | exact q_nilP rfl | exact q_nilEl rfl gvo (by simp)) ?_
 refine L_st tb rfl rfl ?_
 refine L_blk ?_
 refine C_region ?_
 refine Jq (q_add rfl rfl (by first | exact IntWalk.i64_in _ (by omega) | rfl)) ?_
 refine Jq (q_move rfl) ?_
 refine L_end ?_
 exact fun ac_ wo_ hs_ => ⟨(4, ⟨z.n, z.h, z.b, azN e⟩), ⟨by dsimp only; omega, (fun _ => i1 (by omega)), (fun _ => i2 (by omega)), (fun _ => i3 (by omega)), (fun _ => hn9)⟩, (by dsimp only; omega), hs_.weak ⟨rfl, rfl, rfl, rfl, trivial⟩ (fun h_ => h_.pk (by repeat (first | with_reducible exact pk_nil | refine pk_box rfl ?_ | refine pk_rd rfl ?_ | refine pk_sl rfl ?_ | with_reducible refine pk_app ?_ | with_reducible refine pk_app0 ?_ | with_reducible refine pk_app0L ?_ | with_reducible exact pk_tl | refine pk_var ?_)))⟩
 refine C_exit ?_
 change C Tryz.prog _ _ _ _ _ _ _
 refine C_seq ?_
 refine C_region ?_
 refine Jq (q_loadA tb rfl rfl bxo rfl rfl) ?_
 refine L_st tb rfl rfl ?_
 refine Jq (q_assign rfl) ?_
 refine L_then ?_
 refine C_ret ?_
 have e9 := rdC_y (by simpa using h21) hc (Decidable.not_not.1 h30) (i1 (by omega)) (i2 (by omega)) (i3 (by omega)) (i4 (by omega))
 exact ret_of (rs' := []) (resCT tb rfl rfl rfl rfl bxo rfl) (fun w_ h_ => h_.pk pk_nil) (by intro r hr; cases hr) ⟨z, by rw [e9]; rfl, fun _ => e9, rfl⟩
end Go.Proofs.YtacndicgpkeobaaGreatDoor
