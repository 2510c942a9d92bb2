/-
  Walks: each function named returns what its model says. Conditions: those in front of each theorem.
-/
import Derived.Test.YtacndicgpkeobaaGreatDoorUE
import Derived.Test.YtacndicgpkeobaaGreatDoorXC
import Derived.Test.YtacndicgpkeobaaGreatDoorTB
import Derived.Test.YtacndicgpkeobaaGreatDoorShKn
namespace Go.Proofs.YtacndicgpkeobaaGreatDoor
open Go.RowKit

set_option maxRecDepth 100000 in
set_option maxHeartbeats 4000000 in
theorem ct_exposure_Parse (t : Tx) (hl : t.length ≤ 1000000) : CtQ KQ Tryz.prog 34 [.string (bs t)] [] (PuP 175 (pauA t)) := by
 refine CtQ.ofM (N := 59) Tryz.func34 rfl rfl rfl fun w hQ => ?_
 refine C_weak (E' := [(0, .string (bs t))]) (rs' := []) ⟨rfl, trivial⟩ (fun _ h => h) ?_
 have hln := lnsF_len t
 refine C_seq ?_
 refine C_region ?_
 refine L_alloc tb rfl rfl fun g2 => ?_
 refine L_alloc tb rfl rfl fun g3 => ?_
 refine L_alloc tb rfl rfl fun g4 => ?_
 refine L_then ?_
 refine C_seq ?_
 refine C_seq ?_
 refine C_region ?_
 refine Jq (q_move rfl) ?_
 refine Jq (t_len Tryz.underlying9 rfl) ?_
 refine Jq (q_gtr rfl rfl) ?_
 refine L_then ?_
 refine C_dec rfl (fun h1 => ?_) (fun h1 => ?_)
 refine C_seq ?_
 refine C_region ?_
 refine Jq (by first | exact q_build tb rfl rfl rfl rfl | exact q_buildArr tb rfl rfl rfl rfl rfl) ?_
 refine L_st tb rfl rfl ?_
 refine L_st tb rfl rfl ?_
 refine L_st tb rfl rfl ?_
 refine L_then ?_
 refine C_ret ?_
 rw [pauA_8 (show t.length > 60000 by omega)]
 exact ret_of0M (rs' := [sl nilU 175 2 []]) (resACC tb rfl rfl rfl rfl rfl rfl rfl bxo bxo bxo rfl) (fun w_ h_ => ws_nil (sub_nil w_ h_)) own1 ⟨none, 0, 0, rfl, rfl⟩
 refine C_skip_then ?_
 refine C_seq ?_
 refine C_region ?_
 refine L_alloc tb rfl rfl fun g5 => ?_
 refine L_then ?_
 refine C_seq ?_
 refine C_region ?_
 refine L_lo rfl rfl rfl (lo_call tb rfl rfl (ct_exposure_lines g5) no_ps LnP_sinks) ?_
 rintro _ _ ⟨A11, A19, A24, A35, A37, c11, c19, c24, c35, c37, rfl, rfl⟩
 refine L_alloc tb rfl rfl fun g6 => ?_
 refine L_st tb rfl rfl ?_
 refine L_then ?_
 refine C_seq ?_
 refine C_region ?_
 refine L_alloc tb rfl rfl fun g7 => ?_
 refine L_st tb rfl rfl ?_
 refine L_then ?_
 refine C_seq ?_
 refine C_seq ?_
 refine C_region ?_
 refine Jq (q_move rfl) ?_
 refine L_lo rfl rfl rfl (lo_call tb rfl rfl (ct_strings_Lines t) no_ps (by rintro y rs ⟨g, _, rfl⟩ r hr; rw [List.mem_singleton.1 hr]; exact box_sinks _ _ _)) ?_
 rintro _ _ ⟨g18, rfl, rfl⟩
 refine L_then ?_
 refine C_block ?_
 refine C_nil 175 2 ?_
 refine C_range2 (FinL (fun (τ : Nat) (RC : List Res) => ∃ (r : Ru) (A9 : Option Addr) (c9 : Nat), pauG (lnsF t) 0 zRu = pauG ((lnsF t).drop τ) τ r ∧ r.tb.length ≤ τ ∧ RC = [box g5 65 (cRu (.slice A9 (r.tb.map cOw).length c9) r), box g6 168 [.slice A37 4 c37], box g7 3 [.int .i64 (τ : Int)], sl (.slice A9 (r.tb.map cOw).length c9) 175 2 (r.tb.map cOw), sl (.slice A37 4 c37) 173 2 [[.string (bs tOxy), (.slice A11 2 c11)], [.string (bs tLim), (.slice A19 2 c19)], [.string (bs tBre), (.slice A24 1 c24)], [.string (bs tEme), (.slice A35 3 c35)]], sl (.slice A11 2 c11) 225 1 ([1, 2].map (cP g5)), sl (.slice A19 2 c19) 225 1 ([3, 4].map (cP g5)), sl (.slice A24 1 c24) 225 1 ([5].map (cP g5)), sl (.slice A35 3 c35) 225 1 ([6, 7, 8].map (cP g5)), box g2 65 (cRu nilU zRu), box g3 3 [.int .i64 0], box g4 34 [.int .i64 0]]) (fun (σ : Nat) (RC : List Res) => pauG (lnsF t) 0 zRu = (zRu, (σ : Int) + 1, 7) ∧ RC = [box g2 65 (cRu nilU zRu), box g3 3 [.int .i64 ((σ : Int) + 1)], box g4 34 [.int .i64 7]]) (goU (lnsF t)) (lnsF t).length) rfl (tb.en_ok _ (lkT_mem (rfl : lkT tb.en 138 = some ()))) (fun l D fn tm hts hE => ?_) ?_ ?_
 refine it_linesR _ _ l D _ (fun (τ : Nat) (RC : List Res) => ∃ (r : Ru) (A9 : Option Addr) (c9 : Nat), pauG (lnsF t) 0 zRu = pauG ((lnsF t).drop τ) τ r ∧ r.tb.length ≤ τ ∧ RC = [box g5 65 (cRu (.slice A9 (r.tb.map cOw).length c9) r), box g6 168 [.slice A37 4 c37], box g7 3 [.int .i64 (τ : Int)], sl (.slice A9 (r.tb.map cOw).length c9) 175 2 (r.tb.map cOw), sl (.slice A37 4 c37) 173 2 [[.string (bs tOxy), (.slice A11 2 c11)], [.string (bs tLim), (.slice A19 2 c19)], [.string (bs tBre), (.slice A24 1 c24)], [.string (bs tEme), (.slice A35 3 c35)]], sl (.slice A11 2 c11) 225 1 ([1, 2].map (cP g5)), sl (.slice A19 2 c19) 225 1 ([3, 4].map (cP g5)), sl (.slice A24 1 c24) 225 1 ([5].map (cP g5)), sl (.slice A35 3 c35) 225 1 ([6, 7, 8].map (cP g5)), box g2 65 (cRu nilU zRu), box g3 3 [.int .i64 0], box g4 34 [.int .i64 0]]) (fun (σ : Nat) (RC : List Res) => pauG (lnsF t) 0 zRu = (zRu, (σ : Int) + 1, 7) ∧ RC = [box g2 65 (cRu nilU zRu), box g3 3 [.int .i64 ((σ : Int) + 1)], box g4 34 [.int .i64 7]]) (goU (lnsF t)) t g18 hl rfl ?hR [box g5 65 (cRu nilU zRu), box g6 168 [.slice A37 4 c37], box g7 3 [.int .i64 0], sl nilU 175 2 [], sl (.slice A37 4 c37) 173 2 [[.string (bs tOxy), (.slice A11 2 c11)], [.string (bs tLim), (.slice A19 2 c19)], [.string (bs tBre), (.slice A24 1 c24)], [.string (bs tEme), (.slice A35 3 c35)]], sl (.slice A11 2 c11) 225 1 ([1, 2].map (cP g5)), sl (.slice A19 2 c19) 225 1 ([3, 4].map (cP g5)), sl (.slice A24 1 c24) 225 1 ([5].map (cP g5)), sl (.slice A35 3 c35) 225 1 ([6, 7, 8].map (cP g5)), box g2 65 (cRu nilU zRu), box g3 3 [.int .i64 0], box g4 34 [.int .i64 0]] ⟨zRu, none, 0, rfl, Nat.zero_le _, rfl⟩ _ (fun w_ h_ => h_.pk (by repeat (first | with_reducible exact pk_nil | refine pk_box rfl ?_ | refine pk_rd rfl ?_ | refine pk_sl rfl ?_ | with_reducible refine pk_app ?_ | with_reducible refine pk_app0 ?_ | with_reducible refine pk_app0L ?_ | with_reducible exact pk_tl | refine pk_var ?_)))
 intro τ p hp hgo
 rintro _ ⟨r, A9, c9, hG, hrl, rfl⟩
 have hτ := (List.getElem?_eq_some_iff.1 hp).1
 have hl4 := len_map cOw r.tb
 refine Rnd3.of hts rfl hE (fun own => ?_)
 dsimp only [List.nil_append, List.cons_append]
 refine C_region ?_
 refine Jq (q_assign rfl) ?_
 refine L_end ?_
 refine beginRh fun LP hLP => ?_
 refine C_block ?_
 refine C_seq ?_
 refine C_region ?_
 refine Jq (q_assign rfl) ?_
 refine L_then ?_
 refine C_seq ?_
 refine C_seq ?_
 refine C_region ?_
 refine Jq (q_load tb rfl rfl bxo rfl) ?_
 refine Jq (q_load tb rfl rfl bxo rfl) ?_
 refine Jq (q_len tb rfl rfl gvo) ?_
 refine Jq (q_lss rfl rfl) ?_
 refine L_then ?_
 refine C_dec rfl (fun h23 => ?_) (fun h23 => ?_)
 obtain rfl | rfl | rfl | rfl : τ = 0 ∨ τ = 1 ∨ τ = 2 ∨ τ = 3 := by simp only [List.length_cons, List.length_nil] at h23; omega
 refine C_region ?_
 refine Jq (q_load tb rfl rfl bxo rfl) ?_
 refine Jq (q_load tb rfl rfl bxo rfl) ?_
 refine Jq (by first | exact q_index tb rfl rfl rfl rfl gvo (by omega) (by first | omega | (simp; done) | (simp; omega)) | exact q_indexP tb rfl rfl rfl rfl (by omega) (by omega)) ?_
 refine Jq (q_loadEA tb rfl rfl gvo (i := 0) (o := 0) (by omega) rfl rfl rfl) ?_
 refine Jq (q_move rfl) ?_
 refine L_res (rs' := box g5 65 (cRu (.slice A9 (r.tb.map cOw).length c9) r) :: sl (.slice A11 2 c11) 225 1 ([1, 2].map (cP g5)) :: box g6 168 [.slice A37 4 c37] :: box g7 3 [.int .i64 ((0 : Nat) : Int)] :: sl (.slice A9 (r.tb.map cOw).length c9) 175 2 (r.tb.map cOw) :: sl (.slice A37 4 c37) 173 2 [[.string (bs tOxy), (.slice A11 2 c11)], [.string (bs tLim), (.slice A19 2 c19)], [.string (bs tBre), (.slice A24 1 c24)], [.string (bs tEme), (.slice A35 3 c35)]] :: sl (.slice A19 2 c19) 225 1 ([3, 4].map (cP g5)) :: sl (.slice A24 1 c24) 225 1 ([5].map (cP g5)) :: sl (.slice A35 3 c35) 225 1 ([6, 7, 8].map (cP g5)) :: box g2 65 (cRu nilU zRu) :: box g3 3 [.int .i64 0] :: box g4 34 [.int .i64 0] :: LP :: own) (fun _ h_ => h_.pk (by repeat (first | with_reducible exact pk_nil | refine pk_box rfl ?_ | refine pk_rd rfl ?_ | refine pk_sl rfl ?_ | with_reducible refine pk_app ?_ | with_reducible refine pk_app0 ?_ | with_reducible refine pk_app0L ?_ | with_reducible exact pk_tl | refine pk_var ?_))) ?_
 refine L_callI tb (post := RxP g5 65 225 A11 2 c11 (cRu (.slice A9 (r.tb.map cOw).length c9) r) [1, 2] tOxy p (box g6 168 [.slice A37 4 c37] :: box g7 3 [.int .i64 ((0 : Nat) : Int)] :: sl (.slice A9 (r.tb.map cOw).length c9) 175 2 (r.tb.map cOw) :: sl (.slice A37 4 c37) 173 2 [[.string (bs tOxy), (.slice A11 2 c11)], [.string (bs tLim), (.slice A19 2 c19)], [.string (bs tBre), (.slice A24 1 c24)], [.string (bs tEme), (.slice A35 3 c35)]] :: sl (.slice A19 2 c19) 225 1 ([3, 4].map (cP g5)) :: sl (.slice A24 1 c24) 225 1 ([5].map (cP g5)) :: sl (.slice A35 3 c35) 225 1 ([6, 7, 8].map (cP g5)) :: box g2 65 (cRu nilU zRu) :: box g3 3 [.int .i64 0] :: box g4 34 [.int .i64 0] :: LP :: own)) rfl rfl rfl (ct_line_read w hQ g5 65 A11 2 c11 (cRu (.slice A9 (r.tb.map cOw).length c9) r) tOxy [1, 2] p (box g6 168 [.slice A37 4 c37] :: box g7 3 [.int .i64 ((0 : Nat) : Int)] :: sl (.slice A9 (r.tb.map cOw).length c9) 175 2 (r.tb.map cOw) :: sl (.slice A37 4 c37) 173 2 [[.string (bs tOxy), (.slice A11 2 c11)], [.string (bs tLim), (.slice A19 2 c19)], [.string (bs tBre), (.slice A24 1 c24)], [.string (bs tEme), (.slice A35 3 c35)]] :: sl (.slice A19 2 c19) 225 1 ([3, 4].map (cP g5)) :: sl (.slice A24 1 c24) 225 1 ([5].map (cP g5)) :: sl (.slice A35 3 c35) 225 1 ([6, 7, 8].map (cP g5)) :: box g2 65 (cRu nilU zRu) :: box g3 3 [.int .i64 0] :: box g4 34 [.int .i64 0] :: LP :: own) (by have := lnsF_le hp; omega) (by decide) (by intro o ho; simp only [List.mem_cons, List.not_mem_nil, or_false] at ho; show o + 1 ≤ 9; omega)) (fun y9 rs9 hy9 => ?_)
 obtain ⟨ns, rfl, hx9, hln9, rfl⟩ := hy9
 refine Jq (q_assign rfl) ?_
 refine L_then ?_
 refine C_seq ?_
 refine C_region ?_
 refine Jq (q_load tb rfl rfl bxo rfl) ?_
 refine Jq (q_add (e := ((0 : Nat) : Int) + 1) rfl rfl (wr (by omega) (by omega))) ?_
 refine L_st tb rfl rfl ?_
 refine L_then ?_
 refine C_seq ?_
 refine C_region ?_
 refine Jq (q_move rfl) ?_
 refine Jq (q_not rfl (by first | exact (rfl : (!true) = false) | exact (rfl : (!false) = true) | exact decide_not.symm | rfl)) ?_
 refine L_then ?_
 refine C_bool rfl (fun h42 => ?_) (fun h42 => ?_)
 have h43 : (rdU (hdW 0) (hdN 0) p).isSome = false := (show (rdU tOxy 2 p).isSome = false by simpa using h42)
 have hb : goU (lnsF t) 0 = false := (goU_at hp).trans h43
 refine C_seq ?_
 refine C_res (rs' := (box g2 65 (cRu nilU zRu) :: box g3 3 [.int .i64 0] :: box g4 34 [.int .i64 0] :: box g7 3 [.int .i64 (((0 : Nat) : Int) + 1)] :: LP :: own)) (fun _ h => h.pk (by repeat (first | with_reducible exact pk_nil | refine pk_box rfl ?_ | refine pk_rd rfl ?_ | refine pk_sl rfl ?_ | with_reducible refine pk_app ?_ | with_reducible refine pk_app0 ?_ | with_reducible refine pk_app0L ?_ | with_reducible exact pk_tl | refine pk_var ?_))) ?_
 refine Kp.C_own3 [.q 0, .q 1, .s 2, .s 3, .s 4] mixed (by kernel_rfl) rfl (by kernel_rfl) ?_
 refine Kp.X_q rfl rfl rfl rfl (by first | exact q_build tb rfl rfl rfl rfl | exact q_buildArr tb rfl rfl rfl rfl rfl) ?_
 refine Kp.X_q rfl rfl rfl rfl (q_load tb rfl rfl bxo rfl) ?_
 first | refine Kp.X_store tb rfl rfl (List.Perm.refl _) rfl rfl rfl rfl rfl rfl rfl rfl ?_ | refine Kp.X_store tb rfl rfl perm1 rfl rfl rfl rfl rfl rfl rfl rfl ?_ | refine Kp.X_store tb rfl rfl (perm_front (pre := [_, _])) rfl rfl rfl rfl rfl rfl rfl rfl ?_ | refine Kp.X_store tb rfl rfl (perm_front (pre := [_, _, _])) rfl rfl rfl rfl rfl rfl rfl rfl ?_
 first | refine Kp.X_store tb rfl rfl (List.Perm.refl _) rfl rfl rfl rfl rfl rfl rfl rfl ?_ | refine Kp.X_store tb rfl rfl perm1 rfl rfl rfl rfl rfl rfl rfl rfl ?_ | refine Kp.X_store tb rfl rfl (perm_front (pre := [_, _])) rfl rfl rfl rfl rfl rfl rfl rfl ?_ | refine Kp.X_store tb rfl rfl (perm_front (pre := [_, _, _])) rfl rfl rfl rfl rfl rfl rfl rfl ?_
 first | refine Kp.X_store tb rfl rfl (List.Perm.refl _) rfl rfl rfl rfl rfl rfl rfl rfl ?_ | refine Kp.X_store tb rfl rfl perm1 rfl rfl rfl rfl rfl rfl rfl rfl ?_ | refine Kp.X_store tb rfl rfl (perm_front (pre := [_, _])) rfl rfl rfl rfl rfl rfl rfl rfl ?_ | refine Kp.X_store tb rfl rfl (perm_front (pre := [_, _, _])) rfl rfl rfl rfl rfl rfl rfl rfl ?_
 refine Kp.X_nil ?_
 try dsimp only [List.cons_append, List.nil_append]
 refine L_then ?_
 refine C_ret ?_
 subst hLP
 exact stopR3 hb [box g2 65 (cRu nilU zRu), box g3 3 [.int .i64 (((0 : Nat) : Int) + 1)], box g4 34 [.int .i64 7]] (by rw [if_neg (by rw [hb]; decide)]; exact ⟨hG.trans (by rw [lnu_get hp]; exact pauG_e h43), rfl⟩) (fun w_ h_ => h_.pk (by repeat (first | with_reducible exact pk_nil | refine pk_box rfl ?_ | refine pk_rd rfl ?_ | refine pk_sl rfl ?_ | with_reducible refine pk_app ?_ | with_reducible refine pk_app0 ?_ | with_reducible refine pk_app0L ?_ | with_reducible exact pk_tl | refine pk_var ?_)))
 obtain ⟨ns9, hns⟩ := isS_get (o := rdU tOxy 2 p) (by simpa using h42)
 obtain rfl := hx9 ns9 hns
 have hnl := rdU_len hns
 have hb : goU (lnsF t) 0 = true := (goU_at hp).trans (by rw [show rdU (hdW 0) (hdN 0) p = some ns from hns]; rfl)
 have e5 := put_ok (A := (.slice A9 (r.tb.map cOw).length c9)) (r := r) (i := 0) (by decide) hnl
 rw [show putK (cRu (.slice A9 (r.tb.map cOw).length c9) r) ([1, 2].take ns.length) ns = cRu (.slice A9 (r.tb.map cOw).length c9) (upR 0 ns r) from e5]
 refine C_skip ?_
 subst hLP
 exact endR3 hb [box g5 65 (cRu (.slice A9 (r.tb.map cOw).length c9) (upR 0 ns r)), box g6 168 [.slice A37 4 c37], box g7 3 [.int .i64 (((0 + 1 : Nat) : Nat) : Int)], sl (.slice A9 (r.tb.map cOw).length c9) 175 2 (r.tb.map cOw), sl (.slice A37 4 c37) 173 2 [[.string (bs tOxy), (.slice A11 2 c11)], [.string (bs tLim), (.slice A19 2 c19)], [.string (bs tBre), (.slice A24 1 c24)], [.string (bs tEme), (.slice A35 3 c35)]], sl (.slice A11 2 c11) 225 1 ([1, 2].map (cP g5)), sl (.slice A19 2 c19) 225 1 ([3, 4].map (cP g5)), sl (.slice A24 1 c24) 225 1 ([5].map (cP g5)), sl (.slice A35 3 c35) 225 1 ([6, 7, 8].map (cP g5)), box g2 65 (cRu nilU zRu), box g3 3 [.int .i64 0], box g4 34 [.int .i64 0]] (by rw [if_pos hb]; exact ⟨upR 0 ns r, A9, c9, hG.trans (by rw [lnu_get hp, pauG_s (show rdU (hdW 0) (hdN 0) p = some ns from hns)]), Nat.le_trans hrl (Nat.le_succ _), rfl⟩) (fun w_ h_ => h_.pk (by repeat (first | with_reducible exact pk_nil | refine pk_box rfl ?_ | refine pk_rd rfl ?_ | refine pk_sl rfl ?_ | with_reducible refine pk_app ?_ | with_reducible refine pk_app0 ?_ | with_reducible refine pk_app0L ?_ | with_reducible exact pk_tl | refine pk_var ?_)))
 refine C_region ?_
 refine Jq (q_load tb rfl rfl bxo rfl) ?_
 refine Jq (q_load tb rfl rfl bxo rfl) ?_
 refine Jq (by first | exact q_index tb rfl rfl rfl rfl gvo (by omega) (by first | omega | (simp; done) | (simp; omega)) | exact q_indexP tb rfl rfl rfl rfl (by omega) (by omega)) ?_
 refine Jq (q_loadEA tb rfl rfl gvo (i := 1) (o := 0) (by omega) rfl rfl rfl) ?_
 refine Jq (q_move rfl) ?_
 refine L_res (rs' := box g5 65 (cRu (.slice A9 (r.tb.map cOw).length c9) r) :: sl (.slice A19 2 c19) 225 1 ([3, 4].map (cP g5)) :: box g6 168 [.slice A37 4 c37] :: box g7 3 [.int .i64 ((1 : Nat) : Int)] :: sl (.slice A9 (r.tb.map cOw).length c9) 175 2 (r.tb.map cOw) :: sl (.slice A37 4 c37) 173 2 [[.string (bs tOxy), (.slice A11 2 c11)], [.string (bs tLim), (.slice A19 2 c19)], [.string (bs tBre), (.slice A24 1 c24)], [.string (bs tEme), (.slice A35 3 c35)]] :: sl (.slice A11 2 c11) 225 1 ([1, 2].map (cP g5)) :: sl (.slice A24 1 c24) 225 1 ([5].map (cP g5)) :: sl (.slice A35 3 c35) 225 1 ([6, 7, 8].map (cP g5)) :: box g2 65 (cRu nilU zRu) :: box g3 3 [.int .i64 0] :: box g4 34 [.int .i64 0] :: LP :: own) (fun _ h_ => h_.pk (by repeat (first | with_reducible exact pk_nil | refine pk_box rfl ?_ | refine pk_rd rfl ?_ | refine pk_sl rfl ?_ | with_reducible refine pk_app ?_ | with_reducible refine pk_app0 ?_ | with_reducible refine pk_app0L ?_ | with_reducible exact pk_tl | refine pk_var ?_))) ?_
 refine L_callI tb (post := RxP g5 65 225 A19 2 c19 (cRu (.slice A9 (r.tb.map cOw).length c9) r) [3, 4] tLim p (box g6 168 [.slice A37 4 c37] :: box g7 3 [.int .i64 ((1 : Nat) : Int)] :: sl (.slice A9 (r.tb.map cOw).length c9) 175 2 (r.tb.map cOw) :: sl (.slice A37 4 c37) 173 2 [[.string (bs tOxy), (.slice A11 2 c11)], [.string (bs tLim), (.slice A19 2 c19)], [.string (bs tBre), (.slice A24 1 c24)], [.string (bs tEme), (.slice A35 3 c35)]] :: sl (.slice A11 2 c11) 225 1 ([1, 2].map (cP g5)) :: sl (.slice A24 1 c24) 225 1 ([5].map (cP g5)) :: sl (.slice A35 3 c35) 225 1 ([6, 7, 8].map (cP g5)) :: box g2 65 (cRu nilU zRu) :: box g3 3 [.int .i64 0] :: box g4 34 [.int .i64 0] :: LP :: own)) rfl rfl rfl (ct_line_read w hQ g5 65 A19 2 c19 (cRu (.slice A9 (r.tb.map cOw).length c9) r) tLim [3, 4] p (box g6 168 [.slice A37 4 c37] :: box g7 3 [.int .i64 ((1 : Nat) : Int)] :: sl (.slice A9 (r.tb.map cOw).length c9) 175 2 (r.tb.map cOw) :: sl (.slice A37 4 c37) 173 2 [[.string (bs tOxy), (.slice A11 2 c11)], [.string (bs tLim), (.slice A19 2 c19)], [.string (bs tBre), (.slice A24 1 c24)], [.string (bs tEme), (.slice A35 3 c35)]] :: sl (.slice A11 2 c11) 225 1 ([1, 2].map (cP g5)) :: sl (.slice A24 1 c24) 225 1 ([5].map (cP g5)) :: sl (.slice A35 3 c35) 225 1 ([6, 7, 8].map (cP g5)) :: box g2 65 (cRu nilU zRu) :: box g3 3 [.int .i64 0] :: box g4 34 [.int .i64 0] :: LP :: own) (by have := lnsF_le hp; omega) (by decide) (by intro o ho; simp only [List.mem_cons, List.not_mem_nil, or_false] at ho; show o + 1 ≤ 9; omega)) (fun y9 rs9 hy9 => ?_)
 obtain ⟨ns, rfl, hx9, hln9, rfl⟩ := hy9
 refine Jq (q_assign rfl) ?_
 refine L_then ?_
 refine C_seq ?_
 refine C_region ?_
 refine Jq (q_load tb rfl rfl bxo rfl) ?_
 refine Jq (q_add (e := ((1 : Nat) : Int) + 1) rfl rfl (wr (by omega) (by omega))) ?_
 refine L_st tb rfl rfl ?_
 refine L_then ?_
 refine C_seq ?_
 refine C_region ?_
 refine Jq (q_move rfl) ?_
 refine Jq (q_not rfl (by first | exact (rfl : (!true) = false) | exact (rfl : (!false) = true) | exact decide_not.symm | rfl)) ?_
 refine L_then ?_
 refine C_bool rfl (fun h42 => ?_) (fun h42 => ?_)
 have h43 : (rdU (hdW 1) (hdN 1) p).isSome = false := (show (rdU tLim 2 p).isSome = false by simpa using h42)
 have hb : goU (lnsF t) 1 = false := (goU_at hp).trans h43
 refine C_seq ?_
 refine C_res (rs' := (box g2 65 (cRu nilU zRu) :: box g3 3 [.int .i64 0] :: box g4 34 [.int .i64 0] :: box g7 3 [.int .i64 (((1 : Nat) : Int) + 1)] :: LP :: own)) (fun _ h => h.pk (by repeat (first | with_reducible exact pk_nil | refine pk_box rfl ?_ | refine pk_rd rfl ?_ | refine pk_sl rfl ?_ | with_reducible refine pk_app ?_ | with_reducible refine pk_app0 ?_ | with_reducible refine pk_app0L ?_ | with_reducible exact pk_tl | refine pk_var ?_))) ?_
 refine Kp.C_own3 [.q 0, .q 1, .s 2, .s 3, .s 4] mixed (by kernel_rfl) rfl (by kernel_rfl) ?_
 refine Kp.X_q rfl rfl rfl rfl (by first | exact q_build tb rfl rfl rfl rfl | exact q_buildArr tb rfl rfl rfl rfl rfl) ?_
 refine Kp.X_q rfl rfl rfl rfl (q_load tb rfl rfl bxo rfl) ?_
 first | refine Kp.X_store tb rfl rfl (List.Perm.refl _) rfl rfl rfl rfl rfl rfl rfl rfl ?_ | refine Kp.X_store tb rfl rfl perm1 rfl rfl rfl rfl rfl rfl rfl rfl ?_ | refine Kp.X_store tb rfl rfl (perm_front (pre := [_, _])) rfl rfl rfl rfl rfl rfl rfl rfl ?_ | refine Kp.X_store tb rfl rfl (perm_front (pre := [_, _, _])) rfl rfl rfl rfl rfl rfl rfl rfl ?_
 first | refine Kp.X_store tb rfl rfl (List.Perm.refl _) rfl rfl rfl rfl rfl rfl rfl rfl ?_ | refine Kp.X_store tb rfl rfl perm1 rfl rfl rfl rfl rfl rfl rfl rfl ?_ | refine Kp.X_store tb rfl rfl (perm_front (pre := [_, _])) rfl rfl rfl rfl rfl rfl rfl rfl ?_ | refine Kp.X_store tb rfl rfl (perm_front (pre := [_, _, _])) rfl rfl rfl rfl rfl rfl rfl rfl ?_
 first | refine Kp.X_store tb rfl rfl (List.Perm.refl _) rfl rfl rfl rfl rfl rfl rfl rfl ?_ | refine Kp.X_store tb rfl rfl perm1 rfl rfl rfl rfl rfl rfl rfl rfl ?_ | refine Kp.X_store tb rfl rfl (perm_front (pre := [_, _])) rfl rfl rfl rfl rfl rfl rfl rfl ?_ | refine Kp.X_store tb rfl rfl (perm_front (pre := [_, _, _])) rfl rfl rfl rfl rfl rfl rfl rfl ?_
 refine Kp.X_nil ?_
 try dsimp only [List.cons_append, List.nil_append]
 refine L_then ?_
 refine C_ret ?_
 subst hLP
 exact stopR3 hb [box g2 65 (cRu nilU zRu), box g3 3 [.int .i64 (((1 : Nat) : Int) + 1)], box g4 34 [.int .i64 7]] (by rw [if_neg (by rw [hb]; decide)]; exact ⟨hG.trans (by rw [lnu_get hp]; exact pauG_e h43), rfl⟩) (fun w_ h_ => h_.pk (by repeat (first | with_reducible exact pk_nil | refine pk_box rfl ?_ | refine pk_rd rfl ?_ | refine pk_sl rfl ?_ | with_reducible refine pk_app ?_ | with_reducible refine pk_app0 ?_ | with_reducible refine pk_app0L ?_ | with_reducible exact pk_tl | refine pk_var ?_)))
 obtain ⟨ns9, hns⟩ := isS_get (o := rdU tLim 2 p) (by simpa using h42)
 obtain rfl := hx9 ns9 hns
 have hnl := rdU_len hns
 have hb : goU (lnsF t) 1 = true := (goU_at hp).trans (by rw [show rdU (hdW 1) (hdN 1) p = some ns from hns]; rfl)
 have e5 := put_ok (A := (.slice A9 (r.tb.map cOw).length c9)) (r := r) (i := 1) (by decide) hnl
 rw [show putK (cRu (.slice A9 (r.tb.map cOw).length c9) r) ([3, 4].take ns.length) ns = cRu (.slice A9 (r.tb.map cOw).length c9) (upR 1 ns r) from e5]
 refine C_skip ?_
 subst hLP
 exact endR3 hb [box g5 65 (cRu (.slice A9 (r.tb.map cOw).length c9) (upR 1 ns r)), box g6 168 [.slice A37 4 c37], box g7 3 [.int .i64 (((1 + 1 : Nat) : Nat) : Int)], sl (.slice A9 (r.tb.map cOw).length c9) 175 2 (r.tb.map cOw), sl (.slice A37 4 c37) 173 2 [[.string (bs tOxy), (.slice A11 2 c11)], [.string (bs tLim), (.slice A19 2 c19)], [.string (bs tBre), (.slice A24 1 c24)], [.string (bs tEme), (.slice A35 3 c35)]], sl (.slice A11 2 c11) 225 1 ([1, 2].map (cP g5)), sl (.slice A19 2 c19) 225 1 ([3, 4].map (cP g5)), sl (.slice A24 1 c24) 225 1 ([5].map (cP g5)), sl (.slice A35 3 c35) 225 1 ([6, 7, 8].map (cP g5)), box g2 65 (cRu nilU zRu), box g3 3 [.int .i64 0], box g4 34 [.int .i64 0]] (by rw [if_pos hb]; exact ⟨upR 1 ns r, A9, c9, hG.trans (by rw [lnu_get hp, pauG_s (show rdU (hdW 1) (hdN 1) p = some ns from hns)]), Nat.le_trans hrl (Nat.le_succ _), rfl⟩) (fun w_ h_ => h_.pk (by repeat (first | with_reducible exact pk_nil | refine pk_box rfl ?_ | refine pk_rd rfl ?_ | refine pk_sl rfl ?_ | with_reducible refine pk_app ?_ | with_reducible refine pk_app0 ?_ | with_reducible refine pk_app0L ?_ | with_reducible exact pk_tl | refine pk_var ?_)))
 refine C_region ?_
 refine Jq (q_load tb rfl rfl bxo rfl) ?_
 refine Jq (q_load tb rfl rfl bxo rfl) ?_
 refine Jq (by first | exact q_index tb rfl rfl rfl rfl gvo (by omega) (by first | omega | (simp; done) | (simp; omega)) | exact q_indexP tb rfl rfl rfl rfl (by omega) (by omega)) ?_
 refine Jq (q_loadEA tb rfl rfl gvo (i := 2) (o := 0) (by omega) rfl rfl rfl) ?_
 refine Jq (q_move rfl) ?_
 refine L_res (rs' := box g5 65 (cRu (.slice A9 (r.tb.map cOw).length c9) r) :: sl (.slice A24 1 c24) 225 1 ([5].map (cP g5)) :: box g6 168 [.slice A37 4 c37] :: box g7 3 [.int .i64 ((2 : Nat) : Int)] :: sl (.slice A9 (r.tb.map cOw).length c9) 175 2 (r.tb.map cOw) :: sl (.slice A37 4 c37) 173 2 [[.string (bs tOxy), (.slice A11 2 c11)], [.string (bs tLim), (.slice A19 2 c19)], [.string (bs tBre), (.slice A24 1 c24)], [.string (bs tEme), (.slice A35 3 c35)]] :: sl (.slice A11 2 c11) 225 1 ([1, 2].map (cP g5)) :: sl (.slice A19 2 c19) 225 1 ([3, 4].map (cP g5)) :: sl (.slice A35 3 c35) 225 1 ([6, 7, 8].map (cP g5)) :: box g2 65 (cRu nilU zRu) :: box g3 3 [.int .i64 0] :: box g4 34 [.int .i64 0] :: LP :: own) (fun _ h_ => h_.pk (by repeat (first | with_reducible exact pk_nil | refine pk_box rfl ?_ | refine pk_rd rfl ?_ | refine pk_sl rfl ?_ | with_reducible refine pk_app ?_ | with_reducible refine pk_app0 ?_ | with_reducible refine pk_app0L ?_ | with_reducible exact pk_tl | refine pk_var ?_))) ?_
 refine L_callI tb (post := RxP g5 65 225 A24 1 c24 (cRu (.slice A9 (r.tb.map cOw).length c9) r) [5] tBre p (box g6 168 [.slice A37 4 c37] :: box g7 3 [.int .i64 ((2 : Nat) : Int)] :: sl (.slice A9 (r.tb.map cOw).length c9) 175 2 (r.tb.map cOw) :: sl (.slice A37 4 c37) 173 2 [[.string (bs tOxy), (.slice A11 2 c11)], [.string (bs tLim), (.slice A19 2 c19)], [.string (bs tBre), (.slice A24 1 c24)], [.string (bs tEme), (.slice A35 3 c35)]] :: sl (.slice A11 2 c11) 225 1 ([1, 2].map (cP g5)) :: sl (.slice A19 2 c19) 225 1 ([3, 4].map (cP g5)) :: sl (.slice A35 3 c35) 225 1 ([6, 7, 8].map (cP g5)) :: box g2 65 (cRu nilU zRu) :: box g3 3 [.int .i64 0] :: box g4 34 [.int .i64 0] :: LP :: own)) rfl rfl rfl (ct_line_read w hQ g5 65 A24 1 c24 (cRu (.slice A9 (r.tb.map cOw).length c9) r) tBre [5] p (box g6 168 [.slice A37 4 c37] :: box g7 3 [.int .i64 ((2 : Nat) : Int)] :: sl (.slice A9 (r.tb.map cOw).length c9) 175 2 (r.tb.map cOw) :: sl (.slice A37 4 c37) 173 2 [[.string (bs tOxy), (.slice A11 2 c11)], [.string (bs tLim), (.slice A19 2 c19)], [.string (bs tBre), (.slice A24 1 c24)], [.string (bs tEme), (.slice A35 3 c35)]] :: sl (.slice A11 2 c11) 225 1 ([1, 2].map (cP g5)) :: sl (.slice A19 2 c19) 225 1 ([3, 4].map (cP g5)) :: sl (.slice A35 3 c35) 225 1 ([6, 7, 8].map (cP g5)) :: box g2 65 (cRu nilU zRu) :: box g3 3 [.int .i64 0] :: box g4 34 [.int .i64 0] :: LP :: own) (by have := lnsF_le hp; omega) (by decide) (by intro o ho; simp only [List.mem_cons, List.not_mem_nil, or_false] at ho; show o + 1 ≤ 9; omega)) (fun y9 rs9 hy9 => ?_)
 obtain ⟨ns, rfl, hx9, hln9, rfl⟩ := hy9
 refine Jq (q_assign rfl) ?_
 refine L_then ?_
 refine C_seq ?_
 refine C_region ?_
 refine Jq (q_load tb rfl rfl bxo rfl) ?_
 refine Jq (q_add (e := ((2 : Nat) : Int) + 1) rfl rfl (wr (by omega) (by omega))) ?_
 refine L_st tb rfl rfl ?_
 refine L_then ?_
 refine C_seq ?_
 refine C_region ?_
 refine Jq (q_move rfl) ?_
 refine Jq (q_not rfl (by first | exact (rfl : (!true) = false) | exact (rfl : (!false) = true) | exact decide_not.symm | rfl)) ?_
 refine L_then ?_
 refine C_bool rfl (fun h42 => ?_) (fun h42 => ?_)
 have h43 : (rdU (hdW 2) (hdN 2) p).isSome = false := (show (rdU tBre 1 p).isSome = false by simpa using h42)
 have hb : goU (lnsF t) 2 = false := (goU_at hp).trans h43
 refine C_seq ?_
 refine C_res (rs' := (box g2 65 (cRu nilU zRu) :: box g3 3 [.int .i64 0] :: box g4 34 [.int .i64 0] :: box g7 3 [.int .i64 (((2 : Nat) : Int) + 1)] :: LP :: own)) (fun _ h => h.pk (by repeat (first | with_reducible exact pk_nil | refine pk_box rfl ?_ | refine pk_rd rfl ?_ | refine pk_sl rfl ?_ | with_reducible refine pk_app ?_ | with_reducible refine pk_app0 ?_ | with_reducible refine pk_app0L ?_ | with_reducible exact pk_tl | refine pk_var ?_))) ?_
 refine Kp.C_own3 [.q 0, .q 1, .s 2, .s 3, .s 4] mixed (by kernel_rfl) rfl (by kernel_rfl) ?_
 refine Kp.X_q rfl rfl rfl rfl (by first | exact q_build tb rfl rfl rfl rfl | exact q_buildArr tb rfl rfl rfl rfl rfl) ?_
 refine Kp.X_q rfl rfl rfl rfl (q_load tb rfl rfl bxo rfl) ?_
 first | refine Kp.X_store tb rfl rfl (List.Perm.refl _) rfl rfl rfl rfl rfl rfl rfl rfl ?_ | refine Kp.X_store tb rfl rfl perm1 rfl rfl rfl rfl rfl rfl rfl rfl ?_ | refine Kp.X_store tb rfl rfl (perm_front (pre := [_, _])) rfl rfl rfl rfl rfl rfl rfl rfl ?_ | refine Kp.X_store tb rfl rfl (perm_front (pre := [_, _, _])) rfl rfl rfl rfl rfl rfl rfl rfl ?_
 first | refine Kp.X_store tb rfl rfl (List.Perm.refl _) rfl rfl rfl rfl rfl rfl rfl rfl ?_ | refine Kp.X_store tb rfl rfl perm1 rfl rfl rfl rfl rfl rfl rfl rfl ?_ | refine Kp.X_store tb rfl rfl (perm_front (pre := [_, _])) rfl rfl rfl rfl rfl rfl rfl rfl ?_ | refine Kp.X_store tb rfl rfl (perm_front (pre := [_, _, _])) rfl rfl rfl rfl rfl rfl rfl rfl ?_
 first | refine Kp.X_store tb rfl rfl (List.Perm.refl _) rfl rfl rfl rfl rfl rfl rfl rfl ?_ | refine Kp.X_store tb rfl rfl perm1 rfl rfl rfl rfl rfl rfl rfl rfl ?_ | refine Kp.X_store tb rfl rfl (perm_front (pre := [_, _])) rfl rfl rfl rfl rfl rfl rfl rfl ?_ | refine Kp.X_store tb rfl rfl (perm_front (pre := [_, _, _])) rfl rfl rfl rfl rfl rfl rfl rfl ?_
 refine Kp.X_nil ?_
 try dsimp only [List.cons_append, List.nil_append]
 refine L_then ?_
 refine C_ret ?_
 subst hLP
 exact stopR3 hb [box g2 65 (cRu nilU zRu), box g3 3 [.int .i64 (((2 : Nat) : Int) + 1)], box g4 34 [.int .i64 7]] (by rw [if_neg (by rw [hb]; decide)]; exact ⟨hG.trans (by rw [lnu_get hp]; exact pauG_e h43), rfl⟩) (fun w_ h_ => h_.pk (by repeat (first | with_reducible exact pk_nil | refine pk_box rfl ?_ | refine pk_rd rfl ?_ | refine pk_sl rfl ?_ | with_reducible refine pk_app ?_ | with_reducible refine pk_app0 ?_ | with_reducible refine pk_app0L ?_ | with_reducible exact pk_tl | refine pk_var ?_)))
 obtain ⟨ns9, hns⟩ := isS_get (o := rdU tBre 1 p) (by simpa using h42)
 obtain rfl := hx9 ns9 hns
 have hnl := rdU_len hns
 have hb : goU (lnsF t) 2 = true := (goU_at hp).trans (by rw [show rdU (hdW 2) (hdN 2) p = some ns from hns]; rfl)
 have e5 := put_ok (A := (.slice A9 (r.tb.map cOw).length c9)) (r := r) (i := 2) (by decide) hnl
 rw [show putK (cRu (.slice A9 (r.tb.map cOw).length c9) r) ([5].take ns.length) ns = cRu (.slice A9 (r.tb.map cOw).length c9) (upR 2 ns r) from e5]
 refine C_skip ?_
 subst hLP
 exact endR3 hb [box g5 65 (cRu (.slice A9 (r.tb.map cOw).length c9) (upR 2 ns r)), box g6 168 [.slice A37 4 c37], box g7 3 [.int .i64 (((2 + 1 : Nat) : Nat) : Int)], sl (.slice A9 (r.tb.map cOw).length c9) 175 2 (r.tb.map cOw), sl (.slice A37 4 c37) 173 2 [[.string (bs tOxy), (.slice A11 2 c11)], [.string (bs tLim), (.slice A19 2 c19)], [.string (bs tBre), (.slice A24 1 c24)], [.string (bs tEme), (.slice A35 3 c35)]], sl (.slice A11 2 c11) 225 1 ([1, 2].map (cP g5)), sl (.slice A19 2 c19) 225 1 ([3, 4].map (cP g5)), sl (.slice A24 1 c24) 225 1 ([5].map (cP g5)), sl (.slice A35 3 c35) 225 1 ([6, 7, 8].map (cP g5)), box g2 65 (cRu nilU zRu), box g3 3 [.int .i64 0], box g4 34 [.int .i64 0]] (by rw [if_pos hb]; exact ⟨upR 2 ns r, A9, c9, hG.trans (by rw [lnu_get hp, pauG_s (show rdU (hdW 2) (hdN 2) p = some ns from hns)]), Nat.le_trans hrl (Nat.le_succ _), rfl⟩) (fun w_ h_ => h_.pk (by repeat (first | with_reducible exact pk_nil | refine pk_box rfl ?_ | refine pk_rd rfl ?_ | refine pk_sl rfl ?_ | with_reducible refine pk_app ?_ | with_reducible refine pk_app0 ?_ | with_reducible refine pk_app0L ?_ | with_reducible exact pk_tl | refine pk_var ?_)))
 refine C_region ?_
 refine Jq (q_load tb rfl rfl bxo rfl) ?_
 refine Jq (q_load tb rfl rfl bxo rfl) ?_
 refine Jq (by first | exact q_index tb rfl rfl rfl rfl gvo (by omega) (by first | omega | (simp; done) | (simp; omega)) | exact q_indexP tb rfl rfl rfl rfl (by omega) (by omega)) ?_
 refine Jq (q_loadEA tb rfl rfl gvo (i := 3) (o := 0) (by omega) rfl rfl rfl) ?_
 refine Jq (q_move rfl) ?_
 refine L_res (rs' := box g5 65 (cRu (.slice A9 (r.tb.map cOw).length c9) r) :: sl (.slice A35 3 c35) 225 1 ([6, 7, 8].map (cP g5)) :: box g6 168 [.slice A37 4 c37] :: box g7 3 [.int .i64 ((3 : Nat) : Int)] :: sl (.slice A9 (r.tb.map cOw).length c9) 175 2 (r.tb.map cOw) :: sl (.slice A37 4 c37) 173 2 [[.string (bs tOxy), (.slice A11 2 c11)], [.string (bs tLim), (.slice A19 2 c19)], [.string (bs tBre), (.slice A24 1 c24)], [.string (bs tEme), (.slice A35 3 c35)]] :: sl (.slice A11 2 c11) 225 1 ([1, 2].map (cP g5)) :: sl (.slice A19 2 c19) 225 1 ([3, 4].map (cP g5)) :: sl (.slice A24 1 c24) 225 1 ([5].map (cP g5)) :: box g2 65 (cRu nilU zRu) :: box g3 3 [.int .i64 0] :: box g4 34 [.int .i64 0] :: LP :: own) (fun _ h_ => h_.pk (by repeat (first | with_reducible exact pk_nil | refine pk_box rfl ?_ | refine pk_rd rfl ?_ | refine pk_sl rfl ?_ | with_reducible refine pk_app ?_ | with_reducible refine pk_app0 ?_ | with_reducible refine pk_app0L ?_ | with_reducible exact pk_tl | refine pk_var ?_))) ?_
 refine L_callI tb (post := RxP g5 65 225 A35 3 c35 (cRu (.slice A9 (r.tb.map cOw).length c9) r) [6, 7, 8] tEme p (box g6 168 [.slice A37 4 c37] :: box g7 3 [.int .i64 ((3 : Nat) : Int)] :: sl (.slice A9 (r.tb.map cOw).length c9) 175 2 (r.tb.map cOw) :: sl (.slice A37 4 c37) 173 2 [[.string (bs tOxy), (.slice A11 2 c11)], [.string (bs tLim), (.slice A19 2 c19)], [.string (bs tBre), (.slice A24 1 c24)], [.string (bs tEme), (.slice A35 3 c35)]] :: sl (.slice A11 2 c11) 225 1 ([1, 2].map (cP g5)) :: sl (.slice A19 2 c19) 225 1 ([3, 4].map (cP g5)) :: sl (.slice A24 1 c24) 225 1 ([5].map (cP g5)) :: box g2 65 (cRu nilU zRu) :: box g3 3 [.int .i64 0] :: box g4 34 [.int .i64 0] :: LP :: own)) rfl rfl rfl (ct_line_read w hQ g5 65 A35 3 c35 (cRu (.slice A9 (r.tb.map cOw).length c9) r) tEme [6, 7, 8] p (box g6 168 [.slice A37 4 c37] :: box g7 3 [.int .i64 ((3 : Nat) : Int)] :: sl (.slice A9 (r.tb.map cOw).length c9) 175 2 (r.tb.map cOw) :: sl (.slice A37 4 c37) 173 2 [[.string (bs tOxy), (.slice A11 2 c11)], [.string (bs tLim), (.slice A19 2 c19)], [.string (bs tBre), (.slice A24 1 c24)], [.string (bs tEme), (.slice A35 3 c35)]] :: sl (.slice A11 2 c11) 225 1 ([1, 2].map (cP g5)) :: sl (.slice A19 2 c19) 225 1 ([3, 4].map (cP g5)) :: sl (.slice A24 1 c24) 225 1 ([5].map (cP g5)) :: box g2 65 (cRu nilU zRu) :: box g3 3 [.int .i64 0] :: box g4 34 [.int .i64 0] :: LP :: own) (by have := lnsF_le hp; omega) (by decide) (by intro o ho; simp only [List.mem_cons, List.not_mem_nil, or_false] at ho; show o + 1 ≤ 9; omega)) (fun y9 rs9 hy9 => ?_)
 obtain ⟨ns, rfl, hx9, hln9, rfl⟩ := hy9
 refine Jq (q_assign rfl) ?_
 refine L_then ?_
 refine C_seq ?_
 refine C_region ?_
 refine Jq (q_load tb rfl rfl bxo rfl) ?_
 refine Jq (q_add (e := ((3 : Nat) : Int) + 1) rfl rfl (wr (by omega) (by omega))) ?_
 refine L_st tb rfl rfl ?_
 refine L_then ?_
 refine C_seq ?_
 refine C_region ?_
 refine Jq (q_move rfl) ?_
 refine Jq (q_not rfl (by first | exact (rfl : (!true) = false) | exact (rfl : (!false) = true) | exact decide_not.symm | rfl)) ?_
 refine L_then ?_
 refine C_bool rfl (fun h42 => ?_) (fun h42 => ?_)
 have h43 : (rdU (hdW 3) (hdN 3) p).isSome = false := (show (rdU tEme 3 p).isSome = false by simpa using h42)
 have hb : goU (lnsF t) 3 = false := (goU_at hp).trans h43
 refine C_seq ?_
 refine C_res (rs' := (box g2 65 (cRu nilU zRu) :: box g3 3 [.int .i64 0] :: box g4 34 [.int .i64 0] :: box g7 3 [.int .i64 (((3 : Nat) : Int) + 1)] :: LP :: own)) (fun _ h => h.pk (by repeat (first | with_reducible exact pk_nil | refine pk_box rfl ?_ | refine pk_rd rfl ?_ | refine pk_sl rfl ?_ | with_reducible refine pk_app ?_ | with_reducible refine pk_app0 ?_ | with_reducible refine pk_app0L ?_ | with_reducible exact pk_tl | refine pk_var ?_))) ?_
 refine Kp.C_own3 [.q 0, .q 1, .s 2, .s 3, .s 4] mixed (by kernel_rfl) rfl (by kernel_rfl) ?_
 refine Kp.X_q rfl rfl rfl rfl (by first | exact q_build tb rfl rfl rfl rfl | exact q_buildArr tb rfl rfl rfl rfl rfl) ?_
 refine Kp.X_q rfl rfl rfl rfl (q_load tb rfl rfl bxo rfl) ?_
 first | refine Kp.X_store tb rfl rfl (List.Perm.refl _) rfl rfl rfl rfl rfl rfl rfl rfl ?_ | refine Kp.X_store tb rfl rfl perm1 rfl rfl rfl rfl rfl rfl rfl rfl ?_ | refine Kp.X_store tb rfl rfl (perm_front (pre := [_, _])) rfl rfl rfl rfl rfl rfl rfl rfl ?_ | refine Kp.X_store tb rfl rfl (perm_front (pre := [_, _, _])) rfl rfl rfl rfl rfl rfl rfl rfl ?_
 first | refine Kp.X_store tb rfl rfl (List.Perm.refl _) rfl rfl rfl rfl rfl rfl rfl rfl ?_ | refine Kp.X_store tb rfl rfl perm1 rfl rfl rfl rfl rfl rfl rfl rfl ?_ | refine Kp.X_store tb rfl rfl (perm_front (pre := [_, _])) rfl rfl rfl rfl rfl rfl rfl rfl ?_ | refine Kp.X_store tb rfl rfl (perm_front (pre := [_, _, _])) rfl rfl rfl rfl rfl rfl rfl rfl ?_
 first | refine Kp.X_store tb rfl rfl (List.Perm.refl _) rfl rfl rfl rfl rfl rfl rfl rfl ?_ | refine Kp.X_store tb rfl rfl perm1 rfl rfl rfl rfl rfl rfl rfl rfl ?_ | refine Kp.X_store tb rfl rfl (perm_front (pre := [_, _])) rfl rfl rfl rfl rfl rfl rfl rfl ?_ | refine Kp.X_store tb rfl rfl (perm_front (pre := [_, _, _])) rfl rfl rfl rfl rfl rfl rfl rfl ?_
 refine Kp.X_nil ?_
 try dsimp only [List.cons_append, List.nil_append]
 refine L_then ?_
 refine C_ret ?_
 subst hLP
 exact stopR3 hb [box g2 65 (cRu nilU zRu), box g3 3 [.int .i64 (((3 : Nat) : Int) + 1)], box g4 34 [.int .i64 7]] (by rw [if_neg (by rw [hb]; decide)]; exact ⟨hG.trans (by rw [lnu_get hp]; exact pauG_e h43), rfl⟩) (fun w_ h_ => h_.pk (by repeat (first | with_reducible exact pk_nil | refine pk_box rfl ?_ | refine pk_rd rfl ?_ | refine pk_sl rfl ?_ | with_reducible refine pk_app ?_ | with_reducible refine pk_app0 ?_ | with_reducible refine pk_app0L ?_ | with_reducible exact pk_tl | refine pk_var ?_)))
 obtain ⟨ns9, hns⟩ := isS_get (o := rdU tEme 3 p) (by simpa using h42)
 obtain rfl := hx9 ns9 hns
 have hnl := rdU_len hns
 have hb : goU (lnsF t) 3 = true := (goU_at hp).trans (by rw [show rdU (hdW 3) (hdN 3) p = some ns from hns]; rfl)
 have e5 := put_ok (A := (.slice A9 (r.tb.map cOw).length c9)) (r := r) (i := 3) (by decide) hnl
 rw [show putK (cRu (.slice A9 (r.tb.map cOw).length c9) r) ([6, 7, 8].take ns.length) ns = cRu (.slice A9 (r.tb.map cOw).length c9) (upR 3 ns r) from e5]
 refine C_skip ?_
 subst hLP
 exact endR3 hb [box g5 65 (cRu (.slice A9 (r.tb.map cOw).length c9) (upR 3 ns r)), box g6 168 [.slice A37 4 c37], box g7 3 [.int .i64 (((3 + 1 : Nat) : Nat) : Int)], sl (.slice A9 (r.tb.map cOw).length c9) 175 2 (r.tb.map cOw), sl (.slice A37 4 c37) 173 2 [[.string (bs tOxy), (.slice A11 2 c11)], [.string (bs tLim), (.slice A19 2 c19)], [.string (bs tBre), (.slice A24 1 c24)], [.string (bs tEme), (.slice A35 3 c35)]], sl (.slice A11 2 c11) 225 1 ([1, 2].map (cP g5)), sl (.slice A19 2 c19) 225 1 ([3, 4].map (cP g5)), sl (.slice A24 1 c24) 225 1 ([5].map (cP g5)), sl (.slice A35 3 c35) 225 1 ([6, 7, 8].map (cP g5)), box g2 65 (cRu nilU zRu), box g3 3 [.int .i64 0], box g4 34 [.int .i64 0]] (by rw [if_pos hb]; exact ⟨upR 3 ns r, A9, c9, hG.trans (by rw [lnu_get hp, pauG_s (show rdU (hdW 3) (hdN 3) p = some ns from hns)]), Nat.le_trans hrl (Nat.le_succ _), rfl⟩) (fun w_ h_ => h_.pk (by repeat (first | with_reducible exact pk_nil | refine pk_box rfl ?_ | refine pk_rd rfl ?_ | refine pk_sl rfl ?_ | with_reducible refine pk_app ?_ | with_reducible refine pk_app0 ?_ | with_reducible refine pk_app0L ?_ | with_reducible exact pk_tl | refine pk_var ?_)))
 have h24 : 4 ≤ τ := by simp only [List.length_cons, List.length_nil] at h23; omega
 refine C_seq ?_
 refine C_region ?_
 refine L_alloc tb rfl rfl fun g10 => ?_
 refine L_then ?_
 refine C_seq ?_
 refine C_region ?_
 refine L_lo rfl rfl rfl (lo_call tb rfl rfl (ct_exposure_row g10) no_ps RwP_sinks) ?_
 rintro _ _ ⟨A30, c30, rfl, rfl⟩
 refine Jq (q_move rfl) ?_
 refine L_res (rs' := box g10 175 [.int .i64 0, .int .i64 0] :: sl (.slice A30 2 c30) 225 1 ([0, 1].map (cP g10)) :: box g5 65 (cRu (.slice A9 (r.tb.map cOw).length c9) r) :: box g6 168 [.slice A37 4 c37] :: box g7 3 [.int .i64 (τ : Int)] :: sl (.slice A9 (r.tb.map cOw).length c9) 175 2 (r.tb.map cOw) :: sl (.slice A37 4 c37) 173 2 [[.string (bs tOxy), (.slice A11 2 c11)], [.string (bs tLim), (.slice A19 2 c19)], [.string (bs tBre), (.slice A24 1 c24)], [.string (bs tEme), (.slice A35 3 c35)]] :: sl (.slice A11 2 c11) 225 1 ([1, 2].map (cP g5)) :: sl (.slice A19 2 c19) 225 1 ([3, 4].map (cP g5)) :: sl (.slice A24 1 c24) 225 1 ([5].map (cP g5)) :: sl (.slice A35 3 c35) 225 1 ([6, 7, 8].map (cP g5)) :: box g2 65 (cRu nilU zRu) :: box g3 3 [.int .i64 0] :: box g4 34 [.int .i64 0] :: LP :: own) (fun _ h_ => h_.pk (by repeat (first | with_reducible exact pk_nil | refine pk_box rfl ?_ | refine pk_rd rfl ?_ | refine pk_sl rfl ?_ | with_reducible refine pk_app ?_ | with_reducible refine pk_app0 ?_ | with_reducible refine pk_app0L ?_ | with_reducible exact pk_tl | refine pk_var ?_))) ?_
 refine L_callI tb (post := RxP g10 175 225 A30 2 c30 [.int .i64 0, .int .i64 0] [0, 1] tRow p (box g5 65 (cRu (.slice A9 (r.tb.map cOw).length c9) r) :: box g6 168 [.slice A37 4 c37] :: box g7 3 [.int .i64 (τ : Int)] :: sl (.slice A9 (r.tb.map cOw).length c9) 175 2 (r.tb.map cOw) :: sl (.slice A37 4 c37) 173 2 [[.string (bs tOxy), (.slice A11 2 c11)], [.string (bs tLim), (.slice A19 2 c19)], [.string (bs tBre), (.slice A24 1 c24)], [.string (bs tEme), (.slice A35 3 c35)]] :: sl (.slice A11 2 c11) 225 1 ([1, 2].map (cP g5)) :: sl (.slice A19 2 c19) 225 1 ([3, 4].map (cP g5)) :: sl (.slice A24 1 c24) 225 1 ([5].map (cP g5)) :: sl (.slice A35 3 c35) 225 1 ([6, 7, 8].map (cP g5)) :: box g2 65 (cRu nilU zRu) :: box g3 3 [.int .i64 0] :: box g4 34 [.int .i64 0] :: LP :: own)) rfl rfl rfl (ct_line_read w hQ g10 175 A30 2 c30 [.int .i64 0, .int .i64 0] tRow [0, 1] p (box g5 65 (cRu (.slice A9 (r.tb.map cOw).length c9) r) :: box g6 168 [.slice A37 4 c37] :: box g7 3 [.int .i64 (τ : Int)] :: sl (.slice A9 (r.tb.map cOw).length c9) 175 2 (r.tb.map cOw) :: sl (.slice A37 4 c37) 173 2 [[.string (bs tOxy), (.slice A11 2 c11)], [.string (bs tLim), (.slice A19 2 c19)], [.string (bs tBre), (.slice A24 1 c24)], [.string (bs tEme), (.slice A35 3 c35)]] :: sl (.slice A11 2 c11) 225 1 ([1, 2].map (cP g5)) :: sl (.slice A19 2 c19) 225 1 ([3, 4].map (cP g5)) :: sl (.slice A24 1 c24) 225 1 ([5].map (cP g5)) :: sl (.slice A35 3 c35) 225 1 ([6, 7, 8].map (cP g5)) :: box g2 65 (cRu nilU zRu) :: box g3 3 [.int .i64 0] :: box g4 34 [.int .i64 0] :: LP :: own) (by have := lnsF_le hp; omega) (by decide) (by intro o ho; simp only [List.mem_cons, List.not_mem_nil, or_false] at ho; show o + 1 ≤ 2; omega)) (fun y9 rs9 hy9 => ?_)
 obtain ⟨ns, rfl, hx9, hln9, rfl⟩ := hy9
 obtain ⟨y, hy, hyy⟩ := put_row hln9
 rw [hy]
 refine Jq (q_assign rfl) ?_
 refine L_then ?_
 refine C_region ?_
 refine Jq (q_field tb rfl rfl rfl) ?_
 refine Jq (q_load tb rfl rfl bxo rfl) ?_
 refine Jq (q_loadA tb rfl rfl bxo rfl rfl) ?_
 refine L_mk (lo_bslice tb rfl rfl rfl (xs := [cOw y]) rfl rfl (by simp [cOw]) rfl (by omega) rfl) rfl rfl rfl fun v36 => ?_
 refine L_ap tb rfl rfl rfl rfl gvo (by simp [Value.oneCell', cOw]) (by simp [maxLen]; omega) (by simp; omega) fun v37 => ?_
 refine Jq (q_field tb rfl rfl rfl) ?_
 rw [ow_snoc]
 refine L_form (v := v37) gvo (fun A40 c40 hv40 _ => ?_)
 subst hv40
 refine L_st tb rfl rfl ?_
 refine L_then ?_
 refine C_seq ?_
 refine C_region ?_
 refine Jq (q_load tb rfl rfl bxo rfl) ?_
 refine Jq (q_add (e := (τ : Int) + 1) rfl rfl (wr (by omega) (by omega))) ?_
 refine L_st tb rfl rfl ?_
 refine L_then ?_
 refine C_seq ?_
 refine C_region ?_
 refine Jq (q_move rfl) ?_
 refine Jq (q_not rfl (by first | exact (rfl : (!true) = false) | exact (rfl : (!false) = true) | exact decide_not.symm | rfl)) ?_
 refine L_then ?_
 refine C_bool rfl (fun h42 => ?_) (fun h42 => ?_)
 have h43 : (rdU (hdW τ) (hdN τ) p).isSome = false := by rw [hdW_4 (by omega), hdN_4 (by omega)]; simpa using h42
 have hb : goU (lnsF t) τ = false := (goU_at hp).trans h43
 refine C_seq ?_
 refine C_res (rs' := (box g2 65 (cRu nilU zRu) :: box g3 3 [.int .i64 0] :: box g4 34 [.int .i64 0] :: box g7 3 [.int .i64 ((τ : Int) + 1)] :: LP :: own)) (fun _ h => h.pk (by repeat (first | with_reducible exact pk_nil | refine pk_box rfl ?_ | refine pk_rd rfl ?_ | refine pk_sl rfl ?_ | with_reducible refine pk_app ?_ | with_reducible refine pk_app0 ?_ | with_reducible refine pk_app0L ?_ | with_reducible exact pk_tl | refine pk_var ?_))) ?_
 refine Kp.C_own3 [.q 0, .q 1, .s 2, .s 3, .s 4] mixed (by kernel_rfl) rfl (by kernel_rfl) ?_
 refine Kp.X_q rfl rfl rfl rfl (by first | exact q_build tb rfl rfl rfl rfl | exact q_buildArr tb rfl rfl rfl rfl rfl) ?_
 refine Kp.X_q rfl rfl rfl rfl (q_load tb rfl rfl bxo rfl) ?_
 first | refine Kp.X_store tb rfl rfl (List.Perm.refl _) rfl rfl rfl rfl rfl rfl rfl rfl ?_ | refine Kp.X_store tb rfl rfl perm1 rfl rfl rfl rfl rfl rfl rfl rfl ?_ | refine Kp.X_store tb rfl rfl (perm_front (pre := [_, _])) rfl rfl rfl rfl rfl rfl rfl rfl ?_ | refine Kp.X_store tb rfl rfl (perm_front (pre := [_, _, _])) rfl rfl rfl rfl rfl rfl rfl rfl ?_
 first | refine Kp.X_store tb rfl rfl (List.Perm.refl _) rfl rfl rfl rfl rfl rfl rfl rfl ?_ | refine Kp.X_store tb rfl rfl perm1 rfl rfl rfl rfl rfl rfl rfl rfl ?_ | refine Kp.X_store tb rfl rfl (perm_front (pre := [_, _])) rfl rfl rfl rfl rfl rfl rfl rfl ?_ | refine Kp.X_store tb rfl rfl (perm_front (pre := [_, _, _])) rfl rfl rfl rfl rfl rfl rfl rfl ?_
 first | refine Kp.X_store tb rfl rfl (List.Perm.refl _) rfl rfl rfl rfl rfl rfl rfl rfl ?_ | refine Kp.X_store tb rfl rfl perm1 rfl rfl rfl rfl rfl rfl rfl rfl ?_ | refine Kp.X_store tb rfl rfl (perm_front (pre := [_, _])) rfl rfl rfl rfl rfl rfl rfl rfl ?_ | refine Kp.X_store tb rfl rfl (perm_front (pre := [_, _, _])) rfl rfl rfl rfl rfl rfl rfl rfl ?_
 refine Kp.X_nil ?_
 try dsimp only [List.cons_append, List.nil_append]
 refine L_then ?_
 refine C_ret ?_
 subst hLP
 exact stopR3 hb [box g2 65 (cRu nilU zRu), box g3 3 [.int .i64 ((τ : Int) + 1)], box g4 34 [.int .i64 7]] (by rw [if_neg (by rw [hb]; decide)]; exact ⟨hG.trans (by rw [lnu_get hp]; exact pauG_e h43), rfl⟩) (fun w_ h_ => h_.pk (by repeat (first | with_reducible exact pk_nil | refine pk_box rfl ?_ | refine pk_rd rfl ?_ | refine pk_sl rfl ?_ | with_reducible refine pk_app ?_ | with_reducible refine pk_app0 ?_ | with_reducible refine pk_app0L ?_ | with_reducible exact pk_tl | refine pk_var ?_)))
 obtain ⟨ns9, hns⟩ := isS_get (o := rdU tRow 2 p) (by simpa using h42)
 obtain rfl := hx9 ns9 hns
 have hnl := rdU_len hns
 obtain ⟨n0, n1, rfl⟩ := twoU_of hnl
 obtain rfl := hyy n0 n1 rfl
 have hns2 : rdU (hdW τ) (hdN τ) p = some [n0, n1] := by rw [hdW_4 (by omega), hdN_4 (by omega)]; exact hns
 have hb : goU (lnsF t) τ = true := (goU_at hp).trans (by rw [hns2]; rfl)
 refine C_skip ?_
 subst hLP
 exact endR3 hb [box g5 65 (cRu (.slice A40 ((r.tb ++ [(⟨n0, n1⟩ : Ow)]).map cOw).length c40) ({ r with tb := r.tb ++ [(⟨n0, n1⟩ : Ow)] } : Ru)), box g6 168 [.slice A37 4 c37], box g7 3 [.int .i64 ((τ + 1 : Nat) : Int)], sl (.slice A40 ((r.tb ++ [(⟨n0, n1⟩ : Ow)]).map cOw).length c40) 175 2 (({ r with tb := r.tb ++ [(⟨n0, n1⟩ : Ow)] } : Ru).tb.map cOw), sl (.slice A37 4 c37) 173 2 [[.string (bs tOxy), (.slice A11 2 c11)], [.string (bs tLim), (.slice A19 2 c19)], [.string (bs tBre), (.slice A24 1 c24)], [.string (bs tEme), (.slice A35 3 c35)]], sl (.slice A11 2 c11) 225 1 ([1, 2].map (cP g5)), sl (.slice A19 2 c19) 225 1 ([3, 4].map (cP g5)), sl (.slice A24 1 c24) 225 1 ([5].map (cP g5)), sl (.slice A35 3 c35) 225 1 ([6, 7, 8].map (cP g5)), box g2 65 (cRu nilU zRu), box g3 3 [.int .i64 0], box g4 34 [.int .i64 0]] (by rw [if_pos hb]; exact ⟨{ r with tb := r.tb ++ [(⟨n0, n1⟩ : Ow)] }, A40, c40, hG.trans (by rw [lnu_get hp, pauG_s hns2, upR_4 (by omega)]; rfl), (by rw [List.length_append, List.length_singleton]; omega), rfl⟩) (fun w_ h_ => h_.pk (by repeat (first | with_reducible exact pk_nil | refine pk_box rfl ?_ | refine pk_rd rfl ?_ | refine pk_sl rfl ?_ | with_reducible refine pk_app ?_ | with_reducible refine pk_app0 ?_ | with_reducible refine pk_app0L ?_ | with_reducible exact pk_tl | refine pk_var ?_)))
 intro D rs_ hF
 obtain ⟨hgo9, r, A9, c9, hG, hrl, rfl⟩ := FinL_true hF
 rw [List.drop_length] at hG
 have hl4 := len_map cOw r.tb
 dsimp only
 refine blk_end ?_
 refine C_seq ?_
 refine C_seq ?_
 refine C_region ?_
 refine Jq (q_load tb rfl rfl bxo rfl) ?_
 refine Jq (q_load tb rfl rfl bxo rfl) ?_
 refine Jq (q_len tb rfl rfl gvo) ?_
 refine Jq (q_lss rfl rfl) ?_
 refine L_then ?_
 refine C_dec rfl (fun h48 => ?_) (fun h48 => ?_)
 have h49 : (lnsF t).length < 4 := by simp only [List.length_cons, List.length_nil] at h48; omega
 refine C_seq ?_
 refine C_res (rs' := (box g2 65 (cRu nilU zRu) :: box g3 3 [.int .i64 0] :: box g4 34 [.int .i64 0] :: box g7 3 [.int .i64 (lnsF t).length] :: [df D])) (fun _ h => h.pk (by repeat (first | with_reducible exact pk_nil | refine pk_box rfl ?_ | refine pk_rd rfl ?_ | refine pk_sl rfl ?_ | with_reducible refine pk_app ?_ | with_reducible refine pk_app0 ?_ | with_reducible refine pk_app0L ?_ | with_reducible exact pk_tl | refine pk_var ?_))) ?_
 refine Kp.C_own3 [.q 0, .q 1, .q 2, .s 3, .s 4, .s 5] mixed (by kernel_rfl) rfl (by kernel_rfl) ?_
 refine Kp.X_q rfl rfl rfl rfl (by first | exact q_build tb rfl rfl rfl rfl | exact q_buildArr tb rfl rfl rfl rfl rfl) ?_
 refine Kp.X_q rfl rfl rfl rfl (q_load tb rfl rfl bxo rfl) ?_
 refine Kp.X_q rfl rfl rfl rfl (q_add (e := ((lnsF t).length : Int) + 1) rfl rfl (wr (by omega) (by omega))) ?_
 first | refine Kp.X_store tb rfl rfl (List.Perm.refl _) rfl rfl rfl rfl rfl rfl rfl rfl ?_ | refine Kp.X_store tb rfl rfl perm1 rfl rfl rfl rfl rfl rfl rfl rfl ?_ | refine Kp.X_store tb rfl rfl (perm_front (pre := [_, _])) rfl rfl rfl rfl rfl rfl rfl rfl ?_ | refine Kp.X_store tb rfl rfl (perm_front (pre := [_, _, _])) rfl rfl rfl rfl rfl rfl rfl rfl ?_
 first | refine Kp.X_store tb rfl rfl (List.Perm.refl _) rfl rfl rfl rfl rfl rfl rfl rfl ?_ | refine Kp.X_store tb rfl rfl perm1 rfl rfl rfl rfl rfl rfl rfl rfl ?_ | refine Kp.X_store tb rfl rfl (perm_front (pre := [_, _])) rfl rfl rfl rfl rfl rfl rfl rfl ?_ | refine Kp.X_store tb rfl rfl (perm_front (pre := [_, _, _])) rfl rfl rfl rfl rfl rfl rfl rfl ?_
 first | refine Kp.X_store tb rfl rfl (List.Perm.refl _) rfl rfl rfl rfl rfl rfl rfl rfl ?_ | refine Kp.X_store tb rfl rfl perm1 rfl rfl rfl rfl rfl rfl rfl rfl ?_ | refine Kp.X_store tb rfl rfl (perm_front (pre := [_, _])) rfl rfl rfl rfl rfl rfl rfl rfl ?_ | refine Kp.X_store tb rfl rfl (perm_front (pre := [_, _, _])) rfl rfl rfl rfl rfl rfl rfl rfl ?_
 refine Kp.X_nil ?_
 try dsimp only [List.cons_append, List.nil_append]
 refine L_then ?_
 refine C_ret ?_
 rw [pauA_7 (show ¬ t.length > 60000 by omega) (hG.trans (by rw [pauG, if_pos (by omega)]))]
 exact ret_ofMC (rs1 := [box g2 65 (cRu nilU zRu), box g3 3 [.int .i64 ((lnsF t).length + 1)], box g4 34 [.int .i64 7]]) (rs' := [sl nilU 175 2 []]) (fun w_ h_ => h_.pk (by repeat (first | with_reducible exact pk_nil | refine pk_box rfl ?_ | refine pk_rd rfl ?_ | refine pk_sl rfl ?_ | with_reducible refine pk_app ?_ | with_reducible refine pk_app0 ?_ | with_reducible refine pk_app0L ?_ | with_reducible exact pk_tl | refine pk_var ?_))) (resACC tb rfl rfl rfl rfl rfl rfl rfl bxo bxo bxo rfl) (fun w_ h_ => ws_nil (sub_nil w_ h_)) own1 ⟨none, 0, 0, rfl, rfl⟩
 have h49 : 4 ≤ (lnsF t).length := by simp only [List.length_cons, List.length_nil] at h48; omega
 refine C_skip_then ?_
 refine C_seq ?_
 refine C_seq ?_
 refine C_region ?_
 refine Jq (q_loadA tb rfl rfl bxo rfl rfl) ?_
 refine L_call tb rfl rfl (ct_exposure_CheckRules _ r (by omega)) (ps_cons gvo no_ps) rfl ?_
 refine Jq (q_assign rfl) ?_
 refine L_then ?_
 refine C_seq ?_
 refine C_region ?_
 refine Jq (q_move rfl) ?_
 refine Jq (q_neq rfl rfl) ?_
 refine L_then ?_
 refine C_dec rfl (fun h55 => ?_) (fun h55 => ?_)
 refine C_seq ?_
 refine C_region ?_
 refine Jq (by first | exact q_build tb rfl rfl rfl rfl | exact q_buildArr tb rfl rfl rfl rfl rfl) ?_
 refine Jq (q_move rfl) ?_
 refine L_st tb rfl rfl ?_
 refine L_st tb rfl rfl ?_
 refine L_st tb rfl rfl ?_
 refine L_then ?_
 refine C_ret ?_
 rw [pauA_c (show ¬ t.length > 60000 by omega) (hG.trans (by rw [pauG, if_neg (by omega)])), if_pos h55]
 exact ret_ofMC (rs1 := [box g2 65 (cRu nilU zRu), box g3 3 [.int .i64 0], box g4 34 [.int .i64 (ckRu r)]]) (rs' := [sl nilU 175 2 []]) (fun w_ h_ => h_.pk (by repeat (first | with_reducible exact pk_nil | refine pk_box rfl ?_ | refine pk_rd rfl ?_ | refine pk_sl rfl ?_ | with_reducible refine pk_app ?_ | with_reducible refine pk_app0 ?_ | with_reducible refine pk_app0L ?_ | with_reducible exact pk_tl | refine pk_var ?_))) (resACC tb rfl rfl rfl rfl rfl rfl rfl bxo bxo bxo rfl) (fun w_ h_ => ws_nil (sub_nil w_ h_)) own1 ⟨none, 0, 0, rfl, rfl⟩
 refine C_skip_then ?_
 refine C_seq ?_
 refine C_region ?_
 refine Jq (q_loadA tb rfl rfl bxo rfl rfl) ?_
 refine L_st tb rfl rfl ?_
 refine L_st tb rfl rfl ?_
 refine L_st tb rfl rfl ?_
 refine L_then ?_
 refine C_ret ?_
 rw [pauA_c (show ¬ t.length > 60000 by omega) (hG.trans (by rw [pauG, if_neg (by omega)])), if_neg h55]
 exact ret_ofMC (rs1 := [box g2 65 (cRu (.slice A9 (r.tb.map cOw).length c9) r), box g3 3 [.int .i64 0], box g4 34 [.int .i64 0], sl (.slice A9 (r.tb.map cOw).length c9) 175 2 (r.tb.map cOw)]) (rs' := [sl (.slice A9 (r.tb.map cOw).length c9) 175 2 (r.tb.map cOw)]) (fun w_ h_ => h_.pk (by repeat (first | with_reducible exact pk_nil | refine pk_box rfl ?_ | refine pk_rd rfl ?_ | refine pk_sl rfl ?_ | with_reducible refine pk_app ?_ | with_reducible refine pk_app0 ?_ | with_reducible refine pk_app0L ?_ | with_reducible exact pk_tl | refine pk_var ?_))) (resACC tb rfl rfl rfl rfl rfl rfl rfl bxo bxo bxo rfl) (fun w_ h_ => h_.pk (by repeat (first | with_reducible exact pk_nil | refine pk_box rfl ?_ | refine pk_rd rfl ?_ | refine pk_sl rfl ?_ | with_reducible refine pk_app ?_ | with_reducible refine pk_app0 ?_ | with_reducible refine pk_app0L ?_ | with_reducible exact pk_tl | refine pk_var ?_))) own1 ⟨_, _, _, rfl, rfl⟩
 intro D rs_ hF
 obtain ⟨σ, hσ, hs, hbf, hG, rfl⟩ := FinL_false hF
 rw [pauA_7 (show ¬ t.length > 60000 by omega) hG]
 exact ret_ofMC (rs1 := [box g2 65 (cRu nilU zRu), box g3 3 [.int .i64 ((σ : Int) + 1)], box g4 34 [.int .i64 7]]) (rs' := [sl nilU 175 2 []]) (fun w_ h_ => h_.pk (by repeat (first | with_reducible exact pk_nil | refine pk_box rfl ?_ | refine pk_rd rfl ?_ | refine pk_sl rfl ?_ | with_reducible refine pk_app ?_ | with_reducible refine pk_app0 ?_ | with_reducible refine pk_app0L ?_ | with_reducible exact pk_tl | refine pk_var ?_))) (resACC tb rfl rfl rfl rfl rfl rfl rfl bxo bxo bxo rfl) (fun w_ h_ => ws_nil (sub_nil w_ h_)) own1 ⟨none, 0, 0, rfl, rfl⟩
end Go.Proofs.YtacndicgpkeobaaGreatDoor
