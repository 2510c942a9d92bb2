/-
  Walks: each function named returns what its model says. Conditions: those in front of each theorem.
-/
import Derived.Test.YtacndicgpkeobaaGreatDoorXI
namespace Go.Proofs.YtacndicgpkeobaaGreatDoor
open Go.RowKit

set_option maxRecDepth 100000 in
theorem ct_exposure_needs (v t : Value) (r : Ru) (sf : Int) (gs : List Gs) (ls : List Dl) : Ct Tryz.prog 152 [v, .int .i64 (gs.length : Int), .agg (cRu t r).toArray] [(v, 9, (legsM sf gs ls).map cLe), (t, 2, r.tb.map cOw)] (fun y rs => ∃ s3 s4 s5, y = .func (.func 196) #[] #[.pointer (some ⟨s4, 0, none⟩), .pointer (some ⟨s3, 0, none⟩), .pointer (some ⟨s5, 0, none⟩)] ∧ rs = [box s3 229 [v], box s4 3 [.int .i64 (gs.length : Int)], box s5 65 (cRu t r)]) := by
 refine Ct.of (N := 8) Tryz.func152 rfl rfl rfl fun w => ?_
 refine C_weak (E' := [(0, v), (1, .int .i64 (gs.length : Int)), (2, .agg (cRu t r).toArray)]) (rs' := [rd v 9 ((legsM sf gs ls).map cLe), rd t 2 (r.tb.map cOw)]) ⟨rfl, rfl, rfl, trivial⟩ (fun _ h => h) ?_
 refine C_form (v := v) gvo (fun Av cv hv _ => ?_)
 subst hv
 refine C_seq ?_
 refine C_region ?_
 refine L_box rfl rfl rfl fun g3 => ?_
 refine L_box rfl rfl rfl fun g4 => ?_
 refine L_box rfl rfl rfl fun g5 => ?_
 refine Jq (q_assign rfl) ?_
 refine L_then ?_
 refine C_seq ?_
 refine C_region ?_
 refine Jq (q_makeFunc rfl rfl) ?_
 refine Jq (q_assign rfl) ?_
 refine L_then ?_
 refine C_ret ?_
 exact ret_of (rs' := [box g3 229 [_], box g4 3 [.int .i64 (gs.length : Int)], box g5 65 (cRu t r)]) (res1 rfl rfl) (fun w_ h_ => h_.pk (by repeat (first | with_reducible exact pk_nil | refine pk_box rfl ?_ | refine pk_rd rfl ?_ | refine pk_sl rfl ?_ | with_reducible refine pk_app ?_ | with_reducible refine pk_app0 ?_ | with_reducible refine pk_app0L ?_ | with_reducible exact pk_tl | refine pk_var ?_))) (by intro r hr; simp only [List.mem_cons, List.not_mem_nil, or_false] at hr; rcases hr with rfl | rfl | rfl <;> exact box_own _ _ _) ⟨g3, g4, g5, rfl, rfl⟩
theorem need_cells {sf : Int} {gs : List Gs} {ls : List Dl} (H : okPl sf gs ls) (r : Ru) {k j : Nat} {v0 : Int} (hk : k < ls.length) (h0 : 1 ≤ j ∨ k = 0) (h1 : (j : Int) ≤ (dlAt ls k).s) (hv : usedAt sf gs ls r.br k = v0) :
    [Value.int .i64 (secAt ls k + (j : Int)), .int .i64 (dlAt ls k).g, .int .i64 (v0 + brM r.br (j : Int) (legAt sf gs ls k) + escM r sf (dpM (legAt sf gs ls k) (j : Int)))] = [.int .i64 ((secN ls k + j : Nat) : Int), .int .i64 (gN ls (secN ls k + j)), .int .i64 (aN r sf gs ls (secN ls k + j))] := by
  obtain ⟨a, b, c, _⟩ := need_at H r hk h0 h1
  rw [a, b, c, ← hv]
  rfl
theorem rn_next {sf : Int} {gs : List Gs} {ls : List Dl} (H : okPl sf gs ls) {k j : Nat} (hk : k < ls.length) (hj : (j : Int) = (dlAt ls k).s + 1) : secN ls k + j = rnN ls (k + 1) := by
  have h := secN_succ H hk
  show _ = secN ls (k + 1) + 1
  omega

set_option maxRecDepth 100000 in
set_option maxHeartbeats 1000000 in
theorem it_needs (B : Nat) (w0 : World) (l D : Nat) (q : Loop) (RC RN : Nat → List Res) (go : Nat → Bool) (v t : Value) (r : Ru) (sf : Int) (gs : List Gs) (ls : List Dl) (s3 s4 s5 : Nat) (H : okPl sf gs ls) (HR : okRu r) (hT : secAt ls ls.length ≤ 20000) (hp1 : 1 = q.params.size)
    (hgo : ∀ σ, go σ = true → RN σ = RC (σ + 1)) (hR : ∀ σ : Nat, σ < rnN ls ls.length → Rnd2 Tryz.prog B w0 l q (go σ) [.agg [.int .i64 (σ : Int), .int .i64 (gN ls σ), .int .i64 (aN r sf gs ls σ)].toArray] [] (RC σ) (RN σ)) : It Tryz.prog 196 [.func (.yield l) #[] #[], .pointer (some ⟨s4, 0, none⟩), .pointer (some ⟨s3, 0, none⟩), .pointer (some ⟨s5, 0, none⟩)] B w0 ([box s3 229 [v], box s4 3 [.int .i64 (gs.length : Int)], box s5 65 (cRu t r), rd v 9 ((legsM sf gs ls).map cLe), rd t 2 (r.tb.map cOw), df D, lp l q] ++ RC 0) (fun w' => ∃ b rc, FinN RC RN go (rnN ls ls.length) b rc ∧ WS B w0 (lp l (rb q b) :: df D :: rc) w') := by
  refine It.of (N := 100) Tryz.func196 rfl rfl rfl ?_
  refine C_weak (E' := [(0, .func (.yield l) #[] #[]), (1, .pointer (some ⟨s4, 0, none⟩)), (2, .pointer (some ⟨s3, 0, none⟩)), (3, .pointer (some ⟨s5, 0, none⟩))]) (rs' := [box s3 229 [v], box s4 3 [.int .i64 (gs.length : Int)], box s5 65 (cRu t r), rd v 9 ((legsM sf gs ls).map cLe), rd t 2 (r.tb.map cOw), df D, lp l q] ++ RC 0) ⟨rfl, rfl, rfl, rfl, trivial⟩ (fun _ h => h) ?_
  have hlen : ((legsM sf gs ls).map cLe).length = ls.length := le_len _ _ _ _
  have hll := H.ll; have hgl := H.gl; have hTe := H.e ls.length (Nat.le_refl _)
  rw [show RC 0 = RC (rnN ls 0) from rfl]
  refine C_seq ?_
  refine C_region ?_
  refine Jq (by first | exact q_load tb rfl rfl bxo rfl | exact q_loadE tb rfl rfl gvo (by omega) (by simp) rfl) ?_
  refine L_mk (lo_make tb rfl rfl rfl (n := gs.length) rfl rfl (by omega) (by simp [maxLen]; omega)) rfl rfl rfl fun v13 => ?_
  refine Jq (q_assign rfl) ?_
  refine L_then ?_
  refine C_seq ?_
  refine C_res (rs' := [sl v13 3 1 ((consK gs.length ls (amtS sf gs ls r.br) 0).map cI), box s3 229 [v], box s4 3 [.int .i64 (gs.length : Int)], box s5 65 (cRu t r), rd v 9 ((legsM sf gs ls).map cLe), rd t 2 (r.tb.map cOw), df D, lp l q] ++ RC (rnN ls 0)) (fun _ h => h.pk (by repeat (first | with_reducible exact pk_nil | refine pk_box (by first | rfl | exact (cons_zero _ _ _)) ?_ | refine pk_rd rfl ?_ | refine pk_sl (by first | rfl | exact (cons_zero _ _ _)) ?_ | with_reducible refine pk_app ?_ | with_reducible refine pk_app0 ?_ | with_reducible refine pk_app0L ?_ | with_reducible exact pk_tl | refine pk_var ?_))) ?_
  refine C_region ?_
  refine Jq (by first | exact q_load tb rfl rfl bxo rfl | exact q_loadE tb rfl rfl gvo (by omega) (by simp) rfl) ?_
  refine Jq (q_len tb rfl rfl gvo) ?_
  refine Jq (q_move rfl) ?_
  refine L_then ?_
  refine C_block ?_
  refine C_loop (ι := Nat) (fun k => ([(0, .func (.yield l) #[] #[]), (1, .pointer (some ⟨s4, 0, none⟩)), (2, .pointer (some ⟨s3, 0, none⟩)), (3, .pointer (some ⟨s5, 0, none⟩)), (5, v13), (14, v), (15, .int .i64 ((legsM sf gs ls).map cLe).length), (16, .int .i64 (k : Int))], [sl v13 3 1 ((consK gs.length ls (amtS sf gs ls r.br) k).map cI), box s3 229 [v], box s4 3 [.int .i64 (gs.length : Int)], box s5 65 (cRu t r), rd v 9 ((legsM sf gs ls).map cLe), rd t 2 (r.tb.map cOw), df D, lp l q] ++ RC (rnN ls k))) (fun k => k ≤ ls.length ∧ ∀ τ : Nat, τ < rnN ls k → go τ = true) (fun k => ls.length - k) 0 ⟨Nat.zero_le _, fun τ h => absurd h (Nat.not_lt_zero _)⟩ (fun a w hs => hs.weak ⟨rfl, rfl, rfl, rfl, rfl, rfl, rfl, rfl, trivial⟩ (fun h => h.pk (by repeat (first | with_reducible exact pk_nil | refine pk_box rfl ?_ | refine pk_rd rfl ?_ | refine pk_sl rfl ?_ | with_reducible refine pk_app ?_ | with_reducible refine pk_app0 ?_ | with_reducible refine pk_app0L ?_ | with_reducible exact pk_tl | refine pk_var ?_)))) ?_
  rintro k ⟨hk9, hgk⟩
  dsimp only at hk9 hgk ⊢
  refine C_seq ?_
  refine C_region ?_
  refine Jq (q_lss rfl rfl) ?_
  refine L_then ?_
  refine C_seq ?_
  refine C_dec rfl (fun h1 => ?_) (fun h1 => ?_)
  · -- t17 True
    have hel : ((legsM sf gs ls).map cLe)[k]? = some (cLe (legAt sf gs ls k)) := le_cell (by omega)
    have hds := (H.at (k := k) (by omega)).s; have hsl := sec_leg H (k := k) (by omega); have hse := H.e k (by omega); have hse2 := H.e (k + 1) (by omega); have hsec := secAt_succ ls k
    have hle := H.le (k := k) (by omega)
    obtain ⟨v0, hv0⟩ := get_some (consK gs.length ls (amtS sf gs ls r.br) k) (k := (dlAt ls k).g.toNat) (by rw [consK_len]; have := (H.at (k := k) (by omega)).g; omega)
    have helo := map_get cI hv0; have hg9 := (H.at (k := k) (by omega)).g; have hbd := consK_in (n := gs.length) (ls := ls) (amt := (amtS sf gs ls r.br)) (A := 51833333334) (by omega) k (fun i hi => amtS_in H HR.br (by omega)) _ _ hv0
    have hcl := consK_len gs.length ls (amtS sf gs ls r.br) k
    have hcm := len_map cI (consK gs.length ls (amtS sf gs ls r.br) k)
    have hus : usedAt sf gs ls r.br k = v0 := by unfold usedAt; rw [hv0]; rfl
    refine C_skip_then ?_
    refine C_seq ?_
    refine C_block ?_
    refine C_seq ?_
    refine C_region ?_
    refine Jq (q_move rfl) ?_
    refine Jq (by first | exact q_index tb rfl rfl rfl rfl gvo (by omega) (by first | omega | (simp; done) | (simp; omega)) | exact q_indexP tb rfl rfl rfl rfl (by omega) (by omega)) ?_
    refine Jq (q_loadEA tb rfl rfl gvo (i := k) (o := 0) (by omega) hel rfl rfl) ?_
    refine L_alloc tb rfl rfl fun g7 => ?_
    refine Jq (q_assign rfl) ?_
    refine L_st tb rfl rfl ?_
    refine L_then ?_
    refine C_seq ?_
    refine C_res (rs' := [box g7 232 ([.int .i64 (dlAt ls k).s, .int .i64 (dlAt ls k).d, .int .i64 (dlAt ls k).g, .int .i64 (secAt ls k), .int .i64 (sf + depAt ls k), .int .i64 (sf + (dlAt ls k).d), .int .i64 sf, .int .i64 (gasAt gs (dlAt ls k).g).o, .int .i64 (gasAt gs (dlAt ls k).g).h]), sl v13 3 1 ((consK gs.length ls (amtS sf gs ls r.br) k).map cI), box s3 229 [v], box s4 3 [.int .i64 (gs.length : Int)], box s5 65 (cRu t r), rd v 9 ((legsM sf gs ls).map cLe), rd t 2 (r.tb.map cOw), df D, lp l q] ++ RC (rnN ls k)) (fun _ h => h.pk (by repeat (first | with_reducible exact pk_nil | refine pk_box rfl ?_ | refine pk_rd rfl ?_ | refine pk_sl rfl ?_ | with_reducible refine pk_app ?_ | with_reducible refine pk_app0 ?_ | with_reducible refine pk_app0L ?_ | with_reducible exact pk_tl | refine pk_var ?_))) ?_
    refine C_region ?_
    refine Jq (q_assign rfl) ?_
    refine L_then ?_
    refine C_seq ?_
    refine C_seq ?_
    refine C_region ?_
    refine Jq (q_move rfl) ?_
    refine Jq (q_eql rfl rfl) ?_
    refine L_then ?_
    refine C_dec rfl (fun h2 => ?_) (fun h2 => ?_)
    · -- t22 True
      have hk0 : k = 0 := by omega
      have hrn := rnN_zero (ls := ls) hk0
      rw [hrn] at hgk ⊢
      refine C_region ?_
      refine Jq (q_assign rfl) ?_
      refine L_then ?_
      refine C_seq ?_
      refine C_seq ?_
      refine C_region ?_
      refine Jq (q_move rfl) ?_
      refine Jq (q_assign rfl) ?_
      refine L_then ?_
      refine C_block ?_
      refine C_loop (ι := Nat) (fun j => ([(0, .func (.yield l) #[] #[]), (1, .pointer (some ⟨s4, 0, none⟩)), (2, .pointer (some ⟨s3, 0, none⟩)), (3, .pointer (some ⟨s5, 0, none⟩)), (5, v13), (7, .pointer (some ⟨g7, 0, none⟩)), (9, .int .i64 (j : Int)), (14, v), (15, .int .i64 ((legsM sf gs ls).map cLe).length), (16, .int .i64 (k : Int))], [box g7 232 ([.int .i64 (dlAt ls k).s, .int .i64 (dlAt ls k).d, .int .i64 (dlAt ls k).g, .int .i64 (secAt ls k), .int .i64 (sf + depAt ls k), .int .i64 (sf + (dlAt ls k).d), .int .i64 sf, .int .i64 (gasAt gs (dlAt ls k).g).o, .int .i64 (gasAt gs (dlAt ls k).g).h]), sl v13 3 1 ((consK gs.length ls (amtS sf gs ls r.br) k).map cI), box s3 229 [v], box s4 3 [.int .i64 (gs.length : Int)], box s5 65 (cRu t r), rd v 9 ((legsM sf gs ls).map cLe), rd t 2 (r.tb.map cOw), df D, lp l q] ++ RC (secN ls k + j))) (fun j => (j : Int) ≤ (dlAt ls k).s + 1 ∧ (1 ≤ j ∨ k = 0) ∧ ∀ τ : Nat, τ < secN ls k + j → go τ = true) (fun j => ((dlAt ls k).s + 1 - (j : Int)).toNat) 0 ⟨by omega, by omega, hgk⟩ (fun a w hs => hs.weak ⟨rfl, rfl, rfl, rfl, rfl, rfl, rfl, rfl, rfl, rfl, trivial⟩ (fun h => h.pk (by repeat (first | with_reducible exact pk_nil | refine pk_box rfl ?_ | refine pk_rd rfl ?_ | refine pk_sl rfl ?_ | with_reducible refine pk_app ?_ | with_reducible refine pk_app0 ?_ | with_reducible refine pk_app0L ?_ | with_reducible exact pk_tl | refine pk_var ?_)))) ?_
      rintro j ⟨hj9, hj1, hgj⟩
      dsimp only at hj9 hj1 hgj ⊢
      refine C_seq ?_
      refine C_seq ?_
      refine C_region ?_
      refine Jq (q_move rfl) ?_
      refine Jq (q_field tb rfl rfl rfl) ?_
      refine Jq (q_field tb rfl rfl rfl) ?_
      refine Jq (q_load tb rfl rfl bxo rfl) ?_
      refine Jq (q_leq rfl rfl) ?_
      refine L_then ?_
      refine C_dec rfl (fun h3 => ?_) (fun h3 => ?_)
      · -- t28 True
        have hs9 : 0 ≤ (j : Int) ∧ (j : Int) ≤ (dlAt ls k).s := by omega
        obtain ⟨hu, hbr, hdm, hes⟩ := needA_in H HR (k := k) (by omega) (by omega) (s := (j : Int)) hs9
        have hd : (0 ≤ (sf + depAt ls k - sf) * ((dlAt ls k).s - (j : Int)) ∧ (sf + depAt ls k - sf) * ((dlAt ls k).s - (j : Int)) ≤ 30000000000) ∧ (0 ≤ (sf + (dlAt ls k).d - sf) * (j : Int) ∧ (sf + (dlAt ls k).d - sf) * (j : Int) ≤ 30000000000) ∧ _ := dpS_in hle hs9
        have hdep := H.dep (k := k) (by omega); have hdd := (H.at (k := k) (by omega)).d; have hsf := H.sf
        have e9 := need_cells H r (k := k) (j := j) (by omega) hj1 hs9.2 hus
        have hσ := (need_at H r (k := k) (j := j) (by omega) hj1 hs9.2).2.2.2
        refine C_skip_then ?_
        refine C_seq ?_
        refine C_block ?_
        refine C_seq ?_
        refine C_res (rs' := [box g7 232 ([.int .i64 (dlAt ls k).s, .int .i64 (dlAt ls k).d, .int .i64 (dlAt ls k).g, .int .i64 (secAt ls k), .int .i64 (sf + depAt ls k), .int .i64 (sf + (dlAt ls k).d), .int .i64 sf, .int .i64 (gasAt gs (dlAt ls k).g).o, .int .i64 (gasAt gs (dlAt ls k).g).h]), sl v13 3 1 ((consK gs.length ls (amtS sf gs ls r.br) k).map cI), box s3 229 [v], box s4 3 [.int .i64 (gs.length : Int)], box s5 65 (cRu t r), rd v 9 ((legsM sf gs ls).map cLe), rd t 2 (r.tb.map cOw), df D, lp l q] ++ RC (secN ls k + j)) (fun _ h => h.pk (by repeat (first | with_reducible exact pk_nil | refine pk_box rfl ?_ | refine pk_rd rfl ?_ | refine pk_sl rfl ?_ | with_reducible refine pk_app ?_ | with_reducible refine pk_app0 ?_ | with_reducible refine pk_app0L ?_ | with_reducible exact pk_tl | refine pk_var ?_))) ?_
        refine C_region ?_
        refine Jq (q_field tb rfl rfl rfl) ?_
        refine Jq (q_load tb rfl rfl bxo rfl) ?_
        refine Jq (q_field tb rfl rfl rfl) ?_
        refine Jq (q_load tb rfl rfl bxo rfl) ?_
        refine Jq (q_sub rfl rfl (by first | exact IntWalk.i64_in _ (by omega) | rfl)) ?_
        refine Jq (q_field tb rfl rfl rfl) ?_
        refine Jq (q_field tb rfl rfl rfl) ?_
        refine Jq (q_load tb rfl rfl bxo rfl) ?_
        refine Jq (q_move rfl) ?_
        refine Jq (q_sub rfl rfl (by first | exact IntWalk.i64_in _ (by omega) | rfl)) ?_
        refine Jq (q_mul rfl rfl (by first | exact IntWalk.i64_in _ (by omega) | rfl)) ?_
        refine Jq (q_field tb rfl rfl rfl) ?_
        refine Jq (q_load tb rfl rfl bxo rfl) ?_
        refine Jq (q_field tb rfl rfl rfl) ?_
        refine Jq (q_load tb rfl rfl bxo rfl) ?_
        refine Jq (q_sub rfl rfl (by first | exact IntWalk.i64_in _ (by omega) | rfl)) ?_
        refine Jq (q_move rfl) ?_
        refine Jq (q_mul rfl rfl (by first | exact IntWalk.i64_in _ (by omega) | rfl)) ?_
        refine Jq (q_add rfl rfl (by first | exact IntWalk.i64_in _ (by omega) | rfl)) ?_
        refine Jq (q_field tb rfl rfl rfl) ?_
        refine Jq (q_field tb rfl rfl rfl) ?_
        refine Jq (q_load tb rfl rfl bxo rfl) ?_
        refine L_call tb rfl rfl (ct_exposure_up ((sf + depAt ls k - sf) * ((dlAt ls k).s - (j : Int)) + (sf + (dlAt ls k).d - sf) * (j : Int)) (dlAt ls k).s (by omega)) no_ps rfl ?_
        refine Jq (q_assign rfl) ?_
        refine L_then ?_
        refine C_seq ?_
        refine C_res (rs' := [box g7 232 ([.int .i64 (dlAt ls k).s, .int .i64 (dlAt ls k).d, .int .i64 (dlAt ls k).g, .int .i64 (secAt ls k), .int .i64 (sf + depAt ls k), .int .i64 (sf + (dlAt ls k).d), .int .i64 sf, .int .i64 (gasAt gs (dlAt ls k).g).o, .int .i64 (gasAt gs (dlAt ls k).g).h]), sl v13 3 1 ((consK gs.length ls (amtS sf gs ls r.br) k).map cI), box s3 229 [v], box s4 3 [.int .i64 (gs.length : Int)], box s5 65 (cRu t r), rd v 9 ((legsM sf gs ls).map cLe), rd t 2 (r.tb.map cOw), df D, lp l q] ++ RC (secN ls k + j)) (fun _ h => h.pk (by repeat (first | with_reducible exact pk_nil | refine pk_box rfl ?_ | refine pk_rd rfl ?_ | refine pk_sl rfl ?_ | with_reducible refine pk_app ?_ | with_reducible refine pk_app0 ?_ | with_reducible refine pk_app0L ?_ | with_reducible exact pk_tl | refine pk_var ?_))) ?_
        refine C_drawA1 tb (n := 27) (k := 26) [(0, false), (1, false), (2, false), (3, false), (4, false), (5, false), (6, false), (7, false), (8, false), (9, false), (10, false), (11, false), (12, false), (13, false), (14, false), (15, false), (16, false), (19, false), (20, false), (21, false), (22, false), (17, true), (18, false), (23, true), (24, false), (25, false)] mixed rfl rfl rfl (by kernel_rfl) rfl ?_
        refine Yq rfl (q_field tb rfl rfl rfl) ?_
        refine Yq rfl (q_load tb rfl rfl bxo rfl) ?_
        refine Yq rfl (q_move rfl) ?_
        refine Yq rfl (q_add rfl rfl (by first | exact IntWalk.i64_in _ (by omega) | rfl)) ?_
        refine Yq rfl (q_field tb rfl rfl rfl) ?_
        refine Yq rfl (q_field tb rfl rfl rfl) ?_
        refine Yq rfl (q_load tb rfl rfl bxo rfl) ?_
        refine Yq rfl (q_move rfl) ?_
        refine Yq rfl (q_field tb rfl rfl rfl) ?_
        refine Yq rfl (q_field tb rfl rfl rfl) ?_
        refine Yq rfl (q_load tb rfl rfl bxo rfl) ?_
        refine Yq rfl (by first | exact q_index tb rfl rfl rfl rfl gvo (by omega) (by first | omega | (simp; done) | (simp; omega)) | exact q_indexP tb rfl rfl rfl rfl (by omega) (by omega)) ?_
        refine Yq rfl (q_loadE tb rfl rfl gvo (i := (dlAt ls k).g.toNat) (o := 0) (by omega) helo rfl) ?_
        refine Yq rfl (q_loadA tb rfl rfl bxo rfl rfl) ?_
        refine Yq rfl (by first | exact q_field tb rfl rfl rfl | exact q_fieldE tb rfl rfl rfl gvo (by first | omega | (simp; done) | (simp; omega))) ?_
        refine Yq rfl (by first | exact q_load tb rfl rfl bxo rfl | exact q_loadE tb rfl rfl gvo (by omega) (by simp) rfl) ?_
        refine Yq rfl (q_move rfl) ?_
        refine Yq rfl (by first | exact q_loadA tb rfl rfl bxo rfl rfl | exact q_loadEA tb rfl rfl gvo (by omega) (by simp) rfl rfl) ?_
        refine Yq rfl (q_field tb rfl rfl rfl) ?_
        refine Yq rfl (q_load tb rfl rfl bxo rfl) ?_
        refine Yq rfl (q_move rfl) ?_
        refine W_call tb rfl rfl rfl rfl (ct_exposure_leg_breathes (legAt sf gs ls k) r.br (j : Int) hle HR.br hs9 (.inr (by show (dlAt ls k).s ≤ 20000; omega))) no_ps rfl ?_
        refine Yq rfl (q_add rfl rfl (by first | exact IntWalk.i64_in _ (by omega) | rfl)) ?_
        refine W_call tb rfl rfl rfl rfl (ct_exposure_escape t r sf (dpM (legAt sf gs ls k) (j : Int)) HR hsf hdm) (ps_cons gvo no_ps) rfl ?_
        refine Yq rfl (q_add rfl rfl (by first | exact IntWalk.i64_in _ (by omega) | rfl)) ?_
        refine Yq rfl (by first | exact q_build tb rfl rfl rfl rfl | exact q_buildArr tb rfl rfl rfl rfl rfl) ?_
        refine W_nil ?_
        intro g11
        refine L_st tb rfl rfl ?_
        refine L_then ?_
        refine C_seq ?_
        refine C_res (rs' := [box g11 240 [.int .i64 ((secN ls k + j : Nat) : Int), .int .i64 (gN ls (secN ls k + j)), .int .i64 (aN r sf gs ls (secN ls k + j))], box g7 232 ([.int .i64 (dlAt ls k).s, .int .i64 (dlAt ls k).d, .int .i64 (dlAt ls k).g, .int .i64 (secAt ls k), .int .i64 (sf + depAt ls k), .int .i64 (sf + (dlAt ls k).d), .int .i64 sf, .int .i64 (gasAt gs (dlAt ls k).g).o, .int .i64 (gasAt gs (dlAt ls k).g).h]), sl v13 3 1 ((consK gs.length ls (amtS sf gs ls r.br) k).map cI), box s3 229 [v], box s4 3 [.int .i64 (gs.length : Int)], box s5 65 (cRu t r), rd v 9 ((legsM sf gs ls).map cLe), rd t 2 (r.tb.map cOw), df D, lp l q] ++ RC (secN ls k + j)) (fun _ h => h.pk (by repeat (first | with_reducible exact pk_nil | refine pk_box (by first | rfl | exact e9) ?_ | refine pk_rd rfl ?_ | refine pk_sl (by first | rfl | exact e9) ?_ | with_reducible refine pk_app ?_ | with_reducible refine pk_app0 ?_ | with_reducible refine pk_app0L ?_ | with_reducible exact pk_tl | refine pk_var ?_))) ?_
        refine C_region ?_
        refine Jq (q_move rfl) ?_
        refine Jq (q_loadA tb rfl rfl bxo rfl rfl) ?_
        refine L_yield2 [_, _, _, _, _, _, _, _, _] rfl rfl hp1 (hR (secN ls k + j) hσ) (by intro k_ hk_; cases hk_) rfl ?_
        refine Jq (q_not rfl (by first | exact (rfl : (!true) = false) | exact (rfl : (!false) = true) | exact decide_not.symm | rfl)) ?_
        refine L_then ?_
        refine C_bool rfl (fun hstop => ?_) (fun hstop => ?_)
        · -- t83 True
          refine C_ret ?_
          have hb : go (secN ls k + j) = false := by simpa using hstop
          rw [hb]
          exact it_ret rfl (fun wf_ hw_ => ⟨false, RN (secN ls k + j), .inr ⟨rfl, _, hσ, hb, hgj, rfl⟩, hw_.pk (by repeat (first | with_reducible exact pk_nil | refine pk_box rfl ?_ | refine pk_rd rfl ?_ | refine pk_sl rfl ?_ | with_reducible refine pk_app ?_ | with_reducible refine pk_app0 ?_ | with_reducible refine pk_app0L ?_ | with_reducible exact pk_tl | refine pk_var ?_))⟩)
        · -- t83 False
          have hb : go (secN ls k + j) = true := by simpa using hstop
          have eRC : RN (secN ls k + j) = RC (secN ls k + (j + 1)) := hgo _ hb
          rw [hb, rb_true, eRC]
          refine C_skip_blk ?_
          refine C_region ?_
          refine Jq (q_move rfl) ?_
          refine Jq (q_add rfl rfl (by first | exact IntWalk.i64_in _ (by omega) | rfl)) ?_
          refine Jq (q_assign rfl) ?_
          refine L_end ?_
          exact fun ac_ wo_ hs_ => ⟨j + 1, ⟨by omega, by omega, fun τ hτ => if h9 : τ < secN ls k + j then hgj τ h9 else (by rw [show τ = secN ls k + j by omega]; exact hb)⟩, (by dsimp only; omega), hs_.weak ⟨rfl, rfl, rfl, rfl, rfl, rfl, rfl, rfl, rfl, rfl, trivial⟩ (fun h => h.pk (by repeat (first | with_reducible exact pk_nil | refine pk_box rfl ?_ | refine pk_rd rfl ?_ | refine pk_sl rfl ?_ | with_reducible refine pk_app ?_ | with_reducible refine pk_app0 ?_ | with_reducible refine pk_app0L ?_ | with_reducible exact pk_tl | refine pk_var ?_)))⟩
      · -- t28 False
        have hrn2 := rn_next H (k := k) (j := j) (by omega) (by omega)
        rw [hrn2] at hgj ⊢
        refine C_exit ?_
        change C Tryz.prog _ _ _ _ _ _ _
        refine C_draw (n := 15) [(0, false), (1, false), (2, false), (3, false), (4, false), (5, false), (6, false), (7, false), (8, false), (9, false), (10, false), (11, false), (12, true), (13, false), (14, false)] mixed (by kernel_rfl) ?_
        refine Yq rfl (q_move rfl) ?_
        refine Yq rfl (q_field tb rfl rfl rfl) ?_
        refine Yq rfl (q_field tb rfl rfl rfl) ?_
        refine Yq rfl (q_load tb rfl rfl bxo rfl) ?_
        refine Yq rfl (by first | exact q_index tb rfl rfl rfl rfl gvo (by omega) (by first | omega | (simp; done) | (simp; omega)) | exact q_indexP tb rfl rfl rfl rfl (by omega) (by omega)) ?_
        refine Yq rfl (q_loadE tb rfl rfl gvo (i := (dlAt ls k).g.toNat) (o := 0) (by omega) helo rfl) ?_
        refine Yq rfl (q_loadA tb rfl rfl bxo rfl rfl) ?_
        refine Yq rfl (by first | exact q_field tb rfl rfl rfl | exact q_fieldE tb rfl rfl rfl gvo (by first | omega | (simp; done) | (simp; omega))) ?_
        refine Yq rfl (by first | exact q_load tb rfl rfl bxo rfl | exact q_loadE tb rfl rfl gvo (by omega) (by simp) rfl) ?_
        refine Yq rfl (q_field tb rfl rfl rfl) ?_
        refine Yq rfl (q_field tb rfl rfl rfl) ?_
        refine Yq rfl (q_load tb rfl rfl bxo rfl) ?_
        refine W_call tb rfl rfl rfl rfl (ct_exposure_leg_breathes (legAt sf gs ls k) r.br (dlAt ls k).s hle HR.br (by show 0 ≤ (dlAt ls k).s ∧ (dlAt ls k).s ≤ (dlAt ls k).s; omega) (.inl rfl)) no_ps rfl ?_
        have hbr2 : 0 ≤ brM r.br (dlAt ls k).s (legAt sf gs ls k) ∧ brM r.br (dlAt ls k).s (legAt sf gs ls k) ≤ 51833333334 := amtS_in H HR.br (i := k) (by omega)
        refine Yq rfl (q_add rfl rfl (by first | exact IntWalk.i64_in _ (by omega) | rfl)) ?_
        refine Yq rfl (by first | exact q_index tb rfl rfl rfl rfl gvo (by omega) (by first | omega | (simp; done) | (simp; omega)) | exact q_indexP tb rfl rfl rfl rfl (by omega) (by omega)) ?_
        refine W_nil ?_
        first | refine L_storeEl tb rfl rfl rfl rfl rfl rfl (i := (dlAt ls k).g.toNat) (by omega) (by omega) ?_ | (refine L_front1 ?_; refine L_storeEl tb rfl rfl rfl rfl rfl rfl (i := (dlAt ls k).g.toNat) (by omega) (by omega) ?_) | (refine L_front2 ?_; refine L_storeEl tb rfl rfl rfl rfl rfl rfl (i := (dlAt ls k).g.toNat) (by omega) (by omega) ?_) | (refine L_front3 ?_; refine L_storeEl tb rfl rfl rfl rfl rfl rfl (i := (dlAt ls k).g.toNat) (by omega) (by omega) ?_) | (refine L_front4 ?_; refine L_storeEl tb rfl rfl rfl rfl rfl rfl (i := (dlAt ls k).g.toNat) (by omega) (by omega) ?_) | (refine L_front5 ?_; refine L_storeEl tb rfl rfl rfl rfl rfl rfl (i := (dlAt ls k).g.toNat) (by omega) (by omega) ?_) | (refine L_front6 ?_; refine L_storeEl tb rfl rfl rfl rfl rfl rfl (i := (dlAt ls k).g.toNat) (by omega) (by omega) ?_)
        refine L_blk ?_
        refine C_region ?_
        refine Jq (q_add rfl rfl (by first | exact IntWalk.i64_in _ (by omega) | rfl)) ?_
        refine Jq (q_move rfl) ?_
        refine L_end ?_
        have e9 := cons_step (amt := (amtS sf gs ls r.br)) hv0
        exact fun ac_ wo_ hs_ => ⟨k + 1, ⟨by omega, hgj⟩, (by dsimp only; omega), hs_.weak ⟨rfl, rfl, rfl, rfl, rfl, rfl, rfl, rfl, trivial⟩ (fun h => h.pk (by repeat (first | with_reducible exact pk_nil | refine pk_box (by first | rfl | exact e9) ?_ | refine pk_rd rfl ?_ | refine pk_sl (by first | rfl | exact e9) ?_ | with_reducible refine pk_app ?_ | with_reducible refine pk_app0 ?_ | with_reducible refine pk_app0L ?_ | with_reducible exact pk_tl | refine pk_var ?_)))⟩
    · -- t22 False
      have hk0 : 0 < k := by omega
      have hrn := rnN_pos (ls := ls) hk0
      rw [hrn] at hgk ⊢
      refine C_skip_then ?_
      refine C_seq ?_
      refine C_seq ?_
      refine C_region ?_
      refine Jq (q_move rfl) ?_
      refine Jq (q_assign rfl) ?_
      refine L_then ?_
      refine C_block ?_
      refine C_loop (ι := Nat) (fun j => ([(0, .func (.yield l) #[] #[]), (1, .pointer (some ⟨s4, 0, none⟩)), (2, .pointer (some ⟨s3, 0, none⟩)), (3, .pointer (some ⟨s5, 0, none⟩)), (5, v13), (7, .pointer (some ⟨g7, 0, none⟩)), (9, .int .i64 (j : Int)), (14, v), (15, .int .i64 ((legsM sf gs ls).map cLe).length), (16, .int .i64 (k : Int))], [box g7 232 ([.int .i64 (dlAt ls k).s, .int .i64 (dlAt ls k).d, .int .i64 (dlAt ls k).g, .int .i64 (secAt ls k), .int .i64 (sf + depAt ls k), .int .i64 (sf + (dlAt ls k).d), .int .i64 sf, .int .i64 (gasAt gs (dlAt ls k).g).o, .int .i64 (gasAt gs (dlAt ls k).g).h]), sl v13 3 1 ((consK gs.length ls (amtS sf gs ls r.br) k).map cI), box s3 229 [v], box s4 3 [.int .i64 (gs.length : Int)], box s5 65 (cRu t r), rd v 9 ((legsM sf gs ls).map cLe), rd t 2 (r.tb.map cOw), df D, lp l q] ++ RC (secN ls k + j))) (fun j => (j : Int) ≤ (dlAt ls k).s + 1 ∧ (1 ≤ j ∨ k = 0) ∧ ∀ τ : Nat, τ < secN ls k + j → go τ = true) (fun j => ((dlAt ls k).s + 1 - (j : Int)).toNat) 1 ⟨by omega, by omega, hgk⟩ (fun a w hs => hs.weak ⟨rfl, rfl, rfl, rfl, rfl, rfl, rfl, rfl, rfl, rfl, trivial⟩ (fun h => h.pk (by repeat (first | with_reducible exact pk_nil | refine pk_box rfl ?_ | refine pk_rd rfl ?_ | refine pk_sl rfl ?_ | with_reducible refine pk_app ?_ | with_reducible refine pk_app0 ?_ | with_reducible refine pk_app0L ?_ | with_reducible exact pk_tl | refine pk_var ?_)))) ?_
      rintro j ⟨hj9, hj1, hgj⟩
      dsimp only at hj9 hj1 hgj ⊢
      refine C_seq ?_
      refine C_seq ?_
      refine C_region ?_
      refine Jq (q_move rfl) ?_
      refine Jq (q_field tb rfl rfl rfl) ?_
      refine Jq (q_field tb rfl rfl rfl) ?_
      refine Jq (q_load tb rfl rfl bxo rfl) ?_
      refine Jq (q_leq rfl rfl) ?_
      refine L_then ?_
      refine C_dec rfl (fun h5 => ?_) (fun h5 => ?_)
      · -- t28 True
        have hs9 : 0 ≤ (j : Int) ∧ (j : Int) ≤ (dlAt ls k).s := by omega
        obtain ⟨hu, hbr, hdm, hes⟩ := needA_in H HR (k := k) (by omega) (by omega) (s := (j : Int)) hs9
        have hd : (0 ≤ (sf + depAt ls k - sf) * ((dlAt ls k).s - (j : Int)) ∧ (sf + depAt ls k - sf) * ((dlAt ls k).s - (j : Int)) ≤ 30000000000) ∧ (0 ≤ (sf + (dlAt ls k).d - sf) * (j : Int) ∧ (sf + (dlAt ls k).d - sf) * (j : Int) ≤ 30000000000) ∧ _ := dpS_in hle hs9
        have hdep := H.dep (k := k) (by omega); have hdd := (H.at (k := k) (by omega)).d; have hsf := H.sf
        have e9 := need_cells H r (k := k) (j := j) (by omega) hj1 hs9.2 hus
        have hσ := (need_at H r (k := k) (j := j) (by omega) hj1 hs9.2).2.2.2
        refine C_skip_then ?_
        refine C_seq ?_
        refine C_block ?_
        refine C_seq ?_
        refine C_res (rs' := [box g7 232 ([.int .i64 (dlAt ls k).s, .int .i64 (dlAt ls k).d, .int .i64 (dlAt ls k).g, .int .i64 (secAt ls k), .int .i64 (sf + depAt ls k), .int .i64 (sf + (dlAt ls k).d), .int .i64 sf, .int .i64 (gasAt gs (dlAt ls k).g).o, .int .i64 (gasAt gs (dlAt ls k).g).h]), sl v13 3 1 ((consK gs.length ls (amtS sf gs ls r.br) k).map cI), box s3 229 [v], box s4 3 [.int .i64 (gs.length : Int)], box s5 65 (cRu t r), rd v 9 ((legsM sf gs ls).map cLe), rd t 2 (r.tb.map cOw), df D, lp l q] ++ RC (secN ls k + j)) (fun _ h => h.pk (by repeat (first | with_reducible exact pk_nil | refine pk_box rfl ?_ | refine pk_rd rfl ?_ | refine pk_sl rfl ?_ | with_reducible refine pk_app ?_ | with_reducible refine pk_app0 ?_ | with_reducible refine pk_app0L ?_ | with_reducible exact pk_tl | refine pk_var ?_))) ?_
        refine C_region ?_
        refine Jq (q_field tb rfl rfl rfl) ?_
        refine Jq (q_load tb rfl rfl bxo rfl) ?_
        refine Jq (q_field tb rfl rfl rfl) ?_
        refine Jq (q_load tb rfl rfl bxo rfl) ?_
        refine Jq (q_sub rfl rfl (by first | exact IntWalk.i64_in _ (by omega) | rfl)) ?_
        refine Jq (q_field tb rfl rfl rfl) ?_
        refine Jq (q_field tb rfl rfl rfl) ?_
        refine Jq (q_load tb rfl rfl bxo rfl) ?_
        refine Jq (q_move rfl) ?_
        refine Jq (q_sub rfl rfl (by first | exact IntWalk.i64_in _ (by omega) | rfl)) ?_
        refine Jq (q_mul rfl rfl (by first | exact IntWalk.i64_in _ (by omega) | rfl)) ?_
        refine Jq (q_field tb rfl rfl rfl) ?_
        refine Jq (q_load tb rfl rfl bxo rfl) ?_
        refine Jq (q_field tb rfl rfl rfl) ?_
        refine Jq (q_load tb rfl rfl bxo rfl) ?_
        refine Jq (q_sub rfl rfl (by first | exact IntWalk.i64_in _ (by omega) | rfl)) ?_
        refine Jq (q_move rfl) ?_
        refine Jq (q_mul rfl rfl (by first | exact IntWalk.i64_in _ (by omega) | rfl)) ?_
        refine Jq (q_add rfl rfl (by first | exact IntWalk.i64_in _ (by omega) | rfl)) ?_
        refine Jq (q_field tb rfl rfl rfl) ?_
        refine Jq (q_field tb rfl rfl rfl) ?_
        refine Jq (q_load tb rfl rfl bxo rfl) ?_
        refine L_call tb rfl rfl (ct_exposure_up ((sf + depAt ls k - sf) * ((dlAt ls k).s - (j : Int)) + (sf + (dlAt ls k).d - sf) * (j : Int)) (dlAt ls k).s (by omega)) no_ps rfl ?_
        refine Jq (q_assign rfl) ?_
        refine L_then ?_
        refine C_seq ?_
        refine C_res (rs' := [box g7 232 ([.int .i64 (dlAt ls k).s, .int .i64 (dlAt ls k).d, .int .i64 (dlAt ls k).g, .int .i64 (secAt ls k), .int .i64 (sf + depAt ls k), .int .i64 (sf + (dlAt ls k).d), .int .i64 sf, .int .i64 (gasAt gs (dlAt ls k).g).o, .int .i64 (gasAt gs (dlAt ls k).g).h]), sl v13 3 1 ((consK gs.length ls (amtS sf gs ls r.br) k).map cI), box s3 229 [v], box s4 3 [.int .i64 (gs.length : Int)], box s5 65 (cRu t r), rd v 9 ((legsM sf gs ls).map cLe), rd t 2 (r.tb.map cOw), df D, lp l q] ++ RC (secN ls k + j)) (fun _ h => h.pk (by repeat (first | with_reducible exact pk_nil | refine pk_box rfl ?_ | refine pk_rd rfl ?_ | refine pk_sl rfl ?_ | with_reducible refine pk_app ?_ | with_reducible refine pk_app0 ?_ | with_reducible refine pk_app0L ?_ | with_reducible exact pk_tl | refine pk_var ?_))) ?_
        refine C_drawA1 tb (n := 27) (k := 26) [(0, false), (1, false), (2, false), (3, false), (4, false), (5, false), (6, false), (7, false), (8, false), (9, false), (10, false), (11, false), (12, false), (13, false), (14, false), (15, false), (16, false), (19, false), (20, false), (21, false), (22, false), (17, true), (18, false), (23, true), (24, false), (25, false)] mixed rfl rfl rfl (by kernel_rfl) rfl ?_
        refine Yq rfl (q_field tb rfl rfl rfl) ?_
        refine Yq rfl (q_load tb rfl rfl bxo rfl) ?_
        refine Yq rfl (q_move rfl) ?_
        refine Yq rfl (q_add rfl rfl (by first | exact IntWalk.i64_in _ (by omega) | rfl)) ?_
        refine Yq rfl (q_field tb rfl rfl rfl) ?_
        refine Yq rfl (q_field tb rfl rfl rfl) ?_
        refine Yq rfl (q_load tb rfl rfl bxo rfl) ?_
        refine Yq rfl (q_move rfl) ?_
        refine Yq rfl (q_field tb rfl rfl rfl) ?_
        refine Yq rfl (q_field tb rfl rfl rfl) ?_
        refine Yq rfl (q_load tb rfl rfl bxo rfl) ?_
        refine Yq rfl (by first | exact q_index tb rfl rfl rfl rfl gvo (by omega) (by first | omega | (simp; done) | (simp; omega)) | exact q_indexP tb rfl rfl rfl rfl (by omega) (by omega)) ?_
        refine Yq rfl (q_loadE tb rfl rfl gvo (i := (dlAt ls k).g.toNat) (o := 0) (by omega) helo rfl) ?_
        refine Yq rfl (q_loadA tb rfl rfl bxo rfl rfl) ?_
        refine Yq rfl (by first | exact q_field tb rfl rfl rfl | exact q_fieldE tb rfl rfl rfl gvo (by first | omega | (simp; done) | (simp; omega))) ?_
        refine Yq rfl (by first | exact q_load tb rfl rfl bxo rfl | exact q_loadE tb rfl rfl gvo (by omega) (by simp) rfl) ?_
        refine Yq rfl (q_move rfl) ?_
        refine Yq rfl (by first | exact q_loadA tb rfl rfl bxo rfl rfl | exact q_loadEA tb rfl rfl gvo (by omega) (by simp) rfl rfl) ?_
        refine Yq rfl (q_field tb rfl rfl rfl) ?_
        refine Yq rfl (q_load tb rfl rfl bxo rfl) ?_
        refine Yq rfl (q_move rfl) ?_
        refine W_call tb rfl rfl rfl rfl (ct_exposure_leg_breathes (legAt sf gs ls k) r.br (j : Int) hle HR.br hs9 (.inr (by show (dlAt ls k).s ≤ 20000; omega))) no_ps rfl ?_
        refine Yq rfl (q_add rfl rfl (by first | exact IntWalk.i64_in _ (by omega) | rfl)) ?_
        refine W_call tb rfl rfl rfl rfl (ct_exposure_escape t r sf (dpM (legAt sf gs ls k) (j : Int)) HR hsf hdm) (ps_cons gvo no_ps) rfl ?_
        refine Yq rfl (q_add rfl rfl (by first | exact IntWalk.i64_in _ (by omega) | rfl)) ?_
        refine Yq rfl (by first | exact q_build tb rfl rfl rfl rfl | exact q_buildArr tb rfl rfl rfl rfl rfl) ?_
        refine W_nil ?_
        intro g11
        refine L_st tb rfl rfl ?_
        refine L_then ?_
        refine C_seq ?_
        refine C_res (rs' := [box g11 240 [.int .i64 ((secN ls k + j : Nat) : Int), .int .i64 (gN ls (secN ls k + j)), .int .i64 (aN r sf gs ls (secN ls k + j))], box g7 232 ([.int .i64 (dlAt ls k).s, .int .i64 (dlAt ls k).d, .int .i64 (dlAt ls k).g, .int .i64 (secAt ls k), .int .i64 (sf + depAt ls k), .int .i64 (sf + (dlAt ls k).d), .int .i64 sf, .int .i64 (gasAt gs (dlAt ls k).g).o, .int .i64 (gasAt gs (dlAt ls k).g).h]), sl v13 3 1 ((consK gs.length ls (amtS sf gs ls r.br) k).map cI), box s3 229 [v], box s4 3 [.int .i64 (gs.length : Int)], box s5 65 (cRu t r), rd v 9 ((legsM sf gs ls).map cLe), rd t 2 (r.tb.map cOw), df D, lp l q] ++ RC (secN ls k + j)) (fun _ h => h.pk (by repeat (first | with_reducible exact pk_nil | refine pk_box (by first | rfl | exact e9) ?_ | refine pk_rd rfl ?_ | refine pk_sl (by first | rfl | exact e9) ?_ | with_reducible refine pk_app ?_ | with_reducible refine pk_app0 ?_ | with_reducible refine pk_app0L ?_ | with_reducible exact pk_tl | refine pk_var ?_))) ?_
        refine C_region ?_
        refine Jq (q_move rfl) ?_
        refine Jq (q_loadA tb rfl rfl bxo rfl rfl) ?_
        refine L_yield2 [_, _, _, _, _, _, _, _, _] rfl rfl hp1 (hR (secN ls k + j) hσ) (by intro k_ hk_; cases hk_) rfl ?_
        refine Jq (q_not rfl (by first | exact (rfl : (!true) = false) | exact (rfl : (!false) = true) | exact decide_not.symm | rfl)) ?_
        refine L_then ?_
        refine C_bool rfl (fun hstop => ?_) (fun hstop => ?_)
        · -- t83 True
          refine C_ret ?_
          have hb : go (secN ls k + j) = false := by simpa using hstop
          rw [hb]
          exact it_ret rfl (fun wf_ hw_ => ⟨false, RN (secN ls k + j), .inr ⟨rfl, _, hσ, hb, hgj, rfl⟩, hw_.pk (by repeat (first | with_reducible exact pk_nil | refine pk_box rfl ?_ | refine pk_rd rfl ?_ | refine pk_sl rfl ?_ | with_reducible refine pk_app ?_ | with_reducible refine pk_app0 ?_ | with_reducible refine pk_app0L ?_ | with_reducible exact pk_tl | refine pk_var ?_))⟩)
        · -- t83 False
          have hb : go (secN ls k + j) = true := by simpa using hstop
          have eRC : RN (secN ls k + j) = RC (secN ls k + (j + 1)) := hgo _ hb
          rw [hb, rb_true, eRC]
          refine C_skip_blk ?_
          refine C_region ?_
          refine Jq (q_move rfl) ?_
          refine Jq (q_add rfl rfl (by first | exact IntWalk.i64_in _ (by omega) | rfl)) ?_
          refine Jq (q_assign rfl) ?_
          refine L_end ?_
          exact fun ac_ wo_ hs_ => ⟨j + 1, ⟨by omega, by omega, fun τ hτ => if h9 : τ < secN ls k + j then hgj τ h9 else (by rw [show τ = secN ls k + j by omega]; exact hb)⟩, (by dsimp only; omega), hs_.weak ⟨rfl, rfl, rfl, rfl, rfl, rfl, rfl, rfl, rfl, rfl, trivial⟩ (fun h => h.pk (by repeat (first | with_reducible exact pk_nil | refine pk_box rfl ?_ | refine pk_rd rfl ?_ | refine pk_sl rfl ?_ | with_reducible refine pk_app ?_ | with_reducible refine pk_app0 ?_ | with_reducible refine pk_app0L ?_ | with_reducible exact pk_tl | refine pk_var ?_)))⟩
      · -- t28 False
        have hrn2 := rn_next H (k := k) (j := j) (by omega) (by omega)
        rw [hrn2] at hgj ⊢
        refine C_exit ?_
        change C Tryz.prog _ _ _ _ _ _ _
        refine C_draw (n := 15) [(0, false), (1, false), (2, false), (3, false), (4, false), (5, false), (6, false), (7, false), (8, false), (9, false), (10, false), (11, false), (12, true), (13, false), (14, false)] mixed (by kernel_rfl) ?_
        refine Yq rfl (q_move rfl) ?_
        refine Yq rfl (q_field tb rfl rfl rfl) ?_
        refine Yq rfl (q_field tb rfl rfl rfl) ?_
        refine Yq rfl (q_load tb rfl rfl bxo rfl) ?_
        refine Yq rfl (by first | exact q_index tb rfl rfl rfl rfl gvo (by omega) (by first | omega | (simp; done) | (simp; omega)) | exact q_indexP tb rfl rfl rfl rfl (by omega) (by omega)) ?_
        refine Yq rfl (q_loadE tb rfl rfl gvo (i := (dlAt ls k).g.toNat) (o := 0) (by omega) helo rfl) ?_
        refine Yq rfl (q_loadA tb rfl rfl bxo rfl rfl) ?_
        refine Yq rfl (by first | exact q_field tb rfl rfl rfl | exact q_fieldE tb rfl rfl rfl gvo (by first | omega | (simp; done) | (simp; omega))) ?_
        refine Yq rfl (by first | exact q_load tb rfl rfl bxo rfl | exact q_loadE tb rfl rfl gvo (by omega) (by simp) rfl) ?_
        refine Yq rfl (q_field tb rfl rfl rfl) ?_
        refine Yq rfl (q_field tb rfl rfl rfl) ?_
        refine Yq rfl (q_load tb rfl rfl bxo rfl) ?_
        refine W_call tb rfl rfl rfl rfl (ct_exposure_leg_breathes (legAt sf gs ls k) r.br (dlAt ls k).s hle HR.br (by show 0 ≤ (dlAt ls k).s ∧ (dlAt ls k).s ≤ (dlAt ls k).s; omega) (.inl rfl)) no_ps rfl ?_
        have hbr2 : 0 ≤ brM r.br (dlAt ls k).s (legAt sf gs ls k) ∧ brM r.br (dlAt ls k).s (legAt sf gs ls k) ≤ 51833333334 := amtS_in H HR.br (i := k) (by omega)
        refine Yq rfl (q_add rfl rfl (by first | exact IntWalk.i64_in _ (by omega) | rfl)) ?_
        refine Yq rfl (by first | exact q_index tb rfl rfl rfl rfl gvo (by omega) (by first | omega | (simp; done) | (simp; omega)) | exact q_indexP tb rfl rfl rfl rfl (by omega) (by omega)) ?_
        refine W_nil ?_
        first | refine L_storeEl tb rfl rfl rfl rfl rfl rfl (i := (dlAt ls k).g.toNat) (by omega) (by omega) ?_ | (refine L_front1 ?_; refine L_storeEl tb rfl rfl rfl rfl rfl rfl (i := (dlAt ls k).g.toNat) (by omega) (by omega) ?_) | (refine L_front2 ?_; refine L_storeEl tb rfl rfl rfl rfl rfl rfl (i := (dlAt ls k).g.toNat) (by omega) (by omega) ?_) | (refine L_front3 ?_; refine L_storeEl tb rfl rfl rfl rfl rfl rfl (i := (dlAt ls k).g.toNat) (by omega) (by omega) ?_) | (refine L_front4 ?_; refine L_storeEl tb rfl rfl rfl rfl rfl rfl (i := (dlAt ls k).g.toNat) (by omega) (by omega) ?_) | (refine L_front5 ?_; refine L_storeEl tb rfl rfl rfl rfl rfl rfl (i := (dlAt ls k).g.toNat) (by omega) (by omega) ?_) | (refine L_front6 ?_; refine L_storeEl tb rfl rfl rfl rfl rfl rfl (i := (dlAt ls k).g.toNat) (by omega) (by omega) ?_)
        refine L_blk ?_
        refine C_region ?_
        refine Jq (q_add rfl rfl (by first | exact IntWalk.i64_in _ (by omega) | rfl)) ?_
        refine Jq (q_move rfl) ?_
        refine L_end ?_
        have e9 := cons_step (amt := (amtS sf gs ls r.br)) hv0
        exact fun ac_ wo_ hs_ => ⟨k + 1, ⟨by omega, hgj⟩, (by dsimp only; omega), hs_.weak ⟨rfl, rfl, rfl, rfl, rfl, rfl, rfl, rfl, trivial⟩ (fun h => h.pk (by repeat (first | with_reducible exact pk_nil | refine pk_box (by first | rfl | exact e9) ?_ | refine pk_rd rfl ?_ | refine pk_sl (by first | rfl | exact e9) ?_ | with_reducible refine pk_app ?_ | with_reducible refine pk_app0 ?_ | with_reducible refine pk_app0L ?_ | with_reducible exact pk_tl | refine pk_var ?_)))⟩
  · -- t17 False
    refine C_exit ?_
    obtain rfl : k = ls.length := by omega
    exact it_end rfl (fun wf_ hw_ => ⟨true, RC (rnN ls ls.length), .inl ⟨rfl, hgk, rfl⟩, (show WS B w0 (lp l q :: df D :: RC (rnN ls ls.length)) wf_ from hw_.pk (by repeat (first | with_reducible exact pk_nil | refine pk_box rfl ?_ | refine pk_rd rfl ?_ | refine pk_sl rfl ?_ | with_reducible refine pk_app ?_ | with_reducible refine pk_app0 ?_ | with_reducible refine pk_app0L ?_ | with_reducible exact pk_tl | refine pk_var ?_)))⟩)
theorem it_needsR (B : Nat) (w0 : World) (l D : Nat) (q : Loop) (RC RN : Nat → List Res) (go : Nat → Bool) (v t : Value) (r : Ru) (sf : Int) (gs : List Gs) (ls : List Dl) (s3 s4 s5 : Nat) (H : okPl sf gs ls) (HR : okRu r) (hT : secAt ls ls.length ≤ 20000) (hp1 : 1 = q.params.size)
    (hgo : ∀ σ, go σ = true → RN σ = RC (σ + 1)) (hR : ∀ σ : Nat, σ < rnN ls ls.length → Rnd2 Tryz.prog B w0 l q (go σ) [.agg [.int .i64 (σ : Int), .int .i64 (gN ls σ), .int .i64 (aN r sf gs ls σ)].toArray] [] (RC σ) (RN σ)) (rs : List Res) (hs : ∀ w, WS B w0 (lp l q :: df D :: rs) w → WS B w0 ([box s3 229 [v], box s4 3 [.int .i64 (gs.length : Int)], box s5 65 (cRu t r), rd v 9 ((legsM sf gs ls).map cLe), rd t 2 (r.tb.map cOw), df D, lp l q] ++ RC 0) w) :
    It Tryz.prog 196 [.func (.yield l) #[] #[], .pointer (some ⟨s4, 0, none⟩), .pointer (some ⟨s3, 0, none⟩), .pointer (some ⟨s5, 0, none⟩)] B w0 (lp l q :: df D :: rs) (fun w' => ∃ b rc, FinN RC RN go (rnN ls ls.length) b rc ∧ WS B w0 (lp l (rb q b) :: df D :: rc) w') :=
  (it_needs B w0 l D q RC RN go v t r sf gs ls s3 s4 s5 H HR hT hp1 hgo hR).mono hs (fun _ h => h)

end Go.Proofs.YtacndicgpkeobaaGreatDoor
