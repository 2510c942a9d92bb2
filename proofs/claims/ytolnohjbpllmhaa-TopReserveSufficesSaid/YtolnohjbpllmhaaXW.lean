/-
  Walks: each function named returns what its model says. Conditions: those in front of each theorem.
-/
import Derived.Test.YtolnohjbpllmhaaXL
import Derived.Test.YtolnohjbpllmhaaEncU
import Derived.Test.YtolnohjbpllmhaaRp
namespace Go.Proofs.Ytolnohjbpllmhaa
open Go.RowKit

set_option maxRecDepth 100000 in
set_option maxHeartbeats 1000000 in
theorem ct_exposure_Reserves (t : Value) (r : Ru) (nm : ByteArray) (sf : Int) (v u : Value) (gs : List Gs) (ls : List Dl) (hle : gs.length ≤ 100000) (hle2 : ls.length ≤ 100000) (hnm : nm.size ≤ 1000000000000) (hlt : r.tb.length ≤ 100000) : Ct Try.prog 67 [.agg (cPl nm sf v u).toArray, .agg (cRu t r).toArray] [(v, 2, gs.map cGs), (u, 3, ls.map cDl), (t, 2, r.tb.map cOw)] (isSlN 109 2 ((reE nm sf gs ls r).1.map cSw) (.int .i64 (reE nm sf gs ls r).2)) := by
  refine Ct.ofM (N := 65) Try.func67 rfl rfl rfl fun w => ?_
  refine C_weak (E' := [(0, .agg (cPl nm sf v u).toArray), (1, .agg (cRu t r).toArray)]) (rs' := [rd v 2 (gs.map cGs), rd u 3 (ls.map cDl), rd t 2 (r.tb.map cOw)]) ⟨rfl, rfl, trivial⟩ (fun _ h => h) ?_
  have hl1 := len_map cGs gs
  have hl2 := len_map cDl ls
  have hl1 := len_map cOw r.tb
  refine C_seq ?_
  refine C_region ?_
  refine L_box rfl rfl rfl fun g2 => ?_
  refine L_box rfl rfl rfl fun g3 => ?_
  refine L_q rfl rfl rfl (q_assign rfl) ?_
  refine L_q rfl rfl rfl (q_assign rfl) ?_
  refine L_then ?_
  refine C_seq ?_
  refine C_seq ?_
  refine C_region ?_
  refine L_q rfl rfl rfl (q_loadA tb rfl rfl bxo rfl rfl) ?_
  refine L_q rfl rfl rfl (q_loadA tb rfl rfl bxo rfl rfl) ?_
  refine L_call tb rfl rfl (ct_exposure_both t r nm sf v u gs ls hle hle2 hnm hlt) (ps_cons (by first | exact gvo | exact gvd gvo (by omega)) (ps_cons (by first | exact gvo | exact gvd gvo (by omega)) (ps_cons (by first | exact gvo | exact gvd gvo (by omega)) no_ps))) rfl ?_
  refine L_q rfl rfl rfl (q_assign rfl) ?_
  refine L_then ?_
  refine C_seq ?_
  refine C_region ?_
  refine L_q rfl rfl rfl (q_move rfl) ?_
  refine L_q rfl rfl rfl (q_neq rfl rfl) ?_
  refine L_then ?_
  refine C_dec rfl (fun h1 => ?_) (fun h1 => ?_)
  · -- t16 True
    refine C_seq ?_
    refine C_region ?_
    refine L_q rfl rfl rfl (q_move rfl) ?_
    refine L_q rfl rfl rfl (q_assign rfl) ?_
    refine L_q rfl rfl rfl (q_assign rfl) ?_
    refine L_then ?_
    refine C_ret ?_
    rw [reE_1 (by rw [show toldE nm sf gs ls r = bothE nm sf gs ls r from toldE_1 h1]; exact h1), toldE_1 h1]
    exact ret_of0M (rs' := [sl (.slice none 0 0) 109 2 []]) (res2 rfl rfl rfl) (fun w_ h_ => ws_nil (sub_nil w_ h_)) own1 ⟨_, rfl, rfl⟩
  · -- t16 False
    have hz := Decidable.not_not.1 h1; obtain ⟨_, H, HR, _⟩ := bothE_ok hz; have hll := H.ll; have hgl := H.gl
    have hlen : ((legsM sf gs ls).map cLe).length = ls.length := le_len _ _ _ _
    have hTe := H.e ls.length (Nat.le_refl _)
    refine C_skip_then ?_
    refine C_seq ?_
    refine C_region ?_
    refine L_q rfl rfl rfl (q_loadA tb rfl rfl bxo rfl rfl) ?_
    refine L_callSN tb rfl rfl (ct_exposure_followed nm sf v u gs ls H) (ps_cons (by first | exact gvo | exact gvd gvo (by omega)) (ps_cons (by first | exact gvo | exact gvd gvo (by omega)) no_ps)) rfl fun v20 => ?_
    refine L_q rfl rfl rfl (q_move rfl) ?_
    refine L_q rfl rfl rfl (q_ext0 rfl) ?_
    refine L_q rfl rfl rfl (q_ext1 rfl) ?_
    refine L_q rfl rfl rfl (q_assign rfl) ?_
    refine L_q rfl rfl rfl (q_assign rfl) ?_
    refine L_then ?_
    refine C_seq ?_
    refine C_seq ?_
    refine C_region ?_
    refine L_q rfl rfl rfl (q_move rfl) ?_
    refine L_q rfl rfl rfl (q_neq rfl rfl) ?_
    refine L_then ?_
    refine C_dec rfl (fun h2 => ?_) (fun h2 => ?_)
    · -- t24 True
      have hT : secAt ls ls.length > 20000 := Decidable.byContradiction fun hh => h2 (by rw [folE_2 hh])
      refine C_seq ?_
      refine C_region ?_
      refine L_q rfl rfl rfl (q_move rfl) ?_
      refine L_q rfl rfl rfl (q_assign rfl) ?_
      refine L_q rfl rfl rfl (q_assign rfl) ?_
      refine L_then ?_
      refine C_ret ?_
      rw [reE_1 (by rw [toldE_2 hz hT]; decide), toldE_2 hz hT, folE_1 hT]
      exact ret_of0M (rs' := [sl (.slice none 0 0) 109 2 []]) (res2 rfl rfl rfl) (fun w_ h_ => ws_nil (sub_nil w_ h_)) own1 ⟨_, rfl, rfl⟩
    · -- t24 False
      have hT : ¬ secAt ls ls.length > 20000 := fun hh => h2 (by rw [folE_1 hh]; decide)
      rw [folE_2 hT]
      refine C_skip_then ?_
      refine C_seq ?_
      refine C_region ?_
      refine L_q rfl rfl rfl (by first | exact q_build tb rfl rfl rfl rfl | exact q_buildArr tb rfl rfl rfl rfl rfl) ?_
      refine L_mk (lo_bslice tb rfl rfl rfl (xs := [cSw (0, -1)]) rfl rfl (by simp [cSw]) rfl (by omega) rfl) rfl rfl rfl fun v27 => ?_
      refine L_q rfl rfl rfl (q_field tb rfl rfl rfl) ?_
      refine L_q rfl rfl rfl (q_load tb rfl rfl bxo rfl) ?_
      refine L_q rfl rfl rfl (q_len tb rfl rfl (by first | exact gvo | exact gvd gvo (by omega))) ?_
      rw [len_map cGs gs]
      refine L_callS tb rfl rfl (ct_slices_Repeat_shotline_api_GasNeed_shotline_api_GasNeed v27 (cSw (0, -1)) gs.length (by omega) (by simp [cSw, Value.oneCell'])) (ps_cons (by first | exact gvo | exact gvd gvo (by omega)) no_ps) rfl fun v31 => ?_
      refine L_form (v := v31) gvo (fun A31 c31 hv31 hn31 => ?_)
      subst hv31
      generalize hN31 : (List.replicate gs.length (cSw (0, -1))).length = N31
      refine L_alloc tb rfl rfl fun g9 => ?_
      first | refine L_store tb rfl rfl rfl rfl rfl rfl rfl rfl ?_ | (refine L_front1 ?_; refine L_store tb rfl rfl rfl rfl rfl rfl rfl rfl ?_) | (refine L_front2 ?_; refine L_store tb rfl rfl rfl rfl rfl rfl rfl rfl ?_) | (refine L_front3 ?_; refine L_store tb rfl rfl rfl rfl rfl rfl rfl rfl ?_) | (refine L_front4 ?_; refine L_store tb rfl rfl rfl rfl rfl rfl rfl rfl ?_) | (refine L_front5 ?_; refine L_store tb rfl rfl rfl rfl rfl rfl rfl rfl ?_) | (refine L_front6 ?_; refine L_store tb rfl rfl rfl rfl rfl rfl rfl rfl ?_)
      refine L_then ?_
      refine C_seq ?_
      refine C_seq ?_
      refine C_res (rs' := [sl v20 149 9 ((legsM sf gs ls).map cLe), box g9 104 [(.slice A31 N31 c31)], sl (.slice A31 N31 c31) 109 2 ((resK r sf gs ls 0).map cSw), box g3 28 (cRu t r), box g2 44 (cPl nm sf v u), rd v 2 (gs.map cGs), rd u 3 (ls.map cDl), rd t 2 (r.tb.map cOw)]) (fun _ h => h.pk (by repeat (first | with_reducible exact pk_nil | refine pk_box (by first | rfl | exact rs_zero) ?_ | refine pk_rd rfl ?_ | refine pk_sl (by first | rfl | exact rs_zero) ?_ | with_reducible refine pk_app ?_ | with_reducible refine pk_app0 ?_ | with_reducible refine pk_app0L ?_ | with_reducible exact pk_tl | refine pk_var ?_))) ?_
      refine C_region ?_
      refine L_share ?_
      refine L_q rfl rfl rfl (q_move rfl) ?_
      refine L_q rfl rfl rfl (q_field tb rfl rfl rfl) ?_
      refine L_q rfl rfl rfl (q_load tb rfl rfl bxo rfl) ?_
      refine L_q rfl rfl rfl (q_len tb rfl rfl (by first | exact gvo | exact gvd gvo (by omega))) ?_
      refine L_q rfl rfl rfl (q_loadA tb rfl rfl bxo rfl rfl) ?_
      rw [len_map cGs gs]
      refine L_lo rfl rfl rfl (lo_call tb rfl rfl (ct_exposure_needs v20 t r sf gs ls) (ps_cons (by first | exact gvo | exact gvd gvo (by omega)) (ps_cons (by first | exact gvo | exact gvd gvo (by omega)) no_ps)) (by rintro y rs ⟨s3, s4, s5, _, rfl⟩ r hr; simp only [List.mem_cons, List.not_mem_nil, or_false] at hr; rcases hr with rfl | rfl | rfl <;> exact box_sinks _ _ _)) ?_
      rintro _ _ ⟨s3, s4, s5, rfl, rfl⟩
      refine L_then ?_
      refine C_block ?_
      refine C_range2 (FinN (fun σ : Nat => [box g9 104 [(.slice A31 N31 c31)], sl (.slice A31 N31 c31) 109 2 ((resK r sf gs ls σ).map cSw)]) (fun σ : Nat => [box g9 104 [(.slice A31 N31 c31)], sl (.slice A31 N31 c31) 109 2 ((resK r sf gs ls (σ + 1)).map cSw)]) (fun _ : Nat => true) (rnN ls ls.length)) rfl (tb.en_ok _ (lkT_mem (rfl : lkT tb.en 140 = some ()))) (fun l D fn tm hts hE => ?_) ?_ ?_
      · -- the rounds
        refine it_needsR _ _ l D _ (fun σ : Nat => [box g9 104 [(.slice A31 N31 c31)], sl (.slice A31 N31 c31) 109 2 ((resK r sf gs ls σ).map cSw)]) (fun σ : Nat => [box g9 104 [(.slice A31 N31 c31)], sl (.slice A31 N31 c31) 109 2 ((resK r sf gs ls (σ + 1)).map cSw)]) (fun _ : Nat => true) v20 t r sf gs ls s3 s4 s5 H HR (by omega) rfl (fun σ h => rfl) ?hR _ (fun w_ h_ => h_.pk (by repeat (first | with_reducible exact pk_nil | refine pk_box rfl ?_ | refine pk_rd rfl ?_ | refine pk_sl rfl ?_ | with_reducible refine pk_app ?_ | with_reducible refine pk_app0 ?_ | with_reducible refine pk_app0L ?_ | with_reducible exact pk_tl | refine pk_var ?_)))
        intro σ hσ
        refine Rnd2.of hts rfl hE (fun own => ?_)
        have hgi := gN_in H hσ; have hlr := resK_len (r := r) (sf := sf) (gs := gs) (ls := ls) σ; have hlm := len_map cSw (resK r sf gs ls σ)
        obtain ⟨x, hx⟩ := get_some (resK r sf gs ls σ) (k := (gN ls σ).toNat) (by omega)
        have helx := map_get cSw hx
        dsimp only [List.nil_append, List.cons_append]
        refine C_region ?_
        refine L_alloc tb rfl rfl fun g10 => ?_
        first | refine L_store tb rfl rfl rfl rfl rfl rfl rfl rfl ?_ | (refine L_front1 ?_; refine L_store tb rfl rfl rfl rfl rfl rfl rfl rfl ?_) | (refine L_front2 ?_; refine L_store tb rfl rfl rfl rfl rfl rfl rfl rfl ?_) | (refine L_front3 ?_; refine L_store tb rfl rfl rfl rfl rfl rfl rfl rfl ?_) | (refine L_front4 ?_; refine L_store tb rfl rfl rfl rfl rfl rfl rfl rfl ?_) | (refine L_front5 ?_; refine L_store tb rfl rfl rfl rfl rfl rfl rfl rfl ?_) | (refine L_front6 ?_; refine L_store tb rfl rfl rfl rfl rfl rfl rfl rfl ?_)
        refine L_front1 ?_
        refine L_end ?_
        refine beginRh fun LP hLP => ?_
        refine C_block ?_
        refine C_seq ?_
        refine C_region ?_
        refine L_q rfl rfl rfl (q_load tb rfl rfl bxo rfl) ?_
        refine L_q rfl rfl rfl (q_field tb rfl rfl rfl) ?_
        refine L_q rfl rfl rfl (q_load tb rfl rfl bxo rfl) ?_
        refine L_q rfl rfl rfl (by first | exact q_index tb rfl rfl rfl rfl (by first | exact gvo | exact gvd gvo (by omega)) (by omega) (by first | omega | (simp; done) | (simp; omega)) | exact q_indexP tb rfl rfl rfl rfl (by omega) (by omega)) ?_
        refine L_q rfl rfl rfl (q_assign rfl) ?_
        refine L_then ?_
        refine C_seq ?_
        refine C_draw (n := 14) [(0, false), (1, false), (2, false), (3, false), (4, false), (5, false), (6, false), (7, false), (8, false), (9, false), (10, false), (11, false), (12, false), (13, false)] mixed (by kernel_rfl) ?_
        refine W_q rfl rfl rfl rfl (q_move rfl) ?_
        refine W_q rfl rfl rfl rfl (q_nilEl rfl gvo (by omega)) ?_
        refine W_q rfl rfl rfl rfl (q_fieldE tb rfl rfl rfl (by first | exact gvo | exact gvd gvo (by omega)) (by first | omega | (simp; done) | (simp; omega))) ?_
        refine W_q rfl rfl rfl rfl (q_loadE tb rfl rfl (by first | exact gvo | exact gvd gvo (by omega)) (i := (gN ls σ).toNat) (o := 1) (by omega) helx rfl) ?_
        refine W_q rfl rfl rfl rfl (q_lss rfl rfl) ?_
        refine W_q rfl rfl rfl rfl (q_move rfl) ?_
        refine W_dec (d := 48) rfl (fun hneg => ?_) (fun hneg => ?_)
        · -- t48 True
          refine W_skip rfl rfl rfl rfl rfl rfl rfl rfl ?_
          refine W_skip rfl rfl rfl rfl rfl rfl rfl rfl ?_
          refine W_skip rfl rfl rfl rfl rfl rfl rfl rfl ?_
          refine W_skip rfl rfl rfl rfl rfl rfl rfl rfl ?_
          refine W_skip rfl rfl rfl rfl rfl rfl rfl rfl ?_
          refine W_skip rfl rfl rfl rfl rfl rfl rfl rfl ?_
          refine W_skip rfl rfl rfl rfl rfl rfl rfl rfl ?_
          refine W_q rfl rfl rfl rfl (by first | exact q_pickT rfl rfl | exact q_pickF rfl rfl) ?_
          refine W_nil ?_
          refine L_then ?_
          refine C_true rfl ?_
          refine C_region ?_
          refine L_q rfl rfl rfl (q_move rfl) ?_
          refine L_q rfl rfl rfl (q_field tb rfl rfl rfl) ?_
          refine L_q rfl rfl rfl (q_load tb rfl rfl bxo rfl) ?_
          refine L_q rfl rfl rfl (q_field tb rfl rfl rfl) ?_
          refine L_q rfl rfl rfl (q_load tb rfl rfl bxo rfl) ?_
          refine L_q rfl rfl rfl (by first | exact q_build tb rfl rfl rfl rfl | exact q_buildArr tb rfl rfl rfl rfl rfl) ?_
          refine L_q rfl rfl rfl (q_nilEl rfl gvo (by omega)) ?_
          first | refine L_storeEl tb rfl rfl rfl rfl rfl rfl (i := (gN ls σ).toNat) (by omega) (by omega) ?_ | (refine L_front1 ?_; refine L_storeEl tb rfl rfl rfl rfl rfl rfl (i := (gN ls σ).toNat) (by omega) (by omega) ?_) | (refine L_front2 ?_; refine L_storeEl tb rfl rfl rfl rfl rfl rfl (i := (gN ls σ).toNat) (by omega) (by omega) ?_) | (refine L_front3 ?_; refine L_storeEl tb rfl rfl rfl rfl rfl rfl (i := (gN ls σ).toNat) (by omega) (by omega) ?_) | (refine L_front4 ?_; refine L_storeEl tb rfl rfl rfl rfl rfl rfl (i := (gN ls σ).toNat) (by omega) (by omega) ?_) | (refine L_front5 ?_; refine L_storeEl tb rfl rfl rfl rfl rfl rfl (i := (gN ls σ).toNat) (by omega) (by omega) ?_) | (refine L_front6 ?_; refine L_storeEl tb rfl rfl rfl rfl rfl rfl (i := (gN ls σ).toNat) (by omega) (by omega) ?_)
          refine L_end ?_
          subst hLP
          have hup9 : upP r sf gs ls σ x := by unfold upP; omega
          have e9 := rs_yes hx hup9
          exact endR2 (RC' := [box g9 104 [(.slice A31 N31 c31)], sl (.slice A31 N31 c31) 109 2 ((resK r sf gs ls (σ + 1)).map cSw)]) rfl rfl (fun w_ h_ => h_.pk (by repeat (first | with_reducible exact pk_nil | refine pk_box (by first | rfl | exact e9) ?_ | refine pk_rd rfl ?_ | refine pk_sl (by first | rfl | exact e9) ?_ | with_reducible refine pk_app ?_ | with_reducible refine pk_app0 ?_ | with_reducible refine pk_app0L ?_ | with_reducible exact pk_tl | refine pk_var ?_)))
        · -- t48 False
          refine W_qg rfl rfl rfl rfl rfl rfl rfl rfl (q_field tb rfl rfl rfl) ?_
          refine W_qg rfl rfl rfl rfl rfl rfl rfl rfl (q_load tb rfl rfl bxo rfl) ?_
          refine W_qg rfl rfl rfl rfl rfl rfl rfl rfl (q_move rfl) ?_
          refine W_qg rfl rfl rfl rfl rfl rfl rfl rfl (q_nilEl rfl gvo (by omega)) ?_
          refine W_qg rfl rfl rfl rfl rfl rfl rfl rfl (q_fieldE tb rfl rfl rfl (by first | exact gvo | exact gvd gvo (by omega)) (by first | omega | (simp; done) | (simp; omega))) ?_
          refine W_qg rfl rfl rfl rfl rfl rfl rfl rfl (q_loadE tb rfl rfl (by first | exact gvo | exact gvd gvo (by omega)) (i := (gN ls σ).toNat) (o := 0) (by omega) helx rfl) ?_
          refine W_qg rfl rfl rfl rfl rfl rfl rfl rfl (q_gtr rfl rfl) ?_
          refine W_q rfl rfl rfl rfl (by first | exact q_pickT rfl rfl | exact q_pickF rfl rfl) ?_
          refine W_nil ?_
          refine L_then ?_
          refine C_dec rfl (fun hup => ?_) (fun hup => ?_)
          · -- t56 True
            refine C_region ?_
            refine L_q rfl rfl rfl (q_move rfl) ?_
            refine L_q rfl rfl rfl (q_field tb rfl rfl rfl) ?_
            refine L_q rfl rfl rfl (q_load tb rfl rfl bxo rfl) ?_
            refine L_q rfl rfl rfl (q_field tb rfl rfl rfl) ?_
            refine L_q rfl rfl rfl (q_load tb rfl rfl bxo rfl) ?_
            refine L_q rfl rfl rfl (by first | exact q_build tb rfl rfl rfl rfl | exact q_buildArr tb rfl rfl rfl rfl rfl) ?_
            refine L_q rfl rfl rfl (q_nilEl rfl gvo (by omega)) ?_
            first | refine L_storeEl tb rfl rfl rfl rfl rfl rfl (i := (gN ls σ).toNat) (by omega) (by omega) ?_ | (refine L_front1 ?_; refine L_storeEl tb rfl rfl rfl rfl rfl rfl (i := (gN ls σ).toNat) (by omega) (by omega) ?_) | (refine L_front2 ?_; refine L_storeEl tb rfl rfl rfl rfl rfl rfl (i := (gN ls σ).toNat) (by omega) (by omega) ?_) | (refine L_front3 ?_; refine L_storeEl tb rfl rfl rfl rfl rfl rfl (i := (gN ls σ).toNat) (by omega) (by omega) ?_) | (refine L_front4 ?_; refine L_storeEl tb rfl rfl rfl rfl rfl rfl (i := (gN ls σ).toNat) (by omega) (by omega) ?_) | (refine L_front5 ?_; refine L_storeEl tb rfl rfl rfl rfl rfl rfl (i := (gN ls σ).toNat) (by omega) (by omega) ?_) | (refine L_front6 ?_; refine L_storeEl tb rfl rfl rfl rfl rfl rfl (i := (gN ls σ).toNat) (by omega) (by omega) ?_)
            refine L_end ?_
            subst hLP
            have hup9 : upP r sf gs ls σ x := by unfold upP; omega
            have e9 := rs_yes hx hup9
            exact endR2 (RC' := [box g9 104 [(.slice A31 N31 c31)], sl (.slice A31 N31 c31) 109 2 ((resK r sf gs ls (σ + 1)).map cSw)]) rfl rfl (fun w_ h_ => h_.pk (by repeat (first | with_reducible exact pk_nil | refine pk_box (by first | rfl | exact e9) ?_ | refine pk_rd rfl ?_ | refine pk_sl (by first | rfl | exact e9) ?_ | with_reducible refine pk_app ?_ | with_reducible refine pk_app0 ?_ | with_reducible refine pk_app0L ?_ | with_reducible exact pk_tl | refine pk_var ?_)))
          · -- t56 False
            refine C_skip ?_
            subst hLP
            have hup9 : ¬ upP r sf gs ls σ x := by unfold upP; omega
            have e9 := rs_no hx hup9
            exact endR2 (RC' := [box g9 104 [(.slice A31 N31 c31)], sl (.slice A31 N31 c31) 109 2 ((resK r sf gs ls (σ + 1)).map cSw)]) rfl rfl (fun w_ h_ => h_.pk (by repeat (first | with_reducible exact pk_nil | refine pk_box (by first | rfl | exact e9) ?_ | refine pk_rd rfl ?_ | refine pk_sl (by first | rfl | exact e9) ?_ | with_reducible refine pk_app ?_ | with_reducible refine pk_app0 ?_ | with_reducible refine pk_app0L ?_ | with_reducible exact pk_tl | refine pk_var ?_)))
      · -- behind
        intro D rs_ hF
        obtain ⟨hgo9, rfl⟩ := FinN_true hF
        dsimp only
        refine blk_end ?_
        refine C_seq ?_
        refine C_region ?_
        refine L_q rfl rfl rfl (q_load tb rfl rfl bxo rfl) ?_
        refine L_q rfl rfl rfl (q_assign rfl) ?_
        refine L_q rfl rfl rfl (q_assign rfl) ?_
        refine L_then ?_
        refine C_ret ?_
        rw [reE_2 (toldE_3 hz hT)]
        exact ret_ofM (rs' := [sl (.slice A31 N31 c31) 109 2 ((resM r sf gs ls).map cSw)]) (res2M rfl rfl rfl) (fun w_ h_ => h_.pk (by repeat (first | with_reducible exact pk_nil | refine pk_box rfl ?_ | refine pk_rd rfl ?_ | refine pk_sl rfl ?_ | with_reducible refine pk_app ?_ | with_reducible refine pk_app0 ?_ | with_reducible refine pk_app0L ?_ | with_reducible exact pk_tl | refine pk_var ?_))) own1 ⟨_, rfl, rfl⟩
      · -- returned out of a round
        intro D rs_ hF
        obtain ⟨σ, _, hs, _⟩ := FinN_false hF
        cases hs
end Go.Proofs.Ytolnohjbpllmhaa
