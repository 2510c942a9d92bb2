/-
  Walks: each function named returns what its model says. Conditions: those in front of each theorem.
-/
import Derived.Test.YtolnohjbpllmhaaXQ
import Derived.Test.YtolnohjbpllmhaaXU
import Derived.Test.YtolnohjbpllmhaaXW
namespace Go.Proofs.Ytolnohjbpllmhaa
open Go.RowKit

set_option maxRecDepth 100000 in
theorem ct_shotlinebase_Mod (n b : Int) (h : 1 ≤ b ∧ b ≤ 1000000) : Ct Try.prog 69 [.int .i64 n, .int .i64 b] [] (isV (.int .i64 (n % b))) := by
  refine Ct.of (N := 14) Try.func69 rfl rfl rfl fun w => ?_
  refine C_weak (E' := [(0, .int .i64 n), (1, .int .i64 b)]) (rs' := []) ⟨rfl, rfl, trivial⟩ (fun _ h => h) ?_
  have hb1 := Int.tmod_lt_of_pos n (show 0 < b by omega); have hb2 := Int.lt_tmod_of_pos n (show 0 < b by omega)
  refine C_seq ?_
  refine C_region ?_
  refine L_q rfl rfl rfl (q_assign rfl) ?_
  refine L_then ?_
  refine C_seq ?_
  refine C_region ?_
  refine L_q rfl rfl rfl (q_move rfl) ?_
  refine L_q rfl rfl rfl (q_move rfl) ?_
  refine L_q rfl rfl rfl (q_rem rfl rfl (by omega) (by first | exact IntWalk.rem_in _ _ (by omega) | rfl)) ?_
  refine L_q rfl rfl rfl (q_assign rfl) ?_
  refine L_then ?_
  refine C_seq ?_
  refine C_seq ?_
  refine C_region ?_
  refine L_q rfl rfl rfl (q_move rfl) ?_
  refine L_q rfl rfl rfl (q_lss rfl rfl) ?_
  refine L_then ?_
  refine C_dec rfl (fun h9 => ?_) (fun h9 => ?_)
  · -- t9 True
    refine C_region ?_
    refine L_q rfl rfl rfl (q_move rfl) ?_
    refine L_q rfl rfl rfl (q_move rfl) ?_
    refine L_q rfl rfl rfl (q_add rfl rfl (by first | exact IntWalk.i64_in _ (by omega) | rfl)) ?_
    refine L_q rfl rfl rfl (q_assign rfl) ?_
    refine L_then ?_
    refine C_seq ?_
    refine C_region ?_
    refine L_q rfl rfl rfl (q_move rfl) ?_
    refine L_q rfl rfl rfl (q_assign rfl) ?_
    refine L_then ?_
    refine C_ret ?_
    exact ret_of (res1 rfl rfl) sub_nil (by intro r hr; cases hr) ⟨(congrArg (Value.int .i64) (by exact mod_yes h.1 h9)), rfl⟩
  · -- t9 False
    refine C_skip_then ?_
    refine C_seq ?_
    refine C_region ?_
    refine L_q rfl rfl rfl (q_move rfl) ?_
    refine L_q rfl rfl rfl (q_assign rfl) ?_
    refine L_then ?_
    refine C_ret ?_
    exact ret_of (res1 rfl rfl) sub_nil (by intro r hr; cases hr) ⟨(congrArg (Value.int .i64) (by exact mod_no h.1 h9)), rfl⟩
set_option maxRecDepth 100000 in
set_option maxHeartbeats 400000 in
theorem ct_shotlineref05_Reserves (t : Value) (r : Ru) (nm : ByteArray) (sf : Int) (v u : Value) (gs : List Gs) (ls : List Dl) (H : okPl sf gs ls) (HR : okRu r) (hT : secAt ls ls.length ≤ 20000) : Ct Try.prog 68 [.agg (cPl nm sf v u).toArray, .agg (cRu t r).toArray] [(v, 2, gs.map cGs), (u, 3, ls.map cDl), (t, 2, r.tb.map cOw)] (isSl 109 2 ((resM r sf gs ls).map cSw)) := by
  refine Ct.of (N := 62) Try.func68 rfl rfl rfl fun w => ?_
  refine C_weak (E' := [(0, .agg (cPl nm sf v u).toArray), (1, .agg (cRu t r).toArray)]) (rs' := [rd v 2 (gs.map cGs), rd u 3 (ls.map cDl), rd t 2 (r.tb.map cOw)]) ⟨rfl, rfl, trivial⟩ (fun _ h => h) ?_
  have hlp := len_map cGs gs
  have hl1 := len_map cGs gs
  have hl2 := len_map cDl ls
  have hgl := H.gl; have hTe := H.e ls.length (Nat.le_refl _)
  refine C_seq ?_
  refine C_region ?_
  refine L_box rfl rfl rfl fun g2 => ?_
  refine L_box rfl rfl rfl fun g3 => ?_
  refine L_q rfl rfl rfl (q_assign rfl) ?_
  refine L_then ?_
  refine C_seq ?_
  refine C_region ?_
  refine L_q rfl rfl rfl (q_assign rfl) ?_
  refine L_then ?_
  refine C_seq ?_
  refine C_seq ?_
  refine C_region ?_
  refine L_q rfl rfl rfl (q_assign rfl) ?_
  refine L_then ?_
  refine C_block ?_
  refine C_nil 109 2 ?_
  refine C_loop (ι := Nat × Value) (fun q => ([(2, .pointer (some ⟨g2, 0, none⟩)), (3, .pointer (some ⟨g3, 0, none⟩)), (5, q.2), (6, .int .i64 (q.1 : Int))], [sl q.2 109 2 (List.replicate q.1 (cSw (0, -1))), box g2 44 (cPl nm sf v u), box g3 28 (cRu t r), rd v 2 (gs.map cGs), rd u 3 (ls.map cDl), rd t 2 (r.tb.map cOw)])) (fun q => q.1 ≤ gs.length) (fun q => gs.length - q.1) (0, .slice none 0 0) (Nat.zero_le _) (fun a w hs => hs.weak ⟨rfl, rfl, rfl, rfl, trivial⟩ (fun h => h.pk (by repeat (first | with_reducible exact pk_nil | refine pk_box rfl ?_ | refine pk_rd rfl ?_ | refine pk_sl rfl ?_ | with_reducible refine pk_app ?_ | with_reducible refine pk_app0 ?_ | with_reducible refine pk_app0L ?_ | with_reducible exact pk_tl | refine pk_var ?_)))) ?_
  rintro ⟨k, y⟩ hk9
  dsimp only at hk9 ⊢
  refine C_seq ?_
  refine C_seq ?_
  refine C_region ?_
  refine L_q rfl rfl rfl (q_move rfl) ?_
  refine L_q rfl rfl rfl (q_field tb rfl rfl rfl) ?_
  refine L_q rfl rfl rfl (q_load tb rfl rfl bxo rfl) ?_
  refine L_q rfl rfl rfl (q_len tb rfl rfl (by first | exact gvo | exact gvd gvo (by omega))) ?_
  refine L_q rfl rfl rfl (q_lss rfl rfl) ?_
  refine L_then ?_
  refine C_dec rfl (fun h1 => ?_) (fun h1 => ?_)
  · -- t14 True
    refine C_skip_then ?_
    refine C_seq ?_
    refine C_block ?_
    refine C_region ?_
    refine L_q rfl rfl rfl (q_move rfl) ?_
    refine L_q rfl rfl rfl (by first | exact q_build tb rfl rfl rfl rfl | exact q_buildArr tb rfl rfl rfl rfl rfl) ?_
    refine L_mk (lo_bslice tb rfl rfl rfl (xs := [cSw (0, -1)]) rfl rfl (by simp [cSw]) rfl (by omega) rfl) rfl rfl rfl fun v19 => ?_
    first | (refine L_front1 ?_; refine L_append tb rfl rfl rfl (by omega) rfl rfl (by first | exact gvo | exact gvd gvo (by omega)) (by simp [Value.oneCell', cSw]) (by simp [maxLen, List.length_replicate]; omega) (by simp [List.length_replicate]; omega) rfl fun v20 => ?_) | (refine L_front2 ?_; refine L_append tb rfl rfl rfl (by omega) rfl rfl (by first | exact gvo | exact gvd gvo (by omega)) (by simp [Value.oneCell', cSw]) (by simp [maxLen, List.length_replicate]; omega) (by simp [List.length_replicate]; omega) rfl fun v20 => ?_) | (refine L_front3 ?_; refine L_append tb rfl rfl rfl (by omega) rfl rfl (by first | exact gvo | exact gvd gvo (by omega)) (by simp [Value.oneCell', cSw]) (by simp [maxLen, List.length_replicate]; omega) (by simp [List.length_replicate]; omega) rfl fun v20 => ?_) | (refine L_front4 ?_; refine L_append tb rfl rfl rfl (by omega) rfl rfl (by first | exact gvo | exact gvd gvo (by omega)) (by simp [Value.oneCell', cSw]) (by simp [maxLen, List.length_replicate]; omega) (by simp [List.length_replicate]; omega) rfl fun v20 => ?_) | (refine L_front5 ?_; refine L_append tb rfl rfl rfl (by omega) rfl rfl (by first | exact gvo | exact gvd gvo (by omega)) (by simp [Value.oneCell', cSw]) (by simp [maxLen, List.length_replicate]; omega) (by simp [List.length_replicate]; omega) rfl fun v20 => ?_) | (refine L_front6 ?_; refine L_append tb rfl rfl rfl (by omega) rfl rfl (by first | exact gvo | exact gvd gvo (by omega)) (by simp [Value.oneCell', cSw]) (by simp [maxLen, List.length_replicate]; omega) (by simp [List.length_replicate]; omega) rfl fun v20 => ?_) | (refine L_append tb rfl rfl rfl (by omega) rfl rfl (by first | exact gvo | exact gvd gvo (by omega)) (by simp [Value.oneCell', cSw]) (by simp [maxLen, List.length_replicate]; omega) (by simp [List.length_replicate]; omega) rfl fun v20 => ?_)
    refine L_q rfl rfl rfl (q_assign rfl) ?_
    refine L_blk ?_
    refine C_region ?_
    refine L_q rfl rfl rfl (q_move rfl) ?_
    refine L_q rfl rfl rfl (q_add rfl rfl (by first | exact IntWalk.i64_in _ (by omega) | rfl)) ?_
    refine L_q rfl rfl rfl (q_assign rfl) ?_
    refine L_end ?_
    exact fun ac_ wo_ hs_ => ⟨(k + 1, v20), (by dsimp only; omega), (by dsimp only; omega), hs_.weak ⟨rfl, rfl, rfl, rfl, trivial⟩ (fun h => h.pk (by repeat (first | with_reducible exact pk_nil | refine pk_box (by first | rfl | exact rs_rep _) ?_ | refine pk_rd rfl ?_ | refine pk_sl (by first | rfl | exact rs_rep _) ?_ | with_reducible refine pk_app ?_ | with_reducible refine pk_app0 ?_ | with_reducible refine pk_app0L ?_ | with_reducible exact pk_tl | refine pk_var ?_)))⟩
  · -- t14 False
    obtain rfl : k = gs.length := by omega
    refine C_exit ?_
    change C Try.prog _ _ _ _ _ _ _
    refine C_seq ?_
    refine C_seq ?_
    refine C_res (rs' := [sl y 109 2 ((resK r sf gs ls 0).map cSw), box g2 44 (cPl nm sf v u), box g3 28 (cRu t r), rd v 2 (gs.map cGs), rd u 3 (ls.map cDl), rd t 2 (r.tb.map cOw)]) (fun _ h => h.pk (by repeat (first | with_reducible exact pk_nil | refine pk_box (by first | rfl | exact rs_zero) ?_ | refine pk_rd rfl ?_ | refine pk_sl (by first | rfl | exact rs_zero) ?_ | with_reducible refine pk_app ?_ | with_reducible refine pk_app0 ?_ | with_reducible refine pk_app0L ?_ | with_reducible exact pk_tl | refine pk_var ?_))) ?_
    refine C_region ?_
    refine L_q rfl rfl rfl (q_assign rfl) ?_
    refine L_then ?_
    refine C_block ?_
    refine C_loop (ι := Nat) (fun j => ([(2, .pointer (some ⟨g2, 0, none⟩)), (3, .pointer (some ⟨g3, 0, none⟩)), (5, y), (7, .int .i64 (j : Int))], [sl y 109 2 ((resK r sf gs ls j).map cSw), box g2 44 (cPl nm sf v u), box g3 28 (cRu t r), rd v 2 (gs.map cGs), rd u 3 (ls.map cDl), rd t 2 (r.tb.map cOw)])) (fun j => j ≤ rnN ls ls.length ∧ (j : Int) ≤ secAt ls ls.length + 1) (fun j => (secAt ls ls.length + 1 - (j : Int)).toNat) 0 ⟨Nat.zero_le _, by show (0 : Int) ≤ _; omega⟩ (fun a w hs => hs.weak ⟨rfl, rfl, rfl, rfl, trivial⟩ (fun h => h.pk (by repeat (first | with_reducible exact pk_nil | refine pk_box rfl ?_ | refine pk_rd rfl ?_ | refine pk_sl rfl ?_ | with_reducible refine pk_app ?_ | with_reducible refine pk_app0 ?_ | with_reducible refine pk_app0L ?_ | with_reducible exact pk_tl | refine pk_var ?_)))) ?_
    rintro j ⟨hj9, hj8⟩
    dsimp only at hj9 hj8 ⊢
    refine C_seq ?_
    refine C_seq ?_
    refine C_region ?_
    refine L_q rfl rfl rfl (q_move rfl) ?_
    refine L_q rfl rfl rfl (q_loadA tb rfl rfl bxo rfl rfl) ?_
    refine L_call tb rfl rfl (ct_shotlineref02_Seconds nm sf v u gs ls H) (ps_cons (by first | exact gvo | exact gvd gvo (by omega)) (ps_cons (by first | exact gvo | exact gvd gvo (by omega)) no_ps)) rfl ?_
    refine L_q rfl rfl rfl (q_leq rfl rfl) ?_
    refine L_q rfl rfl rfl (q_move rfl) ?_
    refine L_dec (d := 25) rfl (fun hs => ?_) (fun hs => ?_)
    · -- t25 True
      refine L_qg rfl rfl rfl rfl rfl rfl rfl (q_field tb rfl rfl rfl) ?_
      refine L_qg rfl rfl rfl rfl rfl rfl rfl (q_load tb rfl rfl bxo rfl) ?_
      refine L_qg rfl rfl rfl rfl rfl rfl rfl (q_len tb rfl rfl (by first | exact gvo | exact gvd gvo (by omega))) ?_
      refine L_qg rfl rfl rfl rfl rfl rfl rfl (q_gtr rfl rfl) ?_
      refine L_q rfl rfl rfl (by first | exact q_pickT rfl rfl | exact q_pickF rfl rfl) ?_
      refine L_then ?_
      refine C_dec rfl (fun hln => ?_) (fun hln => ?_)
      · -- t30 True
        have h0 : 0 < ls.length := by omega
        have hMT := rnN_T H h0
        have hj : j < rnN ls ls.length := by omega
        have hgi := gN_in H hj; have hlr := resK_len (r := r) (sf := sf) (gs := gs) (ls := ls) j; have hlm := len_map cSw (resK r sf gs ls j)
        obtain ⟨x, hx⟩ := get_some (resK r sf gs ls j) (k := (gN ls j).toNat) (by omega)
        have helx := map_get cSw hx
        refine C_skip_then ?_
        refine C_seq ?_
        refine C_block ?_
        refine C_seq ?_
        refine C_region ?_
        refine L_q rfl rfl rfl (q_loadA tb rfl rfl bxo rfl rfl) ?_
        refine L_q rfl rfl rfl (q_loadA tb rfl rfl bxo rfl rfl) ?_
        refine L_q rfl rfl rfl (q_move rfl) ?_
        refine L_call tb rfl rfl (ct_shotlineref05_NeedAt t r nm sf v u gs ls H HR hT j (by omega) (by omega)) (ps_cons (by first | exact gvo | exact gvd gvo (by omega)) (ps_cons (by first | exact gvo | exact gvd gvo (by omega)) (ps_cons (by first | exact gvo | exact gvd gvo (by omega)) no_ps))) rfl ?_
        refine L_q rfl rfl rfl (q_move rfl) ?_
        refine L_q rfl rfl rfl (q_ext0 rfl) ?_
        refine L_q rfl rfl rfl (q_ext1 rfl) ?_
        refine L_q rfl rfl rfl (q_assign rfl) ?_
        refine L_q rfl rfl rfl (q_assign rfl) ?_
        refine L_then ?_
        refine C_seq ?_
        refine C_region ?_
        refine L_q rfl rfl rfl (q_move rfl) ?_
        refine L_q rfl rfl rfl (q_move rfl) ?_
        refine L_q rfl rfl rfl (by first | exact q_index tb rfl rfl rfl rfl (by first | exact gvo | exact gvd gvo (by omega)) (by omega) (by first | omega | (simp; done) | (simp; omega)) | exact q_indexP tb rfl rfl rfl rfl (by omega) (by omega)) ?_
        refine L_q rfl rfl rfl (q_fieldE tb rfl rfl rfl (by first | exact gvo | exact gvd gvo (by omega)) (by first | omega | (simp; done) | (simp; omega))) ?_
        refine L_q rfl rfl rfl (q_loadE tb rfl rfl (by first | exact gvo | exact gvd gvo (by omega)) (i := (gN ls j).toNat) (o := 1) (by omega) helx rfl) ?_
        refine L_q rfl rfl rfl (q_lss rfl rfl) ?_
        refine L_q rfl rfl rfl (q_move rfl) ?_
        refine L_dec (d := 46) rfl (fun hneg => ?_) (fun hneg => ?_)
        · -- t46 True
          refine L_skip rfl rfl rfl rfl rfl rfl rfl ?_
          refine L_skip rfl rfl rfl rfl rfl rfl rfl ?_
          refine L_skip rfl rfl rfl rfl rfl rfl rfl ?_
          refine L_skip rfl rfl rfl rfl rfl rfl rfl ?_
          refine L_skip rfl rfl rfl rfl rfl rfl rfl ?_
          refine L_skip rfl rfl rfl rfl rfl rfl rfl ?_
          refine L_skip rfl rfl rfl rfl rfl rfl rfl ?_
          refine L_q rfl rfl rfl (by first | exact q_pickT rfl rfl | exact q_pickF rfl rfl) ?_
          refine L_then ?_
          refine C_true rfl ?_
          refine C_region ?_
          refine L_q rfl rfl rfl (q_move rfl) ?_
          refine L_q rfl rfl rfl (q_move rfl) ?_
          refine L_q rfl rfl rfl (q_move rfl) ?_
          refine L_q rfl rfl rfl (q_move rfl) ?_
          refine L_q rfl rfl rfl (by first | exact q_build tb rfl rfl rfl rfl | exact q_buildArr tb rfl rfl rfl rfl rfl) ?_
          refine L_q rfl rfl rfl (by first | exact q_index tb rfl rfl rfl rfl (by first | exact gvo | exact gvd gvo (by omega)) (by omega) (by first | omega | (simp; done) | (simp; omega)) | exact q_indexP tb rfl rfl rfl rfl (by omega) (by omega)) ?_
          first | refine L_storeEl tb rfl rfl rfl rfl rfl rfl (i := (gN ls j).toNat) (by omega) (by omega) ?_ | (refine L_front1 ?_; refine L_storeEl tb rfl rfl rfl rfl rfl rfl (i := (gN ls j).toNat) (by omega) (by omega) ?_) | (refine L_front2 ?_; refine L_storeEl tb rfl rfl rfl rfl rfl rfl (i := (gN ls j).toNat) (by omega) (by omega) ?_) | (refine L_front3 ?_; refine L_storeEl tb rfl rfl rfl rfl rfl rfl (i := (gN ls j).toNat) (by omega) (by omega) ?_) | (refine L_front4 ?_; refine L_storeEl tb rfl rfl rfl rfl rfl rfl (i := (gN ls j).toNat) (by omega) (by omega) ?_) | (refine L_front5 ?_; refine L_storeEl tb rfl rfl rfl rfl rfl rfl (i := (gN ls j).toNat) (by omega) (by omega) ?_) | (refine L_front6 ?_; refine L_storeEl tb rfl rfl rfl rfl rfl rfl (i := (gN ls j).toNat) (by omega) (by omega) ?_)
          refine L_blk ?_
          refine C_region ?_
          refine L_q rfl rfl rfl (q_move rfl) ?_
          refine L_q rfl rfl rfl (q_add rfl rfl (by first | exact IntWalk.i64_in _ (by omega) | rfl)) ?_
          refine L_q rfl rfl rfl (q_assign rfl) ?_
          refine L_end ?_
          have hup9 : upP r sf gs ls j x := by unfold upP; omega
          have e9 := rs_yes hx hup9
          exact fun ac_ wo_ hs_ => ⟨j + 1, ⟨by omega, by omega⟩, (by dsimp only; omega), hs_.weak ⟨rfl, rfl, rfl, rfl, trivial⟩ (fun h => h.pk (by repeat (first | with_reducible exact pk_nil | refine pk_box (by first | rfl | exact e9) ?_ | refine pk_rd rfl ?_ | refine pk_sl (by first | rfl | exact e9) ?_ | with_reducible refine pk_app ?_ | with_reducible refine pk_app0 ?_ | with_reducible refine pk_app0L ?_ | with_reducible exact pk_tl | refine pk_var ?_)))⟩
        · -- t46 False
          refine L_qg rfl rfl rfl rfl rfl rfl rfl (q_move rfl) ?_
          refine L_qg rfl rfl rfl rfl rfl rfl rfl (q_move rfl) ?_
          refine L_qg rfl rfl rfl rfl rfl rfl rfl (q_move rfl) ?_
          refine L_qg rfl rfl rfl rfl rfl rfl rfl (by first | exact q_index tb rfl rfl rfl rfl (by first | exact gvo | exact gvd gvo (by omega)) (by omega) (by first | omega | (simp; done) | (simp; omega)) | exact q_indexP tb rfl rfl rfl rfl (by omega) (by omega)) ?_
          refine L_qg rfl rfl rfl rfl rfl rfl rfl (q_fieldE tb rfl rfl rfl (by first | exact gvo | exact gvd gvo (by omega)) (by first | omega | (simp; done) | (simp; omega))) ?_
          refine L_qg rfl rfl rfl rfl rfl rfl rfl (q_loadE tb rfl rfl (by first | exact gvo | exact gvd gvo (by omega)) (i := (gN ls j).toNat) (o := 0) (by omega) helx rfl) ?_
          refine L_qg rfl rfl rfl rfl rfl rfl rfl (q_gtr rfl rfl) ?_
          refine L_q rfl rfl rfl (by first | exact q_pickT rfl rfl | exact q_pickF rfl rfl) ?_
          refine L_then ?_
          refine C_dec rfl (fun hup => ?_) (fun hup => ?_)
          · -- t54 True
            refine C_region ?_
            refine L_q rfl rfl rfl (q_move rfl) ?_
            refine L_q rfl rfl rfl (q_move rfl) ?_
            refine L_q rfl rfl rfl (q_move rfl) ?_
            refine L_q rfl rfl rfl (q_move rfl) ?_
            refine L_q rfl rfl rfl (by first | exact q_build tb rfl rfl rfl rfl | exact q_buildArr tb rfl rfl rfl rfl rfl) ?_
            refine L_q rfl rfl rfl (by first | exact q_index tb rfl rfl rfl rfl (by first | exact gvo | exact gvd gvo (by omega)) (by omega) (by first | omega | (simp; done) | (simp; omega)) | exact q_indexP tb rfl rfl rfl rfl (by omega) (by omega)) ?_
            first | refine L_storeEl tb rfl rfl rfl rfl rfl rfl (i := (gN ls j).toNat) (by omega) (by omega) ?_ | (refine L_front1 ?_; refine L_storeEl tb rfl rfl rfl rfl rfl rfl (i := (gN ls j).toNat) (by omega) (by omega) ?_) | (refine L_front2 ?_; refine L_storeEl tb rfl rfl rfl rfl rfl rfl (i := (gN ls j).toNat) (by omega) (by omega) ?_) | (refine L_front3 ?_; refine L_storeEl tb rfl rfl rfl rfl rfl rfl (i := (gN ls j).toNat) (by omega) (by omega) ?_) | (refine L_front4 ?_; refine L_storeEl tb rfl rfl rfl rfl rfl rfl (i := (gN ls j).toNat) (by omega) (by omega) ?_) | (refine L_front5 ?_; refine L_storeEl tb rfl rfl rfl rfl rfl rfl (i := (gN ls j).toNat) (by omega) (by omega) ?_) | (refine L_front6 ?_; refine L_storeEl tb rfl rfl rfl rfl rfl rfl (i := (gN ls j).toNat) (by omega) (by omega) ?_)
            refine L_blk ?_
            refine C_region ?_
            refine L_q rfl rfl rfl (q_move rfl) ?_
            refine L_q rfl rfl rfl (q_add rfl rfl (by first | exact IntWalk.i64_in _ (by omega) | rfl)) ?_
            refine L_q rfl rfl rfl (q_assign rfl) ?_
            refine L_end ?_
            have hup9 : upP r sf gs ls j x := by unfold upP; omega
            have e9 := rs_yes hx hup9
            exact fun ac_ wo_ hs_ => ⟨j + 1, ⟨by omega, by omega⟩, (by dsimp only; omega), hs_.weak ⟨rfl, rfl, rfl, rfl, trivial⟩ (fun h => h.pk (by repeat (first | with_reducible exact pk_nil | refine pk_box (by first | rfl | exact e9) ?_ | refine pk_rd rfl ?_ | refine pk_sl (by first | rfl | exact e9) ?_ | with_reducible refine pk_app ?_ | with_reducible refine pk_app0 ?_ | with_reducible refine pk_app0L ?_ | with_reducible exact pk_tl | refine pk_var ?_)))⟩
          · -- t54 False
            refine C_skip_blk ?_
            refine C_region ?_
            refine L_q rfl rfl rfl (q_move rfl) ?_
            refine L_q rfl rfl rfl (q_add rfl rfl (by first | exact IntWalk.i64_in _ (by omega) | rfl)) ?_
            refine L_q rfl rfl rfl (q_assign rfl) ?_
            refine L_end ?_
            have hup9 : ¬ upP r sf gs ls j x := by unfold upP; omega
            have e9 := rs_no hx hup9
            exact fun ac_ wo_ hs_ => ⟨j + 1, ⟨by omega, by omega⟩, (by dsimp only; omega), hs_.weak ⟨rfl, rfl, rfl, rfl, trivial⟩ (fun h => h.pk (by repeat (first | with_reducible exact pk_nil | refine pk_box (by first | rfl | exact e9) ?_ | refine pk_rd rfl ?_ | refine pk_sl (by first | rfl | exact e9) ?_ | with_reducible refine pk_app ?_ | with_reducible refine pk_app0 ?_ | with_reducible refine pk_app0L ?_ | with_reducible exact pk_tl | refine pk_var ?_)))⟩
      · -- t30 False
        have hM : rnN ls ls.length ≤ j := by rw [show ls.length = 0 by omega]; exact Nat.zero_le _
        refine C_exit ?_
        change C Try.prog _ _ _ _ _ _ _
        refine C_seq ?_
        refine C_region ?_
        refine L_q rfl rfl rfl (q_move rfl) ?_
        refine L_q rfl rfl rfl (q_assign rfl) ?_
        refine L_then ?_
        refine C_ret ?_
        obtain rfl : j = rnN ls ls.length := by omega
        exact ret_of (rs' := [sl y 109 2 ((resM r sf gs ls).map cSw)]) (res1 rfl rfl) (fun w_ h_ => h_.pk (by repeat (first | with_reducible exact pk_nil | refine pk_box rfl ?_ | refine pk_rd rfl ?_ | refine pk_sl rfl ?_ | with_reducible refine pk_app ?_ | with_reducible refine pk_app0 ?_ | with_reducible refine pk_app0L ?_ | with_reducible exact pk_tl | refine pk_var ?_))) own1 rfl
    · -- t25 False
      have hM : rnN ls ls.length ≤ j := by
        rcases Nat.eq_zero_or_pos ls.length with h | h
        · rw [h]; exact Nat.zero_le _
        · have h9 := rnN_T H h; omega
      refine L_skip rfl rfl rfl rfl rfl rfl rfl ?_
      refine L_skip rfl rfl rfl rfl rfl rfl rfl ?_
      refine L_skip rfl rfl rfl rfl rfl rfl rfl ?_
      refine L_skip rfl rfl rfl rfl rfl rfl rfl ?_
      refine L_q rfl rfl rfl (by first | exact q_pickT rfl rfl | exact q_pickF rfl rfl) ?_
      refine L_then ?_
      refine C_false rfl ?_
      refine C_exit ?_
      change C Try.prog _ _ _ _ _ _ _
      refine C_seq ?_
      refine C_region ?_
      refine L_q rfl rfl rfl (q_move rfl) ?_
      refine L_q rfl rfl rfl (q_assign rfl) ?_
      refine L_then ?_
      refine C_ret ?_
      obtain rfl : j = rnN ls ls.length := by omega
      exact ret_of (rs' := [sl y 109 2 ((resM r sf gs ls).map cSw)]) (res1 rfl rfl) (fun w_ h_ => h_.pk (by repeat (first | with_reducible exact pk_nil | refine pk_box rfl ?_ | refine pk_rd rfl ?_ | refine pk_sl rfl ?_ | with_reducible refine pk_app ?_ | with_reducible refine pk_app0 ?_ | with_reducible refine pk_app0L ?_ | with_reducible exact pk_tl | refine pk_var ?_))) own1 rfl
end Go.Proofs.Ytolnohjbpllmhaa
