/-
  Walks: each function named returns what its model says. Conditions: those in front of each theorem.
-/
import Derived.Test.YtdmnejfpbbmcaaaShCopy
import Derived.Lib.AppendZeros
import Derived.Test.YtdmnejfpbbmcaaaPN
import Derived.Test.YtdmnejfpbbmcaaaPB
import Derived.Test.YtdmnejfpbbmcaaaShStop
namespace Go.Proofs.Ytdmnejfpbbmcaaa
open Go.RowKit
section
variable {P : Program} (T : Tab P) {N : Fr} {B : Nat} {w0 : World} {E : Env} {rs : List Res} {dst : Option Tmp} {ty : TypeId} {pos : String} {aft : Array Edge} {gd : Option (Nat × Bool)}
end
end Go.Proofs.Ytdmnejfpbbmcaaa
namespace Go.Proofs.Ytdmnejfpbbmcaaa
open Go.RowKit
section
variable {P : Program} (T : Tab P) {N : Fr} {B : Nat} {w0 : World} {E : Env} {rs : List Res} {dst : Option Tmp} {ty : TypeId} {pos : String} {aft : Array Edge} {gd : Option (Nat × Bool)}
theorem q_capF {t e m ts : TypeId} {x : Operand} {A : Option Addr} {n c : Nat} (he : lkT T.el t = some (e, m, false)) (hx : ev E x = some (.slice A n c)) :
    Qu P N B w0 E rs ⟨dst, .call { callee := .builtin .cap, args := #[x], argTypes := #[t] }, ts, pos, aft, gd⟩ (.int .i64 c) := by
  intro a w hs
  have ht : P.underlying t = some (.slice e) := by
    rcases T.el_ok _ (lkT_mem he) with ⟨_, h⟩ | ⟨h, _⟩
    · exact h
    · cases h
  simp [execOp, resolve, invoke, builtin, hs.eval hx, Builtin.cap_, run_underlying ht, goInt]
theorem q_lenF {t e m ts : TypeId} {x : Operand} {A : Option Addr} {n c : Nat} (he : lkT T.el t = some (e, m, false)) (hx : ev E x = some (.slice A n c)) :
    Qu P N B w0 E rs ⟨dst, .call { callee := .builtin .len, args := #[x], argTypes := #[t] }, ts, pos, aft, gd⟩ (.int .i64 n) := by
  intro a w hs
  have ht : P.underlying t = some (.slice e) := by
    rcases T.el_ok _ (lkT_mem he) with ⟨_, h⟩ | ⟨h, _⟩
    · exact h
    · cases h
  simp [execOp, resolve, invoke, builtin, hs.eval hx, Builtin.len_, run_underlying ht, goInt]
theorem q_to0 {t e m : TypeId} {ag : Bool} {sz bs g n c : Nat} {zs : List Value} {x y : Operand} {kd : IntKind} (he : lkT T.el t = some (e, m, false)) (ht : lkT T.ty e = some (ag, sz, bs, zs)) (hx : ev E x = some (.slice (some ⟨g, 0, none⟩) n c)) (hy : ev E y = some (.int kd 0)) :
    Qu P N B w0 E rs ⟨dst, .slice t x none (some y) none, ty, pos, aft, gd⟩ (.slice (some ⟨g, 0, none⟩) 0 c) := by
  have h := q_toF (N := N) (B := B) (w0 := w0) (rs := rs) (dst := dst) (ty := ty) (pos := pos) (aft := aft) (gd := gd) T he ht hx hy (Int.le_refl _) (by omega)
  have e2 : takeV (.slice (some ⟨g, 0, none⟩) n c) (0 : Int).toNat = .slice (some ⟨g, 0, none⟩) 0 c := by
    unfold takeV
    dsimp only
    by_cases hc : c = 0
    · rw [if_pos hc]; rfl
    · rw [if_neg hc]; rfl
  rw [e2] at h
  exact h
theorem lo_appZ {t tn e m : TypeId} {ag : Bool} {sz bs n : Nat} {zs : List Value} {kn : IntKind} {x y : Operand} (he : lkT T.el t = some (e, m, false)) (ht : lkT T.ty e = some (ag, sz, bs, zs)) (hzl : zs.length = sz) (hs0 : 0 < sz) (hk : P.underlying tn = some (.int kn))
    (hx : ev E x = some (.slice none 0 0)) (hy : ev E y = some (.int .i64 (n : Int))) (hn : 0 < n) (hb : n * bs ≤ 281474976710656) (hm : n ≤ maxLen) :
    Lo P N B w0 E rs ⟨dst, .call { callee := .builtin .append, args := #[x, y], argTypes := #[t, tn] }, ty, pos, aft, none⟩ (fun v rs' => ∃ g c, v = .slice (some ⟨g, 0, none⟩) n c ∧ rs' = [sl (.slice (some ⟨g, 0, none⟩) 0 c) e sz []]) := by
  intro a w hs
  obtain ⟨dd, i, z, _, hi, _, his, hib, hz, hzc⟩ := T.ty_ok _ (lkT_mem ht)
  simp only at hi his hib hzc
  have hu : P.underlying t = some (.slice e) := by
    rcases T.el_ok _ (lkT_mem he) with ⟨_, h⟩ | ⟨h, _⟩
    · exact h
    · cases h
  have hrun := Lib.run_append_nil_zeros (P := P) w t tn ty e i z .i64 kn hu hk hi hz n hn (by omega) (by unfold maxLen at hm; omega) (by rw [hib]; exact hb)
  have hge := grownCap_ge w n 0 e
  have hle := grownCap_le_maxLen w n 0 e hm
  generalize hc : grownCap w n 0 e = c at *
  have hzs : z.cells.size = sz := by rw [← hzl, ← hzc]; simp
  refine .inl ⟨.slice (some ⟨w.heap.size, 0, none⟩) n c, w.drew.alloc (.cells (Builtin.zeroCells z.cells n ++ Builtin.zeroCells z.cells (c - n)) e), [sl (.slice (some ⟨w.heap.size, 0, none⟩) 0 c) e sz []], by simp [execOp, resolve, invoke, builtin, hs.eval hx, hs.eval hy, hrun], ?_, ⟨_, _, rfl, rfl⟩, fun r hr => ?_, List.pairwise_singleton _ _⟩
  · exact ⟨rfl, rfl, rfl, by show w.heap.size ≤ (w.heap.push _).size; rw [Array.size_push]; omega, fun k hk => by show (w.heap.push _)[k]? = _; rw [Array.getElem?_push_lt hk, Array.getElem?_eq_getElem hk]⟩
  · rw [List.mem_singleton.1 hr]
    refine ⟨sl_ok.2 ⟨⟨by simp, .inr ⟨w.heap.size, c, Builtin.zeroCells z.cells n ++ Builtin.zeroCells z.cells (c - n), rfl, hs.ws.bas, ?_, Nat.zero_le _, hle, ?_, by simp⟩⟩, fun x hx => by cases hx⟩, fun k hk => ?_⟩
    · show (w.heap.push _)[w.heap.size]? = _
      simp
    · rw [Array.size_append, size_zeroCells, size_zeroCells, hzs, ← Nat.add_mul]
      congr 1
      omega
    · rw [sl_blk] at hk
      injection hk with hk
      exact Nat.le_of_eq hk
end
end Go.Proofs.Ytdmnejfpbbmcaaa
namespace Go.Proofs.Ytdmnejfpbbmcaaa
set_option maxRecDepth 100000
set_option maxHeartbeats 4000000
open Go.RowKit

end Go.Proofs.Ytdmnejfpbbmcaaa
namespace Go.Proofs.Ytdmnejfpbbmcaaa
set_option maxRecDepth 100000
set_option maxHeartbeats 4000000
open Go.RowKit

set_option maxRecDepth 100000 in
set_option maxHeartbeats 1000000 in
theorem ct_IndexFuncL (v b : Value) (l : List (Int × Int)) (c : Int) (hle : l.length ≤ 100000) : Ct Try.prog 82 [v, .func (.func 83) #[] #[elP b 0]] [(v, 2, l.map cSw), (b, 1, [cI c])] (isV (.int .i64 (ixZ l c))) := by
 refine Ct.of (N := 19) Try.func82 rfl rfl rfl fun w => ?_
 refine C_weak (E' := [(0, v), (1, .func (.func 83) #[] #[elP b 0])]) (rs' := [rd v 2 (l.map cSw), rd b 1 ([cI c])]) ⟨rfl, rfl, trivial⟩ (fun _ h => h) ?_
 have hl := len_map cSw l
 have hin0 := ixN_le l c
 refine C_seq ?_
 refine C_region ?_
 refine Jq (q_assign rfl) ?_
 refine L_then ?_
 refine C_seq ?_
 refine C_seq ?_
 refine C_region ?_
 refine Jq (q_move rfl) ?_
 refine Jq (q_len tb rfl rfl gvo) ?_
 refine Jq (q_move rfl) ?_
 refine L_then ?_
 refine C_block ?_
 refine C_loop (ι := Nat) (fun k => ([(0, v), (1, .func (.func 83) #[] #[elP b 0]), (6, v), (7, .int .i64 (l.map cSw).length), (8, .int .i64 (k : Int))], [rd v 2 (l.map cSw), rd b 1 [cI c]])) (fun k => k ≤ l.length ∧ ixN l c = k + ixN (l.drop k) c) (fun k => l.length - k) 0 ⟨Nat.zero_le _, (Nat.zero_add _).symm⟩ (fun a w hs => hs.weak ⟨rfl, rfl, rfl, rfl, rfl, trivial⟩ (fun h => h.pk (by repeat (first | with_reducible exact pk_nil | refine pk_box rfl ?_ | refine pk_rd rfl ?_ | refine pk_sl rfl ?_ | with_reducible refine pk_app ?_ | with_reducible refine pk_app0 ?_ | with_reducible refine pk_app0L ?_ | with_reducible exact pk_tl | refine pk_var ?_)))) ?_
 rintro k ⟨hk, hG⟩
 dsimp only at hk hG ⊢
 refine C_seq ?_
 refine C_region ?_
 refine Jq (q_lss rfl rfl) ?_
 refine L_then ?_
 refine C_seq ?_
 refine C_dec rfl (fun h1 => ?_) (fun h1 => ?_)
 obtain ⟨x, hx⟩ := get_some l (k := k) (by omega); have hel := map_get cSw hx; have hdc := drop_cons hx
 refine C_skip_then ?_
 refine C_seq ?_
 refine C_block ?_
 refine C_seq ?_
 refine C_region ?_
 refine Jq (q_move rfl) ?_
 refine Jq (q_assign rfl) ?_
 refine L_then ?_
 refine C_seq ?_
 refine C_region ?_
 refine Jq (q_move rfl) ?_
 refine Jq (q_move rfl) ?_
 refine Jq (q_move rfl) ?_
 refine Jq (by first | exact q_index tb rfl rfl rfl rfl gvo (by omega) (by first | omega | (simp; done) | (simp; omega)) | exact q_indexP tb rfl rfl rfl rfl (by omega) (by omega)) ?_
 refine Jq (by first | exact q_loadA tb rfl rfl bxo rfl rfl | exact q_loadEA tb rfl rfl gvo (i := k) (o := 0) (by omega) hel rfl rfl) ?_
 refine L_callC (tb.en_ok _ (lkT_mem (rfl : lkT tb.en 83 = some ()))) rfl rfl (ct_profile_track_leg_1 b x.1 x.2 c) (ps_cons gvo no_ps) rfl ?_
 refine L_then ?_
 refine C_dec rfl (fun hin => ?_) (fun hin => ?_)
 refine C_seq ?_
 refine C_region ?_
 refine Jq (q_move rfl) ?_
 refine Jq (q_assign rfl) ?_
 refine L_then ?_
 refine C_ret ?_
 have e9 : ixN l c = k := hG.trans (by rw [hdc, ixN_y hin]; rfl)
 exact ret_of (res1 rfl rfl) sub_nil (by intro r hr; cases hr) ⟨(congrArg (Value.int .i64) (by unfold ixZ; rw [e9, if_pos (by omega)])), rfl⟩
 refine C_skip_blk ?_
 refine C_region ?_
 refine Jq (q_add rfl rfl (by first | exact IntWalk.i64_in _ (by omega) | rfl)) ?_
 refine Jq (q_move rfl) ?_
 refine L_end ?_
 exact fun ac_ wo_ hs_ => ⟨k + 1, ⟨by omega, hG.trans (by rw [hdc, ixN_n hin]; omega)⟩, (by dsimp only; omega), hs_.weak ⟨rfl, rfl, rfl, rfl, rfl, trivial⟩ (fun h => h.pk (by repeat (first | with_reducible exact pk_nil | refine pk_box rfl ?_ | refine pk_rd rfl ?_ | refine pk_sl rfl ?_ | with_reducible refine pk_app ?_ | with_reducible refine pk_app0 ?_ | with_reducible refine pk_app0L ?_ | with_reducible exact pk_tl | refine pk_var ?_)))⟩
 have hdn : l.drop k = [] := List.drop_eq_nil_of_le (by omega)
 refine C_exit ?_
 change C Try.prog _ _ _ _ _ _ _
 refine C_seq ?_
 refine C_region ?_
 refine Jq (q_assign rfl) ?_
 refine L_then ?_
 refine C_ret ?_
 have e9 : ixN l c = k + 0 := hG.trans (by rw [hdn]; rfl)
 exact ret_of (res1 rfl rfl) sub_nil (by intro r hr; cases hr) ⟨(congrArg (Value.int .i64) (by unfold ixZ; rw [e9, if_neg (by omega)])), rfl⟩
set_option maxRecDepth 100000 in
set_option maxHeartbeats 1000000 in
theorem ct_legL (v : Value) (l : List (Int × Int)) (c : Int) (h1 : 1 ≤ l.length ∧ l.length ≤ 100000) : Ct Try.prog 56 [v, .int .i64 c] [(v, 2, l.map cSw)] (isV (.int .i64 (ixZ (l.drop 1) c + 1))) := by
 refine Ct.of (N := 10) Try.func56 rfl rfl rfl fun w => ?_
 refine C_weak (E' := [(0, v), (1, .int .i64 c)]) (rs' := [rd v 2 (l.map cSw)]) ⟨rfl, rfl, trivial⟩ (fun _ h => h) ?_
 have hl := len_map cSw l
 have hld : (l.drop 1).length = l.length - 1 := List.length_drop
 have hin := ixZ_in (l.drop 1) c
 refine C_seq ?_
 refine C_region ?_
 refine L_box rfl rfl rfl fun g3 => ?_
 refine Jq (q_assign rfl) ?_
 refine L_then ?_
 refine C_seq ?_
 refine C_region ?_
 refine Jq (q_move rfl) ?_
 refine Jq (q_from tb rfl rfl rfl rfl (by first | exact gvo | exact gvd gvo (by omega)) (by omega) (by first | omega | (simp; done) | (simp; omega))) ?_
 refine Jq (q_makeFunc rfl rfl) ?_
 refine L_call tb rfl rfl (ct_IndexFuncL (dropV v 1 2) (bxV g3) (l.drop 1) c (by omega)) (ps_cons (by rw [List.map_drop]; exact gvd gvo (by omega)) (ps_cons (gbx bxo rfl) no_ps)) rfl ?_
 refine Jq (q_add rfl rfl (by first | exact IntWalk.i64_in _ (by omega) | rfl)) ?_
 refine Jq (q_assign rfl) ?_
 refine L_then ?_
 refine C_ret ?_
 exact ret_of (res1 rfl rfl) sub_nil (by intro r hr; cases hr) ⟨(congrArg (Value.int .i64) (by omega)), rfl⟩
end Go.Proofs.Ytdmnejfpbbmcaaa
