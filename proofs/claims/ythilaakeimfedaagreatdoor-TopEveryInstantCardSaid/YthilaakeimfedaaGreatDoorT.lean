/-
  Walks: each function named returns what its model says. Conditions: those in front of each theorem.
-/
import Derived.Test.YthilaakeimfedaaGreatDoorArg
import Derived.Test.YthilaakeimfedaaGreatDoorMod8
import Derived.Test.YthilaakeimfedaaGreatDoorEnc
import Derived.Laws.CopyRow
import Derived.Test.YthilaakeimfedaaGreatDoorTab
namespace Go.Proofs.YthilaakeimfedaaGreatDoor
open Go.RowKit

set_option maxRecDepth 100000 in
theorem ct_tissue_lies (a b : Rg) : Ct Tryz.prog 162 [.agg (cRg a).toArray, .agg (cRg b).toArray] [] (isV (.bool (decide (b.lo ≤ a.lo ∧ a.hi ≤ b.hi)))) := by
 refine Ct.of (N := 17) Tryz.func162 rfl rfl rfl fun w => ?_
 refine C_weak (E' := [(0, .agg (cRg a).toArray), (1, .agg (cRg b).toArray)]) (rs' := []) ⟨rfl, rfl, trivial⟩ (fun _ h => h) ?_
 refine C_seq ?_
 refine C_region ?_
 refine L_box rfl rfl rfl fun g2 => ?_
 refine L_box rfl rfl rfl fun g3 => ?_
 refine Jq (q_assign rfl) ?_
 refine L_then ?_
 refine C_seq ?_
 refine C_region ?_
 refine Jq (q_field tb rfl rfl rfl) ?_
 refine Jq (q_load tb rfl rfl bxo rfl) ?_
 refine Jq (q_field tb rfl rfl rfl) ?_
 refine Jq (q_load tb rfl rfl bxo rfl) ?_
 refine Jq (q_leq rfl rfl) ?_
 refine Jq (q_move rfl) ?_
 refine L_dec (d := 10) rfl (fun h1 => ?_) (fun h1 => ?_)
 refine Jg (q_field tb rfl rfl rfl) ?_
 refine Jg (q_load tb rfl rfl bxo rfl) ?_
 refine Jg (q_field tb rfl rfl rfl) ?_
 refine Jg (q_load tb rfl rfl bxo rfl) ?_
 refine Jg (q_leq rfl rfl) ?_
 refine Jq (q_pickT rfl rfl) ?_
 refine Jq (q_assign rfl) ?_
 refine L_then ?_
 refine C_ret ?_
 exact ret_of (res1 rfl rfl) sub_nil (by intro r hr; cases hr) ⟨(by first | rfl | exact congrArg Value.bool (decide_eq_decide.2 (by omega)) | exact congrArg Value.bool (decide_eq_true (by omega)).symm | exact congrArg Value.bool (decide_eq_false (by omega)).symm | exact congrArg Value.bool (decide_eq_true (by omega))), rfl⟩
 iterate 5 refine Jk ?_
 refine Jq (q_pickF rfl rfl) ?_
 refine Jq (q_assign rfl) ?_
 refine L_then ?_
 refine C_ret ?_
 exact ret_of (res1 rfl rfl) sub_nil (by intro r hr; cases hr) ⟨(by first | rfl | exact congrArg Value.bool (decide_eq_decide.2 (by omega)) | exact congrArg Value.bool (decide_eq_true (by omega)).symm | exact congrArg Value.bool (decide_eq_false (by omega)).symm | exact congrArg Value.bool (decide_eq_true (by omega))), rfl⟩
set_option maxRecDepth 100000 in
theorem ct_tissue_Inside (v u : Value) (la lb : List Ld) (hle : la.length ≤ 1000000) (hle2 : lb.length ≤ 1000000) : Ct Tryz.prog 90 [v, u] [(v, 4, la.map cLd), (u, 4, lb.map cLd)] (isV (.tuple #[.bool (insV la lb), .int .i64 (insC la lb)])) := by
 refine Ct.of (N := 56) Tryz.func90 rfl rfl rfl fun w => ?_
 refine C_weak (E' := [(0, v), (1, u)]) (rs' := [rd v 4 (la.map cLd), rd u 4 (lb.map cLd)]) ⟨rfl, rfl, trivial⟩ (fun _ h => h) ?_
 have hl1 := len_map cLd la
 have hl2 := len_map cLd lb
 refine C_form (v := v) gr0 (fun Av cv hv _ => ?_)
 subst hv
 refine C_form (v := u) (gv1 gr0) (fun Au cu hu _ => ?_)
 subst hu
 refine C_seq ?_
 refine C_region ?_
 refine Jq (q_assign rfl) ?_
 refine Jq (q_assign rfl) ?_
 refine L_then ?_
 refine C_seq ?_
 refine C_seq ?_
 refine C_region ?_
 refine Jq (q_move rfl) ?_
 refine Jq (q_len tb rfl rfl gvo) ?_
 refine Jq (q_move rfl) ?_
 refine Jq (q_len tb rfl rfl gvo) ?_
 refine Jq (q_neq rfl rfl) ?_
 refine L_then ?_
 refine C_dec rfl (fun hlen => ?_) (fun hlen => ?_)
 refine C_seq ?_
 refine C_region ?_
 refine Jq (q_assign rfl) ?_
 refine Jq (q_assign rfl) ?_
 refine L_then ?_
 refine C_ret ?_
 rw [insV_no (by rw [insC_1 (by omega)]; decide), insC_1 (by omega)]
 exact ret_of (res2 rfl rfl rfl) sub_nil (by intro r hr; cases hr) ⟨rfl, rfl⟩
 refine C_skip_then ?_
 refine C_seq ?_
 refine C_seq ?_
 refine C_region ?_
 refine Jq (q_move rfl) ?_
 refine Jq (q_move rfl) ?_
 refine Jq (by first | exact q_build tb rfl rfl rfl rfl | exact q_buildArr tb rfl rfl rfl rfl rfl) ?_
 refine Jq (q_move rfl) ?_
 refine L_then ?_
 refine C_block ?_
 refine C_loop (ι := Nat) (fun i => ([(0, (.slice Av (la.map cLd).length cv)), (1, (.slice Au (lb.map cLd).length cu)), (18, .agg #[(.slice Av (la.map cLd).length cv), (.slice Au (lb.map cLd).length cu)]), (19, .int .i64 (i : Int))], [rd (.slice Av (la.map cLd).length cv) 4 (la.map cLd), rd (.slice Au (lb.map cLd).length cu) 4 (lb.map cLd)])) (fun i => i ≤ 2 ∧ (1 ≤ i → ckLds la = 0) ∧ (2 ≤ i → ckLds lb = 0)) (fun i => 2 - i) 0 ⟨by omega, fun h => absurd h (by omega), fun h => absurd h (by omega)⟩ (fun a w hs => hs.weak ⟨rfl, rfl, rfl, rfl, trivial⟩ (fun h => h.sub (by repeat (first | exact List.Sublist.refl _ | apply List.Sublist.cons_cons | apply List.Sublist.cons)))) ?_
 rintro i ⟨hi, ha, hb⟩
 dsimp only at hi ha hb ⊢
 refine C_seq ?_
 refine C_region ?_
 refine Jq (q_lss rfl rfl) ?_
 refine L_then ?_
 refine C_seq ?_
 refine C_dec rfl (fun h2 => ?_) (fun h2 => ?_)
 obtain rfl | rfl : i = 0 ∨ i = 1 := by omega
 refine C_skip_then ?_
 refine C_seq ?_
 refine C_block ?_
 refine C_seq ?_
 refine C_region ?_
 refine Jq (q_indexV tb rfl rfl rfl rfl (by omega) (by omega) rfl) ?_
 refine Jq (q_assign rfl) ?_
 refine L_then ?_
 refine C_seq ?_
 refine C_region ?_
 refine Jq (q_move rfl) ?_
 refine L_call tb rfl rfl (ct_tissue_checkLoads _ la hle) (ps_cons gvo no_ps) rfl ?_
 refine Jq (q_assign rfl) ?_
 refine L_then ?_
 refine C_seq ?_
 refine C_region ?_
 refine Jq (q_move rfl) ?_
 refine Jq (q_neq rfl rfl) ?_
 refine L_then ?_
 refine C_dec rfl (fun hc => ?_) (fun hc => ?_)
 refine C_seq ?_
 refine C_region ?_
 refine Jq (q_move rfl) ?_
 refine Jq (q_assign rfl) ?_
 refine Jq (q_assign rfl) ?_
 refine L_then ?_
 refine C_ret ?_
 rw [insV_no (by rw [insC_2 (by omega) hc]; exact hc), insC_2 (by omega) hc]
 exact ret_of (res2 rfl rfl rfl) sub_nil (by intro r hr; cases hr) ⟨rfl, rfl⟩
 refine C_skip_blk ?_
 refine C_region ?_
 refine Jq (q_add rfl rfl (by first | exact IntWalk.i64_in _ (by omega) | rfl)) ?_
 refine Jq (q_move rfl) ?_
 refine L_end ?_
 exact fun ac_ wo_ hs_ => ⟨1, ⟨by omega, fun _ => Decidable.not_not.1 hc, fun h => absurd h (by omega)⟩, (by dsimp only; omega), hs_.weak ⟨rfl, rfl, rfl, rfl, trivial⟩ (fun h => h.sub (by repeat (first | exact List.Sublist.refl _ | apply List.Sublist.cons_cons | apply List.Sublist.cons)))⟩
 refine C_skip_then ?_
 refine C_seq ?_
 refine C_block ?_
 refine C_seq ?_
 refine C_region ?_
 refine Jq (q_indexV tb rfl rfl rfl rfl (by omega) (by omega) rfl) ?_
 refine Jq (q_assign rfl) ?_
 refine L_then ?_
 refine C_seq ?_
 refine C_region ?_
 refine Jq (q_move rfl) ?_
 refine L_call tb rfl rfl (ct_tissue_checkLoads _ lb hle2) (ps_cons gvo no_ps) rfl ?_
 refine Jq (q_assign rfl) ?_
 refine L_then ?_
 refine C_seq ?_
 refine C_region ?_
 refine Jq (q_move rfl) ?_
 refine Jq (q_neq rfl rfl) ?_
 refine L_then ?_
 refine C_dec rfl (fun hc => ?_) (fun hc => ?_)
 refine C_seq ?_
 refine C_region ?_
 refine Jq (q_move rfl) ?_
 refine Jq (q_assign rfl) ?_
 refine Jq (q_assign rfl) ?_
 refine L_then ?_
 refine C_ret ?_
 rw [insV_no (by rw [insC_3 (by omega) (ha (by omega))]; exact hc), insC_3 (by omega) (ha (by omega))]
 exact ret_of (res2 rfl rfl rfl) sub_nil (by intro r hr; cases hr) ⟨rfl, rfl⟩
 refine C_skip_blk ?_
 refine C_region ?_
 refine Jq (q_add rfl rfl (by first | exact IntWalk.i64_in _ (by omega) | rfl)) ?_
 refine Jq (q_move rfl) ?_
 refine L_end ?_
 exact fun ac_ wo_ hs_ => ⟨2, ⟨by omega, fun _ => ha (by omega), fun _ => Decidable.not_not.1 hc⟩, (by dsimp only; omega), hs_.weak ⟨rfl, rfl, rfl, rfl, trivial⟩ (fun h => h.sub (by repeat (first | exact List.Sublist.refl _ | apply List.Sublist.cons_cons | apply List.Sublist.cons)))⟩
 have hi2 : i = 2 := by omega
 subst hi2
 refine C_exit ?_
 change C Tryz.prog _ _ _ _ _ _ _
 refine C_seq ?_
 refine C_seq ?_
 refine C_region ?_
 refine Jq (q_move rfl) ?_
 refine Jq (q_len tb rfl rfl gvo) ?_
 refine Jq (q_move rfl) ?_
 refine L_then ?_
 refine C_block ?_
 refine C_loop (ι := Nat) (fun k => ([(1, (.slice Au (lb.map cLd).length cu)), (28, (.slice Av (la.map cLd).length cv)), (29, .int .i64 (la.map cLd).length), (30, .int .i64 k)], [rd (.slice Av (la.map cLd).length cv) 4 (la.map cLd), rd (.slice Au (lb.map cLd).length cu) 4 (lb.map cLd)])) (fun k => k ≤ la.length ∧ (insP (la.drop k) (lb.drop k) ↔ insP la lb)) (fun k => la.length - k) 0 ⟨Nat.zero_le _, Iff.rfl⟩ (fun a w hs => hs.weak ⟨rfl, rfl, rfl, rfl, trivial⟩ (fun h => h.sub (by repeat (first | exact List.Sublist.refl _ | apply List.Sublist.cons_cons | apply List.Sublist.cons)))) ?_
 rintro k ⟨hk, hf⟩
 dsimp only at hk hf ⊢
 refine C_seq ?_
 refine C_region ?_
 refine Jq (q_lss rfl rfl) ?_
 refine L_then ?_
 refine C_seq ?_
 refine C_dec rfl (fun h5 => ?_) (fun h5 => ?_)
 obtain ⟨x, hex⟩ := get_some la (k := k) (by omega); obtain ⟨y, hey⟩ := get_some lb (k := k) (by omega); have helx := map_get cLd hex; have hely := map_get cLd hey; have hst := all2_step (R := in1) hex hey
 refine C_skip_then ?_
 refine C_seq ?_
 refine C_block ?_
 refine C_seq ?_
 refine C_region ?_
 refine Jq (q_move rfl) ?_
 refine Jq (by first | exact q_index tb rfl rfl rfl rfl gvo (by omega) (by first | omega | (simp; done) | (simp; omega)) | exact q_indexP tb rfl rfl rfl rfl (by omega) (by omega)) ?_
 refine Jq (q_loadEA tb rfl rfl gvo (i := k) (o := 0) (by omega) helx rfl rfl) ?_
 refine L_alloc tb rfl rfl fun g10 => ?_
 refine Jq (q_assign rfl) ?_
 refine L_st tb rfl rfl ?_
 refine L_then ?_
 refine C_seq ?_
 refine C_draw (n := 20) [(0, false), (1, false), (2, false), (3, false), (4, false), (5, false), (6, false), (7, true), (8, false), (9, false), (10, false), (11, false), (12, false), (13, false), (14, false), (15, false), (16, false), (17, true), (18, false), (19, false)] mixed (by kernel_rfl) ?_
 refine Yq rfl (q_field tb rfl rfl rfl) ?_
 refine Yq rfl (q_loadA tb rfl rfl bxo rfl rfl) ?_
 refine Yq rfl (q_move rfl) ?_
 refine Yq rfl (q_move rfl) ?_
 refine Yq rfl (by first | exact q_index tb rfl rfl rfl rfl gvo (by omega) (by first | omega | (simp; done) | (simp; omega)) | exact q_indexP tb rfl rfl rfl rfl (by omega) (by omega)) ?_
 refine Yq rfl (q_fieldE tb rfl rfl rfl gvo (by first | omega | (simp; done) | (simp; omega))) ?_
 refine Yq rfl (q_loadEA tb rfl rfl gvo (i := k) (o := 0) (by omega) hely rfl rfl) ?_
 refine W_call tb rfl rfl rfl rfl (ct_tissue_lies x.n y.n) no_ps rfl ?_
 refine Yq rfl (q_not rfl decide_not.symm) ?_
 refine Yq rfl (q_move rfl) ?_
 refine W_dec (d := 44) rfl (fun h6 => ?_) (fun h6 => ?_)
 refine Yk rfl ?_
 refine Yk rfl ?_
 refine Yk rfl ?_
 refine Yk rfl ?_
 refine Yk rfl ?_
 refine Yk rfl ?_
 refine Yk rfl ?_
 refine Ykl rfl ?_
 refine Yk rfl ?_
 refine Yq rfl (q_pickT rfl rfl) ?_
 refine W_nil ?_
 refine L_then ?_
 refine C_true rfl ?_
 have hno : ¬ insP la lb := fun hh => by have h9 := (hst.1 (hf.2 hh)).1; unfold in1 at h9; omega
 refine C_seq ?_
 refine C_region ?_
 refine Jq (q_assign rfl) ?_
 refine Jq (q_assign rfl) ?_
 refine L_then ?_
 refine C_ret ?_
 have hz : insC la lb = 0 := by rw [insC_3 (by omega) (ha (by omega))]; exact hb (by omega)
 rw [hz, show insV la lb = false from decide_eq_false fun hh => hno hh.2]
 exact ret_of (res2 rfl rfl rfl) sub_nil (by intro r hr; cases hr) ⟨rfl, rfl⟩
 refine Yg rfl (q_field tb rfl rfl rfl) ?_
 refine Yg rfl (q_loadA tb rfl rfl bxo rfl rfl) ?_
 refine Yg rfl (q_move rfl) ?_
 refine Yg rfl (q_move rfl) ?_
 refine Yg rfl (by first | exact q_index tb rfl rfl rfl rfl gvo (by omega) (by first | omega | (simp; done) | (simp; omega)) | exact q_indexP tb rfl rfl rfl rfl (by omega) (by omega)) ?_
 refine Yg rfl (q_fieldE tb rfl rfl rfl gvo (by first | omega | (simp; done) | (simp; omega))) ?_
 refine Yg rfl (q_loadEA tb rfl rfl gvo (i := k) (o := 2) (by omega) hely rfl rfl) ?_
 refine W_callg tb rfl rfl rfl rfl rfl rfl rfl rfl (ct_tissue_lies x.h y.h) no_ps rfl ?_
 refine Yg rfl (q_not rfl decide_not.symm) ?_
 refine Yq rfl (q_pickF rfl rfl) ?_
 refine W_nil ?_
 refine L_then ?_
 refine C_dec rfl (fun h8 => ?_) (fun h8 => ?_)
 have hno : ¬ insP la lb := fun hh => by have h9 := (hst.1 (hf.2 hh)).1; unfold in1 at h9; omega
 refine C_seq ?_
 refine C_region ?_
 refine Jq (q_assign rfl) ?_
 refine Jq (q_assign rfl) ?_
 refine L_then ?_
 refine C_ret ?_
 have hz : insC la lb = 0 := by rw [insC_3 (by omega) (ha (by omega))]; exact hb (by omega)
 rw [hz, show insV la lb = false from decide_eq_false fun hh => hno hh.2]
 exact ret_of (res2 rfl rfl rfl) sub_nil (by intro r hr; cases hr) ⟨rfl, rfl⟩
 refine C_skip_blk ?_
 refine C_region ?_
 refine Jq (q_add rfl rfl (by first | exact IntWalk.i64_in _ (by omega) | rfl)) ?_
 refine Jq (q_move rfl) ?_
 refine L_end ?_
 exact fun ac_ wo_ hs_ => ⟨k + 1, ⟨by omega, by rw [← hf]; exact ⟨fun h => hst.2 ⟨by unfold in1; omega, h⟩, fun h => (hst.1 h).2⟩⟩, (by dsimp only; omega), hs_.weak ⟨rfl, rfl, rfl, rfl, trivial⟩ (fun h => h.sub (by repeat (first | exact List.Sublist.refl _ | apply List.Sublist.cons_cons | apply List.Sublist.cons)))⟩
 refine C_exit ?_
 change C Tryz.prog _ _ _ _ _ _ _
 refine C_seq ?_
 refine C_region ?_
 refine Jq (q_assign rfl) ?_
 refine Jq (q_assign rfl) ?_
 refine L_then ?_
 refine C_ret ?_
 have hz : insC la lb = 0 := by rw [insC_3 (by omega) (ha (by omega))]; exact hb (by omega)
 rw [hz, show insV la lb = true from decide_eq_true ⟨hz, hf.1 (all2_end (by omega))⟩]
 exact ret_of (res2 rfl rfl rfl) sub_nil (by intro r hr; cases hr) ⟨rfl, rfl⟩
end Go.Proofs.YthilaakeimfedaaGreatDoor
namespace Go.Proofs.YthilaakeimfedaaGreatDoor

def satL (g : Gs) (p : Int) : Ld := ⟨⟨(1000 - g.o - g.h) * (p - 63), (1000 - g.o - g.h) * (p - 63)⟩, ⟨g.h * (p - 63), g.h * (p - 63)⟩⟩
def satM (ts : List Cp) (g : Gs) (p : Int) : List Ld := List.replicate ts.length (satL g p)
section
variable {ts : List Cp} {g : Gs} {p : Int}
theorem satM_len : (satM ts g p).length = ts.length := List.length_replicate
structure okSat (ts : List Cp) (g : Gs) (p : Int) : Prop where
  t : 1 ≤ ts.length ∧ ts.length ≤ 16
  c : ∀ c ∈ ts, okCp c
  g : 0 ≤ g.o ∧ 0 ≤ g.h ∧ g.o + g.h ≤ 1000
  p : 400 ≤ p ∧ p ≤ 31100
theorem okSat.loads (h : okSat ts g p) : okTL ts (satM ts g p) := by
  have hA := breath_in (n := 1000 - g.o - g.h) (p := p) (by have := h.g; omega) (by have := h.p; omega)
  have hB := breath_in (n := g.h) (p := p) (by have := h.g; omega) (by have := h.p; omega)
  have key : ∀ y ∈ satM ts g p, y = satL g p := fun y hy => List.eq_of_mem_replicate hy
  refine ⟨h.t.1, h.t.2, satM_len, h.c, fun y hy => ?_, fun y hy => ?_⟩
  · rw [key y hy]
    exact ⟨⟨hA.1, hA.2, hA.1, hA.2⟩, ⟨hB.1, hB.2, hB.1, hB.2⟩⟩
  · rw [key y hy]
    exact ⟨Int.le_refl _, Int.le_refl _⟩
end
end Go.Proofs.YthilaakeimfedaaGreatDoor
namespace Go.Proofs.YthilaakeimfedaaGreatDoor
open Go.RowKit

theorem add_zero (a : Addr) : a.add 0 = a := by unfold Addr.add; simp
section
variable {P : Program} (T : Tab P) {Q : Exit → Act → World → Prop} {ops : Array Oper} {N : Fr} {B : Nat} {w0 : World} {E : Env} {rs : List Res} {rest : List Oper} {dst : Option Tmp} {ty : TypeId} {pos : String} {aft : Array Edge} {gd : Option (Nat × Bool)}
def CpTo (v : Value) (sz k : Nat) (d : Value) : Prop := (d = v ∧ k = 0) ∨ d = dropV v k sz
theorem CpTo.from {v : Value} {sz k : Nat} : CpTo v sz k (dropV v k sz) := .inr rfl
end
end Go.Proofs.YthilaakeimfedaaGreatDoor
namespace Go.Proofs.YthilaakeimfedaaGreatDoor
set_option maxRecDepth 100000
set_option maxHeartbeats 4000000
open Go.RowKit

end Go.Proofs.YthilaakeimfedaaGreatDoor
namespace Go.Proofs.YthilaakeimfedaaGreatDoor
open Go.RowKit

end Go.Proofs.YthilaakeimfedaaGreatDoor
namespace Go.Proofs.YthilaakeimfedaaGreatDoor
open Go.RowKit

set_option maxRecDepth 100000 in
theorem ct_tissue_breaks (v u : Value) (p f : Int) (ts : List Cp) (ls : List Ld) (hk : okTL ts ls) (hp : 0 ≤ p ∧ p ≤ 50000) (hf : 0 ≤ f ∧ f ≤ 1000) : Ct Tryz.prog 138 [v, u, .int .i64 p, .int .i64 f] [(v, 4, ts.map cCp), (u, 4, ls.map cLd)] (isV (.bool (decide (¬ lowP p f ts ls)))) := by
 refine Ct.of (N := 31) Tryz.func138 rfl rfl rfl fun w => ?_
 refine C_weak (E' := [(0, v), (1, u), (2, .int .i64 p), (3, .int .i64 f)]) (rs' := [rd v 4 (ts.map cCp), rd u 4 (ls.map cLd)]) ⟨rfl, rfl, rfl, rfl, trivial⟩ (fun _ h => h) ?_
 have hl := len_map cCp ts
 have hl2 := len_map cLd ls
 have hkb := hk.b; have hkl2 := hk.len
 refine C_seq ?_
 refine C_region ?_
 refine Jq (q_assign rfl) ?_
 refine L_then ?_
 refine C_seq ?_
 refine C_seq ?_
 refine C_region ?_
 refine Jq (q_move rfl) ?_
 refine Jq (q_len tb rfl rfl gvo) ?_
 refine Jq (q_move rfl) ?_
 refine L_then ?_
 refine C_block ?_
 refine C_loop (ι := Nat) (fun k => ([(1, u), (2, .int .i64 p), (3, .int .i64 f), (11, v), (12, .int .i64 (ts.map cCp).length), (13, .int .i64 k)], [rd v 4 (ts.map cCp), rd u 4 (ls.map cLd)])) (fun k => k ≤ ts.length ∧ (all2 (lw1 p f) (ts.drop k) (ls.drop k) ↔ all2 (lw1 p f) ts ls)) (fun k => ts.length - k) 0 ⟨Nat.zero_le _, Iff.rfl⟩ (fun a w hs => hs.weak ⟨rfl, rfl, rfl, rfl, rfl, rfl, trivial⟩ (fun h => h.sub (by repeat (first | exact List.Sublist.refl _ | apply List.Sublist.cons_cons | apply List.Sublist.cons)))) ?_
 rintro k ⟨hkl, hf9⟩
 dsimp only at hkl hf9 ⊢
 refine C_seq ?_
 refine C_region ?_
 refine Jq (q_lss rfl rfl) ?_
 refine L_then ?_
 refine C_seq ?_
 refine C_dec rfl (fun h1 => ?_) (fun h1 => ?_)
 obtain ⟨c, hec⟩ := get_some ts (k := k) (by omega); obtain ⟨x, hex⟩ := get_some ls (k := k) (by omega); have helc := map_get cCp hec; have helx := map_get cLd hex; have hck := hk.c c (List.mem_of_getElem? hec); have hxi := hk.x x (List.mem_of_getElem? hex); have x1 := hxi.1.a; have x2 := hxi.1.b; have x3 := hxi.1.c; have x4 := hxi.1.e; have x5 := hxi.2.a; have x6 := hxi.2.b; have x7 := hxi.2.c; have x8 := hxi.2.e; have hst := all2_step (R := lw1 p f) hec hex
 refine C_skip_then ?_
 refine C_seq ?_
 refine C_block ?_
 refine C_seq ?_
 refine C_region ?_
 refine Jq (q_move rfl) ?_
 refine Jq (by first | exact q_index tb rfl rfl rfl rfl gvo (by omega) (by first | omega | (simp; done) | (simp; omega)) | exact q_indexP tb rfl rfl rfl rfl (by omega) (by omega)) ?_
 refine Jq (q_loadEA tb rfl rfl gvo (i := k) (o := 0) (by omega) helc rfl rfl) ?_
 refine L_alloc tb rfl rfl fun g10 => ?_
 refine Jq (q_assign rfl) ?_
 refine L_st tb rfl rfl ?_
 refine L_then ?_
 refine C_seq ?_
 refine C_draw (n := 12) [(0, false), (1, false), (2, false), (3, false), (7, false), (8, false), (9, false), (4, true), (5, false), (6, false), (10, true), (11, false)] mixed (by kernel_rfl) ?_
 refine Yq rfl (q_move rfl) ?_
 refine Yq rfl (q_move rfl) ?_
 refine Yq rfl (by first | exact q_index tb rfl rfl rfl rfl gvo (by omega) (by first | omega | (simp; done) | (simp; omega)) | exact q_indexP tb rfl rfl rfl rfl (by omega) (by omega)) ?_
 refine Yq rfl (q_loadEA tb rfl rfl gvo (i := k) (o := 0) (by omega) helx rfl rfl) ?_
 refine Yq rfl (q_loadA tb rfl rfl bxo rfl rfl) ?_
 refine Yq rfl (q_move rfl) ?_
 refine Yq rfl (q_move rfl) ?_
 refine W_call tb rfl rfl rfl rfl (ct_tissue_total x hxi) no_ps rfl ?_
 refine Yq rfl (by first | exact q_fieldV (off := 0) (sz := 1) (by kernel_rfl) rfl rfl | exact q_fieldVA (off := 0) (sz := 1) (by kernel_rfl) rfl rfl) ?_
 have hlim := lim_in hck hp hf
 refine Yq rfl (q_mul rfl rfl (by first | exact IntWalk.i64_in _ (by omega) | rfl)) ?_
 refine W_call tb rfl rfl rfl rfl (ct_tissue_limit c p f hck hp hf) no_ps rfl ?_
 refine Yq rfl (q_gtr rfl rfl) ?_
 refine W_nil ?_
 refine L_then ?_
 refine C_dec rfl (fun h2 => ?_) (fun h2 => ?_)
 have hno : ¬ all2 (lw1 p f) ts ls := fun hh => by have h9 := (hst.1 (hf9.2 hh)).1; unfold lw1 at h9; omega
 refine C_seq ?_
 refine C_region ?_
 refine Jq (q_assign rfl) ?_
 refine L_then ?_
 refine C_ret ?_
 exact ret_of (res1 rfl rfl) sub_nil (by intro r hr; cases hr) ⟨(congrArg Value.bool (decide_eq_true hno).symm), rfl⟩
 refine C_skip_blk ?_
 refine C_region ?_
 refine Jq (q_add rfl rfl (by first | exact IntWalk.i64_in _ (by omega) | rfl)) ?_
 refine Jq (q_move rfl) ?_
 refine L_end ?_
 exact fun ac_ wo_ hs_ => ⟨k + 1, ⟨by omega, by rw [← hf9]; exact ⟨fun h => hst.2 ⟨by unfold lw1; omega, h⟩, fun h => (hst.1 h).2⟩⟩, (by dsimp only; omega), hs_.weak ⟨rfl, rfl, rfl, rfl, rfl, rfl, trivial⟩ (fun h => h.sub (by repeat (first | exact List.Sublist.refl _ | apply List.Sublist.cons_cons | apply List.Sublist.cons)))⟩
 refine C_exit ?_
 change C Tryz.prog _ _ _ _ _ _ _
 refine C_seq ?_
 refine C_region ?_
 refine Jq (q_assign rfl) ?_
 refine L_then ?_
 refine C_ret ?_
 exact ret_of (res1 rfl rfl) sub_nil (by intro r hr; cases hr) ⟨(congrArg Value.bool (decide_eq_false (fun h => h (hf9.1 (all2_end (by omega))))).symm), rfl⟩
set_option maxRecDepth 100000 in
theorem ct_tissue_holds (v u : Value) (p f : Int) (ts : List Cp) (ls : List Ld) (hk : okTL ts ls) (hp : 0 ≤ p ∧ p ≤ 50000) (hf : 0 ≤ f ∧ f ≤ 1000) : Ct Tryz.prog 137 [v, u, .int .i64 p, .int .i64 f] [(v, 4, ts.map cCp), (u, 4, ls.map cLd)] (isV (.bool (decide (holdP p f ts ls)))) := by
 refine Ct.of (N := 31) Tryz.func137 rfl rfl rfl fun w => ?_
 refine C_weak (E' := [(0, v), (1, u), (2, .int .i64 p), (3, .int .i64 f)]) (rs' := [rd v 4 (ts.map cCp), rd u 4 (ls.map cLd)]) ⟨rfl, rfl, rfl, rfl, trivial⟩ (fun _ h => h) ?_
 have hl := len_map cCp ts
 have hl2 := len_map cLd ls
 have hkb := hk.b; have hkl2 := hk.len
 refine C_seq ?_
 refine C_region ?_
 refine Jq (q_assign rfl) ?_
 refine L_then ?_
 refine C_seq ?_
 refine C_seq ?_
 refine C_region ?_
 refine Jq (q_move rfl) ?_
 refine Jq (q_len tb rfl rfl gvo) ?_
 refine Jq (q_move rfl) ?_
 refine L_then ?_
 refine C_block ?_
 refine C_loop (ι := Nat) (fun k => ([(1, u), (2, .int .i64 p), (3, .int .i64 f), (11, v), (12, .int .i64 (ts.map cCp).length), (13, .int .i64 k)], [rd v 4 (ts.map cCp), rd u 4 (ls.map cLd)])) (fun k => k ≤ ts.length ∧ (all2 (up1 p f) (ts.drop k) (ls.drop k) ↔ all2 (up1 p f) ts ls)) (fun k => ts.length - k) 0 ⟨Nat.zero_le _, Iff.rfl⟩ (fun a w hs => hs.weak ⟨rfl, rfl, rfl, rfl, rfl, rfl, trivial⟩ (fun h => h.sub (by repeat (first | exact List.Sublist.refl _ | apply List.Sublist.cons_cons | apply List.Sublist.cons)))) ?_
 rintro k ⟨hkl, hf9⟩
 dsimp only at hkl hf9 ⊢
 refine C_seq ?_
 refine C_region ?_
 refine Jq (q_lss rfl rfl) ?_
 refine L_then ?_
 refine C_seq ?_
 refine C_dec rfl (fun h1 => ?_) (fun h1 => ?_)
 obtain ⟨c, hec⟩ := get_some ts (k := k) (by omega); obtain ⟨x, hex⟩ := get_some ls (k := k) (by omega); have helc := map_get cCp hec; have helx := map_get cLd hex; have hck := hk.c c (List.mem_of_getElem? hec); have hxi := hk.x x (List.mem_of_getElem? hex); have x1 := hxi.1.a; have x2 := hxi.1.b; have x3 := hxi.1.c; have x4 := hxi.1.e; have x5 := hxi.2.a; have x6 := hxi.2.b; have x7 := hxi.2.c; have x8 := hxi.2.e; have hst := all2_step (R := up1 p f) hec hex
 refine C_skip_then ?_
 refine C_seq ?_
 refine C_block ?_
 refine C_seq ?_
 refine C_region ?_
 refine Jq (q_move rfl) ?_
 refine Jq (by first | exact q_index tb rfl rfl rfl rfl gvo (by omega) (by first | omega | (simp; done) | (simp; omega)) | exact q_indexP tb rfl rfl rfl rfl (by omega) (by omega)) ?_
 refine Jq (q_loadEA tb rfl rfl gvo (i := k) (o := 0) (by omega) helc rfl rfl) ?_
 refine L_alloc tb rfl rfl fun g10 => ?_
 refine Jq (q_assign rfl) ?_
 refine L_st tb rfl rfl ?_
 refine L_then ?_
 refine C_seq ?_
 refine C_draw (n := 12) [(0, false), (1, false), (2, false), (3, false), (7, false), (8, false), (9, false), (4, true), (5, false), (6, false), (10, true), (11, false)] mixed (by kernel_rfl) ?_
 refine Yq rfl (q_move rfl) ?_
 refine Yq rfl (q_move rfl) ?_
 refine Yq rfl (by first | exact q_index tb rfl rfl rfl rfl gvo (by omega) (by first | omega | (simp; done) | (simp; omega)) | exact q_indexP tb rfl rfl rfl rfl (by omega) (by omega)) ?_
 refine Yq rfl (q_loadEA tb rfl rfl gvo (i := k) (o := 0) (by omega) helx rfl rfl) ?_
 refine Yq rfl (q_loadA tb rfl rfl bxo rfl rfl) ?_
 refine Yq rfl (q_move rfl) ?_
 refine Yq rfl (q_move rfl) ?_
 refine W_call tb rfl rfl rfl rfl (ct_tissue_total x hxi) no_ps rfl ?_
 refine Yq rfl (by first | exact q_fieldV (off := 1) (sz := 1) (by kernel_rfl) rfl rfl | exact q_fieldVA (off := 1) (sz := 1) (by kernel_rfl) rfl rfl) ?_
 have hlim := lim_in hck hp hf
 refine Yq rfl (q_mul rfl rfl (by first | exact IntWalk.i64_in _ (by omega) | rfl)) ?_
 refine W_call tb rfl rfl rfl rfl (ct_tissue_limit c p f hck hp hf) no_ps rfl ?_
 refine Yq rfl (q_gtr rfl rfl) ?_
 refine W_nil ?_
 refine L_then ?_
 refine C_dec rfl (fun h2 => ?_) (fun h2 => ?_)
 have hno : ¬ all2 (up1 p f) ts ls := fun hh => by have h9 := (hst.1 (hf9.2 hh)).1; unfold up1 at h9; omega
 refine C_seq ?_
 refine C_region ?_
 refine Jq (q_assign rfl) ?_
 refine L_then ?_
 refine C_ret ?_
 exact ret_of (res1 rfl rfl) sub_nil (by intro r hr; cases hr) ⟨(congrArg Value.bool (decide_eq_false hno).symm), rfl⟩
 refine C_skip_blk ?_
 refine C_region ?_
 refine Jq (q_add rfl rfl (by first | exact IntWalk.i64_in _ (by omega) | rfl)) ?_
 refine Jq (q_move rfl) ?_
 refine L_end ?_
 exact fun ac_ wo_ hs_ => ⟨k + 1, ⟨by omega, by rw [← hf9]; exact ⟨fun h => hst.2 ⟨by unfold up1; omega, h⟩, fun h => (hst.1 h).2⟩⟩, (by dsimp only; omega), hs_.weak ⟨rfl, rfl, rfl, rfl, rfl, rfl, trivial⟩ (fun h => h.sub (by repeat (first | exact List.Sublist.refl _ | apply List.Sublist.cons_cons | apply List.Sublist.cons)))⟩
 refine C_exit ?_
 change C Tryz.prog _ _ _ _ _ _ _
 refine C_seq ?_
 refine C_region ?_
 refine Jq (q_assign rfl) ?_
 refine L_then ?_
 refine C_ret ?_
 exact ret_of (res1 rfl rfl) sub_nil (by intro r hr; cases hr) ⟨(congrArg Value.bool (decide_eq_true (hf9.1 (all2_end (by omega)))).symm), rfl⟩
set_option maxRecDepth 100000 in
theorem ct_tissue_answer (y n : Bool) : Ct Tryz.prog 136 [.bool y, .bool n] [] (isV (.int .i64 (if y = true then 2 else if n = true then 0 else 1))) := by
 refine Ct.of (N := 9) Tryz.func136 rfl rfl rfl fun w => ?_
 refine C_weak (E' := [(0, .bool y), (1, .bool n)]) (rs' := []) ⟨rfl, rfl, trivial⟩ (fun _ h => h) ?_
 refine C_seq ?_
 refine C_region ?_
 refine Jq (q_assign rfl) ?_
 refine L_then ?_
 refine C_seq ?_
 refine C_block ?_
 refine C_seq ?_
 refine C_region ?_
 refine Jq (q_move rfl) ?_
 refine Jq (q_assign rfl) ?_
 refine L_then ?_
 refine C_bool rfl (fun hy => ?_) (fun hy => ?_)
 refine C_seq ?_
 refine C_region ?_
 refine Jq (q_assign rfl) ?_
 refine L_then ?_
 refine C_ret ?_
 exact ret_of (res1 rfl rfl) sub_nil (by intro r hr; cases hr) ⟨(congrArg (Value.int .i64) (by subst hy; first | rfl | (subst hn; rfl))), rfl⟩
 refine C_seq ?_
 refine C_region ?_
 refine Jq (q_move rfl) ?_
 refine Jq (q_assign rfl) ?_
 refine L_then ?_
 refine C_bool rfl (fun hn => ?_) (fun hn => ?_)
 refine C_seq ?_
 refine C_region ?_
 refine Jq (q_assign rfl) ?_
 refine L_then ?_
 refine C_ret ?_
 exact ret_of (res1 rfl rfl) sub_nil (by intro r hr; cases hr) ⟨(congrArg (Value.int .i64) (by subst hy; first | rfl | (subst hn; rfl))), rfl⟩
 refine C_skip_blk ?_
 refine C_seq ?_
 refine C_region ?_
 refine Jq (q_assign rfl) ?_
 refine L_then ?_
 refine C_ret ?_
 exact ret_of (res1 rfl rfl) sub_nil (by intro r hr; cases hr) ⟨(congrArg (Value.int .i64) (by subst hy; first | rfl | (subst hn; rfl))), rfl⟩
set_option maxRecDepth 100000 in
theorem ct_tissue_KeptAt (v u : Value) (p f : Int) (ts : List Cp) (ls : List Ld) (hle : ts.length ≤ 1000000) (hle2 : ls.length ≤ 1000000) : Ct Tryz.prog 70 [v, u, .agg #[.int .i64 p, .int .i64 f]] [(v, 4, ts.map cCp), (u, 4, ls.map cLd)] (isV (.tuple #[.int .i64 (keptE ts ls p f).1, .int .i64 (keptE ts ls p f).2])) := by
 refine Ct.of (N := 40) Tryz.func70 rfl rfl rfl fun w => ?_
 refine C_weak (E' := [(0, v), (1, u), (2, .agg #[.int .i64 p, .int .i64 f])]) (rs' := [rd v 4 (ts.map cCp), rd u 4 (ls.map cLd)]) ⟨rfl, rfl, rfl, trivial⟩ (fun _ h => h) ?_
 have hl := len_map cCp ts
 have hl2 := len_map cLd ls
 refine C_seq ?_
 refine C_region ?_
 refine L_box rfl rfl rfl fun g5 => ?_
 refine Jq (q_assign rfl) ?_
 refine Jq (q_assign rfl) ?_
 refine L_then ?_
 refine C_seq ?_
 refine C_seq ?_
 refine C_region ?_
 refine Jq (q_move rfl) ?_
 refine Jq (q_move rfl) ?_
 refine L_call tb rfl rfl (ct_tissue_CheckLoads _ _ _ _ (by omega) (by omega)) (ps_cons gvo (ps_cons gvo no_ps)) rfl ?_
 refine Jq (q_assign rfl) ?_
 refine L_then ?_
 refine C_seq ?_
 refine C_region ?_
 refine Jq (q_move rfl) ?_
 refine Jq (q_neq rfl rfl) ?_
 refine L_then ?_
 refine C_dec rfl (fun h1 => ?_) (fun h1 => ?_)
 rw [keptE_1 h1]
 refine C_seq ?_
 refine C_region ?_
 refine Jq (q_move rfl) ?_
 refine Jq (q_assign rfl) ?_
 refine Jq (q_assign rfl) ?_
 refine L_then ?_
 refine C_ret ?_
 exact ret_of (res2 rfl rfl rfl) sub_nil (by intro r hr; cases hr) ⟨rfl, rfl⟩
 refine C_skip_then ?_
 refine C_seq ?_
 refine C_seq ?_
 refine C_region ?_
 refine Jq (by first | exact q_index tb rfl rfl rfl rfl gvo (by omega) (by first | omega | (simp; done) | (simp; omega)) | exact q_indexP tb rfl rfl rfl rfl (by omega) (by omega)) ?_
 refine Jq (by first | exact q_load tb rfl rfl bxo rfl | exact q_loadE tb rfl rfl gvo (by omega) (by simp) rfl) ?_
 refine L_call tb rfl rfl (ct_tissue_isPressure _) no_ps rfl ?_
 refine Jq (q_not rfl decide_not.symm) ?_
 refine Jq (q_move rfl) ?_
 refine L_dec (d := 19) rfl (fun h2 => ?_) (fun h2 => ?_)
 iterate 4 refine Jk ?_
 refine Jq (q_pickT rfl rfl) ?_
 refine L_then ?_
 refine C_true rfl ?_
 refine C_seq ?_
 refine C_region ?_
 refine Jq (q_assign rfl) ?_
 refine Jq (q_assign rfl) ?_
 refine L_then ?_
 refine C_ret ?_
 have h2 : ¬ (okPr p ∧ 0 ≤ f ∧ f ≤ 1000) := by unfold okPr; omega
 rw [keptE_2 h1 h2]
 exact ret_of (res2 rfl rfl rfl) sub_nil (by intro r hr; cases hr) ⟨rfl, rfl⟩
 refine Jg (by first | exact q_index tb rfl rfl rfl rfl gvo (by omega) (by first | omega | (simp; done) | (simp; omega)) | exact q_indexP tb rfl rfl rfl rfl (by omega) (by omega)) ?_
 refine Jg (by first | exact q_load tb rfl rfl bxo rfl | exact q_loadE tb rfl rfl gvo (by omega) (by simp) rfl) ?_
 refine L_callg tb rfl rfl rfl rfl rfl rfl (ct_tissue_isFactor _) no_ps rfl ?_
 refine Jg (q_not rfl decide_not.symm) ?_
 refine Jq (q_pickF rfl rfl) ?_
 refine L_then ?_
 refine C_dec rfl (fun h4 => ?_) (fun h4 => ?_)
 refine C_seq ?_
 refine C_region ?_
 refine Jq (q_assign rfl) ?_
 refine Jq (q_assign rfl) ?_
 refine L_then ?_
 refine C_ret ?_
 have h2 : ¬ (okPr p ∧ 0 ≤ f ∧ f ≤ 1000) := by unfold okPr; omega
 rw [keptE_2 h1 h2]
 exact ret_of (res2 rfl rfl rfl) sub_nil (by intro r hr; cases hr) ⟨rfl, rfl⟩
 have h2 : okPr p ∧ 0 ≤ f ∧ f ≤ 1000 := by unfold okPr; omega
 have hp := h2.1; unfold okPr at hp
 have hk := ckLoads_ok (Decidable.not_not.1 h1)
 refine C_skip_then ?_
 refine C_seq ?_
 refine C_draw (n := 15) [(0, false), (1, false), (2, false), (3, false), (4, false), (5, false), (7, false), (8, false), (9, false), (10, false), (11, false), (12, false), (6, true), (13, true), (14, true)] mixed (by kernel_rfl) ?_
 refine Yq rfl (q_move rfl) ?_
 refine Yq rfl (q_move rfl) ?_
 refine Yq rfl (by first | exact q_index tb rfl rfl rfl rfl gvo (by omega) (by first | omega | (simp; done) | (simp; omega)) | exact q_indexP tb rfl rfl rfl rfl (by omega) (by omega)) ?_
 refine Yq rfl (by first | exact q_load tb rfl rfl bxo rfl | exact q_loadE tb rfl rfl gvo (by omega) (by simp) rfl) ?_
 refine Yq rfl (by first | exact q_index tb rfl rfl rfl rfl gvo (by omega) (by first | omega | (simp; done) | (simp; omega)) | exact q_indexP tb rfl rfl rfl rfl (by omega) (by omega)) ?_
 refine Yq rfl (by first | exact q_load tb rfl rfl bxo rfl | exact q_loadE tb rfl rfl gvo (by omega) (by simp) rfl) ?_
 refine Yq rfl (q_move rfl) ?_
 refine Yq rfl (q_move rfl) ?_
 refine Yq rfl (by first | exact q_index tb rfl rfl rfl rfl gvo (by omega) (by first | omega | (simp; done) | (simp; omega)) | exact q_indexP tb rfl rfl rfl rfl (by omega) (by omega)) ?_
 refine Yq rfl (by first | exact q_load tb rfl rfl bxo rfl | exact q_loadE tb rfl rfl gvo (by omega) (by simp) rfl) ?_
 refine Yq rfl (by first | exact q_index tb rfl rfl rfl rfl gvo (by omega) (by first | omega | (simp; done) | (simp; omega)) | exact q_indexP tb rfl rfl rfl rfl (by omega) (by omega)) ?_
 refine Yq rfl (by first | exact q_load tb rfl rfl bxo rfl | exact q_loadE tb rfl rfl gvo (by omega) (by simp) rfl) ?_
 refine W_call tb rfl rfl rfl rfl (ct_tissue_holds v u p f ts ls hk (by omega) (by omega)) (ps_cons gvo (ps_cons gvo no_ps)) rfl ?_
 refine W_call tb rfl rfl rfl rfl (ct_tissue_breaks v u p f ts ls hk (by omega) (by omega)) (ps_cons gvo (ps_cons gvo no_ps)) rfl ?_
 refine W_call tb rfl rfl rfl rfl (ct_tissue_answer (decide (holdP p f ts ls)) (decide (¬ lowP p f ts ls))) no_ps rfl ?_
 refine W_nil ?_
 refine Jq (q_assign rfl) ?_
 refine Jq (q_assign rfl) ?_
 refine L_then ?_
 refine C_ret ?_
 rw [keptE_3 h1 h2, ← keptM_prog hk.o]
 exact ret_of (res2 rfl rfl rfl) sub_nil (by intro r hr; cases hr) ⟨rfl, rfl⟩
end Go.Proofs.YthilaakeimfedaaGreatDoor
