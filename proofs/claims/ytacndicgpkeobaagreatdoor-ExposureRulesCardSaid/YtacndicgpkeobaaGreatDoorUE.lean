/-
  Walks: each function named returns what its model says. Conditions: those in front of each theorem.
-/
import Derived.Test.YtacndicgpkeobaaGreatDoorRd6
import Derived.Test.YtacndicgpkeobaaGreatDoorTB
import Derived.Test.YtacndicgpkeobaaGreatDoorAP
namespace Go.Proofs.YtacndicgpkeobaaGreatDoor
open Go.RowKit

def LnP (tP tL : TypeId) (g : Nat) (y : Value) (rs : List Res) : Prop := ∃ (A11 A19 A24 A35 A37 : Option Addr) (c11 c19 c24 c35 c37 : Nat), y = .slice A37 4 c37 ∧ rs = [sl (.slice A37 4 c37) tL 2 [[.string (bs tOxy), (.slice A11 2 c11)], [.string (bs tLim), (.slice A19 2 c19)], [.string (bs tBre), (.slice A24 1 c24)], [.string (bs tEme), (.slice A35 3 c35)]], sl (.slice A11 2 c11) tP 1 ([1, 2].map (cP g)), sl (.slice A19 2 c19) tP 1 ([3, 4].map (cP g)), sl (.slice A24 1 c24) tP 1 ([5].map (cP g)), sl (.slice A35 3 c35) tP 1 ([6, 7, 8].map (cP g))]
theorem LnP_sinks {tP tL : TypeId} {g : Nat} : ∀ y rs, LnP tP tL g y rs → ∀ r ∈ rs, Sinks r := by
  rintro y rs ⟨A11, A19, A24, A35, A37, c11, c19, c24, c35, c37, rfl, rfl⟩ r hr
  simp only [List.mem_cons, List.not_mem_nil, or_false] at hr
  rcases hr with rfl | rfl | rfl | rfl | rfl <;> exact sl_sinks _ _ _ _
def RwP (tP : TypeId) (g : Nat) (y : Value) (rs : List Res) : Prop := ∃ (A : Option Addr) (c : Nat), y = .agg #[.string (bs tRow), .slice A 2 c] ∧ rs = [sl (.slice A 2 c) tP 1 ([0, 1].map (cP g))]
theorem RwP_sinks {tP : TypeId} {g : Nat} : ∀ y rs, RwP tP g y rs → ∀ r ∈ rs, Sinks r := by
  rintro y rs ⟨A, c, rfl, rfl⟩ r hr
  simp only [List.mem_cons, List.not_mem_nil, or_false] at hr
  rw [hr]
  exact sl_sinks _ _ _ _

set_option maxRecDepth 100000 in
set_option maxHeartbeats 2000000 in
theorem ct_exposure_lines (g : Nat) : Ct Tryz.prog 89 [.pointer (some ⟨g, 0, none⟩)] [] (LnP 225 173 g) := by
 refine Ct.of (N := 38) Tryz.func89 rfl rfl rfl fun w => ?_
 refine C_weak (E' := [(0, .pointer (some ⟨g, 0, none⟩))]) (rs' := []) ⟨rfl, trivial⟩ (fun _ h => h) ?_
 refine C_seq ?_
 refine C_region ?_
 refine Jq (q_assign rfl) ?_
 refine L_then ?_
 refine C_seq ?_
 refine Kp.C_dag0 (ι := Option Addr × Option Addr × Option Addr × Option Addr × Option Addr × Nat × Nat × Nat × Nat × Nat) 36 rfl (fun q => ([(2, (.slice q.2.2.2.2.1 4 q.2.2.2.2.2.2.2.2.2))], [sl (.slice q.2.2.2.2.1 4 q.2.2.2.2.2.2.2.2.2) 173 2 [[.string (bs tOxy), .slice q.1 2 q.2.2.2.2.2.1], [.string (bs tLim), .slice q.2.1 2 q.2.2.2.2.2.2.1], [.string (bs tBre), .slice q.2.2.1 1 q.2.2.2.2.2.2.2.1], [.string (bs tEme), .slice q.2.2.2.1 3 q.2.2.2.2.2.2.2.2.1]], sl (.slice q.1 2 q.2.2.2.2.2.1) 225 1 ([1, 2].map (cP g)), sl (.slice q.2.1 2 q.2.2.2.2.2.2.1) 225 1 ([3, 4].map (cP g)), sl (.slice q.2.2.1 1 q.2.2.2.2.2.2.2.1) 225 1 ([5].map (cP g)), sl (.slice q.2.2.2.1 3 q.2.2.2.2.2.2.2.2.1) 225 1 ([6, 7, 8].map (cP g))])) mixed (fun H hH => ?_) ?_
 have hS17 : ∀ (A11 : Option Addr) (c11 : Nat) (A19 : Option Addr) (c19 : Nat) (A24 : Option Addr) (c24 : Nat) (A35 : Option Addr) (c35 : Nat) (A37 : Option Addr) (c37 : Nat), H 0 #[true, true, true, true, true, true, true, true, true, true, true, true, true, true, true, true, true, true, true, true, true, true, true, true, true, true, true, true, true, true, true, true, true, true, true, true] [(0, .pointer (some ⟨g, 0, none⟩)), (2, (.slice A37 4 c37))] [sl (.slice A11 2 c11) 225 1 ([1, 2].map (cP g)), sl (.slice A19 2 c19) 225 1 ([3, 4].map (cP g)), sl (.slice A24 1 c24) 225 1 ([5].map (cP g)), sl (.slice A35 3 c35) 225 1 ([6, 7, 8].map (cP g)), sl (.slice A37 4 c37) 173 2 [[.string (bs tOxy), (.slice A11 2 c11)], [.string (bs tLim), (.slice A19 2 c19)], [.string (bs tBre), (.slice A24 1 c24)], [.string (bs tEme), (.slice A35 3 c35)]]] := by
  intro A11 c11 A19 c19 A24 c24 A35 c35 A37 c37
  subst hH
  exact Kp.G_nil (A11, A19, A24, A35, A37, c11, c19, c24, c35, c37) (by kernel_rfl) (fun a_ w_ hs_ => hs_.weak ⟨rfl, trivial⟩ (fun h => h.pk (by repeat (first | with_reducible exact pk_nil | refine pk_box rfl ?_ | refine pk_rd rfl ?_ | refine pk_sl rfl ?_ | with_reducible refine pk_app ?_ | with_reducible refine pk_app0 ?_ | with_reducible refine pk_app0L ?_ | with_reducible exact pk_tl | refine pk_var ?_))))
 have hS16 : ∀ (A11 : Option Addr) (c11 : Nat) (A19 : Option Addr) (c19 : Nat) (A24 : Option Addr) (c24 : Nat) (A35 : Option Addr) (c35 : Nat) (A37 : Option Addr) (c37 : Nat), H 1 #[true, true, true, true, true, true, true, true, true, true, true, true, true, true, true, true, true, true, true, true, true, true, true, true, true, true, true, true, true, true, true, true, true, true, true, false] [(0, .pointer (some ⟨g, 0, none⟩)), (37, (.slice A37 4 c37))] [sl (.slice A11 2 c11) 225 1 ([1, 2].map (cP g)), sl (.slice A19 2 c19) 225 1 ([3, 4].map (cP g)), sl (.slice A24 1 c24) 225 1 ([5].map (cP g)), sl (.slice A35 3 c35) 225 1 ([6, 7, 8].map (cP g)), sl (.slice A37 4 c37) 173 2 [[.string (bs tOxy), (.slice A11 2 c11)], [.string (bs tLim), (.slice A19 2 c19)], [.string (bs tBre), (.slice A24 1 c24)], [.string (bs tEme), (.slice A35 3 c35)]]] := by
  intro A11 c11 A19 c19 A24 c24 A35 c35 A37 c37
  subst hH
  refine Kp.G_s1 (k1 := 35) (by kernel_rfl) ?_
  refine Kp.Sq rfl (q_assign rfl) ?_
  exact Kp.G_weak (hS17 A11 c11 A19 c19 A24 c24 A35 c35 A37 c37) (by kernel_rfl) ⟨rfl, rfl, trivial⟩ (List.Perm.refl _)
 have hS15 : ∀ (A11 : Option Addr) (c11 : Nat) (A19 : Option Addr) (c19 : Nat) (A24 : Option Addr) (c24 : Nat) (A35 : Option Addr) (c35 : Nat), H 2 #[true, true, true, true, true, true, true, true, true, true, true, true, true, true, true, true, true, true, true, true, true, true, true, true, true, true, true, true, true, true, true, true, true, true, false, false] [(0, .pointer (some ⟨g, 0, none⟩)), (12, .agg #[.string (bs tOxy), (.slice A11 2 c11)]), (20, .agg #[.string (bs tLim), (.slice A19 2 c19)]), (25, .agg #[.string (bs tBre), (.slice A24 1 c24)]), (36, .agg #[.string (bs tEme), (.slice A35 3 c35)])] [sl (.slice A11 2 c11) 225 1 ([1, 2].map (cP g)), sl (.slice A19 2 c19) 225 1 ([3, 4].map (cP g)), sl (.slice A24 1 c24) 225 1 ([5].map (cP g)), sl (.slice A35 3 c35) 225 1 ([6, 7, 8].map (cP g))] := by
  intro A11 c11 A19 c19 A24 c24 A35 c35
  subst hH
  refine Kp.G_s1 (k1 := 34) (by kernel_rfl) ?_
  refine Kp.St_mkF rfl rfl rfl rfl (lo_bslice tb rfl rfl rfl (xs := [[.string (bs tOxy), (.slice A11 2 c11)], [.string (bs tLim), (.slice A19 2 c19)], [.string (bs tBre), (.slice A24 1 c24)], [.string (bs tEme), (.slice A35 3 c35)]]) rfl rfl (by simp) rfl (by omega) rfl) fun A37 c37 => ?_
  exact Kp.G_weak (hS16 A11 c11 A19 c19 A24 c24 A35 c35 A37 c37) (by kernel_rfl) ⟨rfl, rfl, trivial⟩ (perm_front (pre := [_, _, _, _])).symm
 have hS14 : ∀ (A19 : Option Addr) (c19 : Nat) (A24 : Option Addr) (c24 : Nat) (A35 : Option Addr) (c35 : Nat), H 4 #[true, true, true, true, true, true, true, true, false, false, true, true, true, true, true, true, true, true, true, true, true, true, true, true, true, true, true, true, true, true, true, true, true, true, false, false] [(0, .pointer (some ⟨g, 0, none⟩)), (6, (PO g 1)), (10, (PO g 2)), (20, .agg #[.string (bs tLim), (.slice A19 2 c19)]), (25, .agg #[.string (bs tBre), (.slice A24 1 c24)]), (36, .agg #[.string (bs tEme), (.slice A35 3 c35)])] [sl (.slice A19 2 c19) 225 1 ([3, 4].map (cP g)), sl (.slice A24 1 c24) 225 1 ([5].map (cP g)), sl (.slice A35 3 c35) 225 1 ([6, 7, 8].map (cP g))] := by
  intro A19 c19 A24 c24 A35 c35
  subst hH
  refine Kp.G_s1 (k1 := 8) (by kernel_rfl) ?_
  refine Kp.St_mkF rfl rfl rfl rfl (lo_bslice tb rfl rfl rfl (xs := ([1, 2].map (cP g))) rfl rfl (by simp) rfl (by omega) rfl) fun A11 c11 => ?_
  refine Kp.G_q (k := 9) rfl (by first | exact q_build tb rfl rfl rfl rfl | exact q_buildArr tb rfl rfl rfl rfl rfl) (by kernel_rfl) ?_
  exact Kp.G_weak (hS15 A11 c11 A19 c19 A24 c24 A35 c35) (by kernel_rfl) ⟨rfl, rfl, rfl, rfl, rfl, trivial⟩ (List.Perm.refl _)
 have hS13 : ∀ (A11 : Option Addr) (c11 : Nat) (A24 : Option Addr) (c24 : Nat) (A35 : Option Addr) (c35 : Nat), H 4 #[true, true, true, true, true, true, true, true, true, true, true, true, true, true, true, true, false, false, true, true, true, true, true, true, true, true, true, true, true, true, true, true, true, true, false, false] [(0, .pointer (some ⟨g, 0, none⟩)), (12, .agg #[.string (bs tOxy), (.slice A11 2 c11)]), (15, (PO g 3)), (18, (PO g 4)), (25, .agg #[.string (bs tBre), (.slice A24 1 c24)]), (36, .agg #[.string (bs tEme), (.slice A35 3 c35)])] [sl (.slice A11 2 c11) 225 1 ([1, 2].map (cP g)), sl (.slice A24 1 c24) 225 1 ([5].map (cP g)), sl (.slice A35 3 c35) 225 1 ([6, 7, 8].map (cP g))] := by
  intro A11 c11 A24 c24 A35 c35
  subst hH
  refine Kp.G_s1 (k1 := 16) (by kernel_rfl) ?_
  refine Kp.St_mkF rfl rfl rfl rfl (lo_bslice tb rfl rfl rfl (xs := ([3, 4].map (cP g))) rfl rfl (by simp) rfl (by omega) rfl) fun A19 c19 => ?_
  refine Kp.G_q (k := 17) rfl (by first | exact q_build tb rfl rfl rfl rfl | exact q_buildArr tb rfl rfl rfl rfl rfl) (by kernel_rfl) ?_
  exact Kp.G_weak (hS15 A11 c11 A19 c19 A24 c24 A35 c35) (by kernel_rfl) ⟨rfl, rfl, rfl, rfl, rfl, trivial⟩ (perm_front (pre := [_])).symm
 have hS12 : ∀ (A11 : Option Addr) (c11 : Nat) (A19 : Option Addr) (c19 : Nat) (A35 : Option Addr) (c35 : Nat), H 4 #[true, true, true, true, true, true, true, true, true, true, true, true, true, true, true, true, true, true, true, true, true, false, false, true, true, true, true, true, true, true, true, true, true, true, false, false] [(0, .pointer (some ⟨g, 0, none⟩)), (12, .agg #[.string (bs tOxy), (.slice A11 2 c11)]), (20, .agg #[.string (bs tLim), (.slice A19 2 c19)]), (23, (PO g 5)), (36, .agg #[.string (bs tEme), (.slice A35 3 c35)])] [sl (.slice A11 2 c11) 225 1 ([1, 2].map (cP g)), sl (.slice A19 2 c19) 225 1 ([3, 4].map (cP g)), sl (.slice A35 3 c35) 225 1 ([6, 7, 8].map (cP g))] := by
  intro A11 c11 A19 c19 A35 c35
  subst hH
  refine Kp.G_s1 (k1 := 21) (by kernel_rfl) ?_
  refine Kp.St_mkF rfl rfl rfl rfl (lo_bslice tb rfl rfl rfl (xs := ([5].map (cP g))) rfl rfl (by simp) rfl (by omega) rfl) fun A24 c24 => ?_
  refine Kp.G_q (k := 22) rfl (by first | exact q_build tb rfl rfl rfl rfl | exact q_buildArr tb rfl rfl rfl rfl rfl) (by kernel_rfl) ?_
  exact Kp.G_weak (hS15 A11 c11 A19 c19 A24 c24 A35 c35) (by kernel_rfl) ⟨rfl, rfl, rfl, rfl, rfl, trivial⟩ (perm_front (pre := [_, _])).symm
 have hS11 : ∀ (A11 : Option Addr) (c11 : Nat) (A19 : Option Addr) (c19 : Nat) (A24 : Option Addr) (c24 : Nat), H 4 #[true, true, true, true, true, true, true, true, true, true, true, true, true, true, true, true, true, true, true, true, true, true, true, true, true, true, true, true, true, true, true, true, false, false, false, false] [(0, .pointer (some ⟨g, 0, none⟩)), (12, .agg #[.string (bs tOxy), (.slice A11 2 c11)]), (20, .agg #[.string (bs tLim), (.slice A19 2 c19)]), (25, .agg #[.string (bs tBre), (.slice A24 1 c24)]), (28, (PO g 6)), (31, (PO g 7)), (34, (PO g 8))] [sl (.slice A11 2 c11) 225 1 ([1, 2].map (cP g)), sl (.slice A19 2 c19) 225 1 ([3, 4].map (cP g)), sl (.slice A24 1 c24) 225 1 ([5].map (cP g))] := by
  intro A11 c11 A19 c19 A24 c24
  subst hH
  refine Kp.G_s1 (k1 := 32) (by kernel_rfl) ?_
  refine Kp.St_mkF rfl rfl rfl rfl (lo_bslice tb rfl rfl rfl (xs := ([6, 7, 8].map (cP g))) rfl rfl (by simp) rfl (by omega) rfl) fun A35 c35 => ?_
  refine Kp.G_q (k := 33) rfl (by first | exact q_build tb rfl rfl rfl rfl | exact q_buildArr tb rfl rfl rfl rfl rfl) (by kernel_rfl) ?_
  exact Kp.G_weak (hS15 A11 c11 A19 c19 A24 c24 A35 c35) (by kernel_rfl) ⟨rfl, rfl, rfl, rfl, rfl, trivial⟩ (perm_front (pre := [_, _, _])).symm
 have hS10 : ∀ (A24 : Option Addr) (c24 : Nat) (A35 : Option Addr) (c35 : Nat), H 6 #[true, true, true, true, true, true, true, true, false, false, true, true, true, true, true, true, false, false, true, true, true, true, true, true, true, true, true, true, true, true, true, true, true, true, false, false] [(0, .pointer (some ⟨g, 0, none⟩)), (6, (PO g 1)), (10, (PO g 2)), (15, (PO g 3)), (18, (PO g 4)), (25, .agg #[.string (bs tBre), (.slice A24 1 c24)]), (36, .agg #[.string (bs tEme), (.slice A35 3 c35)])] [sl (.slice A24 1 c24) 225 1 ([5].map (cP g)), sl (.slice A35 3 c35) 225 1 ([6, 7, 8].map (cP g))] := by
  intro A24 c24 A35 c35
  subst hH
  refine Kp.G_s2 (k1 := 8) (k2 := 16) (by kernel_rfl) ?_ ?_
  refine Kp.St_mkF rfl rfl rfl rfl (lo_bslice tb rfl rfl rfl (xs := ([1, 2].map (cP g))) rfl rfl (by simp) rfl (by omega) rfl) fun A11 c11 => ?_
  refine Kp.G_q (k := 9) rfl (by first | exact q_build tb rfl rfl rfl rfl | exact q_buildArr tb rfl rfl rfl rfl rfl) (by kernel_rfl) ?_
  exact Kp.G_weak (hS13 A11 c11 A24 c24 A35 c35) (by kernel_rfl) ⟨rfl, rfl, rfl, rfl, rfl, rfl, trivial⟩ (List.Perm.refl _)
  refine Kp.St_mkF rfl rfl rfl rfl (lo_bslice tb rfl rfl rfl (xs := ([3, 4].map (cP g))) rfl rfl (by simp) rfl (by omega) rfl) fun A19 c19 => ?_
  refine Kp.G_q (k := 17) rfl (by first | exact q_build tb rfl rfl rfl rfl | exact q_buildArr tb rfl rfl rfl rfl rfl) (by kernel_rfl) ?_
  exact Kp.G_weak (hS14 A19 c19 A24 c24 A35 c35) (by kernel_rfl) ⟨rfl, rfl, rfl, rfl, rfl, rfl, trivial⟩ (List.Perm.refl _)
 have hS9 : ∀ (A19 : Option Addr) (c19 : Nat) (A35 : Option Addr) (c35 : Nat), H 6 #[true, true, true, true, true, true, true, true, false, false, true, true, true, true, true, true, true, true, true, true, true, false, false, true, true, true, true, true, true, true, true, true, true, true, false, false] [(0, .pointer (some ⟨g, 0, none⟩)), (6, (PO g 1)), (10, (PO g 2)), (20, .agg #[.string (bs tLim), (.slice A19 2 c19)]), (23, (PO g 5)), (36, .agg #[.string (bs tEme), (.slice A35 3 c35)])] [sl (.slice A19 2 c19) 225 1 ([3, 4].map (cP g)), sl (.slice A35 3 c35) 225 1 ([6, 7, 8].map (cP g))] := by
  intro A19 c19 A35 c35
  subst hH
  refine Kp.G_s2 (k1 := 8) (k2 := 21) (by kernel_rfl) ?_ ?_
  refine Kp.St_mkF rfl rfl rfl rfl (lo_bslice tb rfl rfl rfl (xs := ([1, 2].map (cP g))) rfl rfl (by simp) rfl (by omega) rfl) fun A11 c11 => ?_
  refine Kp.G_q (k := 9) rfl (by first | exact q_build tb rfl rfl rfl rfl | exact q_buildArr tb rfl rfl rfl rfl rfl) (by kernel_rfl) ?_
  exact Kp.G_weak (hS12 A11 c11 A19 c19 A35 c35) (by kernel_rfl) ⟨rfl, rfl, rfl, rfl, rfl, trivial⟩ (List.Perm.refl _)
  refine Kp.St_mkF rfl rfl rfl rfl (lo_bslice tb rfl rfl rfl (xs := ([5].map (cP g))) rfl rfl (by simp) rfl (by omega) rfl) fun A24 c24 => ?_
  refine Kp.G_q (k := 22) rfl (by first | exact q_build tb rfl rfl rfl rfl | exact q_buildArr tb rfl rfl rfl rfl rfl) (by kernel_rfl) ?_
  exact Kp.G_weak (hS14 A19 c19 A24 c24 A35 c35) (by kernel_rfl) ⟨rfl, rfl, rfl, rfl, rfl, rfl, trivial⟩ (perm_front (pre := [_])).symm
 have hS8 : ∀ (A19 : Option Addr) (c19 : Nat) (A24 : Option Addr) (c24 : Nat), H 6 #[true, true, true, true, true, true, true, true, false, false, true, true, true, true, true, true, true, true, true, true, true, true, true, true, true, true, true, true, true, true, true, true, false, false, false, false] [(0, .pointer (some ⟨g, 0, none⟩)), (6, (PO g 1)), (10, (PO g 2)), (20, .agg #[.string (bs tLim), (.slice A19 2 c19)]), (25, .agg #[.string (bs tBre), (.slice A24 1 c24)]), (28, (PO g 6)), (31, (PO g 7)), (34, (PO g 8))] [sl (.slice A19 2 c19) 225 1 ([3, 4].map (cP g)), sl (.slice A24 1 c24) 225 1 ([5].map (cP g))] := by
  intro A19 c19 A24 c24
  subst hH
  refine Kp.G_s2 (k1 := 8) (k2 := 32) (by kernel_rfl) ?_ ?_
  refine Kp.St_mkF rfl rfl rfl rfl (lo_bslice tb rfl rfl rfl (xs := ([1, 2].map (cP g))) rfl rfl (by simp) rfl (by omega) rfl) fun A11 c11 => ?_
  refine Kp.G_q (k := 9) rfl (by first | exact q_build tb rfl rfl rfl rfl | exact q_buildArr tb rfl rfl rfl rfl rfl) (by kernel_rfl) ?_
  exact Kp.G_weak (hS11 A11 c11 A19 c19 A24 c24) (by kernel_rfl) ⟨rfl, rfl, rfl, rfl, rfl, rfl, rfl, trivial⟩ (List.Perm.refl _)
  refine Kp.St_mkF rfl rfl rfl rfl (lo_bslice tb rfl rfl rfl (xs := ([6, 7, 8].map (cP g))) rfl rfl (by simp) rfl (by omega) rfl) fun A35 c35 => ?_
  refine Kp.G_q (k := 33) rfl (by first | exact q_build tb rfl rfl rfl rfl | exact q_buildArr tb rfl rfl rfl rfl rfl) (by kernel_rfl) ?_
  exact Kp.G_weak (hS14 A19 c19 A24 c24 A35 c35) (by kernel_rfl) ⟨rfl, rfl, rfl, rfl, rfl, rfl, trivial⟩ (perm_front (pre := [_, _])).symm
 have hS7 : ∀ (A11 : Option Addr) (c11 : Nat) (A35 : Option Addr) (c35 : Nat), H 6 #[true, true, true, true, true, true, true, true, true, true, true, true, true, true, true, true, false, false, true, true, true, false, false, true, true, true, true, true, true, true, true, true, true, true, false, false] [(0, .pointer (some ⟨g, 0, none⟩)), (12, .agg #[.string (bs tOxy), (.slice A11 2 c11)]), (15, (PO g 3)), (18, (PO g 4)), (23, (PO g 5)), (36, .agg #[.string (bs tEme), (.slice A35 3 c35)])] [sl (.slice A11 2 c11) 225 1 ([1, 2].map (cP g)), sl (.slice A35 3 c35) 225 1 ([6, 7, 8].map (cP g))] := by
  intro A11 c11 A35 c35
  subst hH
  refine Kp.G_s2 (k1 := 16) (k2 := 21) (by kernel_rfl) ?_ ?_
  refine Kp.St_mkF rfl rfl rfl rfl (lo_bslice tb rfl rfl rfl (xs := ([3, 4].map (cP g))) rfl rfl (by simp) rfl (by omega) rfl) fun A19 c19 => ?_
  refine Kp.G_q (k := 17) rfl (by first | exact q_build tb rfl rfl rfl rfl | exact q_buildArr tb rfl rfl rfl rfl rfl) (by kernel_rfl) ?_
  exact Kp.G_weak (hS12 A11 c11 A19 c19 A35 c35) (by kernel_rfl) ⟨rfl, rfl, rfl, rfl, rfl, trivial⟩ (perm_front (pre := [_])).symm
  refine Kp.St_mkF rfl rfl rfl rfl (lo_bslice tb rfl rfl rfl (xs := ([5].map (cP g))) rfl rfl (by simp) rfl (by omega) rfl) fun A24 c24 => ?_
  refine Kp.G_q (k := 22) rfl (by first | exact q_build tb rfl rfl rfl rfl | exact q_buildArr tb rfl rfl rfl rfl rfl) (by kernel_rfl) ?_
  exact Kp.G_weak (hS13 A11 c11 A24 c24 A35 c35) (by kernel_rfl) ⟨rfl, rfl, rfl, rfl, rfl, rfl, trivial⟩ (perm_front (pre := [_])).symm
 have hS6 : ∀ (A11 : Option Addr) (c11 : Nat) (A24 : Option Addr) (c24 : Nat), H 6 #[true, true, true, true, true, true, true, true, true, true, true, true, true, true, true, true, false, false, true, true, true, true, true, true, true, true, true, true, true, true, true, true, false, false, false, false] [(0, .pointer (some ⟨g, 0, none⟩)), (12, .agg #[.string (bs tOxy), (.slice A11 2 c11)]), (15, (PO g 3)), (18, (PO g 4)), (25, .agg #[.string (bs tBre), (.slice A24 1 c24)]), (28, (PO g 6)), (31, (PO g 7)), (34, (PO g 8))] [sl (.slice A11 2 c11) 225 1 ([1, 2].map (cP g)), sl (.slice A24 1 c24) 225 1 ([5].map (cP g))] := by
  intro A11 c11 A24 c24
  subst hH
  refine Kp.G_s2 (k1 := 16) (k2 := 32) (by kernel_rfl) ?_ ?_
  refine Kp.St_mkF rfl rfl rfl rfl (lo_bslice tb rfl rfl rfl (xs := ([3, 4].map (cP g))) rfl rfl (by simp) rfl (by omega) rfl) fun A19 c19 => ?_
  refine Kp.G_q (k := 17) rfl (by first | exact q_build tb rfl rfl rfl rfl | exact q_buildArr tb rfl rfl rfl rfl rfl) (by kernel_rfl) ?_
  exact Kp.G_weak (hS11 A11 c11 A19 c19 A24 c24) (by kernel_rfl) ⟨rfl, rfl, rfl, rfl, rfl, rfl, rfl, trivial⟩ (perm_front (pre := [_])).symm
  refine Kp.St_mkF rfl rfl rfl rfl (lo_bslice tb rfl rfl rfl (xs := ([6, 7, 8].map (cP g))) rfl rfl (by simp) rfl (by omega) rfl) fun A35 c35 => ?_
  refine Kp.G_q (k := 33) rfl (by first | exact q_build tb rfl rfl rfl rfl | exact q_buildArr tb rfl rfl rfl rfl rfl) (by kernel_rfl) ?_
  exact Kp.G_weak (hS13 A11 c11 A24 c24 A35 c35) (by kernel_rfl) ⟨rfl, rfl, rfl, rfl, rfl, rfl, trivial⟩ (perm_front (pre := [_, _])).symm
 have hS5 : ∀ (A11 : Option Addr) (c11 : Nat) (A19 : Option Addr) (c19 : Nat), H 6 #[true, true, true, true, true, true, true, true, true, true, true, true, true, true, true, true, true, true, true, true, true, false, false, true, true, true, true, true, true, true, true, true, false, false, false, false] [(0, .pointer (some ⟨g, 0, none⟩)), (12, .agg #[.string (bs tOxy), (.slice A11 2 c11)]), (20, .agg #[.string (bs tLim), (.slice A19 2 c19)]), (23, (PO g 5)), (28, (PO g 6)), (31, (PO g 7)), (34, (PO g 8))] [sl (.slice A11 2 c11) 225 1 ([1, 2].map (cP g)), sl (.slice A19 2 c19) 225 1 ([3, 4].map (cP g))] := by
  intro A11 c11 A19 c19
  subst hH
  refine Kp.G_s2 (k1 := 21) (k2 := 32) (by kernel_rfl) ?_ ?_
  refine Kp.St_mkF rfl rfl rfl rfl (lo_bslice tb rfl rfl rfl (xs := ([5].map (cP g))) rfl rfl (by simp) rfl (by omega) rfl) fun A24 c24 => ?_
  refine Kp.G_q (k := 22) rfl (by first | exact q_build tb rfl rfl rfl rfl | exact q_buildArr tb rfl rfl rfl rfl rfl) (by kernel_rfl) ?_
  exact Kp.G_weak (hS11 A11 c11 A19 c19 A24 c24) (by kernel_rfl) ⟨rfl, rfl, rfl, rfl, rfl, rfl, rfl, trivial⟩ (perm_front (pre := [_, _])).symm
  refine Kp.St_mkF rfl rfl rfl rfl (lo_bslice tb rfl rfl rfl (xs := ([6, 7, 8].map (cP g))) rfl rfl (by simp) rfl (by omega) rfl) fun A35 c35 => ?_
  refine Kp.G_q (k := 33) rfl (by first | exact q_build tb rfl rfl rfl rfl | exact q_buildArr tb rfl rfl rfl rfl rfl) (by kernel_rfl) ?_
  exact Kp.G_weak (hS12 A11 c11 A19 c19 A35 c35) (by kernel_rfl) ⟨rfl, rfl, rfl, rfl, rfl, trivial⟩ (perm_front (pre := [_, _])).symm
 have hS4 : ∀ (A35 : Option Addr) (c35 : Nat), H 8 #[true, true, true, true, true, true, true, true, false, false, true, true, true, true, true, true, false, false, true, true, true, false, false, true, true, true, true, true, true, true, true, true, true, true, false, false] [(0, .pointer (some ⟨g, 0, none⟩)), (6, (PO g 1)), (10, (PO g 2)), (15, (PO g 3)), (18, (PO g 4)), (23, (PO g 5)), (36, .agg #[.string (bs tEme), (.slice A35 3 c35)])] [sl (.slice A35 3 c35) 225 1 ([6, 7, 8].map (cP g))] := by
  intro A35 c35
  subst hH
  refine Kp.G_s3 (k1 := 8) (k2 := 16) (k3 := 21) (by kernel_rfl) ?_ ?_ ?_
  refine Kp.St_mkF rfl rfl rfl rfl (lo_bslice tb rfl rfl rfl (xs := ([1, 2].map (cP g))) rfl rfl (by simp) rfl (by omega) rfl) fun A11 c11 => ?_
  refine Kp.G_q (k := 9) rfl (by first | exact q_build tb rfl rfl rfl rfl | exact q_buildArr tb rfl rfl rfl rfl rfl) (by kernel_rfl) ?_
  exact Kp.G_weak (hS7 A11 c11 A35 c35) (by kernel_rfl) ⟨rfl, rfl, rfl, rfl, rfl, rfl, trivial⟩ (List.Perm.refl _)
  refine Kp.St_mkF rfl rfl rfl rfl (lo_bslice tb rfl rfl rfl (xs := ([3, 4].map (cP g))) rfl rfl (by simp) rfl (by omega) rfl) fun A19 c19 => ?_
  refine Kp.G_q (k := 17) rfl (by first | exact q_build tb rfl rfl rfl rfl | exact q_buildArr tb rfl rfl rfl rfl rfl) (by kernel_rfl) ?_
  exact Kp.G_weak (hS9 A19 c19 A35 c35) (by kernel_rfl) ⟨rfl, rfl, rfl, rfl, rfl, rfl, trivial⟩ (List.Perm.refl _)
  refine Kp.St_mkF rfl rfl rfl rfl (lo_bslice tb rfl rfl rfl (xs := ([5].map (cP g))) rfl rfl (by simp) rfl (by omega) rfl) fun A24 c24 => ?_
  refine Kp.G_q (k := 22) rfl (by first | exact q_build tb rfl rfl rfl rfl | exact q_buildArr tb rfl rfl rfl rfl rfl) (by kernel_rfl) ?_
  exact Kp.G_weak (hS10 A24 c24 A35 c35) (by kernel_rfl) ⟨rfl, rfl, rfl, rfl, rfl, rfl, rfl, trivial⟩ (List.Perm.refl _)
 have hS3 : ∀ (A24 : Option Addr) (c24 : Nat), H 8 #[true, true, true, true, true, true, true, true, false, false, true, true, true, true, true, true, false, false, true, true, true, true, true, true, true, true, true, true, true, true, true, true, false, false, false, false] [(0, .pointer (some ⟨g, 0, none⟩)), (6, (PO g 1)), (10, (PO g 2)), (15, (PO g 3)), (18, (PO g 4)), (25, .agg #[.string (bs tBre), (.slice A24 1 c24)]), (28, (PO g 6)), (31, (PO g 7)), (34, (PO g 8))] [sl (.slice A24 1 c24) 225 1 ([5].map (cP g))] := by
  intro A24 c24
  subst hH
  refine Kp.G_s3 (k1 := 8) (k2 := 16) (k3 := 32) (by kernel_rfl) ?_ ?_ ?_
  refine Kp.St_mkF rfl rfl rfl rfl (lo_bslice tb rfl rfl rfl (xs := ([1, 2].map (cP g))) rfl rfl (by simp) rfl (by omega) rfl) fun A11 c11 => ?_
  refine Kp.G_q (k := 9) rfl (by first | exact q_build tb rfl rfl rfl rfl | exact q_buildArr tb rfl rfl rfl rfl rfl) (by kernel_rfl) ?_
  exact Kp.G_weak (hS6 A11 c11 A24 c24) (by kernel_rfl) ⟨rfl, rfl, rfl, rfl, rfl, rfl, rfl, rfl, trivial⟩ (List.Perm.refl _)
  refine Kp.St_mkF rfl rfl rfl rfl (lo_bslice tb rfl rfl rfl (xs := ([3, 4].map (cP g))) rfl rfl (by simp) rfl (by omega) rfl) fun A19 c19 => ?_
  refine Kp.G_q (k := 17) rfl (by first | exact q_build tb rfl rfl rfl rfl | exact q_buildArr tb rfl rfl rfl rfl rfl) (by kernel_rfl) ?_
  exact Kp.G_weak (hS8 A19 c19 A24 c24) (by kernel_rfl) ⟨rfl, rfl, rfl, rfl, rfl, rfl, rfl, rfl, trivial⟩ (List.Perm.refl _)
  refine Kp.St_mkF rfl rfl rfl rfl (lo_bslice tb rfl rfl rfl (xs := ([6, 7, 8].map (cP g))) rfl rfl (by simp) rfl (by omega) rfl) fun A35 c35 => ?_
  refine Kp.G_q (k := 33) rfl (by first | exact q_build tb rfl rfl rfl rfl | exact q_buildArr tb rfl rfl rfl rfl rfl) (by kernel_rfl) ?_
  exact Kp.G_weak (hS10 A24 c24 A35 c35) (by kernel_rfl) ⟨rfl, rfl, rfl, rfl, rfl, rfl, rfl, trivial⟩ (perm_front (pre := [_])).symm
 have hS2 : ∀ (A19 : Option Addr) (c19 : Nat), H 8 #[true, true, true, true, true, true, true, true, false, false, true, true, true, true, true, true, true, true, true, true, true, false, false, true, true, true, true, true, true, true, true, true, false, false, false, false] [(0, .pointer (some ⟨g, 0, none⟩)), (6, (PO g 1)), (10, (PO g 2)), (20, .agg #[.string (bs tLim), (.slice A19 2 c19)]), (23, (PO g 5)), (28, (PO g 6)), (31, (PO g 7)), (34, (PO g 8))] [sl (.slice A19 2 c19) 225 1 ([3, 4].map (cP g))] := by
  intro A19 c19
  subst hH
  refine Kp.G_s3 (k1 := 8) (k2 := 21) (k3 := 32) (by kernel_rfl) ?_ ?_ ?_
  refine Kp.St_mkF rfl rfl rfl rfl (lo_bslice tb rfl rfl rfl (xs := ([1, 2].map (cP g))) rfl rfl (by simp) rfl (by omega) rfl) fun A11 c11 => ?_
  refine Kp.G_q (k := 9) rfl (by first | exact q_build tb rfl rfl rfl rfl | exact q_buildArr tb rfl rfl rfl rfl rfl) (by kernel_rfl) ?_
  exact Kp.G_weak (hS5 A11 c11 A19 c19) (by kernel_rfl) ⟨rfl, rfl, rfl, rfl, rfl, rfl, rfl, trivial⟩ (List.Perm.refl _)
  refine Kp.St_mkF rfl rfl rfl rfl (lo_bslice tb rfl rfl rfl (xs := ([5].map (cP g))) rfl rfl (by simp) rfl (by omega) rfl) fun A24 c24 => ?_
  refine Kp.G_q (k := 22) rfl (by first | exact q_build tb rfl rfl rfl rfl | exact q_buildArr tb rfl rfl rfl rfl rfl) (by kernel_rfl) ?_
  exact Kp.G_weak (hS8 A19 c19 A24 c24) (by kernel_rfl) ⟨rfl, rfl, rfl, rfl, rfl, rfl, rfl, rfl, trivial⟩ (perm_front (pre := [_])).symm
  refine Kp.St_mkF rfl rfl rfl rfl (lo_bslice tb rfl rfl rfl (xs := ([6, 7, 8].map (cP g))) rfl rfl (by simp) rfl (by omega) rfl) fun A35 c35 => ?_
  refine Kp.G_q (k := 33) rfl (by first | exact q_build tb rfl rfl rfl rfl | exact q_buildArr tb rfl rfl rfl rfl rfl) (by kernel_rfl) ?_
  exact Kp.G_weak (hS9 A19 c19 A35 c35) (by kernel_rfl) ⟨rfl, rfl, rfl, rfl, rfl, rfl, trivial⟩ (perm_front (pre := [_])).symm
 have hS1 : ∀ (A11 : Option Addr) (c11 : Nat), H 8 #[true, true, true, true, true, true, true, true, true, true, true, true, true, true, true, true, false, false, true, true, true, false, false, true, true, true, true, true, true, true, true, true, false, false, false, false] [(0, .pointer (some ⟨g, 0, none⟩)), (12, .agg #[.string (bs tOxy), (.slice A11 2 c11)]), (15, (PO g 3)), (18, (PO g 4)), (23, (PO g 5)), (28, (PO g 6)), (31, (PO g 7)), (34, (PO g 8))] [sl (.slice A11 2 c11) 225 1 ([1, 2].map (cP g))] := by
  intro A11 c11
  subst hH
  refine Kp.G_s3 (k1 := 16) (k2 := 21) (k3 := 32) (by kernel_rfl) ?_ ?_ ?_
  refine Kp.St_mkF rfl rfl rfl rfl (lo_bslice tb rfl rfl rfl (xs := ([3, 4].map (cP g))) rfl rfl (by simp) rfl (by omega) rfl) fun A19 c19 => ?_
  refine Kp.G_q (k := 17) rfl (by first | exact q_build tb rfl rfl rfl rfl | exact q_buildArr tb rfl rfl rfl rfl rfl) (by kernel_rfl) ?_
  exact Kp.G_weak (hS5 A11 c11 A19 c19) (by kernel_rfl) ⟨rfl, rfl, rfl, rfl, rfl, rfl, rfl, trivial⟩ (perm_front (pre := [_])).symm
  refine Kp.St_mkF rfl rfl rfl rfl (lo_bslice tb rfl rfl rfl (xs := ([5].map (cP g))) rfl rfl (by simp) rfl (by omega) rfl) fun A24 c24 => ?_
  refine Kp.G_q (k := 22) rfl (by first | exact q_build tb rfl rfl rfl rfl | exact q_buildArr tb rfl rfl rfl rfl rfl) (by kernel_rfl) ?_
  exact Kp.G_weak (hS6 A11 c11 A24 c24) (by kernel_rfl) ⟨rfl, rfl, rfl, rfl, rfl, rfl, rfl, rfl, trivial⟩ (perm_front (pre := [_])).symm
  refine Kp.St_mkF rfl rfl rfl rfl (lo_bslice tb rfl rfl rfl (xs := ([6, 7, 8].map (cP g))) rfl rfl (by simp) rfl (by omega) rfl) fun A35 c35 => ?_
  refine Kp.G_q (k := 33) rfl (by first | exact q_build tb rfl rfl rfl rfl | exact q_buildArr tb rfl rfl rfl rfl rfl) (by kernel_rfl) ?_
  exact Kp.G_weak (hS7 A11 c11 A35 c35) (by kernel_rfl) ⟨rfl, rfl, rfl, rfl, rfl, rfl, trivial⟩ (perm_front (pre := [_])).symm
 have hS0 : H 10 #[true, true, true, true, true, true, true, true, false, false, true, true, true, true, true, true, false, false, true, true, true, false, false, true, true, true, true, true, true, true, true, true, false, false, false, false] [(0, .pointer (some ⟨g, 0, none⟩)), (6, (PO g 1)), (10, (PO g 2)), (15, (PO g 3)), (18, (PO g 4)), (23, (PO g 5)), (28, (PO g 6)), (31, (PO g 7)), (34, (PO g 8))] [] := by
  subst hH
  refine Kp.G_s4 (k1 := 8) (k2 := 16) (k3 := 21) (k4 := 32) (by kernel_rfl) ?_ ?_ ?_ ?_
  refine Kp.St_mkF rfl rfl rfl rfl (lo_bslice tb rfl rfl rfl (xs := ([1, 2].map (cP g))) rfl rfl (by simp) rfl (by omega) rfl) fun A11 c11 => ?_
  refine Kp.G_q (k := 9) rfl (by first | exact q_build tb rfl rfl rfl rfl | exact q_buildArr tb rfl rfl rfl rfl rfl) (by kernel_rfl) ?_
  exact Kp.G_weak (hS1 A11 c11) (by kernel_rfl) ⟨rfl, rfl, rfl, rfl, rfl, rfl, rfl, rfl, trivial⟩ (List.Perm.refl _)
  refine Kp.St_mkF rfl rfl rfl rfl (lo_bslice tb rfl rfl rfl (xs := ([3, 4].map (cP g))) rfl rfl (by simp) rfl (by omega) rfl) fun A19 c19 => ?_
  refine Kp.G_q (k := 17) rfl (by first | exact q_build tb rfl rfl rfl rfl | exact q_buildArr tb rfl rfl rfl rfl rfl) (by kernel_rfl) ?_
  exact Kp.G_weak (hS2 A19 c19) (by kernel_rfl) ⟨rfl, rfl, rfl, rfl, rfl, rfl, rfl, rfl, trivial⟩ (List.Perm.refl _)
  refine Kp.St_mkF rfl rfl rfl rfl (lo_bslice tb rfl rfl rfl (xs := ([5].map (cP g))) rfl rfl (by simp) rfl (by omega) rfl) fun A24 c24 => ?_
  refine Kp.G_q (k := 22) rfl (by first | exact q_build tb rfl rfl rfl rfl | exact q_buildArr tb rfl rfl rfl rfl rfl) (by kernel_rfl) ?_
  exact Kp.G_weak (hS3 A24 c24) (by kernel_rfl) ⟨rfl, rfl, rfl, rfl, rfl, rfl, rfl, rfl, rfl, trivial⟩ (List.Perm.refl _)
  refine Kp.St_mkF rfl rfl rfl rfl (lo_bslice tb rfl rfl rfl (xs := ([6, 7, 8].map (cP g))) rfl rfl (by simp) rfl (by omega) rfl) fun A35 c35 => ?_
  refine Kp.G_q (k := 33) rfl (by first | exact q_build tb rfl rfl rfl rfl | exact q_buildArr tb rfl rfl rfl rfl rfl) (by kernel_rfl) ?_
  exact Kp.G_weak (hS4 A35 c35) (by kernel_rfl) ⟨rfl, rfl, rfl, rfl, rfl, rfl, rfl, trivial⟩ (List.Perm.refl _)
 subst hH
 refine Kp.G_q (k := 0) rfl (q_move rfl) (by kernel_rfl) ?_
 refine Kp.G_q (k := 1) rfl (q_nilP rfl) (by kernel_rfl) ?_
 refine Kp.G_q (k := 2) rfl (by first | exact q_field tb rfl rfl rfl | exact q_fieldE tb rfl rfl rfl gvo (by first | omega | (simp; done) | (simp; omega))) (by kernel_rfl) ?_
 refine Kp.G_q (k := 3) rfl (by first | exact q_field tb rfl rfl rfl | exact q_fieldE tb rfl rfl rfl gvo (by first | omega | (simp; done) | (simp; omega))) (by kernel_rfl) ?_
 refine Kp.G_q (k := 4) rfl (q_move rfl) (by kernel_rfl) ?_
 refine Kp.G_q (k := 5) rfl (q_nilP rfl) (by kernel_rfl) ?_
 refine Kp.G_q (k := 6) rfl (by first | exact q_field tb rfl rfl rfl | exact q_fieldE tb rfl rfl rfl gvo (by first | omega | (simp; done) | (simp; omega))) (by kernel_rfl) ?_
 refine Kp.G_q (k := 7) rfl (by first | exact q_field tb rfl rfl rfl | exact q_fieldE tb rfl rfl rfl gvo (by first | omega | (simp; done) | (simp; omega))) (by kernel_rfl) ?_
 refine Kp.G_q (k := 10) rfl (q_move rfl) (by kernel_rfl) ?_
 refine Kp.G_q (k := 11) rfl (q_nilP rfl) (by kernel_rfl) ?_
 refine Kp.G_q (k := 12) rfl (by first | exact q_field tb rfl rfl rfl | exact q_fieldE tb rfl rfl rfl gvo (by first | omega | (simp; done) | (simp; omega))) (by kernel_rfl) ?_
 refine Kp.G_q (k := 13) rfl (q_move rfl) (by kernel_rfl) ?_
 refine Kp.G_q (k := 14) rfl (q_nilP rfl) (by kernel_rfl) ?_
 refine Kp.G_q (k := 15) rfl (by first | exact q_field tb rfl rfl rfl | exact q_fieldE tb rfl rfl rfl gvo (by first | omega | (simp; done) | (simp; omega))) (by kernel_rfl) ?_
 refine Kp.G_q (k := 18) rfl (q_move rfl) (by kernel_rfl) ?_
 refine Kp.G_q (k := 19) rfl (q_nilP rfl) (by kernel_rfl) ?_
 refine Kp.G_q (k := 20) rfl (by first | exact q_field tb rfl rfl rfl | exact q_fieldE tb rfl rfl rfl gvo (by first | omega | (simp; done) | (simp; omega))) (by kernel_rfl) ?_
 refine Kp.G_q (k := 23) rfl (q_move rfl) (by kernel_rfl) ?_
 refine Kp.G_q (k := 24) rfl (q_nilP rfl) (by kernel_rfl) ?_
 refine Kp.G_q (k := 25) rfl (by first | exact q_field tb rfl rfl rfl | exact q_fieldE tb rfl rfl rfl gvo (by first | omega | (simp; done) | (simp; omega))) (by kernel_rfl) ?_
 refine Kp.G_q (k := 26) rfl (q_move rfl) (by kernel_rfl) ?_
 refine Kp.G_q (k := 27) rfl (q_nilP rfl) (by kernel_rfl) ?_
 refine Kp.G_q (k := 28) rfl (by first | exact q_field tb rfl rfl rfl | exact q_fieldE tb rfl rfl rfl gvo (by first | omega | (simp; done) | (simp; omega))) (by kernel_rfl) ?_
 refine Kp.G_q (k := 29) rfl (q_move rfl) (by kernel_rfl) ?_
 refine Kp.G_q (k := 30) rfl (q_nilP rfl) (by kernel_rfl) ?_
 refine Kp.G_q (k := 31) rfl (by first | exact q_field tb rfl rfl rfl | exact q_fieldE tb rfl rfl rfl gvo (by first | omega | (simp; done) | (simp; omega))) (by kernel_rfl) ?_
 exact Kp.G_weak hS0 (by kernel_rfl) ⟨rfl, rfl, rfl, rfl, rfl, rfl, rfl, rfl, rfl, trivial⟩ (List.Perm.refl _)
 rintro ⟨A11, A19, A24, A35, A37, c11, c19, c24, c35, c37⟩; dsimp only
 refine L_then ?_
 refine C_ret ?_
 exact ret_of (rs' := [sl (.slice A37 4 c37) 173 2 [[.string (bs tOxy), (.slice A11 2 c11)], [.string (bs tLim), (.slice A19 2 c19)], [.string (bs tBre), (.slice A24 1 c24)], [.string (bs tEme), (.slice A35 3 c35)]], sl (.slice A11 2 c11) 225 1 ([1, 2].map (cP g)), sl (.slice A19 2 c19) 225 1 ([3, 4].map (cP g)), sl (.slice A24 1 c24) 225 1 ([5].map (cP g)), sl (.slice A35 3 c35) 225 1 ([6, 7, 8].map (cP g))]) (res1 rfl rfl) (fun w_ h_ => h_.pk (by repeat (first | with_reducible exact pk_nil | refine pk_box rfl ?_ | refine pk_rd rfl ?_ | refine pk_sl rfl ?_ | with_reducible refine pk_app ?_ | with_reducible refine pk_app0 ?_ | with_reducible refine pk_app0L ?_ | with_reducible exact pk_tl | refine pk_var ?_))) (by intro r hr; simp only [List.mem_cons, List.not_mem_nil, or_false] at hr; rcases hr with rfl | rfl | rfl | rfl | rfl <;> exact sl_own _ _ _ _) ⟨_, _, _, _, _, _, _, _, _, _, rfl, rfl⟩
set_option maxRecDepth 100000 in
set_option maxHeartbeats 1000000 in
theorem ct_exposure_row (g : Nat) : Ct Tryz.prog 91 [.pointer (some ⟨g, 0, none⟩)] [] (RwP 225 g) := by
 refine Ct.of (N := 11) Tryz.func91 rfl rfl rfl fun w => ?_
 refine C_weak (E' := [(0, .pointer (some ⟨g, 0, none⟩))]) (rs' := []) ⟨rfl, trivial⟩ (fun _ h => h) ?_
 refine C_seq ?_
 refine C_region ?_
 refine L_alloc tb rfl rfl fun g2 => ?_
 refine L_then ?_
 refine C_seq ?_
 refine Kp.C_own1 [.q 0, .q 1, .q 2, .q 3, .q 4, .q 5, .s 6, .q 7, .s 8] mixed (by kernel_rfl) rfl (by kernel_rfl) ?_
 refine Kp.X_q rfl rfl rfl rfl (q_move rfl) ?_
 refine Kp.X_q rfl rfl rfl rfl (q_nilP rfl) ?_
 refine Kp.X_q rfl rfl rfl rfl (by first | exact q_field tb rfl rfl rfl | exact q_fieldE tb rfl rfl rfl gvo (by first | omega | (simp; done) | (simp; omega))) ?_
 refine Kp.X_q rfl rfl rfl rfl (q_move rfl) ?_
 refine Kp.X_q rfl rfl rfl rfl (q_nilP rfl) ?_
 refine Kp.X_q rfl rfl rfl rfl (by first | exact q_field tb rfl rfl rfl | exact q_fieldE tb rfl rfl rfl gvo (by first | omega | (simp; done) | (simp; omega))) ?_
 refine Kp.X_lo rfl rfl rfl rfl (lo_form2 (lo_bslice tb rfl rfl rfl (xs := ([0, 1].map (cP g))) rfl rfl (by simp) rfl (by omega) rfl)) ?_
 rintro _ _ ⟨A9, c9, rfl, rfl⟩
 try dsimp only [List.cons_append, List.nil_append]
 refine Kp.X_q rfl rfl rfl rfl (by first | exact q_build tb rfl rfl rfl rfl | exact q_buildArr tb rfl rfl rfl rfl rfl) ?_
 first | refine Kp.X_store tb rfl rfl (List.Perm.refl _) rfl rfl rfl rfl rfl rfl rfl rfl ?_ | refine Kp.X_store tb rfl rfl perm1 rfl rfl rfl rfl rfl rfl rfl rfl ?_ | refine Kp.X_store tb rfl rfl (perm_front (pre := [_, _])) rfl rfl rfl rfl rfl rfl rfl rfl ?_ | refine Kp.X_store tb rfl rfl (perm_front (pre := [_, _, _])) rfl rfl rfl rfl rfl rfl rfl rfl ?_
 refine Kp.X_nil ?_
 try dsimp only [List.cons_append, List.nil_append]
 refine L_then ?_
 refine C_ret ?_
 exact ret_of (rs' := [sl (.slice A9 ([0, 1].map (cP g)).length c9) 225 1 ([0, 1].map (cP g))]) (resC tb rfl rfl rfl bxo rfl) (fun w_ h_ => h_.pk (by repeat (first | with_reducible exact pk_nil | refine pk_box rfl ?_ | refine pk_rd rfl ?_ | refine pk_sl rfl ?_ | with_reducible refine pk_app ?_ | with_reducible refine pk_app0 ?_ | with_reducible refine pk_app0L ?_ | with_reducible exact pk_tl | refine pk_var ?_))) own1 ⟨_, _, rfl, rfl⟩
set_option maxRecDepth 100000 in
set_option maxHeartbeats 1000000 in
theorem ct_exposure_line_String (g sz : Nat) (A : Option Addr) (n c : Nat) (xs : List Value) (wd : Tx) (os : List Nat) (ns : List Int) (hl9 : os.length = ns.length) (hx9 : ∀ (k o : Nat) (m : Int), os[k]? = some o → ns[k]? = some m → xs[o]? = some (.int .i64 m)) (hok : okN ns) (hn : ns.length ≤ 3) (hw : wd.length ≤ 9) : CtQ KQ Tryz.prog 90 [.agg #[.string (bs wd), .slice A n c]] [((.slice A n c), 1, (os.map (cP g))), ((bxV g), sz, [xs])] (isV (.string (bs (lnU wd ns)))) := by
 refine CtQ.of (N := 25) Tryz.func90 rfl rfl rfl fun w hQ => ?_
 refine C_weak (E' := [(0, .agg #[.string (bs wd), .slice A n c])]) (rs' := [rd (.slice A n c) 1 ((os.map (cP g))), rd (bxV g) sz ([xs])]) ⟨rfl, trivial⟩ (fun _ h => h) ?_
 have hlo : (os.map (cP g)).length = os.length := List.length_map _
 refine C_seq ?_
 refine C_region ?_
 refine L_box rfl rfl rfl fun g1 => ?_
 refine Jq (q_assign rfl) ?_
 refine L_then ?_
 refine C_seq ?_
 refine C_region ?_
 refine Jq (q_field tb rfl rfl rfl) ?_
 refine Jq (q_load tb rfl rfl bxo rfl) ?_
 refine Jq (q_assign rfl) ?_
 refine L_then ?_
 refine C_seq ?_
 refine C_seq ?_
 refine C_region ?_
 refine Jq (q_field tb rfl rfl rfl) ?_
 refine Jq (q_load tb rfl rfl bxo rfl) ?_
 refine Jq (q_len tb rfl rfl gvo) ?_
 refine Jq (q_move rfl) ?_
 refine L_then ?_
 refine C_block ?_
 refine C_loop (ι := Nat) (fun k => ([(1, .pointer (some ⟨g1, 0, none⟩)), (3, .string (bs (wd ++ nsT (ns.take k)))), (9, .slice A n c), (10, .int .i64 ((os.map (cP g)).length : Int)), (11, .int .i64 (k : Int))], [box g1 173 [.string (bs wd), .slice A n c], rd (.slice A n c) 1 (os.map (cP g)), rd (bxV g) sz [xs]])) (fun k => k ≤ ns.length) (fun k => ns.length - k) 0 (Nat.zero_le _) (fun a w hs => hs.weak ⟨rfl, (congrArg (fun x => some (Value.string (bs x))) (List.append_nil wd).symm), rfl, rfl, rfl, trivial⟩ (fun h => h.pk (by repeat (first | with_reducible exact pk_nil | refine pk_box rfl ?_ | refine pk_rd rfl ?_ | refine pk_sl rfl ?_ | with_reducible refine pk_app ?_ | with_reducible refine pk_app0 ?_ | with_reducible refine pk_app0L ?_ | with_reducible exact pk_tl | refine pk_var ?_)))) ?_
 intro k hk
 dsimp only at hk ⊢
 refine C_seq ?_
 refine C_region ?_
 refine Jq (q_lss rfl rfl) ?_
 refine L_then ?_
 refine C_seq ?_
 refine C_dec rfl (fun h1 => ?_) (fun h1 => ?_)
 obtain ⟨o9, ho9⟩ := get_some os (k := k) (by omega); have hel := map_get (cP g) ho9; obtain ⟨m, hn9⟩ := get_some ns (k := k) (by omega); have hxm := hx9 k o9 m ho9 hn9; have hb9 := hok m (List.mem_of_getElem? hn9); have hl9 := itU_len hb9; have hlt := nsT_take hok k
 refine C_skip_then ?_
 refine C_seq ?_
 refine C_block ?_
 refine C_seq ?_
 refine C_region ?_
 refine Jq (by first | exact q_index tb rfl rfl rfl rfl gvo (by omega) (by first | omega | (simp; done) | (simp; omega)) | exact q_indexP tb rfl rfl rfl rfl (by omega) (by omega)) ?_
 refine Jq (q_loadE tb rfl rfl gvo (i := k) (o := 0) (by omega) hel rfl) ?_
 refine Jq (q_assign rfl) ?_
 refine L_then ?_
 refine C_region ?_
 refine Jq (q_move rfl) ?_
 refine Jq (q_move rfl) ?_
 refine Jq (q_nilP rfl) ?_
 refine Jq (q_loadBx tb rfl rfl gvo hxm) ?_
 refine L_lo rfl rfl rfl (lo_callQ tb stQ hQ rfl rfl (ct_ItoaQ m (by omega)) no_ps isV_sinks) ?_
 rintro _ _ ⟨rfl, rfl⟩
 refine Jq (t_cat (a := [32]) (b := Lib.itoa m) (r := [32] ++ Lib.itoa m) rfl rfl (by simp only [List.length_cons, List.length_nil]; omega) rfl) ?_
 refine Jq (t_cat (a := (wd ++ nsT (ns.take k))) (b := [32] ++ Lib.itoa m) (r := wd ++ nsT (ns.take (k + 1))) rfl rfl (by simp only [List.length_append, List.length_cons, List.length_nil]; omega) (nsT_s hn9)) ?_
 refine Jq (q_assign rfl) ?_
 refine L_blk ?_
 refine C_region ?_
 refine Jq (q_add rfl rfl (by first | exact IntWalk.i64_in _ (by omega) | rfl)) ?_
 refine Jq (q_move rfl) ?_
 refine L_end ?_
 exact fun ac_ wo_ hs_ => ⟨k + 1, (by omega), (by dsimp only; omega), hs_.weak ⟨rfl, rfl, rfl, rfl, rfl, trivial⟩ (fun h_ => h_)⟩
 obtain rfl : k = ns.length := by omega
 rw [List.take_length]
 have hlt := nsT_len hok
 refine C_exit ?_
 change C Tryz.prog _ _ _ _ _ _ _
 refine C_seq ?_
 refine C_region ?_
 refine Jq (q_move rfl) ?_
 refine Jq (t_cat (a := wd ++ nsT ns) (b := [10]) (r := lnU wd ns) rfl rfl (by simp only [List.length_append, List.length_cons, List.length_nil]; omega) rfl) ?_
 refine Jq (q_assign rfl) ?_
 refine L_then ?_
 refine C_ret ?_
 exact ret_of (res1 rfl rfl) sub_nil (by intro r hr; cases hr) ⟨rfl, rfl⟩
set_option maxRecDepth 100000 in
set_option maxHeartbeats 2000000 in
theorem ct_line_read (w0 : World) (hQ : KQ w0) (g : Nat) (T : TypeId) (A : Option Addr) (n c : Nat) (xs : List Value) (wd : Tx) (os : List Nat) (p : Tx) (rs : List Res) (hp : p.length ≤ 1000000) (hos : os.length ≤ 3) (hxs : ∀ o ∈ os, o + 1 ≤ xs.length) : ItV Tryz.prog 97 [.agg #[.string (bs wd), .slice A n c], .string (bs p)] w0.heap.size w0 (box g T xs :: sl (.slice A n c) 225 1 (os.map (cP g)) :: rs) fun y w9 => ∃ rs9, (RxP g T 225 A n c xs os wd p rs) y rs9 ∧ WS w0.heap.size w0 rs9 w9 := by
 have hlo : (os.map (cP g)).length = os.length := List.length_map _
 have hbl := lnB_len p
 obtain ⟨a, q, e⟩ := pcs_hd (lnB p)
 have hpm := len_map cT (cutF 32 [] (lnB p))
 have hql : (cutF 32 [] (lnB p)).length = q.length + 1 := by rw [e]; rfl
 refine ItV.of (N := 81) Tryz.func97 rfl rfl rfl ?_
 refine C_weak (E' := [(0, .agg #[.string (bs wd), .slice A n c]), (1, .string (bs p))]) (rs' := box g T xs :: sl (.slice A n c) 225 1 (os.map (cP g)) :: rs) ⟨rfl, rfl, trivial⟩ (fun _ h => h) ?_
 refine C_seq ?_
 refine C_region ?_
 refine L_box rfl rfl rfl fun g2 => ?_
 refine Jq (q_assign rfl) ?_
 refine L_then ?_
 refine C_seq ?_
 refine C_region ?_
 refine Jq (q_move rfl) ?_
 refine L_call tb rfl rfl (ct_CutT p hp) no_ps rfl ?_
 refine Jq (q_move rfl) ?_
 refine Jq (q_ext0 rfl) ?_
 refine Jq (q_ext1 rfl) ?_
 refine Jq (q_assign rfl) ?_
 refine Jq (q_assign rfl) ?_
 refine L_then ?_
 refine C_seq ?_
 refine C_region ?_
 refine Jq (q_move rfl) ?_
 refine L_callS tb rfl rfl (ct_strings_Split (lnB p) 32 (by omega)) no_ps rfl fun v18 => ?_
 refine Jq (q_assign rfl) ?_
 refine L_then ?_
 refine C_seq ?_
 refine C_seq ?_
 refine C_draw (n := 19) [(0, false), (1, false), (2, false), (3, false), (4, false), (5, false), (6, false), (7, false), (8, false), (9, false), (10, false), (11, false), (12, false), (13, false), (14, false), (15, false), (16, false), (17, false), (18, false)] mixed (by kernel_rfl) ?_
 refine Yq rfl (q_move rfl) ?_
 refine Yq rfl (q_not rfl (by first | exact (rfl : (!true) = false) | exact (rfl : (!false) = true) | exact decide_not.symm | rfl)) ?_
 refine Yq rfl (q_move rfl) ?_
 refine W_bool (d := 21) rfl (fun h20 => ?_) (fun h20 => ?_)
 refine Yk rfl ?_
 refine Yk rfl ?_
 refine Yk rfl ?_
 refine Yk rfl ?_
 refine Yk rfl ?_
 refine Yk rfl ?_
 refine Yq rfl (q_pickT rfl rfl) ?_
 refine Yq rfl (q_move rfl) ?_
 refine Yk rfl ?_
 refine Yk rfl ?_
 refine Yk rfl ?_
 refine Yk rfl ?_
 refine Yk rfl ?_
 refine Yk rfl ?_
 refine Yk rfl ?_
 refine Yq rfl (q_pickT rfl rfl) ?_
 refine W_nil ?_
 refine L_then ?_
 refine C_true rfl ?_
 refine C_seq ?_
 refine C_region ?_
 refine Jq (q_assign rfl) ?_
 refine L_then ?_
 refine C_ret ?_
 have e9 : rdU wd os.length p = none := rdU_0 (by simpa using h20)
 exact it_retV (res1 rfl rfl) (fun w_ h_ => ⟨_, ⟨[], by rw [e9]; rfl, fun ns9 h9 => (by rw [e9] at h9; cases h9), Nat.zero_le _, rfl⟩, h_.pk (by repeat (first | with_reducible exact pk_nil | refine pk_box rfl ?_ | refine pk_rd rfl ?_ | refine pk_sl rfl ?_ | with_reducible refine pk_app ?_ | with_reducible refine pk_app0 ?_ | with_reducible refine pk_app0L ?_ | with_reducible exact pk_tl | refine pk_var ?_))⟩)
 refine Yg rfl (q_move rfl) ?_
 refine Yg rfl (by first | exact q_index tb rfl rfl rfl rfl gvo (by omega) (by first | omega | (simp; done) | (simp; omega)) | exact q_indexP tb rfl rfl rfl rfl (by omega) (by omega)) ?_
 refine Yg rfl (q_loadE tb rfl rfl gvo (i := 0) (o := 0) (by omega) (by rw [e]; rfl) rfl) ?_
 refine Yg rfl (q_field tb rfl rfl rfl) ?_
 refine Yg rfl (q_load tb rfl rfl bxo rfl) ?_
 refine Yg rfl (t_ne (a := a) (b := wd) rfl rfl) ?_
 refine Yq rfl (q_pickF rfl rfl) ?_
 refine Yq rfl (q_move rfl) ?_
 refine W_dec (d := 29) rfl (fun h27 => ?_) (fun h27 => ?_)
 refine Yk rfl ?_
 refine Yk rfl ?_
 refine Yk rfl ?_
 refine Yk rfl ?_
 refine Yk rfl ?_
 refine Yk rfl ?_
 refine Yk rfl ?_
 refine Yq rfl (q_pickT rfl rfl) ?_
 refine W_nil ?_
 refine L_then ?_
 refine C_true rfl ?_
 refine C_seq ?_
 refine C_region ?_
 refine Jq (q_assign rfl) ?_
 refine L_then ?_
 refine C_ret ?_
 have e9 : rdU wd os.length p = none := (rdU_1 (by simpa using h20)).trans (rdN_2 e h27)
 exact it_retV (res1 rfl rfl) (fun w_ h_ => ⟨_, ⟨[], by rw [e9]; rfl, fun ns9 h9 => (by rw [e9] at h9; cases h9), Nat.zero_le _, rfl⟩, h_.pk (by repeat (first | with_reducible exact pk_nil | refine pk_box rfl ?_ | refine pk_rd rfl ?_ | refine pk_sl rfl ?_ | with_reducible refine pk_app ?_ | with_reducible refine pk_app0 ?_ | with_reducible refine pk_app0L ?_ | with_reducible exact pk_tl | refine pk_var ?_))⟩)
 refine Yg rfl (q_move rfl) ?_
 refine Yg rfl (q_len tb rfl rfl gvo) ?_
 refine Yg rfl (q_field tb rfl rfl rfl) ?_
 refine Yg rfl (q_load tb rfl rfl bxo rfl) ?_
 refine Yg rfl (q_len tb rfl rfl gvo) ?_
 refine Yg rfl (q_add rfl rfl (by first | exact IntWalk.i64_in _ (by omega) | rfl)) ?_
 refine Yg rfl (q_neq rfl rfl) ?_
 refine Yq rfl (q_pickF rfl rfl) ?_
 refine W_nil ?_
 refine L_then ?_
 refine C_dec rfl (fun h36 => ?_) (fun h36 => ?_)
 refine C_seq ?_
 refine C_region ?_
 refine Jq (q_assign rfl) ?_
 refine L_then ?_
 refine C_ret ?_
 have e9 : rdU wd os.length p = none := (rdU_1 (by simpa using h20)).trans (rdN_1 (by omega))
 exact it_retV (res1 rfl rfl) (fun w_ h_ => ⟨_, ⟨[], by rw [e9]; rfl, fun ns9 h9 => (by rw [e9] at h9; cases h9), Nat.zero_le _, rfl⟩, h_.pk (by repeat (first | with_reducible exact pk_nil | refine pk_box rfl ?_ | refine pk_rd rfl ?_ | refine pk_sl rfl ?_ | with_reducible refine pk_app ?_ | with_reducible refine pk_app0 ?_ | with_reducible refine pk_app0L ?_ | with_reducible exact pk_tl | refine pk_var ?_))⟩)
 refine C_skip_then ?_
 refine C_seq ?_
 refine C_seq ?_
 refine C_region ?_
 refine Jq (q_field tb rfl rfl rfl) ?_
 refine Jq (q_load tb rfl rfl bxo rfl) ?_
 refine Jq (q_len tb rfl rfl gvo) ?_
 refine Jq (q_move rfl) ?_
 refine L_then ?_
 refine C_block ?_
 refine C_loop (ι := Nat × List Int) (fun q9 => ([(1, .string (bs p)), (2, .pointer (some ⟨g2, 0, none⟩)), (4, .bool false), (7, v18), (39, .slice A n c), (40, .int .i64 ((os.map (cP g)).length : Int)), (41, .int .i64 (q9.1 : Int))], box g T (putK xs (os.take q9.1) q9.2) :: box g2 173 [.string (bs wd), .slice A n c] :: sl v18 9 1 ((cutF 32 [] (lnB p)).map cT) :: sl (.slice A n c) 225 1 (os.map (cP g)) :: rs)) (fun q9 => q9.1 ≤ os.length ∧ q9.2.length = q9.1 ∧ nsL (q.take q9.1) = some q9.2) (fun q9 => os.length - q9.1) (0, []) ⟨Nat.zero_le _, rfl, rfl⟩ (fun a w hs => hs.weak ⟨rfl, rfl, rfl, rfl, rfl, rfl, rfl, trivial⟩ (fun h => h.pk (by repeat (first | with_reducible exact pk_nil | refine pk_box rfl ?_ | refine pk_rd rfl ?_ | refine pk_sl rfl ?_ | with_reducible refine pk_app ?_ | with_reducible refine pk_app0 ?_ | with_reducible refine pk_app0L ?_ | with_reducible exact pk_tl | refine pk_var ?_)))) ?_
 rintro ⟨k, ns⟩ ⟨hk, hnl, hns⟩
 dsimp only at hk hnl hns ⊢
 refine C_seq ?_
 refine C_region ?_
 refine Jq (q_lss rfl rfl) ?_
 refine L_then ?_
 refine C_seq ?_
 refine C_dec rfl (fun h6 => ?_) (fun h6 => ?_)
 obtain ⟨o9, ho9⟩ := get_some os (k := k) (by omega); have hel := map_get (cP g) ho9; obtain ⟨b, hb⟩ := get_some q (k := k) (by omega)
 have hel7 : ((cutF 32 [] (lnB p)).map cT)[k + 1]? = some (cT b) := by rw [e]; exact map_get cT hb
 refine C_skip_then ?_
 refine C_seq ?_
 refine C_block ?_
 refine C_seq ?_
 refine C_region ?_
 refine Jq (q_move rfl) ?_
 refine Jq (by first | exact q_index tb rfl rfl rfl rfl gvo (by omega) (by first | omega | (simp; done) | (simp; omega)) | exact q_indexP tb rfl rfl rfl rfl (by omega) (by omega)) ?_
 refine Jq (q_loadE tb rfl rfl gvo (i := k) (o := 0) (by omega) hel rfl) ?_
 refine Jq (q_assign rfl) ?_
 refine Jq (q_assign rfl) ?_
 refine L_then ?_
 refine C_seq ?_
 refine C_region ?_
 refine Jq (q_move rfl) ?_
 refine Jq (q_move rfl) ?_
 refine Jq (q_add (e := ((k + 1 : Nat) : Int)) rfl rfl (wr (by simp) (by omega))) ?_
 refine Jq (by first | exact q_index tb rfl rfl rfl rfl gvo (by omega) (by first | omega | (simp; done) | (simp; omega)) | exact q_indexP tb rfl rfl rfl rfl (by omega) (by omega)) ?_
 refine Jq (q_loadE tb rfl rfl gvo (i := k + 1) (o := 0) (by omega) hel7 rfl) ?_
 refine L_lo rfl rfl rfl (lo_callQ tb stQ hQ rfl rfl (ct_AtoiT b (by have := cutF_le (m := 32) (lnB p) [] b (by rw [e]; exact List.mem_cons_of_mem _ (List.mem_of_getElem? hb)); simp at this; omega)) no_ps AzP_sinks) ?_
 rintro _ _ ⟨N52, rfl, rfl⟩
 refine Jq (q_move rfl) ?_
 refine Jq (q_ext0 rfl) ?_
 refine Jq (q_ext1 rfl) ?_
 refine Jq (q_assign rfl) ?_
 refine Jq (q_assign rfl) ?_
 refine L_then ?_
 refine C_seq ?_
 refine C_seq ?_
 refine C_draw (n := 22) [(0, false), (1, false), (2, false), (3, false), (5, false), (6, false), (7, false), (8, false), (9, false), (4, true), (10, false), (11, false), (12, false), (13, false), (14, false), (15, false), (16, false), (17, false), (18, true), (19, false), (20, false), (21, false)] mixed (by kernel_rfl) ?_
 refine Yq rfl (q_move rfl) ?_
 refine Yq rfl (q_errV Tryz.underlying140 rfl) ?_
 refine Yq rfl (q_move rfl) ?_
 refine W_bool (d := 57) rfl (fun h52 => ?_) (fun h52 => ?_)
 refine Yk rfl ?_
 refine Yk rfl ?_
 refine Yk rfl ?_
 refine Yk rfl ?_
 refine Yk rfl ?_
 refine Yk rfl ?_
 refine Ykl rfl ?_
 refine Yk rfl ?_
 refine Yq rfl (q_pickT rfl rfl) ?_
 refine Yq rfl (q_move rfl) ?_
 refine Yk rfl ?_
 refine Yk rfl ?_
 refine Yk rfl ?_
 refine Yk rfl ?_
 refine Yk rfl ?_
 refine Ykl rfl ?_
 refine Yk rfl ?_
 refine Yk rfl ?_
 refine Yq rfl (q_pickT rfl rfl) ?_
 refine W_nil ?_
 refine L_then ?_
 refine C_true rfl ?_
 refine C_seq ?_
 refine C_region ?_
 refine Jq (q_assign rfl) ?_
 refine L_then ?_
 refine C_ret ?_
 rw [← hnl]
 have e9 : rdU wd os.length p = none := (rdU_1 (by simpa using h20)).trans ((rdN_3 e (by omega) (Decidable.not_not.1 h27)).trans (nsL_no hb (az_1 (d := 7) (by decide) h52)))
 exact it_retV (res1 rfl rfl) (fun w_ h_ => ⟨_, ⟨ns, by rw [e9]; rfl, fun ns9 h9 => (by rw [e9] at h9; cases h9), (by omega), rfl⟩, h_.pk (by repeat (first | with_reducible exact pk_nil | refine pk_box rfl ?_ | refine pk_rd rfl ?_ | refine pk_sl rfl ?_ | with_reducible refine pk_app ?_ | with_reducible refine pk_app0 ?_ | with_reducible refine pk_app0L ?_ | with_reducible exact pk_tl | refine pk_var ?_))⟩)
 refine Yg rfl (q_move rfl) ?_
 refine Yg rfl (q_move rfl) ?_
 refine Yg rfl (q_move rfl) ?_
 refine Yg rfl (q_add (e := ((k + 1 : Nat) : Int)) rfl rfl (wr (by simp) (by omega))) ?_
 refine Yg rfl (by first | exact q_index tb rfl rfl rfl rfl gvo (by omega) (by first | omega | (simp; done) | (simp; omega)) | exact q_indexP tb rfl rfl rfl rfl (by omega) (by omega)) ?_
 refine Yg rfl (q_loadE tb rfl rfl gvo (i := k + 1) (o := 0) (by omega) hel7 rfl) ?_
 refine W_log rfl rfl rfl rfl rfl rfl rfl rfl (lo_callQ tb stQ hQ rfl rfl (ct_ItoaQ (azN b) (az_in h52)) no_ps isV_sinks) ?_
 rintro _ _ ⟨rfl, rfl⟩
 refine Yg rfl (t_ne (a := Lib.itoa (azN b)) (b := b) rfl rfl) ?_
 refine Yq rfl (q_pickF rfl rfl) ?_
 refine Yq rfl (q_move rfl) ?_
 refine W_dec (d := 67) rfl (fun h60 => ?_) (fun h60 => ?_)
 refine Yk rfl ?_
 refine Yk rfl ?_
 refine Yk rfl ?_
 refine Yk rfl ?_
 refine Yk rfl ?_
 refine Ykl rfl ?_
 refine Yk rfl ?_
 refine Yk rfl ?_
 refine Yq rfl (q_pickT rfl rfl) ?_
 refine W_nil ?_
 refine L_then ?_
 refine C_true rfl ?_
 refine C_seq ?_
 refine C_region ?_
 refine Jq (q_assign rfl) ?_
 refine L_then ?_
 refine C_ret ?_
 rw [← hnl]
 have e9 : rdU wd os.length p = none := (rdU_1 (by simpa using h20)).trans ((rdN_3 e (by omega) (Decidable.not_not.1 h27)).trans (nsL_no hb (az_2 (d := 7) (by decide) h52 h60)))
 exact it_retV (res1 rfl rfl) (fun w_ h_ => ⟨_, ⟨ns, by rw [e9]; rfl, fun ns9 h9 => (by rw [e9] at h9; cases h9), (by omega), rfl⟩, h_.pk (by repeat (first | with_reducible exact pk_nil | refine pk_box rfl ?_ | refine pk_rd rfl ?_ | refine pk_sl rfl ?_ | with_reducible refine pk_app ?_ | with_reducible refine pk_app0 ?_ | with_reducible refine pk_app0L ?_ | with_reducible exact pk_tl | refine pk_var ?_))⟩)
 refine Yg rfl (q_move rfl) ?_
 refine Yg rfl (q_move rfl) ?_
 refine Yg rfl (q_add (e := ((k + 1 : Nat) : Int)) rfl rfl (wr (by simp) (by omega))) ?_
 refine Yg rfl (by first | exact q_index tb rfl rfl rfl rfl gvo (by omega) (by first | omega | (simp; done) | (simp; omega)) | exact q_indexP tb rfl rfl rfl rfl (by omega) (by omega)) ?_
 refine Yg rfl (q_loadE tb rfl rfl gvo (i := k + 1) (o := 0) (by omega) hel7 rfl) ?_
 refine W_callg tb rfl rfl rfl rfl rfl rfl rfl rfl (ct_TrimT b) no_ps rfl ?_
 refine Yg rfl (t_len Tryz.underlying9 rfl) ?_
 refine Yg rfl (q_gtr rfl rfl) ?_
 refine Yq rfl (q_pickF rfl rfl) ?_
 refine W_nil ?_
 refine L_then ?_
 refine C_dec rfl (fun h70 => ?_) (fun h70 => ?_)
 refine C_seq ?_
 refine C_region ?_
 refine Jq (q_assign rfl) ?_
 refine L_then ?_
 refine C_ret ?_
 rw [← hnl]
 have e9 : rdU wd os.length p = none := (rdU_1 (by simpa using h20)).trans ((rdN_3 e (by omega) (Decidable.not_not.1 h27)).trans (nsL_no hb (az_3 (d := 7) (by decide) h52 (by omega))))
 exact it_retV (res1 rfl rfl) (fun w_ h_ => ⟨_, ⟨ns, by rw [e9]; rfl, fun ns9 h9 => (by rw [e9] at h9; cases h9), (by omega), rfl⟩, h_.pk (by repeat (first | with_reducible exact pk_nil | refine pk_box rfl ?_ | refine pk_rd rfl ?_ | refine pk_sl rfl ?_ | with_reducible refine pk_app ?_ | with_reducible refine pk_app0 ?_ | with_reducible refine pk_app0L ?_ | with_reducible exact pk_tl | refine pk_var ?_))⟩)
 have hn9 := az_4 (d := 7) (by decide) h52 h60 (by omega)
 have hxl := putK_len (ns := ns) (fun o ho => hxs o (List.mem_of_mem_take (i := k) ho))
 have ho1 := hxs o9 (List.mem_of_getElem? ho9)
 have hpk9 : lay (putK xs (os.take k) ns) o9 [.int .i64 (azN b)] = putK xs (os.take (k + 1)) (ns ++ [azN b]) := by rw [show os.take (k + 1) = os.take k ++ [o9] by rw [List.take_add_one, ho9]; rfl, putK_snoc (show (os.take k).length = ns.length by rw [List.length_take]; omega)]
 refine C_skip_then ?_
 refine C_region ?_
 refine Jq (q_move rfl) ?_
 refine Jq (q_move rfl) ?_
 refine Jq (q_nilP rfl) ?_
 first | refine L_store tb rfl rfl rfl rfl rfl rfl (Nat.ble_eq.mpr (show o9 + 1 ≤ (putK xs (os.take k) ns).length by omega)) hpk9 ?_ | (refine L_front1 ?_; refine L_store tb rfl rfl rfl rfl rfl rfl (Nat.ble_eq.mpr (show o9 + 1 ≤ (putK xs (os.take k) ns).length by omega)) hpk9 ?_) | (refine L_front2 ?_; refine L_store tb rfl rfl rfl rfl rfl rfl (Nat.ble_eq.mpr (show o9 + 1 ≤ (putK xs (os.take k) ns).length by omega)) hpk9 ?_) | (refine L_front3 ?_; refine L_store tb rfl rfl rfl rfl rfl rfl (Nat.ble_eq.mpr (show o9 + 1 ≤ (putK xs (os.take k) ns).length by omega)) hpk9 ?_) | (refine L_front4 ?_; refine L_store tb rfl rfl rfl rfl rfl rfl (Nat.ble_eq.mpr (show o9 + 1 ≤ (putK xs (os.take k) ns).length by omega)) hpk9 ?_)
 refine L_blk ?_
 refine C_region ?_
 refine Jq (q_add rfl rfl (by first | exact IntWalk.i64_in _ (by omega) | rfl)) ?_
 refine Jq (q_move rfl) ?_
 refine L_end ?_
 exact fun ac_ wo_ hs_ => ⟨(k + 1, ns ++ [azN b]), ⟨by dsimp only; omega, by dsimp only; rw [List.length_append, hnl]; rfl, (congrArg nsL (takeU_one hb)).trans (nsL_app hns hn9)⟩, (by dsimp only; omega), hs_.weak ⟨rfl, rfl, rfl, rfl, rfl, rfl, rfl, trivial⟩ (fun h_ => h_.pk (by repeat (first | with_reducible exact pk_nil | refine pk_box rfl ?_ | refine pk_rd rfl ?_ | refine pk_sl rfl ?_ | with_reducible refine pk_app ?_ | with_reducible refine pk_app0 ?_ | with_reducible refine pk_app0L ?_ | with_reducible exact pk_tl | refine pk_var ?_)))⟩
 obtain rfl : k = os.length := by omega
 rw [List.take_of_length_le (show q.length ≤ os.length by omega)] at hns
 rw [← hnl]
 refine C_exit ?_
 change C Tryz.prog _ _ _ _ _ _ _
 refine C_seq ?_
 refine C_region ?_
 refine Jq (q_assign rfl) ?_
 refine L_then ?_
 refine C_ret ?_
 have e9 := (rdU_1 (w := wd) (c := os.length) (show lnE p = true by simpa using h20)).trans ((rdN_3 e (by omega) (Decidable.not_not.1 h27)).trans hns)
 exact it_retV (res1 rfl rfl) (fun w_ h_ => ⟨_, ⟨ns, by rw [e9]; rfl, fun ns9 h9 => (by rw [e9] at h9; injection h9), (by omega), rfl⟩, h_.pk (by repeat (first | with_reducible exact pk_nil | refine pk_box rfl ?_ | refine pk_rd rfl ?_ | refine pk_sl rfl ?_ | with_reducible refine pk_app ?_ | with_reducible refine pk_app0 ?_ | with_reducible refine pk_app0L ?_ | with_reducible exact pk_tl | refine pk_var ?_))⟩)
end Go.Proofs.YtacndicgpkeobaaGreatDoor
