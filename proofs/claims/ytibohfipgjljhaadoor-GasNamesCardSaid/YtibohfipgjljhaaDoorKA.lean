/-
  Walks: each function named returns what its model says. Conditions: those in front of each theorem.
-/
import Derived.Test.YtibohfipgjljhaaDoorGC
import Derived.Test.YtibohfipgjljhaaDoorKl
import Derived.Test.YtibohfipgjljhaaDoorShelf
namespace Go.Proofs.YtibohfipgjljhaaDoor
open Go.RowKit

theorem ct_cp_nx : Ct Tryd.prog 109 [.string sTX, .string sNx] [] (isV (.tuple #[.string sTX, .bool false])) := ct_law fun w => (Tryd.strings_CutPrefix sTX sNx w).mono fun _ _ ⟨he, hw⟩ => ⟨he, hw ▸ Below.refl _ _⟩
theorem ct_cp_tx : Ct Tryd.prog 109 [.string sTX, .string sTx] [] (isV (.tuple #[.string sRest, .bool true])) := ct_law fun w => (Tryd.strings_CutPrefix sTX sTx w).mono fun _ _ ⟨he, hw⟩ => ⟨he, hw ▸ Below.refl _ _⟩
theorem ct_ix : Ct Tryd.prog 119 [.string sRest, .string sSl] [] (isV (.int .i64 2)) := ct_law fun w => (Tryd.stringslite_Index_one sRest 47 w).mono fun _ _ ⟨he, hw⟩ => ⟨he, hw ▸ Below.refl _ _⟩
theorem ct_at18 : Ct Tryd.prog 111 [.string s18] [] (isV (.tuple #[.int .i64 18, .nilIface])) := ct_law fun w => (Tryd.strconv_Atoi s18 18 (by decide) (by decide) w).mono fun _ _ ⟨he, _, hw⟩ => ⟨he, hw ▸ below_bytes _ _ _⟩
theorem ct_at45 : Ct Tryd.prog 111 [.string s45] [] (isV (.tuple #[.int .i64 45, .nilIface])) := ct_law fun w => (Tryd.strconv_Atoi s45 45 (by decide) (by decide) w).mono fun _ _ ⟨he, _, hw⟩ => ⟨he, hw ▸ below_bytes _ _ _⟩
theorem ct_it18 : Ct Tryd.prog 108 [.int .i64 18] [] (isV (.string s18)) := ct_law fun w => (Tryd.strconv_Itoa_small 18 (by decide) w).mono fun _ _ ⟨he, hw⟩ => ⟨by rw [he, dd18], hw ▸ Below.refl _ _⟩
theorem ct_it45 : Ct Tryd.prog 108 [.int .i64 45] [] (isV (.string s45)) := ct_law fun w => (Tryd.strconv_Itoa_small 45 (by decide) w).mono fun _ _ ⟨he, hw⟩ => ⟨by rw [he, dd45], hw ▸ Below.refl _ _⟩

set_option maxRecDepth 100000 in
theorem ct_internal_stringslite_Cut  : Ct Tryd.prog 114 [.string sRest, .string sSl] [] (isV (.tuple #[.string s18, .string s45, .bool true])) := by
  refine Ct.of (N := 23) Tryd.func114 rfl rfl rfl fun w => ?_
  refine C_weak (E' := [(0, .string sRest), (1, .string sSl)]) (rs' := []) ⟨rfl, rfl, trivial⟩ (fun _ h => h) ?_
  refine C_seq ?_
  refine C_region ?_
  refine L_q rfl rfl rfl (q_assign rfl) ?_
  refine L_q rfl rfl rfl (q_assign rfl) ?_
  refine L_q rfl rfl rfl (q_assign rfl) ?_
  refine L_then ?_
  refine C_seq ?_
  refine C_seq ?_
  refine C_region ?_
  refine L_q rfl rfl rfl (q_move rfl) ?_
  refine L_q rfl rfl rfl (q_move rfl) ?_
  refine L_call tb rfl rfl (ct_ix) no_ps rfl ?_
  refine L_q rfl rfl rfl (q_assign rfl) ?_
  refine L_then ?_
  refine C_seq ?_
  refine C_region ?_
  refine L_q rfl rfl rfl (q_move rfl) ?_
  refine L_q rfl rfl rfl (q_true (q_geq rfl rfl) (by decide)) ?_
  refine L_then ?_
  refine C_true rfl ?_
  refine C_seq ?_
  refine C_draw (n := 12) [(0, false), (1, false), (2, false), (3, false), (4, false), (5, false), (6, false), (7, false), (8, false), (9, false), (10, false), (11, false)] mixed (by kernel_rfl) ?_
  refine W_q rfl rfl rfl rfl (q_move rfl) ?_
  refine W_q rfl rfl rfl rfl (q_move rfl) ?_
  refine W_q rfl rfl rfl rfl (q_sto (r := s18) Tryd.underlying9 rfl rfl (by decide) (by decide) (by kernel_rfl)) ?_
  refine W_q rfl rfl rfl rfl (q_move rfl) ?_
  refine W_q rfl rfl rfl rfl (q_move rfl) ?_
  refine W_q rfl rfl rfl rfl (q_move rfl) ?_
  refine W_q rfl rfl rfl rfl (q_lenS Tryd.underlying9 rfl) ?_
  refine W_q rfl rfl rfl rfl (q_add (e := 3) rfl rfl (by decide)) ?_
  refine W_q rfl rfl rfl rfl (q_sfrom (r := s45) Tryd.underlying9 rfl rfl (by decide) (by decide) (by kernel_rfl)) ?_
  refine W_q rfl rfl rfl rfl (q_assign rfl) ?_
  refine W_q rfl rfl rfl rfl (q_assign rfl) ?_
  refine W_q rfl rfl rfl rfl (q_assign rfl) ?_
  refine W_nil ?_
  refine L_then ?_
  refine C_ret ?_
  exact ret_of (res3 rfl rfl rfl rfl) sub_nil (by intro r hr; cases hr) ⟨rfl, rfl⟩
set_option maxRecDepth 100000 in
theorem ct_strings_Cut  : Ct Tryd.prog 110 [.string sRest, .string sSl] [] (isV (.tuple #[.string s18, .string s45, .bool true])) := by
  refine Ct.of (N := 13) Tryd.func110 rfl rfl rfl fun w => ?_
  refine C_weak (E' := [(0, .string sRest), (1, .string sSl)]) (rs' := []) ⟨rfl, rfl, trivial⟩ (fun _ h => h) ?_
  refine C_seq ?_
  refine C_region ?_
  refine L_q rfl rfl rfl (q_assign rfl) ?_
  refine L_q rfl rfl rfl (q_assign rfl) ?_
  refine L_q rfl rfl rfl (q_assign rfl) ?_
  refine L_then ?_
  refine C_seq ?_
  refine C_region ?_
  refine L_q rfl rfl rfl (q_move rfl) ?_
  refine L_q rfl rfl rfl (q_move rfl) ?_
  refine L_call tb rfl rfl (ct_internal_stringslite_Cut) no_ps rfl ?_
  refine L_q rfl rfl rfl (q_ext0 rfl) ?_
  refine L_q rfl rfl rfl (q_ext1 rfl) ?_
  refine L_q rfl rfl rfl (q_ext2 rfl) ?_
  refine L_q rfl rfl rfl (q_assign rfl) ?_
  refine L_q rfl rfl rfl (q_assign rfl) ?_
  refine L_q rfl rfl rfl (q_assign rfl) ?_
  refine L_then ?_
  refine C_ret ?_
  exact ret_of (res3 rfl rfl rfl rfl) sub_nil (by intro r hr; cases hr) ⟨rfl, rfl⟩
end Go.Proofs.YtibohfipgjljhaaDoor
