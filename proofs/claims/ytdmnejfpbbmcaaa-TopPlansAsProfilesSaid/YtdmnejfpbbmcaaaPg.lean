/-
  The normal form's lists as they are stored: a leg that is merged into the last one, a leg more, and the points of both. Conditions: those in front of each theorem; no program in sight.
-/
import Derived.Test.YtdmnejfpbbmcaaaPf
import Derived.Test.YtdmnejfpbbmcaaaShMid
namespace Go.Proofs.Ytdmnejfpbbmcaaa
open Go.RowKit
section
variable {M : List Dl} {x : Dl} {i : Int}
theorem pts_eq {L K : List Dl} {n : Nat} (h : ∀ j, j ≤ n → secAt L j = secAt K j ∧ depAt L j = depAt K j) : ptsK L n = ptsK K n := by
  unfold ptsK
  refine List.map_congr_left fun j hj => ?_
  have := List.mem_range.1 hj
  obtain ⟨h1, h2⟩ := h j (by omega)
  rw [h1, h2]
theorem set_app {α : Type} {a b : α} : ∀ {s : List α} {n : Nat}, s.length = n → (s ++ [a]).set n b = s ++ [b]
  | [], n, h => by
    subst h
    rfl
  | c :: s, n, h => by
    subst h
    show c :: (s ++ [a]).set s.length b = _
    rw [set_app rfl]
    rfl
theorem pts_app (y : Dl) : (ptsK M M.length).map cSw ++ [cSw (secAt M M.length + y.s, y.d)] = (ptsK (M ++ [y]) (M ++ [y]).length).map cSw := by
  have e1 : ptsK M M.length = ptsK (M ++ [y]) M.length := pts_eq fun j hj => ⟨(ap_sec j hj).symm, (ap_dep j hj).symm⟩
  rw [e1, show secAt M M.length + y.s = secAt (M ++ [y]) (M.length + 1) from ap_sec0.symm]
  rw [show y.d = depAt (M ++ [y]) (M.length + 1) from ap_dep0.symm, pt_cells, ap_len]
def mrgL (M : List Dl) (i : Int) (x : Dl) : List Dl := M.dropLast ++ [⟨(dlAt M (M.length - 1)).s + x.s, x.d, i⟩]
theorem mrg_len (h : 0 < M.length) : (mrgL M i x).length = M.length := by
  unfold mrgL
  rw [ap_len, List.length_dropLast]
  omega
theorem mrg_cells (h : 0 < M.length) (hi : (dlAt M (M.length - 1)).g = i) : (M.map cDl).set (M.length - 1) [.int .i64 ((dlAt M (M.length - 1)).s + x.s), .int .i64 x.d, .int .i64 (dlAt M (M.length - 1)).g] = (mrgL M i x).map cDl := by
  subst hi
  obtain ⟨e, hl⟩ := last_split h
  unfold mrgL
  conv => lhs; rw [show M.map cDl = (M.dropLast ++ [dlAt M (M.length - 1)]).map cDl by rw [← e]]
  rw [List.map_append, List.map_append]
  have h1 : (M.dropLast.map cDl).length = M.length - 1 := by rw [List.length_map, hl]
  exact set_app h1
theorem mrg_pts (h : 0 < M.length) : ((ptsK M M.length).map cSw).set M.length (cSw (secAt M M.length + x.s, x.d)) = (ptsK (mrgL M i x) (mrgL M i x).length).map cSw := by
  obtain ⟨e, hl⟩ := last_split h
  obtain ⟨m, hm⟩ : ∃ m, M.length = m + 1 := ⟨M.length - 1, by omega⟩
  have hml := mrg_len (i := i) (x := x) h
  have hlo : ∀ j, j ≤ m → secAt (mrgL M i x) j = secAt M j ∧ depAt (mrgL M i x) j = depAt M j := by
    intro j hj
    have a1 : secAt M j = secAt M.dropLast j := by
      conv => lhs; rw [e]
      exact ap_sec j (by omega)
    have a2 : depAt M j = depAt M.dropLast j := by
      conv => lhs; rw [e]
      exact ap_dep j (by omega)
    rw [a1, a2]
    exact ⟨ap_sec j (by omega), ap_dep j (by omega)⟩
  have hlast : dlAt (mrgL M i x) m = ⟨(dlAt M m).s + x.s, x.d, i⟩ := by
    have : m = M.dropLast.length := by omega
    unfold mrgL
    rw [show M.length - 1 = m by omega]
    conv => lhs; rw [this]
    rw [ap_dl0]
    rw [← this]
  rw [hml, hm, ptsK_succ, ptsK_succ, List.map_append, List.map_append]
  have h1 : ((ptsK M m).map cSw).length = m + 1 := by rw [List.length_map, ptsK_len]
  rw [show ∀ a b, ((ptsK M m).map cSw ++ [a].map cSw).set (m + 1) b = (ptsK M m).map cSw ++ [b] from fun a b => set_app h1]
  rw [pts_eq (L := mrgL M i x) (K := M) hlo]
  have e2 : secAt (mrgL M i x) (m + 1) = secAt M (m + 1) + x.s := by
    rw [secAt_succ, secAt_succ, hlast, (hlo m (Nat.le_refl _)).1]
    dsimp only
    omega
  have e3 : depAt (mrgL M i x) (m + 1) = x.d := by
    show (dlAt (mrgL M i x) m).d = _
    rw [hlast]
  rw [e2, e3]
  rfl
theorem strt_eq (h : 0 < M.length) : strt M x ↔ (depAt M M.length - depAt M (M.length - 1)) * (secAt M M.length + x.s - secAt M M.length) = (x.d - depAt M M.length) * (secAt M M.length - secAt M (M.length - 1)) := by
  obtain ⟨m, hm⟩ : ∃ m, M.length = m + 1 := ⟨M.length - 1, by omega⟩
  unfold strt
  rw [hm, show m + 1 - 1 = m from rfl, show secAt M (m + 1) + x.s - secAt M (m + 1) = x.s by omega, secAt_succ, show secAt M m + (dlAt M m).s - secAt M m = (dlAt M m).s by omega]
  exact Iff.rfl
end
end Go.Proofs.Ytdmnejfpbbmcaaa
