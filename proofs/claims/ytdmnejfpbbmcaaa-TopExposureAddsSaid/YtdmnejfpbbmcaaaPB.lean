/-
  Walks: each function named returns what its model says. Conditions: those in front of each theorem.
-/
import Derived.Test.YtdmnejfpbbmcaaaNf
import Derived.Test.YtdmnejfpbbmcaaaYB
import Derived.Test.YtdmnejfpbbmcaaaArgP
import Derived.Test.YtdmnejfpbbmcaaaXp9
import Derived.Test.YtdmnejfpbbmcaaaYC
namespace Go.Proofs.Ytdmnejfpbbmcaaa
theorem sameG_l {y g : Gs} : sameG y g ↔ [g.o, g.h] = [y.o, y.h] := by
  constructor
  · rintro ⟨h1, h2⟩
    rw [h1, h2]
  · intro h
    rw [List.cons.injEq, List.cons.injEq] at h
    exact ⟨h.1.symm, h.2.1.symm⟩
theorem gIx_y {y g : Gs} {t : List Gs} (h : sameG y g) : gIx (y :: t) g = 0 := if_pos h
theorem gIx_n {y g : Gs} {t : List Gs} (h : ¬ sameG y g) : gIx (y :: t) g = gIx t g + 1 := if_neg h
section
variable {sf : Int} {gs : List Gs} {ls : List Dl}
end
end Go.Proofs.Ytdmnejfpbbmcaaa
namespace Go.Proofs.Ytdmnejfpbbmcaaa
set_option maxRecDepth 100000
set_option maxHeartbeats 4000000
open Go.RowKit

end Go.Proofs.Ytdmnejfpbbmcaaa
namespace Go.Proofs.Ytdmnejfpbbmcaaa
set_option maxRecDepth 100000
set_option maxHeartbeats 4000000
open Go.RowKit

end Go.Proofs.Ytdmnejfpbbmcaaa
namespace Go.Proofs.Ytdmnejfpbbmcaaa
open Go.RowKit
section
variable {M : List Dl} {x : Dl} {i : Int}
theorem pts_eq {L K : List Dl} {n : Nat} (h : ∀ j, j ≤ n → secAt L j = secAt K j ∧ depAt L j = depAt K j) : ptsK L n = ptsK K n := by
  unfold ptsK
  refine List.map_congr_left fun j hj => ?_
  have := List.mem_range.1 hj
  obtain ⟨h1, h2⟩ := h j (by omega)
  rw [h1, h2]
theorem set_app {α : Type} {a b : α} : ∀ {s : List α} {n : Nat}, s.length = n → (s ++ [a]).set n b = s ++ [b]
  | [], n, h => by
    subst h
    rfl
  | c :: s, n, h => by
    subst h
    show c :: (s ++ [a]).set s.length b = _
    rw [set_app rfl]
    rfl
theorem pts_app (y : Dl) : (ptsK M M.length).map cSw ++ [cSw (secAt M M.length + y.s, y.d)] = (ptsK (M ++ [y]) (M ++ [y]).length).map cSw := by
  have e1 : ptsK M M.length = ptsK (M ++ [y]) M.length := pts_eq fun j hj => ⟨(ap_sec j hj).symm, (ap_dep j hj).symm⟩
  rw [e1, show secAt M M.length + y.s = secAt (M ++ [y]) (M.length + 1) from ap_sec0.symm]
  rw [show y.d = depAt (M ++ [y]) (M.length + 1) from ap_dep0.symm, pt_cells, ap_len]
def mrgL (M : List Dl) (i : Int) (x : Dl) : List Dl := M.dropLast ++ [⟨(dlAt M (M.length - 1)).s + x.s, x.d, i⟩]
theorem mrg_len (h : 0 < M.length) : (mrgL M i x).length = M.length := by
  unfold mrgL
  rw [ap_len, List.length_dropLast]
  omega
theorem mrg_cells (h : 0 < M.length) (hi : (dlAt M (M.length - 1)).g = i) : (M.map cDl).set (M.length - 1) [.int .i64 ((dlAt M (M.length - 1)).s + x.s), .int .i64 x.d, .int .i64 (dlAt M (M.length - 1)).g] = (mrgL M i x).map cDl := by
  subst hi
  obtain ⟨e, hl⟩ := last_split h
  unfold mrgL
  conv => lhs; rw [show M.map cDl = (M.dropLast ++ [dlAt M (M.length - 1)]).map cDl by rw [← e]]
  rw [List.map_append, List.map_append]
  have h1 : (M.dropLast.map cDl).length = M.length - 1 := by rw [List.length_map, hl]
  exact set_app h1
theorem mrg_pts (h : 0 < M.length) : ((ptsK M M.length).map cSw).set M.length (cSw (secAt M M.length + x.s, x.d)) = (ptsK (mrgL M i x) (mrgL M i x).length).map cSw := by
  obtain ⟨e, hl⟩ := last_split h
  obtain ⟨m, hm⟩ : ∃ m, M.length = m + 1 := ⟨M.length - 1, by omega⟩
  have hml := mrg_len (i := i) (x := x) h
  have hlo : ∀ j, j ≤ m → secAt (mrgL M i x) j = secAt M j ∧ depAt (mrgL M i x) j = depAt M j := by
    intro j hj
    have a1 : secAt M j = secAt M.dropLast j := by
      conv => lhs; rw [e]
      exact ap_sec j (by omega)
    have a2 : depAt M j = depAt M.dropLast j := by
      conv => lhs; rw [e]
      exact ap_dep j (by omega)
    rw [a1, a2]
    exact ⟨ap_sec j (by omega), ap_dep j (by omega)⟩
  have hlast : dlAt (mrgL M i x) m = ⟨(dlAt M m).s + x.s, x.d, i⟩ := by
    have : m = M.dropLast.length := by omega
    unfold mrgL
    rw [show M.length - 1 = m by omega]
    conv => lhs; rw [this]
    rw [ap_dl0]
    rw [← this]
  rw [hml, hm, ptsK_succ, ptsK_succ, List.map_append, List.map_append]
  have h1 : ((ptsK M m).map cSw).length = m + 1 := by rw [List.length_map, ptsK_len]
  rw [show ∀ a b, ((ptsK M m).map cSw ++ [a].map cSw).set (m + 1) b = (ptsK M m).map cSw ++ [b] from fun a b => set_app h1]
  rw [pts_eq (L := mrgL M i x) (K := M) hlo]
  have e2 : secAt (mrgL M i x) (m + 1) = secAt M (m + 1) + x.s := by
    rw [secAt_succ, secAt_succ, hlast, (hlo m (Nat.le_refl _)).1]
    dsimp only
    omega
  have e3 : depAt (mrgL M i x) (m + 1) = x.d := by
    show (dlAt (mrgL M i x) m).d = _
    rw [hlast]
  rw [e2, e3]
  rfl
theorem strt_eq (h : 0 < M.length) : strt M x ↔ (depAt M M.length - depAt M (M.length - 1)) * (secAt M M.length + x.s - secAt M M.length) = (x.d - depAt M M.length) * (secAt M M.length - secAt M (M.length - 1)) := by
  obtain ⟨m, hm⟩ : ∃ m, M.length = m + 1 := ⟨M.length - 1, by omega⟩
  unfold strt
  rw [hm, show m + 1 - 1 = m from rfl, show secAt M (m + 1) + x.s - secAt M (m + 1) = x.s by omega, secAt_succ, show secAt M m + (dlAt M m).s - secAt M m = (dlAt M m).s by omega]
  exact Iff.rfl
end
end Go.Proofs.Ytdmnejfpbbmcaaa
namespace Go.Proofs.Ytdmnejfpbbmcaaa
open Go.RowKit
section
variable {sf : Int} {gs : List Gs} {ls : List Dl} {k : Nat}
theorem nfGs_1 {G : List Gs} {x : Dl} (h : ¬ gIx G (gasAt gs x.g) < G.length) : nfGs gs G x = G ++ [gasAt gs x.g] := if_neg h
theorem nfGs_0 {G : List Gs} {x : Dl} (h : gIx G (gasAt gs x.g) < G.length) : nfGs gs G x = G := if_pos h
theorem nfGs_len {G : List Gs} {x : Dl} : (nfGs gs G x).length ≤ G.length + 1 := by
  unfold nfGs
  split
  · omega
  · rw [List.length_append, List.length_singleton]; exact Nat.le_refl _
theorem nfIx_n {G : List Gs} {x : Dl} (h : ¬ gIx G (gasAt gs x.g) < G.length) : nfIx gs G x = (G.length : Int) := by
  have := gIx_le G (gasAt gs x.g)
  unfold nfIx
  omega
theorem nfL_1 {M : List Dl} {i : Int} {x : Dl} (h : mrgP M i x) : nfLs M i x = mrgL M i x := if_pos h
theorem nfL_0 {M : List Dl} {i : Int} {x : Dl} (h : ¬ mrgP M i x) : nfLs M i x = M ++ [⟨x.s, x.d, i⟩] := if_neg h
theorem nfK_s2 : (nfK gs ls (k + 1)).2 = nfLs (nfK gs ls k).2 (nfIx gs (nfK gs ls k).1 (dlAt ls k)) (dlAt ls k) := rfl
structure NfB (ls : List Dl) (k : Nat) (M : List Dl) : Prop where
  s : secAt M M.length = secAt ls k
  l : M.length ≤ 60
  d : 0 ≤ depAt M M.length ∧ depAt M M.length ≤ 30000
  p : 0 < M.length → 0 ≤ secAt M (M.length - 1) ∧ secAt M (M.length - 1) + (dlAt M (M.length - 1)).s = secAt M M.length ∧ 1 ≤ (dlAt M (M.length - 1)).s ∧ 0 ≤ depAt M (M.length - 1) ∧ depAt M (M.length - 1) ≤ 30000
theorem nf_b (H : okPl sf gs ls) (hk : k ≤ ls.length) : NfB ls k (nfK gs ls k).2 := by
  have h := nf_ok H k hk
  have hll := H.ll; have h2 := h.ll
  have e1 : secAt (nfK gs ls k).2 (nfK gs ls k).2.length = secAt ls k := by
    have h3 := h.sm.s
    have h4 : (ls.take k).length = k := by rw [List.length_take]; omega
    rw [← h3, h4]
    have : ∀ j, j ≤ k → secAt (ls.take k) j = secAt ls j := by
      intro j
      induction j with
      | zero => intro _; rfl
      | succ j ih =>
        intro hj
        show secAt (ls.take k) j + (dlAt (ls.take k) j).s = secAt ls j + (dlAt ls j).s
        rw [ih (by omega)]
        unfold dlAt
        rw [List.getElem?_take_of_lt (by omega)]
    exact this k (Nat.le_refl _)
  have hde : ∀ i, i ≤ (nfK gs ls k).2.length → 0 ≤ depAt (nfK gs ls k).2 i ∧ depAt (nfK gs ls k).2 i ≤ 30000 := by
    intro i hi
    cases i with
    | zero => show (0 : Int) ≤ 0 ∧ (0 : Int) ≤ 30000; omega
    | succ i => exact h.de i hi
  refine ⟨e1, by omega, hde _ (Nat.le_refl _), fun h0 => ?_⟩
  obtain ⟨m, hm⟩ : ∃ m, (nfK gs ls k).2.length = m + 1 := ⟨_, (Nat.sub_add_cancel h0).symm⟩
  have a5 := sec_up h.po (i := 0) m (by omega) (by omega)
  have a7 : secAt (nfK gs ls k).2 0 = 0 := rfl
  have a8 := hde m (by omega)
  rw [hm, Nat.add_sub_cancel]
  exact ⟨by omega, rfl, h.po m (by omega), a8.1, a8.2⟩
theorem nf_g8 (H : okPl sf gs ls) (hk : k ≤ ls.length) : (nfK gs ls k).1.length ≤ 8 := by
  have h := nf_ok H k hk
  have := sub_len h.nd h.sb
  have := H.gl
  omega
theorem nfG_0 (h : (nfK gs ls ls.length).2.length = 0) : nfG gs ls = [gasAt gs 0] := if_pos h
theorem nfG_1 (h : ¬ (nfK gs ls ls.length).2.length = 0) : nfG gs ls = (nfK gs ls ls.length).1 := if_neg h
theorem set_at {α : Type} {l : List α} {i : Nat} {a b : α} (h : l[i]? = some a) : (l.set i b)[i]? = some b := List.getElem?_set_self (List.getElem?_eq_some_iff.1 h).1
theorem set_set {α : Type} {l : List α} {i : Nat} {a b : α} : (l.set i a).set i b = l.set i b := List.set_set a
end
end Go.Proofs.Ytdmnejfpbbmcaaa
namespace Go.Proofs.Ytdmnejfpbbmcaaa
def ixN : List (Int × Int) → Int → Nat
  | [], _ => 0
  | p :: t, c => if c ≤ p.1 then 0 else ixN t c + 1
def ixZ (l : List (Int × Int)) (c : Int) : Int := if ixN l c < l.length then ixN l c else -1
theorem ixN_y {p : Int × Int} {t : List (Int × Int)} {c : Int} (h : c ≤ p.1) : ixN (p :: t) c = 0 := if_pos h
theorem ixN_n {p : Int × Int} {t : List (Int × Int)} {c : Int} (h : ¬ c ≤ p.1) : ixN (p :: t) c = ixN t c + 1 := if_neg h
theorem ixN_le : ∀ (l : List (Int × Int)) (c : Int), ixN l c ≤ l.length
  | [], _ => Nat.le_refl _
  | p :: t, c => by
    have := ixN_le t c
    unfold ixN
    rw [List.length_cons]
    split <;> omega
theorem ixZ_in (l : List (Int × Int)) (c : Int) : -1 ≤ ixZ l c ∧ ixZ l c ≤ l.length := by
  have := ixN_le l c
  unfold ixZ
  split <;> omega
end Go.Proofs.Ytdmnejfpbbmcaaa
namespace Go.Proofs.Ytdmnejfpbbmcaaa
open Go.RowKit

set_option maxRecDepth 100000 in
set_option maxHeartbeats 1000000 in
theorem ct_profile_straight (p d q e x f : Int) (h1 : 0 ≤ p ∧ p ≤ q ∧ q ≤ x ∧ x ≤ 1000000) (h2 : 0 ≤ d ∧ d ≤ 30000 ∧ 0 ≤ e ∧ e ≤ 30000 ∧ 0 ≤ f ∧ f ≤ 30000) : Ct Try.prog 77 [.agg #[.int .i64 p, .int .i64 d], .agg #[.int .i64 q, .int .i64 e], .agg #[.int .i64 x, .int .i64 f]] [] (isV (.bool (decide ((e - d) * (x - q) = (f - e) * (q - p))))) := by
 refine Ct.of (N := 30) Try.func77 rfl rfl rfl fun w => ?_
 refine C_weak (E' := [(0, .agg #[.int .i64 p, .int .i64 d]), (1, .agg #[.int .i64 q, .int .i64 e]), (2, .agg #[.int .i64 x, .int .i64 f])]) (rs' := []) ⟨rfl, rfl, rfl, trivial⟩ (fun _ h => h) ?_
 have m1 := mulB (a := e - d + 30000) (b := x - q) (A := 60000) (B := 1000000) (by omega) (by omega); have m2 := mulB (a := f - e + 30000) (b := q - p) (A := 60000) (B := 1000000) (by omega) (by omega)
 rw [Int.add_mul] at m1 m2
 refine C_seq ?_
 refine C_region ?_
 refine L_box rfl rfl rfl fun g3 => ?_
 refine L_box rfl rfl rfl fun g4 => ?_
 refine L_box rfl rfl rfl fun g5 => ?_
 refine Jq (q_assign rfl) ?_
 refine L_then ?_
 refine C_seq ?_
 refine C_region ?_
 refine Jq (q_field tb rfl rfl rfl) ?_
 refine Jq (q_load tb rfl rfl bxo rfl) ?_
 refine Jq (q_field tb rfl rfl rfl) ?_
 refine Jq (q_load tb rfl rfl bxo rfl) ?_
 refine Jq (q_sub rfl rfl (by first | exact IntWalk.i64_in _ (by omega) | rfl)) ?_
 refine Jq (q_field tb rfl rfl rfl) ?_
 refine Jq (q_load tb rfl rfl bxo rfl) ?_
 refine Jq (q_field tb rfl rfl rfl) ?_
 refine Jq (q_load tb rfl rfl bxo rfl) ?_
 refine Jq (q_sub rfl rfl (by first | exact IntWalk.i64_in _ (by omega) | rfl)) ?_
 refine Jq (q_mul rfl rfl (wr (b := (e - d) * (x - q)) rfl (by omega))) ?_
 refine Jq (q_field tb rfl rfl rfl) ?_
 refine Jq (q_load tb rfl rfl bxo rfl) ?_
 refine Jq (q_field tb rfl rfl rfl) ?_
 refine Jq (q_load tb rfl rfl bxo rfl) ?_
 refine Jq (q_sub rfl rfl (by first | exact IntWalk.i64_in _ (by omega) | rfl)) ?_
 refine Jq (q_field tb rfl rfl rfl) ?_
 refine Jq (q_load tb rfl rfl bxo rfl) ?_
 refine Jq (q_field tb rfl rfl rfl) ?_
 refine Jq (q_load tb rfl rfl bxo rfl) ?_
 refine Jq (q_sub rfl rfl (by first | exact IntWalk.i64_in _ (by omega) | rfl)) ?_
 refine Jq (q_mul rfl rfl (wr (b := (f - e) * (q - p)) rfl (by omega))) ?_
 refine Jq (q_eql rfl rfl) ?_
 refine Jq (q_assign rfl) ?_
 refine L_then ?_
 refine C_ret ?_
 exact ret_of (res1 rfl rfl) sub_nil (by intro r hr; cases hr) ⟨rfl, rfl⟩
set_option maxRecDepth 100000 in
set_option maxHeartbeats 1000000 in
theorem ct_slices_Index_shotline_api_Gas_shotline_api_Gas (v : Value) (G : List Gs) (g : Gs) (hle : G.length ≤ 100) : Ct Try.prog 76 [v, .agg (cGs g).toArray] [(v, 2, G.map cGs)] (isV (.int .i64 (if gIx G g < G.length then (gIx G g : Int) else -1))) := by
 refine Ct.of (N := 19) Try.func76 rfl rfl rfl fun w => ?_
 refine C_weak (E' := [(0, v), (1, .agg (cGs g).toArray)]) (rs' := [rd v 2 (G.map cGs)]) ⟨rfl, rfl, trivial⟩ (fun _ h => h) ?_
 have hl := len_map cGs G
 refine C_seq ?_
 refine C_region ?_
 refine L_box rfl rfl rfl fun g3 => ?_
 refine Jq (q_assign rfl) ?_
 refine L_then ?_
 refine C_seq ?_
 refine C_seq ?_
 refine C_region ?_
 refine Jq (q_move rfl) ?_
 refine Jq (q_len tb rfl rfl gvo) ?_
 refine Jq (q_move rfl) ?_
 refine L_then ?_
 refine C_block ?_
 refine C_loop (ι := Nat) (fun k => ([(0, v), (3, .pointer (some ⟨g3, 0, none⟩)), (6, v), (7, .int .i64 (G.map cGs).length), (8, .int .i64 (k : Int))], [box g3 80 (cGs g), rd v 2 (G.map cGs)])) (fun k => k ≤ G.length ∧ gIx G g = k + gIx (G.drop k) g) (fun k => G.length - k) 0 ⟨Nat.zero_le _, (Nat.zero_add _).symm⟩ (fun a w hs => hs.weak ⟨rfl, rfl, rfl, rfl, rfl, trivial⟩ (fun h => h.pk (by repeat (first | with_reducible exact pk_nil | refine pk_box rfl ?_ | refine pk_rd rfl ?_ | refine pk_sl rfl ?_ | with_reducible refine pk_app ?_ | with_reducible refine pk_app0 ?_ | with_reducible refine pk_app0L ?_ | with_reducible exact pk_tl | refine pk_var ?_)))) ?_
 rintro k ⟨hk, hG⟩
 dsimp only at hk hG ⊢
 refine C_seq ?_
 refine C_region ?_
 refine Jq (q_lss rfl rfl) ?_
 refine L_then ?_
 refine C_seq ?_
 refine C_dec rfl (fun h1 => ?_) (fun h1 => ?_)
 obtain ⟨y, hy⟩ := get_some G (k := k) (by omega); have hel := map_get cGs hy; have hdc := drop_cons hy
 refine C_skip_then ?_
 refine C_seq ?_
 refine C_block ?_
 refine C_seq ?_
 refine C_region ?_
 refine Jq (q_move rfl) ?_
 refine Jq (q_assign rfl) ?_
 refine L_then ?_
 refine C_seq ?_
 refine C_draw (n := 6) [(0, false), (1, false), (2, false), (3, false), (4, false), (5, false)] mixed (by kernel_rfl) ?_
 refine Yq rfl (q_loadA tb rfl rfl bxo rfl rfl) ?_
 refine Yq rfl (q_move rfl) ?_
 refine Yq rfl (q_move rfl) ?_
 refine Yq rfl (by first | exact q_index tb rfl rfl rfl rfl gvo (by omega) (by first | omega | (simp; done) | (simp; omega)) | exact q_indexP tb rfl rfl rfl rfl (by omega) (by omega)) ?_
 refine Yq rfl (q_loadEA tb rfl rfl gvo (i := k) (o := 0) (by omega) hel rfl rfl) ?_
 refine Yq rfl (q_eqI (p := sameG y g) (xs := [g.o, g.h]) (ys := [y.o, y.h]) eq80 (by omega) eg80 rfl rfl rfl rfl sameG_l) ?_
 refine W_nil ?_
 refine L_then ?_
 refine C_dec rfl (fun h16 => ?_) (fun h16 => ?_)
 refine C_seq ?_
 refine C_region ?_
 refine Jq (q_move rfl) ?_
 refine Jq (q_assign rfl) ?_
 refine L_then ?_
 refine C_ret ?_
 have e9 : gIx G g = k := hG.trans (by rw [hdc, gIx_y h16]; rfl)
 exact ret_of (res1 rfl rfl) sub_nil (by intro r hr; cases hr) ⟨(congrArg (Value.int .i64) (by rw [e9, if_pos (by omega)])), rfl⟩
 refine C_skip_blk ?_
 refine C_region ?_
 refine Jq (q_add rfl rfl (by first | exact IntWalk.i64_in _ (by omega) | rfl)) ?_
 refine Jq (q_move rfl) ?_
 refine L_end ?_
 exact fun ac_ wo_ hs_ => ⟨k + 1, ⟨by omega, hG.trans (by rw [hdc, gIx_n h16]; omega)⟩, (by dsimp only; omega), hs_.weak ⟨rfl, rfl, rfl, rfl, rfl, trivial⟩ (fun h => h.pk (by repeat (first | with_reducible exact pk_nil | refine pk_box rfl ?_ | refine pk_rd rfl ?_ | refine pk_sl rfl ?_ | with_reducible refine pk_app ?_ | with_reducible refine pk_app0 ?_ | with_reducible refine pk_app0L ?_ | with_reducible exact pk_tl | refine pk_var ?_)))⟩
 have hdn : G.drop k = [] := List.drop_eq_nil_of_le (by omega)
 refine C_exit ?_
 change C Try.prog _ _ _ _ _ _ _
 refine C_seq ?_
 refine C_region ?_
 refine Jq (q_assign rfl) ?_
 refine L_then ?_
 refine C_ret ?_
 exact ret_of (res1 rfl rfl) sub_nil (by intro r hr; cases hr) ⟨(congrArg (Value.int .i64) (by rw [hG, hdn, if_neg (show ¬ k + gIx [] g < G.length by show ¬ k + 0 < G.length; omega)])), rfl⟩
end Go.Proofs.Ytdmnejfpbbmcaaa
