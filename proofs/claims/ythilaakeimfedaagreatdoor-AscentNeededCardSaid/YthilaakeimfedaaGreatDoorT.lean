/-
  Walks: each function named returns what its model says. Conditions: those in front of each theorem.
-/
import Derived.Test.YthilaakeimfedaaGreatDoorEx
import Derived.Test.YthilaakeimfedaaGreatDoorMod8
import Derived.Test.YthilaakeimfedaaGreatDoorR
import Derived.Test.YthilaakeimfedaaGreatDoorShKn
import Derived.Laws.CopyRow
import Derived.Test.YthilaakeimfedaaGreatDoorTab
namespace Go.Proofs.YthilaakeimfedaaGreatDoor
def cDv (v u : Value) (x : Lg) (fi : Int) : List Value := [v, u, .int .i64 x.f, .int .i64 x.t, .int .i64 x.s, .int .i64 x.g.o, .int .i64 x.g.h, .int .i64 fi]
def cDl (x : Dl) : List Value := [.int .i64 x.s, .int .i64 x.d, .int .i64 x.g]
def cPl (nm : ByteArray) (sf : Int) (v u : Value) : List Value := [.string nm, .int .i64 sf, v, u]
theorem oneGs (l : List Gs) : ∀ c ∈ (l.map cGs).flatten, c.oneCell' = true := one_map cGs (fun a c hc => by
  simp only [cGs, List.mem_cons, List.not_mem_nil, or_false] at hc
  rcases hc with rfl | rfl <;> rfl) l
theorem oneDl (l : List Dl) : ∀ c ∈ (l.map cDl).flatten, c.oneCell' = true := one_map cDl (fun a c hc => by
  simp only [cDl, List.mem_cons, List.not_mem_nil, or_false] at hc
  rcases hc with rfl | rfl | rfl <;> rfl) l
theorem gas_cell {gs : List Gs} {i : Int} (h0 : 0 ≤ i) (h1 : i ≤ gs.length - 1) : (gs.map cGs)[i.toNat]? = some (cGs (gasAt gs i)) := by
  have : i.toNat < gs.length := by omega
  unfold gasAt
  rw [List.getElem?_map, List.getElem?_eq_getElem this]
  rfl
theorem leg_cells (L : List Lg) (x : Lg) : L.map cLg ++ [cLg x] = (L ++ [x]).map cLg := by rw [List.map_append]; rfl
end Go.Proofs.YthilaakeimfedaaGreatDoor
namespace Go.Proofs.YthilaakeimfedaaGreatDoor
set_option maxRecDepth 100000
set_option maxHeartbeats 4000000
open Go.RowKit

set_option maxRecDepth 100000 in
theorem ct_shotlinebase_Mod (n b : Int) (hb : 1 ≤ b ∧ b ≤ 4000000000000000000) : Ct Tryz.prog 67 [.int .i64 n, .int .i64 b] [] (isV (.int .i64 (n % b))) := by
 refine Ct.of (N := 14) Tryz.func67 rfl rfl rfl fun w => ?_
 refine C_weak (E' := [(0, .int .i64 n), (1, .int .i64 b)]) (rs' := []) ⟨rfl, rfl, trivial⟩ (fun _ h => h) ?_
 have ht := tmod_in (n := n) hb.1
 refine C_seq ?_
 refine C_region ?_
 refine Jq (q_assign rfl) ?_
 refine L_then ?_
 refine C_seq ?_
 refine C_region ?_
 refine Jq (q_move rfl) ?_
 refine Jq (q_move rfl) ?_
 refine Jq (q_rem rfl rfl (by omega) rfl) ?_
 refine Jq (q_assign rfl) ?_
 refine L_then ?_
 refine C_seq ?_
 refine C_seq ?_
 refine C_region ?_
 refine Jq (q_move rfl) ?_
 refine Jq (q_lss rfl rfl) ?_
 refine L_then ?_
 refine C_dec rfl (fun hc => ?_) (fun hc => ?_)
 refine C_region ?_
 refine Jq (q_move rfl) ?_
 refine Jq (q_move rfl) ?_
 refine Jq (q_add rfl rfl (by first | exact IntWalk.i64_in _ (by omega) | rfl)) ?_
 refine Jq (q_assign rfl) ?_
 refine L_then ?_
 refine C_seq ?_
 refine C_region ?_
 refine Jq (q_move rfl) ?_
 refine Jq (q_assign rfl) ?_
 refine L_then ?_
 refine C_ret ?_
 exact ret_of (res1 rfl rfl) sub_nil (by intro r hr; cases hr) ⟨(congrArg (Value.int .i64) (by exact emod_yes hb.1 hc)), rfl⟩
 refine C_skip_then ?_
 refine C_seq ?_
 refine C_region ?_
 refine Jq (q_move rfl) ?_
 refine Jq (q_assign rfl) ?_
 refine L_then ?_
 refine C_ret ?_
 exact ret_of (res1 rfl rfl) sub_nil (by intro r hr; cases hr) ⟨(congrArg (Value.int .i64) (by exact emod_no hb.1 hc)), rfl⟩
end Go.Proofs.YthilaakeimfedaaGreatDoor
namespace Go.Proofs.YthilaakeimfedaaGreatDoor

def satL (g : Gs) (p : Int) : Ld := ⟨⟨(1000 - g.o - g.h) * (p - 63), (1000 - g.o - g.h) * (p - 63)⟩, ⟨g.h * (p - 63), g.h * (p - 63)⟩⟩
def satM (ts : List Cp) (g : Gs) (p : Int) : List Ld := List.replicate ts.length (satL g p)
section
variable {ts : List Cp} {g : Gs} {p : Int}
theorem satM_len : (satM ts g p).length = ts.length := List.length_replicate
structure okSat (ts : List Cp) (g : Gs) (p : Int) : Prop where
  t : 1 ≤ ts.length ∧ ts.length ≤ 16
  c : ∀ c ∈ ts, okCp c
  g : 0 ≤ g.o ∧ 0 ≤ g.h ∧ g.o + g.h ≤ 1000
  p : 400 ≤ p ∧ p ≤ 31100
theorem okSat.loads (h : okSat ts g p) : okTL ts (satM ts g p) := by
  have hA := breath_in (n := 1000 - g.o - g.h) (p := p) (by have := h.g; omega) (by have := h.p; omega)
  have hB := breath_in (n := g.h) (p := p) (by have := h.g; omega) (by have := h.p; omega)
  have key : ∀ y ∈ satM ts g p, y = satL g p := fun y hy => List.eq_of_mem_replicate hy
  refine ⟨h.t.1, h.t.2, satM_len, h.c, fun y hy => ?_, fun y hy => ?_⟩
  · rw [key y hy]
    exact ⟨⟨hA.1, hA.2, hA.1, hA.2⟩, ⟨hB.1, hB.2, hB.1, hB.2⟩⟩
  · rw [key y hy]
    exact ⟨Int.le_refl _, Int.le_refl _⟩
end
end Go.Proofs.YthilaakeimfedaaGreatDoor
namespace Go.Proofs.YthilaakeimfedaaGreatDoor
open Go.RowKit

theorem add_zero (a : Addr) : a.add 0 = a := by unfold Addr.add; simp
section
variable {P : Program} (T : Tab P) {Q : Exit → Act → World → Prop} {ops : Array Oper} {N : Fr} {B : Nat} {w0 : World} {E : Env} {rs : List Res} {rest : List Oper} {dst : Option Tmp} {ty : TypeId} {pos : String} {aft : Array Edge} {gd : Option (Nat × Bool)}
def CpTo (v : Value) (sz k : Nat) (d : Value) : Prop := (d = v ∧ k = 0) ∨ d = dropV v k sz
theorem CpTo.from {v : Value} {sz k : Nat} : CpTo v sz k (dropV v k sz) := .inr rfl
end
end Go.Proofs.YthilaakeimfedaaGreatDoor
namespace Go.Proofs.YthilaakeimfedaaGreatDoor
set_option maxRecDepth 100000
set_option maxHeartbeats 4000000
open Go.RowKit

end Go.Proofs.YthilaakeimfedaaGreatDoor
namespace Go.Proofs.YthilaakeimfedaaGreatDoor
open Go.RowKit

end Go.Proofs.YthilaakeimfedaaGreatDoor
namespace Go.Proofs.YthilaakeimfedaaGreatDoor
open Go.RowKit

def folM (ts : List Cp) (ls : List Ld) (xs : List Lg) (f : Nat) : Nat → List Ld
  | 0 => ls
  | k + 1 => match xs[k]? with
    | some x => loadedM ts (folM ts ls xs f k) x f
    | none => folM ts ls xs f k
section
variable {ts : List Cp} {ls : List Ld} {xs : List Lg} {x : Lg} {f k : Nat} {fi : Int}
theorem folM_step (h : xs[k]? = some x) : folM ts ls xs f (k + 1) = loadedM ts (folM ts ls xs f k) x f := by
  rw [folM, h]
def ckLgs : List Lg → Int
  | [] => 0
  | x :: t => if ckLeg x ≠ 0 then ckLeg x else ckLgs t
theorem ckLgs_step (h : xs[k]? = some x) : ckLgs (xs.drop k) = if ckLeg x ≠ 0 then ckLeg x else ckLgs (xs.drop (k + 1)) := by rw [drop_cons h]; rfl
theorem ckLgs_yes (h : xs[k]? = some x) (hx : ckLeg x ≠ 0) : ckLgs (xs.drop k) = ckLeg x := by rw [ckLgs_step h, if_pos hx]
theorem ckLgs_no (h : xs[k]? = some x) (hx : ¬ ckLeg x ≠ 0) : ckLgs (xs.drop k) = ckLgs (xs.drop (k + 1)) := by rw [ckLgs_step h, if_neg hx]
theorem ckLgs_end (h : xs.length ≤ k) : ckLgs (xs.drop k) = 0 := by rw [drop_all h]; rfl
theorem ckLgs_ok : ∀ {xs : List Lg}, ckLgs xs = 0 → ∀ x ∈ xs, ckLeg x = 0
  | [], _, x, hx => by cases hx
  | d :: t, h, x, hx => by
    unfold ckLgs at h
    split at h
    · rename_i hd; exact absurd h hd
    · rename_i hd
      rcases List.mem_cons.1 hx with rfl | hx
      · exact Decidable.not_not.1 hd
      · exact ckLgs_ok h x hx
theorem folM_ok (h : okTL ts ls) (hx : ckLgs xs = 0) (hf : f ≤ 6) : ∀ k, okTL ts (folM ts ls xs f k)
  | 0 => h
  | k + 1 => by
    rcases he : xs[k]? with _ | x
    · rw [folM, he]; exact folM_ok h hx hf k
    · rw [folM_step he]; exact loaded_ok (folM_ok h hx hf k) (ckLeg_ok (ckLgs_ok hx x (List.mem_of_getElem? he))).1 hf
def folC (ts : List Cp) (ls : List Ld) (xs : List Lg) (f : Int) : Int :=
  if ckLoads ts ls ≠ 0 then ckLoads ts ls else if xs.length > 200 then 8 else if ckLgs xs ≠ 0 then ckLgs xs else if 0 ≤ f ∧ f ≤ 6 then 0 else 2
structure okFol (ts : List Cp) (ls : List Ld) (xs : List Lg) (fi : Int) : Prop where
  k : okTL ts ls
  l : xs.length ≤ 200
  c : ckLgs xs = 0
  f : 0 ≤ fi ∧ fi ≤ 6
theorem folC_ok (h : folC ts ls xs fi = 0) : okFol ts ls xs fi := by
  unfold folC at h
  split at h
  · rename_i h1; exact absurd h h1
  · rename_i h1
    split at h
    · cases h
    · rename_i h2
      split at h
      · rename_i h3; exact absurd h h3
      · rename_i h3
        split at h
        · rename_i h4; exact ⟨ckLoads_ok (Decidable.not_not.1 h1), by omega, Decidable.not_not.1 h3, h4⟩
        · cases h
theorem folC_0 (h : ¬ ckLoads ts ls ≠ 0) (h2 : ¬ xs.length > 200) (h3 : ¬ ckLgs xs ≠ 0) (h4 : 0 ≤ fi ∧ fi ≤ 6) : folC ts ls xs fi = 0 := by unfold folC; rw [if_neg h, if_neg h2, if_neg h3, if_pos h4]
theorem folC_1 (h : ckLoads ts ls ≠ 0) : folC ts ls xs fi = ckLoads ts ls := if_pos h
theorem folC_2 (h : ¬ ckLoads ts ls ≠ 0) (h2 : xs.length > 200) : folC ts ls xs fi = 8 := by unfold folC; rw [if_neg h, if_pos h2]
theorem folC_3 (h : ¬ ckLoads ts ls ≠ 0) (h2 : ¬ xs.length > 200) (h3 : ckLgs xs ≠ 0) : folC ts ls xs fi = ckLgs xs := by unfold folC; rw [if_neg h, if_neg h2, if_pos h3]
theorem folC_4 (h : ¬ ckLoads ts ls ≠ 0) (h2 : ¬ xs.length > 200) (h3 : ¬ ckLgs xs ≠ 0) (h4 : ¬ (0 ≤ fi ∧ fi ≤ 6)) : folC ts ls xs fi = 2 := by unfold folC; rw [if_neg h, if_neg h2, if_neg h3, if_neg h4]
def rlR (u : Nat) (ts : List Cp) (ls : List Ld) (xs : List Lg) (f : Nat) : List Value → List Res
  | [] => []
  | v :: t => sl v u 4 ((folM ts ls xs f (t.length + 1)).map cLd) :: rlR u ts ls xs f t
theorem rlR_own {u : Nat} : ∀ {vs : List Value}, ∀ r ∈ rlR u ts ls xs f vs, r.own = true
  | [], r, h => by cases h
  | a :: t, r, h => by
    unfold rlR at h
    rcases List.mem_cons.1 h with rfl | h
    · exact sl_own _ _ _ _
    · exact rlR_own r h
theorem rlR_sinks {u : Nat} : ∀ {vs : List Value}, ∀ r ∈ rlR u ts ls xs f vs, Sinks r
  | [], r, h => by cases h
  | a :: t, r, h => by
    unfold rlR at h
    rcases List.mem_cons.1 h with rfl | h
    · exact sl_sinks _ _ _ _
    · exact rlR_sinks r h
def FolP (o u : Nat) (ts : List Cp) (ls : List Ld) (xs : List Lg) (fi : Int) (v : Value) (rs' : List Res) : Prop :=
  ∃ s vs, v = .tuple #[s, .int .i64 (folC ts ls xs fi)] ∧ rs' = sl s o 1 (vs.reverse.map fun x => [x]) :: rlR u ts ls xs fi.toNat vs ∧ vs.length = if folC ts ls xs fi = 0 then xs.length else 0
theorem FolP_bad {o u : Nat} {c : Int} (h : folC ts ls xs fi = c) (hc : c ≠ 0) : FolP o u ts ls xs fi (.tuple #[.slice none 0 0, .int .i64 c]) [sl (.slice none 0 0) o 1 []] := ⟨_, [], by rw [h], rfl, by rw [h, if_neg hc]; rfl⟩
theorem FolP_own {o u : Nat} {s : Value} {vs : List Value} : ∀ r ∈ sl s o 1 (vs.reverse.map fun x => [x]) :: rlR u ts ls xs f vs, r.own = true := by
  intro r hr
  rcases List.mem_cons.1 hr with rfl | hr
  · exact sl_own _ _ _ _
  · exact rlR_own r hr
theorem FolP_sinks {o u : Nat} : ∀ v rs', FolP o u ts ls xs fi v rs' → ∀ r ∈ rs', Sinks r := by
  rintro v rs' ⟨s, vs, _, rfl, _⟩ r hr
  rcases List.mem_cons.1 hr with rfl | hr
  · exact sl_sinks _ _ _ _
  · exact rlR_sinks r hr
end
section
variable {rs rs1 t s : List Res} {r : Res}
instance (priority := low) rmBC {g : Nat} {u : TypeId} {xs : List Value} [h : RmB t g u xs rs1] : RmB (s ++ t) g u xs (s ++ rs1) := ⟨List.perm_middle.symm.trans (h.out.append_left s)⟩
instance (priority := low) rmRC {v : Value} {size : Nat} {l : List (List Value)} [h : RmR t v size l rs1] : RmR (s ++ t) v size l (s ++ rs1) := ⟨List.perm_middle.symm.trans (h.out.append_left s)⟩
instance (priority := low) rmSC {v : Value} {e size : Nat} {l : List (List Value)} [h : RmS t v e size l rs1] : RmS (s ++ t) v e size l (s ++ rs1) := ⟨List.perm_middle.symm.trans (h.out.append_left s)⟩
instance (priority := low) tlC [h : Tl rs t] : Tl (rs ++ s) t := ⟨by
  obtain ⟨d, hd⟩ := h.out
  exact ⟨d ++ s, by rw [← List.append_assoc]; exact hd.append_right s⟩⟩
end
end Go.Proofs.YthilaakeimfedaaGreatDoor
namespace Go.Proofs.YthilaakeimfedaaGreatDoor
open Go.RowKit

set_option maxRecDepth 100000 in
theorem ct_tissue_breaks (v u : Value) (p f : Int) (ts : List Cp) (ls : List Ld) (hk : okTL ts ls) (hp : 0 ≤ p ∧ p ≤ 50000) (hf : 0 ≤ f ∧ f ≤ 1000) : Ct Tryz.prog 138 [v, u, .int .i64 p, .int .i64 f] [(v, 4, ts.map cCp), (u, 4, ls.map cLd)] (isV (.bool (decide (¬ lowP p f ts ls)))) := by
 refine Ct.of (N := 31) Tryz.func138 rfl rfl rfl fun w => ?_
 refine C_weak (E' := [(0, v), (1, u), (2, .int .i64 p), (3, .int .i64 f)]) (rs' := [rd v 4 (ts.map cCp), rd u 4 (ls.map cLd)]) ⟨rfl, rfl, rfl, rfl, trivial⟩ (fun _ h => h) ?_
 have hl := len_map cCp ts
 have hl2 := len_map cLd ls
 have hkb := hk.b; have hkl2 := hk.len
 refine C_seq ?_
 refine C_region ?_
 refine Jq (q_assign rfl) ?_
 refine L_then ?_
 refine C_seq ?_
 refine C_seq ?_
 refine C_region ?_
 refine Jq (q_move rfl) ?_
 refine Jq (q_len tb rfl rfl gvo) ?_
 refine Jq (q_move rfl) ?_
 refine L_then ?_
 refine C_block ?_
 refine C_loop (ι := Nat) (fun k => ([(1, u), (2, .int .i64 p), (3, .int .i64 f), (11, v), (12, .int .i64 (ts.map cCp).length), (13, .int .i64 k)], [rd v 4 (ts.map cCp), rd u 4 (ls.map cLd)])) (fun k => k ≤ ts.length ∧ (all2 (lw1 p f) (ts.drop k) (ls.drop k) ↔ all2 (lw1 p f) ts ls)) (fun k => ts.length - k) 0 ⟨Nat.zero_le _, Iff.rfl⟩ (fun a w hs => hs.weak ⟨rfl, rfl, rfl, rfl, rfl, rfl, trivial⟩ (fun h => h.sub (by repeat (first | exact List.Sublist.refl _ | apply List.Sublist.cons_cons | apply List.Sublist.cons)))) ?_
 rintro k ⟨hkl, hf9⟩
 dsimp only at hkl hf9 ⊢
 refine C_seq ?_
 refine C_region ?_
 refine Jq (q_lss rfl rfl) ?_
 refine L_then ?_
 refine C_seq ?_
 refine C_dec rfl (fun h1 => ?_) (fun h1 => ?_)
 obtain ⟨c, hec⟩ := get_some ts (k := k) (by omega); obtain ⟨x, hex⟩ := get_some ls (k := k) (by omega); have helc := map_get cCp hec; have helx := map_get cLd hex; have hck := hk.c c (List.mem_of_getElem? hec); have hxi := hk.x x (List.mem_of_getElem? hex); have x1 := hxi.1.a; have x2 := hxi.1.b; have x3 := hxi.1.c; have x4 := hxi.1.e; have x5 := hxi.2.a; have x6 := hxi.2.b; have x7 := hxi.2.c; have x8 := hxi.2.e; have hst := all2_step (R := lw1 p f) hec hex
 refine C_skip_then ?_
 refine C_seq ?_
 refine C_block ?_
 refine C_seq ?_
 refine C_region ?_
 refine Jq (q_move rfl) ?_
 refine Jq (by first | exact q_index tb rfl rfl rfl rfl gvo (by omega) (by first | omega | (simp; done) | (simp; omega)) | exact q_indexP tb rfl rfl rfl rfl (by omega) (by omega)) ?_
 refine Jq (q_loadEA tb rfl rfl gvo (i := k) (o := 0) (by omega) helc rfl rfl) ?_
 refine L_alloc tb rfl rfl fun g10 => ?_
 refine Jq (q_assign rfl) ?_
 refine L_st tb rfl rfl ?_
 refine L_then ?_
 refine C_seq ?_
 refine C_draw (n := 12) [(0, false), (1, false), (2, false), (3, false), (7, false), (8, false), (9, false), (4, true), (5, false), (6, false), (10, true), (11, false)] mixed (by kernel_rfl) ?_
 refine Yq rfl (q_move rfl) ?_
 refine Yq rfl (q_move rfl) ?_
 refine Yq rfl (by first | exact q_index tb rfl rfl rfl rfl gvo (by omega) (by first | omega | (simp; done) | (simp; omega)) | exact q_indexP tb rfl rfl rfl rfl (by omega) (by omega)) ?_
 refine Yq rfl (q_loadEA tb rfl rfl gvo (i := k) (o := 0) (by omega) helx rfl rfl) ?_
 refine Yq rfl (q_loadA tb rfl rfl bxo rfl rfl) ?_
 refine Yq rfl (q_move rfl) ?_
 refine Yq rfl (q_move rfl) ?_
 refine W_call tb rfl rfl rfl rfl (ct_tissue_total x hxi) no_ps rfl ?_
 refine Yq rfl (by first | exact q_fieldV (off := 0) (sz := 1) (by kernel_rfl) rfl rfl | exact q_fieldVA (off := 0) (sz := 1) (by kernel_rfl) rfl rfl) ?_
 have hlim := lim_in hck hp hf
 refine Yq rfl (q_mul rfl rfl (by first | exact IntWalk.i64_in _ (by omega) | rfl)) ?_
 refine W_call tb rfl rfl rfl rfl (ct_tissue_limit c p f hck hp hf) no_ps rfl ?_
 refine Yq rfl (q_gtr rfl rfl) ?_
 refine W_nil ?_
 refine L_then ?_
 refine C_dec rfl (fun h2 => ?_) (fun h2 => ?_)
 have hno : ¬ all2 (lw1 p f) ts ls := fun hh => by have h9 := (hst.1 (hf9.2 hh)).1; unfold lw1 at h9; omega
 refine C_seq ?_
 refine C_region ?_
 refine Jq (q_assign rfl) ?_
 refine L_then ?_
 refine C_ret ?_
 exact ret_of (res1 rfl rfl) sub_nil (by intro r hr; cases hr) ⟨(congrArg Value.bool (decide_eq_true hno).symm), rfl⟩
 refine C_skip_blk ?_
 refine C_region ?_
 refine Jq (q_add rfl rfl (by first | exact IntWalk.i64_in _ (by omega) | rfl)) ?_
 refine Jq (q_move rfl) ?_
 refine L_end ?_
 exact fun ac_ wo_ hs_ => ⟨k + 1, ⟨by omega, by rw [← hf9]; exact ⟨fun h => hst.2 ⟨by unfold lw1; omega, h⟩, fun h => (hst.1 h).2⟩⟩, (by dsimp only; omega), hs_.weak ⟨rfl, rfl, rfl, rfl, rfl, rfl, trivial⟩ (fun h => h.sub (by repeat (first | exact List.Sublist.refl _ | apply List.Sublist.cons_cons | apply List.Sublist.cons)))⟩
 refine C_exit ?_
 change C Tryz.prog _ _ _ _ _ _ _
 refine C_seq ?_
 refine C_region ?_
 refine Jq (q_assign rfl) ?_
 refine L_then ?_
 refine C_ret ?_
 exact ret_of (res1 rfl rfl) sub_nil (by intro r hr; cases hr) ⟨(congrArg Value.bool (decide_eq_false (fun h => h (hf9.1 (all2_end (by omega))))).symm), rfl⟩
set_option maxRecDepth 100000 in
theorem ct_tissue_holds (v u : Value) (p f : Int) (ts : List Cp) (ls : List Ld) (hk : okTL ts ls) (hp : 0 ≤ p ∧ p ≤ 50000) (hf : 0 ≤ f ∧ f ≤ 1000) : Ct Tryz.prog 137 [v, u, .int .i64 p, .int .i64 f] [(v, 4, ts.map cCp), (u, 4, ls.map cLd)] (isV (.bool (decide (holdP p f ts ls)))) := by
 refine Ct.of (N := 31) Tryz.func137 rfl rfl rfl fun w => ?_
 refine C_weak (E' := [(0, v), (1, u), (2, .int .i64 p), (3, .int .i64 f)]) (rs' := [rd v 4 (ts.map cCp), rd u 4 (ls.map cLd)]) ⟨rfl, rfl, rfl, rfl, trivial⟩ (fun _ h => h) ?_
 have hl := len_map cCp ts
 have hl2 := len_map cLd ls
 have hkb := hk.b; have hkl2 := hk.len
 refine C_seq ?_
 refine C_region ?_
 refine Jq (q_assign rfl) ?_
 refine L_then ?_
 refine C_seq ?_
 refine C_seq ?_
 refine C_region ?_
 refine Jq (q_move rfl) ?_
 refine Jq (q_len tb rfl rfl gvo) ?_
 refine Jq (q_move rfl) ?_
 refine L_then ?_
 refine C_block ?_
 refine C_loop (ι := Nat) (fun k => ([(1, u), (2, .int .i64 p), (3, .int .i64 f), (11, v), (12, .int .i64 (ts.map cCp).length), (13, .int .i64 k)], [rd v 4 (ts.map cCp), rd u 4 (ls.map cLd)])) (fun k => k ≤ ts.length ∧ (all2 (up1 p f) (ts.drop k) (ls.drop k) ↔ all2 (up1 p f) ts ls)) (fun k => ts.length - k) 0 ⟨Nat.zero_le _, Iff.rfl⟩ (fun a w hs => hs.weak ⟨rfl, rfl, rfl, rfl, rfl, rfl, trivial⟩ (fun h => h.sub (by repeat (first | exact List.Sublist.refl _ | apply List.Sublist.cons_cons | apply List.Sublist.cons)))) ?_
 rintro k ⟨hkl, hf9⟩
 dsimp only at hkl hf9 ⊢
 refine C_seq ?_
 refine C_region ?_
 refine Jq (q_lss rfl rfl) ?_
 refine L_then ?_
 refine C_seq ?_
 refine C_dec rfl (fun h1 => ?_) (fun h1 => ?_)
 obtain ⟨c, hec⟩ := get_some ts (k := k) (by omega); obtain ⟨x, hex⟩ := get_some ls (k := k) (by omega); have helc := map_get cCp hec; have helx := map_get cLd hex; have hck := hk.c c (List.mem_of_getElem? hec); have hxi := hk.x x (List.mem_of_getElem? hex); have x1 := hxi.1.a; have x2 := hxi.1.b; have x3 := hxi.1.c; have x4 := hxi.1.e; have x5 := hxi.2.a; have x6 := hxi.2.b; have x7 := hxi.2.c; have x8 := hxi.2.e; have hst := all2_step (R := up1 p f) hec hex
 refine C_skip_then ?_
 refine C_seq ?_
 refine C_block ?_
 refine C_seq ?_
 refine C_region ?_
 refine Jq (q_move rfl) ?_
 refine Jq (by first | exact q_index tb rfl rfl rfl rfl gvo (by omega) (by first | omega | (simp; done) | (simp; omega)) | exact q_indexP tb rfl rfl rfl rfl (by omega) (by omega)) ?_
 refine Jq (q_loadEA tb rfl rfl gvo (i := k) (o := 0) (by omega) helc rfl rfl) ?_
 refine L_alloc tb rfl rfl fun g10 => ?_
 refine Jq (q_assign rfl) ?_
 refine L_st tb rfl rfl ?_
 refine L_then ?_
 refine C_seq ?_
 refine C_draw (n := 12) [(0, false), (1, false), (2, false), (3, false), (7, false), (8, false), (9, false), (4, true), (5, false), (6, false), (10, true), (11, false)] mixed (by kernel_rfl) ?_
 refine Yq rfl (q_move rfl) ?_
 refine Yq rfl (q_move rfl) ?_
 refine Yq rfl (by first | exact q_index tb rfl rfl rfl rfl gvo (by omega) (by first | omega | (simp; done) | (simp; omega)) | exact q_indexP tb rfl rfl rfl rfl (by omega) (by omega)) ?_
 refine Yq rfl (q_loadEA tb rfl rfl gvo (i := k) (o := 0) (by omega) helx rfl rfl) ?_
 refine Yq rfl (q_loadA tb rfl rfl bxo rfl rfl) ?_
 refine Yq rfl (q_move rfl) ?_
 refine Yq rfl (q_move rfl) ?_
 refine W_call tb rfl rfl rfl rfl (ct_tissue_total x hxi) no_ps rfl ?_
 refine Yq rfl (by first | exact q_fieldV (off := 1) (sz := 1) (by kernel_rfl) rfl rfl | exact q_fieldVA (off := 1) (sz := 1) (by kernel_rfl) rfl rfl) ?_
 have hlim := lim_in hck hp hf
 refine Yq rfl (q_mul rfl rfl (by first | exact IntWalk.i64_in _ (by omega) | rfl)) ?_
 refine W_call tb rfl rfl rfl rfl (ct_tissue_limit c p f hck hp hf) no_ps rfl ?_
 refine Yq rfl (q_gtr rfl rfl) ?_
 refine W_nil ?_
 refine L_then ?_
 refine C_dec rfl (fun h2 => ?_) (fun h2 => ?_)
 have hno : ¬ all2 (up1 p f) ts ls := fun hh => by have h9 := (hst.1 (hf9.2 hh)).1; unfold up1 at h9; omega
 refine C_seq ?_
 refine C_region ?_
 refine Jq (q_assign rfl) ?_
 refine L_then ?_
 refine C_ret ?_
 exact ret_of (res1 rfl rfl) sub_nil (by intro r hr; cases hr) ⟨(congrArg Value.bool (decide_eq_false hno).symm), rfl⟩
 refine C_skip_blk ?_
 refine C_region ?_
 refine Jq (q_add rfl rfl (by first | exact IntWalk.i64_in _ (by omega) | rfl)) ?_
 refine Jq (q_move rfl) ?_
 refine L_end ?_
 exact fun ac_ wo_ hs_ => ⟨k + 1, ⟨by omega, by rw [← hf9]; exact ⟨fun h => hst.2 ⟨by unfold up1; omega, h⟩, fun h => (hst.1 h).2⟩⟩, (by dsimp only; omega), hs_.weak ⟨rfl, rfl, rfl, rfl, rfl, rfl, trivial⟩ (fun h => h.sub (by repeat (first | exact List.Sublist.refl _ | apply List.Sublist.cons_cons | apply List.Sublist.cons)))⟩
 refine C_exit ?_
 change C Tryz.prog _ _ _ _ _ _ _
 refine C_seq ?_
 refine C_region ?_
 refine Jq (q_assign rfl) ?_
 refine L_then ?_
 refine C_ret ?_
 exact ret_of (res1 rfl rfl) sub_nil (by intro r hr; cases hr) ⟨(congrArg Value.bool (decide_eq_true (hf9.1 (all2_end (by omega)))).symm), rfl⟩
set_option maxRecDepth 100000 in
theorem ct_tissue_answer (y n : Bool) : Ct Tryz.prog 136 [.bool y, .bool n] [] (isV (.int .i64 (if y = true then 2 else if n = true then 0 else 1))) := by
 refine Ct.of (N := 9) Tryz.func136 rfl rfl rfl fun w => ?_
 refine C_weak (E' := [(0, .bool y), (1, .bool n)]) (rs' := []) ⟨rfl, rfl, trivial⟩ (fun _ h => h) ?_
 refine C_seq ?_
 refine C_region ?_
 refine Jq (q_assign rfl) ?_
 refine L_then ?_
 refine C_seq ?_
 refine C_block ?_
 refine C_seq ?_
 refine C_region ?_
 refine Jq (q_move rfl) ?_
 refine Jq (q_assign rfl) ?_
 refine L_then ?_
 refine C_bool rfl (fun hy => ?_) (fun hy => ?_)
 refine C_seq ?_
 refine C_region ?_
 refine Jq (q_assign rfl) ?_
 refine L_then ?_
 refine C_ret ?_
 exact ret_of (res1 rfl rfl) sub_nil (by intro r hr; cases hr) ⟨(congrArg (Value.int .i64) (by subst hy; first | rfl | (subst hn; rfl))), rfl⟩
 refine C_seq ?_
 refine C_region ?_
 refine Jq (q_move rfl) ?_
 refine Jq (q_assign rfl) ?_
 refine L_then ?_
 refine C_bool rfl (fun hn => ?_) (fun hn => ?_)
 refine C_seq ?_
 refine C_region ?_
 refine Jq (q_assign rfl) ?_
 refine L_then ?_
 refine C_ret ?_
 exact ret_of (res1 rfl rfl) sub_nil (by intro r hr; cases hr) ⟨(congrArg (Value.int .i64) (by subst hy; first | rfl | (subst hn; rfl))), rfl⟩
 refine C_skip_blk ?_
 refine C_seq ?_
 refine C_region ?_
 refine Jq (q_assign rfl) ?_
 refine L_then ?_
 refine C_ret ?_
 exact ret_of (res1 rfl rfl) sub_nil (by intro r hr; cases hr) ⟨(congrArg (Value.int .i64) (by subst hy; first | rfl | (subst hn; rfl))), rfl⟩
set_option maxRecDepth 100000 in
theorem ct_tissue_KeptAt (v u : Value) (p f : Int) (ts : List Cp) (ls : List Ld) (hle : ts.length ≤ 1000000) (hle2 : ls.length ≤ 1000000) : Ct Tryz.prog 70 [v, u, .agg #[.int .i64 p, .int .i64 f]] [(v, 4, ts.map cCp), (u, 4, ls.map cLd)] (isV (.tuple #[.int .i64 (keptE ts ls p f).1, .int .i64 (keptE ts ls p f).2])) := by
 refine Ct.of (N := 40) Tryz.func70 rfl rfl rfl fun w => ?_
 refine C_weak (E' := [(0, v), (1, u), (2, .agg #[.int .i64 p, .int .i64 f])]) (rs' := [rd v 4 (ts.map cCp), rd u 4 (ls.map cLd)]) ⟨rfl, rfl, rfl, trivial⟩ (fun _ h => h) ?_
 have hl := len_map cCp ts
 have hl2 := len_map cLd ls
 refine C_seq ?_
 refine C_region ?_
 refine L_box rfl rfl rfl fun g5 => ?_
 refine Jq (q_assign rfl) ?_
 refine Jq (q_assign rfl) ?_
 refine L_then ?_
 refine C_seq ?_
 refine C_seq ?_
 refine C_region ?_
 refine Jq (q_move rfl) ?_
 refine Jq (q_move rfl) ?_
 refine L_call tb rfl rfl (ct_tissue_CheckLoads _ _ _ _ (by omega) (by omega)) (ps_cons gvo (ps_cons gvo no_ps)) rfl ?_
 refine Jq (q_assign rfl) ?_
 refine L_then ?_
 refine C_seq ?_
 refine C_region ?_
 refine Jq (q_move rfl) ?_
 refine Jq (q_neq rfl rfl) ?_
 refine L_then ?_
 refine C_dec rfl (fun h1 => ?_) (fun h1 => ?_)
 rw [keptE_1 h1]
 refine C_seq ?_
 refine C_region ?_
 refine Jq (q_move rfl) ?_
 refine Jq (q_assign rfl) ?_
 refine Jq (q_assign rfl) ?_
 refine L_then ?_
 refine C_ret ?_
 exact ret_of (res2 rfl rfl rfl) sub_nil (by intro r hr; cases hr) ⟨rfl, rfl⟩
 refine C_skip_then ?_
 refine C_seq ?_
 refine C_seq ?_
 refine C_region ?_
 refine Jq (by first | exact q_index tb rfl rfl rfl rfl gvo (by omega) (by first | omega | (simp; done) | (simp; omega)) | exact q_indexP tb rfl rfl rfl rfl (by omega) (by omega)) ?_
 refine Jq (by first | exact q_load tb rfl rfl bxo rfl | exact q_loadE tb rfl rfl gvo (by omega) (by simp) rfl) ?_
 refine L_call tb rfl rfl (ct_tissue_isPressure _) no_ps rfl ?_
 refine Jq (q_not rfl decide_not.symm) ?_
 refine Jq (q_move rfl) ?_
 refine L_dec (d := 19) rfl (fun h2 => ?_) (fun h2 => ?_)
 iterate 4 refine Jk ?_
 refine Jq (q_pickT rfl rfl) ?_
 refine L_then ?_
 refine C_true rfl ?_
 refine C_seq ?_
 refine C_region ?_
 refine Jq (q_assign rfl) ?_
 refine Jq (q_assign rfl) ?_
 refine L_then ?_
 refine C_ret ?_
 have h2 : ¬ (okPr p ∧ 0 ≤ f ∧ f ≤ 1000) := by unfold okPr; omega
 rw [keptE_2 h1 h2]
 exact ret_of (res2 rfl rfl rfl) sub_nil (by intro r hr; cases hr) ⟨rfl, rfl⟩
 refine Jg (by first | exact q_index tb rfl rfl rfl rfl gvo (by omega) (by first | omega | (simp; done) | (simp; omega)) | exact q_indexP tb rfl rfl rfl rfl (by omega) (by omega)) ?_
 refine Jg (by first | exact q_load tb rfl rfl bxo rfl | exact q_loadE tb rfl rfl gvo (by omega) (by simp) rfl) ?_
 refine L_callg tb rfl rfl rfl rfl rfl rfl (ct_tissue_isFactor _) no_ps rfl ?_
 refine Jg (q_not rfl decide_not.symm) ?_
 refine Jq (q_pickF rfl rfl) ?_
 refine L_then ?_
 refine C_dec rfl (fun h4 => ?_) (fun h4 => ?_)
 refine C_seq ?_
 refine C_region ?_
 refine Jq (q_assign rfl) ?_
 refine Jq (q_assign rfl) ?_
 refine L_then ?_
 refine C_ret ?_
 have h2 : ¬ (okPr p ∧ 0 ≤ f ∧ f ≤ 1000) := by unfold okPr; omega
 rw [keptE_2 h1 h2]
 exact ret_of (res2 rfl rfl rfl) sub_nil (by intro r hr; cases hr) ⟨rfl, rfl⟩
 have h2 : okPr p ∧ 0 ≤ f ∧ f ≤ 1000 := by unfold okPr; omega
 have hp := h2.1; unfold okPr at hp
 have hk := ckLoads_ok (Decidable.not_not.1 h1)
 refine C_skip_then ?_
 refine C_seq ?_
 refine C_draw (n := 15) [(0, false), (1, false), (2, false), (3, false), (4, false), (5, false), (7, false), (8, false), (9, false), (10, false), (11, false), (12, false), (6, true), (13, true), (14, true)] mixed (by kernel_rfl) ?_
 refine Yq rfl (q_move rfl) ?_
 refine Yq rfl (q_move rfl) ?_
 refine Yq rfl (by first | exact q_index tb rfl rfl rfl rfl gvo (by omega) (by first | omega | (simp; done) | (simp; omega)) | exact q_indexP tb rfl rfl rfl rfl (by omega) (by omega)) ?_
 refine Yq rfl (by first | exact q_load tb rfl rfl bxo rfl | exact q_loadE tb rfl rfl gvo (by omega) (by simp) rfl) ?_
 refine Yq rfl (by first | exact q_index tb rfl rfl rfl rfl gvo (by omega) (by first | omega | (simp; done) | (simp; omega)) | exact q_indexP tb rfl rfl rfl rfl (by omega) (by omega)) ?_
 refine Yq rfl (by first | exact q_load tb rfl rfl bxo rfl | exact q_loadE tb rfl rfl gvo (by omega) (by simp) rfl) ?_
 refine Yq rfl (q_move rfl) ?_
 refine Yq rfl (q_move rfl) ?_
 refine Yq rfl (by first | exact q_index tb rfl rfl rfl rfl gvo (by omega) (by first | omega | (simp; done) | (simp; omega)) | exact q_indexP tb rfl rfl rfl rfl (by omega) (by omega)) ?_
 refine Yq rfl (by first | exact q_load tb rfl rfl bxo rfl | exact q_loadE tb rfl rfl gvo (by omega) (by simp) rfl) ?_
 refine Yq rfl (by first | exact q_index tb rfl rfl rfl rfl gvo (by omega) (by first | omega | (simp; done) | (simp; omega)) | exact q_indexP tb rfl rfl rfl rfl (by omega) (by omega)) ?_
 refine Yq rfl (by first | exact q_load tb rfl rfl bxo rfl | exact q_loadE tb rfl rfl gvo (by omega) (by simp) rfl) ?_
 refine W_call tb rfl rfl rfl rfl (ct_tissue_holds v u p f ts ls hk (by omega) (by omega)) (ps_cons gvo (ps_cons gvo no_ps)) rfl ?_
 refine W_call tb rfl rfl rfl rfl (ct_tissue_breaks v u p f ts ls hk (by omega) (by omega)) (ps_cons gvo (ps_cons gvo no_ps)) rfl ?_
 refine W_call tb rfl rfl rfl rfl (ct_tissue_answer (decide (holdP p f ts ls)) (decide (¬ lowP p f ts ls))) no_ps rfl ?_
 refine W_nil ?_
 refine Jq (q_assign rfl) ?_
 refine Jq (q_assign rfl) ?_
 refine L_then ?_
 refine C_ret ?_
 rw [keptE_3 h1 h2, ← keptM_prog hk.o]
 exact ret_of (res2 rfl rfl rfl) sub_nil (by intro r hr; cases hr) ⟨rfl, rfl⟩
end Go.Proofs.YthilaakeimfedaaGreatDoor
