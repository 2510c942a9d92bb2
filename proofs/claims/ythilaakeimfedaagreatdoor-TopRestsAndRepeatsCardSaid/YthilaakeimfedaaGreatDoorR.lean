/-
  Walks: each function named returns what its model says. Conditions: those in front of each theorem.
-/
import Derived.Test.YthilaakeimfedaaGreatDoorJ
import Derived.Test.YthilaakeimfedaaGreatDoorMod5
namespace Go.Proofs.YthilaakeimfedaaGreatDoor
open Go.RowKit

set_option maxRecDepth 100000 in
theorem ct_tissue_limit (c : Cp) (p f : Int) (hc : okCp c) (hp : 0 ≤ p ∧ p ≤ 50000) (hf : 0 ≤ f ∧ f ≤ 1000) : Ct Tryz.prog 184 [.agg (cCp c).toArray, .int .i64 p, .int .i64 f] [] (isV (.int .i64 (limM c p f))) := by
 refine Ct.of (N := 21) Tryz.func184 rfl rfl rfl fun w => ?_
 refine C_weak (E' := [(0, .agg (cCp c).toArray), (1, .int .i64 p), (2, .int .i64 f)]) (rs' := []) ⟨rfl, rfl, rfl, trivial⟩ (fun _ h => h) ?_
 have hi := lim_in hc hp hf
 have hc5 := hc.2.2.2.2.1; have hc6 := hc.2.2.2.2.2.1; have hc7 := hc.2.2.2.2.2.2
 refine C_seq ?_
 refine C_region ?_
 refine L_box rfl rfl rfl fun g3 => ?_
 refine Jq (q_assign rfl) ?_
 refine L_then ?_
 refine C_seq ?_
 refine C_region ?_
 refine Jq (q_move rfl) ?_
 refine Jq (q_mul rfl rfl (by first | exact IntWalk.i64_in _ (by omega) | rfl)) ?_
 refine Jq (q_move rfl) ?_
 refine Jq (q_field tb rfl rfl rfl) ?_
 refine Jq (q_load tb rfl rfl bxo rfl) ?_
 refine Jq (q_mul rfl rfl (by first | exact IntWalk.i64_in _ (by omega) | rfl)) ?_
 refine Jq (q_field tb rfl rfl rfl) ?_
 refine Jq (q_load tb rfl rfl bxo rfl) ?_
 refine Jq (q_sub rfl rfl (by first | exact IntWalk.i64_in _ (by omega) | rfl)) ?_
 refine Jq (q_move rfl) ?_
 refine Jq (q_mul rfl rfl (by first | exact IntWalk.i64_in _ (by omega) | rfl)) ?_
 refine Jq (q_add rfl rfl (by first | exact IntWalk.i64_in _ (by omega) | rfl)) ?_
 refine Jq (q_mul rfl rfl (by first | exact IntWalk.i64_in _ (by omega) | rfl)) ?_
 refine Jq (q_add rfl rfl (by first | exact IntWalk.i64_in _ (by omega) | rfl)) ?_
 refine Jq (q_assign rfl) ?_
 refine L_then ?_
 refine C_ret ?_
 exact ret_of (res1 rfl rfl) sub_nil (by intro r hr; cases hr) ⟨rfl, rfl⟩
set_option maxRecDepth 100000 in
theorem ct_tissue_total (x : Ld) (hx : inLd x) : Ct Tryz.prog 185 [.agg (cLd x).toArray] [] (isV (.agg #[.int .i64 (x.n.lo + x.h.lo), .int .i64 (x.n.hi + x.h.hi)])) := by
 refine Ct.of (N := 18) Tryz.func185 rfl rfl rfl fun w => ?_
 refine C_weak (E' := [(0, .agg (cLd x).toArray)]) (rs' := []) ⟨rfl, trivial⟩ (fun _ h => h) ?_
 have h1 := hx.1.a; have h2 := hx.1.b; have h3 := hx.1.c; have h4 := hx.1.e; have h5 := hx.2.a; have h6 := hx.2.b; have h7 := hx.2.c; have h8 := hx.2.e
 refine C_seq ?_
 refine C_region ?_
 refine L_box rfl rfl rfl fun g1 => ?_
 refine L_alloc tb rfl rfl fun g2 => ?_
 refine L_then ?_
 refine C_seq ?_
 refine C_region ?_
 refine Jq (q_field tb rfl rfl rfl) ?_
 refine Jq (q_field tb rfl rfl rfl) ?_
 refine Jq (q_load tb rfl rfl bxo rfl) ?_
 refine Jq (q_field tb rfl rfl rfl) ?_
 refine Jq (q_field tb rfl rfl rfl) ?_
 refine Jq (q_load tb rfl rfl bxo rfl) ?_
 refine Jq (q_add rfl rfl (by first | exact IntWalk.i64_in _ (by omega) | rfl)) ?_
 refine Jq (q_field tb rfl rfl rfl) ?_
 refine Jq (q_field tb rfl rfl rfl) ?_
 refine Jq (q_load tb rfl rfl bxo rfl) ?_
 refine Jq (q_field tb rfl rfl rfl) ?_
 refine Jq (q_field tb rfl rfl rfl) ?_
 refine Jq (q_load tb rfl rfl bxo rfl) ?_
 refine Jq (q_add rfl rfl (by first | exact IntWalk.i64_in _ (by omega) | rfl)) ?_
 refine Jq (by first | exact q_build tb rfl rfl rfl rfl | exact q_buildArr tb rfl rfl rfl rfl rfl) ?_
 refine L_st tb rfl rfl ?_
 refine L_then ?_
 refine C_ret ?_
 exact ret_of (resC tb rfl rfl rfl m0 rfl) sub_nil (by intro r hr; cases hr) ⟨rfl, rfl⟩
set_option maxRecDepth 100000 in
theorem ct_tissue_Loaded (v u : Value) (x : Lg) (f : Int) (ts : List Cp) (ls : List Ld) (hle : ts.length ≤ 1000000) (hle2 : ls.length ≤ 1000000) : Ct Tryz.prog 69 [v, u, .agg (cLg x).toArray, .int .i64 f] [(v, 4, ts.map cCp), (u, 4, ls.map cLd)] (isSlN 139 4 ((loadedE ts ls x f).1.map cLd) (.int .i64 (loadedE ts ls x f).2)) := by
 refine Ct.of (N := 31) Tryz.func69 rfl rfl rfl fun w => ?_
 refine C_weak (E' := [(0, v), (1, u), (2, .agg (cLg x).toArray), (3, .int .i64 f)]) (rs' := [rd v 4 (ts.map cCp), rd u 4 (ls.map cLd)]) ⟨rfl, rfl, rfl, rfl, trivial⟩ (fun _ h => h) ?_
 refine C_seq ?_
 refine C_region ?_
 refine L_box rfl rfl rfl fun g6 => ?_
 refine Jq (q_assign rfl) ?_
 refine Jq (q_assign rfl) ?_
 refine L_then ?_
 refine C_seq ?_
 refine C_seq ?_
 refine C_region ?_
 refine Jq (q_move rfl) ?_
 refine Jq (q_move rfl) ?_
 refine L_call tb rfl rfl (ct_tissue_CheckLoads _ _ ts ls hle hle2) (ps_cons gvo (ps_cons gvo no_ps)) rfl ?_
 refine Jq (q_assign rfl) ?_
 refine L_then ?_
 refine C_seq ?_
 refine C_region ?_
 refine Jq (q_move rfl) ?_
 refine Jq (q_neq rfl rfl) ?_
 refine L_then ?_
 refine C_dec rfl (fun h1 => ?_) (fun h1 => ?_)
 refine C_seq ?_
 refine C_region ?_
 refine Jq (q_move rfl) ?_
 refine Jq (q_assign rfl) ?_
 refine Jq (q_assign rfl) ?_
 refine L_then ?_
 refine C_ret ?_
 rw [loadedE_1 h1]
 exact ret_of (rs' := [sl (.slice none 0 0) 139 4 []]) (res2 rfl rfl rfl) (fun w_ h_ => ws_nil (sub_nil w_ h_)) own1 ⟨_, rfl, rfl⟩
 refine C_skip_then ?_
 refine C_seq ?_
 refine C_seq ?_
 refine C_region ?_
 refine Jq (q_loadA tb rfl rfl bxo rfl rfl) ?_
 refine L_call tb rfl rfl (ct_tissue_CheckLeg x) no_ps rfl ?_
 refine Jq (q_assign rfl) ?_
 refine L_then ?_
 refine C_seq ?_
 refine C_region ?_
 refine Jq (q_move rfl) ?_
 refine Jq (q_neq rfl rfl) ?_
 refine L_then ?_
 refine C_dec rfl (fun h2 => ?_) (fun h2 => ?_)
 refine C_seq ?_
 refine C_region ?_
 refine Jq (q_move rfl) ?_
 refine Jq (q_assign rfl) ?_
 refine Jq (q_assign rfl) ?_
 refine L_then ?_
 refine C_ret ?_
 rw [loadedE_2 h1 h2]
 exact ret_of (rs' := [sl (.slice none 0 0) 139 4 []]) (res2 rfl rfl rfl) (fun w_ h_ => ws_nil (sub_nil w_ h_)) own1 ⟨_, rfl, rfl⟩
 refine C_skip_then ?_
 refine C_seq ?_
 refine C_seq ?_
 refine C_region ?_
 refine Jq (q_move rfl) ?_
 refine L_call tb rfl rfl (ct_tissue_isFine _) no_ps rfl ?_
 refine Jq (q_not rfl decide_not.symm) ?_
 refine L_then ?_
 refine C_dec rfl (fun h3 => ?_) (fun h3 => ?_)
 refine C_seq ?_
 refine C_region ?_
 refine Jq (q_assign rfl) ?_
 refine Jq (q_assign rfl) ?_
 refine L_then ?_
 refine C_ret ?_
 rw [loadedE_3 h1 h2 h3]
 exact ret_of (rs' := [sl (.slice none 0 0) 139 4 []]) (res2 rfl rfl rfl) (fun w_ h_ => ws_nil (sub_nil w_ h_)) own1 ⟨_, rfl, rfl⟩
 have hk := ckLoads_ok (Decidable.not_not.1 h1)
 have hkb := hk.b
 obtain ⟨n, rfl⟩ := Int.eq_ofNat_of_zero_le (show 0 ≤ f by omega)
 refine C_skip_then ?_
 refine C_seq ?_
 refine C_region ?_
 refine Jq (q_move rfl) ?_
 refine Jq (q_move rfl) ?_
 refine Jq (q_loadA tb rfl rfl bxo rfl rfl) ?_
 refine Jq (q_move rfl) ?_
 refine L_callS tb rfl rfl (ct_tissue_loaded _ _ x n ts ls (by omega) (ckLeg_ok (Decidable.not_not.1 h2)).1 hk.len (by omega) hk.c hk.x) (ps_cons gvo (ps_cons gvo no_ps)) rfl fun v30 => ?_
 refine Jq (q_assign rfl) ?_
 refine Jq (q_assign rfl) ?_
 refine L_then ?_
 refine C_ret ?_
 rw [loadedE_4 h1 h2 (show n ≤ 6 by omega)]
 exact ret_of (rs' := [sl v30 139 4 ((loadedM ts ls x n).map cLd)]) (res2 rfl rfl rfl) (fun _ h => h.sub (by repeat (first | exact List.Sublist.refl _ | apply List.Sublist.cons_cons | apply List.Sublist.cons))) own1 ⟨_, rfl, rfl⟩
end Go.Proofs.YthilaakeimfedaaGreatDoor
namespace Go.Proofs.YthilaakeimfedaaGreatDoor
theorem rootS_at {a b c d e : Int} (h1 : 0 ≤ c ∧ c * c ≤ 1000000000 * a ∧ 1000000000 * a < (c + 1) * (c + 1)) (h2 : 0 ≤ d ∧ d * d ≤ 1000000000 * b ∧ 1000000000 * b < (d + 1) * (d + 1)) (he : (if d * d < 1000000000 * b then d + 1 else d) = e) : rootS ⟨a, b⟩ = ⟨c, e⟩ := by
  unfold rootS
  rw [← sqrZ_uniq (r := c) h1.1 h1.2.1 h1.2.2, ← sqrZ_uniq (r := d) h2.1 h2.2.1 h2.2.2, he]
theorem rv0 : rootR 0 = ⟨500000000, 500000000⟩ := rfl
theorem rv1 : rootR 1 = ⟨707106781, 707106782⟩ := by
  show rootS (rootR 0) = _
  rw [rv0]
  exact rootS_at (d := 707106781) (by decide) (by decide) (by decide)
theorem rv2 : rootR 2 = ⟨840896415, 840896416⟩ := by
  show rootS (rootR 1) = _
  rw [rv1]
  exact rootS_at (d := 840896415) (by decide) (by decide) (by decide)
theorem rv3 : rootR 3 = ⟨917004043, 917004044⟩ := by
  show rootS (rootR 2) = _
  rw [rv2]
  exact rootS_at (d := 917004043) (by decide) (by decide) (by decide)
theorem rv4 : rootR 4 = ⟨957603280, 957603282⟩ := by
  show rootS (rootR 3) = _
  rw [rv3]
  exact rootS_at (d := 957603281) (by decide) (by decide) (by decide)
theorem rv5 : rootR 5 = ⟨978572061, 978572063⟩ := by
  show rootS (rootR 4) = _
  rw [rv4]
  exact rootS_at (d := 978572062) (by decide) (by decide) (by decide)
theorem rv6 : rootR 6 = ⟨989228012, 989228014⟩ := by
  show rootS (rootR 5) = _
  rw [rv5]
  exact rootS_at (d := 989228013) (by decide) (by decide) (by decide)
theorem rv7 : rootR 7 = ⟨994599422, 994599424⟩ := by
  show rootS (rootR 6) = _
  rw [rv6]
  exact rootS_at (d := 994599423) (by decide) (by decide) (by decide)
theorem rv8 : rootR 8 = ⟨997296055, 997296057⟩ := by
  show rootS (rootR 7) = _
  rw [rv7]
  exact rootS_at (d := 997296056) (by decide) (by decide) (by decide)
theorem rv9 : rootR 9 = ⟨998647112, 998647114⟩ := by
  show rootS (rootR 8) = _
  rw [rv8]
  exact rootS_at (d := 998647113) (by decide) (by decide) (by decide)
theorem rv10 : rootR 10 = ⟨999323327, 999323329⟩ := by
  show rootS (rootR 9) = _
  rw [rv9]
  exact rootS_at (d := 999323328) (by decide) (by decide) (by decide)
theorem rts10 : rts 10 = [⟨500000000, 500000000⟩, ⟨707106781, 707106782⟩, ⟨840896415, 840896416⟩, ⟨917004043, 917004044⟩, ⟨957603280, 957603282⟩, ⟨978572061, 978572063⟩, ⟨989228012, 989228014⟩, ⟨994599422, 994599424⟩, ⟨997296055, 997296057⟩, ⟨998647112, 998647114⟩, ⟨999323327, 999323329⟩] := by
  show [rootR 0, rootR 1, rootR 2, rootR 3, rootR 4, rootR 5, rootR 6, rootR 7, rootR 8, rootR 9, rootR 10] = _
  rw [rv0, rv1, rv2, rv3, rv4, rv5, rv6, rv7, rv8, rv9, rv10]
theorem dv600 : decM 300 600 10 = ⟨707106781, 707106782⟩ := by
  unfold decM
  rw [rts10, rv10]
  kernel_rfl
end Go.Proofs.YthilaakeimfedaaGreatDoor
namespace Go.Proofs.YthilaakeimfedaaGreatDoor
set_option maxRecDepth 100000
set_option maxHeartbeats 4000000
open Go.RowKit

set_option maxRecDepth 100000 in
theorem ct_tissue_Rested (v u : Value) (p s : Int) (ts : List Cp) (ls : List Ld) (hle : ts.length ≤ 1000000) (hle2 : ls.length ≤ 1000000) : Ct Tryz.prog 140 [v, u, .int .i64 p, .int .i64 s] [(v, 4, ts.map cCp), (u, 4, ls.map cLd)] (isSlN 139 4 ((restE ts ls p s).1.map cLd) (.int .i64 (restE ts ls p s).2)) := by
 refine Ct.of (N := 34) Tryz.func140 rfl rfl rfl fun w => ?_
 refine C_weak (E' := [(0, v), (1, u), (2, .int .i64 p), (3, .int .i64 s)]) (rs' := [rd v 4 (ts.map cCp), rd u 4 (ls.map cLd)]) ⟨rfl, rfl, rfl, rfl, trivial⟩ (fun _ h => h) ?_
 refine C_seq ?_
 refine C_region ?_
 refine Jq (q_assign rfl) ?_
 refine Jq (q_assign rfl) ?_
 refine L_then ?_
 refine C_seq ?_
 refine C_seq ?_
 refine C_region ?_
 refine Jq (q_move rfl) ?_
 refine Jq (q_move rfl) ?_
 refine L_call tb rfl rfl (ct_tissue_CheckLoads _ _ ts ls hle hle2) (ps_cons gvo (ps_cons gvo no_ps)) rfl ?_
 refine Jq (q_assign rfl) ?_
 refine L_then ?_
 refine C_seq ?_
 refine C_region ?_
 refine Jq (q_move rfl) ?_
 refine Jq (q_neq rfl rfl) ?_
 refine L_then ?_
 refine C_dec rfl (fun h1 => ?_) (fun h1 => ?_)
 refine C_seq ?_
 refine C_region ?_
 refine Jq (q_move rfl) ?_
 refine Jq (q_assign rfl) ?_
 refine Jq (q_assign rfl) ?_
 refine L_then ?_
 refine C_ret ?_
 rw [restE_1 h1]
 exact ret_of (rs' := [sl (.slice none 0 0) 139 4 []]) (res2 rfl rfl rfl) (fun w_ h_ => ws_nil (sub_nil w_ h_)) own1 ⟨_, rfl, rfl⟩
 refine C_skip_then ?_
 refine C_seq ?_
 refine C_seq ?_
 refine C_region ?_
 refine Jq (q_move rfl) ?_
 refine L_call tb rfl rfl (ct_tissue_within _ _ _) no_ps rfl ?_
 refine Jq (q_not rfl decide_not.symm) ?_
 refine Jq (q_move rfl) ?_
 refine L_dec (d := 20) rfl (fun h2 => ?_) (fun h2 => ?_)
 iterate 3 refine Jk ?_
 refine Jq (q_pickT rfl rfl) ?_
 refine L_then ?_
 refine C_true rfl ?_
 refine C_seq ?_
 refine C_region ?_
 refine Jq (q_assign rfl) ?_
 refine Jq (q_assign rfl) ?_
 refine L_then ?_
 refine C_ret ?_
 rw [restE_2 h1 (by omega)]
 exact ret_of (rs' := [sl (.slice none 0 0) 139 4 []]) (res2 rfl rfl rfl) (fun w_ h_ => ws_nil (sub_nil w_ h_)) own1 ⟨_, rfl, rfl⟩
 refine Jg (q_move rfl) ?_
 refine L_callg tb rfl rfl rfl rfl rfl rfl (ct_tissue_within _ _ _) no_ps rfl ?_
 refine Jg (q_not rfl decide_not.symm) ?_
 refine Jq (q_pickF rfl rfl) ?_
 refine L_then ?_
 refine C_dec rfl (fun h2 => ?_) (fun h2 => ?_)
 refine C_seq ?_
 refine C_region ?_
 refine Jq (q_assign rfl) ?_
 refine Jq (q_assign rfl) ?_
 refine L_then ?_
 refine C_ret ?_
 rw [restE_2 h1 (by omega)]
 exact ret_of (rs' := [sl (.slice none 0 0) 139 4 []]) (res2 rfl rfl rfl) (fun w_ h_ => ws_nil (sub_nil w_ h_)) own1 ⟨_, rfl, rfl⟩
 have hk := ckLoads_ok (Decidable.not_not.1 h1)
 have hkb := hk.b
 refine C_skip_then ?_
 refine C_seq ?_
 refine C_region ?_
 refine L_callS tb rfl rfl (ct_tissue_powersTo 20 (by omega)) no_ps rfl fun v25 => ?_
 refine Jq (q_move rfl) ?_
 refine Jq (q_move rfl) ?_
 refine Jq (q_move rfl) ?_
 refine Jq (q_move rfl) ?_
 refine Jq (q_move rfl) ?_
 refine Jq (by first | exact q_build tb rfl rfl rfl rfl | exact q_buildArr tb rfl rfl rfl rfl rfl) ?_
 refine Jq (by first | exact q_build tb rfl rfl rfl rfl | exact q_buildArr tb rfl rfl rfl rfl rfl) ?_
 refine L_callS tb rfl rfl (ct_tissue_powers_behind _ _ _ s p p ⟨210, 0⟩ 20 ts ls (by omega) ⟨by omega, by omega, by omega, by omega⟩ ⟨by decide, by decide, by decide⟩ (by omega) hk.len (by omega) hk.c hk.x) (ps_cons gvo (ps_cons gvo (ps_cons gvo no_ps))) rfl fun v33 => ?_
 refine Jq (q_assign rfl) ?_
 refine Jq (q_assign rfl) ?_
 refine L_then ?_
 refine C_ret ?_
 rw [restE_3 h1 (by omega)]
 exact ret_of (rs' := [sl v33 139 4 ((restM ts ls p s).map cLd)]) (res2 rfl rfl rfl) (fun _ h => h.sub (by repeat (first | exact List.Sublist.refl _ | apply List.Sublist.cons_cons | apply List.Sublist.cons))) own1 ⟨_, rfl, rfl⟩
end Go.Proofs.YthilaakeimfedaaGreatDoor
