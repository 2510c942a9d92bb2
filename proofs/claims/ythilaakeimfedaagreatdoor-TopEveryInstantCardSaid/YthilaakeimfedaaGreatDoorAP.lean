/-
  Walks: each function named returns what its model says. Conditions: those in front of each theorem.
-/
import Derived.Shelf.Strings.Builder1
import Derived.Shelf.LaysM
import Derived.Shelf.Strconv.Itoa3
import Derived.Test.YthilaakeimfedaaGreatDoorProg
import Derived.Test.YthilaakeimfedaaGreatDoorRows
import Derived.Test.YthilaakeimfedaaGreatDoorAE
import Derived.Test.YthilaakeimfedaaGreatDoorPr
import Derived.Test.YthilaakeimfedaaGreatDoorShItV
namespace Go.Proofs
open Go.Shelf
def Tryz.laysM171_ren : Go.Shelf.Ren := ⟨fun | 171 => 148 | 243 => 197 | 246 => 223 | 283 => 242 | 284 => 243 | 285 => 244 | 286 => 245 | 129 => 254 | 317 => 253 | 318 => 255 | 319 => 256 | 320 => 257 | 337 => 264 | 338 => 265 | n => n, fun | 3 => 3 | 9 => 9 | 2 => 2 | 4 => 4 | 171 => 314 | 0 => 0 | 53 => 302 | 37 => 209 | 5 => 5 | 173 => 317 | 212 => 329 | 51 => 299 | 20 => 20 | 213 => 330 | 46 => 277 | 232 => 342 | 233 => 343 | n => n, fun | 17 => 3 | 18 => 6 | 19 => 7 | n => n⟩
theorem Tryz.laysM171 : Go.Proofs.LaysM.n171 Tryz.prog Tryz.laysM171_ren := {
  mixed := by kernel_rfl
  f129 := Tryz.func254.trans (congrArg some (by kernel_rfl))
  f171 := Tryz.func148.trans (congrArg some (by kernel_rfl))
  f243 := Tryz.func197.trans (congrArg some (by kernel_rfl))
  f246 := Tryz.func223.trans (congrArg some (by kernel_rfl))
  f283 := Tryz.func242.trans (congrArg some (by kernel_rfl))
  f284 := Tryz.func243.trans (congrArg some (by kernel_rfl))
  f285 := Tryz.func244.trans (congrArg some (by kernel_rfl))
  f286 := Tryz.func245.trans (congrArg some (by kernel_rfl))
  f317 := Tryz.func253.trans (congrArg some (by kernel_rfl))
  f318 := Tryz.func255.trans (congrArg some (by kernel_rfl))
  f319 := Tryz.func256.trans (congrArg some (by kernel_rfl))
  f320 := Tryz.func257.trans (congrArg some (by kernel_rfl))
  f337 := Tryz.func264.trans (congrArg some (by kernel_rfl))
  f338 := Tryz.func265.trans (congrArg some (by kernel_rfl))
  t0 := Tryz.underlying0
  a0 := Tryz.isAgg0
  z0 := Tryz.sizeOf0
  v0 := Tryz.zeroValue0
  t2 := Tryz.underlying2
  a2 := Tryz.isAgg2
  z2 := Tryz.sizeOf2
  v2 := Tryz.zeroValue2
  t3 := Tryz.underlying3
  a3 := Tryz.isAgg3
  z3 := Tryz.sizeOf3
  v3 := Tryz.zeroValue3
  t4 := Tryz.underlying4
  a4 := Tryz.isAgg4
  z4 := Tryz.sizeOf4
  v4 := Tryz.zeroValue4
  t5 := Tryz.underlying5
  a5 := Tryz.isAgg5
  z5 := Tryz.sizeOf5
  v5 := Tryz.zeroValue5
  t9 := Tryz.underlying9
  a9 := Tryz.isAgg9
  z9 := Tryz.sizeOf9
  v9 := Tryz.zeroValue9
  t20 := Tryz.underlying20
  a20 := Tryz.isAgg20
  z20 := Tryz.sizeOf20
  v20 := Tryz.zeroValue20
  t37 := Tryz.underlying209
  a37 := Tryz.isAgg209
  z37 := Tryz.sizeOf209
  v37 := Tryz.zeroValue209
  t46 := Tryz.underlying277
  a46 := Tryz.isAgg277
  z46 := Tryz.sizeOf277
  v46 := Tryz.zeroValue277
  t51 := Tryz.underlying299
  a51 := Tryz.isAgg299
  z51 := Tryz.sizeOf299
  v51 := Tryz.zeroValue299
  t53 := Tryz.underlying302
  a53 := Tryz.isAgg302
  z53 := Tryz.sizeOf302
  v53 := Tryz.zeroValue302
  t171 := Tryz.underlying314
  a171 := Tryz.isAgg314
  z171 := Tryz.sizeOf314
  v171 := Tryz.zeroValue314
  t173 := Tryz.underlying317
  a173 := Tryz.isAgg317
  z173 := Tryz.sizeOf317
  v173 := Tryz.zeroValue317
  t212 := Tryz.underlying329
  a212 := Tryz.isAgg329
  z212 := Tryz.sizeOf329
  v212 := Tryz.zeroValue329
  t213 := Tryz.underlying330
  a213 := Tryz.isAgg330
  z213 := Tryz.sizeOf330
  t232 := Tryz.underlying342
  a232 := Tryz.isAgg342
  z232 := Tryz.sizeOf342
  v232 := Tryz.zeroValue342
  t233 := Tryz.underlying343
  a233 := Tryz.isAgg343
  z233 := Tryz.sizeOf343
  v233 := Tryz.zeroValue343
  g17 := by kernel_rfl
  g18 := by kernel_rfl
  g19 := by kernel_rfl
  i0 := by kernel_rfl
  i2 := by kernel_rfl
  i3 := by kernel_rfl
  i4 := by kernel_rfl
  i5 := by kernel_rfl
  i9 := by kernel_rfl
  i20 := by kernel_rfl
  i37 := by kernel_rfl
  i46 := by kernel_rfl
  i51 := by kernel_rfl
  i53 := by kernel_rfl
  i171 := by kernel_rfl
  i173 := by kernel_rfl
  i212 := by kernel_rfl
  i232 := by kernel_rfl
  i233 := by kernel_rfl
  m17 := by kernel_rfl
  m18 := by kernel_rfl
  m19 := by kernel_rfl }
open Go.RowKit Go.Sort Go.Lib in
theorem Tryz.strconv_Itoa (n : Int) (h0 : -9223372036854775808 ≤ n) (h1 : n ≤ 9223372036854775807) (w : World) (htab : Lib.TabIs Tryz.prog w (Go.Proofs.YthilaakeimfedaaGreatDoor.Rows.ascentStaysRow.laid.getD 2 (default, .nil)).1 .u64 Lib.pow10Tab) :
    Calls Tryz.prog 148 #[.int .i64 n] w fun e w' => e = .returned (.string ⟨(Lib.itoa n).toArray⟩) ∧ ∃ k os, w' = grow (w.drewN k) os := Any.strconv_Itoa Tryz.laysM171 n h0 h1 w htab
def Tryz.lays169_ren : Go.Shelf.Ren := ⟨fun | 169 => 150 | n => n, fun | 70 => 208 | 9 => 9 | 0 => 0 | 72 => 211 | 37 => 209 | 127 => 275 | 3 => 3 | 5 => 5 | n => n, fun | n => n⟩
theorem Tryz.lays169 : Go.Proofs.Lays.n169 Tryz.prog Tryz.lays169_ren := {
  mixed := by kernel_rfl
  f169 := Tryz.func150.trans (congrArg some (by kernel_rfl))
  t0 := Tryz.underlying0
  a0 := Tryz.isAgg0
  z0 := Tryz.sizeOf0
  v0 := Tryz.zeroValue0
  t3 := Tryz.underlying3
  a3 := Tryz.isAgg3
  z3 := Tryz.sizeOf3
  v3 := Tryz.zeroValue3
  t9 := Tryz.underlying9
  a9 := Tryz.isAgg9
  z9 := Tryz.sizeOf9
  v9 := Tryz.zeroValue9
  t37 := Tryz.underlying209
  a37 := Tryz.isAgg209
  z37 := Tryz.sizeOf209
  v37 := Tryz.zeroValue209
  t70 := Tryz.underlying208
  a70 := Tryz.isAgg208
  z70 := Tryz.sizeOf208
  v70 := Tryz.zeroValue208
  t72 := Tryz.underlying211
  a72 := Tryz.isAgg211
  z72 := Tryz.sizeOf211
  v72 := Tryz.zeroValue211
  t127 := Tryz.underlying275
  a127 := Tryz.isAgg275
  z127 := Tryz.sizeOf275
  v127 := Tryz.zeroValue275 }
theorem Tryz.Builder_Extra_169 : Builder.Extra Tryz.prog Tryz.lays169_ren := {
  sizeBuilder := by kernel_rfl
  liesBuilder := by kernel_rfl
  t5 := Tryz.underlying5
  a5 := Tryz.isAgg5
  z5 := Tryz.sizeOf5
  v5 := Tryz.zeroValue5
  infoByte := by kernel_rfl
  cellsByte := by kernel_rfl
  sizeByte := by kernel_rfl
  neB5 := by decide }
open Go.RowKit Go.Sort Go.Lib in
theorem Tryz.Builder_String_any (B b : Nat) (l : List UInt8) (w : World) (h : Lib.IsBuilder 211 5 B b (Lib.byteCells l) w) (hBw : B ≤ w.heap.size) :
    Calls Tryz.prog 150 #[.pointer (some ⟨b, 0, none⟩)] w fun e w' => e = .returned (.string ⟨l.toArray⟩) ∧ Below B w w' := Any.Builder_String_any Tryz.lays169 Tryz.Builder_Extra_169 B b l w h hBw
end Go.Proofs
namespace Go.Proofs.YthilaakeimfedaaGreatDoor
open Go.RowKit

abbrev rowN : String := (Rows.ascentStaysRow.laid.getD 2 (default, .nil)).1
abbrev KQ : World → Prop := fun w => Lib.TabIs Tryz.prog w rowN .u64 Lib.pow10Tab
theorem stQ : Stb KQ := tab_st (g := 3) (by kernel_rfl) _ _
theorem ct_ItoaQ (n : Int) (h : -9223372036854775808 ≤ n ∧ n ≤ 9223372036854775807) : CtQ KQ Tryz.prog 148 [.int .i64 n] [] (isV (.string (bs (Lib.itoa n)))) := ctq_law fun w hk => (Tryz.strconv_Itoa n h.1 h.2 w hk).mono fun _ _ ⟨he, k, os, hw⟩ => ⟨⟨_, he, rfl, rfl⟩, hw ▸ below_grow w k os⟩
theorem noEsc (v : Value) (w : World) : (callFunc 222 #[v]).run Tryz.prog w = .ok (.value v) w := by
  rw [run_callFunc_extern Tryz.func222 (by kernel_rfl) (by kernel_rfl) (by kernel_rfl) (e := Extern.AbiNoEscape.same) (by kernel_rfl), Lib.run_noEscape]
  rfl

set_option maxRecDepth 100000 in
theorem ct_copy1 (B : Nat) (w0 : World) (rs : List Res) (b : Nat) (v : Value) : ItV Tryz.prog 196 [.pointer (some ⟨b, 0, none⟩)] B w0 (box b 211 [.pointer none, v] :: rs) (fun _ w_ => ∃ rs', (rs' = box b 211 [.pointer (some ⟨b, 0, none⟩), v] :: rs) ∧ WS B w0 rs' w_) := by
 obtain ⟨j, hj, hjs⟩ := Option.map_eq_some_iff.1 (show (Tryz.prog.info? 211).map (·.size) = some 2 by kernel_rfl)
 refine ItV.of (N := 20) Tryz.func196 rfl rfl rfl ?_
 refine C_weak (E' := [(0, .pointer (some ⟨b, 0, none⟩))]) (rs' := box b 211 [.pointer none, v] :: rs) ⟨rfl, trivial⟩ (fun _ h => h) ?_
 refine C_seq ?_
 refine C_region ?_
 refine Jq (q_move rfl) ?_
 refine Jq (by first | exact q_nilP rfl | exact q_nilEl rfl gvo (by simp)) ?_
 refine Jq (by first | exact q_field tb rfl rfl rfl | exact q_fieldE tb rfl rfl rfl gvo (by first | omega | (simp; done) | (simp; omega))) ?_
 refine Jq (by first | exact q_load tb rfl rfl bxo rfl | exact q_loadE tb rfl rfl gvo (by omega) (by simp) rfl) ?_
 refine Jq (q_ptrNil Tryz.underlying208 rfl) ?_
 refine L_then ?_
 refine C_true rfl ?_
 refine C_region ?_
 refine Jq (q_move rfl) ?_
 refine Jq (q_move rfl) ?_
 refine Jq (q_toU Tryz.underlying208 Tryz.underlying296 hj (by rw [hjs]; decide) rfl bxo (Nat.zero_lt_succ _)) ?_
 refine L_q rfl rfl rfl (q_extern1 (noEsc _) rfl) ?_
 refine Jq (q_fromU Tryz.underlying296 Tryz.underlying208 hj rfl bxo (by kernel_rfl)) ?_
 refine Jq (by first | exact q_nilP rfl | exact q_nilEl rfl gvo (by simp)) ?_
 refine Jq (by first | exact q_field tb rfl rfl rfl | exact q_fieldE tb rfl rfl rfl gvo (by first | omega | (simp; done) | (simp; omega))) ?_
 refine L_st tb rfl rfl ?_
 refine L_end ?_
 exact it_endV rfl (fun w_ h_ => ⟨_, rfl, h_⟩)
set_option maxRecDepth 100000 in
theorem ct_copy2 (B : Nat) (w0 : World) (rs : List Res) (b : Nat) (v : Value) : ItV Tryz.prog 196 [.pointer (some ⟨b, 0, none⟩)] B w0 (box b 211 [.pointer (some ⟨b, 0, none⟩), v] :: rs) (fun _ w_ => ∃ rs', (rs' = box b 211 [.pointer (some ⟨b, 0, none⟩), v] :: rs) ∧ WS B w0 rs' w_) := by
 obtain ⟨j, hj, hjs⟩ := Option.map_eq_some_iff.1 (show (Tryz.prog.info? 211).map (·.size) = some 2 by kernel_rfl)
 refine ItV.of (N := 20) Tryz.func196 rfl rfl rfl ?_
 refine C_weak (E' := [(0, .pointer (some ⟨b, 0, none⟩))]) (rs' := box b 211 [.pointer (some ⟨b, 0, none⟩), v] :: rs) ⟨rfl, trivial⟩ (fun _ h => h) ?_
 refine C_seq ?_
 refine C_region ?_
 refine Jq (q_move rfl) ?_
 refine Jq (by first | exact q_nilP rfl | exact q_nilEl rfl gvo (by simp)) ?_
 refine Jq (by first | exact q_field tb rfl rfl rfl | exact q_fieldE tb rfl rfl rfl gvo (by first | omega | (simp; done) | (simp; omega))) ?_
 refine Jq (by first | exact q_load tb rfl rfl bxo rfl | exact q_loadE tb rfl rfl gvo (by omega) (by simp) rfl) ?_
 refine Jq (q_ptrSome Tryz.underlying208 rfl) ?_
 refine L_then ?_
 refine C_false rfl ?_
 refine C_seq ?_
 refine C_region ?_
 refine Jq (q_move rfl) ?_
 refine Jq (by first | exact q_nilP rfl | exact q_nilEl rfl gvo (by simp)) ?_
 refine Jq (by first | exact q_field tb rfl rfl rfl | exact q_fieldE tb rfl rfl rfl gvo (by first | omega | (simp; done) | (simp; omega))) ?_
 refine Jq (by first | exact q_load tb rfl rfl bxo rfl | exact q_loadE tb rfl rfl gvo (by omega) (by simp) rfl) ?_
 refine Jq (q_move rfl) ?_
 refine Jq (q_ptrSame Tryz.underlying208 hj rfl rfl) ?_
 refine L_then ?_
 refine C_false rfl ?_
 refine C_skip ?_
 exact it_endV rfl (fun w_ h_ => ⟨_, rfl, h_⟩)
theorem ct_copy (B : Nat) (w0 : World) (rs : List Res) (b : Nat) (p v : Value) (hp : p = .pointer none ∨ p = .pointer (some ⟨b, 0, none⟩)) : ItV Tryz.prog 196 [.pointer (some ⟨b, 0, none⟩)] B w0 (box b 211 [p, v] :: rs) (fun _ w_ => ∃ rs', (rs' = box b 211 [.pointer (some ⟨b, 0, none⟩), v] :: rs) ∧ WS B w0 rs' w_) := by
 rcases hp with rfl | rfl
 · exact ct_copy1 B w0 rs b v
 · exact ct_copy2 B w0 rs b v

set_option maxRecDepth 100000 in
theorem ct_WriteString (B : Nat) (w0 : World) (rs : List Res) (b : Nat) (p v : Value) (l : List UInt8) (hp : p = .pointer none ∨ p = .pointer (some ⟨b, 0, none⟩)) (r : List UInt8) (hlen : l.length + r.length ≤ 140737488355328) : ItV Tryz.prog 147 [.pointer (some ⟨b, 0, none⟩), .string (bs r)] B w0 (box b 211 [p, v] :: sl v 5 1 ((l).map cU) :: rs) (fun _ w_ => ∃ rs', (∃ A n c, rs' = box b 211 [.pointer (some ⟨b, 0, none⟩), .slice A n c] :: sl (.slice A n c) 5 1 ((l ++ r).map cU) :: rs) ∧ WS B w0 rs' w_) := by
 refine ItV.of (N := 19) Tryz.func147 rfl rfl rfl ?_
 refine C_weak (E' := [(0, .pointer (some ⟨b, 0, none⟩)), (1, .string (bs r))]) (rs' := box b 211 [p, v] :: sl v 5 1 ((l).map cU) :: rs) ⟨rfl, rfl, trivial⟩ (fun _ h => h) ?_
 refine C_seq ?_
 refine C_region ?_
 refine Jq (q_assign rfl) ?_
 refine Jq (q_assign rfl) ?_
 refine L_then ?_
 refine C_seq ?_
 refine C_region ?_
 refine Jq (q_move rfl) ?_
 refine L_callI tb (post := fun _ rs9 => rs9 = box b 211 [.pointer (some ⟨b, 0, none⟩), v] :: sl v 5 1 (l.map cU) :: rs) rfl rfl rfl (ct_copy _ _ _ b p v hp) (fun y9 rs9 hy9 => ?_)
 subst hy9
 refine L_then ?_
 refine C_seq ?_
 refine C_region ?_
 refine Jq (q_move rfl) ?_
 refine Jq (q_move rfl) ?_
 refine Jq (by first | exact q_nilP rfl | exact q_nilEl rfl gvo (by simp)) ?_
 refine Jq (by first | exact q_field tb rfl rfl rfl | exact q_fieldE tb rfl rfl rfl gvo (by first | omega | (simp; done) | (simp; omega))) ?_
 refine Jq (by first | exact q_load tb rfl rfl bxo rfl | exact q_loadE tb rfl rfl gvo (by omega) (by simp) rfl) ?_
 refine Jq (q_move rfl) ?_
 refine L_front1 ?_
 refine L_appendS tb rfl (by kernel_rfl) Tryz.underlying9 rfl rfl hlen rfl fun A14 n14 c14 => ?_
 refine Jq (by first | exact q_nilP rfl | exact q_nilEl rfl gvo (by simp)) ?_
 refine Jq (by first | exact q_field tb rfl rfl rfl | exact q_fieldE tb rfl rfl rfl gvo (by first | omega | (simp; done) | (simp; omega))) ?_
 refine L_st tb rfl rfl ?_
 refine L_then ?_
 refine C_seq ?_
 refine C_region ?_
 refine Jq (q_move rfl) ?_
 refine Jq (q_lenS Tryz.underlying9 rfl) ?_
 refine Jq (q_assign rfl) ?_
 refine Jq (q_assign rfl) ?_
 refine L_then ?_
 refine C_ret ?_
 exact it_retV (res2 rfl rfl rfl) (fun w_ h_ => ⟨_, ⟨A14, n14, c14, rfl⟩, h_⟩)
set_option maxRecDepth 100000 in
theorem ct_WriteByte (B : Nat) (w0 : World) (rs : List Res) (b : Nat) (p v : Value) (l : List UInt8) (hp : p = .pointer none ∨ p = .pointer (some ⟨b, 0, none⟩)) (q : UInt8) (hlen : l.length + 1 ≤ 140737488355328) : ItV Tryz.prog 149 [.pointer (some ⟨b, 0, none⟩), .int .u8 (q.toNat : Int)] B w0 (box b 211 [p, v] :: sl v 5 1 ((l).map cU) :: rs) (fun _ w_ => ∃ rs', (∃ A n c, rs' = box b 211 [.pointer (some ⟨b, 0, none⟩), .slice A n c] :: sl (.slice A n c) 5 1 ((l ++ [q]).map cU) :: rs) ∧ WS B w0 rs' w_) := by
 have hlm : (l.map cU).length = l.length := List.length_map _
 refine ItV.of (N := 17) Tryz.func149 rfl rfl rfl ?_
 refine C_weak (E' := [(0, .pointer (some ⟨b, 0, none⟩)), (1, .int .u8 (q.toNat : Int))]) (rs' := box b 211 [p, v] :: sl v 5 1 ((l).map cU) :: rs) ⟨rfl, rfl, trivial⟩ (fun _ h => h) ?_
 refine C_seq ?_
 refine C_region ?_
 refine Jq (q_assign rfl) ?_
 refine L_then ?_
 refine C_seq ?_
 refine C_region ?_
 refine Jq (q_move rfl) ?_
 refine L_callI tb (post := fun _ rs9 => rs9 = box b 211 [.pointer (some ⟨b, 0, none⟩), v] :: sl v 5 1 (l.map cU) :: rs) rfl rfl rfl (ct_copy _ _ _ b p v hp) (fun y9 rs9 hy9 => ?_)
 subst hy9
 refine L_then ?_
 refine C_seq ?_
 refine C_region ?_
 refine Jq (q_move rfl) ?_
 refine Jq (q_move rfl) ?_
 refine Jq (by first | exact q_nilP rfl | exact q_nilEl rfl gvo (by simp)) ?_
 refine Jq (by first | exact q_field tb rfl rfl rfl | exact q_fieldE tb rfl rfl rfl gvo (by first | omega | (simp; done) | (simp; omega))) ?_
 refine Jq (by first | exact q_load tb rfl rfl bxo rfl | exact q_loadE tb rfl rfl gvo (by omega) (by simp) rfl) ?_
 refine Jq (q_move rfl) ?_
 refine L_mk (lo_bslice tb rfl rfl rfl (xs := [cU q]) rfl rfl (by simp [cU]) rfl (by omega) rfl) rfl rfl rfl fun v13 => ?_
 refine L_ap tb rfl rfl rfl rfl gvo (by simp [Value.oneCell', cU]) (by simp [maxLen]; omega) (by simp; omega) fun v14 => ?_
 rw [show l.map cU ++ [cU q] = (l ++ [q]).map cU by rw [List.map_append]; rfl]
 refine L_form (v := v14) gvo (fun A14 c14 hv14 _ => ?_)
 subst hv14
 refine Jq (by first | exact q_nilP rfl | exact q_nilEl rfl gvo (by simp)) ?_
 refine Jq (by first | exact q_field tb rfl rfl rfl | exact q_fieldE tb rfl rfl rfl gvo (by first | omega | (simp; done) | (simp; omega))) ?_
 refine L_st tb rfl rfl ?_
 refine L_then ?_
 refine C_seq ?_
 refine C_region ?_
 refine Jq (q_assign rfl) ?_
 refine L_then ?_
 refine C_ret ?_
 exact it_retV (res1 rfl rfl) (fun w_ h_ => ⟨_, ⟨_, _, _, rfl⟩, h_.sub (by repeat (first | exact List.Sublist.refl _ | apply List.Sublist.cons_cons | apply List.Sublist.cons))⟩)
theorem ct_WriteNl (B : Nat) (w0 : World) (rs : List Res) (b : Nat) (p v : Value) (l : List UInt8) (hp : p = .pointer none ∨ p = .pointer (some ⟨b, 0, none⟩)) (hlen : l.length + 1 ≤ 140737488355328) : ItV Tryz.prog 149 [.pointer (some ⟨b, 0, none⟩), .int .u8 10] B w0 (box b 211 [p, v] :: sl v 5 1 ((l).map cU) :: rs) (fun _ w_ => ∃ rs', (∃ A n c, rs' = box b 211 [.pointer (some ⟨b, 0, none⟩), .slice A n c] :: sl (.slice A n c) 5 1 ((l ++ [10]).map cU) :: rs) ∧ WS B w0 rs' w_) := by
 have h := ct_WriteByte B w0 rs b p v l hp 10 hlen
 rw [show ((10 : UInt8).toNat : Int) = 10 from rfl] at h
 exact h

end Go.Proofs.YthilaakeimfedaaGreatDoor
