/-
  Walks: each function named returns what its model says. Conditions: those in front of each theorem.
-/
import Derived.Shelf.Strings.Builder1
import Derived.Shelf.LaysM
import Derived.Shelf.Strconv.Itoa3
import Derived.Test.YtacndicgpkeobaaGreatDoorProg
import Derived.Test.YtacndicgpkeobaaGreatDoorRows
import Derived.Test.YtacndicgpkeobaaGreatDoorTab
import Derived.Test.YtacndicgpkeobaaGreatDoorShItV
import Derived.Test.YtacndicgpkeobaaGreatDoorShBld
import Derived.Test.YtacndicgpkeobaaGreatDoorTx1
namespace Go.Proofs
open Go.Shelf
def Tryz.laysM171_ren : Go.Shelf.Ren := ⟨fun | 171 => 72 | 243 => 137 | 246 => 184 | 283 => 217 | 284 => 218 | 285 => 219 | 286 => 220 | 129 => 254 | 317 => 253 | 318 => 255 | 319 => 256 | 320 => 257 | 337 => 266 | 338 => 267 | n => n, fun | 3 => 3 | 9 => 9 | 2 => 2 | 4 => 4 | 171 => 301 | 0 => 0 | 53 => 302 | 37 => 136 | 5 => 5 | 173 => 305 | 212 => 325 | 51 => 326 | 20 => 20 | 213 => 327 | 46 => 282 | 232 => 345 | 233 => 346 | n => n, fun | 17 => 0 | 18 => 4 | 19 => 5 | n => n⟩
theorem Tryz.laysM171 : Go.Proofs.LaysM.n171 Tryz.prog Tryz.laysM171_ren := {
  mixed := by kernel_rfl
  f129 := Tryz.func254.trans (congrArg some (by kernel_rfl))
  f171 := Tryz.func72.trans (congrArg some (by kernel_rfl))
  f243 := Tryz.func137.trans (congrArg some (by kernel_rfl))
  f246 := Tryz.func184.trans (congrArg some (by kernel_rfl))
  f283 := Tryz.func217.trans (congrArg some (by kernel_rfl))
  f284 := Tryz.func218.trans (congrArg some (by kernel_rfl))
  f285 := Tryz.func219.trans (congrArg some (by kernel_rfl))
  f286 := Tryz.func220.trans (congrArg some (by kernel_rfl))
  f317 := Tryz.func253.trans (congrArg some (by kernel_rfl))
  f318 := Tryz.func255.trans (congrArg some (by kernel_rfl))
  f319 := Tryz.func256.trans (congrArg some (by kernel_rfl))
  f320 := Tryz.func257.trans (congrArg some (by kernel_rfl))
  f337 := Tryz.func266.trans (congrArg some (by kernel_rfl))
  f338 := Tryz.func267.trans (congrArg some (by kernel_rfl))
  t0 := Tryz.underlying0
  a0 := Tryz.isAgg0
  z0 := Tryz.sizeOf0
  v0 := Tryz.zeroValue0
  t2 := Tryz.underlying2
  a2 := Tryz.isAgg2
  z2 := Tryz.sizeOf2
  v2 := Tryz.zeroValue2
  t3 := Tryz.underlying3
  a3 := Tryz.isAgg3
  z3 := Tryz.sizeOf3
  v3 := Tryz.zeroValue3
  t4 := Tryz.underlying4
  a4 := Tryz.isAgg4
  z4 := Tryz.sizeOf4
  v4 := Tryz.zeroValue4
  t5 := Tryz.underlying5
  a5 := Tryz.isAgg5
  z5 := Tryz.sizeOf5
  v5 := Tryz.zeroValue5
  t9 := Tryz.underlying9
  a9 := Tryz.isAgg9
  z9 := Tryz.sizeOf9
  v9 := Tryz.zeroValue9
  t20 := Tryz.underlying20
  a20 := Tryz.isAgg20
  z20 := Tryz.sizeOf20
  v20 := Tryz.zeroValue20
  t37 := Tryz.underlying136
  a37 := Tryz.isAgg136
  z37 := Tryz.sizeOf136
  v37 := Tryz.zeroValue136
  t46 := Tryz.underlying282
  a46 := Tryz.isAgg282
  z46 := Tryz.sizeOf282
  v46 := Tryz.zeroValue282
  t51 := Tryz.underlying326
  a51 := Tryz.isAgg326
  z51 := Tryz.sizeOf326
  v51 := Tryz.zeroValue326
  t53 := Tryz.underlying302
  a53 := Tryz.isAgg302
  z53 := Tryz.sizeOf302
  v53 := Tryz.zeroValue302
  t171 := Tryz.underlying301
  a171 := Tryz.isAgg301
  z171 := Tryz.sizeOf301
  v171 := Tryz.zeroValue301
  t173 := Tryz.underlying305
  a173 := Tryz.isAgg305
  z173 := Tryz.sizeOf305
  v173 := Tryz.zeroValue305
  t212 := Tryz.underlying325
  a212 := Tryz.isAgg325
  z212 := Tryz.sizeOf325
  v212 := Tryz.zeroValue325
  t213 := Tryz.underlying327
  a213 := Tryz.isAgg327
  z213 := Tryz.sizeOf327
  t232 := Tryz.underlying345
  a232 := Tryz.isAgg345
  z232 := Tryz.sizeOf345
  v232 := Tryz.zeroValue345
  t233 := Tryz.underlying346
  a233 := Tryz.isAgg346
  z233 := Tryz.sizeOf346
  v233 := Tryz.zeroValue346
  g17 := by kernel_rfl
  g18 := by kernel_rfl
  g19 := by kernel_rfl
  i0 := by kernel_rfl
  i2 := by kernel_rfl
  i3 := by kernel_rfl
  i4 := by kernel_rfl
  i5 := by kernel_rfl
  i9 := by kernel_rfl
  i20 := by kernel_rfl
  i37 := by kernel_rfl
  i46 := by kernel_rfl
  i51 := by kernel_rfl
  i53 := by kernel_rfl
  i171 := by kernel_rfl
  i173 := by kernel_rfl
  i212 := by kernel_rfl
  i232 := by kernel_rfl
  i233 := by kernel_rfl
  m17 := by kernel_rfl
  m18 := by kernel_rfl
  m19 := by kernel_rfl }
open Go.RowKit Go.Sort Go.Lib in
theorem Tryz.strconv_Itoa (n : Int) (h0 : -9223372036854775808 ≤ n) (h1 : n ≤ 9223372036854775807) (w : World) (htab : Lib.TabIs Tryz.prog w (Go.Proofs.YtacndicgpkeobaaGreatDoor.Rows.ascentChangesRow.laid.getD 2 (default, .nil)).1 .u64 Lib.pow10Tab) :
    Calls Tryz.prog 72 #[.int .i64 n] w fun e w' => e = .returned (.string ⟨(Lib.itoa n).toArray⟩) ∧ ∃ k os, w' = grow (w.drewN k) os := Any.strconv_Itoa Tryz.laysM171 n h0 h1 w htab
def Tryz.lays169_ren : Go.Shelf.Ren := ⟨fun | 169 => 74 | n => n, fun | 70 => 135 | 9 => 9 | 0 => 0 | 72 => 138 | 37 => 136 | 127 => 220 | 3 => 3 | 5 => 5 | n => n, fun | n => n⟩
theorem Tryz.lays169 : Go.Proofs.Lays.n169 Tryz.prog Tryz.lays169_ren := {
  mixed := by kernel_rfl
  f169 := Tryz.func74.trans (congrArg some (by kernel_rfl))
  t0 := Tryz.underlying0
  a0 := Tryz.isAgg0
  z0 := Tryz.sizeOf0
  v0 := Tryz.zeroValue0
  t3 := Tryz.underlying3
  a3 := Tryz.isAgg3
  z3 := Tryz.sizeOf3
  v3 := Tryz.zeroValue3
  t9 := Tryz.underlying9
  a9 := Tryz.isAgg9
  z9 := Tryz.sizeOf9
  v9 := Tryz.zeroValue9
  t37 := Tryz.underlying136
  a37 := Tryz.isAgg136
  z37 := Tryz.sizeOf136
  v37 := Tryz.zeroValue136
  t70 := Tryz.underlying135
  a70 := Tryz.isAgg135
  z70 := Tryz.sizeOf135
  v70 := Tryz.zeroValue135
  t72 := Tryz.underlying138
  a72 := Tryz.isAgg138
  z72 := Tryz.sizeOf138
  v72 := Tryz.zeroValue138
  t127 := Tryz.underlying220
  a127 := Tryz.isAgg220
  z127 := Tryz.sizeOf220
  v127 := Tryz.zeroValue220 }
theorem Tryz.Builder_Extra_169 : Builder.Extra Tryz.prog Tryz.lays169_ren := {
  sizeBuilder := by kernel_rfl
  liesBuilder := by kernel_rfl
  t5 := Tryz.underlying5
  a5 := Tryz.isAgg5
  z5 := Tryz.sizeOf5
  v5 := Tryz.zeroValue5
  infoByte := by kernel_rfl
  cellsByte := by kernel_rfl
  sizeByte := by kernel_rfl
  neB5 := by decide }
open Go.RowKit Go.Sort Go.Lib in
theorem Tryz.Builder_String_any (B b : Nat) (l : List UInt8) (w : World) (h : Lib.IsBuilder 138 5 B b (Lib.byteCells l) w) (hBw : B ≤ w.heap.size) :
    Calls Tryz.prog 74 #[.pointer (some ⟨b, 0, none⟩)] w fun e w' => e = .returned (.string ⟨l.toArray⟩) ∧ Below B w w' := Any.Builder_String_any Tryz.lays169 Tryz.Builder_Extra_169 B b l w h hBw
end Go.Proofs
namespace Go.Proofs.YtacndicgpkeobaaGreatDoor
open Go.RowKit

abbrev rowN : String := (Rows.ascentChangesRow.laid.getD 2 (default, .nil)).1
abbrev KQ : World → Prop := fun w => Lib.TabIs Tryz.prog w rowN .u64 Lib.pow10Tab ∧ errAt 2 w ∧ errAt 3 w
theorem stQ : Stb KQ := stb_and (tab_st (g := 0) (by kernel_rfl) _ _) (stb_and (errAt_st 2) (errAt_st 3))
theorem ct_ItoaQ (n : Int) (h : -9223372036854775808 ≤ n ∧ n ≤ 9223372036854775807) : CtQ KQ Tryz.prog 72 [.int .i64 n] [] (isV (.string (bs (Lib.itoa n)))) := ctq_law fun w hk => (Tryz.strconv_Itoa n h.1 h.2 w hk.1).mono fun _ _ ⟨he, k, os, hw⟩ => ⟨⟨_, he, rfl, rfl⟩, hw ▸ below_grow w k os⟩
theorem noEsc (v : Value) (w : World) : (callFunc 183 #[v]).run Tryz.prog w = .ok (.value v) w := by
  rw [run_callFunc_extern Tryz.func183 (by kernel_rfl) (by kernel_rfl) (by kernel_rfl) (e := Extern.AbiNoEscape.same) (by kernel_rfl), Lib.run_noEscape]
  rfl

set_option maxRecDepth 100000 in
theorem ct_copy1 (B : Nat) (w0 : World) (rs : List Res) (b : Nat) (v : Value) : ItV Tryz.prog 136 [.pointer (some ⟨b, 0, none⟩)] B w0 (box b 138 [.pointer none, v] :: rs) (fun _ w_ => ∃ rs', (rs' = box b 138 [.pointer (some ⟨b, 0, none⟩), v] :: rs) ∧ WS B w0 rs' w_) := by
 obtain ⟨j, hj, hjs⟩ := Option.map_eq_some_iff.1 (show (Tryz.prog.info? 138).map (·.size) = some 2 by kernel_rfl)
 refine ItV.of (N := 20) Tryz.func136 rfl rfl rfl ?_
 refine C_weak (E' := [(0, .pointer (some ⟨b, 0, none⟩))]) (rs' := box b 138 [.pointer none, v] :: rs) ⟨rfl, trivial⟩ (fun _ h => h) ?_
 refine C_seq ?_
 refine C_region ?_
 refine Jq (q_move rfl) ?_
 refine Jq (by first | exact q_nilP rfl | exact q_nilEl rfl gvo (by simp)) ?_
 refine Jq (by first | exact q_field tb rfl rfl rfl | exact q_fieldE tb rfl rfl rfl gvo (by first | omega | (simp; done) | (simp; omega))) ?_
 refine Jq (by first | exact q_load tb rfl rfl bxo rfl | exact q_loadE tb rfl rfl gvo (by omega) (by simp) rfl) ?_
 refine Jq (q_ptrNil Tryz.underlying135 rfl) ?_
 refine L_then ?_
 refine C_true rfl ?_
 refine C_region ?_
 refine Jq (q_move rfl) ?_
 refine Jq (q_move rfl) ?_
 refine Jq (q_toU Tryz.underlying135 Tryz.underlying271 hj (by rw [hjs]; decide) rfl bxo (Nat.zero_lt_succ _)) ?_
 refine L_q rfl rfl rfl (q_extern1 (noEsc _) rfl) ?_
 refine Jq (q_fromU Tryz.underlying271 Tryz.underlying135 hj rfl bxo (by kernel_rfl)) ?_
 refine Jq (by first | exact q_nilP rfl | exact q_nilEl rfl gvo (by simp)) ?_
 refine Jq (by first | exact q_field tb rfl rfl rfl | exact q_fieldE tb rfl rfl rfl gvo (by first | omega | (simp; done) | (simp; omega))) ?_
 refine L_st tb rfl rfl ?_
 refine L_end ?_
 exact it_endV rfl (fun w_ h_ => ⟨_, rfl, h_⟩)
set_option maxRecDepth 100000 in
theorem ct_copy2 (B : Nat) (w0 : World) (rs : List Res) (b : Nat) (v : Value) : ItV Tryz.prog 136 [.pointer (some ⟨b, 0, none⟩)] B w0 (box b 138 [.pointer (some ⟨b, 0, none⟩), v] :: rs) (fun _ w_ => ∃ rs', (rs' = box b 138 [.pointer (some ⟨b, 0, none⟩), v] :: rs) ∧ WS B w0 rs' w_) := by
 obtain ⟨j, hj, hjs⟩ := Option.map_eq_some_iff.1 (show (Tryz.prog.info? 138).map (·.size) = some 2 by kernel_rfl)
 refine ItV.of (N := 20) Tryz.func136 rfl rfl rfl ?_
 refine C_weak (E' := [(0, .pointer (some ⟨b, 0, none⟩))]) (rs' := box b 138 [.pointer (some ⟨b, 0, none⟩), v] :: rs) ⟨rfl, trivial⟩ (fun _ h => h) ?_
 refine C_seq ?_
 refine C_region ?_
 refine Jq (q_move rfl) ?_
 refine Jq (by first | exact q_nilP rfl | exact q_nilEl rfl gvo (by simp)) ?_
 refine Jq (by first | exact q_field tb rfl rfl rfl | exact q_fieldE tb rfl rfl rfl gvo (by first | omega | (simp; done) | (simp; omega))) ?_
 refine Jq (by first | exact q_load tb rfl rfl bxo rfl | exact q_loadE tb rfl rfl gvo (by omega) (by simp) rfl) ?_
 refine Jq (q_ptrSome Tryz.underlying135 rfl) ?_
 refine L_then ?_
 refine C_false rfl ?_
 refine C_seq ?_
 refine C_region ?_
 refine Jq (q_move rfl) ?_
 refine Jq (by first | exact q_nilP rfl | exact q_nilEl rfl gvo (by simp)) ?_
 refine Jq (by first | exact q_field tb rfl rfl rfl | exact q_fieldE tb rfl rfl rfl gvo (by first | omega | (simp; done) | (simp; omega))) ?_
 refine Jq (by first | exact q_load tb rfl rfl bxo rfl | exact q_loadE tb rfl rfl gvo (by omega) (by simp) rfl) ?_
 refine Jq (q_move rfl) ?_
 refine Jq (q_ptrSame Tryz.underlying135 hj rfl rfl) ?_
 refine L_then ?_
 refine C_false rfl ?_
 refine C_skip ?_
 exact it_endV rfl (fun w_ h_ => ⟨_, rfl, h_⟩)
theorem ct_copy (B : Nat) (w0 : World) (rs : List Res) (b : Nat) (p v : Value) (hp : p = .pointer none ∨ p = .pointer (some ⟨b, 0, none⟩)) : ItV Tryz.prog 136 [.pointer (some ⟨b, 0, none⟩)] B w0 (box b 138 [p, v] :: rs) (fun _ w_ => ∃ rs', (rs' = box b 138 [.pointer (some ⟨b, 0, none⟩), v] :: rs) ∧ WS B w0 rs' w_) := by
 rcases hp with rfl | rfl
 · exact ct_copy1 B w0 rs b v
 · exact ct_copy2 B w0 rs b v

set_option maxRecDepth 100000 in
theorem ct_WriteString (B : Nat) (w0 : World) (rs : List Res) (b : Nat) (p v : Value) (l : List UInt8) (hp : p = .pointer none ∨ p = .pointer (some ⟨b, 0, none⟩)) (r : List UInt8) (hlen : l.length + r.length ≤ 140737488355328) : ItV Tryz.prog 71 [.pointer (some ⟨b, 0, none⟩), .string (bs r)] B w0 (box b 138 [p, v] :: sl v 5 1 ((l).map cU) :: rs) (fun _ w_ => ∃ rs', (∃ A n c, rs' = box b 138 [.pointer (some ⟨b, 0, none⟩), .slice A n c] :: sl (.slice A n c) 5 1 ((l ++ r).map cU) :: rs) ∧ WS B w0 rs' w_) := by
 refine ItV.of (N := 19) Tryz.func71 rfl rfl rfl ?_
 refine C_weak (E' := [(0, .pointer (some ⟨b, 0, none⟩)), (1, .string (bs r))]) (rs' := box b 138 [p, v] :: sl v 5 1 ((l).map cU) :: rs) ⟨rfl, rfl, trivial⟩ (fun _ h => h) ?_
 refine C_seq ?_
 refine C_region ?_
 refine Jq (q_assign rfl) ?_
 refine Jq (q_assign rfl) ?_
 refine L_then ?_
 refine C_seq ?_
 refine C_region ?_
 refine Jq (q_move rfl) ?_
 refine L_callI tb (post := fun _ rs9 => rs9 = box b 138 [.pointer (some ⟨b, 0, none⟩), v] :: sl v 5 1 (l.map cU) :: rs) rfl rfl rfl (ct_copy _ _ _ b p v hp) (fun y9 rs9 hy9 => ?_)
 subst hy9
 refine L_then ?_
 refine C_seq ?_
 refine C_region ?_
 refine Jq (q_move rfl) ?_
 refine Jq (q_move rfl) ?_
 refine Jq (by first | exact q_nilP rfl | exact q_nilEl rfl gvo (by simp)) ?_
 refine Jq (by first | exact q_field tb rfl rfl rfl | exact q_fieldE tb rfl rfl rfl gvo (by first | omega | (simp; done) | (simp; omega))) ?_
 refine Jq (by first | exact q_load tb rfl rfl bxo rfl | exact q_loadE tb rfl rfl gvo (by omega) (by simp) rfl) ?_
 refine Jq (q_move rfl) ?_
 refine L_front1 ?_
 refine L_appendS tb rfl (by kernel_rfl) Tryz.underlying9 rfl rfl hlen rfl fun A14 n14 c14 => ?_
 refine Jq (by first | exact q_nilP rfl | exact q_nilEl rfl gvo (by simp)) ?_
 refine Jq (by first | exact q_field tb rfl rfl rfl | exact q_fieldE tb rfl rfl rfl gvo (by first | omega | (simp; done) | (simp; omega))) ?_
 refine L_st tb rfl rfl ?_
 refine L_then ?_
 refine C_seq ?_
 refine C_region ?_
 refine Jq (q_move rfl) ?_
 refine Jq (q_lenS Tryz.underlying9 rfl) ?_
 refine Jq (q_assign rfl) ?_
 refine Jq (q_assign rfl) ?_
 refine L_then ?_
 refine C_ret ?_
 exact it_retV (res2 rfl rfl rfl) (fun w_ h_ => ⟨_, ⟨A14, n14, c14, rfl⟩, h_⟩)
end Go.Proofs.YtacndicgpkeobaaGreatDoor
