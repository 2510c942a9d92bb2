/-
  Lines of pointers: what the program writes and reads through them. Conditions: those in front of each theorem; no program in sight.
-/
import Derived.Test.YtacndicgpkeobaaGreatDoorShKn
import Derived.Test.YtacndicgpkeobaaGreatDoorRd5
import Derived.Test.YtacndicgpkeobaaGreatDoorShItV
namespace Go.Proofs.YtacndicgpkeobaaGreatDoor.Kp
open Go.RowKit
section
variable {P : Program} {ops : Array Oper} {md : Region.Mode} {N : Fr} {B : Nat} {w0 : World} {ι : Type} {J : ι → Env × List Res} {ro : List Res}
def G (P : Program) (ops : Array Oper) (md : Region.Mode) (N : Fr) (B : Nat) (w0 : World) {ι : Type} (J : ι → Env × List Res) (ro : List Res) (f : Nat) (listed : Array Bool) (E : Env) (rn : List Res) : Prop :=
  ∀ (S : Nat → Prop) (a : Act) (w : World), (∀ k, k < B → S k) → listed.size = ops.size → SatC N B w0 S E rn ro a w → wpAnyB P S md ops (fun a' w' => ∃ i, Sat N B w0 (J i).1 (J i).2 a' w') f listed a w
variable {f k d : Nat} {listed : Array Bool} {E : Env} {rn : List Res}
theorem G_nil (i : ι) (hr : decide (Region.ready md ops listed = []) = true) (h : ∀ a w, Sat N B w0 E (rn ++ ro) a w → Sat N B w0 (J i).1 (J i).2 a w) : G P ops md N B w0 J ro 0 listed E rn :=
  fun _ a w _ _ hs => ⟨of_decide_eq_true hr, i, h a w hs.s⟩
theorem G_q {op : Op} {ty : TypeId} {pos : String} {aft : Array Edge} {v : Value} (ho : ops[k]? = some ⟨some d, op, ty, pos, aft, none⟩) (hq : Qu P N B w0 E ro ⟨some d, op, ty, pos, aft, none⟩ v) (hB : (Region.noSelect ops && ((Region.ready md ops listed).contains k && Region.free md ops listed k)) = true)
    (h : G P ops md N B w0 J ro f (listed.setIfInBounds k true) ((d, v) :: E) rn) (hN : Nat.blt d N.n = true := by exact rfl) : G P ops md N B w0 J ro (f + 1) listed E rn := by
  intro S a w hBB hsz hs
  simp only [Bool.and_eq_true] at hB
  obtain ⟨hsel, hr, hf⟩ := hB
  have hr' : k ∈ Region.ready md ops listed := by simpa using hr
  refine wpAnyB_first ho (Region.noSelect_spec hsel) _ listed a w hsz (Region.free_spec ho hf) hr' (.inl ⟨?_, fun w' hb => hq a w' ?_⟩) (h S _ _ hBB (by simpa using hsz) (hs.put hN v))
  · simp [Region.wanted]
  · have h1 := hs.s.ws.sub (List.sublist_append_right rn ro)
    refine hs.s.world ⟨h1.bel.trans (Keeps.below hb hBB), Nat.le_trans h1.bas hb.size, fun r hrm => ?_, h1.dis⟩
    exact r.st (h1.res r hrm) hb.size (fun k hk => hb.block k (hs.o r hrm k hk))
theorem G_s {ks : List Nat} (hr : decide (Region.ready md ops listed = ks) = true) (h0 : ks ≠ []) (h : ∀ k ∈ ks, St P ops N B w0 ro k (G P ops md N B w0 J ro f (listed.setIfInBounds k true)) E rn) : G P ops md N B w0 J ro (f + 1) listed E rn := by
  intro S a w hBB hsz hs
  have hr' := of_decide_eq_true hr
  refine ⟨fun h9 => h0 (hr'.symm.trans h9), fun i hi => ?_⟩
  rw [hr'] at hi
  exact St.run hBB hs (h i hi) fun E' rn' a' w' hs' hX => hX S a' w' hBB (by simpa using hsz) hs'
theorem G_s1 {k1 : Nat} (hr : decide (Region.ready md ops listed = [k1]) = true) (h1 : St P ops N B w0 ro k1 (G P ops md N B w0 J ro f (listed.setIfInBounds k1 true)) E rn) : G P ops md N B w0 J ro (f + 1) listed E rn :=
  G_s hr (by simp) (List.forall_mem_cons.2 ⟨h1, fun _ h => by cases h⟩)
theorem G_s2 {k1 k2 : Nat} (hr : decide (Region.ready md ops listed = [k1, k2]) = true) (h1 : St P ops N B w0 ro k1 (G P ops md N B w0 J ro f (listed.setIfInBounds k1 true)) E rn) (h2 : St P ops N B w0 ro k2 (G P ops md N B w0 J ro f (listed.setIfInBounds k2 true)) E rn) : G P ops md N B w0 J ro (f + 1) listed E rn :=
  G_s hr (by simp) (List.forall_mem_cons.2 ⟨h1, List.forall_mem_cons.2 ⟨h2, fun _ h => by cases h⟩⟩)
theorem G_s3 {k1 k2 k3 : Nat} (hr : decide (Region.ready md ops listed = [k1, k2, k3]) = true) (h1 : St P ops N B w0 ro k1 (G P ops md N B w0 J ro f (listed.setIfInBounds k1 true)) E rn) (h2 : St P ops N B w0 ro k2 (G P ops md N B w0 J ro f (listed.setIfInBounds k2 true)) E rn) (h3 : St P ops N B w0 ro k3 (G P ops md N B w0 J ro f (listed.setIfInBounds k3 true)) E rn) : G P ops md N B w0 J ro (f + 1) listed E rn :=
  G_s hr (by simp) (List.forall_mem_cons.2 ⟨h1, List.forall_mem_cons.2 ⟨h2, List.forall_mem_cons.2 ⟨h3, fun _ h => by cases h⟩⟩⟩)
theorem G_s4 {k1 k2 k3 k4 : Nat} (hr : decide (Region.ready md ops listed = [k1, k2, k3, k4]) = true) (h1 : St P ops N B w0 ro k1 (G P ops md N B w0 J ro f (listed.setIfInBounds k1 true)) E rn) (h2 : St P ops N B w0 ro k2 (G P ops md N B w0 J ro f (listed.setIfInBounds k2 true)) E rn) (h3 : St P ops N B w0 ro k3 (G P ops md N B w0 J ro f (listed.setIfInBounds k3 true)) E rn) (h4 : St P ops N B w0 ro k4 (G P ops md N B w0 J ro f (listed.setIfInBounds k4 true)) E rn) : G P ops md N B w0 J ro (f + 1) listed E rn :=
  G_s hr (by simp) (List.forall_mem_cons.2 ⟨h1, List.forall_mem_cons.2 ⟨h2, List.forall_mem_cons.2 ⟨h3, List.forall_mem_cons.2 ⟨h4, fun _ h => by cases h⟩⟩⟩⟩)
theorem G_weak {listed' : Array Bool} {E' : Env} {rn' : List Res} (h : G P ops md N B w0 J ro f listed' E' rn') (hl : listed = listed') (hE : subE E E') (hp : rn'.Perm rn) : G P ops md N B w0 J ro f listed E rn := by
  subst hl
  intro S a w hBB hsz hs
  have h1 := hs.perm hp
  exact h S a w hBB hsz ⟨h1.s.weak hE (fun h => h), h1.b, h1.o, h1.n⟩
theorem C_dag0 {id : Nat} {l : List Oper} {Q : Exit → Act → World → Prop} (n : Nat) (hn : l.toArray.size = n) (J : ι → Env × List Res) (hm : P.follows .mixedOrders = true)
    (h : ∀ H : Nat → Array Bool → Env → List Res → Prop, H = G P l.toArray .any N B w0 J ro → H n (Array.replicate n false) E []) (hc : ∀ i, L P l.toArray Q N B w0 (J i).1 (J i).2 []) : C P Q N B w0 E ro (.region id l.toArray true) := by
  subst hn
  intro a w hs
  have hs' : Sat N B w0 E ro a w.drew := hs.world (hs.ws.later ⟨rfl, rfl, rfl, Nat.le_refl _, fun _ _ => rfl⟩)
  have hC : SatC N B w0 (fun k => k < B ∨ ∃ r ∈ ro, r.blk = some k) E [] ro a w.drew := by
    refine ⟨hs', ?_, fun r hr k hk => .inr ⟨r, hr, hk⟩, fun r hr => by cases hr⟩
    rintro k (hk | ⟨r, hr, hk⟩)
    · exact Nat.lt_of_lt_of_le hk hs'.ws.bas
    · exact r.lt (hs'.ws.res r hr) k hk
  have H := h _ rfl _ a w.drew (fun k hk => .inl hk) (by simp) hC
  refine wpIn_region_any hm ?_
  exact wpAny_of_anyB (ro := N.ro) (Q := Q) (fun listed a' w' hr hT => by
    obtain ⟨i, h3⟩ := hT
    exact ⟨hr, hc i a' w' h3⟩) _ _ _ _ H
end
end Go.Proofs.YtacndicgpkeobaaGreatDoor.Kp
namespace Go.Proofs.YtacndicgpkeobaaGreatDoor
open Go.RowKit
abbrev PO (g o : Nat) : Value := .pointer (some ⟨g, o, none⟩)
abbrev cP (g : Nat) (o : Nat) : List Value := [PO g o]
theorem elP_bx (g o : Nat) : elP (bxV g) o = PO g o := by
  show Value.pointer (some (Addr.add ⟨g, 0, none⟩ o)) = _
  rw [Addr.add_lit, Nat.zero_add]
section
variable {P : Program} (T : Tab P) {N : Fr} {B : Nat} {w0 : World} {E : Env} {rs : List Res} {dst : Option Nat} {ty : TypeId} {pos : String} {aft : Array Edge} {gd : Option (Nat × Bool)}
theorem q_loadBx {t : TypeId} {sz bs : Nat} {zs : List Value} {x : Operand} {g o size : Nat} {xs : List Value} {v : Value} (ht : lkT T.ty t = some (false, sz, bs, zs)) (hx : ev E x = some (PO g o)) (hg : GvR rs (bxV g) size [xs]) (hv : xs[o]? = some v) : Qu P N B w0 E rs ⟨dst, .load t x, ty, pos, aft, gd⟩ v :=
  q_loadE T ht (hx.trans (congrArg some (elP_bx g o).symm)) hg (i := 0) (o := o) (by omega) rfl hv
end
def putK : List Value → List Nat → List Int → List Value
  | xs, o :: os, n :: ns => putK (lay xs o [.int .i64 n]) os ns
  | xs, _, _ => xs
theorem putK_snoc : ∀ {xs : List Value} {os : List Nat} {ns : List Int} {o : Nat} {n : Int}, os.length = ns.length → putK xs (os ++ [o]) (ns ++ [n]) = lay (putK xs os ns) o [.int .i64 n]
  | xs, [], [], o, n, _ => rfl
  | xs, o9 :: os, n9 :: ns, o, n, h => by
    show putK (lay xs o9 [.int .i64 n9]) (os ++ [o]) (ns ++ [n]) = _
    rw [putK_snoc (by simpa using h)]
    rfl
theorem lay1_len {xs : List Value} {o : Nat} {v : Value} (h : o + 1 ≤ xs.length) : (lay xs o [v]).length = xs.length := by
  unfold lay
  simp
  omega
theorem putK_len : ∀ {xs : List Value} {os : List Nat} {ns : List Int}, (∀ o ∈ os, o + 1 ≤ xs.length) → (putK xs os ns).length = xs.length
  | xs, [], ns, _ => by rw [putK]; intro _ _ _ _ h; cases h
  | xs, o :: os, [], _ => by rw [putK]; intro _ _ _ _ _ h; cases h
  | xs, o :: os, n :: ns, h => by
    have h1 := lay1_len (v := .int .i64 n) (h o List.mem_cons_self)
    rw [putK, putK_len fun q hq => by rw [h1]; exact h q (List.mem_cons_of_mem _ hq), h1]
def oU : Nat → List Nat
  | 0 => [1, 2]
  | 1 => [3, 4]
  | 2 => [5]
  | 3 => [6, 7, 8]
  | _ => [0, 1]
theorem put_up {A : Value} {r : Ru} {i : Nat} {ns : List Int} (hi : i < 4) (h : ns.length = hdN i) : putK (cRu A r) (oU i) ns = cRu A (upR i ns r) := by
  obtain rfl | rfl | rfl | rfl : i = 0 ∨ i = 1 ∨ i = 2 ∨ i = 3 := by omega
  · obtain ⟨a, b, rfl⟩ := twoU_of h
    rfl
  · obtain ⟨a, b, rfl⟩ := twoU_of h
    rfl
  · obtain ⟨a, rfl⟩ := oneU_of h
    rfl
  · obtain ⟨a, b, c, rfl⟩ := threeU_of h
    rfl
theorem rdU_len {w p : Tx} {c : Nat} {ns : List Int} (h : rdU w c p = some ns) : ns.length = c := by
  unfold rdU at h
  by_cases h2 : lnE p = true
  · rw [if_pos h2] at h
    exact rdN_len h
  · rw [if_neg h2] at h
    cases h
theorem put_ok {A : Value} {r : Ru} {i : Nat} {ns : List Int} (hi : i < 4) (h : ns.length = hdN i) : putK (cRu A r) ((oU i).take ns.length) ns = cRu A (upR i ns r) := by
  have hl : (oU i).length = hdN i := by
    obtain rfl | rfl | rfl | rfl : i = 0 ∨ i = 1 ∨ i = 2 ∨ i = 3 := by omega
    all_goals rfl
  rw [List.take_of_length_le (by omega)]
  exact put_up hi h
def RxP (g : Nat) (T tP : TypeId) (A : Option Addr) (n c : Nat) (xs : List Value) (os : List Nat) (w l : Tx) (rs : List Res) (y : Value) (rs' : List Res) : Prop :=
  ∃ ns9 : List Int, y = .bool (rdU w os.length l).isSome ∧ (∀ ns, rdU w os.length l = some ns → ns9 = ns) ∧ ns9.length ≤ os.length ∧ rs' = box g T (putK xs (os.take ns9.length) ns9) :: sl (.slice A n c) tP 1 (os.map (cP g)) :: rs
theorem put_row {ns : List Int} (h : ns.length ≤ 2) : ∃ y : Ow, putK [.int .i64 0, .int .i64 0] ([0, 1].take ns.length) ns = cOw y ∧ (∀ a b, ns = [a, b] → y = ⟨a, b⟩) := by
  match ns, h with
  | [], _ => exact ⟨⟨0, 0⟩, rfl, fun a b h => by cases h⟩
  | [a], _ => exact ⟨⟨a, 0⟩, rfl, fun a b h => by cases h⟩
  | [a, b], _ => exact ⟨⟨a, b⟩, rfl, fun c d h => by cases h; rfl⟩
  | a :: b :: c :: t, h => exact absurd h (by simp only [List.length_cons]; omega)
theorem hx_U (t : Value) (r : Ru) (i : Nat) (hi : i < 4) (k o : Nat) (m : Int) (h : (oU i)[k]? = some o) (h2 : (hdN9 r i)[k]? = some m) : (cRu t r)[o]? = some (.int .i64 m) := by
  have hk : k < 3 := by
    have h3 := (List.getElem?_eq_some_iff.1 h2).1
    have := hdN9_len r i
    omega
  obtain rfl | rfl | rfl : k = 0 ∨ k = 1 ∨ k = 2 := by omega
  all_goals obtain rfl | rfl | rfl | rfl : i = 0 ∨ i = 1 ∨ i = 2 ∨ i = 3 := by omega
  all_goals first | (cases h; cases h2; rfl) | (exact absurd h (by simp [oU]))
theorem hx_O (y : Ow) (k o : Nat) (m : Int) (h : [0, 1][k]? = some o) (h2 : [y.f, y.r][k]? = some m) : (cOw y)[o]? = some (.int .i64 m) := by
  match k, h, h2 with
  | 0, h, h2 => cases h; cases h2; rfl
  | 1, h, h2 => cases h; cases h2; rfl
  | k + 2, h, _ => cases h
end Go.Proofs.YtacndicgpkeobaaGreatDoor
