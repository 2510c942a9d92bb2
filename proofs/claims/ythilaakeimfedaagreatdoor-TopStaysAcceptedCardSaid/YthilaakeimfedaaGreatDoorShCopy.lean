/-
  The calculus: a copy into an own slice, the first elements of a slice, bits of small numbers. Conditions: none; no program in sight.
-/
import Derived.Test.YthilaakeimfedaaGreatDoorShStop
import Derived.Laws.CopyRow
namespace Go.Proofs.YthilaakeimfedaaGreatDoor
open Go.RowKit

theorem flat_take : ∀ (l : List (List Value)) (size k : Nat), (∀ x ∈ l, x.length = size) → (l.take k).flatten = l.flatten.take (k * size)
  | [], _, _, _ => by simp
  | x :: t, size, 0, _ => by simp
  | x :: t, size, k + 1, he => by
    have hx := he x List.mem_cons_self
    rw [List.take_succ_cons, List.flatten_cons, List.flatten_cons, flat_take t size k (fun y hy => he y (List.mem_cons_of_mem _ hy)), Nat.succ_mul, Nat.add_comm, ← hx, List.take_length_add_append]
theorem take_at {l : List Value} {n j : Nat} {u : Value} (h : (l.take n)[j]? = some u) : l[j]? = some u := by
  rw [List.getElem?_take] at h
  split at h
  · exact h
  · cases h
def takeV (v : Value) (k : Nat) : Value := match v with
  | .slice a _ c => .slice (if c = 0 then a else a.map (·.add 0)) k c
  | u => u
theorem add_zero (a : Addr) : a.add 0 = a := by unfold Addr.add; simp
theorem take_rdd {w : World} {v : Value} {size k : Nat} {l : List (List Value)} (h : Rdd w v size l) (hk : k ≤ l.length) : Rdd w (takeV v k) size (l.take k) := by
  obtain ⟨A, cap, hv, hc1, hc2⟩ := h.form
  have e : takeV v k = .slice A k cap := by
    rw [hv]
    unfold takeV
    by_cases hc : cap = 0
    · simp [hc]
    · simp only [hc, if_false]
      cases A with
      | none => rfl
      | some a => simp [add_zero]
  rw [e]
  refine ⟨⟨A, cap, by rw [List.length_take, Nat.min_eq_left hk], by rw [List.length_take]; omega, hc2⟩, fun x hx => h.each x (List.mem_of_mem_take hx), fun h0 => ?_⟩
  rw [List.length_take] at h0
  obtain ⟨ad, h1, ⟨n, c, h2⟩, h3, h4⟩ := h.some (by omega)
  rw [hv] at h2
  injection h2 with hA hn hc
  subst hA
  refine ⟨ad, rfl, ⟨k, cap, rfl⟩, h3, fun j u hj => ?_⟩
  rw [flat_take l size k h.each] at hj
  exact h4 _ _ (take_at hj)
theorem gvt {rs : List Res} {v : Value} {size k : Nat} {l : List (List Value)} (h : GvR rs v size l) (hk : k ≤ l.length) : GvR rs (takeV v k) size (l.take k) := by
  obtain ⟨r, hr, hg⟩ := h
  exact ⟨r, hr, fun B w ho => take_rdd (hg B w ho) hk⟩
section
variable {P : Program} (T : Tab P) {Q : Exit → Act → World → Prop} {ops : Array Oper} {N : Fr} {B : Nat} {w0 : World} {E : Env} {rs : List Res} {rest : List Oper} {dst : Option Tmp} {ty : TypeId} {pos : String} {aft : Array Edge} {gd : Option (Nat × Bool)}
theorem run_copy_rows (w : World) (dT sT ty elem : TypeId) (sz g o dLen dCap : Nat) (a : Addr) (sLen sCap : Nat) (cur : Array Value) (t : TypeId) (cs : List Value)
    (hu : P.underlying dT = some (.slice elem)) (hs : (P.info? elem).map (·.size) = some sz)
    (hg : w.heap[g]? = some (.cells cur t (0, 0))) (hn : cs.length = Nat.min sLen dLen * sz)
    (hsrc : ∀ j v, cs[j]? = some v → w.cell? (a.add j) = some v) (hfit : o + cs.length ≤ cur.size) (h1 : ∀ v ∈ cs, v.oneCell' = true) :
    (Builtin.copy_ #[dT, sT] ty #[.slice (some ⟨g, o, none⟩) dLen dCap, .slice (some a) sLen sCap]).run P w =
      .ok (goInt (Nat.min sLen dLen)) (w.setRow g (cur.toList.take o ++ cs ++ cur.toList.drop (o + cs.length)).toArray) := by
  have hl := run_loadCells_list (P := P) w a cs hsrc
  have hst := run_storeCells_at P g o t cs 0 cur w hg (by simpa using hfit) h1
  cases hq : P.info? elem with
  | none => simp [hq] at hs
  | some i =>
    have hi : i.size = sz := by simpa [hq] using hs
    simp only [Nat.add_zero] at hst
    simp [Builtin.copy_, run_underlying hu, Builtin.lenOf, Builtin.firstCells, sizeOf, typeInfo, hq, hi, ← hn, hl, hst]
def CpTo (v : Value) (sz k : Nat) (d : Value) : Prop := (d = v ∧ k = 0) ∨ d = dropV v k sz
theorem CpTo.self {v : Value} {sz : Nat} : CpTo v sz 0 v := .inl ⟨rfl, rfl⟩
theorem CpTo.from {v : Value} {sz k : Nat} : CpTo v sz k (dropV v k sz) := .inr rfl
theorem copy_core {d : Nat} {t t2 e m : TypeId} {ag : Bool} {sz bs k q : Nat} {zs : List Value} {x y : Operand} {v dv u : Value} {l l2 : List (List Value)} (he : lkT T.el t = some (e, m, false)) (ht : lkT T.ty e = some (ag, sz, bs, zs))
    (hx : ev E x = some dv) (hd : CpTo v sz k dv) (hy : ev E y = some u) (hg : GvR (sl v e sz l :: rs) u sz l2) (h1 : ∀ c ∈ l2.flatten, c.oneCell' = true) (hq : q = min l2.length (l.length - k)) (hk : k < l.length) (hl2 : 0 < l2.length)
    {a : Act} {w : World} (hs : Sat N B w0 E (sl v e sz l :: rs) a w) :
    ∃ g ys, v.ownBlock = some g ∧ (execOp a.eval ⟨some d, .call { callee := .builtin .copy, args := #[x, y], argTypes := #[t, t2] }, ty, pos, aft, none⟩).run P w = .ok (.value (.int .i64 (q : Int))) (w.setRow g ys) ∧
      (sl v e sz (l.take k ++ l2.take q ++ l.drop (k + q))).ok B (w.setRow g ys) := by
  obtain ⟨dd, i, z, _, hi, _, his, hib, hz, hzc⟩ := T.ty_ok _ (lkT_mem ht)
  simp only at hi his hib hzc
  have hu : P.underlying t = some (.slice e) := by
    rcases T.el_ok _ (lkT_mem he) with ⟨_, h⟩ | ⟨h, _⟩
    · exact h
    · cases h
  obtain ⟨ho, hall⟩ := sl_ok.1 (hs.has (r := sl v e sz l) List.mem_cons_self)
  have hrd := hs.reads hg
  have hfl : l.flatten.length = l.length * sz := ho.1
  rcases ho.2 with ⟨hv, hn0⟩ | ⟨g, cap, cur, hv, hb, hgg, hc1, hc2, hc3, hc4⟩
  · omega
  obtain ⟨ad, hob, ⟨n2, cap2, hv2⟩, hlt, hcell⟩ := hrd.some hl2
  have hn2 : n2 = l2.length := by
    obtain ⟨A, c, hv3, _⟩ := hrd.form
    rw [hv2] at hv3
    injection hv3
  subst hn2
  have hdv : ∃ c', dv = .slice (some ⟨g, k * sz, none⟩) (l.length - k) c' := by
    have hadd : (⟨g, 0, none⟩ : Addr).add (k * sz) = ⟨g, k * sz, none⟩ := by
      unfold Addr.add
      split
      · next h0 => rw [h0]
      · simp
    rcases hd with ⟨rfl, rfl⟩ | rfl
    · exact ⟨cap, by rw [hv]; simp⟩
    · refine ⟨cap - k, ?_⟩
      rw [hv]
      simp only [dropV, sliced]
      rw [if_neg (by omega)]
      simp [hadd]
  obtain ⟨c', hdv⟩ := hdv
  have hcs : (l2.take q).flatten.length = q * sz := by
    rw [flat_len _ sz (fun x hx => hrd.each x (List.mem_of_mem_take hx)), List.length_take, Nat.min_eq_left (by omega)]
  have hle : k * sz + q * sz ≤ l.length * sz := by
    rw [← Nat.add_mul]
    exact Nat.mul_le_mul_right sz (by omega)
  have hle2 : l.length * sz ≤ cap * sz := Nat.mul_le_mul_right sz hc1
  have hmin : Nat.min l2.length (l.length - k) = q := hq.symm
  have hrun := run_copy_rows (P := P) w t t2 ty e sz g (k * sz) (l.length - k) c' ad l2.length cap2 cur e (l2.take q).flatten hu (by rw [hi]; simp [his]) hgg (by rw [hcs, hmin]) (fun j c hj => by
    rw [flat_take l2 sz q hrd.each] at hj
    exact hcell j c (take_at hj)) (by rw [hcs, hc3]; omega) (fun c hc => h1 c (by
    rw [flat_take l2 sz q hrd.each] at hc
    exact List.mem_of_mem_take hc))
  rw [hmin] at hrun
  generalize hys : (cur.toList.take (k * sz) ++ (l2.take q).flatten ++ cur.toList.drop (k * sz + (l2.take q).flatten.length)) = ys at hrun
  have hrun' : (execOp a.eval ⟨some d, .call { callee := .builtin .copy, args := #[x, y], argTypes := #[t, t2] }, ty, pos, aft, none⟩).run P w = .ok (.value (.int .i64 (q : Int))) (w.setRow g ys.toArray) := by
    simp [execOp, resolve, invoke, builtin, hs.eval hx, hs.eval hy, hdv, hv2, hrun, goInt]
  have hcl : cur.toList.length = cap * sz := by rw [Array.length_toList, hc3]
  have hys2 : ys.length = cap * sz := by
    rw [← hys]
    simp only [List.length_append, List.length_take, List.length_drop, hcl, hcs]
    omega
  have htake : ys.take (l.length * sz) = (l.take k ++ l2.take q ++ l.drop (k + q)).flatten := by
    rw [List.flatten_append, List.flatten_append, flat_take l sz k hall, flat_drop l sz (k + q) hall, ← hc4, ← hys, hcs]
    rw [List.take_take, List.drop_take, Nat.min_eq_left (by omega), List.take_append, List.take_append]
    simp only [List.length_append, List.length_take, hcl, hcs, Nat.add_mul]
    rw [Nat.min_eq_left (by omega), List.take_of_length_le (l := (l2.take q).flatten) (by omega), List.take_of_length_le (l := List.take (k * sz) cur.toList) (by rw [List.length_take]; omega)]
  have hlen : (l.take k ++ l2.take q ++ l.drop (k + q)).length = l.length := by
    simp only [List.length_append, List.length_take, List.length_drop]
    omega
  refine ⟨g, ys.toArray, by rw [hv]; rfl, hrun', sl_ok.2 ⟨⟨?_, .inr ⟨g, cap, ys.toArray, by rw [hlen]; exact hv, hb, setRow_heap w g cur ys.toArray e (0, 0) hgg, by rw [hlen]; exact hc1, hc2, by simpa using hys2, by rw [hlen]; exact htake⟩⟩, ?_⟩⟩
  · rw [hlen, ← htake, List.length_take, hys2]
    omega
  · intro c hc
    rcases List.mem_append.1 hc with hc | hc
    · rcases List.mem_append.1 hc with hc | hc
      · exact hall c (List.mem_of_mem_take hc)
      · exact hrd.each c (List.mem_of_mem_take hc)
    · exact hall c (List.mem_of_mem_drop hc)
theorem L_copy {d : Nat} {t t2 e m : TypeId} {ag : Bool} {sz bs k q : Nat} {zs : List Value} {x y : Operand} {v dv u : Value} {l l2 : List (List Value)} (he : lkT T.el t = some (e, m, false)) (ht : lkT T.ty e = some (ag, sz, bs, zs))
    (hx : ev E x = some dv) (hd : CpTo v sz k dv) (hy : ev E y = some u) (hg : GvR (sl v e sz l :: rs) u sz l2) (h1 : ∀ c ∈ l2.flatten, c.oneCell' = true) (hq : q = min l2.length (l.length - k)) (hk : k < l.length) (hl2 : 0 < l2.length)
    (hN : Nat.blt d N.n = true) (h : L P ops Q N B w0 ((d, .int .i64 (q : Int)) :: E) (sl v e sz (l.take k ++ l2.take q ++ l.drop (k + q)) :: rs) rest) :
    L P ops Q N B w0 E (sl v e sz l :: rs) (⟨some d, .call { callee := .builtin .copy, args := #[x, y], argTypes := #[t, t2] }, ty, pos, aft, none⟩ :: rest) := by
  intro a w hs
  refine wpListIn_plain rfl fun K hK => ?_
  obtain ⟨g, ys, hb, hrun, hok⟩ := copy_core T (d := d) (ty := ty) (pos := pos) (aft := aft) (t2 := t2) he ht hx hd hy hg h1 hq hk hl2 hs
  refine wpIn_value hrun (hK _ _ (h _ _ (hs.put hN _ ?_)))
  exact hs.ws.turn (sl_own _ _ _ _) (by rw [sl_blk, sl_blk]) (sl_own _ _ _ _) hok ⟨rfl, rfl, rfl⟩ (by rw [setRow_size]; exact Nat.le_refl _) (fun k _ hne => setRow_other w g k _ (fun e => hne (by rw [sl_blk, hb, e])))
theorem Kp.X_copy {fin : Env → List Res → Prop} {ro : List Res} {stl : List Kp.Stp} {kk : Nat} {o : Oper} {d : Nat} {t t2 e m : TypeId} {ag : Bool} {sz bs k q : Nat} {zs : List Value} {x y : Operand} {v dv u : Value} {l l2 : List (List Value)} (ho : ops[kk]? = some o) (hop : o = ⟨some d, .call { callee := .builtin .copy, args := #[x, y], argTypes := #[t, t2] }, ty, pos, aft, none⟩)
    (he : lkT T.el t = some (e, m, false)) (ht : lkT T.ty e = some (ag, sz, bs, zs)) (hx : ev E x = some dv) (hd : CpTo v sz k dv) (hy : ev E y = some u) (hg : GvR (sl v e sz l :: ro) u sz l2) (h1 : ∀ c ∈ l2.flatten, c.oneCell' = true) (hq : q = min l2.length (l.length - k)) (hk : k < l.length) (hl2 : 0 < l2.length)
    (hN : Nat.blt d N.n = true) (h : Kp.X P ops N B w0 fin ro stl ((d, .int .i64 (q : Int)) :: E) [sl v e sz (l.take k ++ l2.take q ++ l.drop (k + q))]) : Kp.X P ops N B w0 fin ro (.s kk :: stl) E [sl v e sz l] := by
  subst hop
  refine ⟨_, ho, rfl, .inr (.inr ⟨d, _, [sl v e sz (l.take k ++ l2.take q ++ l.drop (k + q))], rfl, hN, fun S a w hBB hs => ?_, h⟩)⟩
  obtain ⟨g, ys, hb, hrun, hok⟩ := copy_core T (d := d) (ty := ty) (pos := pos) (aft := aft) (t2 := t2) he ht hx hd hy hg h1 hq hk hl2 hs.s
  have hg0 : ¬ S g := hs.n _ List.mem_cons_self g (by rw [sl_blk]; exact hb)
  refine ⟨_, hrun, ⟨rfl, rfl, rfl, by rw [setRow_size]; exact Nat.le_refl _, fun k hk => setRow_other w g k _ (fun e => hg0 (e ▸ hk))⟩, ?_⟩
  refine ⟨hs.s.world (hs.s.ws.turn (sl_own _ _ _ _) (by rw [sl_blk, sl_blk]) (sl_own _ _ _ _) hok ⟨rfl, rfl, rfl⟩ (by rw [setRow_size]; exact Nat.le_refl _) (fun k _ hne => setRow_other w g k _ (fun e => hne (by rw [sl_blk, hb, e])))), fun k hk => by rw [setRow_size]; exact hs.b k hk, hs.o, fun r hr k hk => ?_⟩
  rw [List.mem_singleton.1 hr, sl_blk, hb] at hk
  injection hk with hk
  rw [← hk]
  exact hg0
theorem Kp.C_ownS {id : Nat} {lo : List Oper} {Q : Exit → Act → World → Prop} {v : Value} {e sz : Nat} {l : List (List Value)} {ro : List Res} (ord : List Kp.Stp) (hm : P.follows .mixedOrders = true) (hsel : Region.noSelect lo.toArray = true) (hn : Kp.stN ord = lo.toArray.size) (hB : Kp.flowC .any lo.toArray ord (Array.replicate lo.toArray.size false) = true)
    (h : Kp.X P lo.toArray N B w0 (fun E' rs' => L P lo.toArray Q N B w0 E' rs' []) ro ord E [sl v e sz l]) : C P Q N B w0 E (sl v e sz l :: ro) (.region id lo.toArray true) :=
  Kp.C_own (pre := [sl v e sz l]) ord hm hsel hn hB (by intro r hr; rw [List.mem_singleton.1 hr]; exact sl_own _ _ _ _) h
theorem q_fromF {t e m : TypeId} {ag : Bool} {sz bs : Nat} {zs : List Value} {x y : Operand} {A : Option Addr} {n c : Nat} {kd : IntKind} {k : Int} (he : lkT T.el t = some (e, m, false)) (ht : lkT T.ty e = some (ag, sz, bs, zs)) (hx : ev E x = some (.slice A n c)) (hy : ev E y = some (.int kd k)) (h0 : 0 ≤ k) (h1 : k ≤ n) :
    Qu P N B w0 E rs ⟨dst, .slice t x (some y) none none, ty, pos, aft, gd⟩ (dropV (.slice A n c) k.toNat sz) := by
  intro a w hs
  have hu : P.underlying t = some (.slice e) := by
    rcases T.el_ok _ (lkT_mem he) with ⟨_, h⟩ | ⟨h, _⟩
    · exact h
    · cases h
  have he' : P.elem t = e := by simp [Program.elem, hu]
  have hu' : P.underlying t = some (.slice (P.elem t)) := by rw [he']; exact hu
  have h3 := T.sizeOf ht w
  simp only at h3
  have hr := run_slice_l (P := P) w t A n c hu' kd k h0 h1
  rw [he', h3] at hr
  simp only [execOp, hs.eval hx, Option.map_some, Option.map_none, hs.eval hy, Sem.run_bind, run_sliceAt_slice (P := P) w t _ _ _ _ hu', hr, Result.andThen_ok, Sem.run_pure, dropV]
theorem q_toF {t e m : TypeId} {ag : Bool} {sz bs : Nat} {zs : List Value} {x y : Operand} {A : Option Addr} {n c : Nat} {kd : IntKind} {k : Int} (he : lkT T.el t = some (e, m, false)) (ht : lkT T.ty e = some (ag, sz, bs, zs)) (hx : ev E x = some (.slice A n c)) (hy : ev E y = some (.int kd k)) (h0 : 0 ≤ k) (h1 : k ≤ c) :
    Qu P N B w0 E rs ⟨dst, .slice t x none (some y) none, ty, pos, aft, gd⟩ (takeV (.slice A n c) k.toNat) := by
  intro a w hs
  have hu : P.underlying t = some (.slice e) := by
    rcases T.el_ok _ (lkT_mem he) with ⟨_, h⟩ | ⟨h, _⟩
    · exact h
    · cases h
  have he' : P.elem t = e := by simp [Program.elem, hu]
  have hu' : P.underlying t = some (.slice (P.elem t)) := by rw [he']; exact hu
  have h3 := T.sizeOf ht w
  simp only at h3
  have hr := run_slice_h (P := P) w t A n c hu' kd k h0 h1
  rw [he', h3] at hr
  have e2 : sliced A 0 k.toNat c sz = takeV (.slice A n c) k.toNat := by
    unfold sliced takeV
    simp
  simp only [execOp, hs.eval hx, Option.map_some, Option.map_none, hs.eval hy, Sem.run_bind, run_sliceAt_slice (P := P) w t _ _ _ _ hu', hr, Result.andThen_ok, Sem.run_pure]
  rw [e2]
theorem C_formC {Q : Exit → Act → World → Prop} {v : Value} {size : Nat} {l : List (List Value)} {c : Code} (hg : GvR rs v size l) (h : ∀ A cap, v = .slice A l.length cap → l.length ≤ cap → C P Q N B w0 E rs c) : C P Q N B w0 E rs c := by
  intro a w hs
  obtain ⟨A, cap, hv, hc, _⟩ := (hs.reads hg).form
  exact h A cap hv hc a w hs
theorem q_and32 {t t' : TypeId} {x y : Operand} {m : Int} (hx : ev E x = some (.int .u64 m)) (hy : ev E y = some (.int .u64 4294967295)) (h0 : 0 ≤ m) (h1 : m < 4294967296) : Qu P N B w0 E rs ⟨dst, .binOp .and t x y t', ty, pos, aft, gd⟩ (.int .u64 m) := by
  refine q_bin hx hy fun w => ?_
  rw [binOp_and, intBits_and]
  have e : bits .and .u64 m 4294967295 = m := by
    obtain ⟨n, rfl⟩ := Int.eq_ofNat_of_zero_le h0
    have hn : n < 4294967296 := by omega
    have e1 : (BitVec.ofInt 64 (n : Int) &&& BitVec.ofInt 64 4294967295).toNat = n := by
      rw [BitVec.toNat_and]
      have a1 : (BitVec.ofInt 64 (n : Int)).toNat = n := by
        rw [BitVec.ofInt_natCast, BitVec.toNat_ofNat]
        omega
      have a2 : (BitVec.ofInt 64 4294967295).toNat = 2 ^ 32 - 1 := by decide
      rw [a1, a2, Nat.and_two_pow_sub_one_eq_mod]
      omega
    unfold bits
    show IntKind.u64.wrap ((BitVec.ofInt 64 (n : Int) &&& BitVec.ofInt 64 4294967295).toNat) = _
    rw [e1]
    unfold IntKind.wrap
    simp [IntKind.signed, IntKind.bits]
    omega
  rw [e]
  rfl
end
theorem u64_in {m : Int} (h : 0 ≤ m ∧ m ≤ 18446744073709551615) : IntKind.u64.wrap m = m := by
  unfold IntKind.wrap
  simp [IntKind.signed, IntKind.bits]
  omega
theorem wrU {a b : Int} (h : a = b) (h2 : 0 ≤ b ∧ b ≤ 18446744073709551615) : IntKind.u64.wrap a = b := by subst h; exact u64_in h2
theorem shr32 {m : Int} (h : 0 ≤ m ∧ m < 4294967296) : m.fdiv (2 ^ (min (32 : Int).toNat IntKind.u64.bits)) = 0 := by
  have e : (2 : Int) ^ (min (32 : Int).toNat IntKind.u64.bits) = 4294967296 := by decide
  rw [e, Int.fdiv_eq_ediv_of_nonneg _ (by decide)]
  omega
theorem rep_first {α : Type} (c z : α) {n : Nat} : (List.replicate n z).take 0 ++ [c].take 1 ++ (List.replicate n z).drop (0 + 1) = List.replicate 1 c ++ List.replicate (n - 1) z := by
  rw [List.drop_replicate]
  rfl
theorem rep_next {α : Type} (c z : α) {k n q : Nat} (hq : q = min k (n - k)) :
    (List.replicate k c ++ List.replicate (n - k) z).take k ++ ((List.replicate k c ++ List.replicate (n - k) z).take k).take q ++ (List.replicate k c ++ List.replicate (n - k) z).drop (k + q) = List.replicate (k + q) c ++ List.replicate (n - (k + q)) z := by
  have e1 : (List.replicate k c ++ List.replicate (n - k) z).take k = List.replicate k c := by
    rw [List.take_append_of_le_length (by simp), List.take_of_length_le (by simp)]
  have e2 : (List.replicate k c ++ List.replicate (n - k) z).drop (k + q) = List.replicate (n - (k + q)) z := by
    rw [List.drop_append, List.drop_replicate, List.drop_replicate, List.length_replicate, show k - (k + q) = 0 by omega, List.replicate_zero, List.nil_append]
    congr 1
    omega
  rw [e1, e2, List.take_replicate, ← List.replicate_append_replicate (n := k) (m := q)]
  rw [show min q k = q by omega]
theorem rep_mem {k : Nat} {c : List Value} {x : Value} (h : x ∈ (List.replicate k c).flatten) : x ∈ c := by
  obtain ⟨y, hy, hx⟩ := List.mem_flatten.1 h
  rw [List.eq_of_mem_replicate hy] at hx
  exact hx
theorem rep_all {α : Type} (c z : α) {k n : Nat} (h : n ≤ k) (h2 : k ≤ n) : List.replicate k c ++ List.replicate (n - k) z = List.replicate n c := by
  have : k = n := by omega
  subst this
  simp
end Go.Proofs.YthilaakeimfedaaGreatDoor
