/-
  The calculus: a slice that is stored into an own box, and fields of elements of own slices, in a region that draws its order. Conditions: none; no program in sight.
-/
import Derived.Test.YtdmnejfpbbmcaaaShCopy
import Derived.Test.YtdmnejfpbbmcaaaShTreeO
import Derived.Test.YtdmnejfpbbmcaaaShPair
namespace Go.Proofs.Ytdmnejfpbbmcaaa
open Go.RowKit
theorem flat_fld {size o i : Nat} {cs x : List Value} {l : List (List Value)} (h : ∀ x ∈ l, x.length = size) (hx : l[i]? = some x) (ho : o + cs.length ≤ size) :
    (l.set i (lay x o cs)).flatten = l.flatten.take (i * size + o) ++ cs ++ l.flatten.drop (i * size + o + cs.length) ∧ (lay x o cs).length = size := by
  have hi : i < l.length := by
    rcases Nat.lt_or_ge i l.length with h9 | h9
    · exact h9
    · rw [List.getElem?_eq_none h9] at hx; cases hx
  have hxl : x.length = size := h x (List.mem_of_getElem? hx)
  have hll : (lay x o cs).length = size := by
    unfold lay
    simp only [List.length_append, List.length_take, List.length_drop]
    omega
  have e0 : l.set i x = l := by
    refine List.ext_getElem? fun j => ?_
    rw [List.getElem?_set]
    by_cases hj : i = j
    · subst hj; rw [if_pos rfl, if_pos hi, hx]
    · rw [if_neg hj]
  have e1 := flat_put size x hxl l i h hi
  rw [e0] at e1
  have e2 := flat_put size (lay x o cs) hll l i h hi
  refine ⟨?_, hll⟩
  have hfl : l.flatten.length = l.length * size := flat_len l size h
  have hle : i * size + size ≤ l.length * size := by
    have := Nat.mul_le_mul_right size (show i + 1 ≤ l.length from hi)
    rw [Nat.add_mul, Nat.one_mul] at this
    exact this
  rw [e2]
  generalize hA : l.flatten.take (i * size) = A at *
  generalize hD : l.flatten.drop (i * size + size) = D at *
  have hAl : A.length = i * size := by rw [← hA, List.length_take, hfl]; omega
  have t1 : l.flatten.take (i * size + o) = A ++ x.take o := by
    rw [e1, ← hAl, List.append_assoc, List.take_length_add_append, List.take_append_of_le_length (by omega)]
  have t2 : l.flatten.drop (i * size + o + cs.length) = x.drop (o + cs.length) ++ D := by
    rw [e1, ← hAl, Nat.add_assoc, List.append_assoc, List.drop_length_add_append, List.drop_append_of_le_length (by omega)]
  rw [t1, t2]
  unfold lay
  simp only [List.append_assoc]
section
variable {P : Program} (T : Tab P) {Q : Exit → Act → World → Prop} {ops : Array Oper} {N : Fr} {B : Nat} {w0 : World} {E : Env} {rs : List Res} {rest : List Oper} {dst : Option Tmp} {ty : TypeId} {pos : String} {aft : Array Edge}
theorem L_storeFld {t e : TypeId} {ag : Bool} {tz sz bs n i o : Nat} {zs xe : List Value} {x y : Operand} {l : List (List Value)} {cs : List Value} {v u : Value} (ht : lkT T.ty t = some (ag, tz, bs, zs)) (hx : ev E x = some (elP v n)) (hy : ev E y = some u) (hc : u.cells.toList = cs)
    (hl : Nat.beq cs.length tz = true) (h1 : cs.all (·.oneCell') = true) (hxe : l[i]? = some xe) (ho9 : o + tz ≤ sz) (hn : n = i * sz + o) (h : L P ops Q N B w0 E (sl v e sz (l.set i (lay xe o cs)) :: rs) rest) :
    L P ops Q N B w0 E (sl v e sz l :: rs) (⟨none, .store t x y, ty, pos, aft, none⟩ :: rest) := by
  subst hn
  intro a w hs
  refine wpListIn_plain rfl fun K hK => ?_
  have hsz := T.sizeOf ht w
  simp only at hsz
  have hown := hs.has (r := sl v e sz l) List.mem_cons_self
  obtain ⟨ho, hall⟩ := sl_ok.1 hown
  have hl' := Nat.eq_of_beq_eq_true hl
  have hfl : l.flatten.length = l.length * sz := ho.1
  have hi : i < l.length := by
    rcases Nat.lt_or_ge i l.length with h9 | h9
    · exact h9
    · rw [List.getElem?_eq_none h9] at hxe; cases hxe
  obtain ⟨hff, hll⟩ := flat_fld (cs := cs) (o := o) hall hxe (by omega)
  rcases ho.2 with ⟨hv, hn0⟩ | ⟨g, cap, cur, hv, hb, hgg, hc1, hc2, hc3, hc4⟩
  · omega
  have hle : i * sz + sz ≤ l.length * sz := by
    have := Nat.mul_le_mul_right sz (show i + 1 ≤ l.length from hi)
    rw [Nat.add_mul, Nat.one_mul] at this
    exact this
  have hle2 : l.length * sz ≤ cap * sz := Nat.mul_le_mul_right sz hc1
  have hst := run_storeCells_at (P := P) g (i * sz + o) e cs 0 cur w hgg (by rw [hc3]; omega) (by simpa using h1)
  have hvs : u.cells.size = tz := by rw [← hl', ← hc]; simp
  subst hv
  have hx' : a.eval x = .pointer (some (Addr.add ⟨g, 0, none⟩ (i * sz + o))) := hs.eval hx
  have hadd : Addr.add ⟨g, 0, none⟩ (i * sz + o) = ⟨g, i * sz + o, none⟩ := by
    unfold Addr.add
    split
    · next h0 => rw [h0]
    · simp
  rw [hadd] at hx'
  generalize hys : (cur.toList.take (i * sz + o + 0) ++ cs ++ cur.toList.drop (i * sz + o + 0 + cs.length)) = ys at hst
  have hrun : (execOp a.eval ⟨none, .store t x y, ty, pos, aft, none⟩).run P w = .ok .skip (w.setRow g ys.toArray) := by
    simp only [execOp, hx', hs.eval hy, Instr.storeAt, Instr.sureAddr, storeVar, Sem.run_bind, Sem.run_pure, Result.andThen_ok, hsz, hvs, hc]
    simp [hst]
  have hcl : cur.toList.length = cap * sz := by rw [Array.length_toList, hc3]
  have hys2 : ys.length = cap * sz := by
    rw [← hys]
    simp only [List.length_append, List.length_take, List.length_drop, hcl]
    omega
  have htake : ys.take (l.length * sz) = (l.set i (lay xe o cs)).flatten := by
    rw [hff, ← hc4, ← hys]
    rw [Nat.add_zero, List.take_take, List.drop_take, Nat.min_eq_left (by omega), List.take_append, List.take_append]
    simp only [List.length_append, List.length_take, hcl]
    rw [Nat.min_eq_left (by omega), List.take_of_length_le (l := cs) (by omega), List.take_of_length_le (l := List.take (i * sz + o) cur.toList) (by rw [List.length_take]; omega)]
  refine wpIn_quiet hrun (hK _ _ (h _ _ (hs.world ?_)))
  refine hs.ws.turn (sl_own _ _ _ _) (by rw [sl_blk, sl_blk]) (sl_own _ _ _ _) (sl_ok.2 ⟨⟨?_, .inr ⟨g, cap, ys.toArray, by rw [List.length_set], hb, setRow_heap w g cur ys.toArray e (0, 0) hgg, by rw [List.length_set]; exact hc1, hc2, by simpa using hys2, by rw [List.length_set]; exact htake⟩⟩, ?_⟩)
    ⟨rfl, rfl, rfl⟩ (by rw [setRow_size]; exact Nat.le_refl _) (fun k _ hne => setRow_other w g k _ (fun e => hne (by rw [sl_blk, e]; rfl)))
  · rw [List.length_set, ← htake, List.length_take, hys2]
    omega
  · intro z hz
    rcases List.mem_or_eq_of_mem_set hz with h9 | h9
    · exact hall z h9
    · rw [h9]; exact hll
end
end Go.Proofs.Ytdmnejfpbbmcaaa
namespace Go.Proofs.Ytdmnejfpbbmcaaa.Kp
open Go.RowKit
section
variable {P : Program} {ops : Array Oper} {N : Fr} {B : Nat} {w0 : World} {E : Env} {rn ro : List Res} {k d : Nat} {o : Oper} {K : Env → List Res → Prop}
theorem St_storeFld (T : Tab P) {t e : TypeId} {ag : Bool} {tz sz bs n i of : Nat} {zs xe : List Value} {x y : Operand} {l : List (List Value)} {cs : List Value} {v u : Value} {ty : TypeId} {pos : String} {aft : Array Edge} {rest : List Res} (ho : ops[k]? = some o) (hop : o = ⟨none, .store t x y, ty, pos, aft, none⟩) (hp : (sl v e sz l :: rest).Perm rn)
    (ht : lkT T.ty t = some (ag, tz, bs, zs)) (hx : ev E x = some (elP v n)) (hy : ev E y = some u) (hc : u.cells.toList = cs)
    (hl : Nat.beq cs.length tz = true) (h1 : cs.all (·.oneCell') = true) (hxe : l[i]? = some xe) (ho9 : of + tz ≤ sz) (hn : n = i * sz + of) (h : K E (sl v e sz (l.set i (lay xe of cs)) :: rest)) : St P ops N B w0 ro k K E rn := by
  subst hop
  subst hn
  refine ⟨_, ho, rfl, .inr (.inl ⟨sl v e sz (l.set i (lay xe of cs)) :: rest, rfl, fun S a w hBB hs0 => ?_, h⟩)⟩
  have hsc := hs0.perm hp
  have hs := hsc.s
  have hsz := T.sizeOf ht w
  simp only at hsz
  have hown := hs.has (r := sl v e sz l) List.mem_cons_self
  obtain ⟨hok, hall⟩ := sl_ok.1 hown
  have hl' := Nat.eq_of_beq_eq_true hl
  have hfl : l.flatten.length = l.length * sz := hok.1
  have hi : i < l.length := by
    rcases Nat.lt_or_ge i l.length with h9 | h9
    · exact h9
    · rw [List.getElem?_eq_none h9] at hxe; cases hxe
  obtain ⟨hff, hll⟩ := flat_fld (cs := cs) (o := of) hall hxe (by omega)
  rcases hok.2 with ⟨hv, hn0⟩ | ⟨g, cap, cur, hv, hb, hgg, hc1, hc2, hc3, hc4⟩
  · omega
  have hle : i * sz + sz ≤ l.length * sz := by
    have := Nat.mul_le_mul_right sz (show i + 1 ≤ l.length from hi)
    rw [Nat.add_mul, Nat.one_mul] at this
    exact this
  have hle2 : l.length * sz ≤ cap * sz := Nat.mul_le_mul_right sz hc1
  have hst := run_storeCells_at (P := P) g (i * sz + of) e cs 0 cur w hgg (by rw [hc3]; omega) (by simpa using h1)
  have hvs : u.cells.size = tz := by rw [← hl', ← hc]; simp
  subst hv
  have hx' : a.eval x = .pointer (some (Addr.add ⟨g, 0, none⟩ (i * sz + of))) := hs.eval hx
  have hadd : Addr.add ⟨g, 0, none⟩ (i * sz + of) = ⟨g, i * sz + of, none⟩ := by
    unfold Addr.add
    split
    · next h0 => rw [h0]
    · simp
  rw [hadd] at hx'
  generalize hys : (cur.toList.take (i * sz + of + 0) ++ cs ++ cur.toList.drop (i * sz + of + 0 + cs.length)) = ys at hst
  have hrun : (execOp a.eval ⟨none, .store t x y, ty, pos, aft, none⟩).run P w = .ok .skip (w.setRow g ys.toArray) := by
    simp only [execOp, hx', hs.eval hy, Instr.storeAt, Instr.sureAddr, storeVar, Sem.run_bind, Sem.run_pure, Result.andThen_ok, hsz, hvs, hc]
    simp [hst]
  have hcl : cur.toList.length = cap * sz := by rw [Array.length_toList, hc3]
  have hys2 : ys.length = cap * sz := by
    rw [← hys]
    simp only [List.length_append, List.length_take, List.length_drop, hcl]
    omega
  have htake : ys.take (l.length * sz) = (l.set i (lay xe of cs)).flatten := by
    rw [hff, ← hc4, ← hys]
    rw [Nat.add_zero, List.take_take, List.drop_take, Nat.min_eq_left (by omega), List.take_append, List.take_append]
    simp only [List.length_append, List.length_take, hcl]
    rw [Nat.min_eq_left (by omega), List.take_of_length_le (l := cs) (by omega), List.take_of_length_le (l := List.take (i * sz + of) cur.toList) (by rw [List.length_take]; omega)]
  have hg0 : ¬ S g := hsc.n _ List.mem_cons_self g (by rw [sl_blk]; rfl)
  refine ⟨w.setRow g ys.toArray, hrun, ⟨rfl, rfl, rfl, by rw [setRow_size]; exact Nat.le_refl _, fun k hk => setRow_other w g k _ (fun e => hg0 (e ▸ hk))⟩, ?_⟩
  refine ⟨hs.world (hs.ws.turn (sl_own _ _ _ _) (by rw [sl_blk, sl_blk]) (sl_own _ _ _ _) (sl_ok.2 ⟨⟨?_, .inr ⟨g, cap, ys.toArray, by rw [List.length_set], hb, setRow_heap w g cur ys.toArray e (0, 0) hgg, by rw [List.length_set]; exact hc1, hc2, by simpa using hys2, by rw [List.length_set]; exact htake⟩⟩, ?_⟩)
    ⟨rfl, rfl, rfl⟩ (by rw [setRow_size]; exact Nat.le_refl _) (fun k _ hne => setRow_other w g k _ (fun e => hne (by rw [sl_blk, e]; rfl)))), fun k hk => by rw [setRow_size]; exact hsc.b k hk, hsc.o, fun r hr k hk => ?_⟩
  · rw [List.length_set, ← htake, List.length_take, hys2]
    omega
  · intro z hz
    rcases List.mem_or_eq_of_mem_set hz with h9 | h9
    · exact hall z h9
    · rw [h9]; exact hll
  · rcases List.mem_cons.1 hr with rfl | hr
    · rw [sl_blk] at hk
      have hk2 : some g = some k := hk
      injection hk2 with hk2
      rw [← hk2]
      exact hg0
    · exact hsc.n r (List.mem_cons_of_mem _ hr) k hk
theorem C_treeOS {ι : Type} {id : Nat} {lo : List Oper} {Q : Exit → Act → World → Prop} {v : Value} {e sz : Nat} {l : List (List Value)} (tr : Tre) (J : ι → Env × List Res) (hm : P.follows .mixedOrders = true) (hsel : Region.noSelect lo.toArray = true) (hn : tr.dep = lo.toArray.size) (hB : flowT .any lo.toArray tr (Array.replicate lo.toArray.size false) = true)
    (h : Z P lo.toArray N B w0 (fun E' rs' => ∃ i, ∀ a w, Sat N B w0 E' rs' a w → Sat N B w0 (J i).1 (J i).2 a w) ro tr E [sl v e sz l]) (hc : ∀ i, L P lo.toArray Q N B w0 (J i).1 (J i).2 []) : C P Q N B w0 E (sl v e sz l :: ro) (.region id lo.toArray true) :=
  C_treeO (pre := [sl v e sz l]) tr J hm hsel hn hB (by intro r hr; rw [List.mem_singleton.1 hr]; exact sl_own _ _ _ _) h hc
end
end Go.Proofs.Ytdmnejfpbbmcaaa.Kp
