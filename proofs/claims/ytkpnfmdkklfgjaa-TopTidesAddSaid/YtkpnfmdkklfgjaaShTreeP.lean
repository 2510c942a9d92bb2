/-
  The calculus: a slice that is stored into an own box, in a region that draws its order. Conditions: none; no program in sight.
-/
import Derived.Test.YtkpnfmdkklfgjaaShTreeO
import Derived.Test.YtkpnfmdkklfgjaaShCut
namespace Go.Proofs.Ytkpnfmdkklfgjaa.Kp
open Go.RowKit
section
variable {P : Program} {ops : Array Oper} {N : Fr} {B : Nat} {w0 : World} {E : Env} {rn ro : List Res} {k d : Nat} {o : Oper} {K : Env → List Res → Prop}
theorem St_storeV (T : Tab P) {u bt : TypeId} {ag : Bool} {bs : Nat} {zs : List Value} {x y : Operand} {g of size : Nat} {xs ys : List Value} {v : Value} {l : List (List Value)} {ty : TypeId} {pos : String} {aft : Array Edge} {rest : List Res} (ho : ops[k]? = some o) (hop : o = ⟨none, .store u x y, ty, pos, aft, none⟩) (hp : (box g bt xs :: rest).Perm rn)
    (ht : lkT T.ty u = some (ag, 1, bs, zs)) (hx : ev E x = some (.pointer (some ⟨g, of, none⟩))) (hy : ev E y = some v) (hgv : GvR (rn ++ ro) v size l)
    (hb : Nat.ble (of + 1) xs.length = true) (hz : lay xs of [v] = ys) (h : K E (box g bt ys :: rest)) : St P ops N B w0 ro k K E rn := by
  subst hop
  refine ⟨_, ho, rfl, .inr (.inl ⟨box g bt ys :: rest, rfl, fun S a w hBB hs0 => ?_, h⟩)⟩
  have hs := hs0.perm hp
  have hsz := T.sizeOf ht w
  simp only at hsz
  have hbox := hs.s.has (r := box g bt xs) List.mem_cons_self
  have hb' : of + 1 ≤ xs.length := Nat.ble_eq.mp hb
  obtain ⟨A, cap, hv, _⟩ := GvR.form hs0.s.ws hgv
  have hc : v.cells.toList = [v] := by rw [hv]; rfl
  have h1 : [v].all (·.oneCell') = true := by rw [hv]; rfl
  have hst := run_storeCells_at (P := P) g of bt [v] 0 xs.toArray w (box_ok.1 hbox).2 (by simpa using hb') (by simpa using h1)
  have hlay : (xs.toArray.toList.take (of + 0) ++ [v] ++ xs.toArray.toList.drop (of + 0 + 1)) = ys := by rw [← hz]; simp [lay]
  simp only [List.length_cons, List.length_nil, Nat.zero_add] at hst
  rw [hlay] at hst
  have hvs : v.cells.size = 1 := by rw [← Array.length_toList, hc]; rfl
  have hg0 : ¬ S g := hs.n _ List.mem_cons_self g (box_blk _ _ _)
  refine ⟨w.setRow g ys.toArray, ?_, ⟨rfl, rfl, rfl, by rw [setRow_size]; exact Nat.le_refl _, fun k hk => setRow_other w g k _ (fun e => hg0 (e ▸ hk))⟩, ?_⟩
  · simp only [execOp, hs.s.eval hx, hs.s.eval hy, Instr.storeAt, Instr.sureAddr, storeVar, Sem.run_bind, Sem.run_pure, Result.andThen_ok, hsz, hvs, hc]
    simp [hst]
  · refine ⟨hs.s.world (hs.s.ws.turn (box_own _ _ _) (by rw [box_blk, box_blk]) (box_own _ _ _) (box_setRow hbox) ⟨rfl, rfl, rfl⟩ (by rw [setRow_size]; exact Nat.le_refl _) (fun k _ hne => setRow_other w g k _ (fun e => hne (by rw [box_blk, e])))), fun k hk => by rw [setRow_size]; exact hs.b k hk, hs.o, fun r hr k hk => ?_⟩
    rcases List.mem_cons.1 hr with rfl | hr
    · rw [box_blk] at hk
      injection hk with hk
      rw [← hk]
      exact hg0
    · exact hs.n r (List.mem_cons_of_mem _ hr) k hk
end
end Go.Proofs.Ytkpnfmdkklfgjaa.Kp
