/-
  What a listed package variable that holds the named gases gives a walk. Conditions: those in front of each theorem; no program in sight.
-/
import Derived.Test.YtibohfipgjljhaaDoorKT
import Derived.LaidMore
import Derived.Laws.IdiomMaps
import Derived.Laws.IdiomElems
import Derived.MakeChecks
namespace Go.Proofs.YtibohfipgjljhaaDoor
open Go.ChangeShapes Go.WideShapes Go.ChangeMaps Go.WideMaps Go.WideElems Go.MapKept Go.RowKit

theorem laid_mem {P : Program} {w : World} : ∀ {l : List (String × DataW Unit)} {ps : List MemPlace}, DataW.LaidVars P w l ps → ∀ {i : Nat} {n : String} {d : DataW Unit}, l[i]? = some (n, d) →
    ∃ g t cs fuel p, P.globalNamed n = some g ∧ (P.globals[g]?).map (·.type) = some t ∧ w.var? P n = some cs ∧ DataW.trod (fun _ => ()) P w 0 (fun _ => true) false fuel t cs.toList = some (d, p)
  | [], _, _, i, n, d, h => by simp at h
  | (n0, d0) :: r, ps, hl, i, n, d, h => by
    obtain ⟨g, t, cs, fuel, p, q, h1, h2, h3, h4, h5, _⟩ := hl
    cases i with
    | zero =>
      simp only [List.getElem?_cons_zero, Option.some.injEq, Prod.mk.injEq] at h
      obtain ⟨rfl, rfl⟩ := h
      exact ⟨g, t, cs, fuel, p, h1, h2, h3, h4⟩
    | succ i => exact laid_mem h5 (by simpa using h)
abbrev gsD (o h : Int) : DataW Unit := .agg [.lit (.int .i64 o), .lit (.int .i64 h)]
def knD : List (Lit × DataW Unit) := [(.string [97, 105, 114], gsD 210 0), (.string [104, 101, 108, 105, 117, 109], gsD 0 1000), (.string [111, 120, 121, 103, 101, 110], gsD 1000 0)]
theorem ba_eq {s : ByteArray} {l : List UInt8} (h : s.data.toList = l) : s = ⟨l.toArray⟩ := by
  apply ByteArray.ext
  apply Array.toList_inj.1
  simpa using h
theorem knD_cases {p : Lit × DataW Unit} (h : p ∈ knD) : ∃ b o g, (b, gsV o g) ∈ knL ∧ p = (.string b.data.toList, gsD o g) ∧ b.size ≤ maxLen := by
  unfold knD at h
  simp only [List.mem_cons, List.not_mem_nil, or_false] at h
  rcases h with rfl | rfl | rfl
  · exact ⟨⟨#[97, 105, 114]⟩, 210, 0, by simp [knL], rfl, by decide⟩
  · exact ⟨⟨#[104, 101, 108, 105, 117, 109]⟩, 0, 1000, by simp [knL], rfl, by decide⟩
  · exact ⟨⟨#[111, 120, 121, 103, 101, 110]⟩, 1000, 0, by simp [knL], rfl, by decide⟩
theorem knL_cases {p : ByteArray × Value} (h : p ∈ knL) : ∃ o g, p.2 = gsV o g ∧ (.string p.1.data.toList, gsD o g) ∈ knD ∧ p.1.size ≤ maxLen := by
  unfold knL at h
  simp only [List.mem_cons, List.not_mem_nil, or_false] at h
  rcases h with rfl | rfl | rfl
  · exact ⟨210, 0, rfl, by simp [knD], by decide⟩
  · exact ⟨0, 1000, rfl, by simp [knD], by decide⟩
  · exact ⟨1000, 0, rfl, by simp [knD], by decide⟩
theorem lookV_miss {s : ByteArray} (h : ∀ zd : DataW Unit, (DataW.map knD).atKey (.string s.data.toList) zd = zd) : lookV knL knZ s = .tuple #[knZ, .bool false] := by
  have h1 := h .nil
  unfold DataW.atKey knD at h1
  simp only [List.find?, Lit.sameKey] at h1
  unfold lookV knL
  simp only [List.find?]
  split at h1
  · rename_i p hp
    exfalso
    revert hp
    split
    · intro hp; cases hp; cases h1
    · split
      · intro hp; cases hp; cases h1
      · split
        · intro hp; cases hp; cases h1
        · intro hp; cases hp
  · rename_i hp
    revert hp
    split
    · intro hp; cases hp
    · rename_i e1
      split
      · intro hp; cases hp
      · rename_i e2
        split
        · intro hp; cases hp
        · rename_i e3
          intro _
          rfl
theorem lookV_hit {s : ByteArray} {o g : Int} (h : ∀ zd : DataW Unit, (DataW.map knD).atKey (.string s.data.toList) zd = gsD o g) : lookV knL knZ s = .tuple #[gsV o g, .bool true] := by
  have h1 := h .nil
  unfold DataW.atKey knD at h1
  simp only [List.find?, Lit.sameKey] at h1
  unfold lookV knL
  simp only [List.find?]
  split at h1
  · rename_i p hp
    revert hp
    split
    · rename_i e1; intro hp; cases hp; cases h1; rfl
    · rename_i e1
      split
      · rename_i e2; intro hp; cases hp; cases h1; rfl
      · rename_i e2
        split
        · rename_i e3; intro hp; cases hp; cases h1; rfl
        · intro hp; cases hp
  · cases h1
section
variable {P : Program} {W : World} {n : String} {gk mt kt et : Nat} {f0 f1 : Field} {cs : Array Value} {fuel : Nat} {p : List MemPlace}
theorem kn_of (hg : P.globalNamed n = some gk) (hv : W.var? P n = some cs) (hm : P.underlying mt = some (.map kt et)) (hk : P.underlying kt = some .string) (he : P.underlying et = some (.struct #[f0, f1])) (o0 : f0.offset = 0) (o1 : f1.offset = 1) (h0 : P.underlying f0.type = some (.int .i64)) (h1 : P.underlying f1.type = some (.int .i64))
    (c0 : P.cellsOf f0.type = 1) (c1 : P.cellsOf f1.type = 1) (ce : P.cellsOf et = 2) (hz : ∀ w, (zeroValue et).run P w = .ok knZ w) (hd : DataW.trod (fun _ => ()) P W 0 (fun _ => true) false fuel mt cs.toList = some (.map knD, p)) : KnW P gk mt knL knZ W := by
  have K : KeyLaw P kt := string_law hk
  rcases open_map hm hd with ⟨_, hx⟩ | ⟨bm, es, clock, m, rfl, hcs, hb, _, F, hx⟩
  · simp at hx
  simp only [Prod.mk.injEq, DataW.map.injEq] at hx
  have hst := (stamped_iff es clock).1 F.stamped
  have hperm := sorted_perm (es.toList.map (rg P kt (elemAt (fun _ => ()) P W 0 (fun _ => true) false m et)))
  rw [← hx.1] at hperm
  have hone : ∀ e ∈ es.toList, ∃ b o g, (b, gsV o g) ∈ knL ∧ e.key = .string b ∧ e.val = gsV o g ∧ rg P kt (elemAt (fun _ => ()) P W 0 (fun _ => true) false m et) e = (.string b.data.toList, gsD o g) := fun e hm9 => by
    obtain ⟨y, hy⟩ := F.reads e hm9
    have hr := rg_of hy
    have hin : y ∈ knD := hperm.mem_iff.2 (List.mem_map.2 ⟨e, hm9, hr⟩)
    obtain ⟨b, o, g, hbL, rfl, hsz⟩ := knD_cases hin
    have hkey := rd_key hy
    obtain ⟨z, hz9, hzz⟩ := rd_val hy
    obtain ⟨a, c, hva, rfl, _, _⟩ := elemAt_pair he o0 o1 h0 h1 c0 c1 ce hz9
    refine ⟨b, o, g, hbL, K.inj hkey (keyOf_string_mk hk hsz), ?_, hr⟩
    simp only [DataW.agg.injEq, List.cons.injEq, DataW.lit.injEq, Lit.int.injEq, true_and, and_true] at hzz
    obtain ⟨e1, e2⟩ := hzz
    rw [hva, e1, e2]
  have hcell : W.cell? ⟨gk, 0, none⟩ = some (.map (some bm)) := by
    have := World.var?_cell hg hv 0
    rw [Array.eq_one_of_toList hcs] at this
    simpa using this
  refine ⟨bm, es, clock, hcell, hb, ⟨hst.1, hst.2.1, fun e hm9 => ?_, fun q hq => ?_⟩, fun w' hb' s hs => ?_⟩
  · obtain ⟨b, o, g, hbL, hk9, hv9, _⟩ := hone e hm9
    exact ⟨_, hbL, hk9, hv9⟩
  · obtain ⟨o, g, hq2, hqD, hsz⟩ := knL_cases hq
    obtain ⟨e, hm9, hr⟩ := List.mem_map.1 (hperm.mem_iff.1 hqD)
    obtain ⟨b, o', g', _, hk9, hv9, hr'⟩ := hone e hm9
    rw [hr'] at hr
    simp only [Prod.mk.injEq, Lit.string.injEq, DataW.agg.injEq, List.cons.injEq, DataW.lit.injEq, Lit.int.injEq, true_and, and_true] at hr
    obtain ⟨e1, e2, e3⟩ := hr
    refine ⟨e, hm9, ?_, by rw [hv9, hq2, e2, e3]⟩
    rw [hk9, ba_eq e1]
  · rcases fit_lookup_ok (w := w') K hm (hz w') hb' F (keyOf_string_mk (s := s) hk hs) with ⟨hrun, hat⟩ | ⟨v, y, hrun, hRv, hat, _⟩
    · rw [← hx.1] at hat
      rw [hrun, lookV_miss hat]
    · rw [← hx.1] at hat
      obtain ⟨a, c, rfl, rfl, _, _⟩ := elemAt_pair he o0 o1 h0 h1 c0 c1 ce hRv
      rw [hrun, lookV_hit hat]
end
end Go.Proofs.YtibohfipgjljhaaDoor
