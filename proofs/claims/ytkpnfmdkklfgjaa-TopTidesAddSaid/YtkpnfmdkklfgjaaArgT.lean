/-
  What a table of tides reads as. Conditions: those in front of each theorem.
-/
import Derived.Test.YtkpnfmdkklfgjaaArgP
import Derived.Test.YtkpnfmdkklfgjaaTd
namespace Go.Proofs.Ytkpnfmdkklfgjaa
open Go.RowKit Go.ChangeShapes Go.WideShapes Go.Deep
section
variable {P : Program} {W : World} {t e : TypeId}
theorem opn_wv (h : IT P t 3) : Opn P W t (fun cs => ∃ c : Wv, (i64 c.h ∧ i64 c.p ∧ i64 c.f) ∧ cs = cWv c) := (h W).mono fun cs ⟨xs, hl, hq, hc⟩ => by
  match xs, hl with
  | [a, b, c], _ => exact ⟨⟨a, b, c⟩, ⟨hq a (by simp), hq b (by simp), hq c (by simp)⟩, hc⟩
theorem opn_wvs (ht : P.underlying t = some (.slice e)) (hk : P.cellsOf e = 3) (h : IT P e 3) : Opn P W t (fun cs => ∃ (v : Value) (ls : List Wv), cs = [v] ∧ Rdd W v 3 (ls.map cWv) ∧ ∀ c ∈ ls, i64 c.h ∧ i64 c.p ∧ i64 c.f) := opn_list cWv ht hk (by decide) (opn_wv h)
theorem opn_td {tI tW : TypeId} (hfs : fsC P t = some [(0, 1, tI), (1, 1, tW)]) (hC : P.cellsOf t = 2) (hI : P.underlying tI = some (.int .i64)) (hW : Opn P W tW (fun cs => ∃ (v : Value) (ls : List Wv), cs = [v] ∧ Rdd W v 3 (ls.map cWv) ∧ ∀ c ∈ ls, i64 c.h ∧ i64 c.p ∧ i64 c.f)) :
    Opn P W t (fun cs => ∃ (me : Int) (v : Value) (ws : List Wv), cs = [.int .i64 me, v] ∧ Rdd W v 3 (ws.map cWv)) :=
  ((opn_len hfs).and ((opn_field hfs (o := 0) (k := 1) (by simp) (opn_int hI)).and (opn_field hfs (o := 1) (k := 1) (by simp) hW))).mono
    fun cs ⟨hl, ⟨me, _, h2⟩, v, ws, h3, h4, _⟩ => by
      rw [hC] at hl
      match cs, hl with
      | [a, b], _ =>
        simp only [List.drop_zero, List.drop_succ_cons, List.take_succ_cons, List.take_zero, List.cons.injEq, and_true] at h2 h3
        subst h2; subst h3
        exact ⟨me, _, ws, rfl, h4⟩
end
end Go.Proofs.Ytkpnfmdkklfgjaa
