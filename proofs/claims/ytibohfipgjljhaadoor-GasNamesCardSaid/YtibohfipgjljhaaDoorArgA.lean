/-
  What the arguments of chapter 1 read as: limits, a gas with limits at a surface, parts of a mixture. Conditions: those in front of each theorem.
-/
import Derived.Test.YtibohfipgjljhaaDoorArgP
import Derived.Test.YtibohfipgjljhaaDoorGb
namespace Go.Proofs.YtibohfipgjljhaaDoor
open Go.RowKit
variable {P : Program} {W : World} {t e : TypeId}
theorem opn_air (h : IT P t 5) : Opn P W t (fun cs => ∃ (g : Gs) (su lo hi : Int), (i64 g.o ∧ i64 g.h ∧ i64 su ∧ i64 lo ∧ i64 hi) ∧ cs = cAr g su lo hi) := (h W).mono fun cs ⟨xs, hl, hq, hc⟩ => by
  match xs, hl with
  | [a, b, c, d, f], _ => exact ⟨⟨a, b⟩, c, d, f, ⟨hq a (by simp), hq b (by simp), hq c (by simp), hq d (by simp), hq f (by simp)⟩, hc⟩
theorem opn_gp (h : IT P t 3) : Opn P W t (fun cs => ∃ c : Gp, (i64 c.o ∧ i64 c.h ∧ i64 c.a) ∧ cs = cGp c) := (h W).mono fun cs ⟨xs, hl, hq, hc⟩ => by
  match xs, hl with
  | [a, b, c], _ => exact ⟨⟨a, b, c⟩, ⟨hq a (by simp), hq b (by simp), hq c (by simp)⟩, hc⟩
theorem opn_gps (ht : P.underlying t = some (.slice e)) (hk : P.cellsOf e = 3) (h : IT P e 3) : Opn P W t (fun cs => ∃ (v : Value) (ls : List Gp), cs = [v] ∧ Rdd W v 3 (ls.map cGp) ∧ ∀ c ∈ ls, i64 c.o ∧ i64 c.h ∧ i64 c.a) := opn_list cGp ht hk (by decide) (opn_gp h)
end Go.Proofs.YtibohfipgjljhaaDoor
