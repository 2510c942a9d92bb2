/-
  What an aim of chapter 1 reads as. Conditions: those in front of each theorem.
-/
import Derived.Test.YtibohfipgjljhaaDoorArgP
import Derived.Test.YtibohfipgjljhaaDoorGn
namespace Go.Proofs.YtibohfipgjljhaaDoor
open Go.RowKit
variable {P : Program} {W : World} {t : TypeId}
theorem opn_aim (h : IT P t 5) : Opn P W t (fun cs => ∃ a : Aim, (i64 a.su ∧ i64 a.de ∧ i64 a.le ∧ i64 a.mo ∧ i64 a.na) ∧ cs = cAi a) := (h W).mono fun cs ⟨xs, hl, hq, hc⟩ => by
  match xs, hl with
  | [a, b, c, d, e], _ => exact ⟨⟨a, b, c, d, e⟩, ⟨hq a (by simp), hq b (by simp), hq c (by simp), hq d (by simp), hq e (by simp)⟩, hc⟩
end Go.Proofs.YtibohfipgjljhaaDoor
