/-
  DERIVED. GIVEN WITH THE SEED: THE PROGRAM's TIES (one call each: nine closed facts by the kernel) AND EACH ROW's TIE, after the 31st guide's Derived/Test/Toyas{Tie, Card}.lean. No idea stands in it: it is a product of the set-up. Laid BY PROGRAM, IN A SANDBOX (cutbox-door.mjs). By AI agents, Wed Nov 11 2026. No macro, syntax, notation, axiom, sorry.
-/
import Derived.Test.YtibohfipgjljhaaDoorRows
import Derived.LaidByTextLater
import Derived.SevenTiedAt
import Derived.LaidSub
import Derived.LaidOnce
namespace Go.Proofs.YtibohfipgjljhaaDoor
open Go
set_option maxRecDepth 100000
theorem seatTie1 : Tryd.prog.laidByTextLater [("math/bits.deBruijn32tab", Rows.laid_math_bits_deBruijn32tab), ("math/bits.deBruijn64tab", Rows.laid_math_bits_deBruijn64tab), ("internal/strconv.uint64pow10", Rows.laid_internal_strconv_uint64pow10), ("strconv.ErrRange", Rows.laid_strconv_ErrRange), ("strconv.ErrSyntax", Rows.laid_strconv_ErrSyntax), ("shotline/gas.known", Rows.laid_shotline_gas_known)] [.data, .data, .data, .sentinel, .sentinel, .mapped] true :=
  Program.laidByTextLater_by_one 85 8 65 (by kernel_rfl) (by kernel_rfl) (by kernel_rfl) (by kernel_rfl) (by kernel_rfl) (by kernel_rfl) (fun _ _ => by kernel_rfl)
theorem noOwnUnsafe : Tryd.pinned.checked.prog.headLifts.contains "ownunsafe" = false := by kernel_rfl
theorem tie : Tryd.prog.laidByTextLater [("math/bits.deBruijn32tab", Rows.laid_math_bits_deBruijn32tab), ("math/bits.deBruijn64tab", Rows.laid_math_bits_deBruijn64tab), ("internal/strconv.uint64pow10", Rows.laid_internal_strconv_uint64pow10), ("strconv.ErrRange", Rows.laid_strconv_ErrRange), ("strconv.ErrSyntax", Rows.laid_strconv_ErrSyntax), ("shotline/gas.known", Rows.laid_shotline_gas_known)] [.data, .data, .data, .sentinel, .sentinel, .mapped] true :=
  Program.laidByTextLater.sub seatTie1 ["math/bits.deBruijn32tab", "math/bits.deBruijn64tab", "internal/strconv.uint64pow10", "strconv.ErrRange", "strconv.ErrSyntax", "shotline/gas.known"] (by kernel_rfl) (by kernel_rfl)
theorem gasDepths_row_tie : Rows.gasDepthsRow.laidByTextAt .later Tryd.pinned [.data, .data, .data, .sentinel, .sentinel, .mapped] true :=
  OpenClaim.laidByTextAt_later rfl rfl tie noOwnUnsafe
theorem gasBest_row_tie : Rows.gasBestRow.laidByTextAt .later Tryd.pinned [.data, .data, .data, .sentinel, .sentinel, .mapped] true :=
  OpenClaim.laidByTextAt_later rfl rfl tie noOwnUnsafe
theorem gasBetween_row_tie : Rows.gasBetweenRow.laidByTextAt .later Tryd.pinned [.data, .data, .data, .sentinel, .sentinel, .mapped] true :=
  OpenClaim.laidByTextAt_later rfl rfl tie noOwnUnsafe
theorem gasMixes_row_tie : Rows.gasMixesRow.laidByTextAt .later Tryd.pinned [.data, .data, .data, .sentinel, .sentinel, .mapped] true :=
  OpenClaim.laidByTextAt_later rfl rfl tie noOwnUnsafe
theorem gasEdges_row_tie : Rows.gasEdgesRow.laidByTextAt .later Tryd.pinned [.data, .data, .data, .sentinel, .sentinel, .mapped] true :=
  OpenClaim.laidByTextAt_later rfl rfl tie noOwnUnsafe
theorem gasNames_row_tie : Rows.gasNamesRow.laidByTextAt .later Tryd.pinned [.data, .data, .data, .sentinel, .sentinel, .mapped] true :=
  OpenClaim.laidByTextAt_later rfl rfl tie noOwnUnsafe
theorem gasHolds_row_tie : Rows.gasHoldsRow.laidByTextAt .later Tryd.pinned [.data, .data, .data, .sentinel, .sentinel, .mapped] true :=
  OpenClaim.laidByTextAt_later rfl rfl tie noOwnUnsafe
theorem gasEquals_row_tie : Rows.gasEqualsRow.laidByTextAt .later Tryd.pinned [.data, .data, .data, .sentinel, .sentinel, .mapped] true :=
  OpenClaim.laidByTextAt_later rfl rfl tie noOwnUnsafe
theorem gasPressures_row_tie : Rows.gasPressuresRow.laidByTextAt .later Tryd.pinned [.data, .data, .data, .sentinel, .sentinel, .mapped] true :=
  OpenClaim.laidByTextAt_later rfl rfl tie noOwnUnsafe
theorem gasWeights_row_tie : Rows.gasWeightsRow.laidByTextAt .later Tryd.pinned [.data, .data, .data, .sentinel, .sentinel, .mapped] true :=
  OpenClaim.laidByTextAt_later rfl rfl tie noOwnUnsafe
theorem gasSame_row_tie : Rows.gasSameRow.laidByTextAt .later Tryd.pinned [.data, .data, .data, .sentinel, .sentinel, .mapped] true :=
  OpenClaim.laidByTextAt_later rfl rfl tie noOwnUnsafe
theorem gasBetter_row_tie : Rows.gasBetterRow.laidByTextAt .later Tryd.pinned [.data, .data, .data, .sentinel, .sentinel, .mapped] true :=
  OpenClaim.laidByTextAt_later rfl rfl tie noOwnUnsafe
theorem gasRichest_row_tie : Rows.gasRichestRow.laidByTextAt .later Tryd.pinned [.data, .data, .data, .sentinel, .sentinel, .mapped] true :=
  OpenClaim.laidByTextAt_later rfl rfl tie noOwnUnsafe
theorem gasGaps_row_tie : Rows.gasGapsRow.laidByTextAt .later Tryd.pinned [.data, .data, .data, .sentinel, .sentinel, .mapped] true :=
  OpenClaim.laidByTextAt_later rfl rfl tie noOwnUnsafe
theorem topGasesAddUp_row_tie : Rows.topGasesAddUpRow.laidByTextAt .later Tryd.pinned [.data, .data, .data, .sentinel, .sentinel, .mapped] true :=
  OpenClaim.laidByTextAt_later rfl rfl tie noOwnUnsafe
theorem gasDepthsUpto_row_tie : Rows.gasDepthsUptoRow.laidByTextAt .later Tryd.pinned [.data, .data, .data, .sentinel, .sentinel, .mapped] true :=
  OpenClaim.laidByTextAt_later rfl rfl tie noOwnUnsafe
theorem gasBestUpto_row_tie : Rows.gasBestUptoRow.laidByTextAt .later Tryd.pinned [.data, .data, .data, .sentinel, .sentinel, .mapped] true :=
  OpenClaim.laidByTextAt_later rfl rfl tie noOwnUnsafe
theorem gasBetweenUpto_row_tie : Rows.gasBetweenUptoRow.laidByTextAt .later Tryd.pinned [.data, .data, .data, .sentinel, .sentinel, .mapped] true :=
  OpenClaim.laidByTextAt_later rfl rfl tie noOwnUnsafe
theorem gasMixesUpto_row_tie : Rows.gasMixesUptoRow.laidByTextAt .later Tryd.pinned [.data, .data, .data, .sentinel, .sentinel, .mapped] true :=
  OpenClaim.laidByTextAt_later rfl rfl tie noOwnUnsafe
theorem gasEdgesUpto_row_tie : Rows.gasEdgesUptoRow.laidByTextAt .later Tryd.pinned [.data, .data, .data, .sentinel, .sentinel, .mapped] true :=
  OpenClaim.laidByTextAt_later rfl rfl tie noOwnUnsafe
theorem gasNamesUpto_row_tie : Rows.gasNamesUptoRow.laidByTextAt .later Tryd.pinned [.data, .data, .data, .sentinel, .sentinel, .mapped] true :=
  OpenClaim.laidByTextAt_later rfl rfl tie noOwnUnsafe
theorem gasHoldsUpto_row_tie : Rows.gasHoldsUptoRow.laidByTextAt .later Tryd.pinned [.data, .data, .data, .sentinel, .sentinel, .mapped] true :=
  OpenClaim.laidByTextAt_later rfl rfl tie noOwnUnsafe
theorem gasEqualsUpto_row_tie : Rows.gasEqualsUptoRow.laidByTextAt .later Tryd.pinned [.data, .data, .data, .sentinel, .sentinel, .mapped] true :=
  OpenClaim.laidByTextAt_later rfl rfl tie noOwnUnsafe
theorem gasPressuresUpto_row_tie : Rows.gasPressuresUptoRow.laidByTextAt .later Tryd.pinned [.data, .data, .data, .sentinel, .sentinel, .mapped] true :=
  OpenClaim.laidByTextAt_later rfl rfl tie noOwnUnsafe
theorem gasWeightsUpto_row_tie : Rows.gasWeightsUptoRow.laidByTextAt .later Tryd.pinned [.data, .data, .data, .sentinel, .sentinel, .mapped] true :=
  OpenClaim.laidByTextAt_later rfl rfl tie noOwnUnsafe
theorem gasSameUpto_row_tie : Rows.gasSameUptoRow.laidByTextAt .later Tryd.pinned [.data, .data, .data, .sentinel, .sentinel, .mapped] true :=
  OpenClaim.laidByTextAt_later rfl rfl tie noOwnUnsafe
theorem gasBetterUpto_row_tie : Rows.gasBetterUptoRow.laidByTextAt .later Tryd.pinned [.data, .data, .data, .sentinel, .sentinel, .mapped] true :=
  OpenClaim.laidByTextAt_later rfl rfl tie noOwnUnsafe
theorem gasRichestUpto_row_tie : Rows.gasRichestUptoRow.laidByTextAt .later Tryd.pinned [.data, .data, .data, .sentinel, .sentinel, .mapped] true :=
  OpenClaim.laidByTextAt_later rfl rfl tie noOwnUnsafe
theorem gasGapsUpto_row_tie : Rows.gasGapsUptoRow.laidByTextAt .later Tryd.pinned [.data, .data, .data, .sentinel, .sentinel, .mapped] true :=
  OpenClaim.laidByTextAt_later rfl rfl tie noOwnUnsafe
theorem topGasesAddUpUpto_row_tie : Rows.topGasesAddUpUptoRow.laidByTextAt .later Tryd.pinned [.data, .data, .data, .sentinel, .sentinel, .mapped] true :=
  OpenClaim.laidByTextAt_later rfl rfl tie noOwnUnsafe
end Go.Proofs.YtibohfipgjljhaaDoor
