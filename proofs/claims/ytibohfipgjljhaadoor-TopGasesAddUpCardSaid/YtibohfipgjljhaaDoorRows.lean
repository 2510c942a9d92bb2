/-
  NARROWER THAN 'FOR EVERY INPUT', by the rows' own cells (each row's printed sentence says how): GasDepths: laid · GasBest: laid · GasBetween: laid · GasMixes: laid · GasEdges: laid · GasNames: laid · GasHolds: laid · GasEquals: laid · GasPressures: laid · GasWeights: laid · GasSame: laid · GasBetter: laid · GasRichest: laid · GasGaps: laid · TopGasesAddUp: laid.
  DERIVED. THE GIVEN ROWS OF THIS SEAT. 15 by the template 'for every input the law returns true; each argument reads behind the call as it read before'; 0 by the template 'total and deterministic' (their statements: YtibohfipgjljhaaDoorTotals.lean).
  GIVEN WITH THE SEED: the statements are not yours to turn. If you find one false, say at which input.
  Laid BY PROGRAM, IN A SANDBOX (cutbox-rows.mjs): the forced cells as the released guide's own fill.sh prints them over the translation b5361398645fcd50… (all of the seat's roots in one cut). By AI agents, Wed Nov 11 2026. No macro, syntax, notation, axiom, sorry.
-/
import Derived.Test.YtibohfipgjljhaaDoorChecked
import GoSem.Claim
import GoSem.ClaimJoined
import GoSem.ClaimMapViews
import Derived.JoinedTies
import Derived.KernelRfl
namespace Go.Proofs.YtibohfipgjljhaaDoor
/- THE CELL 'sum', in the pinned program and in every row, IS THE sha256 OF THE DUMP (.gsa) THAT YtibohfipgjljhaaDoorProg.lean LOADS. Nothing in Lean hashes anything: it is a label: what it is worth is what the hold of that sum in a sandbox is worth. -/
noncomputable def Tryd.pinned : Pinned := { name := "ytibohfipgjljhaadoor", sum := "b5361398645fcd5011eee2e0f581b2aafb92a2ddef920b12150d106c79918f08", checked := Tryd.checked }
namespace Rows
def none {H : Type} : Left H := { results := [], args := [] }

/- WHAT THE LISTED PACKAGE-LEVEL VARIABLES READ AS WHEN THE CALL BEGINS. Each datum BY PROGRAM (the guide's laid-datum.mjs) off the statement by which the dump's own 'gosem.cut.vars' lays the variable. In a bare row this is a premise. The card (YtibohfipgjljhaaDoorCards.lean) ties it to the program's text. -/
def laid_math_bits_deBruijn32tab {H : Type} : DataW H := .agg [.lit (.int .u8 0), .lit (.int .u8 1), .lit (.int .u8 28), .lit (.int .u8 2), .lit (.int .u8 29), .lit (.int .u8 14), .lit (.int .u8 24), .lit (.int .u8 3), .lit (.int .u8 30), .lit (.int .u8 22), .lit (.int .u8 20), .lit (.int .u8 15), .lit (.int .u8 25), .lit (.int .u8 17), .lit (.int .u8 4), .lit (.int .u8 8), .lit (.int .u8 31), .lit (.int .u8 27), .lit (.int .u8 13), .lit (.int .u8 23), .lit (.int .u8 21), .lit (.int .u8 19), .lit (.int .u8 16), .lit (.int .u8 7), .lit (.int .u8 26), .lit (.int .u8 12), .lit (.int .u8 18), .lit (.int .u8 6), .lit (.int .u8 11), .lit (.int .u8 5), .lit (.int .u8 10), .lit (.int .u8 9)]
def laid_math_bits_deBruijn64tab {H : Type} : DataW H := .agg [.lit (.int .u8 0), .lit (.int .u8 1), .lit (.int .u8 56), .lit (.int .u8 2), .lit (.int .u8 57), .lit (.int .u8 49), .lit (.int .u8 28), .lit (.int .u8 3), .lit (.int .u8 61), .lit (.int .u8 58), .lit (.int .u8 42), .lit (.int .u8 50), .lit (.int .u8 38), .lit (.int .u8 29), .lit (.int .u8 17), .lit (.int .u8 4), .lit (.int .u8 62), .lit (.int .u8 47), .lit (.int .u8 59), .lit (.int .u8 36), .lit (.int .u8 45), .lit (.int .u8 43), .lit (.int .u8 51), .lit (.int .u8 22), .lit (.int .u8 53), .lit (.int .u8 39), .lit (.int .u8 33), .lit (.int .u8 30), .lit (.int .u8 24), .lit (.int .u8 18), .lit (.int .u8 12), .lit (.int .u8 5), .lit (.int .u8 63), .lit (.int .u8 55), .lit (.int .u8 48), .lit (.int .u8 27), .lit (.int .u8 60), .lit (.int .u8 41), .lit (.int .u8 37), .lit (.int .u8 16), .lit (.int .u8 46), .lit (.int .u8 35), .lit (.int .u8 44), .lit (.int .u8 21), .lit (.int .u8 52), .lit (.int .u8 32), .lit (.int .u8 23), .lit (.int .u8 11), .lit (.int .u8 54), .lit (.int .u8 26), .lit (.int .u8 40), .lit (.int .u8 15), .lit (.int .u8 34), .lit (.int .u8 20), .lit (.int .u8 31), .lit (.int .u8 10), .lit (.int .u8 25), .lit (.int .u8 14), .lit (.int .u8 19), .lit (.int .u8 9), .lit (.int .u8 13), .lit (.int .u8 8), .lit (.int .u8 7), .lit (.int .u8 6)]
def laid_internal_strconv_uint64pow10 {H : Type} : DataW H := .agg [.lit (.int .u64 1), .lit (.int .u64 10), .lit (.int .u64 100), .lit (.int .u64 1000), .lit (.int .u64 10000), .lit (.int .u64 100000), .lit (.int .u64 1000000), .lit (.int .u64 10000000), .lit (.int .u64 100000000), .lit (.int .u64 1000000000), .lit (.int .u64 10000000000), .lit (.int .u64 100000000000), .lit (.int .u64 1000000000000), .lit (.int .u64 10000000000000), .lit (.int .u64 100000000000000), .lit (.int .u64 1000000000000000), .lit (.int .u64 10000000000000000), .lit (.int .u64 100000000000000000), .lit (.int .u64 1000000000000000000), .lit (.int .u64 10000000000000000000)]
def laid_strconv_ErrRange {H : Type} : DataW H := .iface "*errors.errorString" (.ptr (.agg [.lit (.string [118, 97, 108, 117, 101, 32, 111, 117, 116, 32, 111, 102, 32, 114, 97, 110, 103, 101])]))
def laid_strconv_ErrSyntax {H : Type} : DataW H := .iface "*errors.errorString" (.ptr (.agg [.lit (.string [105, 110, 118, 97, 108, 105, 100, 32, 115, 121, 110, 116, 97, 120])]))
def laid_shotline_gas_known {H : Type} : DataW H := .map [(.string [97, 105, 114], .agg [.lit (.int .i64 210), .lit (.int .i64 0)]), (.string [104, 101, 108, 105, 117, 109], .agg [.lit (.int .i64 0), .lit (.int .i64 1000)]), (.string [111, 120, 121, 103, 101, 110], .agg [.lit (.int .i64 1000), .lit (.int .i64 0)])]

/-- 'shotlinelaw01.GasDepths': WHATEVER THE INPUT: true; the input reads as it did. -/
def gasDepthsSpec : ChangeSpec := { name := "gasDepths", fn := fun _ => fun
  | [d1, d2, d3] => { results := [.lit (.bool true)], args := [d1, d2, d3] }
  | _ => none }
def gasDepthsRow : OpenClaim := { program := "ytibohfipgjljhaadoor", sum := "b5361398645fcd5011eee2e0f581b2aafb92a2ddef920b12150d106c79918f08", func := "shotline/shotlinelaw01.GasDepths", spec := "gasDepths", inPlace := ["internal/bytealg.IndexByteString", "internal/bytealg.IndexString"], unfollowed := true, recurses := true, named := ["shotline/gas.known", "internal/bytealg.MaxLen", "strconv.ErrSyntax", "strconv.ErrRange", "internal/strconv.uint64pow10", "math/bits.deBruijn32tab", "math/bits.deBruijn64tab"], apart := false, laid := [("math/bits.deBruijn32tab", laid_math_bits_deBruijn32tab), ("math/bits.deBruijn64tab", laid_math_bits_deBruijn64tab), ("internal/strconv.uint64pow10", laid_internal_strconv_uint64pow10), ("strconv.ErrRange", laid_strconv_ErrRange), ("strconv.ErrSyntax", laid_strconv_ErrSyntax), ("shotline/gas.known", laid_shotline_gas_known)] }
def GasDepthsSaid : Prop := gasDepthsRow.holds Tryd.pinned (OpenSpec.ofChange gasDepthsSpec)

/-- ITS FALSE NEIGHBOUR: 'it returns false'. Refute it at one input. -/
def gasDepthsWrong : ChangeSpec := { name := "gasDepths", fn := fun _ => fun
  | [d1, d2, d3] => { results := [.lit (.bool false)], args := [d1, d2, d3] }
  | _ => none }
def GasDepthsWrongFalsely : Prop := gasDepthsRow.holds Tryd.pinned (OpenSpec.ofChange gasDepthsWrong)

/-- 'shotlinelaw01.GasBest': WHATEVER THE INPUT: true; the input reads as it did. -/
def gasBestSpec : ChangeSpec := { name := "gasBest", fn := fun _ => fun
  | [d] => { results := [.lit (.bool true)], args := [d] }
  | _ => none }
def gasBestRow : OpenClaim := { program := "ytibohfipgjljhaadoor", sum := "b5361398645fcd5011eee2e0f581b2aafb92a2ddef920b12150d106c79918f08", func := "shotline/shotlinelaw01.GasBest", spec := "gasBest", inPlace := ["internal/bytealg.IndexByteString", "internal/bytealg.IndexString"], unfollowed := true, recurses := true, named := ["shotline/gas.known", "internal/bytealg.MaxLen", "strconv.ErrSyntax", "strconv.ErrRange", "internal/strconv.uint64pow10", "math/bits.deBruijn32tab", "math/bits.deBruijn64tab"], apart := false, laid := [("math/bits.deBruijn32tab", laid_math_bits_deBruijn32tab), ("math/bits.deBruijn64tab", laid_math_bits_deBruijn64tab), ("internal/strconv.uint64pow10", laid_internal_strconv_uint64pow10), ("strconv.ErrRange", laid_strconv_ErrRange), ("strconv.ErrSyntax", laid_strconv_ErrSyntax), ("shotline/gas.known", laid_shotline_gas_known)] }
def GasBestSaid : Prop := gasBestRow.holds Tryd.pinned (OpenSpec.ofChange gasBestSpec)

/-- ITS FALSE NEIGHBOUR: 'it returns false'. Refute it at one input. -/
def gasBestWrong : ChangeSpec := { name := "gasBest", fn := fun _ => fun
  | [d] => { results := [.lit (.bool false)], args := [d] }
  | _ => none }
def GasBestWrongFalsely : Prop := gasBestRow.holds Tryd.pinned (OpenSpec.ofChange gasBestWrong)

/-- 'shotlinelaw01.GasBetween': WHATEVER THE INPUT: true; the input reads as it did. -/
def gasBetweenSpec : ChangeSpec := { name := "gasBetween", fn := fun _ => fun
  | [d] => { results := [.lit (.bool true)], args := [d] }
  | _ => none }
def gasBetweenRow : OpenClaim := { program := "ytibohfipgjljhaadoor", sum := "b5361398645fcd5011eee2e0f581b2aafb92a2ddef920b12150d106c79918f08", func := "shotline/shotlinelaw01.GasBetween", spec := "gasBetween", inPlace := ["internal/bytealg.IndexByteString", "internal/bytealg.IndexString"], unfollowed := true, recurses := true, named := ["shotline/gas.known", "internal/bytealg.MaxLen", "strconv.ErrSyntax", "strconv.ErrRange", "internal/strconv.uint64pow10", "math/bits.deBruijn32tab", "math/bits.deBruijn64tab"], apart := false, laid := [("math/bits.deBruijn32tab", laid_math_bits_deBruijn32tab), ("math/bits.deBruijn64tab", laid_math_bits_deBruijn64tab), ("internal/strconv.uint64pow10", laid_internal_strconv_uint64pow10), ("strconv.ErrRange", laid_strconv_ErrRange), ("strconv.ErrSyntax", laid_strconv_ErrSyntax), ("shotline/gas.known", laid_shotline_gas_known)] }
def GasBetweenSaid : Prop := gasBetweenRow.holds Tryd.pinned (OpenSpec.ofChange gasBetweenSpec)

/-- ITS FALSE NEIGHBOUR: 'it returns false'. Refute it at one input. -/
def gasBetweenWrong : ChangeSpec := { name := "gasBetween", fn := fun _ => fun
  | [d] => { results := [.lit (.bool false)], args := [d] }
  | _ => none }
def GasBetweenWrongFalsely : Prop := gasBetweenRow.holds Tryd.pinned (OpenSpec.ofChange gasBetweenWrong)

/-- 'shotlinelaw01.GasMixes': WHATEVER THE INPUT: true; the input reads as it did. -/
def gasMixesSpec : ChangeSpec := { name := "gasMixes", fn := fun _ => fun
  | [d] => { results := [.lit (.bool true)], args := [d] }
  | _ => none }
def gasMixesRow : OpenClaim := { program := "ytibohfipgjljhaadoor", sum := "b5361398645fcd5011eee2e0f581b2aafb92a2ddef920b12150d106c79918f08", func := "shotline/shotlinelaw01.GasMixes", spec := "gasMixes", inPlace := ["internal/bytealg.IndexByteString", "internal/bytealg.IndexString"], unfollowed := true, recurses := true, named := ["shotline/gas.known", "internal/bytealg.MaxLen", "strconv.ErrSyntax", "strconv.ErrRange", "internal/strconv.uint64pow10", "math/bits.deBruijn32tab", "math/bits.deBruijn64tab"], apart := false, laid := [("math/bits.deBruijn32tab", laid_math_bits_deBruijn32tab), ("math/bits.deBruijn64tab", laid_math_bits_deBruijn64tab), ("internal/strconv.uint64pow10", laid_internal_strconv_uint64pow10), ("strconv.ErrRange", laid_strconv_ErrRange), ("strconv.ErrSyntax", laid_strconv_ErrSyntax), ("shotline/gas.known", laid_shotline_gas_known)] }
def GasMixesSaid : Prop := gasMixesRow.holds Tryd.pinned (OpenSpec.ofChange gasMixesSpec)

/-- ITS FALSE NEIGHBOUR: 'it returns false'. Refute it at one input. -/
def gasMixesWrong : ChangeSpec := { name := "gasMixes", fn := fun _ => fun
  | [d] => { results := [.lit (.bool false)], args := [d] }
  | _ => none }
def GasMixesWrongFalsely : Prop := gasMixesRow.holds Tryd.pinned (OpenSpec.ofChange gasMixesWrong)

/-- 'shotlinelaw01.GasEdges': WHATEVER THE INPUT: true; the input reads as it did. -/
def gasEdgesSpec : ChangeSpec := { name := "gasEdges", fn := fun _ => fun
  | [d1, d2] => { results := [.lit (.bool true)], args := [d1, d2] }
  | _ => none }
def gasEdgesRow : OpenClaim := { program := "ytibohfipgjljhaadoor", sum := "b5361398645fcd5011eee2e0f581b2aafb92a2ddef920b12150d106c79918f08", func := "shotline/shotlinelaw01.GasEdges", spec := "gasEdges", inPlace := ["internal/bytealg.IndexByteString", "internal/bytealg.IndexString"], unfollowed := true, recurses := true, named := ["shotline/gas.known", "internal/bytealg.MaxLen", "strconv.ErrSyntax", "strconv.ErrRange", "internal/strconv.uint64pow10", "math/bits.deBruijn32tab", "math/bits.deBruijn64tab"], apart := false, laid := [("math/bits.deBruijn32tab", laid_math_bits_deBruijn32tab), ("math/bits.deBruijn64tab", laid_math_bits_deBruijn64tab), ("internal/strconv.uint64pow10", laid_internal_strconv_uint64pow10), ("strconv.ErrRange", laid_strconv_ErrRange), ("strconv.ErrSyntax", laid_strconv_ErrSyntax), ("shotline/gas.known", laid_shotline_gas_known)] }
def GasEdgesSaid : Prop := gasEdgesRow.holds Tryd.pinned (OpenSpec.ofChange gasEdgesSpec)

/-- ITS FALSE NEIGHBOUR: 'it returns false'. Refute it at one input. -/
def gasEdgesWrong : ChangeSpec := { name := "gasEdges", fn := fun _ => fun
  | [d1, d2] => { results := [.lit (.bool false)], args := [d1, d2] }
  | _ => none }
def GasEdgesWrongFalsely : Prop := gasEdgesRow.holds Tryd.pinned (OpenSpec.ofChange gasEdgesWrong)

/-- 'shotlinelaw01.GasNames': WHATEVER THE INPUT: true; the input reads as it did. -/
def gasNamesSpec : ChangeSpec := { name := "gasNames", fn := fun _ => fun
  | [d1, d2] => { results := [.lit (.bool true)], args := [d1, d2] }
  | _ => none }
def gasNamesRow : OpenClaim := { program := "ytibohfipgjljhaadoor", sum := "b5361398645fcd5011eee2e0f581b2aafb92a2ddef920b12150d106c79918f08", func := "shotline/shotlinelaw01.GasNames", spec := "gasNames", inPlace := ["internal/bytealg.IndexByteString", "internal/bytealg.IndexString"], unfollowed := true, recurses := true, named := ["shotline/gas.known", "internal/bytealg.MaxLen", "strconv.ErrSyntax", "strconv.ErrRange", "internal/strconv.uint64pow10", "math/bits.deBruijn32tab", "math/bits.deBruijn64tab"], apart := false, laid := [("math/bits.deBruijn32tab", laid_math_bits_deBruijn32tab), ("math/bits.deBruijn64tab", laid_math_bits_deBruijn64tab), ("internal/strconv.uint64pow10", laid_internal_strconv_uint64pow10), ("strconv.ErrRange", laid_strconv_ErrRange), ("strconv.ErrSyntax", laid_strconv_ErrSyntax), ("shotline/gas.known", laid_shotline_gas_known)] }
def GasNamesSaid : Prop := gasNamesRow.holds Tryd.pinned (OpenSpec.ofChange gasNamesSpec)

/-- ITS FALSE NEIGHBOUR: 'it returns false'. Refute it at one input. -/
def gasNamesWrong : ChangeSpec := { name := "gasNames", fn := fun _ => fun
  | [d1, d2] => { results := [.lit (.bool false)], args := [d1, d2] }
  | _ => none }
def GasNamesWrongFalsely : Prop := gasNamesRow.holds Tryd.pinned (OpenSpec.ofChange gasNamesWrong)

/-- 'shotlinelaw01.GasHolds': WHATEVER THE INPUT: true; the input reads as it did. -/
def gasHoldsSpec : ChangeSpec := { name := "gasHolds", fn := fun _ => fun
  | [d1, d2, d3] => { results := [.lit (.bool true)], args := [d1, d2, d3] }
  | _ => none }
def gasHoldsRow : OpenClaim := { program := "ytibohfipgjljhaadoor", sum := "b5361398645fcd5011eee2e0f581b2aafb92a2ddef920b12150d106c79918f08", func := "shotline/shotlinelaw01.GasHolds", spec := "gasHolds", inPlace := ["internal/bytealg.IndexByteString", "internal/bytealg.IndexString"], unfollowed := true, recurses := true, named := ["shotline/gas.known", "internal/bytealg.MaxLen", "strconv.ErrSyntax", "strconv.ErrRange", "internal/strconv.uint64pow10", "math/bits.deBruijn32tab", "math/bits.deBruijn64tab"], apart := false, laid := [("math/bits.deBruijn32tab", laid_math_bits_deBruijn32tab), ("math/bits.deBruijn64tab", laid_math_bits_deBruijn64tab), ("internal/strconv.uint64pow10", laid_internal_strconv_uint64pow10), ("strconv.ErrRange", laid_strconv_ErrRange), ("strconv.ErrSyntax", laid_strconv_ErrSyntax), ("shotline/gas.known", laid_shotline_gas_known)] }
def GasHoldsSaid : Prop := gasHoldsRow.holds Tryd.pinned (OpenSpec.ofChange gasHoldsSpec)

/-- ITS FALSE NEIGHBOUR: 'it returns false'. Refute it at one input. -/
def gasHoldsWrong : ChangeSpec := { name := "gasHolds", fn := fun _ => fun
  | [d1, d2, d3] => { results := [.lit (.bool false)], args := [d1, d2, d3] }
  | _ => none }
def GasHoldsWrongFalsely : Prop := gasHoldsRow.holds Tryd.pinned (OpenSpec.ofChange gasHoldsWrong)

/-- 'shotlinelaw01.GasEquals': WHATEVER THE INPUT: true; the input reads as it did. -/
def gasEqualsSpec : ChangeSpec := { name := "gasEquals", fn := fun _ => fun
  | [d1, d2, d3] => { results := [.lit (.bool true)], args := [d1, d2, d3] }
  | _ => none }
def gasEqualsRow : OpenClaim := { program := "ytibohfipgjljhaadoor", sum := "b5361398645fcd5011eee2e0f581b2aafb92a2ddef920b12150d106c79918f08", func := "shotline/shotlinelaw01.GasEquals", spec := "gasEquals", inPlace := ["internal/bytealg.IndexByteString", "internal/bytealg.IndexString"], unfollowed := true, recurses := true, named := ["shotline/gas.known", "internal/bytealg.MaxLen", "strconv.ErrSyntax", "strconv.ErrRange", "internal/strconv.uint64pow10", "math/bits.deBruijn32tab", "math/bits.deBruijn64tab"], apart := false, laid := [("math/bits.deBruijn32tab", laid_math_bits_deBruijn32tab), ("math/bits.deBruijn64tab", laid_math_bits_deBruijn64tab), ("internal/strconv.uint64pow10", laid_internal_strconv_uint64pow10), ("strconv.ErrRange", laid_strconv_ErrRange), ("strconv.ErrSyntax", laid_strconv_ErrSyntax), ("shotline/gas.known", laid_shotline_gas_known)] }
def GasEqualsSaid : Prop := gasEqualsRow.holds Tryd.pinned (OpenSpec.ofChange gasEqualsSpec)

/-- ITS FALSE NEIGHBOUR: 'it returns false'. Refute it at one input. -/
def gasEqualsWrong : ChangeSpec := { name := "gasEquals", fn := fun _ => fun
  | [d1, d2, d3] => { results := [.lit (.bool false)], args := [d1, d2, d3] }
  | _ => none }
def GasEqualsWrongFalsely : Prop := gasEqualsRow.holds Tryd.pinned (OpenSpec.ofChange gasEqualsWrong)

/-- 'shotlinelaw01.GasPressures': WHATEVER THE INPUT: true; the input reads as it did. -/
def gasPressuresSpec : ChangeSpec := { name := "gasPressures", fn := fun _ => fun
  | [d1, d2, d3] => { results := [.lit (.bool true)], args := [d1, d2, d3] }
  | _ => none }
def gasPressuresRow : OpenClaim := { program := "ytibohfipgjljhaadoor", sum := "b5361398645fcd5011eee2e0f581b2aafb92a2ddef920b12150d106c79918f08", func := "shotline/shotlinelaw01.GasPressures", spec := "gasPressures", inPlace := ["internal/bytealg.IndexByteString", "internal/bytealg.IndexString"], unfollowed := true, recurses := true, named := ["shotline/gas.known", "internal/bytealg.MaxLen", "strconv.ErrSyntax", "strconv.ErrRange", "internal/strconv.uint64pow10", "math/bits.deBruijn32tab", "math/bits.deBruijn64tab"], apart := false, laid := [("math/bits.deBruijn32tab", laid_math_bits_deBruijn32tab), ("math/bits.deBruijn64tab", laid_math_bits_deBruijn64tab), ("internal/strconv.uint64pow10", laid_internal_strconv_uint64pow10), ("strconv.ErrRange", laid_strconv_ErrRange), ("strconv.ErrSyntax", laid_strconv_ErrSyntax), ("shotline/gas.known", laid_shotline_gas_known)] }
def GasPressuresSaid : Prop := gasPressuresRow.holds Tryd.pinned (OpenSpec.ofChange gasPressuresSpec)

/-- ITS FALSE NEIGHBOUR: 'it returns false'. Refute it at one input. -/
def gasPressuresWrong : ChangeSpec := { name := "gasPressures", fn := fun _ => fun
  | [d1, d2, d3] => { results := [.lit (.bool false)], args := [d1, d2, d3] }
  | _ => none }
def GasPressuresWrongFalsely : Prop := gasPressuresRow.holds Tryd.pinned (OpenSpec.ofChange gasPressuresWrong)

/-- 'shotlinelaw01.GasWeights': WHATEVER THE INPUT: true; the input reads as it did. -/
def gasWeightsSpec : ChangeSpec := { name := "gasWeights", fn := fun _ => fun
  | [d1, d2, d3] => { results := [.lit (.bool true)], args := [d1, d2, d3] }
  | _ => none }
def gasWeightsRow : OpenClaim := { program := "ytibohfipgjljhaadoor", sum := "b5361398645fcd5011eee2e0f581b2aafb92a2ddef920b12150d106c79918f08", func := "shotline/shotlinelaw01.GasWeights", spec := "gasWeights", inPlace := ["internal/bytealg.IndexByteString", "internal/bytealg.IndexString"], unfollowed := true, recurses := true, named := ["shotline/gas.known", "internal/bytealg.MaxLen", "strconv.ErrSyntax", "strconv.ErrRange", "internal/strconv.uint64pow10", "math/bits.deBruijn32tab", "math/bits.deBruijn64tab"], apart := false, laid := [("math/bits.deBruijn32tab", laid_math_bits_deBruijn32tab), ("math/bits.deBruijn64tab", laid_math_bits_deBruijn64tab), ("internal/strconv.uint64pow10", laid_internal_strconv_uint64pow10), ("strconv.ErrRange", laid_strconv_ErrRange), ("strconv.ErrSyntax", laid_strconv_ErrSyntax), ("shotline/gas.known", laid_shotline_gas_known)] }
def GasWeightsSaid : Prop := gasWeightsRow.holds Tryd.pinned (OpenSpec.ofChange gasWeightsSpec)

/-- ITS FALSE NEIGHBOUR: 'it returns false'. Refute it at one input. -/
def gasWeightsWrong : ChangeSpec := { name := "gasWeights", fn := fun _ => fun
  | [d1, d2, d3] => { results := [.lit (.bool false)], args := [d1, d2, d3] }
  | _ => none }
def GasWeightsWrongFalsely : Prop := gasWeightsRow.holds Tryd.pinned (OpenSpec.ofChange gasWeightsWrong)

/-- 'shotlinelaw01.GasSame': WHATEVER THE INPUT: true; the input reads as it did. -/
def gasSameSpec : ChangeSpec := { name := "gasSame", fn := fun _ => fun
  | [d1, d2, d3] => { results := [.lit (.bool true)], args := [d1, d2, d3] }
  | _ => none }
def gasSameRow : OpenClaim := { program := "ytibohfipgjljhaadoor", sum := "b5361398645fcd5011eee2e0f581b2aafb92a2ddef920b12150d106c79918f08", func := "shotline/shotlinelaw01.GasSame", spec := "gasSame", inPlace := ["internal/bytealg.IndexByteString", "internal/bytealg.IndexString"], unfollowed := true, recurses := true, named := ["shotline/gas.known", "internal/bytealg.MaxLen", "strconv.ErrSyntax", "strconv.ErrRange", "internal/strconv.uint64pow10", "math/bits.deBruijn32tab", "math/bits.deBruijn64tab"], apart := false, laid := [("math/bits.deBruijn32tab", laid_math_bits_deBruijn32tab), ("math/bits.deBruijn64tab", laid_math_bits_deBruijn64tab), ("internal/strconv.uint64pow10", laid_internal_strconv_uint64pow10), ("strconv.ErrRange", laid_strconv_ErrRange), ("strconv.ErrSyntax", laid_strconv_ErrSyntax), ("shotline/gas.known", laid_shotline_gas_known)] }
def GasSameSaid : Prop := gasSameRow.holds Tryd.pinned (OpenSpec.ofChange gasSameSpec)

/-- ITS FALSE NEIGHBOUR: 'it returns false'. Refute it at one input. -/
def gasSameWrong : ChangeSpec := { name := "gasSame", fn := fun _ => fun
  | [d1, d2, d3] => { results := [.lit (.bool false)], args := [d1, d2, d3] }
  | _ => none }
def GasSameWrongFalsely : Prop := gasSameRow.holds Tryd.pinned (OpenSpec.ofChange gasSameWrong)

/-- 'shotlinelaw01.GasBetter': WHATEVER THE INPUT: true; the input reads as it did. -/
def gasBetterSpec : ChangeSpec := { name := "gasBetter", fn := fun _ => fun
  | [d1, d2] => { results := [.lit (.bool true)], args := [d1, d2] }
  | _ => none }
def gasBetterRow : OpenClaim := { program := "ytibohfipgjljhaadoor", sum := "b5361398645fcd5011eee2e0f581b2aafb92a2ddef920b12150d106c79918f08", func := "shotline/shotlinelaw01.GasBetter", spec := "gasBetter", inPlace := ["internal/bytealg.IndexByteString", "internal/bytealg.IndexString"], unfollowed := true, recurses := true, named := ["shotline/gas.known", "internal/bytealg.MaxLen", "strconv.ErrSyntax", "strconv.ErrRange", "internal/strconv.uint64pow10", "math/bits.deBruijn32tab", "math/bits.deBruijn64tab"], apart := false, laid := [("math/bits.deBruijn32tab", laid_math_bits_deBruijn32tab), ("math/bits.deBruijn64tab", laid_math_bits_deBruijn64tab), ("internal/strconv.uint64pow10", laid_internal_strconv_uint64pow10), ("strconv.ErrRange", laid_strconv_ErrRange), ("strconv.ErrSyntax", laid_strconv_ErrSyntax), ("shotline/gas.known", laid_shotline_gas_known)] }
def GasBetterSaid : Prop := gasBetterRow.holds Tryd.pinned (OpenSpec.ofChange gasBetterSpec)

/-- ITS FALSE NEIGHBOUR: 'it returns false'. Refute it at one input. -/
def gasBetterWrong : ChangeSpec := { name := "gasBetter", fn := fun _ => fun
  | [d1, d2] => { results := [.lit (.bool false)], args := [d1, d2] }
  | _ => none }
def GasBetterWrongFalsely : Prop := gasBetterRow.holds Tryd.pinned (OpenSpec.ofChange gasBetterWrong)

/-- 'shotlinelaw01.GasRichest': WHATEVER THE INPUT: true; the input reads as it did. -/
def gasRichestSpec : ChangeSpec := { name := "gasRichest", fn := fun _ => fun
  | [d1, d2] => { results := [.lit (.bool true)], args := [d1, d2] }
  | _ => none }
def gasRichestRow : OpenClaim := { program := "ytibohfipgjljhaadoor", sum := "b5361398645fcd5011eee2e0f581b2aafb92a2ddef920b12150d106c79918f08", func := "shotline/shotlinelaw01.GasRichest", spec := "gasRichest", inPlace := ["internal/bytealg.IndexByteString", "internal/bytealg.IndexString"], unfollowed := true, recurses := true, named := ["shotline/gas.known", "internal/bytealg.MaxLen", "strconv.ErrSyntax", "strconv.ErrRange", "internal/strconv.uint64pow10", "math/bits.deBruijn32tab", "math/bits.deBruijn64tab"], apart := false, laid := [("math/bits.deBruijn32tab", laid_math_bits_deBruijn32tab), ("math/bits.deBruijn64tab", laid_math_bits_deBruijn64tab), ("internal/strconv.uint64pow10", laid_internal_strconv_uint64pow10), ("strconv.ErrRange", laid_strconv_ErrRange), ("strconv.ErrSyntax", laid_strconv_ErrSyntax), ("shotline/gas.known", laid_shotline_gas_known)] }
def GasRichestSaid : Prop := gasRichestRow.holds Tryd.pinned (OpenSpec.ofChange gasRichestSpec)

/-- ITS FALSE NEIGHBOUR: 'it returns false'. Refute it at one input. -/
def gasRichestWrong : ChangeSpec := { name := "gasRichest", fn := fun _ => fun
  | [d1, d2] => { results := [.lit (.bool false)], args := [d1, d2] }
  | _ => none }
def GasRichestWrongFalsely : Prop := gasRichestRow.holds Tryd.pinned (OpenSpec.ofChange gasRichestWrong)

/-- 'shotlinelaw01.GasGaps': WHATEVER THE INPUT: true; the input reads as it did. -/
def gasGapsSpec : ChangeSpec := { name := "gasGaps", fn := fun _ => fun
  | [d1, d2, d3] => { results := [.lit (.bool true)], args := [d1, d2, d3] }
  | _ => none }
def gasGapsRow : OpenClaim := { program := "ytibohfipgjljhaadoor", sum := "b5361398645fcd5011eee2e0f581b2aafb92a2ddef920b12150d106c79918f08", func := "shotline/shotlinelaw01.GasGaps", spec := "gasGaps", inPlace := ["internal/bytealg.IndexByteString", "internal/bytealg.IndexString"], unfollowed := true, recurses := true, named := ["shotline/gas.known", "internal/bytealg.MaxLen", "strconv.ErrSyntax", "strconv.ErrRange", "internal/strconv.uint64pow10", "math/bits.deBruijn32tab", "math/bits.deBruijn64tab"], apart := false, laid := [("math/bits.deBruijn32tab", laid_math_bits_deBruijn32tab), ("math/bits.deBruijn64tab", laid_math_bits_deBruijn64tab), ("internal/strconv.uint64pow10", laid_internal_strconv_uint64pow10), ("strconv.ErrRange", laid_strconv_ErrRange), ("strconv.ErrSyntax", laid_strconv_ErrSyntax), ("shotline/gas.known", laid_shotline_gas_known)] }
def GasGapsSaid : Prop := gasGapsRow.holds Tryd.pinned (OpenSpec.ofChange gasGapsSpec)

/-- ITS FALSE NEIGHBOUR: 'it returns false'. Refute it at one input. -/
def gasGapsWrong : ChangeSpec := { name := "gasGaps", fn := fun _ => fun
  | [d1, d2, d3] => { results := [.lit (.bool false)], args := [d1, d2, d3] }
  | _ => none }
def GasGapsWrongFalsely : Prop := gasGapsRow.holds Tryd.pinned (OpenSpec.ofChange gasGapsWrong)

/-- 'shotlinetop.TopGasesAddUp': WHATEVER THE INPUT: true; the input reads as it did. -/
def topGasesAddUpSpec : ChangeSpec := { name := "topGasesAddUp", fn := fun _ => fun
  | [d1, d2] => { results := [.lit (.bool true)], args := [d1, d2] }
  | _ => none }
def topGasesAddUpRow : OpenClaim := { program := "ytibohfipgjljhaadoor", sum := "b5361398645fcd5011eee2e0f581b2aafb92a2ddef920b12150d106c79918f08", func := "shotline/shotlinetop.TopGasesAddUp", spec := "topGasesAddUp", inPlace := ["internal/bytealg.IndexByteString", "internal/bytealg.IndexString"], unfollowed := true, recurses := true, named := ["shotline/gas.known", "internal/strconv.uint64pow10", "math/bits.deBruijn32tab", "math/bits.deBruijn64tab", "internal/bytealg.MaxLen", "strconv.ErrSyntax", "strconv.ErrRange"], apart := false, laid := [("math/bits.deBruijn32tab", laid_math_bits_deBruijn32tab), ("math/bits.deBruijn64tab", laid_math_bits_deBruijn64tab), ("internal/strconv.uint64pow10", laid_internal_strconv_uint64pow10), ("strconv.ErrRange", laid_strconv_ErrRange), ("strconv.ErrSyntax", laid_strconv_ErrSyntax), ("shotline/gas.known", laid_shotline_gas_known)] }
def TopGasesAddUpSaid : Prop := topGasesAddUpRow.holds Tryd.pinned (OpenSpec.ofChange topGasesAddUpSpec)

/-- ITS FALSE NEIGHBOUR: 'it returns false'. Refute it at one input. -/
def topGasesAddUpWrong : ChangeSpec := { name := "topGasesAddUp", fn := fun _ => fun
  | [d1, d2] => { results := [.lit (.bool false)], args := [d1, d2] }
  | _ => none }
def TopGasesAddUpWrongFalsely : Prop := topGasesAddUpRow.holds Tryd.pinned (OpenSpec.ofChange topGasesAddUpWrong)

/- THE SECOND FORM. 'bulk': how many values and letters a reading holds, each counted each time it is reached (what is shared counts as often as it is met; a slice's spare places count too). A statement '..UptoSaid' is the law's where the arguments, and the package variables that the reading takes, are together of bulk at most 1048576: NARROWER than '..Said'. Prove '..Said' where nothing that the law and all that it calls make is longer than what came in: it says more and counts as full. Else prove '..UptoSaid'. A law counts once. -/
mutual
def uptoBulk {H : Type} : DataW H → Nat
  | .lit (.string bytes) => bytes.length + 1
  | .lit _ => 1
  | .nil => 1
  | .ptr d => uptoBulk d + 1
  | .slice elems spare => uptoBulkAll elems + uptoBulkAll spare + 1
  | .agg parts => uptoBulkAll parts + 1
  | .iface _ d => uptoBulk d + 1
  | .map entries => uptoBulkEntries entries + 1
  | .held _ => 1
def uptoBulkAll {H : Type} : List (DataW H) → Nat
  | [] => 0
  | d :: r => uptoBulk d + uptoBulkAll r
def uptoBulkEntries {H : Type} : List (Lit × DataW H) → Nat
  | [] => 0
  | x :: r => uptoBulkEntry x + uptoBulkEntries r
def uptoBulkEntry {H : Type} : Lit × DataW H → Nat
  | (.string bytes, d) => bytes.length + uptoBulk d + 1
  | (_, d) => uptoBulk d + 1
 end
def uptoSmall : (H : Type) → List (DataW H) → Bool := fun _ ds => decide (uptoBulkAll ds ≤ 1048576)
def OpenSpec.upto (s : _root_.Go.ChangeSpec) : _root_.Go.OpenSpec := { _root_.Go.OpenSpec.ofChange s with cond := some uptoSmall }

/-- 'shotlinelaw01.GasDepths', WHERE WHAT IT READS IS OF BULK AT MOST 1048576: true; the input reads as it did. -/
def gasDepthsUptoRow : OpenClaim := { program := "ytibohfipgjljhaadoor", sum := "b5361398645fcd5011eee2e0f581b2aafb92a2ddef920b12150d106c79918f08", func := "shotline/shotlinelaw01.GasDepths", spec := "gasDepths", inPlace := ["internal/bytealg.IndexByteString", "internal/bytealg.IndexString"], unfollowed := true, recurses := true, named := ["shotline/gas.known", "internal/bytealg.MaxLen", "strconv.ErrSyntax", "strconv.ErrRange", "internal/strconv.uint64pow10", "math/bits.deBruijn32tab", "math/bits.deBruijn64tab"], apart := false, laid := [("math/bits.deBruijn32tab", laid_math_bits_deBruijn32tab), ("math/bits.deBruijn64tab", laid_math_bits_deBruijn64tab), ("internal/strconv.uint64pow10", laid_internal_strconv_uint64pow10), ("strconv.ErrRange", laid_strconv_ErrRange), ("strconv.ErrSyntax", laid_strconv_ErrSyntax), ("shotline/gas.known", laid_shotline_gas_known)], narrowed := true }
def GasDepthsUptoSaid : Prop := gasDepthsUptoRow.holds Tryd.pinned (OpenSpec.upto gasDepthsSpec)

/-- 'shotlinelaw01.GasBest', WHERE WHAT IT READS IS OF BULK AT MOST 1048576: true; the input reads as it did. -/
def gasBestUptoRow : OpenClaim := { program := "ytibohfipgjljhaadoor", sum := "b5361398645fcd5011eee2e0f581b2aafb92a2ddef920b12150d106c79918f08", func := "shotline/shotlinelaw01.GasBest", spec := "gasBest", inPlace := ["internal/bytealg.IndexByteString", "internal/bytealg.IndexString"], unfollowed := true, recurses := true, named := ["shotline/gas.known", "internal/bytealg.MaxLen", "strconv.ErrSyntax", "strconv.ErrRange", "internal/strconv.uint64pow10", "math/bits.deBruijn32tab", "math/bits.deBruijn64tab"], apart := false, laid := [("math/bits.deBruijn32tab", laid_math_bits_deBruijn32tab), ("math/bits.deBruijn64tab", laid_math_bits_deBruijn64tab), ("internal/strconv.uint64pow10", laid_internal_strconv_uint64pow10), ("strconv.ErrRange", laid_strconv_ErrRange), ("strconv.ErrSyntax", laid_strconv_ErrSyntax), ("shotline/gas.known", laid_shotline_gas_known)], narrowed := true }
def GasBestUptoSaid : Prop := gasBestUptoRow.holds Tryd.pinned (OpenSpec.upto gasBestSpec)

/-- 'shotlinelaw01.GasBetween', WHERE WHAT IT READS IS OF BULK AT MOST 1048576: true; the input reads as it did. -/
def gasBetweenUptoRow : OpenClaim := { program := "ytibohfipgjljhaadoor", sum := "b5361398645fcd5011eee2e0f581b2aafb92a2ddef920b12150d106c79918f08", func := "shotline/shotlinelaw01.GasBetween", spec := "gasBetween", inPlace := ["internal/bytealg.IndexByteString", "internal/bytealg.IndexString"], unfollowed := true, recurses := true, named := ["shotline/gas.known", "internal/bytealg.MaxLen", "strconv.ErrSyntax", "strconv.ErrRange", "internal/strconv.uint64pow10", "math/bits.deBruijn32tab", "math/bits.deBruijn64tab"], apart := false, laid := [("math/bits.deBruijn32tab", laid_math_bits_deBruijn32tab), ("math/bits.deBruijn64tab", laid_math_bits_deBruijn64tab), ("internal/strconv.uint64pow10", laid_internal_strconv_uint64pow10), ("strconv.ErrRange", laid_strconv_ErrRange), ("strconv.ErrSyntax", laid_strconv_ErrSyntax), ("shotline/gas.known", laid_shotline_gas_known)], narrowed := true }
def GasBetweenUptoSaid : Prop := gasBetweenUptoRow.holds Tryd.pinned (OpenSpec.upto gasBetweenSpec)

/-- 'shotlinelaw01.GasMixes', WHERE WHAT IT READS IS OF BULK AT MOST 1048576: true; the input reads as it did. -/
def gasMixesUptoRow : OpenClaim := { program := "ytibohfipgjljhaadoor", sum := "b5361398645fcd5011eee2e0f581b2aafb92a2ddef920b12150d106c79918f08", func := "shotline/shotlinelaw01.GasMixes", spec := "gasMixes", inPlace := ["internal/bytealg.IndexByteString", "internal/bytealg.IndexString"], unfollowed := true, recurses := true, named := ["shotline/gas.known", "internal/bytealg.MaxLen", "strconv.ErrSyntax", "strconv.ErrRange", "internal/strconv.uint64pow10", "math/bits.deBruijn32tab", "math/bits.deBruijn64tab"], apart := false, laid := [("math/bits.deBruijn32tab", laid_math_bits_deBruijn32tab), ("math/bits.deBruijn64tab", laid_math_bits_deBruijn64tab), ("internal/strconv.uint64pow10", laid_internal_strconv_uint64pow10), ("strconv.ErrRange", laid_strconv_ErrRange), ("strconv.ErrSyntax", laid_strconv_ErrSyntax), ("shotline/gas.known", laid_shotline_gas_known)], narrowed := true }
def GasMixesUptoSaid : Prop := gasMixesUptoRow.holds Tryd.pinned (OpenSpec.upto gasMixesSpec)

/-- 'shotlinelaw01.GasEdges', WHERE WHAT IT READS IS OF BULK AT MOST 1048576: true; the input reads as it did. -/
def gasEdgesUptoRow : OpenClaim := { program := "ytibohfipgjljhaadoor", sum := "b5361398645fcd5011eee2e0f581b2aafb92a2ddef920b12150d106c79918f08", func := "shotline/shotlinelaw01.GasEdges", spec := "gasEdges", inPlace := ["internal/bytealg.IndexByteString", "internal/bytealg.IndexString"], unfollowed := true, recurses := true, named := ["shotline/gas.known", "internal/bytealg.MaxLen", "strconv.ErrSyntax", "strconv.ErrRange", "internal/strconv.uint64pow10", "math/bits.deBruijn32tab", "math/bits.deBruijn64tab"], apart := false, laid := [("math/bits.deBruijn32tab", laid_math_bits_deBruijn32tab), ("math/bits.deBruijn64tab", laid_math_bits_deBruijn64tab), ("internal/strconv.uint64pow10", laid_internal_strconv_uint64pow10), ("strconv.ErrRange", laid_strconv_ErrRange), ("strconv.ErrSyntax", laid_strconv_ErrSyntax), ("shotline/gas.known", laid_shotline_gas_known)], narrowed := true }
def GasEdgesUptoSaid : Prop := gasEdgesUptoRow.holds Tryd.pinned (OpenSpec.upto gasEdgesSpec)

/-- 'shotlinelaw01.GasNames', WHERE WHAT IT READS IS OF BULK AT MOST 1048576: true; the input reads as it did. -/
def gasNamesUptoRow : OpenClaim := { program := "ytibohfipgjljhaadoor", sum := "b5361398645fcd5011eee2e0f581b2aafb92a2ddef920b12150d106c79918f08", func := "shotline/shotlinelaw01.GasNames", spec := "gasNames", inPlace := ["internal/bytealg.IndexByteString", "internal/bytealg.IndexString"], unfollowed := true, recurses := true, named := ["shotline/gas.known", "internal/bytealg.MaxLen", "strconv.ErrSyntax", "strconv.ErrRange", "internal/strconv.uint64pow10", "math/bits.deBruijn32tab", "math/bits.deBruijn64tab"], apart := false, laid := [("math/bits.deBruijn32tab", laid_math_bits_deBruijn32tab), ("math/bits.deBruijn64tab", laid_math_bits_deBruijn64tab), ("internal/strconv.uint64pow10", laid_internal_strconv_uint64pow10), ("strconv.ErrRange", laid_strconv_ErrRange), ("strconv.ErrSyntax", laid_strconv_ErrSyntax), ("shotline/gas.known", laid_shotline_gas_known)], narrowed := true }
def GasNamesUptoSaid : Prop := gasNamesUptoRow.holds Tryd.pinned (OpenSpec.upto gasNamesSpec)

/-- 'shotlinelaw01.GasHolds', WHERE WHAT IT READS IS OF BULK AT MOST 1048576: true; the input reads as it did. -/
def gasHoldsUptoRow : OpenClaim := { program := "ytibohfipgjljhaadoor", sum := "b5361398645fcd5011eee2e0f581b2aafb92a2ddef920b12150d106c79918f08", func := "shotline/shotlinelaw01.GasHolds", spec := "gasHolds", inPlace := ["internal/bytealg.IndexByteString", "internal/bytealg.IndexString"], unfollowed := true, recurses := true, named := ["shotline/gas.known", "internal/bytealg.MaxLen", "strconv.ErrSyntax", "strconv.ErrRange", "internal/strconv.uint64pow10", "math/bits.deBruijn32tab", "math/bits.deBruijn64tab"], apart := false, laid := [("math/bits.deBruijn32tab", laid_math_bits_deBruijn32tab), ("math/bits.deBruijn64tab", laid_math_bits_deBruijn64tab), ("internal/strconv.uint64pow10", laid_internal_strconv_uint64pow10), ("strconv.ErrRange", laid_strconv_ErrRange), ("strconv.ErrSyntax", laid_strconv_ErrSyntax), ("shotline/gas.known", laid_shotline_gas_known)], narrowed := true }
def GasHoldsUptoSaid : Prop := gasHoldsUptoRow.holds Tryd.pinned (OpenSpec.upto gasHoldsSpec)

/-- 'shotlinelaw01.GasEquals', WHERE WHAT IT READS IS OF BULK AT MOST 1048576: true; the input reads as it did. -/
def gasEqualsUptoRow : OpenClaim := { program := "ytibohfipgjljhaadoor", sum := "b5361398645fcd5011eee2e0f581b2aafb92a2ddef920b12150d106c79918f08", func := "shotline/shotlinelaw01.GasEquals", spec := "gasEquals", inPlace := ["internal/bytealg.IndexByteString", "internal/bytealg.IndexString"], unfollowed := true, recurses := true, named := ["shotline/gas.known", "internal/bytealg.MaxLen", "strconv.ErrSyntax", "strconv.ErrRange", "internal/strconv.uint64pow10", "math/bits.deBruijn32tab", "math/bits.deBruijn64tab"], apart := false, laid := [("math/bits.deBruijn32tab", laid_math_bits_deBruijn32tab), ("math/bits.deBruijn64tab", laid_math_bits_deBruijn64tab), ("internal/strconv.uint64pow10", laid_internal_strconv_uint64pow10), ("strconv.ErrRange", laid_strconv_ErrRange), ("strconv.ErrSyntax", laid_strconv_ErrSyntax), ("shotline/gas.known", laid_shotline_gas_known)], narrowed := true }
def GasEqualsUptoSaid : Prop := gasEqualsUptoRow.holds Tryd.pinned (OpenSpec.upto gasEqualsSpec)

/-- 'shotlinelaw01.GasPressures', WHERE WHAT IT READS IS OF BULK AT MOST 1048576: true; the input reads as it did. -/
def gasPressuresUptoRow : OpenClaim := { program := "ytibohfipgjljhaadoor", sum := "b5361398645fcd5011eee2e0f581b2aafb92a2ddef920b12150d106c79918f08", func := "shotline/shotlinelaw01.GasPressures", spec := "gasPressures", inPlace := ["internal/bytealg.IndexByteString", "internal/bytealg.IndexString"], unfollowed := true, recurses := true, named := ["shotline/gas.known", "internal/bytealg.MaxLen", "strconv.ErrSyntax", "strconv.ErrRange", "internal/strconv.uint64pow10", "math/bits.deBruijn32tab", "math/bits.deBruijn64tab"], apart := false, laid := [("math/bits.deBruijn32tab", laid_math_bits_deBruijn32tab), ("math/bits.deBruijn64tab", laid_math_bits_deBruijn64tab), ("internal/strconv.uint64pow10", laid_internal_strconv_uint64pow10), ("strconv.ErrRange", laid_strconv_ErrRange), ("strconv.ErrSyntax", laid_strconv_ErrSyntax), ("shotline/gas.known", laid_shotline_gas_known)], narrowed := true }
def GasPressuresUptoSaid : Prop := gasPressuresUptoRow.holds Tryd.pinned (OpenSpec.upto gasPressuresSpec)

/-- 'shotlinelaw01.GasWeights', WHERE WHAT IT READS IS OF BULK AT MOST 1048576: true; the input reads as it did. -/
def gasWeightsUptoRow : OpenClaim := { program := "ytibohfipgjljhaadoor", sum := "b5361398645fcd5011eee2e0f581b2aafb92a2ddef920b12150d106c79918f08", func := "shotline/shotlinelaw01.GasWeights", spec := "gasWeights", inPlace := ["internal/bytealg.IndexByteString", "internal/bytealg.IndexString"], unfollowed := true, recurses := true, named := ["shotline/gas.known", "internal/bytealg.MaxLen", "strconv.ErrSyntax", "strconv.ErrRange", "internal/strconv.uint64pow10", "math/bits.deBruijn32tab", "math/bits.deBruijn64tab"], apart := false, laid := [("math/bits.deBruijn32tab", laid_math_bits_deBruijn32tab), ("math/bits.deBruijn64tab", laid_math_bits_deBruijn64tab), ("internal/strconv.uint64pow10", laid_internal_strconv_uint64pow10), ("strconv.ErrRange", laid_strconv_ErrRange), ("strconv.ErrSyntax", laid_strconv_ErrSyntax), ("shotline/gas.known", laid_shotline_gas_known)], narrowed := true }
def GasWeightsUptoSaid : Prop := gasWeightsUptoRow.holds Tryd.pinned (OpenSpec.upto gasWeightsSpec)

/-- 'shotlinelaw01.GasSame', WHERE WHAT IT READS IS OF BULK AT MOST 1048576: true; the input reads as it did. -/
def gasSameUptoRow : OpenClaim := { program := "ytibohfipgjljhaadoor", sum := "b5361398645fcd5011eee2e0f581b2aafb92a2ddef920b12150d106c79918f08", func := "shotline/shotlinelaw01.GasSame", spec := "gasSame", inPlace := ["internal/bytealg.IndexByteString", "internal/bytealg.IndexString"], unfollowed := true, recurses := true, named := ["shotline/gas.known", "internal/bytealg.MaxLen", "strconv.ErrSyntax", "strconv.ErrRange", "internal/strconv.uint64pow10", "math/bits.deBruijn32tab", "math/bits.deBruijn64tab"], apart := false, laid := [("math/bits.deBruijn32tab", laid_math_bits_deBruijn32tab), ("math/bits.deBruijn64tab", laid_math_bits_deBruijn64tab), ("internal/strconv.uint64pow10", laid_internal_strconv_uint64pow10), ("strconv.ErrRange", laid_strconv_ErrRange), ("strconv.ErrSyntax", laid_strconv_ErrSyntax), ("shotline/gas.known", laid_shotline_gas_known)], narrowed := true }
def GasSameUptoSaid : Prop := gasSameUptoRow.holds Tryd.pinned (OpenSpec.upto gasSameSpec)

/-- 'shotlinelaw01.GasBetter', WHERE WHAT IT READS IS OF BULK AT MOST 1048576: true; the input reads as it did. -/
def gasBetterUptoRow : OpenClaim := { program := "ytibohfipgjljhaadoor", sum := "b5361398645fcd5011eee2e0f581b2aafb92a2ddef920b12150d106c79918f08", func := "shotline/shotlinelaw01.GasBetter", spec := "gasBetter", inPlace := ["internal/bytealg.IndexByteString", "internal/bytealg.IndexString"], unfollowed := true, recurses := true, named := ["shotline/gas.known", "internal/bytealg.MaxLen", "strconv.ErrSyntax", "strconv.ErrRange", "internal/strconv.uint64pow10", "math/bits.deBruijn32tab", "math/bits.deBruijn64tab"], apart := false, laid := [("math/bits.deBruijn32tab", laid_math_bits_deBruijn32tab), ("math/bits.deBruijn64tab", laid_math_bits_deBruijn64tab), ("internal/strconv.uint64pow10", laid_internal_strconv_uint64pow10), ("strconv.ErrRange", laid_strconv_ErrRange), ("strconv.ErrSyntax", laid_strconv_ErrSyntax), ("shotline/gas.known", laid_shotline_gas_known)], narrowed := true }
def GasBetterUptoSaid : Prop := gasBetterUptoRow.holds Tryd.pinned (OpenSpec.upto gasBetterSpec)

/-- 'shotlinelaw01.GasRichest', WHERE WHAT IT READS IS OF BULK AT MOST 1048576: true; the input reads as it did. -/
def gasRichestUptoRow : OpenClaim := { program := "ytibohfipgjljhaadoor", sum := "b5361398645fcd5011eee2e0f581b2aafb92a2ddef920b12150d106c79918f08", func := "shotline/shotlinelaw01.GasRichest", spec := "gasRichest", inPlace := ["internal/bytealg.IndexByteString", "internal/bytealg.IndexString"], unfollowed := true, recurses := true, named := ["shotline/gas.known", "internal/bytealg.MaxLen", "strconv.ErrSyntax", "strconv.ErrRange", "internal/strconv.uint64pow10", "math/bits.deBruijn32tab", "math/bits.deBruijn64tab"], apart := false, laid := [("math/bits.deBruijn32tab", laid_math_bits_deBruijn32tab), ("math/bits.deBruijn64tab", laid_math_bits_deBruijn64tab), ("internal/strconv.uint64pow10", laid_internal_strconv_uint64pow10), ("strconv.ErrRange", laid_strconv_ErrRange), ("strconv.ErrSyntax", laid_strconv_ErrSyntax), ("shotline/gas.known", laid_shotline_gas_known)], narrowed := true }
def GasRichestUptoSaid : Prop := gasRichestUptoRow.holds Tryd.pinned (OpenSpec.upto gasRichestSpec)

/-- 'shotlinelaw01.GasGaps', WHERE WHAT IT READS IS OF BULK AT MOST 1048576: true; the input reads as it did. -/
def gasGapsUptoRow : OpenClaim := { program := "ytibohfipgjljhaadoor", sum := "b5361398645fcd5011eee2e0f581b2aafb92a2ddef920b12150d106c79918f08", func := "shotline/shotlinelaw01.GasGaps", spec := "gasGaps", inPlace := ["internal/bytealg.IndexByteString", "internal/bytealg.IndexString"], unfollowed := true, recurses := true, named := ["shotline/gas.known", "internal/bytealg.MaxLen", "strconv.ErrSyntax", "strconv.ErrRange", "internal/strconv.uint64pow10", "math/bits.deBruijn32tab", "math/bits.deBruijn64tab"], apart := false, laid := [("math/bits.deBruijn32tab", laid_math_bits_deBruijn32tab), ("math/bits.deBruijn64tab", laid_math_bits_deBruijn64tab), ("internal/strconv.uint64pow10", laid_internal_strconv_uint64pow10), ("strconv.ErrRange", laid_strconv_ErrRange), ("strconv.ErrSyntax", laid_strconv_ErrSyntax), ("shotline/gas.known", laid_shotline_gas_known)], narrowed := true }
def GasGapsUptoSaid : Prop := gasGapsUptoRow.holds Tryd.pinned (OpenSpec.upto gasGapsSpec)

/-- 'shotlinetop.TopGasesAddUp', WHERE WHAT IT READS IS OF BULK AT MOST 1048576: true; the input reads as it did. -/
def topGasesAddUpUptoRow : OpenClaim := { program := "ytibohfipgjljhaadoor", sum := "b5361398645fcd5011eee2e0f581b2aafb92a2ddef920b12150d106c79918f08", func := "shotline/shotlinetop.TopGasesAddUp", spec := "topGasesAddUp", inPlace := ["internal/bytealg.IndexByteString", "internal/bytealg.IndexString"], unfollowed := true, recurses := true, named := ["shotline/gas.known", "internal/strconv.uint64pow10", "math/bits.deBruijn32tab", "math/bits.deBruijn64tab", "internal/bytealg.MaxLen", "strconv.ErrSyntax", "strconv.ErrRange"], apart := false, laid := [("math/bits.deBruijn32tab", laid_math_bits_deBruijn32tab), ("math/bits.deBruijn64tab", laid_math_bits_deBruijn64tab), ("internal/strconv.uint64pow10", laid_internal_strconv_uint64pow10), ("strconv.ErrRange", laid_strconv_ErrRange), ("strconv.ErrSyntax", laid_strconv_ErrSyntax), ("shotline/gas.known", laid_shotline_gas_known)], narrowed := true }
def TopGasesAddUpUptoSaid : Prop := topGasesAddUpUptoRow.holds Tryd.pinned (OpenSpec.upto topGasesAddUpSpec)

end Rows
end Go.Proofs.YtibohfipgjljhaaDoor
