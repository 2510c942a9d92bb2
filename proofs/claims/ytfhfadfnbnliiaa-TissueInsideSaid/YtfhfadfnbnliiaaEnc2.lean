/-
  How the data of the statements of chapter 3 lies in memory. Conditions: none; no program in sight.
-/
import Derived.Test.YtfhfadfnbnliiaaEx
import Derived.Test.YtfhfadfnbnliiaaMod5
namespace Go.Proofs.Ytfhfadfnbnliiaa
def cDv (v u : Value) (x : Lg) (fi : Int) : List Value := [v, u, .int .i64 x.f, .int .i64 x.t, .int .i64 x.s, .int .i64 x.g.o, .int .i64 x.g.h, .int .i64 fi]
end Go.Proofs.Ytfhfadfnbnliiaa
