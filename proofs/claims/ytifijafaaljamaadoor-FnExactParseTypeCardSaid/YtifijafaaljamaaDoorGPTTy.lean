/- The types of the program as pure types, and their abstract values. Printed by a program of mine (gen.py). -/
import Derived.Test.YtifijafaaljamaaDoorAmUW
set_option linter.unusedVariables false
set_option linter.unusedSimpArgs false
set_option maxRecDepth 100000
namespace Go.Am
structure K06 where
  fs : ByteArray
  fat : Int
  ffail : Bool
  fleft : Int
  deriving Inhabited
def K07 (v : K06) : AV := .agg [.str v.fs, .int .i64 v.fat, .bool v.ffail, .int .i64 v.fleft]
end Go.Am
