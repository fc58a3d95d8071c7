/- The types of the program as pure types, and their abstract values. Printed by a program of mine (gen.py). -/
import Derived.Test.YtlegifoeekcolaaAmU
set_option linter.unusedVariables false
set_option linter.unusedSimpArgs false
set_option maxRecDepth 100000
namespace Go.Am
structure GSystem where
  fSize : Int
  fPlus : List Int
  fTimes : List Int
  fBelow : List Bool
  deriving Inhabited
structure GCell where
  fBudget : Int
  fBooked : Int
  deriving Inhabited
def GSystem_s (v : GSystem) : AV := .agg [.int .i64 v.fSize, .sl (List.map I v.fPlus), .sl (List.map I v.fTimes), .sl (List.map AV.bool v.fBelow)]
def GSystem_o (v : GSystem) : AV := .agg [.int .i64 v.fSize, .osl (List.map I v.fPlus), .osl (List.map I v.fTimes), .osl (List.map AV.bool v.fBelow)]
def GCell_v (v : GCell) : AV := .agg [.int .i64 v.fBudget, .int .i64 v.fBooked]
theorem eq_GCell_v (v : GCell) : GCell_v v = AV.agg [.int .i64 v.fBudget, .int .i64 v.fBooked] := rfl
theorem sz_GCell_v (v : GCell) : (cellsOf (GCell_v v)).length = 2 := rfl
theorem ek_GCell_v (v : GCell) : elemOk 2 (GCell_v v) = true := rfl
theorem sh_GCell_v (l : List GCell) : shares (List.map GCell_v l) = List.map GCell_v l := shares_row (fun _ => rfl) l
theorem nsh_GCell_v (v : GCell) : noSh (GCell_v v) = true := rfl
end Go.Am
