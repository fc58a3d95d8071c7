/- The types of the program as pure types, and their abstract values. Printed by a program of mine (gen.py). -/
import Derived.Test.YtfakfcaegabgaaaAmU
set_option linter.unusedVariables false
set_option linter.unusedSimpArgs false
set_option maxRecDepth 100000
namespace Go.Am
structure GSystem where
  fSize : Int
  fPlus : List Int
  fTimes : List Int
  fBelow : List Bool
  deriving Inhabited
def GSystem_s (v : GSystem) : AV := .agg [.int .i64 v.fSize, .sl (List.map I v.fPlus), .sl (List.map I v.fTimes), .sl (List.map AV.bool v.fBelow)]
def GSystem_o (v : GSystem) : AV := .agg [.int .i64 v.fSize, .osl (List.map I v.fPlus), .osl (List.map I v.fTimes), .osl (List.map AV.bool v.fBelow)]
def LI_s (v : List Int) : AV := .sl (List.map I v)
theorem eq_LI_s (v : List Int) : LI_s v = AV.sl (List.map I v) := rfl
theorem sz_LI_s (v : List Int) : (cellsOf (LI_s v)).length = 1 := rfl
theorem ek_LI_s (v : List Int) : elemOk 1 (LI_s v) = true := rfl
theorem sh_LI_s (l : List (List Int)) : shares (List.map LI_s l) = List.map LI_s l := shares_row (fun _ => rfl) l
abbrev bSystem (v : GSystem) : AObj := .box [.int .i64 v.fSize, .sl (List.map I v.fPlus), .sl (List.map I v.fTimes), .sl (List.map AV.bool v.fBelow)]
abbrev aSystem (v : GSystem) : AV := .agg [.int .i64 v.fSize, .sl (List.map I v.fPlus), .sl (List.map I v.fTimes), .sl (List.map AV.bool v.fBelow)]
abbrev qSystem (v : GSystem) : AV := .agg [.int .i64 v.fSize, .osl (List.map I v.fPlus), .osl (List.map I v.fTimes), .osl (List.map AV.bool v.fBelow)]
abbrev hSystem (v : GSystem) : AV := .agg [.int .i64 v.fSize, .sl (shares (List.map I v.fPlus)), .sl (shares (List.map I v.fTimes)), .sl (shares (List.map AV.bool v.fBelow))]
end Go.Am
