/- The types of the program as pure types, and their abstract values. Printed by a program of mine (gen.py). -/
import Derived.Test.YtjolnnofmlaeaaaDoorAmUW
set_option linter.unusedVariables false
set_option linter.unusedSimpArgs false
set_option maxRecDepth 100000
namespace Go.Am
structure K00 where
  fSize : Int
  fPlus : List Int
  fTimes : List Int
  fBelow : List Bool
  deriving Inhabited
structure K01 where
  fa0 : Int
  fa1 : Int
  deriving Inhabited
structure K02 where
  ftext : ByteArray
  fs : K00
  deriving Inhabited
def K03 (v : K00) : AV := .agg [.int .i64 v.fSize, .sl (List.map I v.fPlus), .sl (List.map I v.fTimes), .sl (List.map AV.bool v.fBelow)]
def K04 (v : K00) : AV := .agg [.int .i64 v.fSize, .osl (List.map I v.fPlus), .osl (List.map I v.fTimes), .osl (List.map AV.bool v.fBelow)]
def K05 (v : K01) : AV := .agg [.int .i64 v.fa0, .int .i64 v.fa1]
def K06 (v : K02) : AV := .agg [.str v.ftext, .int .i64 v.fs.fSize, .sl (List.map I v.fs.fPlus), .sl (List.map I v.fs.fTimes), .sl (List.map AV.bool v.fs.fBelow)]
def K07 (v : K02) : AV := .agg [.str v.ftext, .int .i64 v.fs.fSize, .osl (List.map I v.fs.fPlus), .osl (List.map I v.fs.fTimes), .osl (List.map AV.bool v.fs.fBelow)]
theorem K08 (v : K01) : K05 v = AV.agg [.int .i64 v.fa0, .int .i64 v.fa1] := rfl
theorem K09 (v : K01) : (cellsOf (K05 v)).length = 2 := rfl
theorem K0a (v : K01) : Q5v 2 (K05 v) = true := rfl
theorem K0b (l : List K01) : Q05 (List.map K05 l) = List.map K05 l := Qfc (fun _ => rfl) l
theorem K0c (v : K01) : noSh (K05 v) = true := rfl
theorem K0d (v : K02) : K07 v = AV.agg [.str v.ftext, .int .i64 v.fs.fSize, .osl (List.map I v.fs.fPlus), .osl (List.map I v.fs.fTimes), .osl (List.map AV.bool v.fs.fBelow)] := rfl
theorem K0e (v : K02) : (cellsOf (K07 v)).length = 5 := rfl
theorem K0f (v : K02) : Q5v 5 (K07 v) = true := rfl
theorem K0g (v : K02) : K06 v = AV.agg [.str v.ftext, .int .i64 v.fs.fSize, .sl (List.map I v.fs.fPlus), .sl (List.map I v.fs.fTimes), .sl (List.map AV.bool v.fs.fBelow)] := rfl
theorem K0h (v : K02) : (cellsOf (K06 v)).length = 5 := rfl
theorem K0i (v : K02) : Q5v 5 (K06 v) = true := rfl
theorem K0j (l : List K02) : Q05 (List.map K06 l) = List.map K06 l := Qfc (fun v => by rw [K0g]; rfl) l
theorem K0k (l : List K02) : Q05 (List.map K07 l) = List.map K06 l := Qfc (fun v => by rw [K0d, K0g]; simp only [share, Q05, Qfd, Qff]) l
theorem K0l (v : K02) : noSh (K07 v) = true := by rw [K0d]; simp only [noSh, Q7b, Qfm Qfh, Qfm Qfj, Bool.and_self]
abbrev K0m (v : K00) : Q0c := .box [.int .i64 v.fSize, .sl (List.map I v.fPlus), .sl (List.map I v.fTimes), .sl (List.map AV.bool v.fBelow)]
abbrev K0n (v : K00) : AV := .agg [.int .i64 v.fSize, .sl (List.map I v.fPlus), .sl (List.map I v.fTimes), .sl (List.map AV.bool v.fBelow)]
abbrev K0o (v : K00) : AV := .optr [.int .i64 v.fSize, .sl (List.map I v.fPlus), .sl (List.map I v.fTimes), .sl (List.map AV.bool v.fBelow)]
abbrev K0p (v : K02) : Q0c := .box [.str v.ftext, .int .i64 v.fs.fSize, .sl (List.map I v.fs.fPlus), .sl (List.map I v.fs.fTimes), .sl (List.map AV.bool v.fs.fBelow)]
abbrev K0q (v : K02) : AV := .agg [.str v.ftext, .int .i64 v.fs.fSize, .sl (List.map I v.fs.fPlus), .sl (List.map I v.fs.fTimes), .sl (List.map AV.bool v.fs.fBelow)]
abbrev K0r (v : K02) : AV := .optr [.str v.ftext, .int .i64 v.fs.fSize, .sl (List.map I v.fs.fPlus), .sl (List.map I v.fs.fTimes), .sl (List.map AV.bool v.fs.fBelow)]
abbrev K0s (v : K00) : AV := .agg [.int .i64 v.fSize, .osl (List.map I v.fPlus), .osl (List.map I v.fTimes), .osl (List.map AV.bool v.fBelow)]
abbrev K0t (v : K00) : AV := .agg [.int .i64 v.fSize, .sl (Q05 (List.map I v.fPlus)), .sl (Q05 (List.map I v.fTimes)), .sl (Q05 (List.map AV.bool v.fBelow))]
abbrev K0u (v : K02) : AV := .agg [.str v.ftext, .int .i64 v.fs.fSize, .osl (List.map I v.fs.fPlus), .osl (List.map I v.fs.fTimes), .osl (List.map AV.bool v.fs.fBelow)]
abbrev K0v (v : K02) : AV := .agg [.str v.ftext, .int .i64 v.fs.fSize, .sl (Q05 (List.map I v.fs.fPlus)), .sl (Q05 (List.map I v.fs.fTimes)), .sl (Q05 (List.map AV.bool v.fs.fBelow))]
end Go.Am
