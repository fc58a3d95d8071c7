/- The types of the program as pure types, and their abstract values. Printed by a program of mine (gen.py). -/
import Derived.Test.YtckgdfakjjdodaaGreatAmUW
set_option linter.unusedVariables false
set_option linter.unusedSimpArgs false
set_option maxRecDepth 100000
namespace Go.Am
structure K00 where
  fOp : Int
  fN : Int
  fType : List Int
  fKids : List K00
  deriving Inhabited
structure K01 where
  fb : List Int
  fi : Int
  fh : Int
  deriving Inhabited
structure K02 where
  fSize : Int
  fPlus : List Int
  fTimes : List Int
  fBelow : List Bool
  deriving Inhabited
structure K03 where
  fty : List Int
  fneeds : List Int
  ffault : Int
  fpath : List Int
  deriving Inhabited
structure K04 where
  fword : ByteArray
  fkids : Int
  fgrade : Bool
  ftyped : Bool
  deriving Inhabited
mutual
def K05 : K00 → AV
  | ⟨x0, x1, x2, x3⟩ => .agg [.int .i64 x0, .int .i64 x1, .sl (List.map I x2), .sl (K06 x3)]
def K06 : List K00 → List AV
  | [] => []
  | x :: xs => K05 x :: K06 xs
end
theorem K07 (l : List K00) : K06 l = List.map K05 l := by
  induction l with
  | nil => rfl
  | cons x xs ih => rw [List.map_cons, ← ih]; rfl
mutual
def K08 : K00 → AV
  | ⟨x0, x1, x2, x3⟩ => .agg [.int .i64 x0, .int .i64 x1, .osl (List.map I x2), .osl (K09 x3)]
def K09 : List K00 → List AV
  | [] => []
  | x :: xs => K08 x :: K09 xs
end
theorem K0a (l : List K00) : K09 l = List.map K08 l := by
  induction l with
  | nil => rfl
  | cons x xs ih => rw [List.map_cons, ← ih]; rfl
def K0b (v : K00) : AV := .agg [.int .i64 v.fOp, .int .i64 v.fN, .sl (List.map I v.fType), .sl (List.map K05 v.fKids)]
theorem K0c (v : K00) : K05 v = AV.agg [.int .i64 v.fOp, .int .i64 v.fN, .sl (List.map I v.fType), .sl (List.map K05 v.fKids)] := by
  cases v
  rw [K05, K07]
def K0d (v : K00) : AV := .agg [.int .i64 v.fOp, .int .i64 v.fN, .osl (List.map I v.fType), .osl (List.map K08 v.fKids)]
theorem K0e (v : K00) : K08 v = AV.agg [.int .i64 v.fOp, .int .i64 v.fN, .osl (List.map I v.fType), .osl (List.map K08 v.fKids)] := by
  cases v
  rw [K08, K0a]
def K0f (v : K01) : AV := .agg [.sl (List.map U8 v.fb), .int .i64 v.fi, .int .i64 v.fh]
def K0g (v : K01) : AV := .agg [.osl (List.map U8 v.fb), .int .i64 v.fi, .int .i64 v.fh]
def K0h (v : K02) : AV := .agg [.int .i64 v.fSize, .sl (List.map I v.fPlus), .sl (List.map I v.fTimes), .sl (List.map AV.bool v.fBelow)]
def K0i (v : K02) : AV := .agg [.int .i64 v.fSize, .osl (List.map I v.fPlus), .osl (List.map I v.fTimes), .osl (List.map AV.bool v.fBelow)]
def K0j (v : K03) : AV := .agg [.sl (List.map I v.fty), .sl (List.map I v.fneeds), .int .i64 v.ffault, .sl (List.map I v.fpath)]
def K0k (v : K03) : AV := .agg [.osl (List.map I v.fty), .osl (List.map I v.fneeds), .int .i64 v.ffault, .osl (List.map I v.fpath)]
def K0l (v : K04) : AV := .agg [.str v.fword, .int .i64 v.fkids, .bool v.fgrade, .bool v.ftyped]
def K0m (v : List Int) : AV := .osl (List.map I v)
theorem K0n (v : List Int) : K0m v = AV.osl (List.map I v) := rfl
theorem K0o (v : List Int) : (cellsOf (K0m v)).length = 1 := rfl
theorem K0p (v : List Int) : Q5q 1 (K0m v) = true := rfl
def K0q (v : List Int) : AV := .sl (List.map I v)
theorem K0r (v : List Int) : K0q v = AV.sl (List.map I v) := rfl
theorem K0s (v : List Int) : (cellsOf (K0q v)).length = 1 := rfl
theorem K0t (v : List Int) : Q5q 1 (K0q v) = true := rfl
theorem K0u (l : List (List Int)) : Q02 (List.map K0q l) = List.map K0q l := Qea (fun _ => rfl) l
theorem K0v (l : List (List Int)) : Q02 (List.map K0m l) = List.map K0q l := Qea (fun v => by show AV.sl (Q02 _) = _; rw [Qeb]; rfl) l
theorem K0w (v : List Int) : noSh (K0m v) = true := Qej Qef v
theorem K0x (v : K00) : (cellsOf (K05 v)).length = 4 := by rw [K0c]; rfl
theorem K0y (v : K00) : Q5q 4 (K05 v) = true := by rw [K0c]; rfl
theorem K0z (l : List K00) : Q02 (List.map K05 l) = List.map K05 l := Qea (fun v => by rw [K0c]; rfl) l
theorem K10 (v : K00) : (cellsOf (K08 v)).length = 4 := by rw [K0e]; rfl
theorem K11 (v : K00) : Q5q 4 (K08 v) = true := by rw [K0e]; rfl
mutual
theorem K12 : ∀ v : K00, share (K08 v) = K05 v
  | ⟨x0, x1, x2, x3⟩ => by
    rw [K08, K05]
    simp only [share, Q02, Qeb, K13]
theorem K13 : ∀ l : List K00, Q02 (K09 l) = K06 l
  | [] => rfl
  | x :: xs => by
    rw [K09, K06, Q02, K12 x, K13 xs]
end
theorem K14 (l : List K00) : Q02 (List.map K08 l) = List.map K05 l := Qea K12 l
mutual
theorem K15 : ∀ v : K00, noSh (K08 v) = true
  | ⟨x0, x1, x2, x3⟩ => by
    rw [K08]
    simp only [noSh, Q76, Qek Qef, K16, Bool.and_self]
theorem K16 : ∀ l : List K00, Q76 (K09 l) = true
  | [] => rfl
  | x :: xs => by
    rw [K09, Q76, K15 x, K16 xs]; rfl
end
theorem K17 (v : K04) : K0l v = AV.agg [.str v.fword, .int .i64 v.fkids, .bool v.fgrade, .bool v.ftyped] := rfl
theorem K18 (v : K04) : (cellsOf (K0l v)).length = 4 := rfl
theorem K19 (v : K04) : Q5q 4 (K0l v) = true := rfl
theorem K1a (l : List K04) : Q02 (List.map K0l l) = List.map K0l l := Qea (fun _ => rfl) l
theorem K1b (v : K04) : noSh (K0l v) = true := rfl
abbrev K1c (v : K00) : Q09 := .box [.int .i64 v.fOp, .int .i64 v.fN, .sl (List.map I v.fType), .sl (List.map K05 v.fKids)]
abbrev K1d (v : K00) : AV := .agg [.int .i64 v.fOp, .int .i64 v.fN, .sl (List.map I v.fType), .sl (List.map K05 v.fKids)]
abbrev K1e (v : K01) : Q09 := .box [.sl (List.map U8 v.fb), .int .i64 v.fi, .int .i64 v.fh]
abbrev K1f (v : K01) : AV := .agg [.sl (List.map U8 v.fb), .int .i64 v.fi, .int .i64 v.fh]
abbrev K1g (v : K02) : Q09 := .box [.int .i64 v.fSize, .sl (List.map I v.fPlus), .sl (List.map I v.fTimes), .sl (List.map AV.bool v.fBelow)]
abbrev K1h (v : K02) : AV := .agg [.int .i64 v.fSize, .sl (List.map I v.fPlus), .sl (List.map I v.fTimes), .sl (List.map AV.bool v.fBelow)]
abbrev K1i (v : K03) : Q09 := .box [.sl (List.map I v.fty), .sl (List.map I v.fneeds), .int .i64 v.ffault, .sl (List.map I v.fpath)]
abbrev K1j (v : K03) : AV := .agg [.sl (List.map I v.fty), .sl (List.map I v.fneeds), .int .i64 v.ffault, .sl (List.map I v.fpath)]
abbrev K1k (v : K00) : AV := .agg [.int .i64 v.fOp, .int .i64 v.fN, .osl (List.map I v.fType), .osl (List.map K08 v.fKids)]
abbrev K1l (v : K00) : AV := .agg [.int .i64 v.fOp, .int .i64 v.fN, .sl (Q02 (List.map I v.fType)), .sl (Q02 (List.map K08 v.fKids))]
abbrev K1m (v : K01) : AV := .agg [.osl (List.map U8 v.fb), .int .i64 v.fi, .int .i64 v.fh]
abbrev K1n (v : K01) : AV := .agg [.sl (Q02 (List.map U8 v.fb)), .int .i64 v.fi, .int .i64 v.fh]
abbrev K1o (v : K02) : AV := .agg [.int .i64 v.fSize, .osl (List.map I v.fPlus), .osl (List.map I v.fTimes), .osl (List.map AV.bool v.fBelow)]
abbrev K1p (v : K02) : AV := .agg [.int .i64 v.fSize, .sl (Q02 (List.map I v.fPlus)), .sl (Q02 (List.map I v.fTimes)), .sl (Q02 (List.map AV.bool v.fBelow))]
abbrev K1q (v : K03) : AV := .agg [.osl (List.map I v.fty), .osl (List.map I v.fneeds), .int .i64 v.ffault, .osl (List.map I v.fpath)]
abbrev K1r (v : K03) : AV := .agg [.sl (Q02 (List.map I v.fty)), .sl (Q02 (List.map I v.fneeds)), .int .i64 v.ffault, .sl (Q02 (List.map I v.fpath))]
end Go.Am
