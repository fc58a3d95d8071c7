/- The types of the program as pure types, and their abstract values. Printed by a program of mine (gen.py). -/
import Derived.Test.YtckgdfakjjdodaaGreatAmUW
set_option linter.unusedVariables false
set_option linter.unusedSimpArgs false
set_option maxRecDepth 100000
namespace Go.Am
structure K00 where
  fSize : Int
  fPlus : List Int
  fTimes : List Int
  fBelow : List Bool
  deriving Inhabited
structure K01 where
  fOp : Int
  fN : Int
  fType : List Int
  fKids : List K01
  deriving Inhabited
structure K02 where
  fb : List Int
  fi : Int
  fh : Int
  deriving Inhabited
structure K03 where
  fword : ByteArray
  fkids : Int
  fgrade : Bool
  ftyped : Bool
  deriving Inhabited
mutual
def K06 : K01 → AV
  | ⟨x0, x1, x2, x3⟩ => .agg [.int .i64 x0, .int .i64 x1, .sl (List.map I x2), .sl (K07 x3)]
def K07 : List K01 → List AV
  | [] => []
  | x :: xs => K06 x :: K07 xs
end
theorem K08 (l : List K01) : K07 l = List.map K06 l := by
  induction l with
  | nil => rfl
  | cons x xs ih => rw [List.map_cons, ← ih]; rfl
mutual
def K09 : K01 → AV
  | ⟨x0, x1, x2, x3⟩ => .agg [.int .i64 x0, .int .i64 x1, .osl (List.map I x2), .osl (K0a x3)]
def K0a : List K01 → List AV
  | [] => []
  | x :: xs => K09 x :: K0a xs
end
theorem K0b (l : List K01) : K0a l = List.map K09 l := by
  induction l with
  | nil => rfl
  | cons x xs ih => rw [List.map_cons, ← ih]; rfl
theorem K0d (v : K01) : K06 v = AV.agg [.int .i64 v.fOp, .int .i64 v.fN, .sl (List.map I v.fType), .sl (List.map K06 v.fKids)] := by
  cases v
  rw [K06, K08]
theorem K0f (v : K01) : K09 v = AV.agg [.int .i64 v.fOp, .int .i64 v.fN, .osl (List.map I v.fType), .osl (List.map K09 v.fKids)] := by
  cases v
  rw [K09, K0b]
def K0i (v : K03) : AV := .agg [.str v.fword, .int .i64 v.fkids, .bool v.fgrade, .bool v.ftyped]
def K0j (v : List Int) : AV := .osl (List.map I v)
theorem K0m (v : List Int) : Q5q 1 (K0j v) = true := rfl
def K0n (v : List Int) : AV := .sl (List.map I v)
theorem K0o (v : List Int) : K0n v = AV.sl (List.map I v) := rfl
theorem K0p (v : List Int) : (cellsOf (K0n v)).length = 1 := rfl
theorem K0q (v : List Int) : Q5q 1 (K0n v) = true := rfl
theorem K0s (l : List (List Int)) : Q02 (List.map K0j l) = List.map K0n l := Qej (fun v => by show AV.sl (Q02 _) = _; rw [Qek]; rfl) l
theorem K0t (v : List Int) : noSh (K0j v) = true := Qes Qeo v
theorem K0u (v : K01) : (cellsOf (K06 v)).length = 4 := by rw [K0d]; rfl
theorem K0w (l : List K01) : Q02 (List.map K06 l) = List.map K06 l := Qej (fun v => by rw [K0d]; rfl) l
theorem K0x (v : K01) : (cellsOf (K09 v)).length = 4 := by rw [K0f]; rfl
theorem K0y (v : K01) : Q5q 4 (K09 v) = true := by rw [K0f]; rfl
mutual
theorem K0z : ∀ v : K01, share (K09 v) = K06 v
  | ⟨x0, x1, x2, x3⟩ => by
    rw [K09, K06]
    simp only [share, Q02, Qek, K10]
theorem K10 : ∀ l : List K01, Q02 (K0a l) = K07 l
  | [] => rfl
  | x :: xs => by
    rw [K0a, K07, Q02, K0z x, K10 xs]
end
theorem K11 (l : List K01) : Q02 (List.map K09 l) = List.map K06 l := Qej K0z l
mutual
theorem K12 : ∀ v : K01, noSh (K09 v) = true
  | ⟨x0, x1, x2, x3⟩ => by
    rw [K09]
    simp only [noSh, Q76, Qet Qeo, K13, Bool.and_self]
theorem K13 : ∀ l : List K01, Q76 (K0a l) = true
  | [] => rfl
  | x :: xs => by
    rw [K0a, Q76, K12 x, K13 xs]; rfl
end
theorem K14 (v : K03) : K0i v = AV.agg [.str v.fword, .int .i64 v.fkids, .bool v.fgrade, .bool v.ftyped] := rfl
abbrev K19 (v : K00) : Q09 := .box [.int .i64 v.fSize, .sl (List.map I v.fPlus), .sl (List.map I v.fTimes), .sl (List.map AV.bool v.fBelow)]
abbrev K1a (v : K00) : AV := .agg [.int .i64 v.fSize, .sl (List.map I v.fPlus), .sl (List.map I v.fTimes), .sl (List.map AV.bool v.fBelow)]
abbrev K1b (v : K01) : Q09 := .box [.int .i64 v.fOp, .int .i64 v.fN, .sl (List.map I v.fType), .sl (List.map K06 v.fKids)]
abbrev K1c (v : K01) : AV := .agg [.int .i64 v.fOp, .int .i64 v.fN, .sl (List.map I v.fType), .sl (List.map K06 v.fKids)]
abbrev K1d (v : K02) : Q09 := .box [.sl (List.map U8 v.fb), .int .i64 v.fi, .int .i64 v.fh]
abbrev K1f (v : K00) : AV := .agg [.int .i64 v.fSize, .osl (List.map I v.fPlus), .osl (List.map I v.fTimes), .osl (List.map AV.bool v.fBelow)]
abbrev K1g (v : K00) : AV := .agg [.int .i64 v.fSize, .sl (Q02 (List.map I v.fPlus)), .sl (Q02 (List.map I v.fTimes)), .sl (Q02 (List.map AV.bool v.fBelow))]
abbrev K1h (v : K01) : AV := .agg [.int .i64 v.fOp, .int .i64 v.fN, .osl (List.map I v.fType), .osl (List.map K09 v.fKids)]
abbrev K1i (v : K01) : AV := .agg [.int .i64 v.fOp, .int .i64 v.fN, .sl (Q02 (List.map I v.fType)), .sl (Q02 (List.map K09 v.fKids))]
end Go.Am
