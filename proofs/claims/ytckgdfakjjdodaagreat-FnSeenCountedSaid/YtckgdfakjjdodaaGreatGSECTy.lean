/- The types of the program as pure types, and their abstract values. Printed by a program of mine (gen.py). -/
import Derived.Test.YtckgdfakjjdodaaGreatAmUW
set_option linter.unusedVariables false
set_option linter.unusedSimpArgs false
set_option maxRecDepth 100000
namespace Go.Am
structure K00 where
  fSize : Int
  fPlus : List Int
  fTimes : List Int
  fBelow : List Bool
  deriving Inhabited
structure K01 where
  fb : List Int
  fi : Int
  fh : Int
  deriving Inhabited
structure K02 where
  fOp : Int
  fN : Int
  fType : List Int
  fKids : List K02
  deriving Inhabited
structure K03 where
  fword : ByteArray
  fkids : Int
  fgrade : Bool
  ftyped : Bool
  deriving Inhabited
def K04 (v : K00) : AV := .agg [.int .i64 v.fSize, .sl (List.map I v.fPlus), .sl (List.map I v.fTimes), .sl (List.map AV.bool v.fBelow)]
def K05 (v : K00) : AV := .agg [.int .i64 v.fSize, .osl (List.map I v.fPlus), .osl (List.map I v.fTimes), .osl (List.map AV.bool v.fBelow)]
def K06 (v : K01) : AV := .agg [.sl (List.map U8 v.fb), .int .i64 v.fi, .int .i64 v.fh]
def K07 (v : K01) : AV := .agg [.osl (List.map U8 v.fb), .int .i64 v.fi, .int .i64 v.fh]
mutual
def K08 : K02 → AV
  | ⟨x0, x1, x2, x3⟩ => .agg [.int .i64 x0, .int .i64 x1, .sl (List.map I x2), .sl (K09 x3)]
def K09 : List K02 → List AV
  | [] => []
  | x :: xs => K08 x :: K09 xs
end
theorem K0a (l : List K02) : K09 l = List.map K08 l := by
  induction l with
  | nil => rfl
  | cons x xs ih => rw [List.map_cons, ← ih]; rfl
mutual
def K0b : K02 → AV
  | ⟨x0, x1, x2, x3⟩ => .agg [.int .i64 x0, .int .i64 x1, .osl (List.map I x2), .osl (K0c x3)]
def K0c : List K02 → List AV
  | [] => []
  | x :: xs => K0b x :: K0c xs
end
theorem K0d (l : List K02) : K0c l = List.map K0b l := by
  induction l with
  | nil => rfl
  | cons x xs ih => rw [List.map_cons, ← ih]; rfl
def K0e (v : K02) : AV := .agg [.int .i64 v.fOp, .int .i64 v.fN, .sl (List.map I v.fType), .sl (List.map K08 v.fKids)]
theorem K0f (v : K02) : K08 v = AV.agg [.int .i64 v.fOp, .int .i64 v.fN, .sl (List.map I v.fType), .sl (List.map K08 v.fKids)] := by
  cases v
  rw [K08, K0a]
def K0g (v : K02) : AV := .agg [.int .i64 v.fOp, .int .i64 v.fN, .osl (List.map I v.fType), .osl (List.map K0b v.fKids)]
theorem K0h (v : K02) : K0b v = AV.agg [.int .i64 v.fOp, .int .i64 v.fN, .osl (List.map I v.fType), .osl (List.map K0b v.fKids)] := by
  cases v
  rw [K0b, K0d]
def K0i (v : K03) : AV := .agg [.str v.fword, .int .i64 v.fkids, .bool v.fgrade, .bool v.ftyped]
def K0j (v : List Int) : AV := .osl (List.map I v)
theorem K0k (v : List Int) : K0j v = AV.osl (List.map I v) := rfl
theorem K0l (v : List Int) : (cellsOf (K0j v)).length = 1 := rfl
theorem K0m (v : List Int) : Q5q 1 (K0j v) = true := rfl
def K0n (v : List Int) : AV := .sl (List.map I v)
theorem K0o (v : List Int) : K0n v = AV.sl (List.map I v) := rfl
theorem K0p (v : List Int) : (cellsOf (K0n v)).length = 1 := rfl
theorem K0q (v : List Int) : Q5q 1 (K0n v) = true := rfl
theorem K0r (l : List (List Int)) : Q02 (List.map K0n l) = List.map K0n l := Qej (fun _ => rfl) l
theorem K0s (l : List (List Int)) : Q02 (List.map K0j l) = List.map K0n l := Qej (fun v => by show AV.sl (Q02 _) = _; rw [Qek]; rfl) l
theorem K0t (v : List Int) : noSh (K0j v) = true := Qes Qeo v
theorem K0u (v : K02) : (cellsOf (K0b v)).length = 4 := by rw [K0h]; rfl
theorem K0v (v : K02) : Q5q 4 (K0b v) = true := by rw [K0h]; rfl
theorem K0w (v : K02) : (cellsOf (K08 v)).length = 4 := by rw [K0f]; rfl
theorem K0x (v : K02) : Q5q 4 (K08 v) = true := by rw [K0f]; rfl
theorem K0y (l : List K02) : Q02 (List.map K08 l) = List.map K08 l := Qej (fun v => by rw [K0f]; rfl) l
mutual
theorem K0z : ∀ v : K02, share (K0b v) = K08 v
  | ⟨x0, x1, x2, x3⟩ => by
    rw [K0b, K08]
    simp only [share, Q02, Qek, K10]
theorem K10 : ∀ l : List K02, Q02 (K0c l) = K09 l
  | [] => rfl
  | x :: xs => by
    rw [K0c, K09, Q02, K0z x, K10 xs]
end
theorem K11 (l : List K02) : Q02 (List.map K0b l) = List.map K08 l := Qej K0z l
mutual
theorem K12 : ∀ v : K02, noSh (K0b v) = true
  | ⟨x0, x1, x2, x3⟩ => by
    rw [K0b]
    simp only [noSh, Q76, Qet Qeo, K13, Bool.and_self]
theorem K13 : ∀ l : List K02, Q76 (K0c l) = true
  | [] => rfl
  | x :: xs => by
    rw [K0c, Q76, K12 x, K13 xs]; rfl
end
theorem K14 (v : K03) : K0i v = AV.agg [.str v.fword, .int .i64 v.fkids, .bool v.fgrade, .bool v.ftyped] := rfl
theorem K15 (v : K03) : (cellsOf (K0i v)).length = 4 := rfl
theorem K16 (v : K03) : Q5q 4 (K0i v) = true := rfl
theorem K17 (l : List K03) : Q02 (List.map K0i l) = List.map K0i l := Qej (fun _ => rfl) l
theorem K18 (v : K03) : noSh (K0i v) = true := rfl
abbrev K19 (v : K00) : Q09 := .box [.int .i64 v.fSize, .sl (List.map I v.fPlus), .sl (List.map I v.fTimes), .sl (List.map AV.bool v.fBelow)]
abbrev K1a (v : K00) : AV := .agg [.int .i64 v.fSize, .sl (List.map I v.fPlus), .sl (List.map I v.fTimes), .sl (List.map AV.bool v.fBelow)]
abbrev K1b (v : K01) : Q09 := .box [.sl (List.map U8 v.fb), .int .i64 v.fi, .int .i64 v.fh]
abbrev K1c (v : K01) : AV := .agg [.sl (List.map U8 v.fb), .int .i64 v.fi, .int .i64 v.fh]
abbrev K1d (v : K02) : Q09 := .box [.int .i64 v.fOp, .int .i64 v.fN, .sl (List.map I v.fType), .sl (List.map K08 v.fKids)]
abbrev K1e (v : K02) : AV := .agg [.int .i64 v.fOp, .int .i64 v.fN, .sl (List.map I v.fType), .sl (List.map K08 v.fKids)]
abbrev K1f (v : K00) : AV := .agg [.int .i64 v.fSize, .osl (List.map I v.fPlus), .osl (List.map I v.fTimes), .osl (List.map AV.bool v.fBelow)]
abbrev K1g (v : K00) : AV := .agg [.int .i64 v.fSize, .sl (Q02 (List.map I v.fPlus)), .sl (Q02 (List.map I v.fTimes)), .sl (Q02 (List.map AV.bool v.fBelow))]
abbrev K1h (v : K01) : AV := .agg [.osl (List.map U8 v.fb), .int .i64 v.fi, .int .i64 v.fh]
abbrev K1i (v : K01) : AV := .agg [.sl (Q02 (List.map U8 v.fb)), .int .i64 v.fi, .int .i64 v.fh]
abbrev K1j (v : K02) : AV := .agg [.int .i64 v.fOp, .int .i64 v.fN, .osl (List.map I v.fType), .osl (List.map K0b v.fKids)]
abbrev K1k (v : K02) : AV := .agg [.int .i64 v.fOp, .int .i64 v.fN, .sl (Q02 (List.map I v.fType)), .sl (Q02 (List.map K0b v.fKids))]
end Go.Am
