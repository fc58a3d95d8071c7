/- The types of the program as pure types, and their abstract values. Printed by a program of mine (gen.py). -/
import Derived.Test.YtmcpomoofkjfcaaGreatAmUK
set_option linter.unusedVariables false
set_option linter.unusedSimpArgs false
set_option maxRecDepth 100000
namespace Go.Am
structure K00 where
  fSize : Int
  fPlus : List Int
  fTimes : List Int
  fBelow : List Bool
  deriving Inhabited
structure K01 where
  fOp : Int
  fN : Int
  fType : List Int
  fKids : List K01
  deriving Inhabited
structure K02 where
  fty : List Int
  fneeds : List Int
  ffault : Int
  fpath : List Int
  deriving Inhabited
structure K03 where
  fty : List Int
  fneeds : List Int
  fkids : List K03
  ffault : Int
  fpath : List Int
  deriving Inhabited
structure K04 where
  fword : ByteArray
  fkids : Int
  fgrade : Bool
  ftyped : Bool
  deriving Inhabited
structure K05 where
  fs : K00
  deriving Inhabited
mutual
def K06 : K03 → AV
  | ⟨x0, x1, x2, x3, x4⟩ => .ptr [.sl (List.map I x0), .sl (List.map I x1), .sl (K07 x2), .int .i64 x3, .sl (List.map I x4)] 0
def K07 : List K03 → List AV
  | [] => []
  | x :: xs => K06 x :: K07 xs
end
theorem K08 (l : List K03) : K07 l = List.map K06 l := by
  induction l with
  | nil => rfl
  | cons x xs ih => rw [List.map_cons, ← ih]; rfl
theorem K09 (v : K03) : K06 v = AV.ptr [.sl (List.map I v.fty), .sl (List.map I v.fneeds), .sl (List.map K06 v.fkids), .int .i64 v.ffault, .sl (List.map I v.fpath)] 0 := by
  cases v
  rw [K06, K08]
def K0a : Option K03 → AV
  | none => .nilp
  | some v => .ptr [.sl (List.map I v.fty), .sl (List.map I v.fneeds), .sl (List.map K06 v.fkids), .int .i64 v.ffault, .sl (List.map I v.fpath)] 0
theorem K0b (v : K03) : (cellsOf (K06 v)).length = 1 := by rw [K09]; rfl
theorem K0c (v : K03) : Q5m 1 (K06 v) = true := by rw [K09]; rfl
theorem K0d (l : List K03) : Q02 (List.map K06 l) = List.map K06 l := Qdk (fun v => by rw [K09]; rfl) l
def K0e (v : K00) : AV := .agg [.int .i64 v.fSize, .sl (List.map I v.fPlus), .sl (List.map I v.fTimes), .sl (List.map AV.bool v.fBelow)]
def K0f (v : K00) : AV := .agg [.int .i64 v.fSize, .osl (List.map I v.fPlus), .osl (List.map I v.fTimes), .osl (List.map AV.bool v.fBelow)]
mutual
def K0g : K01 → AV
  | ⟨x0, x1, x2, x3⟩ => .agg [.int .i64 x0, .int .i64 x1, .sl (List.map I x2), .sl (K0h x3)]
def K0h : List K01 → List AV
  | [] => []
  | x :: xs => K0g x :: K0h xs
end
theorem K0i (l : List K01) : K0h l = List.map K0g l := by
  induction l with
  | nil => rfl
  | cons x xs ih => rw [List.map_cons, ← ih]; rfl
mutual
def K0j : K01 → AV
  | ⟨x0, x1, x2, x3⟩ => .agg [.int .i64 x0, .int .i64 x1, .osl (List.map I x2), .osl (K0k x3)]
def K0k : List K01 → List AV
  | [] => []
  | x :: xs => K0j x :: K0k xs
end
theorem K0l (l : List K01) : K0k l = List.map K0j l := by
  induction l with
  | nil => rfl
  | cons x xs ih => rw [List.map_cons, ← ih]; rfl
def K0m (v : K01) : AV := .agg [.int .i64 v.fOp, .int .i64 v.fN, .sl (List.map I v.fType), .sl (List.map K0g v.fKids)]
theorem K0n (v : K01) : K0g v = AV.agg [.int .i64 v.fOp, .int .i64 v.fN, .sl (List.map I v.fType), .sl (List.map K0g v.fKids)] := by
  cases v
  rw [K0g, K0i]
def K0o (v : K01) : AV := .agg [.int .i64 v.fOp, .int .i64 v.fN, .osl (List.map I v.fType), .osl (List.map K0j v.fKids)]
theorem K0p (v : K01) : K0j v = AV.agg [.int .i64 v.fOp, .int .i64 v.fN, .osl (List.map I v.fType), .osl (List.map K0j v.fKids)] := by
  cases v
  rw [K0j, K0l]
def K0q (v : K02) : AV := .agg [.sl (List.map I v.fty), .sl (List.map I v.fneeds), .int .i64 v.ffault, .sl (List.map I v.fpath)]
def K0r (v : K02) : AV := .agg [.osl (List.map I v.fty), .osl (List.map I v.fneeds), .int .i64 v.ffault, .osl (List.map I v.fpath)]
def K0s (v : K03) : AV := .agg [.sl (List.map I v.fty), .sl (List.map I v.fneeds), .sl (List.map K06 v.fkids), .int .i64 v.ffault, .sl (List.map I v.fpath)]
def K0t (v : K03) : AV := .agg [.osl (List.map I v.fty), .osl (List.map I v.fneeds), .osl (List.map K06 v.fkids), .int .i64 v.ffault, .osl (List.map I v.fpath)]
def K0u (v : K04) : AV := .agg [.str v.fword, .int .i64 v.fkids, .bool v.fgrade, .bool v.ftyped]
def K0v (v : K05) : AV := .agg [.int .i64 v.fs.fSize, .sl (List.map I v.fs.fPlus), .sl (List.map I v.fs.fTimes), .sl (List.map AV.bool v.fs.fBelow)]
def K0w (v : K05) : AV := .agg [.int .i64 v.fs.fSize, .osl (List.map I v.fs.fPlus), .osl (List.map I v.fs.fTimes), .osl (List.map AV.bool v.fs.fBelow)]
theorem K0x (v : K01) : (cellsOf (K0g v)).length = 4 := by rw [K0n]; rfl
theorem K0y (v : K01) : Q5m 4 (K0g v) = true := by rw [K0n]; rfl
theorem K0z (l : List K01) : Q02 (List.map K0g l) = List.map K0g l := Qdk (fun v => by rw [K0n]; rfl) l
def K10 (v : List Int) : AV := .sl (List.map I v)
theorem K11 (v : List Int) : K10 v = AV.sl (List.map I v) := rfl
theorem K12 (v : List Int) : (cellsOf (K10 v)).length = 1 := rfl
theorem K13 (v : List Int) : Q5m 1 (K10 v) = true := rfl
theorem K14 (l : List (List Int)) : Q02 (List.map K10 l) = List.map K10 l := Qdk (fun _ => rfl) l
def K15 (v : List Int) : AV := .osl (List.map I v)
theorem K16 (v : List Int) : K15 v = AV.osl (List.map I v) := rfl
theorem K17 (v : List Int) : (cellsOf (K15 v)).length = 1 := rfl
theorem K18 (v : List Int) : Q5m 1 (K15 v) = true := rfl
theorem K19 (l : List (List Int)) : Q02 (List.map K15 l) = List.map K10 l := Qdk (fun v => by show AV.sl (Q02 _) = _; rw [Qdl]; rfl) l
theorem K1a (v : List Int) : noSh (K15 v) = true := Qdt Qdp v
theorem K1b (v : K01) : (cellsOf (K0j v)).length = 4 := by rw [K0p]; rfl
theorem K1c (v : K01) : Q5m 4 (K0j v) = true := by rw [K0p]; rfl
mutual
theorem K1d : ∀ v : K01, share (K0j v) = K0g v
  | ⟨x0, x1, x2, x3⟩ => by
    rw [K0j, K0g]
    simp only [share, Q02, Qdl, K1e]
theorem K1e : ∀ l : List K01, Q02 (K0k l) = K0h l
  | [] => rfl
  | x :: xs => by
    rw [K0k, K0h, Q02, K1d x, K1e xs]
end
theorem K1f (l : List K01) : Q02 (List.map K0j l) = List.map K0g l := Qdk K1d l
mutual
theorem K1g : ∀ v : K01, noSh (K0j v) = true
  | ⟨x0, x1, x2, x3⟩ => by
    rw [K0j]
    simp only [noSh, Q72, Qdu Qdp, K1h, Bool.and_self]
theorem K1h : ∀ l : List K01, Q72 (K0k l) = true
  | [] => rfl
  | x :: xs => by
    rw [K0k, Q72, K1g x, K1h xs]; rfl
end
theorem K1i (v : K04) : K0u v = AV.agg [.str v.fword, .int .i64 v.fkids, .bool v.fgrade, .bool v.ftyped] := rfl
theorem K1j (v : K04) : (cellsOf (K0u v)).length = 4 := rfl
theorem K1k (v : K04) : Q5m 4 (K0u v) = true := rfl
theorem K1l (l : List K04) : Q02 (List.map K0u l) = List.map K0u l := Qdk (fun _ => rfl) l
theorem K1m (v : K04) : noSh (K0u v) = true := rfl
def K1n (v : List (List Int)) : AV := .sl (List.map K10 v)
theorem K1o (v : List (List Int)) : K1n v = AV.sl (List.map K10 v) := rfl
theorem K1p (v : List (List Int)) : (cellsOf (K1n v)).length = 1 := rfl
theorem K1q (v : List (List Int)) : Q5m 1 (K1n v) = true := rfl
theorem K1r (l : List (List (List Int))) : Q02 (List.map K1n l) = List.map K1n l := Qdk (fun _ => rfl) l
abbrev K1s (v : K00) : Q09 := .box [.int .i64 v.fSize, .sl (List.map I v.fPlus), .sl (List.map I v.fTimes), .sl (List.map AV.bool v.fBelow)]
abbrev K1t (v : K00) : AV := .agg [.int .i64 v.fSize, .sl (List.map I v.fPlus), .sl (List.map I v.fTimes), .sl (List.map AV.bool v.fBelow)]
abbrev K1u (v : K01) : Q09 := .box [.int .i64 v.fOp, .int .i64 v.fN, .sl (List.map I v.fType), .sl (List.map K0g v.fKids)]
abbrev K1v (v : K01) : AV := .agg [.int .i64 v.fOp, .int .i64 v.fN, .sl (List.map I v.fType), .sl (List.map K0g v.fKids)]
abbrev K1w (v : K02) : Q09 := .box [.sl (List.map I v.fty), .sl (List.map I v.fneeds), .int .i64 v.ffault, .sl (List.map I v.fpath)]
abbrev K1x (v : K02) : AV := .agg [.sl (List.map I v.fty), .sl (List.map I v.fneeds), .int .i64 v.ffault, .sl (List.map I v.fpath)]
abbrev K1y (v : K03) : Q09 := .box [.sl (List.map I v.fty), .sl (List.map I v.fneeds), .sl (List.map K06 v.fkids), .int .i64 v.ffault, .sl (List.map I v.fpath)]
abbrev K1z (v : K03) : AV := .agg [.sl (List.map I v.fty), .sl (List.map I v.fneeds), .sl (List.map K06 v.fkids), .int .i64 v.ffault, .sl (List.map I v.fpath)]
abbrev K20 (v : K05) : Q09 := .box [.int .i64 v.fs.fSize, .sl (List.map I v.fs.fPlus), .sl (List.map I v.fs.fTimes), .sl (List.map AV.bool v.fs.fBelow)]
abbrev K21 (v : K05) : AV := .agg [.int .i64 v.fs.fSize, .sl (List.map I v.fs.fPlus), .sl (List.map I v.fs.fTimes), .sl (List.map AV.bool v.fs.fBelow)]
abbrev K22 (v : K00) : AV := .agg [.int .i64 v.fSize, .osl (List.map I v.fPlus), .osl (List.map I v.fTimes), .osl (List.map AV.bool v.fBelow)]
abbrev K23 (v : K00) : AV := .agg [.int .i64 v.fSize, .sl (Q02 (List.map I v.fPlus)), .sl (Q02 (List.map I v.fTimes)), .sl (Q02 (List.map AV.bool v.fBelow))]
abbrev K24 (v : K01) : AV := .agg [.int .i64 v.fOp, .int .i64 v.fN, .osl (List.map I v.fType), .osl (List.map K0j v.fKids)]
abbrev K25 (v : K01) : AV := .agg [.int .i64 v.fOp, .int .i64 v.fN, .sl (Q02 (List.map I v.fType)), .sl (Q02 (List.map K0j v.fKids))]
abbrev K26 (v : K02) : AV := .agg [.osl (List.map I v.fty), .osl (List.map I v.fneeds), .int .i64 v.ffault, .osl (List.map I v.fpath)]
abbrev K27 (v : K02) : AV := .agg [.sl (Q02 (List.map I v.fty)), .sl (Q02 (List.map I v.fneeds)), .int .i64 v.ffault, .sl (Q02 (List.map I v.fpath))]
abbrev K28 (v : K03) : AV := .agg [.osl (List.map I v.fty), .osl (List.map I v.fneeds), .osl (List.map K06 v.fkids), .int .i64 v.ffault, .osl (List.map I v.fpath)]
abbrev K29 (v : K03) : AV := .agg [.sl (Q02 (List.map I v.fty)), .sl (Q02 (List.map I v.fneeds)), .sl (Q02 (List.map K06 v.fkids)), .int .i64 v.ffault, .sl (Q02 (List.map I v.fpath))]
abbrev K2a (v : K05) : AV := .agg [.int .i64 v.fs.fSize, .osl (List.map I v.fs.fPlus), .osl (List.map I v.fs.fTimes), .osl (List.map AV.bool v.fs.fBelow)]
abbrev K2b (v : K05) : AV := .agg [.int .i64 v.fs.fSize, .sl (Q02 (List.map I v.fs.fPlus)), .sl (Q02 (List.map I v.fs.fTimes)), .sl (Q02 (List.map AV.bool v.fs.fBelow))]
end Go.Am
