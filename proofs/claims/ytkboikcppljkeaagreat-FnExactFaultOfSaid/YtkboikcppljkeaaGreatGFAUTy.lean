/- The types of the program as pure types, and their abstract values. Printed by a program of mine (gen.py). -/
import Derived.Test.YtkboikcppljkeaaGreatAmUK
set_option linter.unusedVariables false
set_option linter.unusedSimpArgs false
set_option maxRecDepth 100000
namespace Go.Am
structure K00 where
  fSize : Int
  fPlus : List Int
  fTimes : List Int
  fBelow : List Bool
  deriving Inhabited
structure K01 where
  fOp : Int
  fN : Int
  fType : List Int
  fKids : List K01
  deriving Inhabited
structure K02 where
  fty : List Int
  fneeds : List Int
  ffault : Int
  fpath : List Int
  deriving Inhabited
structure K03 where
  fty : List Int
  fneeds : List Int
  fkids : List K03
  ffault : Int
  fpath : List Int
  deriving Inhabited
structure K04 where
  fword : ByteArray
  fkids : Int
  fgrade : Bool
  ftyped : Bool
  deriving Inhabited
structure K05 where
  fs : K00
  deriving Inhabited
mutual
def K06 : K03 → AV
  | ⟨x0, x1, x2, x3, x4⟩ => .ptr [.sl (List.map I x0), .sl (List.map I x1), .sl (K07 x2), .int .i64 x3, .sl (List.map I x4)] 0
def K07 : List K03 → List AV
  | [] => []
  | x :: xs => K06 x :: K07 xs
end
theorem K08 (l : List K03) : K07 l = List.map K06 l := by
  induction l with
  | nil => rfl
  | cons x xs ih => rw [List.map_cons, ← ih]; rfl
theorem K09 (v : K03) : K06 v = AV.ptr [.sl (List.map I v.fty), .sl (List.map I v.fneeds), .sl (List.map K06 v.fkids), .int .i64 v.ffault, .sl (List.map I v.fpath)] 0 := by
  cases v
  rw [K06, K08]
def K0a : Option K03 → AV
  | none => .nilp
  | some v => .ptr [.sl (List.map I v.fty), .sl (List.map I v.fneeds), .sl (List.map K06 v.fkids), .int .i64 v.ffault, .sl (List.map I v.fpath)] 0
def K0b : Option K03 → AV
  | none => .nilp
  | some v => .optr [.sl (List.map I v.fty), .sl (List.map I v.fneeds), .sl (List.map K06 v.fkids), .int .i64 v.ffault, .osl (List.map I v.fpath)]
theorem K0c (v : K03) : (cellsOf (K06 v)).length = 1 := by rw [K09]; rfl
theorem K0d (v : K03) : Q5m 1 (K06 v) = true := by rw [K09]; rfl
theorem K0e (l : List K03) : Q02 (List.map K06 l) = List.map K06 l := Qe4 (fun v => by rw [K09]; rfl) l
def K0f (v : K00) : AV := .agg [.int .i64 v.fSize, .sl (List.map I v.fPlus), .sl (List.map I v.fTimes), .sl (List.map AV.bool v.fBelow)]
def K0g (v : K00) : AV := .agg [.int .i64 v.fSize, .osl (List.map I v.fPlus), .osl (List.map I v.fTimes), .osl (List.map AV.bool v.fBelow)]
mutual
def K0h : K01 → AV
  | ⟨x0, x1, x2, x3⟩ => .agg [.int .i64 x0, .int .i64 x1, .sl (List.map I x2), .sl (K0i x3)]
def K0i : List K01 → List AV
  | [] => []
  | x :: xs => K0h x :: K0i xs
end
theorem K0j (l : List K01) : K0i l = List.map K0h l := by
  induction l with
  | nil => rfl
  | cons x xs ih => rw [List.map_cons, ← ih]; rfl
mutual
def K0k : K01 → AV
  | ⟨x0, x1, x2, x3⟩ => .agg [.int .i64 x0, .int .i64 x1, .osl (List.map I x2), .osl (K0l x3)]
def K0l : List K01 → List AV
  | [] => []
  | x :: xs => K0k x :: K0l xs
end
theorem K0m (l : List K01) : K0l l = List.map K0k l := by
  induction l with
  | nil => rfl
  | cons x xs ih => rw [List.map_cons, ← ih]; rfl
def K0n (v : K01) : AV := .agg [.int .i64 v.fOp, .int .i64 v.fN, .sl (List.map I v.fType), .sl (List.map K0h v.fKids)]
theorem K0o (v : K01) : K0h v = AV.agg [.int .i64 v.fOp, .int .i64 v.fN, .sl (List.map I v.fType), .sl (List.map K0h v.fKids)] := by
  cases v
  rw [K0h, K0j]
def K0p (v : K01) : AV := .agg [.int .i64 v.fOp, .int .i64 v.fN, .osl (List.map I v.fType), .osl (List.map K0k v.fKids)]
theorem K0q (v : K01) : K0k v = AV.agg [.int .i64 v.fOp, .int .i64 v.fN, .osl (List.map I v.fType), .osl (List.map K0k v.fKids)] := by
  cases v
  rw [K0k, K0m]
def K0r (v : K02) : AV := .agg [.sl (List.map I v.fty), .sl (List.map I v.fneeds), .int .i64 v.ffault, .sl (List.map I v.fpath)]
def K0s (v : K02) : AV := .agg [.osl (List.map I v.fty), .osl (List.map I v.fneeds), .int .i64 v.ffault, .osl (List.map I v.fpath)]
def K0t (v : K03) : AV := .agg [.sl (List.map I v.fty), .sl (List.map I v.fneeds), .sl (List.map K06 v.fkids), .int .i64 v.ffault, .sl (List.map I v.fpath)]
def K0u (v : K03) : AV := .agg [.osl (List.map I v.fty), .osl (List.map I v.fneeds), .osl (List.map K06 v.fkids), .int .i64 v.ffault, .osl (List.map I v.fpath)]
def K0v (v : K04) : AV := .agg [.str v.fword, .int .i64 v.fkids, .bool v.fgrade, .bool v.ftyped]
def K0w (v : K05) : AV := .agg [.int .i64 v.fs.fSize, .sl (List.map I v.fs.fPlus), .sl (List.map I v.fs.fTimes), .sl (List.map AV.bool v.fs.fBelow)]
def K0x (v : K05) : AV := .agg [.int .i64 v.fs.fSize, .osl (List.map I v.fs.fPlus), .osl (List.map I v.fs.fTimes), .osl (List.map AV.bool v.fs.fBelow)]
theorem K0y (v : K01) : (cellsOf (K0h v)).length = 4 := by rw [K0o]; rfl
theorem K0z (v : K01) : Q5m 4 (K0h v) = true := by rw [K0o]; rfl
theorem K10 (l : List K01) : Q02 (List.map K0h l) = List.map K0h l := Qe4 (fun v => by rw [K0o]; rfl) l
def K11 (v : List Int) : AV := .sl (List.map I v)
theorem K12 (v : List Int) : K11 v = AV.sl (List.map I v) := rfl
theorem K13 (v : List Int) : (cellsOf (K11 v)).length = 1 := rfl
theorem K14 (v : List Int) : Q5m 1 (K11 v) = true := rfl
theorem K15 (l : List (List Int)) : Q02 (List.map K11 l) = List.map K11 l := Qe4 (fun _ => rfl) l
def K16 (v : List Int) : AV := .osl (List.map I v)
theorem K17 (v : List Int) : K16 v = AV.osl (List.map I v) := rfl
theorem K18 (v : List Int) : (cellsOf (K16 v)).length = 1 := rfl
theorem K19 (v : List Int) : Q5m 1 (K16 v) = true := rfl
theorem K1a (l : List (List Int)) : Q02 (List.map K16 l) = List.map K11 l := Qe4 (fun v => by show AV.sl (Q02 _) = _; rw [Qe5]; rfl) l
theorem K1b (v : List Int) : noSh (K16 v) = true := Qed Qe9 v
theorem K1c (v : K01) : (cellsOf (K0k v)).length = 4 := by rw [K0q]; rfl
theorem K1d (v : K01) : Q5m 4 (K0k v) = true := by rw [K0q]; rfl
mutual
theorem K1e : ∀ v : K01, share (K0k v) = K0h v
  | ⟨x0, x1, x2, x3⟩ => by
    rw [K0k, K0h]
    simp only [share, Q02, Qe5, K1f]
theorem K1f : ∀ l : List K01, Q02 (K0l l) = K0i l
  | [] => rfl
  | x :: xs => by
    rw [K0l, K0i, Q02, K1e x, K1f xs]
end
theorem K1g (l : List K01) : Q02 (List.map K0k l) = List.map K0h l := Qe4 K1e l
mutual
theorem K1h : ∀ v : K01, noSh (K0k v) = true
  | ⟨x0, x1, x2, x3⟩ => by
    rw [K0k]
    simp only [noSh, Q72, Qee Qe9, K1i, Bool.and_self]
theorem K1i : ∀ l : List K01, Q72 (K0l l) = true
  | [] => rfl
  | x :: xs => by
    rw [K0l, Q72, K1h x, K1i xs]; rfl
end
theorem K1j (v : K04) : K0v v = AV.agg [.str v.fword, .int .i64 v.fkids, .bool v.fgrade, .bool v.ftyped] := rfl
theorem K1k (v : K04) : (cellsOf (K0v v)).length = 4 := rfl
theorem K1l (v : K04) : Q5m 4 (K0v v) = true := rfl
theorem K1m (l : List K04) : Q02 (List.map K0v l) = List.map K0v l := Qe4 (fun _ => rfl) l
theorem K1n (v : K04) : noSh (K0v v) = true := rfl
def K1o (v : List (List Int)) : AV := .sl (List.map K11 v)
theorem K1p (v : List (List Int)) : K1o v = AV.sl (List.map K11 v) := rfl
theorem K1q (v : List (List Int)) : (cellsOf (K1o v)).length = 1 := rfl
theorem K1r (v : List (List Int)) : Q5m 1 (K1o v) = true := rfl
theorem K1s (l : List (List (List Int))) : Q02 (List.map K1o l) = List.map K1o l := Qe4 (fun _ => rfl) l
abbrev K1t (v : K00) : Q09 := .box [.int .i64 v.fSize, .sl (List.map I v.fPlus), .sl (List.map I v.fTimes), .sl (List.map AV.bool v.fBelow)]
abbrev K1u (v : K00) : AV := .agg [.int .i64 v.fSize, .sl (List.map I v.fPlus), .sl (List.map I v.fTimes), .sl (List.map AV.bool v.fBelow)]
abbrev K1v (v : K01) : Q09 := .box [.int .i64 v.fOp, .int .i64 v.fN, .sl (List.map I v.fType), .sl (List.map K0h v.fKids)]
abbrev K1w (v : K01) : AV := .agg [.int .i64 v.fOp, .int .i64 v.fN, .sl (List.map I v.fType), .sl (List.map K0h v.fKids)]
abbrev K1x (v : K02) : Q09 := .box [.sl (List.map I v.fty), .sl (List.map I v.fneeds), .int .i64 v.ffault, .sl (List.map I v.fpath)]
abbrev K1y (v : K02) : AV := .agg [.sl (List.map I v.fty), .sl (List.map I v.fneeds), .int .i64 v.ffault, .sl (List.map I v.fpath)]
abbrev K1z (v : K03) : Q09 := .box [.sl (List.map I v.fty), .sl (List.map I v.fneeds), .sl (List.map K06 v.fkids), .int .i64 v.ffault, .sl (List.map I v.fpath)]
abbrev K20 (v : K03) : AV := .agg [.sl (List.map I v.fty), .sl (List.map I v.fneeds), .sl (List.map K06 v.fkids), .int .i64 v.ffault, .sl (List.map I v.fpath)]
abbrev K21 (v : K05) : Q09 := .box [.int .i64 v.fs.fSize, .sl (List.map I v.fs.fPlus), .sl (List.map I v.fs.fTimes), .sl (List.map AV.bool v.fs.fBelow)]
abbrev K22 (v : K05) : AV := .agg [.int .i64 v.fs.fSize, .sl (List.map I v.fs.fPlus), .sl (List.map I v.fs.fTimes), .sl (List.map AV.bool v.fs.fBelow)]
abbrev K23 (v : K00) : AV := .agg [.int .i64 v.fSize, .osl (List.map I v.fPlus), .osl (List.map I v.fTimes), .osl (List.map AV.bool v.fBelow)]
abbrev K24 (v : K00) : AV := .agg [.int .i64 v.fSize, .sl (Q02 (List.map I v.fPlus)), .sl (Q02 (List.map I v.fTimes)), .sl (Q02 (List.map AV.bool v.fBelow))]
abbrev K25 (v : K01) : AV := .agg [.int .i64 v.fOp, .int .i64 v.fN, .osl (List.map I v.fType), .osl (List.map K0k v.fKids)]
abbrev K26 (v : K01) : AV := .agg [.int .i64 v.fOp, .int .i64 v.fN, .sl (Q02 (List.map I v.fType)), .sl (Q02 (List.map K0k v.fKids))]
abbrev K27 (v : K02) : AV := .agg [.osl (List.map I v.fty), .osl (List.map I v.fneeds), .int .i64 v.ffault, .osl (List.map I v.fpath)]
abbrev K28 (v : K02) : AV := .agg [.sl (Q02 (List.map I v.fty)), .sl (Q02 (List.map I v.fneeds)), .int .i64 v.ffault, .sl (Q02 (List.map I v.fpath))]
abbrev K29 (v : K03) : AV := .agg [.osl (List.map I v.fty), .osl (List.map I v.fneeds), .osl (List.map K06 v.fkids), .int .i64 v.ffault, .osl (List.map I v.fpath)]
abbrev K2a (v : K03) : AV := .agg [.sl (Q02 (List.map I v.fty)), .sl (Q02 (List.map I v.fneeds)), .sl (Q02 (List.map K06 v.fkids)), .int .i64 v.ffault, .sl (Q02 (List.map I v.fpath))]
abbrev K2b (v : K05) : AV := .agg [.int .i64 v.fs.fSize, .osl (List.map I v.fs.fPlus), .osl (List.map I v.fs.fTimes), .osl (List.map AV.bool v.fs.fBelow)]
abbrev K2c (v : K05) : AV := .agg [.int .i64 v.fs.fSize, .sl (Q02 (List.map I v.fs.fPlus)), .sl (Q02 (List.map I v.fs.fTimes)), .sl (Q02 (List.map AV.bool v.fs.fBelow))]
end Go.Am
