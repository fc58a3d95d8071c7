/- The types of the program as pure types, and their abstract values. Printed by a program of mine (gen.py). -/
import Derived.Test.YtkboikcppljkeaaGreatAmUK
set_option linter.unusedVariables false
set_option linter.unusedSimpArgs false
set_option maxRecDepth 100000
namespace Go.Am
structure K00 where
  fSize : Int
  fPlus : List Int
  fTimes : List Int
  fBelow : List Bool
  deriving Inhabited
structure K01 where
  fOp : Int
  fN : Int
  fType : List Int
  fKids : List K01
  deriving Inhabited
structure K02 where
  fCtx : List (List Int)
  fBudgets : List Int
  fTerm : K01
  fType : List Int
  fFrom : List Int
  deriving Inhabited
structure K03 where
  fty : List Int
  fneeds : List Int
  ffault : Int
  fpath : List Int
  deriving Inhabited
structure K04 where
  fty : List Int
  fneeds : List Int
  fkids : List K04
  ffault : Int
  fpath : List Int
  deriving Inhabited
structure K05 where
  fword : ByteArray
  fkids : Int
  fgrade : Bool
  ftyped : Bool
  deriving Inhabited
structure K06 where
  fs : K00
  deriving Inhabited
def K07 (v : List Int) : AV := .sl (List.map I v)
theorem K08 (v : List Int) : K07 v = AV.sl (List.map I v) := rfl
theorem K09 (v : List Int) : (cellsOf (K07 v)).length = 1 := rfl
theorem K0a (v : List Int) : Q5m 1 (K07 v) = true := rfl
theorem K0b (l : List (List Int)) : Q02 (List.map K07 l) = List.map K07 l := Qe4 (fun _ => rfl) l
def K0c (v : List Int) : AV := .osl (List.map I v)
theorem K0d (v : List Int) : K0c v = AV.osl (List.map I v) := rfl
theorem K0e (v : List Int) : (cellsOf (K0c v)).length = 1 := rfl
theorem K0f (v : List Int) : Q5m 1 (K0c v) = true := rfl
theorem K0g (l : List (List Int)) : Q02 (List.map K0c l) = List.map K07 l := Qe4 (fun v => by show AV.sl (Q02 _) = _; rw [Qe5]; rfl) l
theorem K0h (v : List Int) : noSh (K0c v) = true := Qed Qe9 v
mutual
def K0i : K04 → AV
  | ⟨x0, x1, x2, x3, x4⟩ => .ptr [.sl (List.map I x0), .sl (List.map I x1), .sl (K0j x2), .int .i64 x3, .sl (List.map I x4)] 0
def K0j : List K04 → List AV
  | [] => []
  | x :: xs => K0i x :: K0j xs
end
theorem K0k (l : List K04) : K0j l = List.map K0i l := by
  induction l with
  | nil => rfl
  | cons x xs ih => rw [List.map_cons, ← ih]; rfl
theorem K0l (v : K04) : K0i v = AV.ptr [.sl (List.map I v.fty), .sl (List.map I v.fneeds), .sl (List.map K0i v.fkids), .int .i64 v.ffault, .sl (List.map I v.fpath)] 0 := by
  cases v
  rw [K0i, K0k]
def K0m : Option K04 → AV
  | none => .nilp
  | some v => .ptr [.sl (List.map I v.fty), .sl (List.map I v.fneeds), .sl (List.map K0i v.fkids), .int .i64 v.ffault, .sl (List.map I v.fpath)] 0
theorem K0n (v : K04) : (cellsOf (K0i v)).length = 1 := by rw [K0l]; rfl
theorem K0o (v : K04) : Q5m 1 (K0i v) = true := by rw [K0l]; rfl
theorem K0p (l : List K04) : Q02 (List.map K0i l) = List.map K0i l := Qe4 (fun v => by rw [K0l]; rfl) l
def K0q (v : K00) : AV := .agg [.int .i64 v.fSize, .sl (List.map I v.fPlus), .sl (List.map I v.fTimes), .sl (List.map AV.bool v.fBelow)]
def K0r (v : K00) : AV := .agg [.int .i64 v.fSize, .osl (List.map I v.fPlus), .osl (List.map I v.fTimes), .osl (List.map AV.bool v.fBelow)]
mutual
def K0s : K01 → AV
  | ⟨x0, x1, x2, x3⟩ => .agg [.int .i64 x0, .int .i64 x1, .sl (List.map I x2), .sl (K0t x3)]
def K0t : List K01 → List AV
  | [] => []
  | x :: xs => K0s x :: K0t xs
end
theorem K0u (l : List K01) : K0t l = List.map K0s l := by
  induction l with
  | nil => rfl
  | cons x xs ih => rw [List.map_cons, ← ih]; rfl
mutual
def K0v : K01 → AV
  | ⟨x0, x1, x2, x3⟩ => .agg [.int .i64 x0, .int .i64 x1, .osl (List.map I x2), .osl (K0w x3)]
def K0w : List K01 → List AV
  | [] => []
  | x :: xs => K0v x :: K0w xs
end
theorem K0x (l : List K01) : K0w l = List.map K0v l := by
  induction l with
  | nil => rfl
  | cons x xs ih => rw [List.map_cons, ← ih]; rfl
def K0y (v : K01) : AV := .agg [.int .i64 v.fOp, .int .i64 v.fN, .sl (List.map I v.fType), .sl (List.map K0s v.fKids)]
theorem K0z (v : K01) : K0s v = AV.agg [.int .i64 v.fOp, .int .i64 v.fN, .sl (List.map I v.fType), .sl (List.map K0s v.fKids)] := by
  cases v
  rw [K0s, K0u]
def K10 (v : K01) : AV := .agg [.int .i64 v.fOp, .int .i64 v.fN, .osl (List.map I v.fType), .osl (List.map K0v v.fKids)]
theorem K11 (v : K01) : K0v v = AV.agg [.int .i64 v.fOp, .int .i64 v.fN, .osl (List.map I v.fType), .osl (List.map K0v v.fKids)] := by
  cases v
  rw [K0v, K0x]
def K12 (v : K02) : AV := .agg [.sl (List.map K07 v.fCtx), .sl (List.map I v.fBudgets), .int .i64 v.fTerm.fOp, .int .i64 v.fTerm.fN, .sl (List.map I v.fTerm.fType), .sl (List.map K0s v.fTerm.fKids), .sl (List.map I v.fType), .sl (List.map I v.fFrom)]
def K13 (v : K02) : AV := .agg [.osl (List.map K0c v.fCtx), .osl (List.map I v.fBudgets), .int .i64 v.fTerm.fOp, .int .i64 v.fTerm.fN, .osl (List.map I v.fTerm.fType), .osl (List.map K0v v.fTerm.fKids), .osl (List.map I v.fType), .osl (List.map I v.fFrom)]
def K14 (v : K03) : AV := .agg [.sl (List.map I v.fty), .sl (List.map I v.fneeds), .int .i64 v.ffault, .sl (List.map I v.fpath)]
def K15 (v : K03) : AV := .agg [.osl (List.map I v.fty), .osl (List.map I v.fneeds), .int .i64 v.ffault, .osl (List.map I v.fpath)]
def K16 (v : K04) : AV := .agg [.sl (List.map I v.fty), .sl (List.map I v.fneeds), .sl (List.map K0i v.fkids), .int .i64 v.ffault, .sl (List.map I v.fpath)]
def K17 (v : K04) : AV := .agg [.osl (List.map I v.fty), .osl (List.map I v.fneeds), .osl (List.map K0i v.fkids), .int .i64 v.ffault, .osl (List.map I v.fpath)]
def K18 (v : K05) : AV := .agg [.str v.fword, .int .i64 v.fkids, .bool v.fgrade, .bool v.ftyped]
def K19 (v : K06) : AV := .agg [.int .i64 v.fs.fSize, .sl (List.map I v.fs.fPlus), .sl (List.map I v.fs.fTimes), .sl (List.map AV.bool v.fs.fBelow)]
def K1a (v : K06) : AV := .agg [.int .i64 v.fs.fSize, .osl (List.map I v.fs.fPlus), .osl (List.map I v.fs.fTimes), .osl (List.map AV.bool v.fs.fBelow)]
theorem K1b (v : K01) : (cellsOf (K0s v)).length = 4 := by rw [K0z]; rfl
theorem K1c (v : K01) : Q5m 4 (K0s v) = true := by rw [K0z]; rfl
theorem K1d (l : List K01) : Q02 (List.map K0s l) = List.map K0s l := Qe4 (fun v => by rw [K0z]; rfl) l
theorem K1e (v : K01) : (cellsOf (K0v v)).length = 4 := by rw [K11]; rfl
theorem K1f (v : K01) : Q5m 4 (K0v v) = true := by rw [K11]; rfl
mutual
theorem K1g : ∀ v : K01, share (K0v v) = K0s v
  | ⟨x0, x1, x2, x3⟩ => by
    rw [K0v, K0s]
    simp only [share, Q02, Qe5, K1h]
theorem K1h : ∀ l : List K01, Q02 (K0w l) = K0t l
  | [] => rfl
  | x :: xs => by
    rw [K0w, K0t, Q02, K1g x, K1h xs]
end
theorem K1i (l : List K01) : Q02 (List.map K0v l) = List.map K0s l := Qe4 K1g l
mutual
theorem K1j : ∀ v : K01, noSh (K0v v) = true
  | ⟨x0, x1, x2, x3⟩ => by
    rw [K0v]
    simp only [noSh, Q72, Qee Qe9, K1k, Bool.and_self]
theorem K1k : ∀ l : List K01, Q72 (K0w l) = true
  | [] => rfl
  | x :: xs => by
    rw [K0w, Q72, K1j x, K1k xs]; rfl
end
theorem K1l (v : K02) : K12 v = AV.agg [.sl (List.map K07 v.fCtx), .sl (List.map I v.fBudgets), .int .i64 v.fTerm.fOp, .int .i64 v.fTerm.fN, .sl (List.map I v.fTerm.fType), .sl (List.map K0s v.fTerm.fKids), .sl (List.map I v.fType), .sl (List.map I v.fFrom)] := rfl
theorem K1m (v : K02) : (cellsOf (K12 v)).length = 8 := rfl
theorem K1n (v : K02) : Q5m 8 (K12 v) = true := rfl
theorem K1o (l : List K02) : Q02 (List.map K12 l) = List.map K12 l := Qe4 (fun v => by rw [K1l]; rfl) l
theorem K1p (v : K05) : K18 v = AV.agg [.str v.fword, .int .i64 v.fkids, .bool v.fgrade, .bool v.ftyped] := rfl
theorem K1q (v : K05) : (cellsOf (K18 v)).length = 4 := rfl
theorem K1r (v : K05) : Q5m 4 (K18 v) = true := rfl
theorem K1s (l : List K05) : Q02 (List.map K18 l) = List.map K18 l := Qe4 (fun _ => rfl) l
theorem K1t (v : K05) : noSh (K18 v) = true := rfl
def K1u (v : List (List Int)) : AV := .sl (List.map K07 v)
theorem K1v (v : List (List Int)) : K1u v = AV.sl (List.map K07 v) := rfl
theorem K1w (v : List (List Int)) : (cellsOf (K1u v)).length = 1 := rfl
theorem K1x (v : List (List Int)) : Q5m 1 (K1u v) = true := rfl
theorem K1y (l : List (List (List Int))) : Q02 (List.map K1u l) = List.map K1u l := Qe4 (fun _ => rfl) l
theorem K1z (v : K02) : K13 v = AV.agg [.osl (List.map K0c v.fCtx), .osl (List.map I v.fBudgets), .int .i64 v.fTerm.fOp, .int .i64 v.fTerm.fN, .osl (List.map I v.fTerm.fType), .osl (List.map K0v v.fTerm.fKids), .osl (List.map I v.fType), .osl (List.map I v.fFrom)] := rfl
theorem K20 (v : K02) : (cellsOf (K13 v)).length = 8 := rfl
theorem K21 (v : K02) : Q5m 8 (K13 v) = true := rfl
theorem K22 (l : List K02) : Q02 (List.map K13 l) = List.map K12 l := Qe4 (fun v => by rw [K1z, K1l]; simp only [share, Q02, K0g, Qe5, K1i]) l
theorem K23 (v : K02) : noSh (K13 v) = true := by rw [K1z]; simp only [noSh, Q72, Qee K0h, Qee Qe9, Qee K1j, Bool.and_self]
abbrev K24 (v : K00) : Q09 := .box [.int .i64 v.fSize, .sl (List.map I v.fPlus), .sl (List.map I v.fTimes), .sl (List.map AV.bool v.fBelow)]
abbrev K25 (v : K00) : AV := .agg [.int .i64 v.fSize, .sl (List.map I v.fPlus), .sl (List.map I v.fTimes), .sl (List.map AV.bool v.fBelow)]
abbrev K26 (v : K01) : Q09 := .box [.int .i64 v.fOp, .int .i64 v.fN, .sl (List.map I v.fType), .sl (List.map K0s v.fKids)]
abbrev K27 (v : K01) : AV := .agg [.int .i64 v.fOp, .int .i64 v.fN, .sl (List.map I v.fType), .sl (List.map K0s v.fKids)]
abbrev K28 (v : K02) : Q09 := .box [.sl (List.map K07 v.fCtx), .sl (List.map I v.fBudgets), .int .i64 v.fTerm.fOp, .int .i64 v.fTerm.fN, .sl (List.map I v.fTerm.fType), .sl (List.map K0s v.fTerm.fKids), .sl (List.map I v.fType), .sl (List.map I v.fFrom)]
abbrev K29 (v : K02) : AV := .agg [.sl (List.map K07 v.fCtx), .sl (List.map I v.fBudgets), .int .i64 v.fTerm.fOp, .int .i64 v.fTerm.fN, .sl (List.map I v.fTerm.fType), .sl (List.map K0s v.fTerm.fKids), .sl (List.map I v.fType), .sl (List.map I v.fFrom)]
abbrev K2a (v : K03) : Q09 := .box [.sl (List.map I v.fty), .sl (List.map I v.fneeds), .int .i64 v.ffault, .sl (List.map I v.fpath)]
abbrev K2b (v : K03) : AV := .agg [.sl (List.map I v.fty), .sl (List.map I v.fneeds), .int .i64 v.ffault, .sl (List.map I v.fpath)]
abbrev K2c (v : K04) : Q09 := .box [.sl (List.map I v.fty), .sl (List.map I v.fneeds), .sl (List.map K0i v.fkids), .int .i64 v.ffault, .sl (List.map I v.fpath)]
abbrev K2d (v : K04) : AV := .agg [.sl (List.map I v.fty), .sl (List.map I v.fneeds), .sl (List.map K0i v.fkids), .int .i64 v.ffault, .sl (List.map I v.fpath)]
abbrev K2e (v : K06) : Q09 := .box [.int .i64 v.fs.fSize, .sl (List.map I v.fs.fPlus), .sl (List.map I v.fs.fTimes), .sl (List.map AV.bool v.fs.fBelow)]
abbrev K2f (v : K06) : AV := .agg [.int .i64 v.fs.fSize, .sl (List.map I v.fs.fPlus), .sl (List.map I v.fs.fTimes), .sl (List.map AV.bool v.fs.fBelow)]
abbrev K2g (v : K00) : AV := .agg [.int .i64 v.fSize, .osl (List.map I v.fPlus), .osl (List.map I v.fTimes), .osl (List.map AV.bool v.fBelow)]
abbrev K2h (v : K00) : AV := .agg [.int .i64 v.fSize, .sl (Q02 (List.map I v.fPlus)), .sl (Q02 (List.map I v.fTimes)), .sl (Q02 (List.map AV.bool v.fBelow))]
abbrev K2i (v : K01) : AV := .agg [.int .i64 v.fOp, .int .i64 v.fN, .osl (List.map I v.fType), .osl (List.map K0v v.fKids)]
abbrev K2j (v : K01) : AV := .agg [.int .i64 v.fOp, .int .i64 v.fN, .sl (Q02 (List.map I v.fType)), .sl (Q02 (List.map K0v v.fKids))]
abbrev K2k (v : K02) : AV := .agg [.osl (List.map K0c v.fCtx), .osl (List.map I v.fBudgets), .int .i64 v.fTerm.fOp, .int .i64 v.fTerm.fN, .osl (List.map I v.fTerm.fType), .osl (List.map K0v v.fTerm.fKids), .osl (List.map I v.fType), .osl (List.map I v.fFrom)]
abbrev K2l (v : K02) : AV := .agg [.sl (Q02 (List.map K0c v.fCtx)), .sl (Q02 (List.map I v.fBudgets)), .int .i64 v.fTerm.fOp, .int .i64 v.fTerm.fN, .sl (Q02 (List.map I v.fTerm.fType)), .sl (Q02 (List.map K0v v.fTerm.fKids)), .sl (Q02 (List.map I v.fType)), .sl (Q02 (List.map I v.fFrom))]
abbrev K2m (v : K03) : AV := .agg [.osl (List.map I v.fty), .osl (List.map I v.fneeds), .int .i64 v.ffault, .osl (List.map I v.fpath)]
abbrev K2n (v : K03) : AV := .agg [.sl (Q02 (List.map I v.fty)), .sl (Q02 (List.map I v.fneeds)), .int .i64 v.ffault, .sl (Q02 (List.map I v.fpath))]
abbrev K2o (v : K04) : AV := .agg [.osl (List.map I v.fty), .osl (List.map I v.fneeds), .osl (List.map K0i v.fkids), .int .i64 v.ffault, .osl (List.map I v.fpath)]
abbrev K2p (v : K04) : AV := .agg [.sl (Q02 (List.map I v.fty)), .sl (Q02 (List.map I v.fneeds)), .sl (Q02 (List.map K0i v.fkids)), .int .i64 v.ffault, .sl (Q02 (List.map I v.fpath))]
abbrev K2q (v : K06) : AV := .agg [.int .i64 v.fs.fSize, .osl (List.map I v.fs.fPlus), .osl (List.map I v.fs.fTimes), .osl (List.map AV.bool v.fs.fBelow)]
abbrev K2r (v : K06) : AV := .agg [.int .i64 v.fs.fSize, .sl (Q02 (List.map I v.fs.fPlus)), .sl (Q02 (List.map I v.fs.fTimes)), .sl (Q02 (List.map AV.bool v.fs.fBelow))]
end Go.Am
