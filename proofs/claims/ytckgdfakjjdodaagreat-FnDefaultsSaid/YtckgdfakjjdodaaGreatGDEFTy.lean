/- The types of the program as pure types, and their abstract values. Printed by a program of mine (gen.py). -/
import Derived.Test.YtckgdfakjjdodaaGreatAmUK
set_option linter.unusedVariables false
set_option linter.unusedSimpArgs false
set_option maxRecDepth 100000
namespace Go.Am
structure K00 where
  fSize : Int
  fPlus : List Int
  fTimes : List Int
  fBelow : List Bool
  deriving Inhabited
structure K01 where
  fb : List Int
  fi : Int
  fh : Int
  deriving Inhabited
structure K02 where
  fOp : Int
  fN : Int
  fType : List Int
  fKids : List K02
  deriving Inhabited
structure K03 where
  fty : List Int
  fneeds : List Int
  fkids : List K03
  ffault : Int
  fpath : List Int
  deriving Inhabited
structure K04 where
  fword : ByteArray
  fkids : Int
  fgrade : Bool
  ftyped : Bool
  deriving Inhabited
structure K05 where
  fs : K00
  deriving Inhabited
mutual
def K06 : K03 → AV
  | ⟨x0, x1, x2, x3, x4⟩ => .ptr [.sl (List.map I x0), .sl (List.map I x1), .sl (K07 x2), .int .i64 x3, .sl (List.map I x4)] 0
def K07 : List K03 → List AV
  | [] => []
  | x :: xs => K06 x :: K07 xs
end
theorem K08 (l : List K03) : K07 l = List.map K06 l := by
  induction l with
  | nil => rfl
  | cons x xs ih => rw [List.map_cons, ← ih]; rfl
theorem K09 (v : K03) : K06 v = AV.ptr [.sl (List.map I v.fty), .sl (List.map I v.fneeds), .sl (List.map K06 v.fkids), .int .i64 v.ffault, .sl (List.map I v.fpath)] 0 := by
  cases v
  rw [K06, K08]
def K0a : Option K03 → AV
  | none => .nilp
  | some v => .ptr [.sl (List.map I v.fty), .sl (List.map I v.fneeds), .sl (List.map K06 v.fkids), .int .i64 v.ffault, .sl (List.map I v.fpath)] 0
theorem K0b (v : K03) : (cellsOf (K06 v)).length = 1 := by rw [K09]; rfl
theorem K0c (v : K03) : Q5m 1 (K06 v) = true := by rw [K09]; rfl
theorem K0d (l : List K03) : Q02 (List.map K06 l) = List.map K06 l := Qe4 (fun v => by rw [K09]; rfl) l
def K0e (v : K00) : AV := .agg [.int .i64 v.fSize, .sl (List.map I v.fPlus), .sl (List.map I v.fTimes), .sl (List.map AV.bool v.fBelow)]
def K0f (v : K00) : AV := .agg [.int .i64 v.fSize, .osl (List.map I v.fPlus), .osl (List.map I v.fTimes), .osl (List.map AV.bool v.fBelow)]
def K0g (v : K01) : AV := .agg [.sl (List.map U8 v.fb), .int .i64 v.fi, .int .i64 v.fh]
def K0h (v : K01) : AV := .agg [.osl (List.map U8 v.fb), .int .i64 v.fi, .int .i64 v.fh]
mutual
def K0i : K02 → AV
  | ⟨x0, x1, x2, x3⟩ => .agg [.int .i64 x0, .int .i64 x1, .sl (List.map I x2), .sl (K0j x3)]
def K0j : List K02 → List AV
  | [] => []
  | x :: xs => K0i x :: K0j xs
end
theorem K0k (l : List K02) : K0j l = List.map K0i l := by
  induction l with
  | nil => rfl
  | cons x xs ih => rw [List.map_cons, ← ih]; rfl
mutual
def K0l : K02 → AV
  | ⟨x0, x1, x2, x3⟩ => .agg [.int .i64 x0, .int .i64 x1, .osl (List.map I x2), .osl (K0m x3)]
def K0m : List K02 → List AV
  | [] => []
  | x :: xs => K0l x :: K0m xs
end
theorem K0n (l : List K02) : K0m l = List.map K0l l := by
  induction l with
  | nil => rfl
  | cons x xs ih => rw [List.map_cons, ← ih]; rfl
def K0o (v : K02) : AV := .agg [.int .i64 v.fOp, .int .i64 v.fN, .sl (List.map I v.fType), .sl (List.map K0i v.fKids)]
theorem K0p (v : K02) : K0i v = AV.agg [.int .i64 v.fOp, .int .i64 v.fN, .sl (List.map I v.fType), .sl (List.map K0i v.fKids)] := by
  cases v
  rw [K0i, K0k]
def K0q (v : K02) : AV := .agg [.int .i64 v.fOp, .int .i64 v.fN, .osl (List.map I v.fType), .osl (List.map K0l v.fKids)]
theorem K0r (v : K02) : K0l v = AV.agg [.int .i64 v.fOp, .int .i64 v.fN, .osl (List.map I v.fType), .osl (List.map K0l v.fKids)] := by
  cases v
  rw [K0l, K0n]
def K0s (v : K03) : AV := .agg [.sl (List.map I v.fty), .sl (List.map I v.fneeds), .sl (List.map K06 v.fkids), .int .i64 v.ffault, .sl (List.map I v.fpath)]
def K0t (v : K03) : AV := .agg [.osl (List.map I v.fty), .osl (List.map I v.fneeds), .osl (List.map K06 v.fkids), .int .i64 v.ffault, .osl (List.map I v.fpath)]
def K0u (v : K04) : AV := .agg [.str v.fword, .int .i64 v.fkids, .bool v.fgrade, .bool v.ftyped]
def K0v (v : K05) : AV := .agg [.int .i64 v.fs.fSize, .sl (List.map I v.fs.fPlus), .sl (List.map I v.fs.fTimes), .sl (List.map AV.bool v.fs.fBelow)]
def K0w (v : K05) : AV := .agg [.int .i64 v.fs.fSize, .osl (List.map I v.fs.fPlus), .osl (List.map I v.fs.fTimes), .osl (List.map AV.bool v.fs.fBelow)]
def K0x (v : List Int) : AV := .osl (List.map I v)
theorem K0y (v : List Int) : K0x v = AV.osl (List.map I v) := rfl
theorem K0z (v : List Int) : (cellsOf (K0x v)).length = 1 := rfl
theorem K10 (v : List Int) : Q5m 1 (K0x v) = true := rfl
def K11 (v : List Int) : AV := .sl (List.map I v)
theorem K12 (v : List Int) : K11 v = AV.sl (List.map I v) := rfl
theorem K13 (v : List Int) : (cellsOf (K11 v)).length = 1 := rfl
theorem K14 (v : List Int) : Q5m 1 (K11 v) = true := rfl
theorem K15 (l : List (List Int)) : Q02 (List.map K11 l) = List.map K11 l := Qe4 (fun _ => rfl) l
theorem K16 (l : List (List Int)) : Q02 (List.map K0x l) = List.map K11 l := Qe4 (fun v => by show AV.sl (Q02 _) = _; rw [Qe5]; rfl) l
theorem K17 (v : List Int) : noSh (K0x v) = true := Qed Qe9 v
theorem K18 (v : K02) : (cellsOf (K0l v)).length = 4 := by rw [K0r]; rfl
theorem K19 (v : K02) : Q5m 4 (K0l v) = true := by rw [K0r]; rfl
theorem K1a (v : K02) : (cellsOf (K0i v)).length = 4 := by rw [K0p]; rfl
theorem K1b (v : K02) : Q5m 4 (K0i v) = true := by rw [K0p]; rfl
theorem K1c (l : List K02) : Q02 (List.map K0i l) = List.map K0i l := Qe4 (fun v => by rw [K0p]; rfl) l
mutual
theorem K1d : ∀ v : K02, share (K0l v) = K0i v
  | ⟨x0, x1, x2, x3⟩ => by
    rw [K0l, K0i]
    simp only [share, Q02, Qe5, K1e]
theorem K1e : ∀ l : List K02, Q02 (K0m l) = K0j l
  | [] => rfl
  | x :: xs => by
    rw [K0m, K0j, Q02, K1d x, K1e xs]
end
theorem K1f (l : List K02) : Q02 (List.map K0l l) = List.map K0i l := Qe4 K1d l
mutual
theorem K1g : ∀ v : K02, noSh (K0l v) = true
  | ⟨x0, x1, x2, x3⟩ => by
    rw [K0l]
    simp only [noSh, Q72, Qee Qe9, K1h, Bool.and_self]
theorem K1h : ∀ l : List K02, Q72 (K0m l) = true
  | [] => rfl
  | x :: xs => by
    rw [K0m, Q72, K1g x, K1h xs]; rfl
end
theorem K1i (v : K04) : K0u v = AV.agg [.str v.fword, .int .i64 v.fkids, .bool v.fgrade, .bool v.ftyped] := rfl
theorem K1j (v : K04) : (cellsOf (K0u v)).length = 4 := rfl
theorem K1k (v : K04) : Q5m 4 (K0u v) = true := rfl
theorem K1l (l : List K04) : Q02 (List.map K0u l) = List.map K0u l := Qe4 (fun _ => rfl) l
theorem K1m (v : K04) : noSh (K0u v) = true := rfl
def K1n (v : List (List Int)) : AV := .sl (List.map K11 v)
theorem K1o (v : List (List Int)) : K1n v = AV.sl (List.map K11 v) := rfl
theorem K1p (v : List (List Int)) : (cellsOf (K1n v)).length = 1 := rfl
theorem K1q (v : List (List Int)) : Q5m 1 (K1n v) = true := rfl
theorem K1r (l : List (List (List Int))) : Q02 (List.map K1n l) = List.map K1n l := Qe4 (fun _ => rfl) l
abbrev K1s (v : K00) : Q09 := .box [.int .i64 v.fSize, .sl (List.map I v.fPlus), .sl (List.map I v.fTimes), .sl (List.map AV.bool v.fBelow)]
abbrev K1t (v : K00) : AV := .agg [.int .i64 v.fSize, .sl (List.map I v.fPlus), .sl (List.map I v.fTimes), .sl (List.map AV.bool v.fBelow)]
abbrev K1u (v : K01) : Q09 := .box [.sl (List.map U8 v.fb), .int .i64 v.fi, .int .i64 v.fh]
abbrev K1v (v : K01) : AV := .agg [.sl (List.map U8 v.fb), .int .i64 v.fi, .int .i64 v.fh]
abbrev K1w (v : K02) : Q09 := .box [.int .i64 v.fOp, .int .i64 v.fN, .sl (List.map I v.fType), .sl (List.map K0i v.fKids)]
abbrev K1x (v : K02) : AV := .agg [.int .i64 v.fOp, .int .i64 v.fN, .sl (List.map I v.fType), .sl (List.map K0i v.fKids)]
abbrev K1y (v : K03) : Q09 := .box [.sl (List.map I v.fty), .sl (List.map I v.fneeds), .sl (List.map K06 v.fkids), .int .i64 v.ffault, .sl (List.map I v.fpath)]
abbrev K1z (v : K03) : AV := .agg [.sl (List.map I v.fty), .sl (List.map I v.fneeds), .sl (List.map K06 v.fkids), .int .i64 v.ffault, .sl (List.map I v.fpath)]
abbrev K20 (v : K05) : Q09 := .box [.int .i64 v.fs.fSize, .sl (List.map I v.fs.fPlus), .sl (List.map I v.fs.fTimes), .sl (List.map AV.bool v.fs.fBelow)]
abbrev K21 (v : K05) : AV := .agg [.int .i64 v.fs.fSize, .sl (List.map I v.fs.fPlus), .sl (List.map I v.fs.fTimes), .sl (List.map AV.bool v.fs.fBelow)]
abbrev K22 (v : K00) : AV := .agg [.int .i64 v.fSize, .osl (List.map I v.fPlus), .osl (List.map I v.fTimes), .osl (List.map AV.bool v.fBelow)]
abbrev K23 (v : K00) : AV := .agg [.int .i64 v.fSize, .sl (Q02 (List.map I v.fPlus)), .sl (Q02 (List.map I v.fTimes)), .sl (Q02 (List.map AV.bool v.fBelow))]
abbrev K24 (v : K01) : AV := .agg [.osl (List.map U8 v.fb), .int .i64 v.fi, .int .i64 v.fh]
abbrev K25 (v : K01) : AV := .agg [.sl (Q02 (List.map U8 v.fb)), .int .i64 v.fi, .int .i64 v.fh]
abbrev K26 (v : K02) : AV := .agg [.int .i64 v.fOp, .int .i64 v.fN, .osl (List.map I v.fType), .osl (List.map K0l v.fKids)]
abbrev K27 (v : K02) : AV := .agg [.int .i64 v.fOp, .int .i64 v.fN, .sl (Q02 (List.map I v.fType)), .sl (Q02 (List.map K0l v.fKids))]
abbrev K28 (v : K03) : AV := .agg [.osl (List.map I v.fty), .osl (List.map I v.fneeds), .osl (List.map K06 v.fkids), .int .i64 v.ffault, .osl (List.map I v.fpath)]
abbrev K29 (v : K03) : AV := .agg [.sl (Q02 (List.map I v.fty)), .sl (Q02 (List.map I v.fneeds)), .sl (Q02 (List.map K06 v.fkids)), .int .i64 v.ffault, .sl (Q02 (List.map I v.fpath))]
abbrev K2a (v : K05) : AV := .agg [.int .i64 v.fs.fSize, .osl (List.map I v.fs.fPlus), .osl (List.map I v.fs.fTimes), .osl (List.map AV.bool v.fs.fBelow)]
abbrev K2b (v : K05) : AV := .agg [.int .i64 v.fs.fSize, .sl (Q02 (List.map I v.fs.fPlus)), .sl (Q02 (List.map I v.fs.fTimes)), .sl (Q02 (List.map AV.bool v.fs.fBelow))]
end Go.Am
