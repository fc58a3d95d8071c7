/- The types of the program as pure types, and their abstract values. Printed by a program of mine (gen.py). -/
import Derived.Test.YtckgdfakjjdodaaGreatAmUW
set_option linter.unusedVariables false
set_option linter.unusedSimpArgs false
set_option maxRecDepth 100000
namespace Go.Am
structure K00 where
  fSize : Int
  fPlus : List Int
  fTimes : List Int
  fBelow : List Bool
  deriving Inhabited
structure K01 where
  fOp : Int
  fN : Int
  fType : List Int
  fKids : List K01
  deriving Inhabited
structure K02 where
  fb : List Int
  fi : Int
  fh : Int
  deriving Inhabited
structure K03 where
  fty : List Int
  fneeds : List Int
  ffault : Int
  fpath : List Int
  deriving Inhabited
structure K04 where
  fty : List Int
  fneeds : List Int
  fkids : List K04
  ffault : Int
  fpath : List Int
  deriving Inhabited
structure K05 where
  fword : ByteArray
  fkids : Int
  fgrade : Bool
  ftyped : Bool
  deriving Inhabited
structure K06 where
  fs : K00
  deriving Inhabited
mutual
def K07 : K04 → AV
  | ⟨x0, x1, x2, x3, x4⟩ => .ptr [.sl (List.map I x0), .sl (List.map I x1), .sl (K08 x2), .int .i64 x3, .sl (List.map I x4)] 0
def K08 : List K04 → List AV
  | [] => []
  | x :: xs => K07 x :: K08 xs
end
theorem K09 (l : List K04) : K08 l = List.map K07 l := by
  induction l with
  | nil => rfl
  | cons x xs ih => rw [List.map_cons, ← ih]; rfl
theorem K0a (v : K04) : K07 v = AV.ptr [.sl (List.map I v.fty), .sl (List.map I v.fneeds), .sl (List.map K07 v.fkids), .int .i64 v.ffault, .sl (List.map I v.fpath)] 0 := by
  cases v
  rw [K07, K09]
def K0b : Option K04 → AV
  | none => .nilp
  | some v => .ptr [.sl (List.map I v.fty), .sl (List.map I v.fneeds), .sl (List.map K07 v.fkids), .int .i64 v.ffault, .sl (List.map I v.fpath)] 0
theorem K0c (v : K04) : (cellsOf (K07 v)).length = 1 := by rw [K0a]; rfl
theorem K0d (v : K04) : Q5s 1 (K07 v) = true := by rw [K0a]; rfl
theorem K0e (l : List K04) : Q02 (List.map K07 l) = List.map K07 l := Qew (fun v => by rw [K0a]; rfl) l
def K0f (v : K00) : AV := .agg [.int .i64 v.fSize, .sl (List.map I v.fPlus), .sl (List.map I v.fTimes), .sl (List.map AV.bool v.fBelow)]
def K0g (v : K00) : AV := .agg [.int .i64 v.fSize, .osl (List.map I v.fPlus), .osl (List.map I v.fTimes), .osl (List.map AV.bool v.fBelow)]
mutual
def K0h : K01 → AV
  | ⟨x0, x1, x2, x3⟩ => .agg [.int .i64 x0, .int .i64 x1, .sl (List.map I x2), .sl (K0i x3)]
def K0i : List K01 → List AV
  | [] => []
  | x :: xs => K0h x :: K0i xs
end
theorem K0j (l : List K01) : K0i l = List.map K0h l := by
  induction l with
  | nil => rfl
  | cons x xs ih => rw [List.map_cons, ← ih]; rfl
mutual
def K0k : K01 → AV
  | ⟨x0, x1, x2, x3⟩ => .agg [.int .i64 x0, .int .i64 x1, .osl (List.map I x2), .osl (K0l x3)]
def K0l : List K01 → List AV
  | [] => []
  | x :: xs => K0k x :: K0l xs
end
theorem K0m (l : List K01) : K0l l = List.map K0k l := by
  induction l with
  | nil => rfl
  | cons x xs ih => rw [List.map_cons, ← ih]; rfl
def K0n (v : K01) : AV := .agg [.int .i64 v.fOp, .int .i64 v.fN, .sl (List.map I v.fType), .sl (List.map K0h v.fKids)]
theorem K0o (v : K01) : K0h v = AV.agg [.int .i64 v.fOp, .int .i64 v.fN, .sl (List.map I v.fType), .sl (List.map K0h v.fKids)] := by
  cases v
  rw [K0h, K0j]
def K0p (v : K01) : AV := .agg [.int .i64 v.fOp, .int .i64 v.fN, .osl (List.map I v.fType), .osl (List.map K0k v.fKids)]
theorem K0q (v : K01) : K0k v = AV.agg [.int .i64 v.fOp, .int .i64 v.fN, .osl (List.map I v.fType), .osl (List.map K0k v.fKids)] := by
  cases v
  rw [K0k, K0m]
def K0r (v : K02) : AV := .agg [.sl (List.map U8 v.fb), .int .i64 v.fi, .int .i64 v.fh]
def K0s (v : K02) : AV := .agg [.osl (List.map U8 v.fb), .int .i64 v.fi, .int .i64 v.fh]
def K0t (v : K03) : AV := .agg [.sl (List.map I v.fty), .sl (List.map I v.fneeds), .int .i64 v.ffault, .sl (List.map I v.fpath)]
def K0u (v : K03) : AV := .agg [.osl (List.map I v.fty), .osl (List.map I v.fneeds), .int .i64 v.ffault, .osl (List.map I v.fpath)]
def K0v (v : K04) : AV := .agg [.sl (List.map I v.fty), .sl (List.map I v.fneeds), .sl (List.map K07 v.fkids), .int .i64 v.ffault, .sl (List.map I v.fpath)]
def K0w (v : K04) : AV := .agg [.osl (List.map I v.fty), .osl (List.map I v.fneeds), .osl (List.map K07 v.fkids), .int .i64 v.ffault, .osl (List.map I v.fpath)]
def K0x (v : K05) : AV := .agg [.str v.fword, .int .i64 v.fkids, .bool v.fgrade, .bool v.ftyped]
def K0y (v : K06) : AV := .agg [.int .i64 v.fs.fSize, .sl (List.map I v.fs.fPlus), .sl (List.map I v.fs.fTimes), .sl (List.map AV.bool v.fs.fBelow)]
def K0z (v : K06) : AV := .agg [.int .i64 v.fs.fSize, .osl (List.map I v.fs.fPlus), .osl (List.map I v.fs.fTimes), .osl (List.map AV.bool v.fs.fBelow)]
def K10 (v : List Int) : AV := .osl (List.map I v)
theorem K11 (v : List Int) : K10 v = AV.osl (List.map I v) := rfl
theorem K12 (v : List Int) : (cellsOf (K10 v)).length = 1 := rfl
theorem K13 (v : List Int) : Q5s 1 (K10 v) = true := rfl
def K14 (v : List Int) : AV := .sl (List.map I v)
theorem K15 (v : List Int) : K14 v = AV.sl (List.map I v) := rfl
theorem K16 (v : List Int) : (cellsOf (K14 v)).length = 1 := rfl
theorem K17 (v : List Int) : Q5s 1 (K14 v) = true := rfl
theorem K18 (l : List (List Int)) : Q02 (List.map K14 l) = List.map K14 l := Qew (fun _ => rfl) l
theorem K19 (l : List (List Int)) : Q02 (List.map K10 l) = List.map K14 l := Qew (fun v => by show AV.sl (Q02 _) = _; rw [Qex]; rfl) l
theorem K1a (v : List Int) : noSh (K10 v) = true := Qf5 Qf1 v
theorem K1b (v : K01) : (cellsOf (K0h v)).length = 4 := by rw [K0o]; rfl
theorem K1c (v : K01) : Q5s 4 (K0h v) = true := by rw [K0o]; rfl
theorem K1d (l : List K01) : Q02 (List.map K0h l) = List.map K0h l := Qew (fun v => by rw [K0o]; rfl) l
theorem K1e (v : K01) : (cellsOf (K0k v)).length = 4 := by rw [K0q]; rfl
theorem K1f (v : K01) : Q5s 4 (K0k v) = true := by rw [K0q]; rfl
mutual
theorem K1g : ∀ v : K01, share (K0k v) = K0h v
  | ⟨x0, x1, x2, x3⟩ => by
    rw [K0k, K0h]
    simp only [share, Q02, Qex, K1h]
theorem K1h : ∀ l : List K01, Q02 (K0l l) = K0i l
  | [] => rfl
  | x :: xs => by
    rw [K0l, K0i, Q02, K1g x, K1h xs]
end
theorem K1i (l : List K01) : Q02 (List.map K0k l) = List.map K0h l := Qew K1g l
mutual
theorem K1j : ∀ v : K01, noSh (K0k v) = true
  | ⟨x0, x1, x2, x3⟩ => by
    rw [K0k]
    simp only [noSh, Q78, Qf6 Qf1, K1k, Bool.and_self]
theorem K1k : ∀ l : List K01, Q78 (K0l l) = true
  | [] => rfl
  | x :: xs => by
    rw [K0l, Q78, K1j x, K1k xs]; rfl
end
theorem K1l (v : K05) : K0x v = AV.agg [.str v.fword, .int .i64 v.fkids, .bool v.fgrade, .bool v.ftyped] := rfl
theorem K1m (v : K05) : (cellsOf (K0x v)).length = 4 := rfl
theorem K1n (v : K05) : Q5s 4 (K0x v) = true := rfl
theorem K1o (l : List K05) : Q02 (List.map K0x l) = List.map K0x l := Qew (fun _ => rfl) l
theorem K1p (v : K05) : noSh (K0x v) = true := rfl
def K1q (v : List (List Int)) : AV := .sl (List.map K14 v)
theorem K1r (v : List (List Int)) : K1q v = AV.sl (List.map K14 v) := rfl
theorem K1s (v : List (List Int)) : (cellsOf (K1q v)).length = 1 := rfl
theorem K1t (v : List (List Int)) : Q5s 1 (K1q v) = true := rfl
theorem K1u (l : List (List (List Int))) : Q02 (List.map K1q l) = List.map K1q l := Qew (fun _ => rfl) l
abbrev K1v (v : K00) : Q09 := .box [.int .i64 v.fSize, .sl (List.map I v.fPlus), .sl (List.map I v.fTimes), .sl (List.map AV.bool v.fBelow)]
abbrev K1w (v : K00) : AV := .agg [.int .i64 v.fSize, .sl (List.map I v.fPlus), .sl (List.map I v.fTimes), .sl (List.map AV.bool v.fBelow)]
abbrev K1x (v : K00) : AV := .optr [.int .i64 v.fSize, .sl (List.map I v.fPlus), .sl (List.map I v.fTimes), .sl (List.map AV.bool v.fBelow)]
abbrev K1y (v : K01) : Q09 := .box [.int .i64 v.fOp, .int .i64 v.fN, .sl (List.map I v.fType), .sl (List.map K0h v.fKids)]
abbrev K1z (v : K01) : AV := .agg [.int .i64 v.fOp, .int .i64 v.fN, .sl (List.map I v.fType), .sl (List.map K0h v.fKids)]
abbrev K20 (v : K01) : AV := .optr [.int .i64 v.fOp, .int .i64 v.fN, .sl (List.map I v.fType), .sl (List.map K0h v.fKids)]
abbrev K21 (v : K02) : Q09 := .box [.sl (List.map U8 v.fb), .int .i64 v.fi, .int .i64 v.fh]
abbrev K22 (v : K02) : AV := .agg [.sl (List.map U8 v.fb), .int .i64 v.fi, .int .i64 v.fh]
abbrev K23 (v : K02) : AV := .optr [.sl (List.map U8 v.fb), .int .i64 v.fi, .int .i64 v.fh]
abbrev K24 (v : K03) : Q09 := .box [.sl (List.map I v.fty), .sl (List.map I v.fneeds), .int .i64 v.ffault, .sl (List.map I v.fpath)]
abbrev K25 (v : K03) : AV := .agg [.sl (List.map I v.fty), .sl (List.map I v.fneeds), .int .i64 v.ffault, .sl (List.map I v.fpath)]
abbrev K26 (v : K03) : AV := .optr [.sl (List.map I v.fty), .sl (List.map I v.fneeds), .int .i64 v.ffault, .sl (List.map I v.fpath)]
abbrev K27 (v : K04) : Q09 := .box [.sl (List.map I v.fty), .sl (List.map I v.fneeds), .sl (List.map K07 v.fkids), .int .i64 v.ffault, .sl (List.map I v.fpath)]
abbrev K28 (v : K04) : AV := .agg [.sl (List.map I v.fty), .sl (List.map I v.fneeds), .sl (List.map K07 v.fkids), .int .i64 v.ffault, .sl (List.map I v.fpath)]
abbrev K29 (v : K04) : AV := .optr [.sl (List.map I v.fty), .sl (List.map I v.fneeds), .sl (List.map K07 v.fkids), .int .i64 v.ffault, .sl (List.map I v.fpath)]
abbrev K2a (v : K06) : Q09 := .box [.int .i64 v.fs.fSize, .sl (List.map I v.fs.fPlus), .sl (List.map I v.fs.fTimes), .sl (List.map AV.bool v.fs.fBelow)]
abbrev K2b (v : K06) : AV := .agg [.int .i64 v.fs.fSize, .sl (List.map I v.fs.fPlus), .sl (List.map I v.fs.fTimes), .sl (List.map AV.bool v.fs.fBelow)]
abbrev K2c (v : K06) : AV := .optr [.int .i64 v.fs.fSize, .sl (List.map I v.fs.fPlus), .sl (List.map I v.fs.fTimes), .sl (List.map AV.bool v.fs.fBelow)]
abbrev K2d (v : K00) : AV := .agg [.int .i64 v.fSize, .osl (List.map I v.fPlus), .osl (List.map I v.fTimes), .osl (List.map AV.bool v.fBelow)]
abbrev K2e (v : K00) : AV := .agg [.int .i64 v.fSize, .sl (Q02 (List.map I v.fPlus)), .sl (Q02 (List.map I v.fTimes)), .sl (Q02 (List.map AV.bool v.fBelow))]
abbrev K2f (v : K01) : AV := .agg [.int .i64 v.fOp, .int .i64 v.fN, .osl (List.map I v.fType), .osl (List.map K0k v.fKids)]
abbrev K2g (v : K01) : AV := .agg [.int .i64 v.fOp, .int .i64 v.fN, .sl (Q02 (List.map I v.fType)), .sl (Q02 (List.map K0k v.fKids))]
abbrev K2h (v : K02) : AV := .agg [.osl (List.map U8 v.fb), .int .i64 v.fi, .int .i64 v.fh]
abbrev K2i (v : K02) : AV := .agg [.sl (Q02 (List.map U8 v.fb)), .int .i64 v.fi, .int .i64 v.fh]
abbrev K2j (v : K03) : AV := .agg [.osl (List.map I v.fty), .osl (List.map I v.fneeds), .int .i64 v.ffault, .osl (List.map I v.fpath)]
abbrev K2k (v : K03) : AV := .agg [.sl (Q02 (List.map I v.fty)), .sl (Q02 (List.map I v.fneeds)), .int .i64 v.ffault, .sl (Q02 (List.map I v.fpath))]
abbrev K2l (v : K04) : AV := .agg [.osl (List.map I v.fty), .osl (List.map I v.fneeds), .osl (List.map K07 v.fkids), .int .i64 v.ffault, .osl (List.map I v.fpath)]
abbrev K2m (v : K04) : AV := .agg [.sl (Q02 (List.map I v.fty)), .sl (Q02 (List.map I v.fneeds)), .sl (Q02 (List.map K07 v.fkids)), .int .i64 v.ffault, .sl (Q02 (List.map I v.fpath))]
abbrev K2n (v : K06) : AV := .agg [.int .i64 v.fs.fSize, .osl (List.map I v.fs.fPlus), .osl (List.map I v.fs.fTimes), .osl (List.map AV.bool v.fs.fBelow)]
abbrev K2o (v : K06) : AV := .agg [.int .i64 v.fs.fSize, .sl (Q02 (List.map I v.fs.fPlus)), .sl (Q02 (List.map I v.fs.fTimes)), .sl (Q02 (List.map AV.bool v.fs.fBelow))]
end Go.Am
