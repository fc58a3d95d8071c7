/- The types of the program as pure types, and their abstract values. Printed by a program of mine (gen.py). -/
import Derived.Test.YtmcpomoofkjfcaaGreatAmUK
set_option linter.unusedVariables false
set_option linter.unusedSimpArgs false
set_option maxRecDepth 100000
namespace Go.Am
structure GSystem where
  fSize : Int
  fPlus : List Int
  fTimes : List Int
  fBelow : List Bool
  deriving Inhabited
structure GTerm where
  fOp : Int
  fN : Int
  fType : List Int
  fKids : List GTerm
  deriving Inhabited
structure GL3Told where
  fty : List Int
  fneeds : List Int
  ffault : Int
  fpath : List Int
  deriving Inhabited
structure GTyped where
  fty : List Int
  fneeds : List Int
  fkids : List GTyped
  ffault : Int
  fpath : List Int
  deriving Inhabited
structure GForm where
  fword : ByteArray
  fkids : Int
  fgrade : Bool
  ftyped : Bool
  deriving Inhabited
structure GTyper where
  fs : GSystem
  deriving Inhabited
mutual
def PGTyped_S : GTyped → AV
  | ⟨x0, x1, x2, x3, x4⟩ => .ptr [.sl (List.map I x0), .sl (List.map I x1), .sl (PGTyped_Ss x2), .int .i64 x3, .sl (List.map I x4)] 0
def PGTyped_Ss : List GTyped → List AV
  | [] => []
  | x :: xs => PGTyped_S x :: PGTyped_Ss xs
end
theorem PGTyped_Ss_eq (l : List GTyped) : PGTyped_Ss l = List.map PGTyped_S l := by
  induction l with
  | nil => rfl
  | cons x xs ih => rw [List.map_cons, ← ih]; rfl
theorem eq_PGTyped_S (v : GTyped) : PGTyped_S v = AV.ptr [.sl (List.map I v.fty), .sl (List.map I v.fneeds), .sl (List.map PGTyped_S v.fkids), .int .i64 v.ffault, .sl (List.map I v.fpath)] 0 := by
  cases v
  rw [PGTyped_S, PGTyped_Ss_eq]
def PGTyped_O : Option GTyped → AV
  | none => .nilp
  | some v => .ptr [.sl (List.map I v.fty), .sl (List.map I v.fneeds), .sl (List.map PGTyped_S v.fkids), .int .i64 v.ffault, .sl (List.map I v.fpath)] 0
theorem sz_PGTyped_S (v : GTyped) : (cellsOf (PGTyped_S v)).length = 1 := by rw [eq_PGTyped_S]; rfl
theorem ek_PGTyped_S (v : GTyped) : elemOk 1 (PGTyped_S v) = true := by rw [eq_PGTyped_S]; rfl
theorem sh_PGTyped_S (l : List GTyped) : shares (List.map PGTyped_S l) = List.map PGTyped_S l := shares_row (fun v => by rw [eq_PGTyped_S]; rfl) l
def GSystem_s (v : GSystem) : AV := .agg [.int .i64 v.fSize, .sl (List.map I v.fPlus), .sl (List.map I v.fTimes), .sl (List.map AV.bool v.fBelow)]
def GSystem_o (v : GSystem) : AV := .agg [.int .i64 v.fSize, .osl (List.map I v.fPlus), .osl (List.map I v.fTimes), .osl (List.map AV.bool v.fBelow)]
mutual
def GTerm_S : GTerm → AV
  | ⟨x0, x1, x2, x3⟩ => .agg [.int .i64 x0, .int .i64 x1, .sl (List.map I x2), .sl (GTerm_Ss x3)]
def GTerm_Ss : List GTerm → List AV
  | [] => []
  | x :: xs => GTerm_S x :: GTerm_Ss xs
end
theorem GTerm_Ss_eq (l : List GTerm) : GTerm_Ss l = List.map GTerm_S l := by
  induction l with
  | nil => rfl
  | cons x xs ih => rw [List.map_cons, ← ih]; rfl
mutual
def GTerm_O : GTerm → AV
  | ⟨x0, x1, x2, x3⟩ => .agg [.int .i64 x0, .int .i64 x1, .osl (List.map I x2), .osl (GTerm_Os x3)]
def GTerm_Os : List GTerm → List AV
  | [] => []
  | x :: xs => GTerm_O x :: GTerm_Os xs
end
theorem GTerm_Os_eq (l : List GTerm) : GTerm_Os l = List.map GTerm_O l := by
  induction l with
  | nil => rfl
  | cons x xs ih => rw [List.map_cons, ← ih]; rfl
def GTerm_s (v : GTerm) : AV := .agg [.int .i64 v.fOp, .int .i64 v.fN, .sl (List.map I v.fType), .sl (List.map GTerm_S v.fKids)]
theorem eq_GTerm_S (v : GTerm) : GTerm_S v = AV.agg [.int .i64 v.fOp, .int .i64 v.fN, .sl (List.map I v.fType), .sl (List.map GTerm_S v.fKids)] := by
  cases v
  rw [GTerm_S, GTerm_Ss_eq]
def GTerm_o (v : GTerm) : AV := .agg [.int .i64 v.fOp, .int .i64 v.fN, .osl (List.map I v.fType), .osl (List.map GTerm_O v.fKids)]
theorem eq_GTerm_O (v : GTerm) : GTerm_O v = AV.agg [.int .i64 v.fOp, .int .i64 v.fN, .osl (List.map I v.fType), .osl (List.map GTerm_O v.fKids)] := by
  cases v
  rw [GTerm_O, GTerm_Os_eq]
def GL3Told_s (v : GL3Told) : AV := .agg [.sl (List.map I v.fty), .sl (List.map I v.fneeds), .int .i64 v.ffault, .sl (List.map I v.fpath)]
def GL3Told_o (v : GL3Told) : AV := .agg [.osl (List.map I v.fty), .osl (List.map I v.fneeds), .int .i64 v.ffault, .osl (List.map I v.fpath)]
def GTyped_s (v : GTyped) : AV := .agg [.sl (List.map I v.fty), .sl (List.map I v.fneeds), .sl (List.map PGTyped_S v.fkids), .int .i64 v.ffault, .sl (List.map I v.fpath)]
def GTyped_o (v : GTyped) : AV := .agg [.osl (List.map I v.fty), .osl (List.map I v.fneeds), .osl (List.map PGTyped_S v.fkids), .int .i64 v.ffault, .osl (List.map I v.fpath)]
def GForm_v (v : GForm) : AV := .agg [.str v.fword, .int .i64 v.fkids, .bool v.fgrade, .bool v.ftyped]
def GTyper_s (v : GTyper) : AV := .agg [.int .i64 v.fs.fSize, .sl (List.map I v.fs.fPlus), .sl (List.map I v.fs.fTimes), .sl (List.map AV.bool v.fs.fBelow)]
def GTyper_o (v : GTyper) : AV := .agg [.int .i64 v.fs.fSize, .osl (List.map I v.fs.fPlus), .osl (List.map I v.fs.fTimes), .osl (List.map AV.bool v.fs.fBelow)]
def LI_s (v : List Int) : AV := .sl (List.map I v)
theorem eq_LI_s (v : List Int) : LI_s v = AV.sl (List.map I v) := rfl
theorem sz_LI_s (v : List Int) : (cellsOf (LI_s v)).length = 1 := rfl
theorem ek_LI_s (v : List Int) : elemOk 1 (LI_s v) = true := rfl
theorem sh_LI_s (l : List (List Int)) : shares (List.map LI_s l) = List.map LI_s l := shares_row (fun _ => rfl) l
theorem sz_GTerm_S (v : GTerm) : (cellsOf (GTerm_S v)).length = 4 := by rw [eq_GTerm_S]; rfl
theorem ek_GTerm_S (v : GTerm) : elemOk 4 (GTerm_S v) = true := by rw [eq_GTerm_S]; rfl
theorem sh_GTerm_S (l : List GTerm) : shares (List.map GTerm_S l) = List.map GTerm_S l := shares_row (fun v => by rw [eq_GTerm_S]; rfl) l
def LI_o (v : List Int) : AV := .osl (List.map I v)
theorem eq_LI_o (v : List Int) : LI_o v = AV.osl (List.map I v) := rfl
theorem sz_LI_o (v : List Int) : (cellsOf (LI_o v)).length = 1 := rfl
theorem ek_LI_o (v : List Int) : elemOk 1 (LI_o v) = true := rfl
theorem sh_LI_o (l : List (List Int)) : shares (List.map LI_o l) = List.map LI_s l := shares_row (fun v => by show AV.sl (shares _) = _; rw [sh_I]; rfl) l
theorem nsh_LI_o (v : List Int) : noSh (LI_o v) = true := nsh_row nsh_I v
theorem sz_GTerm_O (v : GTerm) : (cellsOf (GTerm_O v)).length = 4 := by rw [eq_GTerm_O]; rfl
theorem ek_GTerm_O (v : GTerm) : elemOk 4 (GTerm_O v) = true := by rw [eq_GTerm_O]; rfl
mutual
theorem she_GTerm_O : ∀ v : GTerm, share (GTerm_O v) = GTerm_S v
  | ⟨x0, x1, x2, x3⟩ => by
    rw [GTerm_O, GTerm_S]
    simp only [share, shares, sh_I, shs_GTerm_O]
theorem shs_GTerm_O : ∀ l : List GTerm, shares (GTerm_Os l) = GTerm_Ss l
  | [] => rfl
  | x :: xs => by
    rw [GTerm_Os, GTerm_Ss, shares, she_GTerm_O x, shs_GTerm_O xs]
end
theorem sh_GTerm_O (l : List GTerm) : shares (List.map GTerm_O l) = List.map GTerm_S l := shares_row she_GTerm_O l
mutual
theorem nsh_GTerm_O : ∀ v : GTerm, noSh (GTerm_O v) = true
  | ⟨x0, x1, x2, x3⟩ => by
    rw [GTerm_O]
    simp only [noSh, noShs, nshr nsh_I, nshs_GTerm_O, Bool.and_self]
theorem nshs_GTerm_O : ∀ l : List GTerm, noShs (GTerm_Os l) = true
  | [] => rfl
  | x :: xs => by
    rw [GTerm_Os, noShs, nsh_GTerm_O x, nshs_GTerm_O xs]; rfl
end
theorem eq_GForm_v (v : GForm) : GForm_v v = AV.agg [.str v.fword, .int .i64 v.fkids, .bool v.fgrade, .bool v.ftyped] := rfl
theorem sz_GForm_v (v : GForm) : (cellsOf (GForm_v v)).length = 4 := rfl
theorem ek_GForm_v (v : GForm) : elemOk 4 (GForm_v v) = true := rfl
theorem sh_GForm_v (l : List GForm) : shares (List.map GForm_v l) = List.map GForm_v l := shares_row (fun _ => rfl) l
theorem nsh_GForm_v (v : GForm) : noSh (GForm_v v) = true := rfl
def LLI_s (v : List (List Int)) : AV := .sl (List.map LI_s v)
theorem eq_LLI_s (v : List (List Int)) : LLI_s v = AV.sl (List.map LI_s v) := rfl
theorem sz_LLI_s (v : List (List Int)) : (cellsOf (LLI_s v)).length = 1 := rfl
theorem ek_LLI_s (v : List (List Int)) : elemOk 1 (LLI_s v) = true := rfl
theorem sh_LLI_s (l : List (List (List Int))) : shares (List.map LLI_s l) = List.map LLI_s l := shares_row (fun _ => rfl) l
abbrev bSystem (v : GSystem) : AObj := .box [.int .i64 v.fSize, .sl (List.map I v.fPlus), .sl (List.map I v.fTimes), .sl (List.map AV.bool v.fBelow)]
abbrev aSystem (v : GSystem) : AV := .agg [.int .i64 v.fSize, .sl (List.map I v.fPlus), .sl (List.map I v.fTimes), .sl (List.map AV.bool v.fBelow)]
abbrev bTerm (v : GTerm) : AObj := .box [.int .i64 v.fOp, .int .i64 v.fN, .sl (List.map I v.fType), .sl (List.map GTerm_S v.fKids)]
abbrev aTerm (v : GTerm) : AV := .agg [.int .i64 v.fOp, .int .i64 v.fN, .sl (List.map I v.fType), .sl (List.map GTerm_S v.fKids)]
abbrev bL3Told (v : GL3Told) : AObj := .box [.sl (List.map I v.fty), .sl (List.map I v.fneeds), .int .i64 v.ffault, .sl (List.map I v.fpath)]
abbrev aL3Told (v : GL3Told) : AV := .agg [.sl (List.map I v.fty), .sl (List.map I v.fneeds), .int .i64 v.ffault, .sl (List.map I v.fpath)]
abbrev bTyped (v : GTyped) : AObj := .box [.sl (List.map I v.fty), .sl (List.map I v.fneeds), .sl (List.map PGTyped_S v.fkids), .int .i64 v.ffault, .sl (List.map I v.fpath)]
abbrev aTyped (v : GTyped) : AV := .agg [.sl (List.map I v.fty), .sl (List.map I v.fneeds), .sl (List.map PGTyped_S v.fkids), .int .i64 v.ffault, .sl (List.map I v.fpath)]
abbrev bTyper (v : GTyper) : AObj := .box [.int .i64 v.fs.fSize, .sl (List.map I v.fs.fPlus), .sl (List.map I v.fs.fTimes), .sl (List.map AV.bool v.fs.fBelow)]
abbrev aTyper (v : GTyper) : AV := .agg [.int .i64 v.fs.fSize, .sl (List.map I v.fs.fPlus), .sl (List.map I v.fs.fTimes), .sl (List.map AV.bool v.fs.fBelow)]
abbrev qSystem (v : GSystem) : AV := .agg [.int .i64 v.fSize, .osl (List.map I v.fPlus), .osl (List.map I v.fTimes), .osl (List.map AV.bool v.fBelow)]
abbrev hSystem (v : GSystem) : AV := .agg [.int .i64 v.fSize, .sl (shares (List.map I v.fPlus)), .sl (shares (List.map I v.fTimes)), .sl (shares (List.map AV.bool v.fBelow))]
abbrev qTerm (v : GTerm) : AV := .agg [.int .i64 v.fOp, .int .i64 v.fN, .osl (List.map I v.fType), .osl (List.map GTerm_O v.fKids)]
abbrev hTerm (v : GTerm) : AV := .agg [.int .i64 v.fOp, .int .i64 v.fN, .sl (shares (List.map I v.fType)), .sl (shares (List.map GTerm_O v.fKids))]
abbrev qL3Told (v : GL3Told) : AV := .agg [.osl (List.map I v.fty), .osl (List.map I v.fneeds), .int .i64 v.ffault, .osl (List.map I v.fpath)]
abbrev hL3Told (v : GL3Told) : AV := .agg [.sl (shares (List.map I v.fty)), .sl (shares (List.map I v.fneeds)), .int .i64 v.ffault, .sl (shares (List.map I v.fpath))]
abbrev qTyped (v : GTyped) : AV := .agg [.osl (List.map I v.fty), .osl (List.map I v.fneeds), .osl (List.map PGTyped_S v.fkids), .int .i64 v.ffault, .osl (List.map I v.fpath)]
abbrev hTyped (v : GTyped) : AV := .agg [.sl (shares (List.map I v.fty)), .sl (shares (List.map I v.fneeds)), .sl (shares (List.map PGTyped_S v.fkids)), .int .i64 v.ffault, .sl (shares (List.map I v.fpath))]
abbrev qTyper (v : GTyper) : AV := .agg [.int .i64 v.fs.fSize, .osl (List.map I v.fs.fPlus), .osl (List.map I v.fs.fTimes), .osl (List.map AV.bool v.fs.fBelow)]
abbrev hTyper (v : GTyper) : AV := .agg [.int .i64 v.fs.fSize, .sl (shares (List.map I v.fs.fPlus)), .sl (shares (List.map I v.fs.fTimes)), .sl (shares (List.map AV.bool v.fs.fBelow))]
end Go.Am
