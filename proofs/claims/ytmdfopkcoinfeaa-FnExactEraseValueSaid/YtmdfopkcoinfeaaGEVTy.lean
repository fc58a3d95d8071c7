/- The types of the program as pure types, and their abstract values. Printed by a program of mine (gen.py). -/
import Derived.Test.YtmdfopkcoinfeaaAmZ
set_option linter.unusedVariables false
set_option linter.unusedSimpArgs false
set_option maxRecDepth 100000
namespace Go.Am
structure GSystem where
  fSize : Int
  fPlus : List Int
  fTimes : List Int
  fBelow : List Bool
  deriving Inhabited
structure GTerm where
  fOp : Int
  fN : Int
  fType : List Int
  fKids : List GTerm
  deriving Inhabited
def GSystem_s (v : GSystem) : AV := .agg [.int .i64 v.fSize, .sl (List.map I v.fPlus), .sl (List.map I v.fTimes), .sl (List.map AV.bool v.fBelow)]
def GSystem_o (v : GSystem) : AV := .agg [.int .i64 v.fSize, .osl (List.map I v.fPlus), .osl (List.map I v.fTimes), .osl (List.map AV.bool v.fBelow)]
mutual
def GTerm_S : GTerm → AV
  | ⟨x0, x1, x2, x3⟩ => .agg [.int .i64 x0, .int .i64 x1, .sl (List.map I x2), .sl (GTerm_Ss x3)]
def GTerm_Ss : List GTerm → List AV
  | [] => []
  | x :: xs => GTerm_S x :: GTerm_Ss xs
end
theorem GTerm_Ss_eq (l : List GTerm) : GTerm_Ss l = List.map GTerm_S l := by
  induction l with
  | nil => rfl
  | cons x xs ih => rw [List.map_cons, ← ih]; rfl
mutual
def GTerm_O : GTerm → AV
  | ⟨x0, x1, x2, x3⟩ => .agg [.int .i64 x0, .int .i64 x1, .osl (List.map I x2), .osl (GTerm_Os x3)]
def GTerm_Os : List GTerm → List AV
  | [] => []
  | x :: xs => GTerm_O x :: GTerm_Os xs
end
theorem GTerm_Os_eq (l : List GTerm) : GTerm_Os l = List.map GTerm_O l := by
  induction l with
  | nil => rfl
  | cons x xs ih => rw [List.map_cons, ← ih]; rfl
def GTerm_s (v : GTerm) : AV := .agg [.int .i64 v.fOp, .int .i64 v.fN, .sl (List.map I v.fType), .sl (List.map GTerm_S v.fKids)]
theorem eq_GTerm_S (v : GTerm) : GTerm_S v = AV.agg [.int .i64 v.fOp, .int .i64 v.fN, .sl (List.map I v.fType), .sl (List.map GTerm_S v.fKids)] := by
  cases v
  rw [GTerm_S, GTerm_Ss_eq]
def GTerm_o (v : GTerm) : AV := .agg [.int .i64 v.fOp, .int .i64 v.fN, .osl (List.map I v.fType), .osl (List.map GTerm_O v.fKids)]
theorem eq_GTerm_O (v : GTerm) : GTerm_O v = AV.agg [.int .i64 v.fOp, .int .i64 v.fN, .osl (List.map I v.fType), .osl (List.map GTerm_O v.fKids)] := by
  cases v
  rw [GTerm_O, GTerm_Os_eq]
theorem sz_GTerm_S (v : GTerm) : (cellsOf (GTerm_S v)).length = 4 := by rw [eq_GTerm_S]; rfl
theorem ek_GTerm_S (v : GTerm) : elemOk 4 (GTerm_S v) = true := by rw [eq_GTerm_S]; rfl
theorem sh_GTerm_S (l : List GTerm) : shares (List.map GTerm_S l) = List.map GTerm_S l := shares_row (fun v => by rw [eq_GTerm_S]; rfl) l
theorem sz_GTerm_O (v : GTerm) : (cellsOf (GTerm_O v)).length = 4 := by rw [eq_GTerm_O]; rfl
theorem ek_GTerm_O (v : GTerm) : elemOk 4 (GTerm_O v) = true := by rw [eq_GTerm_O]; rfl
mutual
theorem she_GTerm_O : ∀ v : GTerm, share (GTerm_O v) = GTerm_S v
  | ⟨x0, x1, x2, x3⟩ => by
    rw [GTerm_O, GTerm_S]
    simp only [share, shares, sh_I, shs_GTerm_O]
theorem shs_GTerm_O : ∀ l : List GTerm, shares (GTerm_Os l) = GTerm_Ss l
  | [] => rfl
  | x :: xs => by
    rw [GTerm_Os, GTerm_Ss, shares, she_GTerm_O x, shs_GTerm_O xs]
end
theorem sh_GTerm_O (l : List GTerm) : shares (List.map GTerm_O l) = List.map GTerm_S l := shares_row she_GTerm_O l
mutual
theorem nsh_GTerm_O : ∀ v : GTerm, noSh (GTerm_O v) = true
  | ⟨x0, x1, x2, x3⟩ => by
    rw [GTerm_O]
    simp only [noSh, noShs, nshr nsh_I, nshs_GTerm_O, Bool.and_self]
theorem nshs_GTerm_O : ∀ l : List GTerm, noShs (GTerm_Os l) = true
  | [] => rfl
  | x :: xs => by
    rw [GTerm_Os, noShs, nsh_GTerm_O x, nshs_GTerm_O xs]; rfl
end
def LI_s (v : List Int) : AV := .sl (List.map I v)
theorem eq_LI_s (v : List Int) : LI_s v = AV.sl (List.map I v) := rfl
theorem sz_LI_s (v : List Int) : (cellsOf (LI_s v)).length = 1 := rfl
theorem ek_LI_s (v : List Int) : elemOk 1 (LI_s v) = true := rfl
theorem sh_LI_s (l : List (List Int)) : shares (List.map LI_s l) = List.map LI_s l := shares_row (fun _ => rfl) l
abbrev bSystem (v : GSystem) : AObj := .box [.int .i64 v.fSize, .sl (List.map I v.fPlus), .sl (List.map I v.fTimes), .sl (List.map AV.bool v.fBelow)]
abbrev aSystem (v : GSystem) : AV := .agg [.int .i64 v.fSize, .sl (List.map I v.fPlus), .sl (List.map I v.fTimes), .sl (List.map AV.bool v.fBelow)]
abbrev bTerm (v : GTerm) : AObj := .box [.int .i64 v.fOp, .int .i64 v.fN, .sl (List.map I v.fType), .sl (List.map GTerm_S v.fKids)]
abbrev aTerm (v : GTerm) : AV := .agg [.int .i64 v.fOp, .int .i64 v.fN, .sl (List.map I v.fType), .sl (List.map GTerm_S v.fKids)]
abbrev qSystem (v : GSystem) : AV := .agg [.int .i64 v.fSize, .osl (List.map I v.fPlus), .osl (List.map I v.fTimes), .osl (List.map AV.bool v.fBelow)]
abbrev hSystem (v : GSystem) : AV := .agg [.int .i64 v.fSize, .sl (shares (List.map I v.fPlus)), .sl (shares (List.map I v.fTimes)), .sl (shares (List.map AV.bool v.fBelow))]
abbrev qTerm (v : GTerm) : AV := .agg [.int .i64 v.fOp, .int .i64 v.fN, .osl (List.map I v.fType), .osl (List.map GTerm_O v.fKids)]
abbrev hTerm (v : GTerm) : AV := .agg [.int .i64 v.fOp, .int .i64 v.fN, .sl (shares (List.map I v.fType)), .sl (shares (List.map GTerm_O v.fKids))]
end Go.Am
