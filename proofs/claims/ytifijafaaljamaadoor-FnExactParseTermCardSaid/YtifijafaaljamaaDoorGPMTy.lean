/- The types of the program as pure types, and their abstract values. Printed by a program of mine (gen.py). -/
import Derived.Test.YtifijafaaljamaaDoorAmUW
set_option linter.unusedVariables false
set_option linter.unusedSimpArgs false
set_option maxRecDepth 100000
namespace Go.Am
structure K06 where
  fOp : Int
  fN : Int
  fType : List Int
  fKids : List K06
  deriving Inhabited
structure K07 where
  fs : ByteArray
  fat : Int
  ffail : Bool
  fleft : Int
  deriving Inhabited
structure K08 where
  fword : ByteArray
  fkids : Int
  fgrade : Bool
  ftyped : Bool
  deriving Inhabited
mutual
def K09 : K06 → AV
  | ⟨x0, x1, x2, x3⟩ => .agg [.int .i64 x0, .int .i64 x1, .sl (List.map I x2), .sl (K0a x3)]
def K0a : List K06 → List AV
  | [] => []
  | x :: xs => K09 x :: K0a xs
end
theorem K0b (l : List K06) : K0a l = List.map K09 l := by
  induction l with
  | nil => rfl
  | cons x xs ih => rw [List.map_cons, ← ih]; rfl
mutual
def K0c : K06 → AV
  | ⟨x0, x1, x2, x3⟩ => .agg [.int .i64 x0, .int .i64 x1, .osl (List.map I x2), .osl (K0d x3)]
def K0d : List K06 → List AV
  | [] => []
  | x :: xs => K0c x :: K0d xs
end
theorem K0e (l : List K06) : K0d l = List.map K0c l := by
  induction l with
  | nil => rfl
  | cons x xs ih => rw [List.map_cons, ← ih]; rfl
def K0f (v : K06) : AV := .agg [.int .i64 v.fOp, .int .i64 v.fN, .sl (List.map I v.fType), .sl (List.map K09 v.fKids)]
theorem K0g (v : K06) : K09 v = AV.agg [.int .i64 v.fOp, .int .i64 v.fN, .sl (List.map I v.fType), .sl (List.map K09 v.fKids)] := by
  cases v
  rw [K09, K0b]
def K0h (v : K06) : AV := .agg [.int .i64 v.fOp, .int .i64 v.fN, .osl (List.map I v.fType), .osl (List.map K0c v.fKids)]
theorem K0i (v : K06) : K0c v = AV.agg [.int .i64 v.fOp, .int .i64 v.fN, .osl (List.map I v.fType), .osl (List.map K0c v.fKids)] := by
  cases v
  rw [K0c, K0e]
def K0j (v : K07) : AV := .agg [.str v.fs, .int .i64 v.fat, .bool v.ffail, .int .i64 v.fleft]
def K0k (v : K08) : AV := .agg [.str v.fword, .int .i64 v.fkids, .bool v.fgrade, .bool v.ftyped]
theorem K0l (v : K06) : (cellsOf (K0c v)).length = 4 := by rw [K0i]; rfl
theorem K0m (v : K06) : Q5v 4 (K0c v) = true := by rw [K0i]; rfl
theorem K0n (v : K06) : (cellsOf (K09 v)).length = 4 := by rw [K0g]; rfl
theorem K0o (v : K06) : Q5v 4 (K09 v) = true := by rw [K0g]; rfl
theorem K0p (l : List K06) : Q05 (List.map K09 l) = List.map K09 l := Qfc (fun v => by rw [K0g]; rfl) l
mutual
theorem K0q : ∀ v : K06, share (K0c v) = K09 v
  | ⟨x0, x1, x2, x3⟩ => by
    rw [K0c, K09]
    simp only [share, Q05, Qfd, K0r]
theorem K0r : ∀ l : List K06, Q05 (K0d l) = K0a l
  | [] => rfl
  | x :: xs => by
    rw [K0d, K0a, Q05, K0q x, K0r xs]
end
theorem K0s (l : List K06) : Q05 (List.map K0c l) = List.map K09 l := Qfc K0q l
mutual
theorem K0t : ∀ v : K06, noSh (K0c v) = true
  | ⟨x0, x1, x2, x3⟩ => by
    rw [K0c]
    simp only [noSh, Q7b, Qfm Qfh, K0u, Bool.and_self]
theorem K0u : ∀ l : List K06, Q7b (K0d l) = true
  | [] => rfl
  | x :: xs => by
    rw [K0d, Q7b, K0t x, K0u xs]; rfl
end
theorem K0v (v : K08) : K0k v = AV.agg [.str v.fword, .int .i64 v.fkids, .bool v.fgrade, .bool v.ftyped] := rfl
theorem K0w (v : K08) : (cellsOf (K0k v)).length = 4 := rfl
theorem K0x (v : K08) : Q5v 4 (K0k v) = true := rfl
theorem K0y (l : List K08) : Q05 (List.map K0k l) = List.map K0k l := Qfc (fun _ => rfl) l
theorem K0z (v : K08) : noSh (K0k v) = true := rfl
abbrev K10 (v : K06) : Q0c := .box [.int .i64 v.fOp, .int .i64 v.fN, .sl (List.map I v.fType), .sl (List.map K09 v.fKids)]
abbrev K11 (v : K06) : AV := .agg [.int .i64 v.fOp, .int .i64 v.fN, .sl (List.map I v.fType), .sl (List.map K09 v.fKids)]
abbrev K12 (v : K06) : AV := .optr [.int .i64 v.fOp, .int .i64 v.fN, .sl (List.map I v.fType), .sl (List.map K09 v.fKids)]
abbrev K13 (v : K06) : AV := .agg [.int .i64 v.fOp, .int .i64 v.fN, .osl (List.map I v.fType), .osl (List.map K0c v.fKids)]
abbrev K14 (v : K06) : AV := .agg [.int .i64 v.fOp, .int .i64 v.fN, .sl (Q05 (List.map I v.fType)), .sl (Q05 (List.map K0c v.fKids))]
end Go.Am
