/-
  NARROWER THAN 'FOR EVERY INPUT', by the rows' own cells (each row's printed sentence says how): FnExactCheckDerivation: loops · FnExactDerive: loops · FnExactFaultOf: loops.
  DERIVED. THE GIVEN ROWS OF THIS SEAT. 3 by the template 'for every input the law returns true; each argument reads behind the call as it read before'; 0 by the template 'total and deterministic' (their statements: YtkboikcppljkeaaGreatTotals.lean).
  GIVEN WITH THE SEED: the statements are not yours to turn. If you find one false, say at which input.
  Laid BY PROGRAM, IN A SANDBOX (cutbox-rows.mjs): the forced cells as the released guide's own fill.sh prints them over the translation 35591e3966daade9… (all of the seat's roots in one cut). By AI agents, Wed Nov 11 2026. No macro, syntax, notation, axiom, sorry.
-/
import Derived.Test.YtkboikcppljkeaaGreatChecked
import GoSem.Claim
import GoSem.ClaimJoined
import GoSem.ClaimMapViews
import Derived.JoinedTies
import Derived.KernelRfl
namespace Go.Proofs.YtkboikcppljkeaaGreat
/- THE CELL 'sum', in the pinned program and in every row, IS THE sha256 OF THE DUMP (.gsa) THAT YtkboikcppljkeaaGreatProg.lean LOADS. Nothing in Lean hashes anything: it is a label: what it is worth is what the hold of that sum in a sandbox is worth. -/
noncomputable def Tryz.pinned : Pinned := { name := "ytkboikcppljkeaagreat", sum := "35591e3966daade98895e60b6e4ac9cc206751038d04c77ecdcb09294bb4beab", checked := Tryz.checked }
namespace Rows
def none {H : Type} : Left H := { results := [], args := [] }

/-- 'laws.FnExactCheckDerivation': WHATEVER THE INPUT: true; the input reads as it did. -/
def fnExactCheckDerivationSpec : ChangeSpec := { name := "fnExactCheckDerivation", fn := fun _ => fun
  | [d1, d2] => { results := [.lit (.bool true)], args := [d1, d2] }
  | _ => none }
def fnExactCheckDerivationRow : OpenClaim := { program := "ytkboikcppljkeaagreat", sum := "35591e3966daade98895e60b6e4ac9cc206751038d04c77ecdcb09294bb4beab", func := "loop.example/g03111/laws.FnExactCheckDerivation", spec := "fnExactCheckDerivation", unfollowed := true, recurses := true, loops := true, apart := false }
def FnExactCheckDerivationSaid : Prop := fnExactCheckDerivationRow.holds Tryz.pinned (OpenSpec.ofChange fnExactCheckDerivationSpec)

/-- ITS FALSE NEIGHBOUR: 'it returns false'. Refute it at one input. -/
def fnExactCheckDerivationWrong : ChangeSpec := { name := "fnExactCheckDerivation", fn := fun _ => fun
  | [d1, d2] => { results := [.lit (.bool false)], args := [d1, d2] }
  | _ => none }
def FnExactCheckDerivationWrongFalsely : Prop := fnExactCheckDerivationRow.holds Tryz.pinned (OpenSpec.ofChange fnExactCheckDerivationWrong)

/-- 'laws.FnExactDerive': WHATEVER THE INPUT: true; the input reads as it did. -/
def fnExactDeriveSpec : ChangeSpec := { name := "fnExactDerive", fn := fun _ => fun
  | [d1, d2, d3] => { results := [.lit (.bool true)], args := [d1, d2, d3] }
  | _ => none }
def fnExactDeriveRow : OpenClaim := { program := "ytkboikcppljkeaagreat", sum := "35591e3966daade98895e60b6e4ac9cc206751038d04c77ecdcb09294bb4beab", func := "loop.example/g03111/laws.FnExactDerive", spec := "fnExactDerive", unfollowed := true, recurses := true, loops := true, apart := false }
def FnExactDeriveSaid : Prop := fnExactDeriveRow.holds Tryz.pinned (OpenSpec.ofChange fnExactDeriveSpec)

/-- ITS FALSE NEIGHBOUR: 'it returns false'. Refute it at one input. -/
def fnExactDeriveWrong : ChangeSpec := { name := "fnExactDerive", fn := fun _ => fun
  | [d1, d2, d3] => { results := [.lit (.bool false)], args := [d1, d2, d3] }
  | _ => none }
def FnExactDeriveWrongFalsely : Prop := fnExactDeriveRow.holds Tryz.pinned (OpenSpec.ofChange fnExactDeriveWrong)

/-- 'laws.FnExactFaultOf': WHATEVER THE INPUT: true; the input reads as it did. -/
def fnExactFaultOfSpec : ChangeSpec := { name := "fnExactFaultOf", fn := fun _ => fun
  | [d1, d2, d3] => { results := [.lit (.bool true)], args := [d1, d2, d3] }
  | _ => none }
def fnExactFaultOfRow : OpenClaim := { program := "ytkboikcppljkeaagreat", sum := "35591e3966daade98895e60b6e4ac9cc206751038d04c77ecdcb09294bb4beab", func := "loop.example/g03111/laws.FnExactFaultOf", spec := "fnExactFaultOf", unfollowed := true, recurses := true, loops := true, apart := false }
def FnExactFaultOfSaid : Prop := fnExactFaultOfRow.holds Tryz.pinned (OpenSpec.ofChange fnExactFaultOfSpec)

/-- ITS FALSE NEIGHBOUR: 'it returns false'. Refute it at one input. -/
def fnExactFaultOfWrong : ChangeSpec := { name := "fnExactFaultOf", fn := fun _ => fun
  | [d1, d2, d3] => { results := [.lit (.bool false)], args := [d1, d2, d3] }
  | _ => none }
def FnExactFaultOfWrongFalsely : Prop := fnExactFaultOfRow.holds Tryz.pinned (OpenSpec.ofChange fnExactFaultOfWrong)

/- THE SECOND FORM. 'bulk': how many values and letters a reading holds, each counted each time it is reached (what is shared counts as often as it is met; a slice's spare places count too). A statement '..UptoSaid' is the law's where the arguments, and the package variables that the reading takes, are together of bulk at most 1048576: NARROWER than '..Said'. Prove '..Said' where nothing that the law and all that it calls make is longer than what came in: it says more and counts as full. Else prove '..UptoSaid'. A law counts once. -/
mutual
def uptoBulk {H : Type} : DataW H → Nat
  | .lit (.string bytes) => bytes.length + 1
  | .lit _ => 1
  | .nil => 1
  | .ptr d => uptoBulk d + 1
  | .slice elems spare => uptoBulkAll elems + uptoBulkAll spare + 1
  | .agg parts => uptoBulkAll parts + 1
  | .iface _ d => uptoBulk d + 1
  | .map entries => uptoBulkEntries entries + 1
  | .held _ => 1
def uptoBulkAll {H : Type} : List (DataW H) → Nat
  | [] => 0
  | d :: r => uptoBulk d + uptoBulkAll r
def uptoBulkEntries {H : Type} : List (Lit × DataW H) → Nat
  | [] => 0
  | x :: r => uptoBulkEntry x + uptoBulkEntries r
def uptoBulkEntry {H : Type} : Lit × DataW H → Nat
  | (.string bytes, d) => bytes.length + uptoBulk d + 1
  | (_, d) => uptoBulk d + 1
 end
def uptoSmall : (H : Type) → List (DataW H) → Bool := fun _ ds => decide (uptoBulkAll ds ≤ 1048576)
def OpenSpec.upto (s : _root_.Go.ChangeSpec) : _root_.Go.OpenSpec := { _root_.Go.OpenSpec.ofChange s with cond := some uptoSmall }

/-- 'laws.FnExactCheckDerivation', WHERE WHAT IT READS IS OF BULK AT MOST 1048576: true; the input reads as it did. -/
def fnExactCheckDerivationUptoRow : OpenClaim := { program := "ytkboikcppljkeaagreat", sum := "35591e3966daade98895e60b6e4ac9cc206751038d04c77ecdcb09294bb4beab", func := "loop.example/g03111/laws.FnExactCheckDerivation", spec := "fnExactCheckDerivation", unfollowed := true, recurses := true, loops := true, apart := false, narrowed := true }
def FnExactCheckDerivationUptoSaid : Prop := fnExactCheckDerivationUptoRow.holds Tryz.pinned (OpenSpec.upto fnExactCheckDerivationSpec)

/-- 'laws.FnExactDerive', WHERE WHAT IT READS IS OF BULK AT MOST 1048576: true; the input reads as it did. -/
def fnExactDeriveUptoRow : OpenClaim := { program := "ytkboikcppljkeaagreat", sum := "35591e3966daade98895e60b6e4ac9cc206751038d04c77ecdcb09294bb4beab", func := "loop.example/g03111/laws.FnExactDerive", spec := "fnExactDerive", unfollowed := true, recurses := true, loops := true, apart := false, narrowed := true }
def FnExactDeriveUptoSaid : Prop := fnExactDeriveUptoRow.holds Tryz.pinned (OpenSpec.upto fnExactDeriveSpec)

/-- 'laws.FnExactFaultOf', WHERE WHAT IT READS IS OF BULK AT MOST 1048576: true; the input reads as it did. -/
def fnExactFaultOfUptoRow : OpenClaim := { program := "ytkboikcppljkeaagreat", sum := "35591e3966daade98895e60b6e4ac9cc206751038d04c77ecdcb09294bb4beab", func := "loop.example/g03111/laws.FnExactFaultOf", spec := "fnExactFaultOf", unfollowed := true, recurses := true, loops := true, apart := false, narrowed := true }
def FnExactFaultOfUptoSaid : Prop := fnExactFaultOfUptoRow.holds Tryz.pinned (OpenSpec.upto fnExactFaultOfSpec)

end Rows
end Go.Proofs.YtkboikcppljkeaaGreat
