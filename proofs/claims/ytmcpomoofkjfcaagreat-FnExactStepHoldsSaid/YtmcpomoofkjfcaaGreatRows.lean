/-
  NARROWER THAN 'FOR EVERY INPUT', by the rows' own cells (each row's printed sentence says how): FnExactTypeOf: loops · FnExactFaultOf: loops · FnExactFits: loops · FnExactTypesWithin: loops · FnExactSeenVariables: loops · FnExactCloseTerm: loops · FnExactStepHolds: loops · FnExactCheckDerivation: loops · FnExactDerive: loops · FnExactEraseTerm: loops.
  DERIVED. THE GIVEN ROWS OF THIS SEAT. 12 by the template 'for every input the law returns true; each argument reads behind the call as it read before'; 0 by the template 'total and deterministic' (their statements: YtmcpomoofkjfcaaGreatTotals.lean).
  GIVEN WITH THE SEED: the statements are not yours to turn. If you find one false, say at which input.
  Laid BY PROGRAM, IN A SANDBOX (cutbox-rows.mjs): the forced cells as the released guide's own fill.sh prints them over the translation dc97e8f3acb817d6… (all of the seat's roots in one cut). By AI agents, Wed Nov 11 2026. No macro, syntax, notation, axiom, sorry.
-/
import Derived.Test.YtmcpomoofkjfcaaGreatChecked
import GoSem.Claim
import GoSem.ClaimJoined
import GoSem.ClaimMapViews
import Derived.JoinedTies
import Derived.KernelRfl
namespace Go.Proofs.YtmcpomoofkjfcaaGreat
/- THE CELL 'sum', in the pinned program and in every row, IS THE sha256 OF THE DUMP (.gsa) THAT YtmcpomoofkjfcaaGreatProg.lean LOADS. Nothing in Lean hashes anything: it is a label: what it is worth is what the hold of that sum in a sandbox is worth. -/
noncomputable def Tryz.pinned : Pinned := { name := "ytmcpomoofkjfcaagreat", sum := "dc97e8f3acb817d606ff4ffd8f996c9aa76d72d302422fbf39583fc7b14ecf0c", checked := Tryz.checked }
namespace Rows
def none {H : Type} : Left H := { results := [], args := [] }

/-- 'laws.FnExactTypeOf': WHATEVER THE INPUT: true; the input reads as it did. -/
def fnExactTypeOfSpec : ChangeSpec := { name := "fnExactTypeOf", fn := fun _ => fun
  | [d1, d2, d3] => { results := [.lit (.bool true)], args := [d1, d2, d3] }
  | _ => none }
def fnExactTypeOfRow : OpenClaim := { program := "ytmcpomoofkjfcaagreat", sum := "dc97e8f3acb817d606ff4ffd8f996c9aa76d72d302422fbf39583fc7b14ecf0c", func := "loop.example/g03111/laws.FnExactTypeOf", spec := "fnExactTypeOf", unfollowed := true, recurses := true, loops := true, apart := false }
def FnExactTypeOfSaid : Prop := fnExactTypeOfRow.holds Tryz.pinned (OpenSpec.ofChange fnExactTypeOfSpec)

/-- ITS FALSE NEIGHBOUR: 'it returns false'. Refute it at one input. -/
def fnExactTypeOfWrong : ChangeSpec := { name := "fnExactTypeOf", fn := fun _ => fun
  | [d1, d2, d3] => { results := [.lit (.bool false)], args := [d1, d2, d3] }
  | _ => none }
def FnExactTypeOfWrongFalsely : Prop := fnExactTypeOfRow.holds Tryz.pinned (OpenSpec.ofChange fnExactTypeOfWrong)

/-- 'laws.FnExactFaultOf': WHATEVER THE INPUT: true; the input reads as it did. -/
def fnExactFaultOfSpec : ChangeSpec := { name := "fnExactFaultOf", fn := fun _ => fun
  | [d1, d2, d3] => { results := [.lit (.bool true)], args := [d1, d2, d3] }
  | _ => none }
def fnExactFaultOfRow : OpenClaim := { program := "ytmcpomoofkjfcaagreat", sum := "dc97e8f3acb817d606ff4ffd8f996c9aa76d72d302422fbf39583fc7b14ecf0c", func := "loop.example/g03111/laws.FnExactFaultOf", spec := "fnExactFaultOf", unfollowed := true, recurses := true, loops := true, apart := false }
def FnExactFaultOfSaid : Prop := fnExactFaultOfRow.holds Tryz.pinned (OpenSpec.ofChange fnExactFaultOfSpec)

/-- ITS FALSE NEIGHBOUR: 'it returns false'. Refute it at one input. -/
def fnExactFaultOfWrong : ChangeSpec := { name := "fnExactFaultOf", fn := fun _ => fun
  | [d1, d2, d3] => { results := [.lit (.bool false)], args := [d1, d2, d3] }
  | _ => none }
def FnExactFaultOfWrongFalsely : Prop := fnExactFaultOfRow.holds Tryz.pinned (OpenSpec.ofChange fnExactFaultOfWrong)

/-- 'laws.FnExactFits': WHATEVER THE INPUT: true; the input reads as it did. -/
def fnExactFitsSpec : ChangeSpec := { name := "fnExactFits", fn := fun _ => fun
  | [d1, d2, d3, d4, d5] => { results := [.lit (.bool true)], args := [d1, d2, d3, d4, d5] }
  | _ => none }
def fnExactFitsRow : OpenClaim := { program := "ytmcpomoofkjfcaagreat", sum := "dc97e8f3acb817d606ff4ffd8f996c9aa76d72d302422fbf39583fc7b14ecf0c", func := "loop.example/g03111/laws.FnExactFits", spec := "fnExactFits", unfollowed := true, recurses := true, loops := true, apart := false }
def FnExactFitsSaid : Prop := fnExactFitsRow.holds Tryz.pinned (OpenSpec.ofChange fnExactFitsSpec)

/-- ITS FALSE NEIGHBOUR: 'it returns false'. Refute it at one input. -/
def fnExactFitsWrong : ChangeSpec := { name := "fnExactFits", fn := fun _ => fun
  | [d1, d2, d3, d4, d5] => { results := [.lit (.bool false)], args := [d1, d2, d3, d4, d5] }
  | _ => none }
def FnExactFitsWrongFalsely : Prop := fnExactFitsRow.holds Tryz.pinned (OpenSpec.ofChange fnExactFitsWrong)

/-- 'laws.FnExactTypesWithin': WHATEVER THE INPUT: true; the input reads as it did. -/
def fnExactTypesWithinSpec : ChangeSpec := { name := "fnExactTypesWithin", fn := fun _ => fun
  | [d1, d2, d3] => { results := [.lit (.bool true)], args := [d1, d2, d3] }
  | _ => none }
def fnExactTypesWithinRow : OpenClaim := { program := "ytmcpomoofkjfcaagreat", sum := "dc97e8f3acb817d606ff4ffd8f996c9aa76d72d302422fbf39583fc7b14ecf0c", func := "loop.example/g03111/laws.FnExactTypesWithin", spec := "fnExactTypesWithin", unfollowed := true, recurses := true, loops := true, apart := false }
def FnExactTypesWithinSaid : Prop := fnExactTypesWithinRow.holds Tryz.pinned (OpenSpec.ofChange fnExactTypesWithinSpec)

/-- ITS FALSE NEIGHBOUR: 'it returns false'. Refute it at one input. -/
def fnExactTypesWithinWrong : ChangeSpec := { name := "fnExactTypesWithin", fn := fun _ => fun
  | [d1, d2, d3] => { results := [.lit (.bool false)], args := [d1, d2, d3] }
  | _ => none }
def FnExactTypesWithinWrongFalsely : Prop := fnExactTypesWithinRow.holds Tryz.pinned (OpenSpec.ofChange fnExactTypesWithinWrong)

/-- 'laws.FnExactSeenVariables': WHATEVER THE INPUT: true; the input reads as it did. -/
def fnExactSeenVariablesSpec : ChangeSpec := { name := "fnExactSeenVariables", fn := fun _ => fun
  | [d1, d2, d3, d4] => { results := [.lit (.bool true)], args := [d1, d2, d3, d4] }
  | _ => none }
def fnExactSeenVariablesRow : OpenClaim := { program := "ytmcpomoofkjfcaagreat", sum := "dc97e8f3acb817d606ff4ffd8f996c9aa76d72d302422fbf39583fc7b14ecf0c", func := "loop.example/g03111/laws.FnExactSeenVariables", spec := "fnExactSeenVariables", unfollowed := true, recurses := true, loops := true, apart := false }
def FnExactSeenVariablesSaid : Prop := fnExactSeenVariablesRow.holds Tryz.pinned (OpenSpec.ofChange fnExactSeenVariablesSpec)

/-- ITS FALSE NEIGHBOUR: 'it returns false'. Refute it at one input. -/
def fnExactSeenVariablesWrong : ChangeSpec := { name := "fnExactSeenVariables", fn := fun _ => fun
  | [d1, d2, d3, d4] => { results := [.lit (.bool false)], args := [d1, d2, d3, d4] }
  | _ => none }
def FnExactSeenVariablesWrongFalsely : Prop := fnExactSeenVariablesRow.holds Tryz.pinned (OpenSpec.ofChange fnExactSeenVariablesWrong)

/-- 'laws.FnExactCloseTerm': WHATEVER THE INPUT: true; the input reads as it did. -/
def fnExactCloseTermSpec : ChangeSpec := { name := "fnExactCloseTerm", fn := fun _ => fun
  | [d1, d2, d3, d4] => { results := [.lit (.bool true)], args := [d1, d2, d3, d4] }
  | _ => none }
def fnExactCloseTermRow : OpenClaim := { program := "ytmcpomoofkjfcaagreat", sum := "dc97e8f3acb817d606ff4ffd8f996c9aa76d72d302422fbf39583fc7b14ecf0c", func := "loop.example/g03111/laws.FnExactCloseTerm", spec := "fnExactCloseTerm", unfollowed := true, recurses := true, loops := true, apart := false }
def FnExactCloseTermSaid : Prop := fnExactCloseTermRow.holds Tryz.pinned (OpenSpec.ofChange fnExactCloseTermSpec)

/-- ITS FALSE NEIGHBOUR: 'it returns false'. Refute it at one input. -/
def fnExactCloseTermWrong : ChangeSpec := { name := "fnExactCloseTerm", fn := fun _ => fun
  | [d1, d2, d3, d4] => { results := [.lit (.bool false)], args := [d1, d2, d3, d4] }
  | _ => none }
def FnExactCloseTermWrongFalsely : Prop := fnExactCloseTermRow.holds Tryz.pinned (OpenSpec.ofChange fnExactCloseTermWrong)

/-- 'laws.FnExactStepHolds': WHATEVER THE INPUT: true; the input reads as it did. -/
def fnExactStepHoldsSpec : ChangeSpec := { name := "fnExactStepHolds", fn := fun _ => fun
  | [d1, d2, d3] => { results := [.lit (.bool true)], args := [d1, d2, d3] }
  | _ => none }
def fnExactStepHoldsRow : OpenClaim := { program := "ytmcpomoofkjfcaagreat", sum := "dc97e8f3acb817d606ff4ffd8f996c9aa76d72d302422fbf39583fc7b14ecf0c", func := "loop.example/g03111/laws.FnExactStepHolds", spec := "fnExactStepHolds", unfollowed := true, recurses := true, loops := true, apart := false }
def FnExactStepHoldsSaid : Prop := fnExactStepHoldsRow.holds Tryz.pinned (OpenSpec.ofChange fnExactStepHoldsSpec)

/-- ITS FALSE NEIGHBOUR: 'it returns false'. Refute it at one input. -/
def fnExactStepHoldsWrong : ChangeSpec := { name := "fnExactStepHolds", fn := fun _ => fun
  | [d1, d2, d3] => { results := [.lit (.bool false)], args := [d1, d2, d3] }
  | _ => none }
def FnExactStepHoldsWrongFalsely : Prop := fnExactStepHoldsRow.holds Tryz.pinned (OpenSpec.ofChange fnExactStepHoldsWrong)

/-- 'laws.FnExactCheckDerivation': WHATEVER THE INPUT: true; the input reads as it did. -/
def fnExactCheckDerivationSpec : ChangeSpec := { name := "fnExactCheckDerivation", fn := fun _ => fun
  | [d1, d2] => { results := [.lit (.bool true)], args := [d1, d2] }
  | _ => none }
def fnExactCheckDerivationRow : OpenClaim := { program := "ytmcpomoofkjfcaagreat", sum := "dc97e8f3acb817d606ff4ffd8f996c9aa76d72d302422fbf39583fc7b14ecf0c", func := "loop.example/g03111/laws.FnExactCheckDerivation", spec := "fnExactCheckDerivation", unfollowed := true, recurses := true, loops := true, apart := false }
def FnExactCheckDerivationSaid : Prop := fnExactCheckDerivationRow.holds Tryz.pinned (OpenSpec.ofChange fnExactCheckDerivationSpec)

/-- ITS FALSE NEIGHBOUR: 'it returns false'. Refute it at one input. -/
def fnExactCheckDerivationWrong : ChangeSpec := { name := "fnExactCheckDerivation", fn := fun _ => fun
  | [d1, d2] => { results := [.lit (.bool false)], args := [d1, d2] }
  | _ => none }
def FnExactCheckDerivationWrongFalsely : Prop := fnExactCheckDerivationRow.holds Tryz.pinned (OpenSpec.ofChange fnExactCheckDerivationWrong)

/-- 'laws.FnExactDerive': WHATEVER THE INPUT: true; the input reads as it did. -/
def fnExactDeriveSpec : ChangeSpec := { name := "fnExactDerive", fn := fun _ => fun
  | [d1, d2, d3] => { results := [.lit (.bool true)], args := [d1, d2, d3] }
  | _ => none }
def fnExactDeriveRow : OpenClaim := { program := "ytmcpomoofkjfcaagreat", sum := "dc97e8f3acb817d606ff4ffd8f996c9aa76d72d302422fbf39583fc7b14ecf0c", func := "loop.example/g03111/laws.FnExactDerive", spec := "fnExactDerive", unfollowed := true, recurses := true, loops := true, apart := false }
def FnExactDeriveSaid : Prop := fnExactDeriveRow.holds Tryz.pinned (OpenSpec.ofChange fnExactDeriveSpec)

/-- ITS FALSE NEIGHBOUR: 'it returns false'. Refute it at one input. -/
def fnExactDeriveWrong : ChangeSpec := { name := "fnExactDerive", fn := fun _ => fun
  | [d1, d2, d3] => { results := [.lit (.bool false)], args := [d1, d2, d3] }
  | _ => none }
def FnExactDeriveWrongFalsely : Prop := fnExactDeriveRow.holds Tryz.pinned (OpenSpec.ofChange fnExactDeriveWrong)

/-- 'laws.FnExactEraseTerm': WHATEVER THE INPUT: true; the input reads as it did. -/
def fnExactEraseTermSpec : ChangeSpec := { name := "fnExactEraseTerm", fn := fun _ => fun
  | [d1, d2, d3, d4] => { results := [.lit (.bool true)], args := [d1, d2, d3, d4] }
  | _ => none }
def fnExactEraseTermRow : OpenClaim := { program := "ytmcpomoofkjfcaagreat", sum := "dc97e8f3acb817d606ff4ffd8f996c9aa76d72d302422fbf39583fc7b14ecf0c", func := "loop.example/g03111/laws.FnExactEraseTerm", spec := "fnExactEraseTerm", unfollowed := true, recurses := true, loops := true, apart := false }
def FnExactEraseTermSaid : Prop := fnExactEraseTermRow.holds Tryz.pinned (OpenSpec.ofChange fnExactEraseTermSpec)

/-- ITS FALSE NEIGHBOUR: 'it returns false'. Refute it at one input. -/
def fnExactEraseTermWrong : ChangeSpec := { name := "fnExactEraseTerm", fn := fun _ => fun
  | [d1, d2, d3, d4] => { results := [.lit (.bool false)], args := [d1, d2, d3, d4] }
  | _ => none }
def FnExactEraseTermWrongFalsely : Prop := fnExactEraseTermRow.holds Tryz.pinned (OpenSpec.ofChange fnExactEraseTermWrong)

/-- 'laws.FnSeenCounted': WHATEVER THE INPUT: true; the input reads as it did. -/
def fnSeenCountedSpec : ChangeSpec := { name := "fnSeenCounted", fn := fun _ => fun
  | [d] => { results := [.lit (.bool true)], args := [d] }
  | _ => none }
def fnSeenCountedRow : OpenClaim := { program := "ytmcpomoofkjfcaagreat", sum := "dc97e8f3acb817d606ff4ffd8f996c9aa76d72d302422fbf39583fc7b14ecf0c", func := "loop.example/g03111/laws.FnSeenCounted", spec := "fnSeenCounted", unfollowed := true, recurses := true, apart := false }
def FnSeenCountedSaid : Prop := fnSeenCountedRow.holds Tryz.pinned (OpenSpec.ofChange fnSeenCountedSpec)

/-- ITS FALSE NEIGHBOUR: 'it returns false'. Refute it at one input. -/
def fnSeenCountedWrong : ChangeSpec := { name := "fnSeenCounted", fn := fun _ => fun
  | [d] => { results := [.lit (.bool false)], args := [d] }
  | _ => none }
def FnSeenCountedWrongFalsely : Prop := fnSeenCountedRow.holds Tryz.pinned (OpenSpec.ofChange fnSeenCountedWrong)

/-- 'laws.FnErasedValues': WHATEVER THE INPUT: true; the input reads as it did. -/
def fnErasedValuesSpec : ChangeSpec := { name := "fnErasedValues", fn := fun _ => fun
  | [d] => { results := [.lit (.bool true)], args := [d] }
  | _ => none }
def fnErasedValuesRow : OpenClaim := { program := "ytmcpomoofkjfcaagreat", sum := "dc97e8f3acb817d606ff4ffd8f996c9aa76d72d302422fbf39583fc7b14ecf0c", func := "loop.example/g03111/laws.FnErasedValues", spec := "fnErasedValues", unfollowed := true, recurses := true, apart := false }
def FnErasedValuesSaid : Prop := fnErasedValuesRow.holds Tryz.pinned (OpenSpec.ofChange fnErasedValuesSpec)

/-- ITS FALSE NEIGHBOUR: 'it returns false'. Refute it at one input. -/
def fnErasedValuesWrong : ChangeSpec := { name := "fnErasedValues", fn := fun _ => fun
  | [d] => { results := [.lit (.bool false)], args := [d] }
  | _ => none }
def FnErasedValuesWrongFalsely : Prop := fnErasedValuesRow.holds Tryz.pinned (OpenSpec.ofChange fnErasedValuesWrong)

/- THE SECOND FORM. 'bulk': how many values and letters a reading holds, each counted each time it is reached (what is shared counts as often as it is met; a slice's spare places count too). A statement '..UptoSaid' is the law's where the arguments, and the package variables that the reading takes, are together of bulk at most 1048576: NARROWER than '..Said'. Prove '..Said' where nothing that the law and all that it calls make is longer than what came in: it says more and counts as full. Else prove '..UptoSaid'. A law counts once. -/
mutual
def uptoBulk {H : Type} : DataW H → Nat
  | .lit (.string bytes) => bytes.length + 1
  | .lit _ => 1
  | .nil => 1
  | .ptr d => uptoBulk d + 1
  | .slice elems spare => uptoBulkAll elems + uptoBulkAll spare + 1
  | .agg parts => uptoBulkAll parts + 1
  | .iface _ d => uptoBulk d + 1
  | .map entries => uptoBulkEntries entries + 1
  | .held _ => 1
def uptoBulkAll {H : Type} : List (DataW H) → Nat
  | [] => 0
  | d :: r => uptoBulk d + uptoBulkAll r
def uptoBulkEntries {H : Type} : List (Lit × DataW H) → Nat
  | [] => 0
  | x :: r => uptoBulkEntry x + uptoBulkEntries r
def uptoBulkEntry {H : Type} : Lit × DataW H → Nat
  | (.string bytes, d) => bytes.length + uptoBulk d + 1
  | (_, d) => uptoBulk d + 1
 end
def uptoSmall : (H : Type) → List (DataW H) → Bool := fun _ ds => decide (uptoBulkAll ds ≤ 1048576)
def OpenSpec.upto (s : _root_.Go.ChangeSpec) : _root_.Go.OpenSpec := { _root_.Go.OpenSpec.ofChange s with cond := some uptoSmall }

/-- 'laws.FnExactTypeOf', WHERE WHAT IT READS IS OF BULK AT MOST 1048576: true; the input reads as it did. -/
def fnExactTypeOfUptoRow : OpenClaim := { program := "ytmcpomoofkjfcaagreat", sum := "dc97e8f3acb817d606ff4ffd8f996c9aa76d72d302422fbf39583fc7b14ecf0c", func := "loop.example/g03111/laws.FnExactTypeOf", spec := "fnExactTypeOf", unfollowed := true, recurses := true, loops := true, apart := false, narrowed := true }
def FnExactTypeOfUptoSaid : Prop := fnExactTypeOfUptoRow.holds Tryz.pinned (OpenSpec.upto fnExactTypeOfSpec)

/-- 'laws.FnExactFaultOf', WHERE WHAT IT READS IS OF BULK AT MOST 1048576: true; the input reads as it did. -/
def fnExactFaultOfUptoRow : OpenClaim := { program := "ytmcpomoofkjfcaagreat", sum := "dc97e8f3acb817d606ff4ffd8f996c9aa76d72d302422fbf39583fc7b14ecf0c", func := "loop.example/g03111/laws.FnExactFaultOf", spec := "fnExactFaultOf", unfollowed := true, recurses := true, loops := true, apart := false, narrowed := true }
def FnExactFaultOfUptoSaid : Prop := fnExactFaultOfUptoRow.holds Tryz.pinned (OpenSpec.upto fnExactFaultOfSpec)

/-- 'laws.FnExactFits', WHERE WHAT IT READS IS OF BULK AT MOST 1048576: true; the input reads as it did. -/
def fnExactFitsUptoRow : OpenClaim := { program := "ytmcpomoofkjfcaagreat", sum := "dc97e8f3acb817d606ff4ffd8f996c9aa76d72d302422fbf39583fc7b14ecf0c", func := "loop.example/g03111/laws.FnExactFits", spec := "fnExactFits", unfollowed := true, recurses := true, loops := true, apart := false, narrowed := true }
def FnExactFitsUptoSaid : Prop := fnExactFitsUptoRow.holds Tryz.pinned (OpenSpec.upto fnExactFitsSpec)

/-- 'laws.FnExactTypesWithin', WHERE WHAT IT READS IS OF BULK AT MOST 1048576: true; the input reads as it did. -/
def fnExactTypesWithinUptoRow : OpenClaim := { program := "ytmcpomoofkjfcaagreat", sum := "dc97e8f3acb817d606ff4ffd8f996c9aa76d72d302422fbf39583fc7b14ecf0c", func := "loop.example/g03111/laws.FnExactTypesWithin", spec := "fnExactTypesWithin", unfollowed := true, recurses := true, loops := true, apart := false, narrowed := true }
def FnExactTypesWithinUptoSaid : Prop := fnExactTypesWithinUptoRow.holds Tryz.pinned (OpenSpec.upto fnExactTypesWithinSpec)

/-- 'laws.FnExactSeenVariables', WHERE WHAT IT READS IS OF BULK AT MOST 1048576: true; the input reads as it did. -/
def fnExactSeenVariablesUptoRow : OpenClaim := { program := "ytmcpomoofkjfcaagreat", sum := "dc97e8f3acb817d606ff4ffd8f996c9aa76d72d302422fbf39583fc7b14ecf0c", func := "loop.example/g03111/laws.FnExactSeenVariables", spec := "fnExactSeenVariables", unfollowed := true, recurses := true, loops := true, apart := false, narrowed := true }
def FnExactSeenVariablesUptoSaid : Prop := fnExactSeenVariablesUptoRow.holds Tryz.pinned (OpenSpec.upto fnExactSeenVariablesSpec)

/-- 'laws.FnExactCloseTerm', WHERE WHAT IT READS IS OF BULK AT MOST 1048576: true; the input reads as it did. -/
def fnExactCloseTermUptoRow : OpenClaim := { program := "ytmcpomoofkjfcaagreat", sum := "dc97e8f3acb817d606ff4ffd8f996c9aa76d72d302422fbf39583fc7b14ecf0c", func := "loop.example/g03111/laws.FnExactCloseTerm", spec := "fnExactCloseTerm", unfollowed := true, recurses := true, loops := true, apart := false, narrowed := true }
def FnExactCloseTermUptoSaid : Prop := fnExactCloseTermUptoRow.holds Tryz.pinned (OpenSpec.upto fnExactCloseTermSpec)

/-- 'laws.FnExactStepHolds', WHERE WHAT IT READS IS OF BULK AT MOST 1048576: true; the input reads as it did. -/
def fnExactStepHoldsUptoRow : OpenClaim := { program := "ytmcpomoofkjfcaagreat", sum := "dc97e8f3acb817d606ff4ffd8f996c9aa76d72d302422fbf39583fc7b14ecf0c", func := "loop.example/g03111/laws.FnExactStepHolds", spec := "fnExactStepHolds", unfollowed := true, recurses := true, loops := true, apart := false, narrowed := true }
def FnExactStepHoldsUptoSaid : Prop := fnExactStepHoldsUptoRow.holds Tryz.pinned (OpenSpec.upto fnExactStepHoldsSpec)

/-- 'laws.FnExactCheckDerivation', WHERE WHAT IT READS IS OF BULK AT MOST 1048576: true; the input reads as it did. -/
def fnExactCheckDerivationUptoRow : OpenClaim := { program := "ytmcpomoofkjfcaagreat", sum := "dc97e8f3acb817d606ff4ffd8f996c9aa76d72d302422fbf39583fc7b14ecf0c", func := "loop.example/g03111/laws.FnExactCheckDerivation", spec := "fnExactCheckDerivation", unfollowed := true, recurses := true, loops := true, apart := false, narrowed := true }
def FnExactCheckDerivationUptoSaid : Prop := fnExactCheckDerivationUptoRow.holds Tryz.pinned (OpenSpec.upto fnExactCheckDerivationSpec)

/-- 'laws.FnExactDerive', WHERE WHAT IT READS IS OF BULK AT MOST 1048576: true; the input reads as it did. -/
def fnExactDeriveUptoRow : OpenClaim := { program := "ytmcpomoofkjfcaagreat", sum := "dc97e8f3acb817d606ff4ffd8f996c9aa76d72d302422fbf39583fc7b14ecf0c", func := "loop.example/g03111/laws.FnExactDerive", spec := "fnExactDerive", unfollowed := true, recurses := true, loops := true, apart := false, narrowed := true }
def FnExactDeriveUptoSaid : Prop := fnExactDeriveUptoRow.holds Tryz.pinned (OpenSpec.upto fnExactDeriveSpec)

/-- 'laws.FnExactEraseTerm', WHERE WHAT IT READS IS OF BULK AT MOST 1048576: true; the input reads as it did. -/
def fnExactEraseTermUptoRow : OpenClaim := { program := "ytmcpomoofkjfcaagreat", sum := "dc97e8f3acb817d606ff4ffd8f996c9aa76d72d302422fbf39583fc7b14ecf0c", func := "loop.example/g03111/laws.FnExactEraseTerm", spec := "fnExactEraseTerm", unfollowed := true, recurses := true, loops := true, apart := false, narrowed := true }
def FnExactEraseTermUptoSaid : Prop := fnExactEraseTermUptoRow.holds Tryz.pinned (OpenSpec.upto fnExactEraseTermSpec)

/-- 'laws.FnSeenCounted', WHERE WHAT IT READS IS OF BULK AT MOST 1048576: true; the input reads as it did. -/
def fnSeenCountedUptoRow : OpenClaim := { program := "ytmcpomoofkjfcaagreat", sum := "dc97e8f3acb817d606ff4ffd8f996c9aa76d72d302422fbf39583fc7b14ecf0c", func := "loop.example/g03111/laws.FnSeenCounted", spec := "fnSeenCounted", unfollowed := true, recurses := true, apart := false, narrowed := true }
def FnSeenCountedUptoSaid : Prop := fnSeenCountedUptoRow.holds Tryz.pinned (OpenSpec.upto fnSeenCountedSpec)

/-- 'laws.FnErasedValues', WHERE WHAT IT READS IS OF BULK AT MOST 1048576: true; the input reads as it did. -/
def fnErasedValuesUptoRow : OpenClaim := { program := "ytmcpomoofkjfcaagreat", sum := "dc97e8f3acb817d606ff4ffd8f996c9aa76d72d302422fbf39583fc7b14ecf0c", func := "loop.example/g03111/laws.FnErasedValues", spec := "fnErasedValues", unfollowed := true, recurses := true, apart := false, narrowed := true }
def FnErasedValuesUptoSaid : Prop := fnErasedValuesUptoRow.holds Tryz.pinned (OpenSpec.upto fnErasedValuesSpec)

end Rows
end Go.Proofs.YtmcpomoofkjfcaaGreat
