/-
  NARROWER THAN 'FOR EVERY INPUT', by the rows' own cells (each row's printed sentence says how): FnExactPlaceOf: loops · FnExactAlikeValues: loops · FnExactStepTerm: loops · FnExactNormalForm: loops · FnExactEraseValue: loops.
  DERIVED. THE GIVEN ROWS OF THIS SEAT. 5 by the template 'for every input the law returns true; each argument reads behind the call as it read before'; 0 by the template 'total and deterministic' (their statements: YtmdfopkcoinfeaaTotals.lean).
  GIVEN WITH THE SEED: the statements are not yours to turn. If you find one false, say at which input.
  Laid BY PROGRAM, IN A SANDBOX (cutbox-rows.mjs): the forced cells as the released guide's own fill.sh prints them over the translation fbebf86510558836… (all of the seat's roots in one cut). By AI agents, Wed Nov 11 2026. No macro, syntax, notation, axiom, sorry.
-/
import Derived.Test.YtmdfopkcoinfeaaChecked
import GoSem.Claim
import GoSem.ClaimJoined
import GoSem.ClaimMapViews
import Derived.JoinedTies
import Derived.KernelRfl
namespace Go.Proofs.Ytmdfopkcoinfeaa
/- THE CELL 'sum', in the pinned program and in every row, IS THE sha256 OF THE DUMP (.gsa) THAT YtmdfopkcoinfeaaProg.lean LOADS. Nothing in Lean hashes anything: it is a label: what it is worth is what the hold of that sum in a sandbox is worth. -/
noncomputable def Try.pinned : Pinned := { name := "ytmdfopkcoinfeaa", sum := "fbebf86510558836bef8d01d67776be2243f1ccb16300a7c3d9577d9ba7de00a", checked := Try.checked }
namespace Rows
def none {H : Type} : Left H := { results := [], args := [] }

/-- 'laws.FnExactPlaceOf': WHATEVER THE INPUT: true; the input reads as it did. -/
def fnExactPlaceOfSpec : ChangeSpec := { name := "fnExactPlaceOf", fn := fun _ => fun
  | [d1, d2, d3] => { results := [.lit (.bool true)], args := [d1, d2, d3] }
  | _ => none }
def fnExactPlaceOfRow : OpenClaim := { program := "ytmdfopkcoinfeaa", sum := "fbebf86510558836bef8d01d67776be2243f1ccb16300a7c3d9577d9ba7de00a", func := "loop.example/g03111/laws.FnExactPlaceOf", spec := "fnExactPlaceOf", unfollowed := true, recurses := true, loops := true, apart := false }
def FnExactPlaceOfSaid : Prop := fnExactPlaceOfRow.holds Try.pinned (OpenSpec.ofChange fnExactPlaceOfSpec)

/-- ITS FALSE NEIGHBOUR: 'it returns false'. Refute it at one input. -/
def fnExactPlaceOfWrong : ChangeSpec := { name := "fnExactPlaceOf", fn := fun _ => fun
  | [d1, d2, d3] => { results := [.lit (.bool false)], args := [d1, d2, d3] }
  | _ => none }
def FnExactPlaceOfWrongFalsely : Prop := fnExactPlaceOfRow.holds Try.pinned (OpenSpec.ofChange fnExactPlaceOfWrong)

/-- 'laws.FnExactAlikeValues': WHATEVER THE INPUT: true; the input reads as it did. -/
def fnExactAlikeValuesSpec : ChangeSpec := { name := "fnExactAlikeValues", fn := fun _ => fun
  | [d1, d2, d3, d4, d5] => { results := [.lit (.bool true)], args := [d1, d2, d3, d4, d5] }
  | _ => none }
def fnExactAlikeValuesRow : OpenClaim := { program := "ytmdfopkcoinfeaa", sum := "fbebf86510558836bef8d01d67776be2243f1ccb16300a7c3d9577d9ba7de00a", func := "loop.example/g03111/laws.FnExactAlikeValues", spec := "fnExactAlikeValues", unfollowed := true, recurses := true, loops := true, apart := false }
def FnExactAlikeValuesSaid : Prop := fnExactAlikeValuesRow.holds Try.pinned (OpenSpec.ofChange fnExactAlikeValuesSpec)

/-- ITS FALSE NEIGHBOUR: 'it returns false'. Refute it at one input. -/
def fnExactAlikeValuesWrong : ChangeSpec := { name := "fnExactAlikeValues", fn := fun _ => fun
  | [d1, d2, d3, d4, d5] => { results := [.lit (.bool false)], args := [d1, d2, d3, d4, d5] }
  | _ => none }
def FnExactAlikeValuesWrongFalsely : Prop := fnExactAlikeValuesRow.holds Try.pinned (OpenSpec.ofChange fnExactAlikeValuesWrong)

/-- 'laws.FnExactStepTerm': WHATEVER THE INPUT: true; the input reads as it did. -/
def fnExactStepTermSpec : ChangeSpec := { name := "fnExactStepTerm", fn := fun _ => fun
  | [d] => { results := [.lit (.bool true)], args := [d] }
  | _ => none }
def fnExactStepTermRow : OpenClaim := { program := "ytmdfopkcoinfeaa", sum := "fbebf86510558836bef8d01d67776be2243f1ccb16300a7c3d9577d9ba7de00a", func := "loop.example/g03111/laws.FnExactStepTerm", spec := "fnExactStepTerm", unfollowed := true, recurses := true, loops := true, apart := false }
def FnExactStepTermSaid : Prop := fnExactStepTermRow.holds Try.pinned (OpenSpec.ofChange fnExactStepTermSpec)

/-- ITS FALSE NEIGHBOUR: 'it returns false'. Refute it at one input. -/
def fnExactStepTermWrong : ChangeSpec := { name := "fnExactStepTerm", fn := fun _ => fun
  | [d] => { results := [.lit (.bool false)], args := [d] }
  | _ => none }
def FnExactStepTermWrongFalsely : Prop := fnExactStepTermRow.holds Try.pinned (OpenSpec.ofChange fnExactStepTermWrong)

/-- 'laws.FnExactNormalForm': WHATEVER THE INPUT: true; the input reads as it did. -/
def fnExactNormalFormSpec : ChangeSpec := { name := "fnExactNormalForm", fn := fun _ => fun
  | [d1, d2] => { results := [.lit (.bool true)], args := [d1, d2] }
  | _ => none }
def fnExactNormalFormRow : OpenClaim := { program := "ytmdfopkcoinfeaa", sum := "fbebf86510558836bef8d01d67776be2243f1ccb16300a7c3d9577d9ba7de00a", func := "loop.example/g03111/laws.FnExactNormalForm", spec := "fnExactNormalForm", unfollowed := true, recurses := true, loops := true, apart := false }
def FnExactNormalFormSaid : Prop := fnExactNormalFormRow.holds Try.pinned (OpenSpec.ofChange fnExactNormalFormSpec)

/-- ITS FALSE NEIGHBOUR: 'it returns false'. Refute it at one input. -/
def fnExactNormalFormWrong : ChangeSpec := { name := "fnExactNormalForm", fn := fun _ => fun
  | [d1, d2] => { results := [.lit (.bool false)], args := [d1, d2] }
  | _ => none }
def FnExactNormalFormWrongFalsely : Prop := fnExactNormalFormRow.holds Try.pinned (OpenSpec.ofChange fnExactNormalFormWrong)

/-- 'laws.FnExactEraseValue': WHATEVER THE INPUT: true; the input reads as it did. -/
def fnExactEraseValueSpec : ChangeSpec := { name := "fnExactEraseValue", fn := fun _ => fun
  | [d1, d2, d3, d4] => { results := [.lit (.bool true)], args := [d1, d2, d3, d4] }
  | _ => none }
def fnExactEraseValueRow : OpenClaim := { program := "ytmdfopkcoinfeaa", sum := "fbebf86510558836bef8d01d67776be2243f1ccb16300a7c3d9577d9ba7de00a", func := "loop.example/g03111/laws.FnExactEraseValue", spec := "fnExactEraseValue", unfollowed := true, recurses := true, loops := true, apart := false }
def FnExactEraseValueSaid : Prop := fnExactEraseValueRow.holds Try.pinned (OpenSpec.ofChange fnExactEraseValueSpec)

/-- ITS FALSE NEIGHBOUR: 'it returns false'. Refute it at one input. -/
def fnExactEraseValueWrong : ChangeSpec := { name := "fnExactEraseValue", fn := fun _ => fun
  | [d1, d2, d3, d4] => { results := [.lit (.bool false)], args := [d1, d2, d3, d4] }
  | _ => none }
def FnExactEraseValueWrongFalsely : Prop := fnExactEraseValueRow.holds Try.pinned (OpenSpec.ofChange fnExactEraseValueWrong)

/- THE SECOND FORM. 'bulk': how many values and letters a reading holds, each counted each time it is reached (what is shared counts as often as it is met; a slice's spare places count too). A statement '..UptoSaid' is the law's where the arguments, and the package variables that the reading takes, are together of bulk at most 1048576: NARROWER than '..Said'. Prove '..Said' where nothing that the law and all that it calls make is longer than what came in: it says more and counts as full. Else prove '..UptoSaid'. A law counts once. -/
mutual
def uptoBulk {H : Type} : DataW H → Nat
  | .lit (.string bytes) => bytes.length + 1
  | .lit _ => 1
  | .nil => 1
  | .ptr d => uptoBulk d + 1
  | .slice elems spare => uptoBulkAll elems + uptoBulkAll spare + 1
  | .agg parts => uptoBulkAll parts + 1
  | .iface _ d => uptoBulk d + 1
  | .map entries => uptoBulkEntries entries + 1
  | .held _ => 1
def uptoBulkAll {H : Type} : List (DataW H) → Nat
  | [] => 0
  | d :: r => uptoBulk d + uptoBulkAll r
def uptoBulkEntries {H : Type} : List (Lit × DataW H) → Nat
  | [] => 0
  | x :: r => uptoBulkEntry x + uptoBulkEntries r
def uptoBulkEntry {H : Type} : Lit × DataW H → Nat
  | (.string bytes, d) => bytes.length + uptoBulk d + 1
  | (_, d) => uptoBulk d + 1
 end
def uptoSmall : (H : Type) → List (DataW H) → Bool := fun _ ds => decide (uptoBulkAll ds ≤ 1048576)
def OpenSpec.upto (s : _root_.Go.ChangeSpec) : _root_.Go.OpenSpec := { _root_.Go.OpenSpec.ofChange s with cond := some uptoSmall }

/-- 'laws.FnExactPlaceOf', WHERE WHAT IT READS IS OF BULK AT MOST 1048576: true; the input reads as it did. -/
def fnExactPlaceOfUptoRow : OpenClaim := { program := "ytmdfopkcoinfeaa", sum := "fbebf86510558836bef8d01d67776be2243f1ccb16300a7c3d9577d9ba7de00a", func := "loop.example/g03111/laws.FnExactPlaceOf", spec := "fnExactPlaceOf", unfollowed := true, recurses := true, loops := true, apart := false, narrowed := true }
def FnExactPlaceOfUptoSaid : Prop := fnExactPlaceOfUptoRow.holds Try.pinned (OpenSpec.upto fnExactPlaceOfSpec)

/-- 'laws.FnExactAlikeValues', WHERE WHAT IT READS IS OF BULK AT MOST 1048576: true; the input reads as it did. -/
def fnExactAlikeValuesUptoRow : OpenClaim := { program := "ytmdfopkcoinfeaa", sum := "fbebf86510558836bef8d01d67776be2243f1ccb16300a7c3d9577d9ba7de00a", func := "loop.example/g03111/laws.FnExactAlikeValues", spec := "fnExactAlikeValues", unfollowed := true, recurses := true, loops := true, apart := false, narrowed := true }
def FnExactAlikeValuesUptoSaid : Prop := fnExactAlikeValuesUptoRow.holds Try.pinned (OpenSpec.upto fnExactAlikeValuesSpec)

/-- 'laws.FnExactStepTerm', WHERE WHAT IT READS IS OF BULK AT MOST 1048576: true; the input reads as it did. -/
def fnExactStepTermUptoRow : OpenClaim := { program := "ytmdfopkcoinfeaa", sum := "fbebf86510558836bef8d01d67776be2243f1ccb16300a7c3d9577d9ba7de00a", func := "loop.example/g03111/laws.FnExactStepTerm", spec := "fnExactStepTerm", unfollowed := true, recurses := true, loops := true, apart := false, narrowed := true }
def FnExactStepTermUptoSaid : Prop := fnExactStepTermUptoRow.holds Try.pinned (OpenSpec.upto fnExactStepTermSpec)

/-- 'laws.FnExactNormalForm', WHERE WHAT IT READS IS OF BULK AT MOST 1048576: true; the input reads as it did. -/
def fnExactNormalFormUptoRow : OpenClaim := { program := "ytmdfopkcoinfeaa", sum := "fbebf86510558836bef8d01d67776be2243f1ccb16300a7c3d9577d9ba7de00a", func := "loop.example/g03111/laws.FnExactNormalForm", spec := "fnExactNormalForm", unfollowed := true, recurses := true, loops := true, apart := false, narrowed := true }
def FnExactNormalFormUptoSaid : Prop := fnExactNormalFormUptoRow.holds Try.pinned (OpenSpec.upto fnExactNormalFormSpec)

/-- 'laws.FnExactEraseValue', WHERE WHAT IT READS IS OF BULK AT MOST 1048576: true; the input reads as it did. -/
def fnExactEraseValueUptoRow : OpenClaim := { program := "ytmdfopkcoinfeaa", sum := "fbebf86510558836bef8d01d67776be2243f1ccb16300a7c3d9577d9ba7de00a", func := "loop.example/g03111/laws.FnExactEraseValue", spec := "fnExactEraseValue", unfollowed := true, recurses := true, loops := true, apart := false, narrowed := true }
def FnExactEraseValueUptoSaid : Prop := fnExactEraseValueUptoRow.holds Try.pinned (OpenSpec.upto fnExactEraseValueSpec)

end Rows
end Go.Proofs.Ytmdfopkcoinfeaa
