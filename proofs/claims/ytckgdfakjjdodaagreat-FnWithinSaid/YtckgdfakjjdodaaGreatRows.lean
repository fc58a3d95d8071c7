/-
  No cell of these rows narrows 'for every input' (looked for: loops, veiled, ifaces, maps, wideKeys, modest, calm, conditions, laid).
  DERIVED. THE GIVEN ROWS OF THIS SEAT. 11 by the template 'for every input the law returns true; each argument reads behind the call as it read before'; 0 by the template 'total and deterministic' (their statements: YtckgdfakjjdodaaGreatTotals.lean).
  GIVEN WITH THE SEED: the statements are not yours to turn. If you find one false, say at which input.
  Laid BY PROGRAM, IN A SANDBOX (cutbox-rows.mjs): the forced cells as the released guide's own fill.sh prints them over the translation 05ec6ebfc0dd21af… (all of the seat's roots in one cut). By AI agents, Wed Nov 11 2026. No macro, syntax, notation, axiom, sorry.
-/
import Derived.Test.YtckgdfakjjdodaaGreatChecked
import GoSem.Claim
import GoSem.ClaimJoined
import GoSem.ClaimMapViews
import Derived.JoinedTies
import Derived.KernelRfl
namespace Go.Proofs.YtckgdfakjjdodaaGreat
/- THE CELL 'sum', in the pinned program and in every row, IS THE sha256 OF THE DUMP (.gsa) THAT YtckgdfakjjdodaaGreatProg.lean LOADS. Nothing in Lean hashes anything: it is a label: what it is worth is what the hold of that sum in a sandbox is worth. -/
noncomputable def Tryz.pinned : Pinned := { name := "ytckgdfakjjdodaagreat", sum := "05ec6ebfc0dd21af020c7a7f466a0472dd2b994fa73d2e137cb749fc4910822f", checked := Tryz.checked }
namespace Rows
def none {H : Type} : Left H := { results := [], args := [] }

/-- 'laws.FnDefaults': WHATEVER THE INPUT: true; the input reads as it did. -/
def fnDefaultsSpec : ChangeSpec := { name := "fnDefaults", fn := fun _ => fun
  | [d] => { results := [.lit (.bool true)], args := [d] }
  | _ => none }
def fnDefaultsRow : OpenClaim := { program := "ytckgdfakjjdodaagreat", sum := "05ec6ebfc0dd21af020c7a7f466a0472dd2b994fa73d2e137cb749fc4910822f", func := "loop.example/g03111/laws.FnDefaults", spec := "fnDefaults", unfollowed := true, recurses := true, apart := false }
def FnDefaultsSaid : Prop := fnDefaultsRow.holds Tryz.pinned (OpenSpec.ofChange fnDefaultsSpec)

/-- ITS FALSE NEIGHBOUR: 'it returns false'. Refute it at one input. -/
def fnDefaultsWrong : ChangeSpec := { name := "fnDefaults", fn := fun _ => fun
  | [d] => { results := [.lit (.bool false)], args := [d] }
  | _ => none }
def FnDefaultsWrongFalsely : Prop := fnDefaultsRow.holds Tryz.pinned (OpenSpec.ofChange fnDefaultsWrong)

/-- 'laws.FnSeenCounted': WHATEVER THE INPUT: true; the input reads as it did. -/
def fnSeenCountedSpec : ChangeSpec := { name := "fnSeenCounted", fn := fun _ => fun
  | [d] => { results := [.lit (.bool true)], args := [d] }
  | _ => none }
def fnSeenCountedRow : OpenClaim := { program := "ytckgdfakjjdodaagreat", sum := "05ec6ebfc0dd21af020c7a7f466a0472dd2b994fa73d2e137cb749fc4910822f", func := "loop.example/g03111/laws.FnSeenCounted", spec := "fnSeenCounted", unfollowed := true, recurses := true, apart := false }
def FnSeenCountedSaid : Prop := fnSeenCountedRow.holds Tryz.pinned (OpenSpec.ofChange fnSeenCountedSpec)

/-- ITS FALSE NEIGHBOUR: 'it returns false'. Refute it at one input. -/
def fnSeenCountedWrong : ChangeSpec := { name := "fnSeenCounted", fn := fun _ => fun
  | [d] => { results := [.lit (.bool false)], args := [d] }
  | _ => none }
def FnSeenCountedWrongFalsely : Prop := fnSeenCountedRow.holds Tryz.pinned (OpenSpec.ofChange fnSeenCountedWrong)

/-- 'laws.FnValuesListed': WHATEVER THE INPUT: true; the input reads as it did. -/
def fnValuesListedSpec : ChangeSpec := { name := "fnValuesListed", fn := fun _ => fun
  | [d] => { results := [.lit (.bool true)], args := [d] }
  | _ => none }
def fnValuesListedRow : OpenClaim := { program := "ytckgdfakjjdodaagreat", sum := "05ec6ebfc0dd21af020c7a7f466a0472dd2b994fa73d2e137cb749fc4910822f", func := "loop.example/g03111/laws.FnValuesListed", spec := "fnValuesListed", unfollowed := true, recurses := true, apart := false }
def FnValuesListedSaid : Prop := fnValuesListedRow.holds Tryz.pinned (OpenSpec.ofChange fnValuesListedSpec)

/-- ITS FALSE NEIGHBOUR: 'it returns false'. Refute it at one input. -/
def fnValuesListedWrong : ChangeSpec := { name := "fnValuesListed", fn := fun _ => fun
  | [d] => { results := [.lit (.bool false)], args := [d] }
  | _ => none }
def FnValuesListedWrongFalsely : Prop := fnValuesListedRow.holds Tryz.pinned (OpenSpec.ofChange fnValuesListedWrong)

/-- 'laws.FnErasedValues': WHATEVER THE INPUT: true; the input reads as it did. -/
def fnErasedValuesSpec : ChangeSpec := { name := "fnErasedValues", fn := fun _ => fun
  | [d] => { results := [.lit (.bool true)], args := [d] }
  | _ => none }
def fnErasedValuesRow : OpenClaim := { program := "ytckgdfakjjdodaagreat", sum := "05ec6ebfc0dd21af020c7a7f466a0472dd2b994fa73d2e137cb749fc4910822f", func := "loop.example/g03111/laws.FnErasedValues", spec := "fnErasedValues", unfollowed := true, recurses := true, apart := false }
def FnErasedValuesSaid : Prop := fnErasedValuesRow.holds Tryz.pinned (OpenSpec.ofChange fnErasedValuesSpec)

/-- ITS FALSE NEIGHBOUR: 'it returns false'. Refute it at one input. -/
def fnErasedValuesWrong : ChangeSpec := { name := "fnErasedValues", fn := fun _ => fun
  | [d] => { results := [.lit (.bool false)], args := [d] }
  | _ => none }
def FnErasedValuesWrongFalsely : Prop := fnErasedValuesRow.holds Tryz.pinned (OpenSpec.ofChange fnErasedValuesWrong)

/-- 'laws.FnOpened': WHATEVER THE INPUT: true; the input reads as it did. -/
def fnOpenedSpec : ChangeSpec := { name := "fnOpened", fn := fun _ => fun
  | [d] => { results := [.lit (.bool true)], args := [d] }
  | _ => none }
def fnOpenedRow : OpenClaim := { program := "ytckgdfakjjdodaagreat", sum := "05ec6ebfc0dd21af020c7a7f466a0472dd2b994fa73d2e137cb749fc4910822f", func := "loop.example/g03111/laws.FnOpened", spec := "fnOpened", unfollowed := true, recurses := true, apart := false }
def FnOpenedSaid : Prop := fnOpenedRow.holds Tryz.pinned (OpenSpec.ofChange fnOpenedSpec)

/-- ITS FALSE NEIGHBOUR: 'it returns false'. Refute it at one input. -/
def fnOpenedWrong : ChangeSpec := { name := "fnOpened", fn := fun _ => fun
  | [d] => { results := [.lit (.bool false)], args := [d] }
  | _ => none }
def FnOpenedWrongFalsely : Prop := fnOpenedRow.holds Tryz.pinned (OpenSpec.ofChange fnOpenedWrong)

/-- 'laws.FnPutTwice': WHATEVER THE INPUT: true; the input reads as it did. -/
def fnPutTwiceSpec : ChangeSpec := { name := "fnPutTwice", fn := fun _ => fun
  | [d] => { results := [.lit (.bool true)], args := [d] }
  | _ => none }
def fnPutTwiceRow : OpenClaim := { program := "ytckgdfakjjdodaagreat", sum := "05ec6ebfc0dd21af020c7a7f466a0472dd2b994fa73d2e137cb749fc4910822f", func := "loop.example/g03111/laws.FnPutTwice", spec := "fnPutTwice", unfollowed := true, recurses := true, apart := false }
def FnPutTwiceSaid : Prop := fnPutTwiceRow.holds Tryz.pinned (OpenSpec.ofChange fnPutTwiceSpec)

/-- ITS FALSE NEIGHBOUR: 'it returns false'. Refute it at one input. -/
def fnPutTwiceWrong : ChangeSpec := { name := "fnPutTwice", fn := fun _ => fun
  | [d] => { results := [.lit (.bool false)], args := [d] }
  | _ => none }
def FnPutTwiceWrongFalsely : Prop := fnPutTwiceRow.holds Tryz.pinned (OpenSpec.ofChange fnPutTwiceWrong)

/-- 'laws.FnContractedThere': WHATEVER THE INPUT: true; the input reads as it did. -/
def fnContractedThereSpec : ChangeSpec := { name := "fnContractedThere", fn := fun _ => fun
  | [d] => { results := [.lit (.bool true)], args := [d] }
  | _ => none }
def fnContractedThereRow : OpenClaim := { program := "ytckgdfakjjdodaagreat", sum := "05ec6ebfc0dd21af020c7a7f466a0472dd2b994fa73d2e137cb749fc4910822f", func := "loop.example/g03111/laws.FnContractedThere", spec := "fnContractedThere", unfollowed := true, recurses := true, apart := false }
def FnContractedThereSaid : Prop := fnContractedThereRow.holds Tryz.pinned (OpenSpec.ofChange fnContractedThereSpec)

/-- ITS FALSE NEIGHBOUR: 'it returns false'. Refute it at one input. -/
def fnContractedThereWrong : ChangeSpec := { name := "fnContractedThere", fn := fun _ => fun
  | [d] => { results := [.lit (.bool false)], args := [d] }
  | _ => none }
def FnContractedThereWrongFalsely : Prop := fnContractedThereRow.holds Tryz.pinned (OpenSpec.ofChange fnContractedThereWrong)

/-- 'laws.FnFaults': WHATEVER THE INPUT: true; the input reads as it did. -/
def fnFaultsSpec : ChangeSpec := { name := "fnFaults", fn := fun _ => fun
  | [d] => { results := [.lit (.bool true)], args := [d] }
  | _ => none }
def fnFaultsRow : OpenClaim := { program := "ytckgdfakjjdodaagreat", sum := "05ec6ebfc0dd21af020c7a7f466a0472dd2b994fa73d2e137cb749fc4910822f", func := "loop.example/g03111/laws.FnFaults", spec := "fnFaults", unfollowed := true, recurses := true, apart := false }
def FnFaultsSaid : Prop := fnFaultsRow.holds Tryz.pinned (OpenSpec.ofChange fnFaultsSpec)

/-- ITS FALSE NEIGHBOUR: 'it returns false'. Refute it at one input. -/
def fnFaultsWrong : ChangeSpec := { name := "fnFaults", fn := fun _ => fun
  | [d] => { results := [.lit (.bool false)], args := [d] }
  | _ => none }
def FnFaultsWrongFalsely : Prop := fnFaultsRow.holds Tryz.pinned (OpenSpec.ofChange fnFaultsWrong)

/-- 'laws.FnWithin': WHATEVER THE INPUT: true; the input reads as it did. -/
def fnWithinSpec : ChangeSpec := { name := "fnWithin", fn := fun _ => fun
  | [d] => { results := [.lit (.bool true)], args := [d] }
  | _ => none }
def fnWithinRow : OpenClaim := { program := "ytckgdfakjjdodaagreat", sum := "05ec6ebfc0dd21af020c7a7f466a0472dd2b994fa73d2e137cb749fc4910822f", func := "loop.example/g03111/laws.FnWithin", spec := "fnWithin", unfollowed := true, recurses := true, apart := false }
def FnWithinSaid : Prop := fnWithinRow.holds Tryz.pinned (OpenSpec.ofChange fnWithinSpec)

/-- ITS FALSE NEIGHBOUR: 'it returns false'. Refute it at one input. -/
def fnWithinWrong : ChangeSpec := { name := "fnWithin", fn := fun _ => fun
  | [d] => { results := [.lit (.bool false)], args := [d] }
  | _ => none }
def FnWithinWrongFalsely : Prop := fnWithinRow.holds Tryz.pinned (OpenSpec.ofChange fnWithinWrong)

/-- 'laws.FnFitsMore': WHATEVER THE INPUT: true; the input reads as it did. -/
def fnFitsMoreSpec : ChangeSpec := { name := "fnFitsMore", fn := fun _ => fun
  | [d] => { results := [.lit (.bool true)], args := [d] }
  | _ => none }
def fnFitsMoreRow : OpenClaim := { program := "ytckgdfakjjdodaagreat", sum := "05ec6ebfc0dd21af020c7a7f466a0472dd2b994fa73d2e137cb749fc4910822f", func := "loop.example/g03111/laws.FnFitsMore", spec := "fnFitsMore", unfollowed := true, recurses := true, apart := false }
def FnFitsMoreSaid : Prop := fnFitsMoreRow.holds Tryz.pinned (OpenSpec.ofChange fnFitsMoreSpec)

/-- ITS FALSE NEIGHBOUR: 'it returns false'. Refute it at one input. -/
def fnFitsMoreWrong : ChangeSpec := { name := "fnFitsMore", fn := fun _ => fun
  | [d] => { results := [.lit (.bool false)], args := [d] }
  | _ => none }
def FnFitsMoreWrongFalsely : Prop := fnFitsMoreRow.holds Tryz.pinned (OpenSpec.ofChange fnFitsMoreWrong)

/-- 'laws.FnSeenNeeds': WHATEVER THE INPUT: true; the input reads as it did. -/
def fnSeenNeedsSpec : ChangeSpec := { name := "fnSeenNeeds", fn := fun _ => fun
  | [d] => { results := [.lit (.bool true)], args := [d] }
  | _ => none }
def fnSeenNeedsRow : OpenClaim := { program := "ytckgdfakjjdodaagreat", sum := "05ec6ebfc0dd21af020c7a7f466a0472dd2b994fa73d2e137cb749fc4910822f", func := "loop.example/g03111/laws.FnSeenNeeds", spec := "fnSeenNeeds", unfollowed := true, recurses := true, apart := false }
def FnSeenNeedsSaid : Prop := fnSeenNeedsRow.holds Tryz.pinned (OpenSpec.ofChange fnSeenNeedsSpec)

/-- ITS FALSE NEIGHBOUR: 'it returns false'. Refute it at one input. -/
def fnSeenNeedsWrong : ChangeSpec := { name := "fnSeenNeeds", fn := fun _ => fun
  | [d] => { results := [.lit (.bool false)], args := [d] }
  | _ => none }
def FnSeenNeedsWrongFalsely : Prop := fnSeenNeedsRow.holds Tryz.pinned (OpenSpec.ofChange fnSeenNeedsWrong)

/- THE SECOND FORM. 'bulk': how many values and letters a reading holds, each counted each time it is reached (what is shared counts as often as it is met; a slice's spare places count too). A statement '..UptoSaid' is the law's where the arguments, and the package variables that the reading takes, are together of bulk at most 1048576: NARROWER than '..Said'. Prove '..Said' where nothing that the law and all that it calls make is longer than what came in: it says more and counts as full. Else prove '..UptoSaid'. A law counts once. -/
mutual
def uptoBulk {H : Type} : DataW H → Nat
  | .lit (.string bytes) => bytes.length + 1
  | .lit _ => 1
  | .nil => 1
  | .ptr d => uptoBulk d + 1
  | .slice elems spare => uptoBulkAll elems + uptoBulkAll spare + 1
  | .agg parts => uptoBulkAll parts + 1
  | .iface _ d => uptoBulk d + 1
  | .map entries => uptoBulkEntries entries + 1
  | .held _ => 1
def uptoBulkAll {H : Type} : List (DataW H) → Nat
  | [] => 0
  | d :: r => uptoBulk d + uptoBulkAll r
def uptoBulkEntries {H : Type} : List (Lit × DataW H) → Nat
  | [] => 0
  | x :: r => uptoBulkEntry x + uptoBulkEntries r
def uptoBulkEntry {H : Type} : Lit × DataW H → Nat
  | (.string bytes, d) => bytes.length + uptoBulk d + 1
  | (_, d) => uptoBulk d + 1
 end
def uptoSmall : (H : Type) → List (DataW H) → Bool := fun _ ds => decide (uptoBulkAll ds ≤ 1048576)
def OpenSpec.upto (s : _root_.Go.ChangeSpec) : _root_.Go.OpenSpec := { _root_.Go.OpenSpec.ofChange s with cond := some uptoSmall }

/-- 'laws.FnDefaults', WHERE WHAT IT READS IS OF BULK AT MOST 1048576: true; the input reads as it did. -/
def fnDefaultsUptoRow : OpenClaim := { program := "ytckgdfakjjdodaagreat", sum := "05ec6ebfc0dd21af020c7a7f466a0472dd2b994fa73d2e137cb749fc4910822f", func := "loop.example/g03111/laws.FnDefaults", spec := "fnDefaults", unfollowed := true, recurses := true, apart := false, narrowed := true }
def FnDefaultsUptoSaid : Prop := fnDefaultsUptoRow.holds Tryz.pinned (OpenSpec.upto fnDefaultsSpec)

/-- 'laws.FnSeenCounted', WHERE WHAT IT READS IS OF BULK AT MOST 1048576: true; the input reads as it did. -/
def fnSeenCountedUptoRow : OpenClaim := { program := "ytckgdfakjjdodaagreat", sum := "05ec6ebfc0dd21af020c7a7f466a0472dd2b994fa73d2e137cb749fc4910822f", func := "loop.example/g03111/laws.FnSeenCounted", spec := "fnSeenCounted", unfollowed := true, recurses := true, apart := false, narrowed := true }
def FnSeenCountedUptoSaid : Prop := fnSeenCountedUptoRow.holds Tryz.pinned (OpenSpec.upto fnSeenCountedSpec)

/-- 'laws.FnValuesListed', WHERE WHAT IT READS IS OF BULK AT MOST 1048576: true; the input reads as it did. -/
def fnValuesListedUptoRow : OpenClaim := { program := "ytckgdfakjjdodaagreat", sum := "05ec6ebfc0dd21af020c7a7f466a0472dd2b994fa73d2e137cb749fc4910822f", func := "loop.example/g03111/laws.FnValuesListed", spec := "fnValuesListed", unfollowed := true, recurses := true, apart := false, narrowed := true }
def FnValuesListedUptoSaid : Prop := fnValuesListedUptoRow.holds Tryz.pinned (OpenSpec.upto fnValuesListedSpec)

/-- 'laws.FnErasedValues', WHERE WHAT IT READS IS OF BULK AT MOST 1048576: true; the input reads as it did. -/
def fnErasedValuesUptoRow : OpenClaim := { program := "ytckgdfakjjdodaagreat", sum := "05ec6ebfc0dd21af020c7a7f466a0472dd2b994fa73d2e137cb749fc4910822f", func := "loop.example/g03111/laws.FnErasedValues", spec := "fnErasedValues", unfollowed := true, recurses := true, apart := false, narrowed := true }
def FnErasedValuesUptoSaid : Prop := fnErasedValuesUptoRow.holds Tryz.pinned (OpenSpec.upto fnErasedValuesSpec)

/-- 'laws.FnOpened', WHERE WHAT IT READS IS OF BULK AT MOST 1048576: true; the input reads as it did. -/
def fnOpenedUptoRow : OpenClaim := { program := "ytckgdfakjjdodaagreat", sum := "05ec6ebfc0dd21af020c7a7f466a0472dd2b994fa73d2e137cb749fc4910822f", func := "loop.example/g03111/laws.FnOpened", spec := "fnOpened", unfollowed := true, recurses := true, apart := false, narrowed := true }
def FnOpenedUptoSaid : Prop := fnOpenedUptoRow.holds Tryz.pinned (OpenSpec.upto fnOpenedSpec)

/-- 'laws.FnPutTwice', WHERE WHAT IT READS IS OF BULK AT MOST 1048576: true; the input reads as it did. -/
def fnPutTwiceUptoRow : OpenClaim := { program := "ytckgdfakjjdodaagreat", sum := "05ec6ebfc0dd21af020c7a7f466a0472dd2b994fa73d2e137cb749fc4910822f", func := "loop.example/g03111/laws.FnPutTwice", spec := "fnPutTwice", unfollowed := true, recurses := true, apart := false, narrowed := true }
def FnPutTwiceUptoSaid : Prop := fnPutTwiceUptoRow.holds Tryz.pinned (OpenSpec.upto fnPutTwiceSpec)

/-- 'laws.FnContractedThere', WHERE WHAT IT READS IS OF BULK AT MOST 1048576: true; the input reads as it did. -/
def fnContractedThereUptoRow : OpenClaim := { program := "ytckgdfakjjdodaagreat", sum := "05ec6ebfc0dd21af020c7a7f466a0472dd2b994fa73d2e137cb749fc4910822f", func := "loop.example/g03111/laws.FnContractedThere", spec := "fnContractedThere", unfollowed := true, recurses := true, apart := false, narrowed := true }
def FnContractedThereUptoSaid : Prop := fnContractedThereUptoRow.holds Tryz.pinned (OpenSpec.upto fnContractedThereSpec)

/-- 'laws.FnFaults', WHERE WHAT IT READS IS OF BULK AT MOST 1048576: true; the input reads as it did. -/
def fnFaultsUptoRow : OpenClaim := { program := "ytckgdfakjjdodaagreat", sum := "05ec6ebfc0dd21af020c7a7f466a0472dd2b994fa73d2e137cb749fc4910822f", func := "loop.example/g03111/laws.FnFaults", spec := "fnFaults", unfollowed := true, recurses := true, apart := false, narrowed := true }
def FnFaultsUptoSaid : Prop := fnFaultsUptoRow.holds Tryz.pinned (OpenSpec.upto fnFaultsSpec)

/-- 'laws.FnWithin', WHERE WHAT IT READS IS OF BULK AT MOST 1048576: true; the input reads as it did. -/
def fnWithinUptoRow : OpenClaim := { program := "ytckgdfakjjdodaagreat", sum := "05ec6ebfc0dd21af020c7a7f466a0472dd2b994fa73d2e137cb749fc4910822f", func := "loop.example/g03111/laws.FnWithin", spec := "fnWithin", unfollowed := true, recurses := true, apart := false, narrowed := true }
def FnWithinUptoSaid : Prop := fnWithinUptoRow.holds Tryz.pinned (OpenSpec.upto fnWithinSpec)

/-- 'laws.FnFitsMore', WHERE WHAT IT READS IS OF BULK AT MOST 1048576: true; the input reads as it did. -/
def fnFitsMoreUptoRow : OpenClaim := { program := "ytckgdfakjjdodaagreat", sum := "05ec6ebfc0dd21af020c7a7f466a0472dd2b994fa73d2e137cb749fc4910822f", func := "loop.example/g03111/laws.FnFitsMore", spec := "fnFitsMore", unfollowed := true, recurses := true, apart := false, narrowed := true }
def FnFitsMoreUptoSaid : Prop := fnFitsMoreUptoRow.holds Tryz.pinned (OpenSpec.upto fnFitsMoreSpec)

/-- 'laws.FnSeenNeeds', WHERE WHAT IT READS IS OF BULK AT MOST 1048576: true; the input reads as it did. -/
def fnSeenNeedsUptoRow : OpenClaim := { program := "ytckgdfakjjdodaagreat", sum := "05ec6ebfc0dd21af020c7a7f466a0472dd2b994fa73d2e137cb749fc4910822f", func := "loop.example/g03111/laws.FnSeenNeeds", spec := "fnSeenNeeds", unfollowed := true, recurses := true, apart := false, narrowed := true }
def FnSeenNeedsUptoSaid : Prop := fnSeenNeedsUptoRow.holds Tryz.pinned (OpenSpec.upto fnSeenNeedsSpec)

end Rows
end Go.Proofs.YtckgdfakjjdodaaGreat
