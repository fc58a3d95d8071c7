/-
  NARROWER THAN 'FOR EVERY INPUT', by the rows' own cells (each row's printed sentence says how): FnExactFillOpen: loops · FnExactIsValue: loops · FnExactContract: loops · FnExactIsJudgment: loops · FnExactContractAt: loops.
  DERIVED. THE GIVEN ROWS OF THIS SEAT. 8 by the template 'for every input the law returns true; each argument reads behind the call as it read before'; 0 by the template 'total and deterministic' (their statements: YtfakfcaegabgaaaTotals.lean).
  GIVEN WITH THE SEED: the statements are not yours to turn. If you find one false, say at which input.
  Laid BY PROGRAM, IN A SANDBOX (cutbox-rows.mjs): the forced cells as the released guide's own fill.sh prints them over the translation 3671f3d3aa8f1665… (all of the seat's roots in one cut). By AI agents, Wed Nov 11 2026. No macro, syntax, notation, axiom, sorry.
-/
import Derived.Test.YtfakfcaegabgaaaChecked
import GoSem.Claim
import GoSem.ClaimJoined
import GoSem.ClaimMapViews
import Derived.JoinedTies
import Derived.KernelRfl
namespace Go.Proofs.Ytfakfcaegabgaaa
/- THE CELL 'sum', in the pinned program and in every row, IS THE sha256 OF THE DUMP (.gsa) THAT YtfakfcaegabgaaaProg.lean LOADS. Nothing in Lean hashes anything: it is a label: what it is worth is what the hold of that sum in a sandbox is worth. -/
noncomputable def Try.pinned : Pinned := { name := "ytfakfcaegabgaaa", sum := "3671f3d3aa8f1665f5ad6a5d0abd324d6132e035080c3a472ed2866a67456518", checked := Try.checked }
namespace Rows
def none {H : Type} : Left H := { results := [], args := [] }

/-- 'laws.FnExactDefaultTerm': WHATEVER THE INPUT: true; the input reads as it did. -/
def fnExactDefaultTermSpec : ChangeSpec := { name := "fnExactDefaultTerm", fn := fun _ => fun
  | [d1, d2] => { results := [.lit (.bool true)], args := [d1, d2] }
  | _ => none }
def fnExactDefaultTermRow : OpenClaim := { program := "ytfakfcaegabgaaa", sum := "3671f3d3aa8f1665f5ad6a5d0abd324d6132e035080c3a472ed2866a67456518", func := "loop.example/g03111/laws.FnExactDefaultTerm", spec := "fnExactDefaultTerm", recurses := true, apart := false }
def FnExactDefaultTermSaid : Prop := fnExactDefaultTermRow.holds Try.pinned (OpenSpec.ofChange fnExactDefaultTermSpec)

/-- ITS FALSE NEIGHBOUR: 'it returns false'. Refute it at one input. -/
def fnExactDefaultTermWrong : ChangeSpec := { name := "fnExactDefaultTerm", fn := fun _ => fun
  | [d1, d2] => { results := [.lit (.bool false)], args := [d1, d2] }
  | _ => none }
def FnExactDefaultTermWrongFalsely : Prop := fnExactDefaultTermRow.holds Try.pinned (OpenSpec.ofChange fnExactDefaultTermWrong)

/-- 'laws.FnExactFillOpen': WHATEVER THE INPUT: true; the input reads as it did. -/
def fnExactFillOpenSpec : ChangeSpec := { name := "fnExactFillOpen", fn := fun _ => fun
  | [d1, d2] => { results := [.lit (.bool true)], args := [d1, d2] }
  | _ => none }
def fnExactFillOpenRow : OpenClaim := { program := "ytfakfcaegabgaaa", sum := "3671f3d3aa8f1665f5ad6a5d0abd324d6132e035080c3a472ed2866a67456518", func := "loop.example/g03111/laws.FnExactFillOpen", spec := "fnExactFillOpen", unfollowed := true, recurses := true, loops := true, apart := false }
def FnExactFillOpenSaid : Prop := fnExactFillOpenRow.holds Try.pinned (OpenSpec.ofChange fnExactFillOpenSpec)

/-- ITS FALSE NEIGHBOUR: 'it returns false'. Refute it at one input. -/
def fnExactFillOpenWrong : ChangeSpec := { name := "fnExactFillOpen", fn := fun _ => fun
  | [d1, d2] => { results := [.lit (.bool false)], args := [d1, d2] }
  | _ => none }
def FnExactFillOpenWrongFalsely : Prop := fnExactFillOpenRow.holds Try.pinned (OpenSpec.ofChange fnExactFillOpenWrong)

/-- 'laws.FnExactCountSeen': WHATEVER THE INPUT: true; the input reads as it did. -/
def fnExactCountSeenSpec : ChangeSpec := { name := "fnExactCountSeen", fn := fun _ => fun
  | [d1, d2, d3] => { results := [.lit (.bool true)], args := [d1, d2, d3] }
  | _ => none }
def fnExactCountSeenRow : OpenClaim := { program := "ytfakfcaegabgaaa", sum := "3671f3d3aa8f1665f5ad6a5d0abd324d6132e035080c3a472ed2866a67456518", func := "loop.example/g03111/laws.FnExactCountSeen", spec := "fnExactCountSeen", unfollowed := true, recurses := true, apart := false }
def FnExactCountSeenSaid : Prop := fnExactCountSeenRow.holds Try.pinned (OpenSpec.ofChange fnExactCountSeenSpec)

/-- ITS FALSE NEIGHBOUR: 'it returns false'. Refute it at one input. -/
def fnExactCountSeenWrong : ChangeSpec := { name := "fnExactCountSeen", fn := fun _ => fun
  | [d1, d2, d3] => { results := [.lit (.bool false)], args := [d1, d2, d3] }
  | _ => none }
def FnExactCountSeenWrongFalsely : Prop := fnExactCountSeenRow.holds Try.pinned (OpenSpec.ofChange fnExactCountSeenWrong)

/-- 'laws.FnExactIsValue': WHATEVER THE INPUT: true; the input reads as it did. -/
def fnExactIsValueSpec : ChangeSpec := { name := "fnExactIsValue", fn := fun _ => fun
  | [d1, d2, d3] => { results := [.lit (.bool true)], args := [d1, d2, d3] }
  | _ => none }
def fnExactIsValueRow : OpenClaim := { program := "ytfakfcaegabgaaa", sum := "3671f3d3aa8f1665f5ad6a5d0abd324d6132e035080c3a472ed2866a67456518", func := "loop.example/g03111/laws.FnExactIsValue", spec := "fnExactIsValue", unfollowed := true, recurses := true, loops := true, apart := false }
def FnExactIsValueSaid : Prop := fnExactIsValueRow.holds Try.pinned (OpenSpec.ofChange fnExactIsValueSpec)

/-- ITS FALSE NEIGHBOUR: 'it returns false'. Refute it at one input. -/
def fnExactIsValueWrong : ChangeSpec := { name := "fnExactIsValue", fn := fun _ => fun
  | [d1, d2, d3] => { results := [.lit (.bool false)], args := [d1, d2, d3] }
  | _ => none }
def FnExactIsValueWrongFalsely : Prop := fnExactIsValueRow.holds Try.pinned (OpenSpec.ofChange fnExactIsValueWrong)

/-- 'laws.FnExactValueAt': WHATEVER THE INPUT: true; the input reads as it did. -/
def fnExactValueAtSpec : ChangeSpec := { name := "fnExactValueAt", fn := fun _ => fun
  | [d1, d2, d3] => { results := [.lit (.bool true)], args := [d1, d2, d3] }
  | _ => none }
def fnExactValueAtRow : OpenClaim := { program := "ytfakfcaegabgaaa", sum := "3671f3d3aa8f1665f5ad6a5d0abd324d6132e035080c3a472ed2866a67456518", func := "loop.example/g03111/laws.FnExactValueAt", spec := "fnExactValueAt", unfollowed := true, recurses := true, apart := false }
def FnExactValueAtSaid : Prop := fnExactValueAtRow.holds Try.pinned (OpenSpec.ofChange fnExactValueAtSpec)

/-- ITS FALSE NEIGHBOUR: 'it returns false'. Refute it at one input. -/
def fnExactValueAtWrong : ChangeSpec := { name := "fnExactValueAt", fn := fun _ => fun
  | [d1, d2, d3] => { results := [.lit (.bool false)], args := [d1, d2, d3] }
  | _ => none }
def FnExactValueAtWrongFalsely : Prop := fnExactValueAtRow.holds Try.pinned (OpenSpec.ofChange fnExactValueAtWrong)

/-- 'laws.FnExactContract': WHATEVER THE INPUT: true; the input reads as it did. -/
def fnExactContractSpec : ChangeSpec := { name := "fnExactContract", fn := fun _ => fun
  | [d] => { results := [.lit (.bool true)], args := [d] }
  | _ => none }
def fnExactContractRow : OpenClaim := { program := "ytfakfcaegabgaaa", sum := "3671f3d3aa8f1665f5ad6a5d0abd324d6132e035080c3a472ed2866a67456518", func := "loop.example/g03111/laws.FnExactContract", spec := "fnExactContract", unfollowed := true, recurses := true, loops := true, apart := false }
def FnExactContractSaid : Prop := fnExactContractRow.holds Try.pinned (OpenSpec.ofChange fnExactContractSpec)

/-- ITS FALSE NEIGHBOUR: 'it returns false'. Refute it at one input. -/
def fnExactContractWrong : ChangeSpec := { name := "fnExactContract", fn := fun _ => fun
  | [d] => { results := [.lit (.bool false)], args := [d] }
  | _ => none }
def FnExactContractWrongFalsely : Prop := fnExactContractRow.holds Try.pinned (OpenSpec.ofChange fnExactContractWrong)

/-- 'laws.FnExactIsJudgment': WHATEVER THE INPUT: true; the input reads as it did. -/
def fnExactIsJudgmentSpec : ChangeSpec := { name := "fnExactIsJudgment", fn := fun _ => fun
  | [d1, d2] => { results := [.lit (.bool true)], args := [d1, d2] }
  | _ => none }
def fnExactIsJudgmentRow : OpenClaim := { program := "ytfakfcaegabgaaa", sum := "3671f3d3aa8f1665f5ad6a5d0abd324d6132e035080c3a472ed2866a67456518", func := "loop.example/g03111/laws.FnExactIsJudgment", spec := "fnExactIsJudgment", unfollowed := true, recurses := true, loops := true, apart := false }
def FnExactIsJudgmentSaid : Prop := fnExactIsJudgmentRow.holds Try.pinned (OpenSpec.ofChange fnExactIsJudgmentSpec)

/-- ITS FALSE NEIGHBOUR: 'it returns false'. Refute it at one input. -/
def fnExactIsJudgmentWrong : ChangeSpec := { name := "fnExactIsJudgment", fn := fun _ => fun
  | [d1, d2] => { results := [.lit (.bool false)], args := [d1, d2] }
  | _ => none }
def FnExactIsJudgmentWrongFalsely : Prop := fnExactIsJudgmentRow.holds Try.pinned (OpenSpec.ofChange fnExactIsJudgmentWrong)

/-- 'laws.FnExactContractAt': WHATEVER THE INPUT: true; the input reads as it did. -/
def fnExactContractAtSpec : ChangeSpec := { name := "fnExactContractAt", fn := fun _ => fun
  | [d1, d2] => { results := [.lit (.bool true)], args := [d1, d2] }
  | _ => none }
def fnExactContractAtRow : OpenClaim := { program := "ytfakfcaegabgaaa", sum := "3671f3d3aa8f1665f5ad6a5d0abd324d6132e035080c3a472ed2866a67456518", func := "loop.example/g03111/laws.FnExactContractAt", spec := "fnExactContractAt", unfollowed := true, recurses := true, loops := true, apart := false }
def FnExactContractAtSaid : Prop := fnExactContractAtRow.holds Try.pinned (OpenSpec.ofChange fnExactContractAtSpec)

/-- ITS FALSE NEIGHBOUR: 'it returns false'. Refute it at one input. -/
def fnExactContractAtWrong : ChangeSpec := { name := "fnExactContractAt", fn := fun _ => fun
  | [d1, d2] => { results := [.lit (.bool false)], args := [d1, d2] }
  | _ => none }
def FnExactContractAtWrongFalsely : Prop := fnExactContractAtRow.holds Try.pinned (OpenSpec.ofChange fnExactContractAtWrong)

/- THE SECOND FORM. 'bulk': how many values and letters a reading holds, each counted each time it is reached (what is shared counts as often as it is met; a slice's spare places count too). A statement '..UptoSaid' is the law's where the arguments, and the package variables that the reading takes, are together of bulk at most 1048576: NARROWER than '..Said'. Prove '..Said' where nothing that the law and all that it calls make is longer than what came in: it says more and counts as full. Else prove '..UptoSaid'. A law counts once. -/
mutual
def uptoBulk {H : Type} : DataW H → Nat
  | .lit (.string bytes) => bytes.length + 1
  | .lit _ => 1
  | .nil => 1
  | .ptr d => uptoBulk d + 1
  | .slice elems spare => uptoBulkAll elems + uptoBulkAll spare + 1
  | .agg parts => uptoBulkAll parts + 1
  | .iface _ d => uptoBulk d + 1
  | .map entries => uptoBulkEntries entries + 1
  | .held _ => 1
def uptoBulkAll {H : Type} : List (DataW H) → Nat
  | [] => 0
  | d :: r => uptoBulk d + uptoBulkAll r
def uptoBulkEntries {H : Type} : List (Lit × DataW H) → Nat
  | [] => 0
  | x :: r => uptoBulkEntry x + uptoBulkEntries r
def uptoBulkEntry {H : Type} : Lit × DataW H → Nat
  | (.string bytes, d) => bytes.length + uptoBulk d + 1
  | (_, d) => uptoBulk d + 1
 end
def uptoSmall : (H : Type) → List (DataW H) → Bool := fun _ ds => decide (uptoBulkAll ds ≤ 1048576)
def OpenSpec.upto (s : _root_.Go.ChangeSpec) : _root_.Go.OpenSpec := { _root_.Go.OpenSpec.ofChange s with cond := some uptoSmall }

/-- 'laws.FnExactDefaultTerm', WHERE WHAT IT READS IS OF BULK AT MOST 1048576: true; the input reads as it did. -/
def fnExactDefaultTermUptoRow : OpenClaim := { program := "ytfakfcaegabgaaa", sum := "3671f3d3aa8f1665f5ad6a5d0abd324d6132e035080c3a472ed2866a67456518", func := "loop.example/g03111/laws.FnExactDefaultTerm", spec := "fnExactDefaultTerm", recurses := true, apart := false, narrowed := true }
def FnExactDefaultTermUptoSaid : Prop := fnExactDefaultTermUptoRow.holds Try.pinned (OpenSpec.upto fnExactDefaultTermSpec)

/-- 'laws.FnExactFillOpen', WHERE WHAT IT READS IS OF BULK AT MOST 1048576: true; the input reads as it did. -/
def fnExactFillOpenUptoRow : OpenClaim := { program := "ytfakfcaegabgaaa", sum := "3671f3d3aa8f1665f5ad6a5d0abd324d6132e035080c3a472ed2866a67456518", func := "loop.example/g03111/laws.FnExactFillOpen", spec := "fnExactFillOpen", unfollowed := true, recurses := true, loops := true, apart := false, narrowed := true }
def FnExactFillOpenUptoSaid : Prop := fnExactFillOpenUptoRow.holds Try.pinned (OpenSpec.upto fnExactFillOpenSpec)

/-- 'laws.FnExactCountSeen', WHERE WHAT IT READS IS OF BULK AT MOST 1048576: true; the input reads as it did. -/
def fnExactCountSeenUptoRow : OpenClaim := { program := "ytfakfcaegabgaaa", sum := "3671f3d3aa8f1665f5ad6a5d0abd324d6132e035080c3a472ed2866a67456518", func := "loop.example/g03111/laws.FnExactCountSeen", spec := "fnExactCountSeen", unfollowed := true, recurses := true, apart := false, narrowed := true }
def FnExactCountSeenUptoSaid : Prop := fnExactCountSeenUptoRow.holds Try.pinned (OpenSpec.upto fnExactCountSeenSpec)

/-- 'laws.FnExactIsValue', WHERE WHAT IT READS IS OF BULK AT MOST 1048576: true; the input reads as it did. -/
def fnExactIsValueUptoRow : OpenClaim := { program := "ytfakfcaegabgaaa", sum := "3671f3d3aa8f1665f5ad6a5d0abd324d6132e035080c3a472ed2866a67456518", func := "loop.example/g03111/laws.FnExactIsValue", spec := "fnExactIsValue", unfollowed := true, recurses := true, loops := true, apart := false, narrowed := true }
def FnExactIsValueUptoSaid : Prop := fnExactIsValueUptoRow.holds Try.pinned (OpenSpec.upto fnExactIsValueSpec)

/-- 'laws.FnExactValueAt', WHERE WHAT IT READS IS OF BULK AT MOST 1048576: true; the input reads as it did. -/
def fnExactValueAtUptoRow : OpenClaim := { program := "ytfakfcaegabgaaa", sum := "3671f3d3aa8f1665f5ad6a5d0abd324d6132e035080c3a472ed2866a67456518", func := "loop.example/g03111/laws.FnExactValueAt", spec := "fnExactValueAt", unfollowed := true, recurses := true, apart := false, narrowed := true }
def FnExactValueAtUptoSaid : Prop := fnExactValueAtUptoRow.holds Try.pinned (OpenSpec.upto fnExactValueAtSpec)

/-- 'laws.FnExactContract', WHERE WHAT IT READS IS OF BULK AT MOST 1048576: true; the input reads as it did. -/
def fnExactContractUptoRow : OpenClaim := { program := "ytfakfcaegabgaaa", sum := "3671f3d3aa8f1665f5ad6a5d0abd324d6132e035080c3a472ed2866a67456518", func := "loop.example/g03111/laws.FnExactContract", spec := "fnExactContract", unfollowed := true, recurses := true, loops := true, apart := false, narrowed := true }
def FnExactContractUptoSaid : Prop := fnExactContractUptoRow.holds Try.pinned (OpenSpec.upto fnExactContractSpec)

/-- 'laws.FnExactIsJudgment', WHERE WHAT IT READS IS OF BULK AT MOST 1048576: true; the input reads as it did. -/
def fnExactIsJudgmentUptoRow : OpenClaim := { program := "ytfakfcaegabgaaa", sum := "3671f3d3aa8f1665f5ad6a5d0abd324d6132e035080c3a472ed2866a67456518", func := "loop.example/g03111/laws.FnExactIsJudgment", spec := "fnExactIsJudgment", unfollowed := true, recurses := true, loops := true, apart := false, narrowed := true }
def FnExactIsJudgmentUptoSaid : Prop := fnExactIsJudgmentUptoRow.holds Try.pinned (OpenSpec.upto fnExactIsJudgmentSpec)

/-- 'laws.FnExactContractAt', WHERE WHAT IT READS IS OF BULK AT MOST 1048576: true; the input reads as it did. -/
def fnExactContractAtUptoRow : OpenClaim := { program := "ytfakfcaegabgaaa", sum := "3671f3d3aa8f1665f5ad6a5d0abd324d6132e035080c3a472ed2866a67456518", func := "loop.example/g03111/laws.FnExactContractAt", spec := "fnExactContractAt", unfollowed := true, recurses := true, loops := true, apart := false, narrowed := true }
def FnExactContractAtUptoSaid : Prop := fnExactContractAtUptoRow.holds Try.pinned (OpenSpec.upto fnExactContractAtSpec)

end Rows
end Go.Proofs.Ytfakfcaegabgaaa
