/-
  NARROWER THAN 'FOR EVERY INPUT', by the rows' own cells (each row's printed sentence says how): FnExactCountOpen: loops · FnExactIsNormal: loops · FnExactTermAt: loops · FnExactOpenAll: loops · FnExactRedexesOf: loops · FnExactReplaceAt: loops.
  DERIVED. THE GIVEN ROWS OF THIS SEAT. 8 by the template 'for every input the law returns true; each argument reads behind the call as it read before'; 0 by the template 'total and deterministic' (their statements: YtlegifoeekcolaaTotals.lean).
  GIVEN WITH THE SEED: the statements are not yours to turn. If you find one false, say at which input.
  Laid BY PROGRAM, IN A SANDBOX (cutbox-rows.mjs): the forced cells as the released guide's own fill.sh prints them over the translation 6fd9bcda88e67df1… (all of the seat's roots in one cut). By AI agents, Wed Nov 11 2026. No macro, syntax, notation, axiom, sorry.
-/
import Derived.Test.YtlegifoeekcolaaChecked
import GoSem.Claim
import GoSem.ClaimJoined
import GoSem.ClaimMapViews
import Derived.JoinedTies
import Derived.KernelRfl
namespace Go.Proofs.Ytlegifoeekcolaa
/- THE CELL 'sum', in the pinned program and in every row, IS THE sha256 OF THE DUMP (.gsa) THAT YtlegifoeekcolaaProg.lean LOADS. Nothing in Lean hashes anything: it is a label: what it is worth is what the hold of that sum in a sandbox is worth. -/
noncomputable def Try.pinned : Pinned := { name := "ytlegifoeekcolaa", sum := "6fd9bcda88e67df1001d5179d9cb6ae7325f7d99e5413a1b5eb569c0a610a14e", checked := Try.checked }
namespace Rows
def none {H : Type} : Left H := { results := [], args := [] }

/-- 'laws.FnExactKeeps': WHATEVER THE INPUT: true; the input reads as it did. -/
def fnExactKeepsSpec : ChangeSpec := { name := "fnExactKeeps", fn := fun _ => fun
  | [d1, d2] => { results := [.lit (.bool true)], args := [d1, d2] }
  | _ => none }
def fnExactKeepsRow : OpenClaim := { program := "ytlegifoeekcolaa", sum := "6fd9bcda88e67df1001d5179d9cb6ae7325f7d99e5413a1b5eb569c0a610a14e", func := "loop.example/g03111/laws.FnExactKeeps", spec := "fnExactKeeps", unfollowed := true, recurses := true, apart := false }
def FnExactKeepsSaid : Prop := fnExactKeepsRow.holds Try.pinned (OpenSpec.ofChange fnExactKeepsSpec)

/-- ITS FALSE NEIGHBOUR: 'it returns false'. Refute it at one input. -/
def fnExactKeepsWrong : ChangeSpec := { name := "fnExactKeeps", fn := fun _ => fun
  | [d1, d2] => { results := [.lit (.bool false)], args := [d1, d2] }
  | _ => none }
def FnExactKeepsWrongFalsely : Prop := fnExactKeepsRow.holds Try.pinned (OpenSpec.ofChange fnExactKeepsWrong)

/-- 'laws.FnExactCountOpen': WHATEVER THE INPUT: true; the input reads as it did. -/
def fnExactCountOpenSpec : ChangeSpec := { name := "fnExactCountOpen", fn := fun _ => fun
  | [d] => { results := [.lit (.bool true)], args := [d] }
  | _ => none }
def fnExactCountOpenRow : OpenClaim := { program := "ytlegifoeekcolaa", sum := "6fd9bcda88e67df1001d5179d9cb6ae7325f7d99e5413a1b5eb569c0a610a14e", func := "loop.example/g03111/laws.FnExactCountOpen", spec := "fnExactCountOpen", unfollowed := true, recurses := true, loops := true, apart := false }
def FnExactCountOpenSaid : Prop := fnExactCountOpenRow.holds Try.pinned (OpenSpec.ofChange fnExactCountOpenSpec)

/-- ITS FALSE NEIGHBOUR: 'it returns false'. Refute it at one input. -/
def fnExactCountOpenWrong : ChangeSpec := { name := "fnExactCountOpen", fn := fun _ => fun
  | [d] => { results := [.lit (.bool false)], args := [d] }
  | _ => none }
def FnExactCountOpenWrongFalsely : Prop := fnExactCountOpenRow.holds Try.pinned (OpenSpec.ofChange fnExactCountOpenWrong)

/-- 'laws.FnExactIsNormal': WHATEVER THE INPUT: true; the input reads as it did. -/
def fnExactIsNormalSpec : ChangeSpec := { name := "fnExactIsNormal", fn := fun _ => fun
  | [d] => { results := [.lit (.bool true)], args := [d] }
  | _ => none }
def fnExactIsNormalRow : OpenClaim := { program := "ytlegifoeekcolaa", sum := "6fd9bcda88e67df1001d5179d9cb6ae7325f7d99e5413a1b5eb569c0a610a14e", func := "loop.example/g03111/laws.FnExactIsNormal", spec := "fnExactIsNormal", unfollowed := true, recurses := true, loops := true, apart := false }
def FnExactIsNormalSaid : Prop := fnExactIsNormalRow.holds Try.pinned (OpenSpec.ofChange fnExactIsNormalSpec)

/-- ITS FALSE NEIGHBOUR: 'it returns false'. Refute it at one input. -/
def fnExactIsNormalWrong : ChangeSpec := { name := "fnExactIsNormal", fn := fun _ => fun
  | [d] => { results := [.lit (.bool false)], args := [d] }
  | _ => none }
def FnExactIsNormalWrongFalsely : Prop := fnExactIsNormalRow.holds Try.pinned (OpenSpec.ofChange fnExactIsNormalWrong)

/-- 'laws.FnExactCountValues': WHATEVER THE INPUT: true; the input reads as it did. -/
def fnExactCountValuesSpec : ChangeSpec := { name := "fnExactCountValues", fn := fun _ => fun
  | [d1, d2] => { results := [.lit (.bool true)], args := [d1, d2] }
  | _ => none }
def fnExactCountValuesRow : OpenClaim := { program := "ytlegifoeekcolaa", sum := "6fd9bcda88e67df1001d5179d9cb6ae7325f7d99e5413a1b5eb569c0a610a14e", func := "loop.example/g03111/laws.FnExactCountValues", spec := "fnExactCountValues", unfollowed := true, recurses := true, apart := false }
def FnExactCountValuesSaid : Prop := fnExactCountValuesRow.holds Try.pinned (OpenSpec.ofChange fnExactCountValuesSpec)

/-- ITS FALSE NEIGHBOUR: 'it returns false'. Refute it at one input. -/
def fnExactCountValuesWrong : ChangeSpec := { name := "fnExactCountValues", fn := fun _ => fun
  | [d1, d2] => { results := [.lit (.bool false)], args := [d1, d2] }
  | _ => none }
def FnExactCountValuesWrongFalsely : Prop := fnExactCountValuesRow.holds Try.pinned (OpenSpec.ofChange fnExactCountValuesWrong)

/-- 'laws.FnExactTermAt': WHATEVER THE INPUT: true; the input reads as it did. -/
def fnExactTermAtSpec : ChangeSpec := { name := "fnExactTermAt", fn := fun _ => fun
  | [d1, d2] => { results := [.lit (.bool true)], args := [d1, d2] }
  | _ => none }
def fnExactTermAtRow : OpenClaim := { program := "ytlegifoeekcolaa", sum := "6fd9bcda88e67df1001d5179d9cb6ae7325f7d99e5413a1b5eb569c0a610a14e", func := "loop.example/g03111/laws.FnExactTermAt", spec := "fnExactTermAt", unfollowed := true, recurses := true, loops := true, apart := false }
def FnExactTermAtSaid : Prop := fnExactTermAtRow.holds Try.pinned (OpenSpec.ofChange fnExactTermAtSpec)

/-- ITS FALSE NEIGHBOUR: 'it returns false'. Refute it at one input. -/
def fnExactTermAtWrong : ChangeSpec := { name := "fnExactTermAt", fn := fun _ => fun
  | [d1, d2] => { results := [.lit (.bool false)], args := [d1, d2] }
  | _ => none }
def FnExactTermAtWrongFalsely : Prop := fnExactTermAtRow.holds Try.pinned (OpenSpec.ofChange fnExactTermAtWrong)

/-- 'laws.FnExactOpenAll': WHATEVER THE INPUT: true; the input reads as it did. -/
def fnExactOpenAllSpec : ChangeSpec := { name := "fnExactOpenAll", fn := fun _ => fun
  | [d] => { results := [.lit (.bool true)], args := [d] }
  | _ => none }
def fnExactOpenAllRow : OpenClaim := { program := "ytlegifoeekcolaa", sum := "6fd9bcda88e67df1001d5179d9cb6ae7325f7d99e5413a1b5eb569c0a610a14e", func := "loop.example/g03111/laws.FnExactOpenAll", spec := "fnExactOpenAll", unfollowed := true, recurses := true, loops := true, apart := false }
def FnExactOpenAllSaid : Prop := fnExactOpenAllRow.holds Try.pinned (OpenSpec.ofChange fnExactOpenAllSpec)

/-- ITS FALSE NEIGHBOUR: 'it returns false'. Refute it at one input. -/
def fnExactOpenAllWrong : ChangeSpec := { name := "fnExactOpenAll", fn := fun _ => fun
  | [d] => { results := [.lit (.bool false)], args := [d] }
  | _ => none }
def FnExactOpenAllWrongFalsely : Prop := fnExactOpenAllRow.holds Try.pinned (OpenSpec.ofChange fnExactOpenAllWrong)

/-- 'laws.FnExactRedexesOf': WHATEVER THE INPUT: true; the input reads as it did. -/
def fnExactRedexesOfSpec : ChangeSpec := { name := "fnExactRedexesOf", fn := fun _ => fun
  | [d] => { results := [.lit (.bool true)], args := [d] }
  | _ => none }
def fnExactRedexesOfRow : OpenClaim := { program := "ytlegifoeekcolaa", sum := "6fd9bcda88e67df1001d5179d9cb6ae7325f7d99e5413a1b5eb569c0a610a14e", func := "loop.example/g03111/laws.FnExactRedexesOf", spec := "fnExactRedexesOf", unfollowed := true, recurses := true, loops := true, apart := false }
def FnExactRedexesOfSaid : Prop := fnExactRedexesOfRow.holds Try.pinned (OpenSpec.ofChange fnExactRedexesOfSpec)

/-- ITS FALSE NEIGHBOUR: 'it returns false'. Refute it at one input. -/
def fnExactRedexesOfWrong : ChangeSpec := { name := "fnExactRedexesOf", fn := fun _ => fun
  | [d] => { results := [.lit (.bool false)], args := [d] }
  | _ => none }
def FnExactRedexesOfWrongFalsely : Prop := fnExactRedexesOfRow.holds Try.pinned (OpenSpec.ofChange fnExactRedexesOfWrong)

/-- 'laws.FnExactReplaceAt': WHATEVER THE INPUT: true; the input reads as it did. -/
def fnExactReplaceAtSpec : ChangeSpec := { name := "fnExactReplaceAt", fn := fun _ => fun
  | [d1, d2, d3] => { results := [.lit (.bool true)], args := [d1, d2, d3] }
  | _ => none }
def fnExactReplaceAtRow : OpenClaim := { program := "ytlegifoeekcolaa", sum := "6fd9bcda88e67df1001d5179d9cb6ae7325f7d99e5413a1b5eb569c0a610a14e", func := "loop.example/g03111/laws.FnExactReplaceAt", spec := "fnExactReplaceAt", unfollowed := true, recurses := true, loops := true, apart := false }
def FnExactReplaceAtSaid : Prop := fnExactReplaceAtRow.holds Try.pinned (OpenSpec.ofChange fnExactReplaceAtSpec)

/-- ITS FALSE NEIGHBOUR: 'it returns false'. Refute it at one input. -/
def fnExactReplaceAtWrong : ChangeSpec := { name := "fnExactReplaceAt", fn := fun _ => fun
  | [d1, d2, d3] => { results := [.lit (.bool false)], args := [d1, d2, d3] }
  | _ => none }
def FnExactReplaceAtWrongFalsely : Prop := fnExactReplaceAtRow.holds Try.pinned (OpenSpec.ofChange fnExactReplaceAtWrong)

/- THE SECOND FORM. 'bulk': how many values and letters a reading holds, each counted each time it is reached (what is shared counts as often as it is met; a slice's spare places count too). A statement '..UptoSaid' is the law's where the arguments, and the package variables that the reading takes, are together of bulk at most 1048576: NARROWER than '..Said'. Prove '..Said' where nothing that the law and all that it calls make is longer than what came in: it says more and counts as full. Else prove '..UptoSaid'. A law counts once. -/
mutual
def uptoBulk {H : Type} : DataW H → Nat
  | .lit (.string bytes) => bytes.length + 1
  | .lit _ => 1
  | .nil => 1
  | .ptr d => uptoBulk d + 1
  | .slice elems spare => uptoBulkAll elems + uptoBulkAll spare + 1
  | .agg parts => uptoBulkAll parts + 1
  | .iface _ d => uptoBulk d + 1
  | .map entries => uptoBulkEntries entries + 1
  | .held _ => 1
def uptoBulkAll {H : Type} : List (DataW H) → Nat
  | [] => 0
  | d :: r => uptoBulk d + uptoBulkAll r
def uptoBulkEntries {H : Type} : List (Lit × DataW H) → Nat
  | [] => 0
  | x :: r => uptoBulkEntry x + uptoBulkEntries r
def uptoBulkEntry {H : Type} : Lit × DataW H → Nat
  | (.string bytes, d) => bytes.length + uptoBulk d + 1
  | (_, d) => uptoBulk d + 1
 end
def uptoSmall : (H : Type) → List (DataW H) → Bool := fun _ ds => decide (uptoBulkAll ds ≤ 1048576)
def OpenSpec.upto (s : _root_.Go.ChangeSpec) : _root_.Go.OpenSpec := { _root_.Go.OpenSpec.ofChange s with cond := some uptoSmall }

/-- 'laws.FnExactKeeps', WHERE WHAT IT READS IS OF BULK AT MOST 1048576: true; the input reads as it did. -/
def fnExactKeepsUptoRow : OpenClaim := { program := "ytlegifoeekcolaa", sum := "6fd9bcda88e67df1001d5179d9cb6ae7325f7d99e5413a1b5eb569c0a610a14e", func := "loop.example/g03111/laws.FnExactKeeps", spec := "fnExactKeeps", unfollowed := true, recurses := true, apart := false, narrowed := true }
def FnExactKeepsUptoSaid : Prop := fnExactKeepsUptoRow.holds Try.pinned (OpenSpec.upto fnExactKeepsSpec)

/-- 'laws.FnExactCountOpen', WHERE WHAT IT READS IS OF BULK AT MOST 1048576: true; the input reads as it did. -/
def fnExactCountOpenUptoRow : OpenClaim := { program := "ytlegifoeekcolaa", sum := "6fd9bcda88e67df1001d5179d9cb6ae7325f7d99e5413a1b5eb569c0a610a14e", func := "loop.example/g03111/laws.FnExactCountOpen", spec := "fnExactCountOpen", unfollowed := true, recurses := true, loops := true, apart := false, narrowed := true }
def FnExactCountOpenUptoSaid : Prop := fnExactCountOpenUptoRow.holds Try.pinned (OpenSpec.upto fnExactCountOpenSpec)

/-- 'laws.FnExactIsNormal', WHERE WHAT IT READS IS OF BULK AT MOST 1048576: true; the input reads as it did. -/
def fnExactIsNormalUptoRow : OpenClaim := { program := "ytlegifoeekcolaa", sum := "6fd9bcda88e67df1001d5179d9cb6ae7325f7d99e5413a1b5eb569c0a610a14e", func := "loop.example/g03111/laws.FnExactIsNormal", spec := "fnExactIsNormal", unfollowed := true, recurses := true, loops := true, apart := false, narrowed := true }
def FnExactIsNormalUptoSaid : Prop := fnExactIsNormalUptoRow.holds Try.pinned (OpenSpec.upto fnExactIsNormalSpec)

/-- 'laws.FnExactCountValues', WHERE WHAT IT READS IS OF BULK AT MOST 1048576: true; the input reads as it did. -/
def fnExactCountValuesUptoRow : OpenClaim := { program := "ytlegifoeekcolaa", sum := "6fd9bcda88e67df1001d5179d9cb6ae7325f7d99e5413a1b5eb569c0a610a14e", func := "loop.example/g03111/laws.FnExactCountValues", spec := "fnExactCountValues", unfollowed := true, recurses := true, apart := false, narrowed := true }
def FnExactCountValuesUptoSaid : Prop := fnExactCountValuesUptoRow.holds Try.pinned (OpenSpec.upto fnExactCountValuesSpec)

/-- 'laws.FnExactTermAt', WHERE WHAT IT READS IS OF BULK AT MOST 1048576: true; the input reads as it did. -/
def fnExactTermAtUptoRow : OpenClaim := { program := "ytlegifoeekcolaa", sum := "6fd9bcda88e67df1001d5179d9cb6ae7325f7d99e5413a1b5eb569c0a610a14e", func := "loop.example/g03111/laws.FnExactTermAt", spec := "fnExactTermAt", unfollowed := true, recurses := true, loops := true, apart := false, narrowed := true }
def FnExactTermAtUptoSaid : Prop := fnExactTermAtUptoRow.holds Try.pinned (OpenSpec.upto fnExactTermAtSpec)

/-- 'laws.FnExactOpenAll', WHERE WHAT IT READS IS OF BULK AT MOST 1048576: true; the input reads as it did. -/
def fnExactOpenAllUptoRow : OpenClaim := { program := "ytlegifoeekcolaa", sum := "6fd9bcda88e67df1001d5179d9cb6ae7325f7d99e5413a1b5eb569c0a610a14e", func := "loop.example/g03111/laws.FnExactOpenAll", spec := "fnExactOpenAll", unfollowed := true, recurses := true, loops := true, apart := false, narrowed := true }
def FnExactOpenAllUptoSaid : Prop := fnExactOpenAllUptoRow.holds Try.pinned (OpenSpec.upto fnExactOpenAllSpec)

/-- 'laws.FnExactRedexesOf', WHERE WHAT IT READS IS OF BULK AT MOST 1048576: true; the input reads as it did. -/
def fnExactRedexesOfUptoRow : OpenClaim := { program := "ytlegifoeekcolaa", sum := "6fd9bcda88e67df1001d5179d9cb6ae7325f7d99e5413a1b5eb569c0a610a14e", func := "loop.example/g03111/laws.FnExactRedexesOf", spec := "fnExactRedexesOf", unfollowed := true, recurses := true, loops := true, apart := false, narrowed := true }
def FnExactRedexesOfUptoSaid : Prop := fnExactRedexesOfUptoRow.holds Try.pinned (OpenSpec.upto fnExactRedexesOfSpec)

/-- 'laws.FnExactReplaceAt', WHERE WHAT IT READS IS OF BULK AT MOST 1048576: true; the input reads as it did. -/
def fnExactReplaceAtUptoRow : OpenClaim := { program := "ytlegifoeekcolaa", sum := "6fd9bcda88e67df1001d5179d9cb6ae7325f7d99e5413a1b5eb569c0a610a14e", func := "loop.example/g03111/laws.FnExactReplaceAt", spec := "fnExactReplaceAt", unfollowed := true, recurses := true, loops := true, apart := false, narrowed := true }
def FnExactReplaceAtUptoSaid : Prop := fnExactReplaceAtUptoRow.holds Try.pinned (OpenSpec.upto fnExactReplaceAtSpec)

end Rows
end Go.Proofs.Ytlegifoeekcolaa
