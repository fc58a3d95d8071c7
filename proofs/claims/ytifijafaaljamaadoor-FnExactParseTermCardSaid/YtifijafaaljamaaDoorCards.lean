/-
  DERIVED. GIVEN WITH THE SEED: THE CARDS: each row of YtifijafaaljamaaDoorRows.lean that lists a variable, with what it lists TIED to the program's text (the seventh form; the later family's looks); each row that meets fmt, with fmt's text TOLD by the authors' own Lean function (tested against real Go, not proved from fmt's source: count such statements apart). THE CARD IS WHAT COUNTS. Prove the row's statement (the work); the ties are given (YtifijafaaljamaaDoorTie.lean); close each card by the builder's one call (the guide's Derived/Test/ToyasCard.lean, 'card_holds'). Laid BY PROGRAM, IN A SANDBOX (cutbox-door.mjs). By AI agents, Wed Nov 11 2026. No macro, syntax, notation, axiom, sorry.
-/
import Derived.Test.YtifijafaaljamaaDoorRows
import GoSem.ClaimSeven
namespace Go.Proofs.YtifijafaaljamaaDoor
namespace Rows

/-- THE TIED CARD OF 'laws.FnExactParseType'. -/
def fnExactParseTypeCard : Claim7 := { stood := { row := fnExactParseTypeRow, standIns := [], harness := (true, "7e9ea0025b0879ed4aeb947dc81a054d9b91b4e38e1d503ca61a0db2b7ef0f79"), looks := true }, kinds := [], alts := [], laidByText := true, laidKinds := [.data, .data, .data, .sentinel, .sentinel], laidTests := true, laidLooks := .later }
def FnExactParseTypeCardSaid : Prop := Claim7.holds Tryd.pinned (.plain (OpenSpec.ofChange fnExactParseTypeSpec)) fnExactParseTypeCard

/-- THE TIED CARD OF 'laws.FnExactParseTerm'. -/
def fnExactParseTermCard : Claim7 := { stood := { row := fnExactParseTermRow, standIns := [], harness := (true, "7e9ea0025b0879ed4aeb947dc81a054d9b91b4e38e1d503ca61a0db2b7ef0f79"), looks := true }, kinds := [], alts := [], laidByText := true, laidKinds := [.data, .data, .data, .sentinel, .sentinel], laidTests := true, laidLooks := .later }
def FnExactParseTermCardSaid : Prop := Claim7.holds Tryd.pinned (.plain (OpenSpec.ofChange fnExactParseTermSpec)) fnExactParseTermCard

/-- THE SECOND FORM's CARD OF 'laws.FnExactParseType'. -/
def fnExactParseTypeUptoCard : Claim7 := { stood := { row := fnExactParseTypeUptoRow, standIns := [], harness := (true, "7e9ea0025b0879ed4aeb947dc81a054d9b91b4e38e1d503ca61a0db2b7ef0f79"), looks := true }, kinds := [], alts := [], laidByText := true, laidKinds := [.data, .data, .data, .sentinel, .sentinel], laidTests := true, laidLooks := .later }
def FnExactParseTypeUptoCardSaid : Prop := Claim7.holds Tryd.pinned (.plain (OpenSpec.upto fnExactParseTypeSpec)) fnExactParseTypeUptoCard

/-- THE SECOND FORM's CARD OF 'laws.FnExactParseTerm'. -/
def fnExactParseTermUptoCard : Claim7 := { stood := { row := fnExactParseTermUptoRow, standIns := [], harness := (true, "7e9ea0025b0879ed4aeb947dc81a054d9b91b4e38e1d503ca61a0db2b7ef0f79"), looks := true }, kinds := [], alts := [], laidByText := true, laidKinds := [.data, .data, .data, .sentinel, .sentinel], laidTests := true, laidLooks := .later }
def FnExactParseTermUptoCardSaid : Prop := Claim7.holds Tryd.pinned (.plain (OpenSpec.upto fnExactParseTermSpec)) fnExactParseTermUptoCard
end Rows
end Go.Proofs.YtifijafaaljamaaDoor
