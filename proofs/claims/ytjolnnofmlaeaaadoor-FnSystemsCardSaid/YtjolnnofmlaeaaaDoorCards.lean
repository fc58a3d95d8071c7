/-
  DERIVED. GIVEN WITH THE SEED: THE CARDS: each row of YtjolnnofmlaeaaaDoorRows.lean that lists a variable, with what it lists TIED to the program's text (the seventh form; the later family's looks); each row that meets fmt, with fmt's text TOLD by the authors' own Lean function (tested against real Go, not proved from fmt's source: count such statements apart). THE CARD IS WHAT COUNTS. Prove the row's statement (the work); the ties are given (YtjolnnofmlaeaaaDoorTie.lean); close each card by the builder's one call (the guide's Derived/Test/ToyasCard.lean, 'card_holds'). Laid BY PROGRAM, IN A SANDBOX (cutbox-door.mjs). By AI agents, Wed Nov 11 2026. No macro, syntax, notation, axiom, sorry.
-/
import Derived.Test.YtjolnnofmlaeaaaDoorRows
import GoSem.ClaimSeven
namespace Go.Proofs.YtjolnnofmlaeaaaDoor
namespace Rows

/-- THE TIED CARD OF 'laws.FnSystems'. -/
def fnSystemsCard : Claim7 := { stood := { row := fnSystemsRow, standIns := [], harness := (true, "bdc214fda9a3383bd1a52665633531249336358a7efe401d3784a2bfb91c7b31"), looks := false }, kinds := [], alts := [], laidByText := true, laidKinds := [.data, .data, .data], laidTests := true, laidLooks := .later }
def FnSystemsCardSaid : Prop := Claim7.holds Tryd.pinned (.plain (OpenSpec.ofChange fnSystemsSpec)) fnSystemsCard

/-- THE SECOND FORM's CARD OF 'laws.FnSystems'. -/
def fnSystemsUptoCard : Claim7 := { stood := { row := fnSystemsUptoRow, standIns := [], harness := (true, "bdc214fda9a3383bd1a52665633531249336358a7efe401d3784a2bfb91c7b31"), looks := false }, kinds := [], alts := [], laidByText := true, laidKinds := [.data, .data, .data], laidTests := true, laidLooks := .later }
def FnSystemsUptoCardSaid : Prop := Claim7.holds Tryd.pinned (.plain (OpenSpec.upto fnSystemsSpec)) fnSystemsUptoCard
end Rows
end Go.Proofs.YtjolnnofmlaeaaaDoor
