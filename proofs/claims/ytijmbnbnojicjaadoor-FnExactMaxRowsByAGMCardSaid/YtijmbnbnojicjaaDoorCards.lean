/-
  DERIVED. GIVEN WITH THE SEED: THE CARDS: each row of YtijmbnbnojicjaaDoorRows.lean that lists a variable, with what it lists TIED to the program's text (the seventh form; the later family's looks); each row that meets fmt, with fmt's text TOLD by the authors' own Lean function (tested against real Go, not proved from fmt's source: count such statements apart). THE CARD IS WHAT COUNTS. Prove the row's statement (the work); the ties are given (YtijmbnbnojicjaaDoorTie.lean); close each card by the builder's one call (the guide's Derived/Test/ToyasCard.lean, 'card_holds'). Laid BY PROGRAM, IN A SANDBOX (cutbox-door.mjs). By AI agents, Wed Nov 11 2026. No macro, syntax, notation, axiom, sorry.
-/
import Derived.Test.YtijmbnbnojicjaaDoorRows
import GoSem.ClaimSeven
namespace Go.Proofs.YtijmbnbnojicjaaDoor
namespace Rows

/-- THE TIED CARD OF 'laws.FnExactMaxRowsByAGM'. -/
def fnExactMaxRowsByAGMCard : Claim7 := { stood := { row := fnExactMaxRowsByAGMRow, standIns := [], harness := (true, "64fb8fff584467ffcd7b9f6512a6f9dd990707d0d4ab48d144734d43bad0f743"), looks := false }, kinds := [], alts := [], laidByText := true, laidKinds := [.data], laidTests := true, laidLooks := .later }
def FnExactMaxRowsByAGMCardSaid : Prop := Claim7.holds Tryd.pinned (.plain (OpenSpec.ofChange fnExactMaxRowsByAGMSpec)) fnExactMaxRowsByAGMCard

/-- THE SECOND FORM's CARD OF 'laws.FnExactMaxRowsByAGM'. -/
def fnExactMaxRowsByAGMUptoCard : Claim7 := { stood := { row := fnExactMaxRowsByAGMUptoRow, standIns := [], harness := (true, "64fb8fff584467ffcd7b9f6512a6f9dd990707d0d4ab48d144734d43bad0f743"), looks := false }, kinds := [], alts := [], laidByText := true, laidKinds := [.data], laidTests := true, laidLooks := .later }
def FnExactMaxRowsByAGMUptoCardSaid : Prop := Claim7.holds Tryd.pinned (.plain (OpenSpec.upto fnExactMaxRowsByAGMSpec)) fnExactMaxRowsByAGMUptoCard
end Rows
end Go.Proofs.YtijmbnbnojicjaaDoor
