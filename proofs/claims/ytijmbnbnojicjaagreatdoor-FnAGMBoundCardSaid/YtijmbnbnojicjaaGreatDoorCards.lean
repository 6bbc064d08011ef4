/-
  DERIVED. GIVEN WITH THE SEED: THE CARDS: each row of YtijmbnbnojicjaaGreatDoorRows.lean that lists a variable, with what it lists TIED to the program's text (the seventh form; the later family's looks); each row that meets fmt, with fmt's text TOLD by the authors' own Lean function (tested against real Go, not proved from fmt's source: count such statements apart). THE CARD IS WHAT COUNTS. Prove the row's statement (the work); the ties are given (YtijmbnbnojicjaaGreatDoorTie.lean); close each card by the builder's one call (the guide's Derived/Test/ToyasCard.lean, 'card_holds'). Laid BY PROGRAM, IN A SANDBOX (cutbox-door.mjs). By AI agents, Wed Nov 11 2026. No macro, syntax, notation, axiom, sorry.
-/
import Derived.Test.YtijmbnbnojicjaaGreatDoorRows
import GoSem.ClaimSeven
namespace Go.Proofs.YtijmbnbnojicjaaGreatDoor
namespace Rows

/-- THE TIED CARD OF 'laws.FnExactBestCover'. -/
def fnExactBestCoverCard : Claim7 := { stood := { row := fnExactBestCoverRow, standIns := [], harness := (true, "cad512a7f18397aa65300a3f13ae3e12649860eba5398cfc39b44726e374d2e3"), looks := false }, kinds := [], alts := [], laidByText := true, laidKinds := [.data], laidTests := true, laidLooks := .later }
def FnExactBestCoverCardSaid : Prop := Claim7.holds Tryz.pinned (.plain (OpenSpec.ofChange fnExactBestCoverSpec)) fnExactBestCoverCard

/-- THE TIED CARD OF 'laws.FnBestCover'. -/
def fnBestCoverCard : Claim7 := { stood := { row := fnBestCoverRow, standIns := [], harness := (true, "cad512a7f18397aa65300a3f13ae3e12649860eba5398cfc39b44726e374d2e3"), looks := false }, kinds := [], alts := [], laidByText := true, laidKinds := [.data], laidTests := true, laidLooks := .later }
def FnBestCoverCardSaid : Prop := Claim7.holds Tryz.pinned (.plain (OpenSpec.ofChange fnBestCoverSpec)) fnBestCoverCard

/-- THE TIED CARD OF 'laws.FnAGMBound'. -/
def fnAGMBoundCard : Claim7 := { stood := { row := fnAGMBoundRow, standIns := [], harness := (true, "cad512a7f18397aa65300a3f13ae3e12649860eba5398cfc39b44726e374d2e3"), looks := false }, kinds := [], alts := [], laidByText := true, laidKinds := [.data], laidTests := true, laidLooks := .later }
def FnAGMBoundCardSaid : Prop := Claim7.holds Tryz.pinned (.plain (OpenSpec.ofChange fnAGMBoundSpec)) fnAGMBoundCard

/-- THE SECOND FORM's CARD OF 'laws.FnExactBestCover'. -/
def fnExactBestCoverUptoCard : Claim7 := { stood := { row := fnExactBestCoverUptoRow, standIns := [], harness := (true, "cad512a7f18397aa65300a3f13ae3e12649860eba5398cfc39b44726e374d2e3"), looks := false }, kinds := [], alts := [], laidByText := true, laidKinds := [.data], laidTests := true, laidLooks := .later }
def FnExactBestCoverUptoCardSaid : Prop := Claim7.holds Tryz.pinned (.plain (OpenSpec.upto fnExactBestCoverSpec)) fnExactBestCoverUptoCard

/-- THE SECOND FORM's CARD OF 'laws.FnBestCover'. -/
def fnBestCoverUptoCard : Claim7 := { stood := { row := fnBestCoverUptoRow, standIns := [], harness := (true, "cad512a7f18397aa65300a3f13ae3e12649860eba5398cfc39b44726e374d2e3"), looks := false }, kinds := [], alts := [], laidByText := true, laidKinds := [.data], laidTests := true, laidLooks := .later }
def FnBestCoverUptoCardSaid : Prop := Claim7.holds Tryz.pinned (.plain (OpenSpec.upto fnBestCoverSpec)) fnBestCoverUptoCard

/-- THE SECOND FORM's CARD OF 'laws.FnAGMBound'. -/
def fnAGMBoundUptoCard : Claim7 := { stood := { row := fnAGMBoundUptoRow, standIns := [], harness := (true, "cad512a7f18397aa65300a3f13ae3e12649860eba5398cfc39b44726e374d2e3"), looks := false }, kinds := [], alts := [], laidByText := true, laidKinds := [.data], laidTests := true, laidLooks := .later }
def FnAGMBoundUptoCardSaid : Prop := Claim7.holds Tryz.pinned (.plain (OpenSpec.upto fnAGMBoundSpec)) fnAGMBoundUptoCard
end Rows
end Go.Proofs.YtijmbnbnojicjaaGreatDoor
