/-
  DERIVED. GIVEN WITH THE SEED: THE CARDS: each row of YtcmdcgghpkcchaaDoorRows.lean that lists a variable, with what it lists TIED to the program's text (the seventh form; the later family's looks); each row that meets fmt, with fmt's text TOLD by the authors' own Lean function (tested against real Go, not proved from fmt's source: count such statements apart). THE CARD IS WHAT COUNTS. Prove the row's statement (the work); the ties are given (YtcmdcgghpkcchaaDoorTie.lean); close each card by the builder's one call (the guide's Derived/Test/ToyasCard.lean, 'card_holds'). Laid BY PROGRAM, IN A SANDBOX (cutbox-door.mjs). By AI agents, Wed Nov 11 2026. No macro, syntax, notation, axiom, sorry.
-/
import Derived.Test.YtcmdcgghpkcchaaDoorRows
import GoSem.ClaimSeven
namespace Go.Proofs.YtcmdcgghpkcchaaDoor
namespace Rows

/-- THE TIED CARD OF 'dropperlaw01.MastCleans'. -/
def mastCleansCard : Claim7 := { stood := { row := mastCleansRow, standIns := [], harness := (true, "d919e17aca2791b8c412353f2b117ae8d034433952b93dc40eac1d6d377e885d"), looks := false }, kinds := [], alts := [], laidByText := true, laidKinds := [.data, .data, .data], laidTests := true, laidLooks := .later }
def MastCleansCardSaid : Prop := Claim7.holds Tryd.pinned (.plain (OpenSpec.ofChange mastCleansSpec)) mastCleansCard

/-- THE TIED CARD OF 'dropperlaw01.MastMetres'. -/
def mastMetresCard : Claim7 := { stood := { row := mastMetresRow, standIns := [], harness := (true, "d919e17aca2791b8c412353f2b117ae8d034433952b93dc40eac1d6d377e885d"), looks := false }, kinds := [], alts := [], laidByText := true, laidKinds := [.data, .data, .data], laidTests := true, laidLooks := .later }
def MastMetresCardSaid : Prop := Claim7.holds Tryd.pinned (.plain (OpenSpec.ofChange mastMetresSpec)) mastMetresCard

/-- THE TIED CARD OF 'dropperlaw01.MastRests'. -/
def mastRestsCard : Claim7 := { stood := { row := mastRestsRow, standIns := [], harness := (true, "d919e17aca2791b8c412353f2b117ae8d034433952b93dc40eac1d6d377e885d"), looks := false }, kinds := [], alts := [], laidByText := true, laidKinds := [.data, .data, .data], laidTests := true, laidLooks := .later }
def MastRestsCardSaid : Prop := Claim7.holds Tryd.pinned (.plain (OpenSpec.ofChange mastRestsSpec)) mastRestsCard

/-- THE TIED CARD OF 'dropperlaw01.MastSets'. -/
def mastSetsCard : Claim7 := { stood := { row := mastSetsRow, standIns := [], harness := (true, "d919e17aca2791b8c412353f2b117ae8d034433952b93dc40eac1d6d377e885d"), looks := false }, kinds := [], alts := [], laidByText := true, laidKinds := [.data, .data, .data], laidTests := true, laidLooks := .later }
def MastSetsCardSaid : Prop := Claim7.holds Tryd.pinned (.plain (OpenSpec.ofChange mastSetsSpec)) mastSetsCard

/-- THE TIED CARD OF 'dropperlaw01.MastMoves'. -/
def mastMovesCard : Claim7 := { stood := { row := mastMovesRow, standIns := [], harness := (true, "d919e17aca2791b8c412353f2b117ae8d034433952b93dc40eac1d6d377e885d"), looks := false }, kinds := [], alts := [], laidByText := true, laidKinds := [.data, .data, .data], laidTests := true, laidLooks := .later }
def MastMovesCardSaid : Prop := Claim7.holds Tryd.pinned (.plain (OpenSpec.ofChange mastMovesSpec)) mastMovesCard

/-- THE TIED CARD OF 'dropperlaw01.MastOften'. -/
def mastOftenCard : Claim7 := { stood := { row := mastOftenRow, standIns := [], harness := (true, "d919e17aca2791b8c412353f2b117ae8d034433952b93dc40eac1d6d377e885d"), looks := false }, kinds := [], alts := [], laidByText := true, laidKinds := [.data, .data, .data], laidTests := true, laidLooks := .later }
def MastOftenCardSaid : Prop := Claim7.holds Tryd.pinned (.plain (OpenSpec.ofChange mastOftenSpec)) mastOftenCard

/-- THE TIED CARD OF 'droppertop.TopLays'. -/
def topLaysCard : Claim7 := { stood := { row := topLaysRow, standIns := [], harness := (true, "d919e17aca2791b8c412353f2b117ae8d034433952b93dc40eac1d6d377e885d"), looks := false }, kinds := [], alts := [], laidByText := true, laidKinds := [.data, .data, .data], laidTests := true, laidLooks := .later }
def TopLaysCardSaid : Prop := Claim7.holds Tryd.pinned (.plain (OpenSpec.ofChange topLaysSpec)) topLaysCard

/-- THE SECOND FORM's CARD OF 'dropperlaw01.MastCleans'. -/
def mastCleansUptoCard : Claim7 := { stood := { row := mastCleansUptoRow, standIns := [], harness := (true, "d919e17aca2791b8c412353f2b117ae8d034433952b93dc40eac1d6d377e885d"), looks := false }, kinds := [], alts := [], laidByText := true, laidKinds := [.data, .data, .data], laidTests := true, laidLooks := .later }
def MastCleansUptoCardSaid : Prop := Claim7.holds Tryd.pinned (.plain (OpenSpec.upto mastCleansSpec)) mastCleansUptoCard

/-- THE SECOND FORM's CARD OF 'dropperlaw01.MastMetres'. -/
def mastMetresUptoCard : Claim7 := { stood := { row := mastMetresUptoRow, standIns := [], harness := (true, "d919e17aca2791b8c412353f2b117ae8d034433952b93dc40eac1d6d377e885d"), looks := false }, kinds := [], alts := [], laidByText := true, laidKinds := [.data, .data, .data], laidTests := true, laidLooks := .later }
def MastMetresUptoCardSaid : Prop := Claim7.holds Tryd.pinned (.plain (OpenSpec.upto mastMetresSpec)) mastMetresUptoCard

/-- THE SECOND FORM's CARD OF 'dropperlaw01.MastRests'. -/
def mastRestsUptoCard : Claim7 := { stood := { row := mastRestsUptoRow, standIns := [], harness := (true, "d919e17aca2791b8c412353f2b117ae8d034433952b93dc40eac1d6d377e885d"), looks := false }, kinds := [], alts := [], laidByText := true, laidKinds := [.data, .data, .data], laidTests := true, laidLooks := .later }
def MastRestsUptoCardSaid : Prop := Claim7.holds Tryd.pinned (.plain (OpenSpec.upto mastRestsSpec)) mastRestsUptoCard

/-- THE SECOND FORM's CARD OF 'dropperlaw01.MastSets'. -/
def mastSetsUptoCard : Claim7 := { stood := { row := mastSetsUptoRow, standIns := [], harness := (true, "d919e17aca2791b8c412353f2b117ae8d034433952b93dc40eac1d6d377e885d"), looks := false }, kinds := [], alts := [], laidByText := true, laidKinds := [.data, .data, .data], laidTests := true, laidLooks := .later }
def MastSetsUptoCardSaid : Prop := Claim7.holds Tryd.pinned (.plain (OpenSpec.upto mastSetsSpec)) mastSetsUptoCard

/-- THE SECOND FORM's CARD OF 'dropperlaw01.MastMoves'. -/
def mastMovesUptoCard : Claim7 := { stood := { row := mastMovesUptoRow, standIns := [], harness := (true, "d919e17aca2791b8c412353f2b117ae8d034433952b93dc40eac1d6d377e885d"), looks := false }, kinds := [], alts := [], laidByText := true, laidKinds := [.data, .data, .data], laidTests := true, laidLooks := .later }
def MastMovesUptoCardSaid : Prop := Claim7.holds Tryd.pinned (.plain (OpenSpec.upto mastMovesSpec)) mastMovesUptoCard

/-- THE SECOND FORM's CARD OF 'dropperlaw01.MastOften'. -/
def mastOftenUptoCard : Claim7 := { stood := { row := mastOftenUptoRow, standIns := [], harness := (true, "d919e17aca2791b8c412353f2b117ae8d034433952b93dc40eac1d6d377e885d"), looks := false }, kinds := [], alts := [], laidByText := true, laidKinds := [.data, .data, .data], laidTests := true, laidLooks := .later }
def MastOftenUptoCardSaid : Prop := Claim7.holds Tryd.pinned (.plain (OpenSpec.upto mastOftenSpec)) mastOftenUptoCard

/-- THE SECOND FORM's CARD OF 'droppertop.TopLays'. -/
def topLaysUptoCard : Claim7 := { stood := { row := topLaysUptoRow, standIns := [], harness := (true, "d919e17aca2791b8c412353f2b117ae8d034433952b93dc40eac1d6d377e885d"), looks := false }, kinds := [], alts := [], laidByText := true, laidKinds := [.data, .data, .data], laidTests := true, laidLooks := .later }
def TopLaysUptoCardSaid : Prop := Claim7.holds Tryd.pinned (.plain (OpenSpec.upto topLaysSpec)) topLaysUptoCard
end Rows
end Go.Proofs.YtcmdcgghpkcchaaDoor
