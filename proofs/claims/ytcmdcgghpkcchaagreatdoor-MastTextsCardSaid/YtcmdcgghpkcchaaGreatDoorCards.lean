/-
  DERIVED. GIVEN WITH THE SEED: THE CARDS: each row of YtcmdcgghpkcchaaGreatDoorRows.lean that lists a variable, with what it lists TIED to the program's text (the seventh form; the later family's looks); each row that meets fmt, with fmt's text TOLD by the authors' own Lean function (tested against real Go, not proved from fmt's source: count such statements apart). THE CARD IS WHAT COUNTS. Prove the row's statement (the work); the ties are given (YtcmdcgghpkcchaaGreatDoorTie.lean); close each card by the builder's one call (the guide's Derived/Test/ToyasCard.lean, 'card_holds'). Laid BY PROGRAM, IN A SANDBOX (cutbox-door.mjs). By AI agents, Wed Nov 11 2026. No macro, syntax, notation, axiom, sorry.
-/
import Derived.Test.YtcmdcgghpkcchaaGreatDoorRows
import GoSem.ClaimSeven
namespace Go.Proofs.YtcmdcgghpkcchaaGreatDoor
namespace Rows

/-- THE TIED CARD OF 'dropperlaw01.MastChainages'. -/
def mastChainagesCard : Claim7 := { stood := { row := mastChainagesRow, standIns := [], harness := (true, "79c178ec4cbd16cc474998518bff8e1aad91fae56a706dab5ef249d6464d663d"), looks := true }, kinds := [], alts := [], laidByText := true, laidKinds := [.data, .data, .data, .sentinel, .sentinel], laidTests := true, laidLooks := .later }
def MastChainagesCardSaid : Prop := Claim7.holds Tryz.pinned (.plain (OpenSpec.ofChange mastChainagesSpec)) mastChainagesCard

/-- THE TIED CARD OF 'dropperlaw01.MastTexts'. -/
def mastTextsCard : Claim7 := { stood := { row := mastTextsRow, standIns := [], harness := (true, "79c178ec4cbd16cc474998518bff8e1aad91fae56a706dab5ef249d6464d663d"), looks := true }, kinds := [], alts := [], laidByText := true, laidKinds := [.data, .data, .data, .data, .sentinel, .sentinel, .pinned], laidTests := true, laidLooks := .later }
def MastTextsCardSaid : Prop := Claim7.holds Tryz.pinned (.plain (OpenSpec.ofChange mastTextsSpec)) mastTextsCard

/-- THE TIED CARD OF 'dropperlaw01.MastParses'. -/
def mastParsesCard : Claim7 := { stood := { row := mastParsesRow, standIns := [], harness := (true, "79c178ec4cbd16cc474998518bff8e1aad91fae56a706dab5ef249d6464d663d"), looks := true }, kinds := [], alts := [], laidByText := true, laidKinds := [.data, .data, .data, .data, .sentinel, .sentinel, .pinned], laidTests := true, laidLooks := .later }
def MastParsesCardSaid : Prop := Claim7.holds Tryz.pinned (.plain (OpenSpec.ofChange mastParsesSpec)) mastParsesCard

/-- THE SECOND FORM's CARD OF 'dropperlaw01.MastChainages'. -/
def mastChainagesUptoCard : Claim7 := { stood := { row := mastChainagesUptoRow, standIns := [], harness := (true, "79c178ec4cbd16cc474998518bff8e1aad91fae56a706dab5ef249d6464d663d"), looks := true }, kinds := [], alts := [], laidByText := true, laidKinds := [.data, .data, .data, .sentinel, .sentinel], laidTests := true, laidLooks := .later }
def MastChainagesUptoCardSaid : Prop := Claim7.holds Tryz.pinned (.plain (OpenSpec.upto mastChainagesSpec)) mastChainagesUptoCard

/-- THE SECOND FORM's CARD OF 'dropperlaw01.MastTexts'. -/
def mastTextsUptoCard : Claim7 := { stood := { row := mastTextsUptoRow, standIns := [], harness := (true, "79c178ec4cbd16cc474998518bff8e1aad91fae56a706dab5ef249d6464d663d"), looks := true }, kinds := [], alts := [], laidByText := true, laidKinds := [.data, .data, .data, .data, .sentinel, .sentinel, .pinned], laidTests := true, laidLooks := .later }
def MastTextsUptoCardSaid : Prop := Claim7.holds Tryz.pinned (.plain (OpenSpec.upto mastTextsSpec)) mastTextsUptoCard

/-- THE SECOND FORM's CARD OF 'dropperlaw01.MastParses'. -/
def mastParsesUptoCard : Claim7 := { stood := { row := mastParsesUptoRow, standIns := [], harness := (true, "79c178ec4cbd16cc474998518bff8e1aad91fae56a706dab5ef249d6464d663d"), looks := true }, kinds := [], alts := [], laidByText := true, laidKinds := [.data, .data, .data, .data, .sentinel, .sentinel, .pinned], laidTests := true, laidLooks := .later }
def MastParsesUptoCardSaid : Prop := Claim7.holds Tryz.pinned (.plain (OpenSpec.upto mastParsesSpec)) mastParsesUptoCard
end Rows
end Go.Proofs.YtcmdcgghpkcchaaGreatDoor
