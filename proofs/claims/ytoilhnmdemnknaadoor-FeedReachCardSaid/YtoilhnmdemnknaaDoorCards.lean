/-
  DERIVED. GIVEN WITH THE SEED: THE CARDS: each row of YtoilhnmdemnknaaDoorRows.lean that lists a variable, with what it lists TIED to the program's text (the seventh form; the later family's looks); each row that meets fmt, with fmt's text TOLD by the authors' own Lean function (tested against real Go, not proved from fmt's source: count such statements apart). THE CARD IS WHAT COUNTS. Prove the row's statement (the work); the ties are given (YtoilhnmdemnknaaDoorTie.lean); close each card by the builder's one call (the guide's Derived/Test/ToyasCard.lean, 'card_holds'). Laid BY PROGRAM, IN A SANDBOX (cutbox-door.mjs). By AI agents, Wed Nov 11 2026. No macro, syntax, notation, axiom, sorry.
-/
import Derived.Test.YtoilhnmdemnknaaDoorRows
import GoSem.ClaimSeven
namespace Go.Proofs.YtoilhnmdemnknaaDoor
namespace Rows

/-- THE TIED CARD OF 'dropperlaw05.FeedLive'. -/
def feedLiveCard : Claim7 := { stood := { row := feedLiveRow, standIns := [], harness := (true, "93285ac14de4f79fe65648c4cc717cd0c2c76f26ec07f4016cc2c3bd3ccdb537"), looks := false }, kinds := [], alts := [], laidByText := true, laidKinds := [.data, .data], laidTests := true, laidLooks := .later }
def FeedLiveCardSaid : Prop := Claim7.holds Tryd.pinned (.plain (OpenSpec.ofChange feedLiveSpec)) feedLiveCard

/-- THE TIED CARD OF 'dropperlaw05.FeedMore'. -/
def feedMoreCard : Claim7 := { stood := { row := feedMoreRow, standIns := [], harness := (true, "93285ac14de4f79fe65648c4cc717cd0c2c76f26ec07f4016cc2c3bd3ccdb537"), looks := false }, kinds := [], alts := [], laidByText := true, laidKinds := [.data, .data], laidTests := true, laidLooks := .later }
def FeedMoreCardSaid : Prop := Claim7.holds Tryd.pinned (.plain (OpenSpec.ofChange feedMoreSpec)) feedMoreCard

/-- THE TIED CARD OF 'dropperlaw05.FeedIsolates'. -/
def feedIsolatesCard : Claim7 := { stood := { row := feedIsolatesRow, standIns := [], harness := (true, "93285ac14de4f79fe65648c4cc717cd0c2c76f26ec07f4016cc2c3bd3ccdb537"), looks := false }, kinds := [], alts := [], laidByText := true, laidKinds := [.data, .data], laidTests := true, laidLooks := .later }
def FeedIsolatesCardSaid : Prop := Claim7.holds Tryd.pinned (.plain (OpenSpec.ofChange feedIsolatesSpec)) feedIsolatesCard

/-- THE TIED CARD OF 'dropperlaw05.FeedJoined'. -/
def feedJoinedCard : Claim7 := { stood := { row := feedJoinedRow, standIns := [], harness := (true, "93285ac14de4f79fe65648c4cc717cd0c2c76f26ec07f4016cc2c3bd3ccdb537"), looks := false }, kinds := [], alts := [], laidByText := true, laidKinds := [.data, .data], laidTests := true, laidLooks := .later }
def FeedJoinedCardSaid : Prop := Claim7.holds Tryd.pinned (.plain (OpenSpec.ofChange feedJoinedSpec)) feedJoinedCard

/-- THE TIED CARD OF 'dropperlaw05.FeedIsOrder'. -/
def feedIsOrderCard : Claim7 := { stood := { row := feedIsOrderRow, standIns := [], harness := (true, "93285ac14de4f79fe65648c4cc717cd0c2c76f26ec07f4016cc2c3bd3ccdb537"), looks := false }, kinds := [], alts := [], laidByText := true, laidKinds := [.data, .data], laidTests := true, laidLooks := .later }
def FeedIsOrderCardSaid : Prop := Claim7.holds Tryd.pinned (.plain (OpenSpec.ofChange feedIsOrderSpec)) feedIsOrderCard

/-- THE TIED CARD OF 'dropperlaw05.FeedOrders'. -/
def feedOrdersCard : Claim7 := { stood := { row := feedOrdersRow, standIns := [], harness := (true, "93285ac14de4f79fe65648c4cc717cd0c2c76f26ec07f4016cc2c3bd3ccdb537"), looks := false }, kinds := [], alts := [], laidByText := true, laidKinds := [.data, .data], laidTests := true, laidLooks := .later }
def FeedOrdersCardSaid : Prop := Claim7.holds Tryd.pinned (.plain (OpenSpec.ofChange feedOrdersSpec)) feedOrdersCard

/-- THE TIED CARD OF 'dropperlaw05.FeedFeeds'. -/
def feedFeedsCard : Claim7 := { stood := { row := feedFeedsRow, standIns := [], harness := (true, "93285ac14de4f79fe65648c4cc717cd0c2c76f26ec07f4016cc2c3bd3ccdb537"), looks := false }, kinds := [], alts := [], laidByText := true, laidKinds := [.data, .data], laidTests := true, laidLooks := .later }
def FeedFeedsCardSaid : Prop := Claim7.holds Tryd.pinned (.plain (OpenSpec.ofChange feedFeedsSpec)) feedFeedsCard

/-- THE TIED CARD OF 'dropperlaw05.FeedReach'. -/
def feedReachCard : Claim7 := { stood := { row := feedReachRow, standIns := [], harness := (true, "93285ac14de4f79fe65648c4cc717cd0c2c76f26ec07f4016cc2c3bd3ccdb537"), looks := false }, kinds := [], alts := [], laidByText := true, laidKinds := [.data, .data], laidTests := true, laidLooks := .later }
def FeedReachCardSaid : Prop := Claim7.holds Tryd.pinned (.plain (OpenSpec.ofChange feedReachSpec)) feedReachCard

/-- THE SECOND FORM's CARD OF 'dropperlaw05.FeedLive'. -/
def feedLiveUptoCard : Claim7 := { stood := { row := feedLiveUptoRow, standIns := [], harness := (true, "93285ac14de4f79fe65648c4cc717cd0c2c76f26ec07f4016cc2c3bd3ccdb537"), looks := false }, kinds := [], alts := [], laidByText := true, laidKinds := [.data, .data], laidTests := true, laidLooks := .later }
def FeedLiveUptoCardSaid : Prop := Claim7.holds Tryd.pinned (.plain (OpenSpec.upto feedLiveSpec)) feedLiveUptoCard

/-- THE SECOND FORM's CARD OF 'dropperlaw05.FeedMore'. -/
def feedMoreUptoCard : Claim7 := { stood := { row := feedMoreUptoRow, standIns := [], harness := (true, "93285ac14de4f79fe65648c4cc717cd0c2c76f26ec07f4016cc2c3bd3ccdb537"), looks := false }, kinds := [], alts := [], laidByText := true, laidKinds := [.data, .data], laidTests := true, laidLooks := .later }
def FeedMoreUptoCardSaid : Prop := Claim7.holds Tryd.pinned (.plain (OpenSpec.upto feedMoreSpec)) feedMoreUptoCard

/-- THE SECOND FORM's CARD OF 'dropperlaw05.FeedIsolates'. -/
def feedIsolatesUptoCard : Claim7 := { stood := { row := feedIsolatesUptoRow, standIns := [], harness := (true, "93285ac14de4f79fe65648c4cc717cd0c2c76f26ec07f4016cc2c3bd3ccdb537"), looks := false }, kinds := [], alts := [], laidByText := true, laidKinds := [.data, .data], laidTests := true, laidLooks := .later }
def FeedIsolatesUptoCardSaid : Prop := Claim7.holds Tryd.pinned (.plain (OpenSpec.upto feedIsolatesSpec)) feedIsolatesUptoCard

/-- THE SECOND FORM's CARD OF 'dropperlaw05.FeedJoined'. -/
def feedJoinedUptoCard : Claim7 := { stood := { row := feedJoinedUptoRow, standIns := [], harness := (true, "93285ac14de4f79fe65648c4cc717cd0c2c76f26ec07f4016cc2c3bd3ccdb537"), looks := false }, kinds := [], alts := [], laidByText := true, laidKinds := [.data, .data], laidTests := true, laidLooks := .later }
def FeedJoinedUptoCardSaid : Prop := Claim7.holds Tryd.pinned (.plain (OpenSpec.upto feedJoinedSpec)) feedJoinedUptoCard

/-- THE SECOND FORM's CARD OF 'dropperlaw05.FeedIsOrder'. -/
def feedIsOrderUptoCard : Claim7 := { stood := { row := feedIsOrderUptoRow, standIns := [], harness := (true, "93285ac14de4f79fe65648c4cc717cd0c2c76f26ec07f4016cc2c3bd3ccdb537"), looks := false }, kinds := [], alts := [], laidByText := true, laidKinds := [.data, .data], laidTests := true, laidLooks := .later }
def FeedIsOrderUptoCardSaid : Prop := Claim7.holds Tryd.pinned (.plain (OpenSpec.upto feedIsOrderSpec)) feedIsOrderUptoCard

/-- THE SECOND FORM's CARD OF 'dropperlaw05.FeedOrders'. -/
def feedOrdersUptoCard : Claim7 := { stood := { row := feedOrdersUptoRow, standIns := [], harness := (true, "93285ac14de4f79fe65648c4cc717cd0c2c76f26ec07f4016cc2c3bd3ccdb537"), looks := false }, kinds := [], alts := [], laidByText := true, laidKinds := [.data, .data], laidTests := true, laidLooks := .later }
def FeedOrdersUptoCardSaid : Prop := Claim7.holds Tryd.pinned (.plain (OpenSpec.upto feedOrdersSpec)) feedOrdersUptoCard

/-- THE SECOND FORM's CARD OF 'dropperlaw05.FeedFeeds'. -/
def feedFeedsUptoCard : Claim7 := { stood := { row := feedFeedsUptoRow, standIns := [], harness := (true, "93285ac14de4f79fe65648c4cc717cd0c2c76f26ec07f4016cc2c3bd3ccdb537"), looks := false }, kinds := [], alts := [], laidByText := true, laidKinds := [.data, .data], laidTests := true, laidLooks := .later }
def FeedFeedsUptoCardSaid : Prop := Claim7.holds Tryd.pinned (.plain (OpenSpec.upto feedFeedsSpec)) feedFeedsUptoCard

/-- THE SECOND FORM's CARD OF 'dropperlaw05.FeedReach'. -/
def feedReachUptoCard : Claim7 := { stood := { row := feedReachUptoRow, standIns := [], harness := (true, "93285ac14de4f79fe65648c4cc717cd0c2c76f26ec07f4016cc2c3bd3ccdb537"), looks := false }, kinds := [], alts := [], laidByText := true, laidKinds := [.data, .data], laidTests := true, laidLooks := .later }
def FeedReachUptoCardSaid : Prop := Claim7.holds Tryd.pinned (.plain (OpenSpec.upto feedReachSpec)) feedReachUptoCard
end Rows
end Go.Proofs.YtoilhnmdemnknaaDoor
