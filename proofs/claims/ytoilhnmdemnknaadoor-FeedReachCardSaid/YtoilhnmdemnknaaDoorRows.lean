/-
  NARROWER THAN 'FOR EVERY INPUT', by the rows' own cells (each row's printed sentence says how): FeedLive: laid · FeedMore: laid · FeedIsolates: laid · FeedJoined: laid · FeedIsOrder: laid · FeedOrders: laid · FeedFeeds: laid · FeedReach: laid.
  DERIVED. THE GIVEN ROWS OF THIS SEAT. 8 by the template 'for every input the law returns true; each argument reads behind the call as it read before'; 0 by the template 'total and deterministic' (their statements: YtoilhnmdemnknaaDoorTotals.lean).
  GIVEN WITH THE SEED: the statements are not yours to turn. If you find one false, say at which input.
  Laid BY PROGRAM, IN A SANDBOX (cutbox-rows.mjs): the forced cells as the released guide's own fill.sh prints them over the translation 7a200442d79baa7e… (all of the seat's roots in one cut). By AI agents, Wed Nov 11 2026. No macro, syntax, notation, axiom, sorry.
-/
import Derived.Test.YtoilhnmdemnknaaDoorChecked
import GoSem.Claim
import GoSem.ClaimJoined
import GoSem.ClaimMapViews
import Derived.JoinedTies
import Derived.KernelRfl
namespace Go.Proofs.YtoilhnmdemnknaaDoor
/- THE CELL 'sum', in the pinned program and in every row, IS THE sha256 OF THE DUMP (.gsa) THAT YtoilhnmdemnknaaDoorProg.lean LOADS. Nothing in Lean hashes anything: it is a label: what it is worth is what the hold of that sum in a sandbox is worth. -/
noncomputable def Tryd.pinned : Pinned := { name := "ytoilhnmdemnknaadoor", sum := "7a200442d79baa7e17aff21c8652e5d8ecf1d2dc5e8954301e97344e8f003ab2", checked := Tryd.checked }
namespace Rows
def none {H : Type} : Left H := { results := [], args := [] }

/- WHAT THE LISTED PACKAGE-LEVEL VARIABLES READ AS WHEN THE CALL BEGINS. Each datum BY PROGRAM (the guide's laid-datum.mjs) off the statement by which the dump's own 'gosem.cut.vars' lays the variable. In a bare row this is a premise. The card (YtoilhnmdemnknaaDoorCards.lean) ties it to the program's text. -/
def laid_math_bits_deBruijn32tab {H : Type} : DataW H := .agg [.lit (.int .u8 0), .lit (.int .u8 1), .lit (.int .u8 28), .lit (.int .u8 2), .lit (.int .u8 29), .lit (.int .u8 14), .lit (.int .u8 24), .lit (.int .u8 3), .lit (.int .u8 30), .lit (.int .u8 22), .lit (.int .u8 20), .lit (.int .u8 15), .lit (.int .u8 25), .lit (.int .u8 17), .lit (.int .u8 4), .lit (.int .u8 8), .lit (.int .u8 31), .lit (.int .u8 27), .lit (.int .u8 13), .lit (.int .u8 23), .lit (.int .u8 21), .lit (.int .u8 19), .lit (.int .u8 16), .lit (.int .u8 7), .lit (.int .u8 26), .lit (.int .u8 12), .lit (.int .u8 18), .lit (.int .u8 6), .lit (.int .u8 11), .lit (.int .u8 5), .lit (.int .u8 10), .lit (.int .u8 9)]
def laid_math_bits_deBruijn64tab {H : Type} : DataW H := .agg [.lit (.int .u8 0), .lit (.int .u8 1), .lit (.int .u8 56), .lit (.int .u8 2), .lit (.int .u8 57), .lit (.int .u8 49), .lit (.int .u8 28), .lit (.int .u8 3), .lit (.int .u8 61), .lit (.int .u8 58), .lit (.int .u8 42), .lit (.int .u8 50), .lit (.int .u8 38), .lit (.int .u8 29), .lit (.int .u8 17), .lit (.int .u8 4), .lit (.int .u8 62), .lit (.int .u8 47), .lit (.int .u8 59), .lit (.int .u8 36), .lit (.int .u8 45), .lit (.int .u8 43), .lit (.int .u8 51), .lit (.int .u8 22), .lit (.int .u8 53), .lit (.int .u8 39), .lit (.int .u8 33), .lit (.int .u8 30), .lit (.int .u8 24), .lit (.int .u8 18), .lit (.int .u8 12), .lit (.int .u8 5), .lit (.int .u8 63), .lit (.int .u8 55), .lit (.int .u8 48), .lit (.int .u8 27), .lit (.int .u8 60), .lit (.int .u8 41), .lit (.int .u8 37), .lit (.int .u8 16), .lit (.int .u8 46), .lit (.int .u8 35), .lit (.int .u8 44), .lit (.int .u8 21), .lit (.int .u8 52), .lit (.int .u8 32), .lit (.int .u8 23), .lit (.int .u8 11), .lit (.int .u8 54), .lit (.int .u8 26), .lit (.int .u8 40), .lit (.int .u8 15), .lit (.int .u8 34), .lit (.int .u8 20), .lit (.int .u8 31), .lit (.int .u8 10), .lit (.int .u8 25), .lit (.int .u8 14), .lit (.int .u8 19), .lit (.int .u8 9), .lit (.int .u8 13), .lit (.int .u8 8), .lit (.int .u8 7), .lit (.int .u8 6)]

/-- 'dropperlaw05.FeedLive': WHATEVER THE INPUT: true; the input reads as it did. -/
def feedLiveSpec : ChangeSpec := { name := "feedLive", fn := fun _ => fun
  | [d1, d2] => { results := [.lit (.bool true)], args := [d1, d2] }
  | _ => none }
def feedLiveRow : OpenClaim := { program := "ytoilhnmdemnknaadoor", sum := "7a200442d79baa7e17aff21c8652e5d8ecf1d2dc5e8954301e97344e8f003ab2", func := "dropper/dropperlaw05.FeedLive", spec := "feedLive", unfollowed := true, recurses := true, named := ["math/bits.deBruijn32tab", "math/bits.deBruijn64tab"], apart := false, laid := [("math/bits.deBruijn32tab", laid_math_bits_deBruijn32tab), ("math/bits.deBruijn64tab", laid_math_bits_deBruijn64tab)] }
def FeedLiveSaid : Prop := feedLiveRow.holds Tryd.pinned (OpenSpec.ofChange feedLiveSpec)

/-- ITS FALSE NEIGHBOUR: 'it returns false'. Refute it at one input. -/
def feedLiveWrong : ChangeSpec := { name := "feedLive", fn := fun _ => fun
  | [d1, d2] => { results := [.lit (.bool false)], args := [d1, d2] }
  | _ => none }
def FeedLiveWrongFalsely : Prop := feedLiveRow.holds Tryd.pinned (OpenSpec.ofChange feedLiveWrong)

/-- 'dropperlaw05.FeedMore': WHATEVER THE INPUT: true; the input reads as it did. -/
def feedMoreSpec : ChangeSpec := { name := "feedMore", fn := fun _ => fun
  | [d1, d2] => { results := [.lit (.bool true)], args := [d1, d2] }
  | _ => none }
def feedMoreRow : OpenClaim := { program := "ytoilhnmdemnknaadoor", sum := "7a200442d79baa7e17aff21c8652e5d8ecf1d2dc5e8954301e97344e8f003ab2", func := "dropper/dropperlaw05.FeedMore", spec := "feedMore", unfollowed := true, recurses := true, named := ["math/bits.deBruijn32tab", "math/bits.deBruijn64tab"], apart := false, laid := [("math/bits.deBruijn32tab", laid_math_bits_deBruijn32tab), ("math/bits.deBruijn64tab", laid_math_bits_deBruijn64tab)] }
def FeedMoreSaid : Prop := feedMoreRow.holds Tryd.pinned (OpenSpec.ofChange feedMoreSpec)

/-- ITS FALSE NEIGHBOUR: 'it returns false'. Refute it at one input. -/
def feedMoreWrong : ChangeSpec := { name := "feedMore", fn := fun _ => fun
  | [d1, d2] => { results := [.lit (.bool false)], args := [d1, d2] }
  | _ => none }
def FeedMoreWrongFalsely : Prop := feedMoreRow.holds Tryd.pinned (OpenSpec.ofChange feedMoreWrong)

/-- 'dropperlaw05.FeedIsolates': WHATEVER THE INPUT: true; the input reads as it did. -/
def feedIsolatesSpec : ChangeSpec := { name := "feedIsolates", fn := fun _ => fun
  | [d1, d2, d3] => { results := [.lit (.bool true)], args := [d1, d2, d3] }
  | _ => none }
def feedIsolatesRow : OpenClaim := { program := "ytoilhnmdemnknaadoor", sum := "7a200442d79baa7e17aff21c8652e5d8ecf1d2dc5e8954301e97344e8f003ab2", func := "dropper/dropperlaw05.FeedIsolates", spec := "feedIsolates", unfollowed := true, recurses := true, named := ["math/bits.deBruijn32tab", "math/bits.deBruijn64tab"], apart := false, laid := [("math/bits.deBruijn32tab", laid_math_bits_deBruijn32tab), ("math/bits.deBruijn64tab", laid_math_bits_deBruijn64tab)] }
def FeedIsolatesSaid : Prop := feedIsolatesRow.holds Tryd.pinned (OpenSpec.ofChange feedIsolatesSpec)

/-- ITS FALSE NEIGHBOUR: 'it returns false'. Refute it at one input. -/
def feedIsolatesWrong : ChangeSpec := { name := "feedIsolates", fn := fun _ => fun
  | [d1, d2, d3] => { results := [.lit (.bool false)], args := [d1, d2, d3] }
  | _ => none }
def FeedIsolatesWrongFalsely : Prop := feedIsolatesRow.holds Tryd.pinned (OpenSpec.ofChange feedIsolatesWrong)

/-- 'dropperlaw05.FeedJoined': WHATEVER THE INPUT: true; the input reads as it did. -/
def feedJoinedSpec : ChangeSpec := { name := "feedJoined", fn := fun _ => fun
  | [d1, d2, d3] => { results := [.lit (.bool true)], args := [d1, d2, d3] }
  | _ => none }
def feedJoinedRow : OpenClaim := { program := "ytoilhnmdemnknaadoor", sum := "7a200442d79baa7e17aff21c8652e5d8ecf1d2dc5e8954301e97344e8f003ab2", func := "dropper/dropperlaw05.FeedJoined", spec := "feedJoined", unfollowed := true, recurses := true, named := ["math/bits.deBruijn32tab", "math/bits.deBruijn64tab"], apart := false, laid := [("math/bits.deBruijn32tab", laid_math_bits_deBruijn32tab), ("math/bits.deBruijn64tab", laid_math_bits_deBruijn64tab)] }
def FeedJoinedSaid : Prop := feedJoinedRow.holds Tryd.pinned (OpenSpec.ofChange feedJoinedSpec)

/-- ITS FALSE NEIGHBOUR: 'it returns false'. Refute it at one input. -/
def feedJoinedWrong : ChangeSpec := { name := "feedJoined", fn := fun _ => fun
  | [d1, d2, d3] => { results := [.lit (.bool false)], args := [d1, d2, d3] }
  | _ => none }
def FeedJoinedWrongFalsely : Prop := feedJoinedRow.holds Tryd.pinned (OpenSpec.ofChange feedJoinedWrong)

/-- 'dropperlaw05.FeedIsOrder': WHATEVER THE INPUT: true; the input reads as it did. -/
def feedIsOrderSpec : ChangeSpec := { name := "feedIsOrder", fn := fun _ => fun
  | [d1, d2, d3] => { results := [.lit (.bool true)], args := [d1, d2, d3] }
  | _ => none }
def feedIsOrderRow : OpenClaim := { program := "ytoilhnmdemnknaadoor", sum := "7a200442d79baa7e17aff21c8652e5d8ecf1d2dc5e8954301e97344e8f003ab2", func := "dropper/dropperlaw05.FeedIsOrder", spec := "feedIsOrder", unfollowed := true, recurses := true, named := ["math/bits.deBruijn32tab", "math/bits.deBruijn64tab"], apart := false, laid := [("math/bits.deBruijn32tab", laid_math_bits_deBruijn32tab), ("math/bits.deBruijn64tab", laid_math_bits_deBruijn64tab)] }
def FeedIsOrderSaid : Prop := feedIsOrderRow.holds Tryd.pinned (OpenSpec.ofChange feedIsOrderSpec)

/-- ITS FALSE NEIGHBOUR: 'it returns false'. Refute it at one input. -/
def feedIsOrderWrong : ChangeSpec := { name := "feedIsOrder", fn := fun _ => fun
  | [d1, d2, d3] => { results := [.lit (.bool false)], args := [d1, d2, d3] }
  | _ => none }
def FeedIsOrderWrongFalsely : Prop := feedIsOrderRow.holds Tryd.pinned (OpenSpec.ofChange feedIsOrderWrong)

/-- 'dropperlaw05.FeedOrders': WHATEVER THE INPUT: true; the input reads as it did. -/
def feedOrdersSpec : ChangeSpec := { name := "feedOrders", fn := fun _ => fun
  | [d1, d2, d3] => { results := [.lit (.bool true)], args := [d1, d2, d3] }
  | _ => none }
def feedOrdersRow : OpenClaim := { program := "ytoilhnmdemnknaadoor", sum := "7a200442d79baa7e17aff21c8652e5d8ecf1d2dc5e8954301e97344e8f003ab2", func := "dropper/dropperlaw05.FeedOrders", spec := "feedOrders", unfollowed := true, recurses := true, named := ["math/bits.deBruijn32tab", "math/bits.deBruijn64tab"], apart := false, laid := [("math/bits.deBruijn32tab", laid_math_bits_deBruijn32tab), ("math/bits.deBruijn64tab", laid_math_bits_deBruijn64tab)] }
def FeedOrdersSaid : Prop := feedOrdersRow.holds Tryd.pinned (OpenSpec.ofChange feedOrdersSpec)

/-- ITS FALSE NEIGHBOUR: 'it returns false'. Refute it at one input. -/
def feedOrdersWrong : ChangeSpec := { name := "feedOrders", fn := fun _ => fun
  | [d1, d2, d3] => { results := [.lit (.bool false)], args := [d1, d2, d3] }
  | _ => none }
def FeedOrdersWrongFalsely : Prop := feedOrdersRow.holds Tryd.pinned (OpenSpec.ofChange feedOrdersWrong)

/-- 'dropperlaw05.FeedFeeds': WHATEVER THE INPUT: true; the input reads as it did. -/
def feedFeedsSpec : ChangeSpec := { name := "feedFeeds", fn := fun _ => fun
  | [d1, d2, d3] => { results := [.lit (.bool true)], args := [d1, d2, d3] }
  | _ => none }
def feedFeedsRow : OpenClaim := { program := "ytoilhnmdemnknaadoor", sum := "7a200442d79baa7e17aff21c8652e5d8ecf1d2dc5e8954301e97344e8f003ab2", func := "dropper/dropperlaw05.FeedFeeds", spec := "feedFeeds", unfollowed := true, recurses := true, named := ["math/bits.deBruijn32tab", "math/bits.deBruijn64tab"], apart := false, laid := [("math/bits.deBruijn32tab", laid_math_bits_deBruijn32tab), ("math/bits.deBruijn64tab", laid_math_bits_deBruijn64tab)] }
def FeedFeedsSaid : Prop := feedFeedsRow.holds Tryd.pinned (OpenSpec.ofChange feedFeedsSpec)

/-- ITS FALSE NEIGHBOUR: 'it returns false'. Refute it at one input. -/
def feedFeedsWrong : ChangeSpec := { name := "feedFeeds", fn := fun _ => fun
  | [d1, d2, d3] => { results := [.lit (.bool false)], args := [d1, d2, d3] }
  | _ => none }
def FeedFeedsWrongFalsely : Prop := feedFeedsRow.holds Tryd.pinned (OpenSpec.ofChange feedFeedsWrong)

/-- 'dropperlaw05.FeedReach': WHATEVER THE INPUT: true; the input reads as it did. -/
def feedReachSpec : ChangeSpec := { name := "feedReach", fn := fun _ => fun
  | [d1, d2, d3] => { results := [.lit (.bool true)], args := [d1, d2, d3] }
  | _ => none }
def feedReachRow : OpenClaim := { program := "ytoilhnmdemnknaadoor", sum := "7a200442d79baa7e17aff21c8652e5d8ecf1d2dc5e8954301e97344e8f003ab2", func := "dropper/dropperlaw05.FeedReach", spec := "feedReach", unfollowed := true, recurses := true, named := ["math/bits.deBruijn32tab", "math/bits.deBruijn64tab"], apart := false, laid := [("math/bits.deBruijn32tab", laid_math_bits_deBruijn32tab), ("math/bits.deBruijn64tab", laid_math_bits_deBruijn64tab)] }
def FeedReachSaid : Prop := feedReachRow.holds Tryd.pinned (OpenSpec.ofChange feedReachSpec)

/-- ITS FALSE NEIGHBOUR: 'it returns false'. Refute it at one input. -/
def feedReachWrong : ChangeSpec := { name := "feedReach", fn := fun _ => fun
  | [d1, d2, d3] => { results := [.lit (.bool false)], args := [d1, d2, d3] }
  | _ => none }
def FeedReachWrongFalsely : Prop := feedReachRow.holds Tryd.pinned (OpenSpec.ofChange feedReachWrong)

/- THE SECOND FORM. 'bulk': how many values and letters a reading holds, each counted each time it is reached (what is shared counts as often as it is met; a slice's spare places count too). A statement '..UptoSaid' is the law's where the arguments, and the package variables that the reading takes, are together of bulk at most 1048576: NARROWER than '..Said'. Prove '..Said' where nothing that the law and all that it calls make is longer than what came in: it says more and counts as full. Else prove '..UptoSaid'. A law counts once. -/
mutual
def uptoBulk {H : Type} : DataW H → Nat
  | .lit (.string bytes) => bytes.length + 1
  | .lit _ => 1
  | .nil => 1
  | .ptr d => uptoBulk d + 1
  | .slice elems spare => uptoBulkAll elems + uptoBulkAll spare + 1
  | .agg parts => uptoBulkAll parts + 1
  | .iface _ d => uptoBulk d + 1
  | .map entries => uptoBulkEntries entries + 1
  | .held _ => 1
def uptoBulkAll {H : Type} : List (DataW H) → Nat
  | [] => 0
  | d :: r => uptoBulk d + uptoBulkAll r
def uptoBulkEntries {H : Type} : List (Lit × DataW H) → Nat
  | [] => 0
  | x :: r => uptoBulkEntry x + uptoBulkEntries r
def uptoBulkEntry {H : Type} : Lit × DataW H → Nat
  | (.string bytes, d) => bytes.length + uptoBulk d + 1
  | (_, d) => uptoBulk d + 1
 end
def uptoSmall : (H : Type) → List (DataW H) → Bool := fun _ ds => decide (uptoBulkAll ds ≤ 1048576)
def OpenSpec.upto (s : _root_.Go.ChangeSpec) : _root_.Go.OpenSpec := { _root_.Go.OpenSpec.ofChange s with cond := some uptoSmall }

/-- 'dropperlaw05.FeedLive', WHERE WHAT IT READS IS OF BULK AT MOST 1048576: true; the input reads as it did. -/
def feedLiveUptoRow : OpenClaim := { program := "ytoilhnmdemnknaadoor", sum := "7a200442d79baa7e17aff21c8652e5d8ecf1d2dc5e8954301e97344e8f003ab2", func := "dropper/dropperlaw05.FeedLive", spec := "feedLive", unfollowed := true, recurses := true, named := ["math/bits.deBruijn32tab", "math/bits.deBruijn64tab"], apart := false, laid := [("math/bits.deBruijn32tab", laid_math_bits_deBruijn32tab), ("math/bits.deBruijn64tab", laid_math_bits_deBruijn64tab)], narrowed := true }
def FeedLiveUptoSaid : Prop := feedLiveUptoRow.holds Tryd.pinned (OpenSpec.upto feedLiveSpec)

/-- 'dropperlaw05.FeedMore', WHERE WHAT IT READS IS OF BULK AT MOST 1048576: true; the input reads as it did. -/
def feedMoreUptoRow : OpenClaim := { program := "ytoilhnmdemnknaadoor", sum := "7a200442d79baa7e17aff21c8652e5d8ecf1d2dc5e8954301e97344e8f003ab2", func := "dropper/dropperlaw05.FeedMore", spec := "feedMore", unfollowed := true, recurses := true, named := ["math/bits.deBruijn32tab", "math/bits.deBruijn64tab"], apart := false, laid := [("math/bits.deBruijn32tab", laid_math_bits_deBruijn32tab), ("math/bits.deBruijn64tab", laid_math_bits_deBruijn64tab)], narrowed := true }
def FeedMoreUptoSaid : Prop := feedMoreUptoRow.holds Tryd.pinned (OpenSpec.upto feedMoreSpec)

/-- 'dropperlaw05.FeedIsolates', WHERE WHAT IT READS IS OF BULK AT MOST 1048576: true; the input reads as it did. -/
def feedIsolatesUptoRow : OpenClaim := { program := "ytoilhnmdemnknaadoor", sum := "7a200442d79baa7e17aff21c8652e5d8ecf1d2dc5e8954301e97344e8f003ab2", func := "dropper/dropperlaw05.FeedIsolates", spec := "feedIsolates", unfollowed := true, recurses := true, named := ["math/bits.deBruijn32tab", "math/bits.deBruijn64tab"], apart := false, laid := [("math/bits.deBruijn32tab", laid_math_bits_deBruijn32tab), ("math/bits.deBruijn64tab", laid_math_bits_deBruijn64tab)], narrowed := true }
def FeedIsolatesUptoSaid : Prop := feedIsolatesUptoRow.holds Tryd.pinned (OpenSpec.upto feedIsolatesSpec)

/-- 'dropperlaw05.FeedJoined', WHERE WHAT IT READS IS OF BULK AT MOST 1048576: true; the input reads as it did. -/
def feedJoinedUptoRow : OpenClaim := { program := "ytoilhnmdemnknaadoor", sum := "7a200442d79baa7e17aff21c8652e5d8ecf1d2dc5e8954301e97344e8f003ab2", func := "dropper/dropperlaw05.FeedJoined", spec := "feedJoined", unfollowed := true, recurses := true, named := ["math/bits.deBruijn32tab", "math/bits.deBruijn64tab"], apart := false, laid := [("math/bits.deBruijn32tab", laid_math_bits_deBruijn32tab), ("math/bits.deBruijn64tab", laid_math_bits_deBruijn64tab)], narrowed := true }
def FeedJoinedUptoSaid : Prop := feedJoinedUptoRow.holds Tryd.pinned (OpenSpec.upto feedJoinedSpec)

/-- 'dropperlaw05.FeedIsOrder', WHERE WHAT IT READS IS OF BULK AT MOST 1048576: true; the input reads as it did. -/
def feedIsOrderUptoRow : OpenClaim := { program := "ytoilhnmdemnknaadoor", sum := "7a200442d79baa7e17aff21c8652e5d8ecf1d2dc5e8954301e97344e8f003ab2", func := "dropper/dropperlaw05.FeedIsOrder", spec := "feedIsOrder", unfollowed := true, recurses := true, named := ["math/bits.deBruijn32tab", "math/bits.deBruijn64tab"], apart := false, laid := [("math/bits.deBruijn32tab", laid_math_bits_deBruijn32tab), ("math/bits.deBruijn64tab", laid_math_bits_deBruijn64tab)], narrowed := true }
def FeedIsOrderUptoSaid : Prop := feedIsOrderUptoRow.holds Tryd.pinned (OpenSpec.upto feedIsOrderSpec)

/-- 'dropperlaw05.FeedOrders', WHERE WHAT IT READS IS OF BULK AT MOST 1048576: true; the input reads as it did. -/
def feedOrdersUptoRow : OpenClaim := { program := "ytoilhnmdemnknaadoor", sum := "7a200442d79baa7e17aff21c8652e5d8ecf1d2dc5e8954301e97344e8f003ab2", func := "dropper/dropperlaw05.FeedOrders", spec := "feedOrders", unfollowed := true, recurses := true, named := ["math/bits.deBruijn32tab", "math/bits.deBruijn64tab"], apart := false, laid := [("math/bits.deBruijn32tab", laid_math_bits_deBruijn32tab), ("math/bits.deBruijn64tab", laid_math_bits_deBruijn64tab)], narrowed := true }
def FeedOrdersUptoSaid : Prop := feedOrdersUptoRow.holds Tryd.pinned (OpenSpec.upto feedOrdersSpec)

/-- 'dropperlaw05.FeedFeeds', WHERE WHAT IT READS IS OF BULK AT MOST 1048576: true; the input reads as it did. -/
def feedFeedsUptoRow : OpenClaim := { program := "ytoilhnmdemnknaadoor", sum := "7a200442d79baa7e17aff21c8652e5d8ecf1d2dc5e8954301e97344e8f003ab2", func := "dropper/dropperlaw05.FeedFeeds", spec := "feedFeeds", unfollowed := true, recurses := true, named := ["math/bits.deBruijn32tab", "math/bits.deBruijn64tab"], apart := false, laid := [("math/bits.deBruijn32tab", laid_math_bits_deBruijn32tab), ("math/bits.deBruijn64tab", laid_math_bits_deBruijn64tab)], narrowed := true }
def FeedFeedsUptoSaid : Prop := feedFeedsUptoRow.holds Tryd.pinned (OpenSpec.upto feedFeedsSpec)

/-- 'dropperlaw05.FeedReach', WHERE WHAT IT READS IS OF BULK AT MOST 1048576: true; the input reads as it did. -/
def feedReachUptoRow : OpenClaim := { program := "ytoilhnmdemnknaadoor", sum := "7a200442d79baa7e17aff21c8652e5d8ecf1d2dc5e8954301e97344e8f003ab2", func := "dropper/dropperlaw05.FeedReach", spec := "feedReach", unfollowed := true, recurses := true, named := ["math/bits.deBruijn32tab", "math/bits.deBruijn64tab"], apart := false, laid := [("math/bits.deBruijn32tab", laid_math_bits_deBruijn32tab), ("math/bits.deBruijn64tab", laid_math_bits_deBruijn64tab)], narrowed := true }
def FeedReachUptoSaid : Prop := feedReachUptoRow.holds Tryd.pinned (OpenSpec.upto feedReachSpec)

end Rows
end Go.Proofs.YtoilhnmdemnknaaDoor
