/-
  No cell of these rows narrows 'for every input' (looked for: loops, veiled, ifaces, maps, wideKeys, modest, calm, conditions, laid).
  DERIVED. THE GIVEN ROWS OF THIS SEAT. 11 by the template 'for every input the law returns true; each argument reads behind the call as it read before'; 0 by the template 'total and deterministic' (their statements: YtpdcpekjafcohaaTotals.lean).
  GIVEN WITH THE SEED: the statements are not yours to turn. If you find one false, say at which input.
  Laid BY PROGRAM, IN A SANDBOX (cutbox-rows.mjs): the forced cells as the released guide's own fill.sh prints them over the translation 6def0dc9d4e44060… (all of the seat's roots in one cut). By AI agents, Wed Nov 11 2026. No macro, syntax, notation, axiom, sorry.
-/
import Derived.Test.YtpdcpekjafcohaaChecked
import GoSem.Claim
import GoSem.ClaimJoined
import GoSem.ClaimMapViews
import Derived.JoinedTies
import Derived.KernelRfl
namespace Go.Proofs.Ytpdcpekjafcohaa
/- THE CELL 'sum', in the pinned program and in every row, IS THE sha256 OF THE DUMP (.gsa) THAT YtpdcpekjafcohaaProg.lean LOADS. Nothing in Lean hashes anything: it is a label: what it is worth is what the hold of that sum in a sandbox is worth. -/
noncomputable def Try.pinned : Pinned := { name := "ytpdcpekjafcohaa", sum := "6def0dc9d4e44060e514f8b0b54cde8c6cf93399e73758dbe18735ab1487f18e", checked := Try.checked }
namespace Rows
def none {H : Type} : Left H := { results := [], args := [] }

/-- 'dropperlaw07.WearMedians': WHATEVER THE INPUT: true; the input reads as it did. -/
def wearMediansSpec : ChangeSpec := { name := "wearMedians", fn := fun _ => fun
  | [d1, d2] => { results := [.lit (.bool true)], args := [d1, d2] }
  | _ => none }
def wearMediansRow : OpenClaim := { program := "ytpdcpekjafcohaa", sum := "6def0dc9d4e44060e514f8b0b54cde8c6cf93399e73758dbe18735ab1487f18e", func := "dropper/dropperlaw07.WearMedians", spec := "wearMedians", unfollowed := true, recurses := true, apart := false }
def WearMediansSaid : Prop := wearMediansRow.holds Try.pinned (OpenSpec.ofChange wearMediansSpec)

/-- ITS FALSE NEIGHBOUR: 'it returns false'. Refute it at one input. -/
def wearMediansWrong : ChangeSpec := { name := "wearMedians", fn := fun _ => fun
  | [d1, d2] => { results := [.lit (.bool false)], args := [d1, d2] }
  | _ => none }
def WearMediansWrongFalsely : Prop := wearMediansRow.holds Try.pinned (OpenSpec.ofChange wearMediansWrong)

/-- 'dropperlaw07.WearOrder': WHATEVER THE INPUT: true; the input reads as it did. -/
def wearOrderSpec : ChangeSpec := { name := "wearOrder", fn := fun _ => fun
  | [d1, d2] => { results := [.lit (.bool true)], args := [d1, d2] }
  | _ => none }
def wearOrderRow : OpenClaim := { program := "ytpdcpekjafcohaa", sum := "6def0dc9d4e44060e514f8b0b54cde8c6cf93399e73758dbe18735ab1487f18e", func := "dropper/dropperlaw07.WearOrder", spec := "wearOrder", unfollowed := true, recurses := true, apart := false }
def WearOrderSaid : Prop := wearOrderRow.holds Try.pinned (OpenSpec.ofChange wearOrderSpec)

/-- ITS FALSE NEIGHBOUR: 'it returns false'. Refute it at one input. -/
def wearOrderWrong : ChangeSpec := { name := "wearOrder", fn := fun _ => fun
  | [d1, d2] => { results := [.lit (.bool false)], args := [d1, d2] }
  | _ => none }
def WearOrderWrongFalsely : Prop := wearOrderRow.holds Try.pinned (OpenSpec.ofChange wearOrderWrong)

/-- 'dropperlaw07.WearMiddles': WHATEVER THE INPUT: true; the input reads as it did. -/
def wearMiddlesSpec : ChangeSpec := { name := "wearMiddles", fn := fun _ => fun
  | [d1, d2] => { results := [.lit (.bool true)], args := [d1, d2] }
  | _ => none }
def wearMiddlesRow : OpenClaim := { program := "ytpdcpekjafcohaa", sum := "6def0dc9d4e44060e514f8b0b54cde8c6cf93399e73758dbe18735ab1487f18e", func := "dropper/dropperlaw07.WearMiddles", spec := "wearMiddles", unfollowed := true, recurses := true, apart := false }
def WearMiddlesSaid : Prop := wearMiddlesRow.holds Try.pinned (OpenSpec.ofChange wearMiddlesSpec)

/-- ITS FALSE NEIGHBOUR: 'it returns false'. Refute it at one input. -/
def wearMiddlesWrong : ChangeSpec := { name := "wearMiddles", fn := fun _ => fun
  | [d1, d2] => { results := [.lit (.bool false)], args := [d1, d2] }
  | _ => none }
def WearMiddlesWrongFalsely : Prop := wearMiddlesRow.holds Try.pinned (OpenSpec.ofChange wearMiddlesWrong)

/-- 'dropperlaw07.WearNearest': WHATEVER THE INPUT: true; the input reads as it did. -/
def wearNearestSpec : ChangeSpec := { name := "wearNearest", fn := fun _ => fun
  | [d] => { results := [.lit (.bool true)], args := [d] }
  | _ => none }
def wearNearestRow : OpenClaim := { program := "ytpdcpekjafcohaa", sum := "6def0dc9d4e44060e514f8b0b54cde8c6cf93399e73758dbe18735ab1487f18e", func := "dropper/dropperlaw07.WearNearest", spec := "wearNearest", unfollowed := true, recurses := true, apart := false }
def WearNearestSaid : Prop := wearNearestRow.holds Try.pinned (OpenSpec.ofChange wearNearestSpec)

/-- ITS FALSE NEIGHBOUR: 'it returns false'. Refute it at one input. -/
def wearNearestWrong : ChangeSpec := { name := "wearNearest", fn := fun _ => fun
  | [d] => { results := [.lit (.bool false)], args := [d] }
  | _ => none }
def WearNearestWrongFalsely : Prop := wearNearestRow.holds Try.pinned (OpenSpec.ofChange wearNearestWrong)

/-- 'dropperlaw07.WearRests': WHATEVER THE INPUT: true; the input reads as it did. -/
def wearRestsSpec : ChangeSpec := { name := "wearRests", fn := fun _ => fun
  | [d1, d2] => { results := [.lit (.bool true)], args := [d1, d2] }
  | _ => none }
def wearRestsRow : OpenClaim := { program := "ytpdcpekjafcohaa", sum := "6def0dc9d4e44060e514f8b0b54cde8c6cf93399e73758dbe18735ab1487f18e", func := "dropper/dropperlaw07.WearRests", spec := "wearRests", unfollowed := true, recurses := true, apart := false }
def WearRestsSaid : Prop := wearRestsRow.holds Try.pinned (OpenSpec.ofChange wearRestsSpec)

/-- ITS FALSE NEIGHBOUR: 'it returns false'. Refute it at one input. -/
def wearRestsWrong : ChangeSpec := { name := "wearRests", fn := fun _ => fun
  | [d1, d2] => { results := [.lit (.bool false)], args := [d1, d2] }
  | _ => none }
def WearRestsWrongFalsely : Prop := wearRestsRow.holds Try.pinned (OpenSpec.ofChange wearRestsWrong)

/-- 'dropperlaw07.WearDue': WHATEVER THE INPUT: true; the input reads as it did. -/
def wearDueSpec : ChangeSpec := { name := "wearDue", fn := fun _ => fun
  | [d1, d2] => { results := [.lit (.bool true)], args := [d1, d2] }
  | _ => none }
def wearDueRow : OpenClaim := { program := "ytpdcpekjafcohaa", sum := "6def0dc9d4e44060e514f8b0b54cde8c6cf93399e73758dbe18735ab1487f18e", func := "dropper/dropperlaw07.WearDue", spec := "wearDue", unfollowed := true, recurses := true, apart := false }
def WearDueSaid : Prop := wearDueRow.holds Try.pinned (OpenSpec.ofChange wearDueSpec)

/-- ITS FALSE NEIGHBOUR: 'it returns false'. Refute it at one input. -/
def wearDueWrong : ChangeSpec := { name := "wearDue", fn := fun _ => fun
  | [d1, d2] => { results := [.lit (.bool false)], args := [d1, d2] }
  | _ => none }
def WearDueWrongFalsely : Prop := wearDueRow.holds Try.pinned (OpenSpec.ofChange wearDueWrong)

/-- 'dropperlaw07.WearSince': WHATEVER THE INPUT: true; the input reads as it did. -/
def wearSinceSpec : ChangeSpec := { name := "wearSince", fn := fun _ => fun
  | [d1, d2, d3] => { results := [.lit (.bool true)], args := [d1, d2, d3] }
  | _ => none }
def wearSinceRow : OpenClaim := { program := "ytpdcpekjafcohaa", sum := "6def0dc9d4e44060e514f8b0b54cde8c6cf93399e73758dbe18735ab1487f18e", func := "dropper/dropperlaw07.WearSince", spec := "wearSince", unfollowed := true, recurses := true, apart := false }
def WearSinceSaid : Prop := wearSinceRow.holds Try.pinned (OpenSpec.ofChange wearSinceSpec)

/-- ITS FALSE NEIGHBOUR: 'it returns false'. Refute it at one input. -/
def wearSinceWrong : ChangeSpec := { name := "wearSince", fn := fun _ => fun
  | [d1, d2, d3] => { results := [.lit (.bool false)], args := [d1, d2, d3] }
  | _ => none }
def WearSinceWrongFalsely : Prop := wearSinceRow.holds Try.pinned (OpenSpec.ofChange wearSinceWrong)

/-- 'dropperlaw07.WearErrors': WHATEVER THE INPUT: true; the input reads as it did. -/
def wearErrorsSpec : ChangeSpec := { name := "wearErrors", fn := fun _ => fun
  | [d1, d2] => { results := [.lit (.bool true)], args := [d1, d2] }
  | _ => none }
def wearErrorsRow : OpenClaim := { program := "ytpdcpekjafcohaa", sum := "6def0dc9d4e44060e514f8b0b54cde8c6cf93399e73758dbe18735ab1487f18e", func := "dropper/dropperlaw07.WearErrors", spec := "wearErrors", unfollowed := true, recurses := true, apart := false }
def WearErrorsSaid : Prop := wearErrorsRow.holds Try.pinned (OpenSpec.ofChange wearErrorsSpec)

/-- ITS FALSE NEIGHBOUR: 'it returns false'. Refute it at one input. -/
def wearErrorsWrong : ChangeSpec := { name := "wearErrors", fn := fun _ => fun
  | [d1, d2] => { results := [.lit (.bool false)], args := [d1, d2] }
  | _ => none }
def WearErrorsWrongFalsely : Prop := wearErrorsRow.holds Try.pinned (OpenSpec.ofChange wearErrorsWrong)

/-- 'dropperlaw07.WearPasses': WHATEVER THE INPUT: true; the input reads as it did. -/
def wearPassesSpec : ChangeSpec := { name := "wearPasses", fn := fun _ => fun
  | [d1, d2] => { results := [.lit (.bool true)], args := [d1, d2] }
  | _ => none }
def wearPassesRow : OpenClaim := { program := "ytpdcpekjafcohaa", sum := "6def0dc9d4e44060e514f8b0b54cde8c6cf93399e73758dbe18735ab1487f18e", func := "dropper/dropperlaw07.WearPasses", spec := "wearPasses", unfollowed := true, recurses := true, apart := false }
def WearPassesSaid : Prop := wearPassesRow.holds Try.pinned (OpenSpec.ofChange wearPassesSpec)

/-- ITS FALSE NEIGHBOUR: 'it returns false'. Refute it at one input. -/
def wearPassesWrong : ChangeSpec := { name := "wearPasses", fn := fun _ => fun
  | [d1, d2] => { results := [.lit (.bool false)], args := [d1, d2] }
  | _ => none }
def WearPassesWrongFalsely : Prop := wearPassesRow.holds Try.pinned (OpenSpec.ofChange wearPassesWrong)

/-- 'dropperlaw07.WearMeans': WHATEVER THE INPUT: true; the input reads as it did. -/
def wearMeansSpec : ChangeSpec := { name := "wearMeans", fn := fun _ => fun
  | [d1, d2, d3] => { results := [.lit (.bool true)], args := [d1, d2, d3] }
  | _ => none }
def wearMeansRow : OpenClaim := { program := "ytpdcpekjafcohaa", sum := "6def0dc9d4e44060e514f8b0b54cde8c6cf93399e73758dbe18735ab1487f18e", func := "dropper/dropperlaw07.WearMeans", spec := "wearMeans", unfollowed := true, recurses := true, apart := false }
def WearMeansSaid : Prop := wearMeansRow.holds Try.pinned (OpenSpec.ofChange wearMeansSpec)

/-- ITS FALSE NEIGHBOUR: 'it returns false'. Refute it at one input. -/
def wearMeansWrong : ChangeSpec := { name := "wearMeans", fn := fun _ => fun
  | [d1, d2, d3] => { results := [.lit (.bool false)], args := [d1, d2, d3] }
  | _ => none }
def WearMeansWrongFalsely : Prop := wearMeansRow.holds Try.pinned (OpenSpec.ofChange wearMeansWrong)

/-- 'dropperlaw07.WearTotals': WHATEVER THE INPUT: true; the input reads as it did. -/
def wearTotalsSpec : ChangeSpec := { name := "wearTotals", fn := fun _ => fun
  | [d1, d2] => { results := [.lit (.bool true)], args := [d1, d2] }
  | _ => none }
def wearTotalsRow : OpenClaim := { program := "ytpdcpekjafcohaa", sum := "6def0dc9d4e44060e514f8b0b54cde8c6cf93399e73758dbe18735ab1487f18e", func := "dropper/dropperlaw07.WearTotals", spec := "wearTotals", unfollowed := true, recurses := true, apart := false }
def WearTotalsSaid : Prop := wearTotalsRow.holds Try.pinned (OpenSpec.ofChange wearTotalsSpec)

/-- ITS FALSE NEIGHBOUR: 'it returns false'. Refute it at one input. -/
def wearTotalsWrong : ChangeSpec := { name := "wearTotals", fn := fun _ => fun
  | [d1, d2] => { results := [.lit (.bool false)], args := [d1, d2] }
  | _ => none }
def WearTotalsWrongFalsely : Prop := wearTotalsRow.holds Try.pinned (OpenSpec.ofChange wearTotalsWrong)

/- THE SECOND FORM. 'bulk': how many values and letters a reading holds, each counted each time it is reached (what is shared counts as often as it is met; a slice's spare places count too). A statement '..UptoSaid' is the law's where the arguments, and the package variables that the reading takes, are together of bulk at most 1048576: NARROWER than '..Said'. Prove '..Said' where nothing that the law and all that it calls make is longer than what came in: it says more and counts as full. Else prove '..UptoSaid'. A law counts once. -/
mutual
def uptoBulk {H : Type} : DataW H → Nat
  | .lit (.string bytes) => bytes.length + 1
  | .lit _ => 1
  | .nil => 1
  | .ptr d => uptoBulk d + 1
  | .slice elems spare => uptoBulkAll elems + uptoBulkAll spare + 1
  | .agg parts => uptoBulkAll parts + 1
  | .iface _ d => uptoBulk d + 1
  | .map entries => uptoBulkEntries entries + 1
  | .held _ => 1
def uptoBulkAll {H : Type} : List (DataW H) → Nat
  | [] => 0
  | d :: r => uptoBulk d + uptoBulkAll r
def uptoBulkEntries {H : Type} : List (Lit × DataW H) → Nat
  | [] => 0
  | x :: r => uptoBulkEntry x + uptoBulkEntries r
def uptoBulkEntry {H : Type} : Lit × DataW H → Nat
  | (.string bytes, d) => bytes.length + uptoBulk d + 1
  | (_, d) => uptoBulk d + 1
 end
def uptoSmall : (H : Type) → List (DataW H) → Bool := fun _ ds => decide (uptoBulkAll ds ≤ 1048576)
def OpenSpec.upto (s : _root_.Go.ChangeSpec) : _root_.Go.OpenSpec := { _root_.Go.OpenSpec.ofChange s with cond := some uptoSmall }

/-- 'dropperlaw07.WearMedians', WHERE WHAT IT READS IS OF BULK AT MOST 1048576: true; the input reads as it did. -/
def wearMediansUptoRow : OpenClaim := { program := "ytpdcpekjafcohaa", sum := "6def0dc9d4e44060e514f8b0b54cde8c6cf93399e73758dbe18735ab1487f18e", func := "dropper/dropperlaw07.WearMedians", spec := "wearMedians", unfollowed := true, recurses := true, apart := false, narrowed := true }
def WearMediansUptoSaid : Prop := wearMediansUptoRow.holds Try.pinned (OpenSpec.upto wearMediansSpec)

/-- 'dropperlaw07.WearOrder', WHERE WHAT IT READS IS OF BULK AT MOST 1048576: true; the input reads as it did. -/
def wearOrderUptoRow : OpenClaim := { program := "ytpdcpekjafcohaa", sum := "6def0dc9d4e44060e514f8b0b54cde8c6cf93399e73758dbe18735ab1487f18e", func := "dropper/dropperlaw07.WearOrder", spec := "wearOrder", unfollowed := true, recurses := true, apart := false, narrowed := true }
def WearOrderUptoSaid : Prop := wearOrderUptoRow.holds Try.pinned (OpenSpec.upto wearOrderSpec)

/-- 'dropperlaw07.WearMiddles', WHERE WHAT IT READS IS OF BULK AT MOST 1048576: true; the input reads as it did. -/
def wearMiddlesUptoRow : OpenClaim := { program := "ytpdcpekjafcohaa", sum := "6def0dc9d4e44060e514f8b0b54cde8c6cf93399e73758dbe18735ab1487f18e", func := "dropper/dropperlaw07.WearMiddles", spec := "wearMiddles", unfollowed := true, recurses := true, apart := false, narrowed := true }
def WearMiddlesUptoSaid : Prop := wearMiddlesUptoRow.holds Try.pinned (OpenSpec.upto wearMiddlesSpec)

/-- 'dropperlaw07.WearNearest', WHERE WHAT IT READS IS OF BULK AT MOST 1048576: true; the input reads as it did. -/
def wearNearestUptoRow : OpenClaim := { program := "ytpdcpekjafcohaa", sum := "6def0dc9d4e44060e514f8b0b54cde8c6cf93399e73758dbe18735ab1487f18e", func := "dropper/dropperlaw07.WearNearest", spec := "wearNearest", unfollowed := true, recurses := true, apart := false, narrowed := true }
def WearNearestUptoSaid : Prop := wearNearestUptoRow.holds Try.pinned (OpenSpec.upto wearNearestSpec)

/-- 'dropperlaw07.WearRests', WHERE WHAT IT READS IS OF BULK AT MOST 1048576: true; the input reads as it did. -/
def wearRestsUptoRow : OpenClaim := { program := "ytpdcpekjafcohaa", sum := "6def0dc9d4e44060e514f8b0b54cde8c6cf93399e73758dbe18735ab1487f18e", func := "dropper/dropperlaw07.WearRests", spec := "wearRests", unfollowed := true, recurses := true, apart := false, narrowed := true }
def WearRestsUptoSaid : Prop := wearRestsUptoRow.holds Try.pinned (OpenSpec.upto wearRestsSpec)

/-- 'dropperlaw07.WearDue', WHERE WHAT IT READS IS OF BULK AT MOST 1048576: true; the input reads as it did. -/
def wearDueUptoRow : OpenClaim := { program := "ytpdcpekjafcohaa", sum := "6def0dc9d4e44060e514f8b0b54cde8c6cf93399e73758dbe18735ab1487f18e", func := "dropper/dropperlaw07.WearDue", spec := "wearDue", unfollowed := true, recurses := true, apart := false, narrowed := true }
def WearDueUptoSaid : Prop := wearDueUptoRow.holds Try.pinned (OpenSpec.upto wearDueSpec)

/-- 'dropperlaw07.WearSince', WHERE WHAT IT READS IS OF BULK AT MOST 1048576: true; the input reads as it did. -/
def wearSinceUptoRow : OpenClaim := { program := "ytpdcpekjafcohaa", sum := "6def0dc9d4e44060e514f8b0b54cde8c6cf93399e73758dbe18735ab1487f18e", func := "dropper/dropperlaw07.WearSince", spec := "wearSince", unfollowed := true, recurses := true, apart := false, narrowed := true }
def WearSinceUptoSaid : Prop := wearSinceUptoRow.holds Try.pinned (OpenSpec.upto wearSinceSpec)

/-- 'dropperlaw07.WearErrors', WHERE WHAT IT READS IS OF BULK AT MOST 1048576: true; the input reads as it did. -/
def wearErrorsUptoRow : OpenClaim := { program := "ytpdcpekjafcohaa", sum := "6def0dc9d4e44060e514f8b0b54cde8c6cf93399e73758dbe18735ab1487f18e", func := "dropper/dropperlaw07.WearErrors", spec := "wearErrors", unfollowed := true, recurses := true, apart := false, narrowed := true }
def WearErrorsUptoSaid : Prop := wearErrorsUptoRow.holds Try.pinned (OpenSpec.upto wearErrorsSpec)

/-- 'dropperlaw07.WearPasses', WHERE WHAT IT READS IS OF BULK AT MOST 1048576: true; the input reads as it did. -/
def wearPassesUptoRow : OpenClaim := { program := "ytpdcpekjafcohaa", sum := "6def0dc9d4e44060e514f8b0b54cde8c6cf93399e73758dbe18735ab1487f18e", func := "dropper/dropperlaw07.WearPasses", spec := "wearPasses", unfollowed := true, recurses := true, apart := false, narrowed := true }
def WearPassesUptoSaid : Prop := wearPassesUptoRow.holds Try.pinned (OpenSpec.upto wearPassesSpec)

/-- 'dropperlaw07.WearMeans', WHERE WHAT IT READS IS OF BULK AT MOST 1048576: true; the input reads as it did. -/
def wearMeansUptoRow : OpenClaim := { program := "ytpdcpekjafcohaa", sum := "6def0dc9d4e44060e514f8b0b54cde8c6cf93399e73758dbe18735ab1487f18e", func := "dropper/dropperlaw07.WearMeans", spec := "wearMeans", unfollowed := true, recurses := true, apart := false, narrowed := true }
def WearMeansUptoSaid : Prop := wearMeansUptoRow.holds Try.pinned (OpenSpec.upto wearMeansSpec)

/-- 'dropperlaw07.WearTotals', WHERE WHAT IT READS IS OF BULK AT MOST 1048576: true; the input reads as it did. -/
def wearTotalsUptoRow : OpenClaim := { program := "ytpdcpekjafcohaa", sum := "6def0dc9d4e44060e514f8b0b54cde8c6cf93399e73758dbe18735ab1487f18e", func := "dropper/dropperlaw07.WearTotals", spec := "wearTotals", unfollowed := true, recurses := true, apart := false, narrowed := true }
def WearTotalsUptoSaid : Prop := wearTotalsUptoRow.holds Try.pinned (OpenSpec.upto wearTotalsSpec)

end Rows
end Go.Proofs.Ytpdcpekjafcohaa
