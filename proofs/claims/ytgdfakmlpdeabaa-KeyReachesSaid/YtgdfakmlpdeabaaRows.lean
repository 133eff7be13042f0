/-
  No cell of these rows narrows 'for every input' (looked for: loops, veiled, ifaces, maps, wideKeys, modest, calm, conditions, laid).
  DERIVED. THE GIVEN ROWS OF THIS SEAT. 9 by the template 'for every input the law returns true; each argument reads behind the call as it read before'; 0 by the template 'total and deterministic' (their statements: YtgdfakmlpdeabaaTotals.lean).
  GIVEN WITH THE SEED: the statements are not yours to turn. If you find one false, say at which input.
  Laid BY PROGRAM, IN A SANDBOX (cutbox-rows.mjs): the forced cells as the released guide's own fill.sh prints them over the translation 87cc41812ff9f736… (all of the seat's roots in one cut). By AI agents, Wed Nov 11 2026. No macro, syntax, notation, axiom, sorry.
-/
import Derived.Test.YtgdfakmlpdeabaaChecked
import GoSem.Claim
import GoSem.ClaimJoined
import GoSem.ClaimMapViews
import Derived.JoinedTies
import Derived.KernelRfl
namespace Go.Proofs.Ytgdfakmlpdeabaa
/- THE CELL 'sum', in the pinned program and in every row, IS THE sha256 OF THE DUMP (.gsa) THAT YtgdfakmlpdeabaaProg.lean LOADS. Nothing in Lean hashes anything: it is a label: what it is worth is what the hold of that sum in a sandbox is worth. -/
noncomputable def Try.pinned : Pinned := { name := "ytgdfakmlpdeabaa", sum := "87cc41812ff9f7368f770acf01738f12bfd4d129e52f1e686829928d1d1ec22c", checked := Try.checked }
namespace Rows
def none {H : Type} : Left H := { results := [], args := [] }

/-- 'droppertop.TopKeys': WHATEVER THE INPUT: true; the input reads as it did. -/
def topKeysSpec : ChangeSpec := { name := "topKeys", fn := fun _ => fun
  | [d1, d2, d3] => { results := [.lit (.bool true)], args := [d1, d2, d3] }
  | _ => none }
def topKeysRow : OpenClaim := { program := "ytgdfakmlpdeabaa", sum := "87cc41812ff9f7368f770acf01738f12bfd4d129e52f1e686829928d1d1ec22c", func := "dropper/droppertop.TopKeys", spec := "topKeys", unfollowed := true, recurses := true, plainKeys := false, apart := false }
def TopKeysSaid : Prop := topKeysRow.holds Try.pinned (OpenSpec.ofChange topKeysSpec)

/-- ITS FALSE NEIGHBOUR: 'it returns false'. Refute it at one input. -/
def topKeysWrong : ChangeSpec := { name := "topKeys", fn := fun _ => fun
  | [d1, d2, d3] => { results := [.lit (.bool false)], args := [d1, d2, d3] }
  | _ => none }
def TopKeysWrongFalsely : Prop := topKeysRow.holds Try.pinned (OpenSpec.ofChange topKeysWrong)

/-- 'dropperlaw06.KeyHolds': WHATEVER THE INPUT: true; the input reads as it did. -/
def keyHoldsSpec : ChangeSpec := { name := "keyHolds", fn := fun _ => fun
  | [d1, d2, d3] => { results := [.lit (.bool true)], args := [d1, d2, d3] }
  | _ => none }
def keyHoldsRow : OpenClaim := { program := "ytgdfakmlpdeabaa", sum := "87cc41812ff9f7368f770acf01738f12bfd4d129e52f1e686829928d1d1ec22c", func := "dropper/dropperlaw06.KeyHolds", spec := "keyHolds", unfollowed := true, recurses := true, plainKeys := false, apart := false }
def KeyHoldsSaid : Prop := keyHoldsRow.holds Try.pinned (OpenSpec.ofChange keyHoldsSpec)

/-- ITS FALSE NEIGHBOUR: 'it returns false'. Refute it at one input. -/
def keyHoldsWrong : ChangeSpec := { name := "keyHolds", fn := fun _ => fun
  | [d1, d2, d3] => { results := [.lit (.bool false)], args := [d1, d2, d3] }
  | _ => none }
def KeyHoldsWrongFalsely : Prop := keyHoldsRow.holds Try.pinned (OpenSpec.ofChange keyHoldsWrong)

/-- 'dropperlaw06.KeyReaches': WHATEVER THE INPUT: true; the input reads as it did. -/
def keyReachesSpec : ChangeSpec := { name := "keyReaches", fn := fun _ => fun
  | [d1, d2] => { results := [.lit (.bool true)], args := [d1, d2] }
  | _ => none }
def keyReachesRow : OpenClaim := { program := "ytgdfakmlpdeabaa", sum := "87cc41812ff9f7368f770acf01738f12bfd4d129e52f1e686829928d1d1ec22c", func := "dropper/dropperlaw06.KeyReaches", spec := "keyReaches", unfollowed := true, recurses := true, plainKeys := false, apart := false }
def KeyReachesSaid : Prop := keyReachesRow.holds Try.pinned (OpenSpec.ofChange keyReachesSpec)

/-- ITS FALSE NEIGHBOUR: 'it returns false'. Refute it at one input. -/
def keyReachesWrong : ChangeSpec := { name := "keyReaches", fn := fun _ => fun
  | [d1, d2] => { results := [.lit (.bool false)], args := [d1, d2] }
  | _ => none }
def KeyReachesWrongFalsely : Prop := keyReachesRow.holds Try.pinned (OpenSpec.ofChange keyReachesWrong)

/-- 'dropperlaw06.KeyTurns': WHATEVER THE INPUT: true; the input reads as it did. -/
def keyTurnsSpec : ChangeSpec := { name := "keyTurns", fn := fun _ => fun
  | [d1, d2] => { results := [.lit (.bool true)], args := [d1, d2] }
  | _ => none }
def keyTurnsRow : OpenClaim := { program := "ytgdfakmlpdeabaa", sum := "87cc41812ff9f7368f770acf01738f12bfd4d129e52f1e686829928d1d1ec22c", func := "dropper/dropperlaw06.KeyTurns", spec := "keyTurns", unfollowed := true, recurses := true, plainKeys := false, apart := false }
def KeyTurnsSaid : Prop := keyTurnsRow.holds Try.pinned (OpenSpec.ofChange keyTurnsSpec)

/-- ITS FALSE NEIGHBOUR: 'it returns false'. Refute it at one input. -/
def keyTurnsWrong : ChangeSpec := { name := "keyTurns", fn := fun _ => fun
  | [d1, d2] => { results := [.lit (.bool false)], args := [d1, d2] }
  | _ => none }
def KeyTurnsWrongFalsely : Prop := keyTurnsRow.holds Try.pinned (OpenSpec.ofChange keyTurnsWrong)

/-- 'dropperlaw06.KeyCans': WHATEVER THE INPUT: true; the input reads as it did. -/
def keyCansSpec : ChangeSpec := { name := "keyCans", fn := fun _ => fun
  | [d1, d2, d3] => { results := [.lit (.bool true)], args := [d1, d2, d3] }
  | _ => none }
def keyCansRow : OpenClaim := { program := "ytgdfakmlpdeabaa", sum := "87cc41812ff9f7368f770acf01738f12bfd4d129e52f1e686829928d1d1ec22c", func := "dropper/dropperlaw06.KeyCans", spec := "keyCans", unfollowed := true, recurses := true, plainKeys := false, apart := false }
def KeyCansSaid : Prop := keyCansRow.holds Try.pinned (OpenSpec.ofChange keyCansSpec)

/-- ITS FALSE NEIGHBOUR: 'it returns false'. Refute it at one input. -/
def keyCansWrong : ChangeSpec := { name := "keyCans", fn := fun _ => fun
  | [d1, d2, d3] => { results := [.lit (.bool false)], args := [d1, d2, d3] }
  | _ => none }
def KeyCansWrongFalsely : Prop := keyCansRow.holds Try.pinned (OpenSpec.ofChange keyCansWrong)

/-- 'dropperlaw06.KeyPlays': WHATEVER THE INPUT: true; the input reads as it did. -/
def keyPlaysSpec : ChangeSpec := { name := "keyPlays", fn := fun _ => fun
  | [d1, d2, d3] => { results := [.lit (.bool true)], args := [d1, d2, d3] }
  | _ => none }
def keyPlaysRow : OpenClaim := { program := "ytgdfakmlpdeabaa", sum := "87cc41812ff9f7368f770acf01738f12bfd4d129e52f1e686829928d1d1ec22c", func := "dropper/dropperlaw06.KeyPlays", spec := "keyPlays", unfollowed := true, recurses := true, plainKeys := false, apart := false }
def KeyPlaysSaid : Prop := keyPlaysRow.holds Try.pinned (OpenSpec.ofChange keyPlaysSpec)

/-- ITS FALSE NEIGHBOUR: 'it returns false'. Refute it at one input. -/
def keyPlaysWrong : ChangeSpec := { name := "keyPlays", fn := fun _ => fun
  | [d1, d2, d3] => { results := [.lit (.bool false)], args := [d1, d2, d3] }
  | _ => none }
def KeyPlaysWrongFalsely : Prop := keyPlaysRow.holds Try.pinned (OpenSpec.ofChange keyPlaysWrong)

/-- 'dropperlaw06.KeyBack': WHATEVER THE INPUT: true; the input reads as it did. -/
def keyBackSpec : ChangeSpec := { name := "keyBack", fn := fun _ => fun
  | [d1, d2, d3] => { results := [.lit (.bool true)], args := [d1, d2, d3] }
  | _ => none }
def keyBackRow : OpenClaim := { program := "ytgdfakmlpdeabaa", sum := "87cc41812ff9f7368f770acf01738f12bfd4d129e52f1e686829928d1d1ec22c", func := "dropper/dropperlaw06.KeyBack", spec := "keyBack", unfollowed := true, recurses := true, plainKeys := false, apart := false }
def KeyBackSaid : Prop := keyBackRow.holds Try.pinned (OpenSpec.ofChange keyBackSpec)

/-- ITS FALSE NEIGHBOUR: 'it returns false'. Refute it at one input. -/
def keyBackWrong : ChangeSpec := { name := "keyBack", fn := fun _ => fun
  | [d1, d2, d3] => { results := [.lit (.bool false)], args := [d1, d2, d3] }
  | _ => none }
def KeyBackWrongFalsely : Prop := keyBackRow.holds Try.pinned (OpenSpec.ofChange keyBackWrong)

/-- 'dropperlaw06.KeyWays': WHATEVER THE INPUT: true; the input reads as it did. -/
def keyWaysSpec : ChangeSpec := { name := "keyWays", fn := fun _ => fun
  | [d1, d2] => { results := [.lit (.bool true)], args := [d1, d2] }
  | _ => none }
def keyWaysRow : OpenClaim := { program := "ytgdfakmlpdeabaa", sum := "87cc41812ff9f7368f770acf01738f12bfd4d129e52f1e686829928d1d1ec22c", func := "dropper/dropperlaw06.KeyWays", spec := "keyWays", unfollowed := true, recurses := true, plainKeys := false, apart := false }
def KeyWaysSaid : Prop := keyWaysRow.holds Try.pinned (OpenSpec.ofChange keyWaysSpec)

/-- ITS FALSE NEIGHBOUR: 'it returns false'. Refute it at one input. -/
def keyWaysWrong : ChangeSpec := { name := "keyWays", fn := fun _ => fun
  | [d1, d2] => { results := [.lit (.bool false)], args := [d1, d2] }
  | _ => none }
def KeyWaysWrongFalsely : Prop := keyWaysRow.holds Try.pinned (OpenSpec.ofChange keyWaysWrong)

/-- 'dropperlaw06.KeyInvariants': WHATEVER THE INPUT: true; the input reads as it did. -/
def keyInvariantsSpec : ChangeSpec := { name := "keyInvariants", fn := fun _ => fun
  | [d] => { results := [.lit (.bool true)], args := [d] }
  | _ => none }
def keyInvariantsRow : OpenClaim := { program := "ytgdfakmlpdeabaa", sum := "87cc41812ff9f7368f770acf01738f12bfd4d129e52f1e686829928d1d1ec22c", func := "dropper/dropperlaw06.KeyInvariants", spec := "keyInvariants", unfollowed := true, recurses := true, plainKeys := false, apart := false }
def KeyInvariantsSaid : Prop := keyInvariantsRow.holds Try.pinned (OpenSpec.ofChange keyInvariantsSpec)

/-- ITS FALSE NEIGHBOUR: 'it returns false'. Refute it at one input. -/
def keyInvariantsWrong : ChangeSpec := { name := "keyInvariants", fn := fun _ => fun
  | [d] => { results := [.lit (.bool false)], args := [d] }
  | _ => none }
def KeyInvariantsWrongFalsely : Prop := keyInvariantsRow.holds Try.pinned (OpenSpec.ofChange keyInvariantsWrong)

/- THE SECOND FORM. 'bulk': how many values and letters a reading holds, each counted each time it is reached (what is shared counts as often as it is met; a slice's spare places count too). A statement '..UptoSaid' is the law's where the arguments, and the package variables that the reading takes, are together of bulk at most 1048576: NARROWER than '..Said'. Prove '..Said' where nothing that the law and all that it calls make is longer than what came in: it says more and counts as full. Else prove '..UptoSaid'. A law counts once. -/
mutual
def uptoBulk {H : Type} : DataW H → Nat
  | .lit (.string bytes) => bytes.length + 1
  | .lit _ => 1
  | .nil => 1
  | .ptr d => uptoBulk d + 1
  | .slice elems spare => uptoBulkAll elems + uptoBulkAll spare + 1
  | .agg parts => uptoBulkAll parts + 1
  | .iface _ d => uptoBulk d + 1
  | .map entries => uptoBulkEntries entries + 1
  | .held _ => 1
def uptoBulkAll {H : Type} : List (DataW H) → Nat
  | [] => 0
  | d :: r => uptoBulk d + uptoBulkAll r
def uptoBulkEntries {H : Type} : List (Lit × DataW H) → Nat
  | [] => 0
  | x :: r => uptoBulkEntry x + uptoBulkEntries r
def uptoBulkEntry {H : Type} : Lit × DataW H → Nat
  | (.string bytes, d) => bytes.length + uptoBulk d + 1
  | (_, d) => uptoBulk d + 1
 end
def uptoSmall : (H : Type) → List (DataW H) → Bool := fun _ ds => decide (uptoBulkAll ds ≤ 1048576)
def OpenSpec.upto (s : _root_.Go.ChangeSpec) : _root_.Go.OpenSpec := { _root_.Go.OpenSpec.ofChange s with cond := some uptoSmall }

/-- 'droppertop.TopKeys', WHERE WHAT IT READS IS OF BULK AT MOST 1048576: true; the input reads as it did. -/
def topKeysUptoRow : OpenClaim := { program := "ytgdfakmlpdeabaa", sum := "87cc41812ff9f7368f770acf01738f12bfd4d129e52f1e686829928d1d1ec22c", func := "dropper/droppertop.TopKeys", spec := "topKeys", unfollowed := true, recurses := true, plainKeys := false, apart := false, narrowed := true }
def TopKeysUptoSaid : Prop := topKeysUptoRow.holds Try.pinned (OpenSpec.upto topKeysSpec)

/-- 'dropperlaw06.KeyHolds', WHERE WHAT IT READS IS OF BULK AT MOST 1048576: true; the input reads as it did. -/
def keyHoldsUptoRow : OpenClaim := { program := "ytgdfakmlpdeabaa", sum := "87cc41812ff9f7368f770acf01738f12bfd4d129e52f1e686829928d1d1ec22c", func := "dropper/dropperlaw06.KeyHolds", spec := "keyHolds", unfollowed := true, recurses := true, plainKeys := false, apart := false, narrowed := true }
def KeyHoldsUptoSaid : Prop := keyHoldsUptoRow.holds Try.pinned (OpenSpec.upto keyHoldsSpec)

/-- 'dropperlaw06.KeyReaches', WHERE WHAT IT READS IS OF BULK AT MOST 1048576: true; the input reads as it did. -/
def keyReachesUptoRow : OpenClaim := { program := "ytgdfakmlpdeabaa", sum := "87cc41812ff9f7368f770acf01738f12bfd4d129e52f1e686829928d1d1ec22c", func := "dropper/dropperlaw06.KeyReaches", spec := "keyReaches", unfollowed := true, recurses := true, plainKeys := false, apart := false, narrowed := true }
def KeyReachesUptoSaid : Prop := keyReachesUptoRow.holds Try.pinned (OpenSpec.upto keyReachesSpec)

/-- 'dropperlaw06.KeyTurns', WHERE WHAT IT READS IS OF BULK AT MOST 1048576: true; the input reads as it did. -/
def keyTurnsUptoRow : OpenClaim := { program := "ytgdfakmlpdeabaa", sum := "87cc41812ff9f7368f770acf01738f12bfd4d129e52f1e686829928d1d1ec22c", func := "dropper/dropperlaw06.KeyTurns", spec := "keyTurns", unfollowed := true, recurses := true, plainKeys := false, apart := false, narrowed := true }
def KeyTurnsUptoSaid : Prop := keyTurnsUptoRow.holds Try.pinned (OpenSpec.upto keyTurnsSpec)

/-- 'dropperlaw06.KeyCans', WHERE WHAT IT READS IS OF BULK AT MOST 1048576: true; the input reads as it did. -/
def keyCansUptoRow : OpenClaim := { program := "ytgdfakmlpdeabaa", sum := "87cc41812ff9f7368f770acf01738f12bfd4d129e52f1e686829928d1d1ec22c", func := "dropper/dropperlaw06.KeyCans", spec := "keyCans", unfollowed := true, recurses := true, plainKeys := false, apart := false, narrowed := true }
def KeyCansUptoSaid : Prop := keyCansUptoRow.holds Try.pinned (OpenSpec.upto keyCansSpec)

/-- 'dropperlaw06.KeyPlays', WHERE WHAT IT READS IS OF BULK AT MOST 1048576: true; the input reads as it did. -/
def keyPlaysUptoRow : OpenClaim := { program := "ytgdfakmlpdeabaa", sum := "87cc41812ff9f7368f770acf01738f12bfd4d129e52f1e686829928d1d1ec22c", func := "dropper/dropperlaw06.KeyPlays", spec := "keyPlays", unfollowed := true, recurses := true, plainKeys := false, apart := false, narrowed := true }
def KeyPlaysUptoSaid : Prop := keyPlaysUptoRow.holds Try.pinned (OpenSpec.upto keyPlaysSpec)

/-- 'dropperlaw06.KeyBack', WHERE WHAT IT READS IS OF BULK AT MOST 1048576: true; the input reads as it did. -/
def keyBackUptoRow : OpenClaim := { program := "ytgdfakmlpdeabaa", sum := "87cc41812ff9f7368f770acf01738f12bfd4d129e52f1e686829928d1d1ec22c", func := "dropper/dropperlaw06.KeyBack", spec := "keyBack", unfollowed := true, recurses := true, plainKeys := false, apart := false, narrowed := true }
def KeyBackUptoSaid : Prop := keyBackUptoRow.holds Try.pinned (OpenSpec.upto keyBackSpec)

/-- 'dropperlaw06.KeyWays', WHERE WHAT IT READS IS OF BULK AT MOST 1048576: true; the input reads as it did. -/
def keyWaysUptoRow : OpenClaim := { program := "ytgdfakmlpdeabaa", sum := "87cc41812ff9f7368f770acf01738f12bfd4d129e52f1e686829928d1d1ec22c", func := "dropper/dropperlaw06.KeyWays", spec := "keyWays", unfollowed := true, recurses := true, plainKeys := false, apart := false, narrowed := true }
def KeyWaysUptoSaid : Prop := keyWaysUptoRow.holds Try.pinned (OpenSpec.upto keyWaysSpec)

/-- 'dropperlaw06.KeyInvariants', WHERE WHAT IT READS IS OF BULK AT MOST 1048576: true; the input reads as it did. -/
def keyInvariantsUptoRow : OpenClaim := { program := "ytgdfakmlpdeabaa", sum := "87cc41812ff9f7368f770acf01738f12bfd4d129e52f1e686829928d1d1ec22c", func := "dropper/dropperlaw06.KeyInvariants", spec := "keyInvariants", unfollowed := true, recurses := true, plainKeys := false, apart := false, narrowed := true }
def KeyInvariantsUptoSaid : Prop := keyInvariantsUptoRow.holds Try.pinned (OpenSpec.upto keyInvariantsSpec)

end Rows
end Go.Proofs.Ytgdfakmlpdeabaa
