/-
  No cell of these rows narrows 'for every input' (looked for: loops, veiled, ifaces, maps, wideKeys, modest, calm, conditions, laid).
  DERIVED. THE GIVEN ROWS OF THIS SEAT. 11 by the template 'for every input the law returns true; each argument reads behind the call as it read before'; 0 by the template 'total and deterministic' (their statements: YteikgnaikeleaaaTotals.lean).
  GIVEN WITH THE SEED: the statements are not yours to turn. If you find one false, say at which input.
  Laid BY PROGRAM, IN A SANDBOX (cutbox-rows.mjs): the forced cells as the released guide's own fill.sh prints them over the translation 7bbe40ada8e35037… (all of the seat's roots in one cut). By AI agents, Wed Nov 11 2026. No macro, syntax, notation, axiom, sorry.
-/
import Derived.Test.YteikgnaikeleaaaChecked
import GoSem.Claim
import GoSem.ClaimJoined
import GoSem.ClaimMapViews
import Derived.JoinedTies
import Derived.KernelRfl
namespace Go.Proofs.Yteikgnaikeleaaa
/- THE CELL 'sum', in the pinned program and in every row, IS THE sha256 OF THE DUMP (.gsa) THAT YteikgnaikeleaaaProg.lean LOADS. Nothing in Lean hashes anything: it is a label: what it is worth is what the hold of that sum in a sandbox is worth. -/
noncomputable def Try.pinned : Pinned := { name := "yteikgnaikeleaaa", sum := "7bbe40ada8e35037af5f2f0c3b5bf258bdd311e9bc41283db08fb27ceb64a4ef", checked := Try.checked }
namespace Rows
def none {H : Type} : Left H := { results := [], args := [] }

/-- 'dropperlaw09.LoopPaths': WHATEVER THE INPUT: true; the input reads as it did. -/
def loopPathsSpec : ChangeSpec := { name := "loopPaths", fn := fun _ => fun
  | [d] => { results := [.lit (.bool true)], args := [d] }
  | _ => none }
def loopPathsRow : OpenClaim := { program := "yteikgnaikeleaaa", sum := "7bbe40ada8e35037af5f2f0c3b5bf258bdd311e9bc41283db08fb27ceb64a4ef", func := "dropper/dropperlaw09.LoopPaths", spec := "loopPaths", inPlace := ["internal/bytealg.IndexByteString", "internal/abi.NoEscape", "internal/bytealg.abigen_runtime_cmpstring", "internal/bytealg.MakeNoZero"], unfollowed := true, recurses := true, apart := false }
def LoopPathsSaid : Prop := loopPathsRow.holds Try.pinned (OpenSpec.ofChange loopPathsSpec)

/-- ITS FALSE NEIGHBOUR: 'it returns false'. Refute it at one input. -/
def loopPathsWrong : ChangeSpec := { name := "loopPaths", fn := fun _ => fun
  | [d] => { results := [.lit (.bool false)], args := [d] }
  | _ => none }
def LoopPathsWrongFalsely : Prop := loopPathsRow.holds Try.pinned (OpenSpec.ofChange loopPathsWrong)

/-- 'droppertop.TopLoops': WHATEVER THE INPUT: true; the input reads as it did. -/
def topLoopsSpec : ChangeSpec := { name := "topLoops", fn := fun _ => fun
  | [d1, d2, d3] => { results := [.lit (.bool true)], args := [d1, d2, d3] }
  | _ => none }
def topLoopsRow : OpenClaim := { program := "yteikgnaikeleaaa", sum := "7bbe40ada8e35037af5f2f0c3b5bf258bdd311e9bc41283db08fb27ceb64a4ef", func := "dropper/droppertop.TopLoops", spec := "topLoops", inPlace := ["internal/bytealg.IndexByteString", "internal/abi.NoEscape", "internal/bytealg.abigen_runtime_cmpstring", "internal/bytealg.MakeNoZero", "internal/bytealg.IndexString"], unfollowed := true, recurses := true, named := ["internal/bytealg.MaxLen"], apart := false }
def TopLoopsSaid : Prop := topLoopsRow.holds Try.pinned (OpenSpec.ofChange topLoopsSpec)

/-- ITS FALSE NEIGHBOUR: 'it returns false'. Refute it at one input. -/
def topLoopsWrong : ChangeSpec := { name := "topLoops", fn := fun _ => fun
  | [d1, d2, d3] => { results := [.lit (.bool false)], args := [d1, d2, d3] }
  | _ => none }
def TopLoopsWrongFalsely : Prop := topLoopsRow.holds Try.pinned (OpenSpec.ofChange topLoopsWrong)

/-- 'dropperlaw09.LoopMore': WHATEVER THE INPUT: true; the input reads as it did. -/
def loopMoreSpec : ChangeSpec := { name := "loopMore", fn := fun _ => fun
  | [d] => { results := [.lit (.bool true)], args := [d] }
  | _ => none }
def loopMoreRow : OpenClaim := { program := "yteikgnaikeleaaa", sum := "7bbe40ada8e35037af5f2f0c3b5bf258bdd311e9bc41283db08fb27ceb64a4ef", func := "dropper/dropperlaw09.LoopMore", spec := "loopMore", inPlace := ["internal/bytealg.IndexByteString", "internal/abi.NoEscape", "internal/bytealg.abigen_runtime_cmpstring", "internal/bytealg.MakeNoZero"], unfollowed := true, recurses := true, apart := false }
def LoopMoreSaid : Prop := loopMoreRow.holds Try.pinned (OpenSpec.ofChange loopMoreSpec)

/-- ITS FALSE NEIGHBOUR: 'it returns false'. Refute it at one input. -/
def loopMoreWrong : ChangeSpec := { name := "loopMore", fn := fun _ => fun
  | [d] => { results := [.lit (.bool false)], args := [d] }
  | _ => none }
def LoopMoreWrongFalsely : Prop := loopMoreRow.holds Try.pinned (OpenSpec.ofChange loopMoreWrong)

/-- 'dropperlaw09.LoopPlains': WHATEVER THE INPUT: true; the input reads as it did. -/
def loopPlainsSpec : ChangeSpec := { name := "loopPlains", fn := fun _ => fun
  | [d] => { results := [.lit (.bool true)], args := [d] }
  | _ => none }
def loopPlainsRow : OpenClaim := { program := "yteikgnaikeleaaa", sum := "7bbe40ada8e35037af5f2f0c3b5bf258bdd311e9bc41283db08fb27ceb64a4ef", func := "dropper/dropperlaw09.LoopPlains", spec := "loopPlains", inPlace := ["internal/bytealg.IndexByteString", "internal/abi.NoEscape", "internal/bytealg.abigen_runtime_cmpstring", "internal/bytealg.MakeNoZero"], unfollowed := true, recurses := true, apart := false }
def LoopPlainsSaid : Prop := loopPlainsRow.holds Try.pinned (OpenSpec.ofChange loopPlainsSpec)

/-- ITS FALSE NEIGHBOUR: 'it returns false'. Refute it at one input. -/
def loopPlainsWrong : ChangeSpec := { name := "loopPlains", fn := fun _ => fun
  | [d] => { results := [.lit (.bool false)], args := [d] }
  | _ => none }
def LoopPlainsWrongFalsely : Prop := loopPlainsRow.holds Try.pinned (OpenSpec.ofChange loopPlainsWrong)

/-- 'dropperlaw09.LoopPlain': WHATEVER THE INPUT: true; the input reads as it did. -/
def loopPlainSpec : ChangeSpec := { name := "loopPlain", fn := fun _ => fun
  | [d] => { results := [.lit (.bool true)], args := [d] }
  | _ => none }
def loopPlainRow : OpenClaim := { program := "yteikgnaikeleaaa", sum := "7bbe40ada8e35037af5f2f0c3b5bf258bdd311e9bc41283db08fb27ceb64a4ef", func := "dropper/dropperlaw09.LoopPlain", spec := "loopPlain", inPlace := ["internal/bytealg.IndexByteString", "internal/abi.NoEscape", "internal/bytealg.abigen_runtime_cmpstring", "internal/bytealg.MakeNoZero"], unfollowed := true, recurses := true, apart := false }
def LoopPlainSaid : Prop := loopPlainRow.holds Try.pinned (OpenSpec.ofChange loopPlainSpec)

/-- ITS FALSE NEIGHBOUR: 'it returns false'. Refute it at one input. -/
def loopPlainWrong : ChangeSpec := { name := "loopPlain", fn := fun _ => fun
  | [d] => { results := [.lit (.bool false)], args := [d] }
  | _ => none }
def LoopPlainWrongFalsely : Prop := loopPlainRow.holds Try.pinned (OpenSpec.ofChange loopPlainWrong)

/-- 'dropperlaw09.LoopDiffers': WHATEVER THE INPUT: true; the input reads as it did. -/
def loopDiffersSpec : ChangeSpec := { name := "loopDiffers", fn := fun _ => fun
  | [d1, d2] => { results := [.lit (.bool true)], args := [d1, d2] }
  | _ => none }
def loopDiffersRow : OpenClaim := { program := "yteikgnaikeleaaa", sum := "7bbe40ada8e35037af5f2f0c3b5bf258bdd311e9bc41283db08fb27ceb64a4ef", func := "dropper/dropperlaw09.LoopDiffers", spec := "loopDiffers", inPlace := ["internal/bytealg.IndexByteString", "internal/abi.NoEscape", "internal/bytealg.abigen_runtime_cmpstring", "internal/bytealg.MakeNoZero"], unfollowed := true, recurses := true, apart := false }
def LoopDiffersSaid : Prop := loopDiffersRow.holds Try.pinned (OpenSpec.ofChange loopDiffersSpec)

/-- ITS FALSE NEIGHBOUR: 'it returns false'. Refute it at one input. -/
def loopDiffersWrong : ChangeSpec := { name := "loopDiffers", fn := fun _ => fun
  | [d1, d2] => { results := [.lit (.bool false)], args := [d1, d2] }
  | _ => none }
def LoopDiffersWrongFalsely : Prop := loopDiffersRow.holds Try.pinned (OpenSpec.ofChange loopDiffersWrong)

/-- 'dropperlaw09.LoopIsPath': WHATEVER THE INPUT: true; the input reads as it did. -/
def loopIsPathSpec : ChangeSpec := { name := "loopIsPath", fn := fun _ => fun
  | [d1, d2] => { results := [.lit (.bool true)], args := [d1, d2] }
  | _ => none }
def loopIsPathRow : OpenClaim := { program := "yteikgnaikeleaaa", sum := "7bbe40ada8e35037af5f2f0c3b5bf258bdd311e9bc41283db08fb27ceb64a4ef", func := "dropper/dropperlaw09.LoopIsPath", spec := "loopIsPath", inPlace := ["internal/bytealg.IndexByteString", "internal/abi.NoEscape", "internal/bytealg.abigen_runtime_cmpstring", "internal/bytealg.MakeNoZero", "internal/bytealg.IndexString"], unfollowed := true, recurses := true, named := ["internal/bytealg.MaxLen"], apart := false }
def LoopIsPathSaid : Prop := loopIsPathRow.holds Try.pinned (OpenSpec.ofChange loopIsPathSpec)

/-- ITS FALSE NEIGHBOUR: 'it returns false'. Refute it at one input. -/
def loopIsPathWrong : ChangeSpec := { name := "loopIsPath", fn := fun _ => fun
  | [d1, d2] => { results := [.lit (.bool false)], args := [d1, d2] }
  | _ => none }
def LoopIsPathWrongFalsely : Prop := loopIsPathRow.holds Try.pinned (OpenSpec.ofChange loopIsPathWrong)

/-- 'dropperlaw09.LoopSets': WHATEVER THE INPUT: true; the input reads as it did. -/
def loopSetsSpec : ChangeSpec := { name := "loopSets", fn := fun _ => fun
  | [d1, d2] => { results := [.lit (.bool true)], args := [d1, d2] }
  | _ => none }
def loopSetsRow : OpenClaim := { program := "yteikgnaikeleaaa", sum := "7bbe40ada8e35037af5f2f0c3b5bf258bdd311e9bc41283db08fb27ceb64a4ef", func := "dropper/dropperlaw09.LoopSets", spec := "loopSets", inPlace := ["internal/bytealg.IndexByteString", "internal/abi.NoEscape", "internal/bytealg.abigen_runtime_cmpstring", "internal/bytealg.MakeNoZero", "internal/bytealg.IndexString"], unfollowed := true, recurses := true, named := ["internal/bytealg.MaxLen"], apart := false }
def LoopSetsSaid : Prop := loopSetsRow.holds Try.pinned (OpenSpec.ofChange loopSetsSpec)

/-- ITS FALSE NEIGHBOUR: 'it returns false'. Refute it at one input. -/
def loopSetsWrong : ChangeSpec := { name := "loopSets", fn := fun _ => fun
  | [d1, d2] => { results := [.lit (.bool false)], args := [d1, d2] }
  | _ => none }
def LoopSetsWrongFalsely : Prop := loopSetsRow.holds Try.pinned (OpenSpec.ofChange loopSetsWrong)

/-- 'dropperlaw09.LoopConducts': WHATEVER THE INPUT: true; the input reads as it did. -/
def loopConductsSpec : ChangeSpec := { name := "loopConducts", fn := fun _ => fun
  | [d1, d2] => { results := [.lit (.bool true)], args := [d1, d2] }
  | _ => none }
def loopConductsRow : OpenClaim := { program := "yteikgnaikeleaaa", sum := "7bbe40ada8e35037af5f2f0c3b5bf258bdd311e9bc41283db08fb27ceb64a4ef", func := "dropper/dropperlaw09.LoopConducts", spec := "loopConducts", inPlace := ["internal/bytealg.IndexByteString", "internal/abi.NoEscape", "internal/bytealg.abigen_runtime_cmpstring", "internal/bytealg.MakeNoZero", "internal/bytealg.IndexString"], unfollowed := true, recurses := true, named := ["internal/bytealg.MaxLen"], apart := false }
def LoopConductsSaid : Prop := loopConductsRow.holds Try.pinned (OpenSpec.ofChange loopConductsSpec)

/-- ITS FALSE NEIGHBOUR: 'it returns false'. Refute it at one input. -/
def loopConductsWrong : ChangeSpec := { name := "loopConducts", fn := fun _ => fun
  | [d1, d2] => { results := [.lit (.bool false)], args := [d1, d2] }
  | _ => none }
def LoopConductsWrongFalsely : Prop := loopConductsRow.holds Try.pinned (OpenSpec.ofChange loopConductsWrong)

/-- 'dropperlaw09.LoopIdles': WHATEVER THE INPUT: true; the input reads as it did. -/
def loopIdlesSpec : ChangeSpec := { name := "loopIdles", fn := fun _ => fun
  | [d1, d2] => { results := [.lit (.bool true)], args := [d1, d2] }
  | _ => none }
def loopIdlesRow : OpenClaim := { program := "yteikgnaikeleaaa", sum := "7bbe40ada8e35037af5f2f0c3b5bf258bdd311e9bc41283db08fb27ceb64a4ef", func := "dropper/dropperlaw09.LoopIdles", spec := "loopIdles", inPlace := ["internal/bytealg.IndexByteString", "internal/abi.NoEscape", "internal/bytealg.abigen_runtime_cmpstring", "internal/bytealg.MakeNoZero", "internal/bytealg.IndexString"], unfollowed := true, recurses := true, named := ["internal/bytealg.MaxLen"], apart := false }
def LoopIdlesSaid : Prop := loopIdlesRow.holds Try.pinned (OpenSpec.ofChange loopIdlesSpec)

/-- ITS FALSE NEIGHBOUR: 'it returns false'. Refute it at one input. -/
def loopIdlesWrong : ChangeSpec := { name := "loopIdles", fn := fun _ => fun
  | [d1, d2] => { results := [.lit (.bool false)], args := [d1, d2] }
  | _ => none }
def LoopIdlesWrongFalsely : Prop := loopIdlesRow.holds Try.pinned (OpenSpec.ofChange loopIdlesWrong)

/-- 'dropperlaw09.LoopNumbers': WHATEVER THE INPUT: true; the input reads as it did. -/
def loopNumbersSpec : ChangeSpec := { name := "loopNumbers", fn := fun _ => fun
  | [d1, d2] => { results := [.lit (.bool true)], args := [d1, d2] }
  | _ => none }
def loopNumbersRow : OpenClaim := { program := "yteikgnaikeleaaa", sum := "7bbe40ada8e35037af5f2f0c3b5bf258bdd311e9bc41283db08fb27ceb64a4ef", func := "dropper/dropperlaw09.LoopNumbers", spec := "loopNumbers", inPlace := ["internal/bytealg.IndexByteString", "internal/abi.NoEscape", "internal/bytealg.abigen_runtime_cmpstring", "internal/bytealg.MakeNoZero", "internal/bytealg.IndexString"], unfollowed := true, recurses := true, named := ["internal/bytealg.MaxLen"], apart := false }
def LoopNumbersSaid : Prop := loopNumbersRow.holds Try.pinned (OpenSpec.ofChange loopNumbersSpec)

/-- ITS FALSE NEIGHBOUR: 'it returns false'. Refute it at one input. -/
def loopNumbersWrong : ChangeSpec := { name := "loopNumbers", fn := fun _ => fun
  | [d1, d2] => { results := [.lit (.bool false)], args := [d1, d2] }
  | _ => none }
def LoopNumbersWrongFalsely : Prop := loopNumbersRow.holds Try.pinned (OpenSpec.ofChange loopNumbersWrong)

/- THE SECOND FORM. 'bulk': how many values and letters a reading holds, each counted each time it is reached (what is shared counts as often as it is met; a slice's spare places count too). A statement '..UptoSaid' is the law's where the arguments, and the package variables that the reading takes, are together of bulk at most 1048576: NARROWER than '..Said'. Prove '..Said' where nothing that the law and all that it calls make is longer than what came in: it says more and counts as full. Else prove '..UptoSaid'. A law counts once. -/
mutual
def uptoBulk {H : Type} : DataW H → Nat
  | .lit (.string bytes) => bytes.length + 1
  | .lit _ => 1
  | .nil => 1
  | .ptr d => uptoBulk d + 1
  | .slice elems spare => uptoBulkAll elems + uptoBulkAll spare + 1
  | .agg parts => uptoBulkAll parts + 1
  | .iface _ d => uptoBulk d + 1
  | .map entries => uptoBulkEntries entries + 1
  | .held _ => 1
def uptoBulkAll {H : Type} : List (DataW H) → Nat
  | [] => 0
  | d :: r => uptoBulk d + uptoBulkAll r
def uptoBulkEntries {H : Type} : List (Lit × DataW H) → Nat
  | [] => 0
  | x :: r => uptoBulkEntry x + uptoBulkEntries r
def uptoBulkEntry {H : Type} : Lit × DataW H → Nat
  | (.string bytes, d) => bytes.length + uptoBulk d + 1
  | (_, d) => uptoBulk d + 1
 end
def uptoSmall : (H : Type) → List (DataW H) → Bool := fun _ ds => decide (uptoBulkAll ds ≤ 1048576)
def OpenSpec.upto (s : _root_.Go.ChangeSpec) : _root_.Go.OpenSpec := { _root_.Go.OpenSpec.ofChange s with cond := some uptoSmall }

/-- 'dropperlaw09.LoopPaths', WHERE WHAT IT READS IS OF BULK AT MOST 1048576: true; the input reads as it did. -/
def loopPathsUptoRow : OpenClaim := { program := "yteikgnaikeleaaa", sum := "7bbe40ada8e35037af5f2f0c3b5bf258bdd311e9bc41283db08fb27ceb64a4ef", func := "dropper/dropperlaw09.LoopPaths", spec := "loopPaths", inPlace := ["internal/bytealg.IndexByteString", "internal/abi.NoEscape", "internal/bytealg.abigen_runtime_cmpstring", "internal/bytealg.MakeNoZero"], unfollowed := true, recurses := true, apart := false, narrowed := true }
def LoopPathsUptoSaid : Prop := loopPathsUptoRow.holds Try.pinned (OpenSpec.upto loopPathsSpec)

/-- 'droppertop.TopLoops', WHERE WHAT IT READS IS OF BULK AT MOST 1048576: true; the input reads as it did. -/
def topLoopsUptoRow : OpenClaim := { program := "yteikgnaikeleaaa", sum := "7bbe40ada8e35037af5f2f0c3b5bf258bdd311e9bc41283db08fb27ceb64a4ef", func := "dropper/droppertop.TopLoops", spec := "topLoops", inPlace := ["internal/bytealg.IndexByteString", "internal/abi.NoEscape", "internal/bytealg.abigen_runtime_cmpstring", "internal/bytealg.MakeNoZero", "internal/bytealg.IndexString"], unfollowed := true, recurses := true, named := ["internal/bytealg.MaxLen"], apart := false, narrowed := true }
def TopLoopsUptoSaid : Prop := topLoopsUptoRow.holds Try.pinned (OpenSpec.upto topLoopsSpec)

/-- 'dropperlaw09.LoopMore', WHERE WHAT IT READS IS OF BULK AT MOST 1048576: true; the input reads as it did. -/
def loopMoreUptoRow : OpenClaim := { program := "yteikgnaikeleaaa", sum := "7bbe40ada8e35037af5f2f0c3b5bf258bdd311e9bc41283db08fb27ceb64a4ef", func := "dropper/dropperlaw09.LoopMore", spec := "loopMore", inPlace := ["internal/bytealg.IndexByteString", "internal/abi.NoEscape", "internal/bytealg.abigen_runtime_cmpstring", "internal/bytealg.MakeNoZero"], unfollowed := true, recurses := true, apart := false, narrowed := true }
def LoopMoreUptoSaid : Prop := loopMoreUptoRow.holds Try.pinned (OpenSpec.upto loopMoreSpec)

/-- 'dropperlaw09.LoopPlains', WHERE WHAT IT READS IS OF BULK AT MOST 1048576: true; the input reads as it did. -/
def loopPlainsUptoRow : OpenClaim := { program := "yteikgnaikeleaaa", sum := "7bbe40ada8e35037af5f2f0c3b5bf258bdd311e9bc41283db08fb27ceb64a4ef", func := "dropper/dropperlaw09.LoopPlains", spec := "loopPlains", inPlace := ["internal/bytealg.IndexByteString", "internal/abi.NoEscape", "internal/bytealg.abigen_runtime_cmpstring", "internal/bytealg.MakeNoZero"], unfollowed := true, recurses := true, apart := false, narrowed := true }
def LoopPlainsUptoSaid : Prop := loopPlainsUptoRow.holds Try.pinned (OpenSpec.upto loopPlainsSpec)

/-- 'dropperlaw09.LoopPlain', WHERE WHAT IT READS IS OF BULK AT MOST 1048576: true; the input reads as it did. -/
def loopPlainUptoRow : OpenClaim := { program := "yteikgnaikeleaaa", sum := "7bbe40ada8e35037af5f2f0c3b5bf258bdd311e9bc41283db08fb27ceb64a4ef", func := "dropper/dropperlaw09.LoopPlain", spec := "loopPlain", inPlace := ["internal/bytealg.IndexByteString", "internal/abi.NoEscape", "internal/bytealg.abigen_runtime_cmpstring", "internal/bytealg.MakeNoZero"], unfollowed := true, recurses := true, apart := false, narrowed := true }
def LoopPlainUptoSaid : Prop := loopPlainUptoRow.holds Try.pinned (OpenSpec.upto loopPlainSpec)

/-- 'dropperlaw09.LoopDiffers', WHERE WHAT IT READS IS OF BULK AT MOST 1048576: true; the input reads as it did. -/
def loopDiffersUptoRow : OpenClaim := { program := "yteikgnaikeleaaa", sum := "7bbe40ada8e35037af5f2f0c3b5bf258bdd311e9bc41283db08fb27ceb64a4ef", func := "dropper/dropperlaw09.LoopDiffers", spec := "loopDiffers", inPlace := ["internal/bytealg.IndexByteString", "internal/abi.NoEscape", "internal/bytealg.abigen_runtime_cmpstring", "internal/bytealg.MakeNoZero"], unfollowed := true, recurses := true, apart := false, narrowed := true }
def LoopDiffersUptoSaid : Prop := loopDiffersUptoRow.holds Try.pinned (OpenSpec.upto loopDiffersSpec)

/-- 'dropperlaw09.LoopIsPath', WHERE WHAT IT READS IS OF BULK AT MOST 1048576: true; the input reads as it did. -/
def loopIsPathUptoRow : OpenClaim := { program := "yteikgnaikeleaaa", sum := "7bbe40ada8e35037af5f2f0c3b5bf258bdd311e9bc41283db08fb27ceb64a4ef", func := "dropper/dropperlaw09.LoopIsPath", spec := "loopIsPath", inPlace := ["internal/bytealg.IndexByteString", "internal/abi.NoEscape", "internal/bytealg.abigen_runtime_cmpstring", "internal/bytealg.MakeNoZero", "internal/bytealg.IndexString"], unfollowed := true, recurses := true, named := ["internal/bytealg.MaxLen"], apart := false, narrowed := true }
def LoopIsPathUptoSaid : Prop := loopIsPathUptoRow.holds Try.pinned (OpenSpec.upto loopIsPathSpec)

/-- 'dropperlaw09.LoopSets', WHERE WHAT IT READS IS OF BULK AT MOST 1048576: true; the input reads as it did. -/
def loopSetsUptoRow : OpenClaim := { program := "yteikgnaikeleaaa", sum := "7bbe40ada8e35037af5f2f0c3b5bf258bdd311e9bc41283db08fb27ceb64a4ef", func := "dropper/dropperlaw09.LoopSets", spec := "loopSets", inPlace := ["internal/bytealg.IndexByteString", "internal/abi.NoEscape", "internal/bytealg.abigen_runtime_cmpstring", "internal/bytealg.MakeNoZero", "internal/bytealg.IndexString"], unfollowed := true, recurses := true, named := ["internal/bytealg.MaxLen"], apart := false, narrowed := true }
def LoopSetsUptoSaid : Prop := loopSetsUptoRow.holds Try.pinned (OpenSpec.upto loopSetsSpec)

/-- 'dropperlaw09.LoopConducts', WHERE WHAT IT READS IS OF BULK AT MOST 1048576: true; the input reads as it did. -/
def loopConductsUptoRow : OpenClaim := { program := "yteikgnaikeleaaa", sum := "7bbe40ada8e35037af5f2f0c3b5bf258bdd311e9bc41283db08fb27ceb64a4ef", func := "dropper/dropperlaw09.LoopConducts", spec := "loopConducts", inPlace := ["internal/bytealg.IndexByteString", "internal/abi.NoEscape", "internal/bytealg.abigen_runtime_cmpstring", "internal/bytealg.MakeNoZero", "internal/bytealg.IndexString"], unfollowed := true, recurses := true, named := ["internal/bytealg.MaxLen"], apart := false, narrowed := true }
def LoopConductsUptoSaid : Prop := loopConductsUptoRow.holds Try.pinned (OpenSpec.upto loopConductsSpec)

/-- 'dropperlaw09.LoopIdles', WHERE WHAT IT READS IS OF BULK AT MOST 1048576: true; the input reads as it did. -/
def loopIdlesUptoRow : OpenClaim := { program := "yteikgnaikeleaaa", sum := "7bbe40ada8e35037af5f2f0c3b5bf258bdd311e9bc41283db08fb27ceb64a4ef", func := "dropper/dropperlaw09.LoopIdles", spec := "loopIdles", inPlace := ["internal/bytealg.IndexByteString", "internal/abi.NoEscape", "internal/bytealg.abigen_runtime_cmpstring", "internal/bytealg.MakeNoZero", "internal/bytealg.IndexString"], unfollowed := true, recurses := true, named := ["internal/bytealg.MaxLen"], apart := false, narrowed := true }
def LoopIdlesUptoSaid : Prop := loopIdlesUptoRow.holds Try.pinned (OpenSpec.upto loopIdlesSpec)

/-- 'dropperlaw09.LoopNumbers', WHERE WHAT IT READS IS OF BULK AT MOST 1048576: true; the input reads as it did. -/
def loopNumbersUptoRow : OpenClaim := { program := "yteikgnaikeleaaa", sum := "7bbe40ada8e35037af5f2f0c3b5bf258bdd311e9bc41283db08fb27ceb64a4ef", func := "dropper/dropperlaw09.LoopNumbers", spec := "loopNumbers", inPlace := ["internal/bytealg.IndexByteString", "internal/abi.NoEscape", "internal/bytealg.abigen_runtime_cmpstring", "internal/bytealg.MakeNoZero", "internal/bytealg.IndexString"], unfollowed := true, recurses := true, named := ["internal/bytealg.MaxLen"], apart := false, narrowed := true }
def LoopNumbersUptoSaid : Prop := loopNumbersUptoRow.holds Try.pinned (OpenSpec.upto loopNumbersSpec)

end Rows
end Go.Proofs.Yteikgnaikeleaaa
