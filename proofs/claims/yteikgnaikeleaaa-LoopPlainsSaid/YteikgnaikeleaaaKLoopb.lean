-- Written by wip/pack.py of this repo: texts of this claim, put together.
import Derived.Shelf.Strings.Builder1
import Derived.Shelf.Strings.Builder2
import Derived.Shelf.Strings.OnBuilder
import Derived.Shelf.Small.Utf8
import Derived.Shelf.Small.Bits
import Derived.Shelf.Small.Strs
import Derived.Shelf.Strings.BuilderF
import Derived.Shelf.Strings.BuilderK
import Derived.Shelf.Strings.Builder2Cap
import Derived.Shelf.Strconv.Itoa0
import Derived.Shelf.Strings.Search1
import Derived.Shelf.Strings.Runes
import Derived.Shelf.Strings.BuilderCap
import Derived.Ground.SlsfProg
import Derived.Shelf.SlSortCmp.Insertion
import Derived.Shelf.SlSortCmp.SiftDown1
import Derived.Shelf.SlSortCmp.HeapSort1
import Derived.Shelf.SlSortCmp.Insertion1
import Derived.Shelf.SlSortCmp.Median1
import Derived.Shelf.SlSortCmp.Pivot1
import Derived.Shelf.SlSortCmp.ReverseRange1
import Derived.Shelf.SlSortCmp.PartialInsertion1
import Derived.Shelf.SlSortCmp.PartitionEqual1
import Derived.Shelf.SlSortCmp.Partition1
import Derived.Shelf.SlSortCmp.Pdq1
import Derived.Shelf.SlSortCmp.Whole1
import Derived.Shelf.SlSortCmp.NoneTotal
import Derived.Test.YteikgnaikeleaaaProg
import Derived.StillTailTactics
import Derived.Below
import Derived.Deep.Draws
import Derived.Deep.AppendLies
import Derived.Maps.AppendAt
import Derived.OwnWalk
import Derived.Laws.BytesArg
import Derived.Laws.MakeOwn
import Derived.Laws.OwnMore
import Derived.Deep.OwnRows
import Derived.Tactics
import Derived.Lib.ConvBytes
import Derived.Laws.Slices
import Derived.WalkKit
import Derived.KernelRfl
import Derived.RowKit3
import Derived.Deep.LoopGhost
import Derived.Deep.QuietTactic
import Derived.BigQuiet
import Derived.WideLaws
import Derived.Deep.DeepCutAuto
import Derived.Deep.CutBlock
import Derived.Deep.RegionHeld3
import Derived.Laws.Rows
import Derived.Lib.AppendStr
import Derived.ArgAppend
import Derived.Laws.IdiomCopy
import Derived.OrdersHeld
import Derived.Laws.BitsLemmas
import Derived.RowKit
import Derived.Laws.CopyOwn
import Derived.LoopTactic
import Derived.Scope
import Derived.Laws.RangeAny
import Derived.Laws.Runes
import Derived.Lib.Bytealg
import Derived.Test.YteikgnaikeleaaaKLoopa
/-
 DERIVED: THE SHELF's CONTRACTS AT THIS DUMP, IN PLAIN WORDS (tools/lay-plain.mjs out of 'YteikgnaikeleaaaShelf.lean', which tools/lay-shelf.mjs wrote): THE SAME DECLARATIONS UNDER THE SAME NAMES: 'import', 'namespace', 'open', 'def', 'theorem' AND NOTHING ELSE: no command of the shelf's: FOR A HAND-IN. Each laying: the table of numbers ('.._ren') and one theorem, a field a fact of the dump's own or the kernel's comparison; each contract: ONE APPLICATION.
-/
namespace Go.Proofs
open Go.Shelf
def Try.lays169_ren : Go.Shelf.Ren := ⟨fun | 169 => 93 | n => n, fun | 70 => 92 | 9 => 9 | 0 => 0 | 72 => 95 | 37 => 93 | 127 => 118 | 3 => 3 | 5 => 5 | n => n, fun | n => n⟩
theorem Try.lays169 : Go.Proofs.Lays.n169 Try.prog Try.lays169_ren := {
 mixed := by kernel_rfl
 f169 := Try.func93.trans (congrArg some (by kernel_rfl))
 t0 := Try.underlying0
 a0 := Try.isAgg0
 z0 := Try.sizeOf0
 v0 := Try.zeroValue0
 t3 := Try.underlying3
 a3 := Try.isAgg3
 z3 := Try.sizeOf3
 v3 := Try.zeroValue3
 t9 := Try.underlying9
 a9 := Try.isAgg9
 z9 := Try.sizeOf9
 v9 := Try.zeroValue9
 t37 := Try.underlying93
 a37 := Try.isAgg93
 z37 := Try.sizeOf93
 v37 := Try.zeroValue93
 t70 := Try.underlying92
 a70 := Try.isAgg92
 z70 := Try.sizeOf92
 v70 := Try.zeroValue92
 t72 := Try.underlying95
 a72 := Try.isAgg95
 z72 := Try.sizeOf95
 v72 := Try.zeroValue95
 t127 := Try.underlying118
 a127 := Try.isAgg118
 z127 := Try.sizeOf118
 v127 := Try.zeroValue118 }
theorem Try.Builder_Extra_169 : Builder.Extra Try.prog Try.lays169_ren := {
 sizeBuilder := by kernel_rfl
 liesBuilder := by kernel_rfl
 t5 := Try.underlying5
 a5 := Try.isAgg5
 z5 := Try.sizeOf5
 v5 := Try.zeroValue5
 infoByte := by kernel_rfl
 cellsByte := by kernel_rfl
 sizeByte := by kernel_rfl
 neB5 := by decide }
open Go.RowKit in
theorem Try.Builder_String (B b : Nat) (l : List UInt8) (w : World) (h : Lib.IsBuilder 95 5 B b (Lib.byteCells l) w) (h0 : l ≠ []) :
  Calls Try.prog 93 #[.pointer (some ⟨b, 0, none⟩)] w fun e w' => e = .returned (.string ⟨l.toArray⟩) ∧ Below B w w' := Any.Builder_String Try.lays169 Try.Builder_Extra_169 B b l w h h0
open Go.RowKit in
theorem Try.Builder_String_empty (B b : Nat) (w : World) (h : Lib.IsBuilder 95 5 B b [] w) (hBw : B ≤ w.heap.size) :
  Calls Try.prog 93 #[.pointer (some ⟨b, 0, none⟩)] w fun e w' => e = .returned (.string ⟨#[]⟩) ∧ Below B w w' := Any.Builder_String_empty Try.lays169 Try.Builder_Extra_169 B b w h hBw
open Go.RowKit in
theorem Try.Builder_String_any (B b : Nat) (l : List UInt8) (w : World) (h : Lib.IsBuilder 95 5 B b (Lib.byteCells l) w) (hBw : B ≤ w.heap.size) :
  Calls Try.prog 93 #[.pointer (some ⟨b, 0, none⟩)] w fun e w' => e = .returned (.string ⟨l.toArray⟩) ∧ Below B w w' := Any.Builder_String_any Try.lays169 Try.Builder_Extra_169 B b l w h hBw
def Try.lays241_ren : Go.Shelf.Ren := ⟨fun | 241 => 136 | 277 => 142 | n => n, fun | 70 => 92 | 3 => 3 | 0 => 0 | 72 => 95 | 37 => 93 | 5 => 5 | n => n, fun | n => n⟩
theorem Try.lays241 : Go.Proofs.Lays.n241 Try.prog Try.lays241_ren := {
 mixed := by kernel_rfl
 f241 := Try.func136.trans (congrArg some (by kernel_rfl))
 f277 := Try.func142.trans (congrArg some (by kernel_rfl))
 t0 := Try.underlying0
 a0 := Try.isAgg0
 z0 := Try.sizeOf0
 v0 := Try.zeroValue0
 t3 := Try.underlying3
 a3 := Try.isAgg3
 z3 := Try.sizeOf3
 v3 := Try.zeroValue3
 t37 := Try.underlying93
 a37 := Try.isAgg93
 z37 := Try.sizeOf93
 v37 := Try.zeroValue93
 t70 := Try.underlying92
 a70 := Try.isAgg92
 z70 := Try.sizeOf92
 v70 := Try.zeroValue92
 t72 := Try.underlying95
 a72 := Try.isAgg95
 z72 := Try.sizeOf95
 v72 := Try.zeroValue95 }
theorem Try.Builder_Extra_241 : Builder.Extra Try.prog Try.lays241_ren := {
 sizeBuilder := by kernel_rfl
 liesBuilder := by kernel_rfl
 t5 := Try.underlying5
 a5 := Try.isAgg5
 z5 := Try.sizeOf5
 v5 := Try.zeroValue5
 infoByte := by kernel_rfl
 cellsByte := by kernel_rfl
 sizeByte := by kernel_rfl
 neB5 := by decide }
open Go.RowKit in
theorem Try.Builder_grow_fresh (B b n : Nat) (w : World) (hB : B ≤ b) (hbk : w.heap[b]? = some (.cells #[.pointer (some ⟨b, 0, none⟩), .slice none 0 0] 95 (0, 0))) (hBw : B ≤ w.heap.size) (hn : n ≤ 281474976710656) :
  Calls Try.prog 136 #[.pointer (some ⟨b, 0, none⟩), .int .i64 n] w fun e w' => e = .returned (.tuple #[]) ∧ (Lib.BuilderAt 95 5 B b (.pointer (some ⟨b, 0, none⟩)) [] w' ∧ Below B w w') := Any.Builder_grow_fresh Try.lays241 Try.Builder_Extra_241 B b n w hB hbk hBw hn
def Try.lays165_ren : Go.Shelf.Ren := ⟨fun | 165 => 117 | 240 => 113 | 241 => 136 | 276 => 124 | 277 => 142 | n => n, fun | 70 => 92 | 3 => 3 | 0 => 0 | 4 => 4 | 9 => 9 | 20 => 20 | 72 => 95 | 37 => 93 | 164 => 123 | 5 => 5 | n => n, fun | n => n⟩
theorem Try.lays165 : Go.Proofs.Lays.n165 Try.prog Try.lays165_ren := {
 mixed := by kernel_rfl
 f165 := Try.func117.trans (congrArg some (by kernel_rfl))
 f240 := Try.func113.trans (congrArg some (by kernel_rfl))
 f241 := Try.func136.trans (congrArg some (by kernel_rfl))
 f276 := Try.func124.trans (congrArg some (by kernel_rfl))
 f277 := Try.func142.trans (congrArg some (by kernel_rfl))
 t0 := Try.underlying0
 a0 := Try.isAgg0
 z0 := Try.sizeOf0
 v0 := Try.zeroValue0
 t3 := Try.underlying3
 a3 := Try.isAgg3
 z3 := Try.sizeOf3
 v3 := Try.zeroValue3
 t4 := Try.underlying4
 a4 := Try.isAgg4
 z4 := Try.sizeOf4
 v4 := Try.zeroValue4
 t9 := Try.underlying9
 a9 := Try.isAgg9
 z9 := Try.sizeOf9
 v9 := Try.zeroValue9
 t20 := Try.underlying20
 a20 := Try.isAgg20
 z20 := Try.sizeOf20
 v20 := Try.zeroValue20
 t37 := Try.underlying93
 a37 := Try.isAgg93
 z37 := Try.sizeOf93
 v37 := Try.zeroValue93
 t70 := Try.underlying92
 a70 := Try.isAgg92
 z70 := Try.sizeOf92
 v70 := Try.zeroValue92
 t72 := Try.underlying95
 a72 := Try.isAgg95
 z72 := Try.sizeOf95
 v72 := Try.zeroValue95
 t164 := Try.underlying123
 a164 := Try.isAgg123
 z164 := Try.sizeOf123
 v164 := Try.zeroValue123 }
theorem Try.Builder_Extra_165 : Builder.Extra Try.prog Try.lays165_ren := {
 sizeBuilder := by kernel_rfl
 liesBuilder := by kernel_rfl
 t5 := Try.underlying5
 a5 := Try.isAgg5
 z5 := Try.sizeOf5
 v5 := Try.zeroValue5
 infoByte := by kernel_rfl
 cellsByte := by kernel_rfl
 sizeByte := by kernel_rfl
 neB5 := by decide }
open Go.RowKit in
theorem Try.Builder_Grow_fresh (B b n : Nat) (w : World) (hB : B ≤ b) (hbk : w.heap[b]? = some (.cells #[.pointer none, .slice none 0 0] 95 (0, 0))) (hBw : B ≤ w.heap.size) (hn : n ≤ 281474976710656) :
  Calls Try.prog 117 #[.pointer (some ⟨b, 0, none⟩), .int .i64 n] w fun e w' => e = .returned (.tuple #[]) ∧ (Lib.BuilderAt 95 5 B b (.pointer (some ⟨b, 0, none⟩)) [] w' ∧ Below B w w') := Any.Builder_Grow_fresh Try.lays165 Try.Builder_Extra_165 B b n w hB hbk hBw hn
def Try.lays156_ren : Go.Shelf.Ren := ⟨fun | 156 => 101 | 165 => 117 | 166 => 92 | 169 => 93 | 240 => 113 | 241 => 136 | 276 => 124 | 277 => 142 | n => n, fun | 31 => 24 | 9 => 9 | 3 => 3 | 4 => 4 | 0 => 0 | 20 => 20 | 72 => 95 | 76 => 98 | 70 => 92 | 37 => 93 | 75 => 97 | 127 => 118 | 164 => 123 | 5 => 5 | 80 => 64 | n => n, fun | n => n⟩
theorem Try.lays156 : Go.Proofs.Lays.n156 Try.prog Try.lays156_ren := {
 mixed := by kernel_rfl
 f156 := Try.func101.trans (congrArg some (by kernel_rfl))
 f165 := Try.func117.trans (congrArg some (by kernel_rfl))
 f166 := Try.func92.trans (congrArg some (by kernel_rfl))
 f169 := Try.func93.trans (congrArg some (by kernel_rfl))
 f240 := Try.func113.trans (congrArg some (by kernel_rfl))
 f241 := Try.func136.trans (congrArg some (by kernel_rfl))
 f276 := Try.func124.trans (congrArg some (by kernel_rfl))
 f277 := Try.func142.trans (congrArg some (by kernel_rfl))
 t0 := Try.underlying0
 a0 := Try.isAgg0
 z0 := Try.sizeOf0
 v0 := Try.zeroValue0
 t3 := Try.underlying3
 a3 := Try.isAgg3
 z3 := Try.sizeOf3
 v3 := Try.zeroValue3
 t4 := Try.underlying4
 a4 := Try.isAgg4
 z4 := Try.sizeOf4
 v4 := Try.zeroValue4
 t9 := Try.underlying9
 a9 := Try.isAgg9
 z9 := Try.sizeOf9
 v9 := Try.zeroValue9
 t20 := Try.underlying20
 a20 := Try.isAgg20
 z20 := Try.sizeOf20
 v20 := Try.zeroValue20
 t31 := Try.underlying24
 a31 := Try.isAgg24
 z31 := Try.sizeOf24
 v31 := Try.zeroValue24
 t37 := Try.underlying93
 a37 := Try.isAgg93
 z37 := Try.sizeOf93
 v37 := Try.zeroValue93
 t70 := Try.underlying92
 a70 := Try.isAgg92
 z70 := Try.sizeOf92
 v70 := Try.zeroValue92
 t72 := Try.underlying95
 a72 := Try.isAgg95
 z72 := Try.sizeOf95
 v72 := Try.zeroValue95
 t75 := Try.underlying97
 a75 := Try.isAgg97
 z75 := Try.sizeOf97
 v75 := Try.zeroValue97
 t76 := Try.underlying98
 a76 := Try.isAgg98
 z76 := Try.sizeOf98
 v76 := Try.zeroValue98
 t127 := Try.underlying118
 a127 := Try.isAgg118
 z127 := Try.sizeOf118
 v127 := Try.zeroValue118
 t164 := Try.underlying123
 a164 := Try.isAgg123
 z164 := Try.sizeOf123
 v164 := Try.zeroValue123 }
theorem Try.Builder_Extra_156 : Builder.Extra Try.prog Try.lays156_ren := {
 sizeBuilder := by kernel_rfl
 liesBuilder := by kernel_rfl
 t5 := Try.underlying5
 a5 := Try.isAgg5
 z5 := Try.sizeOf5
 v5 := Try.zeroValue5
 infoByte := by kernel_rfl
 cellsByte := by kernel_rfl
 sizeByte := by kernel_rfl
 neB5 := by decide }
open Go.RowKit in
theorem Try.strings_Join_none (a : Option Addr) (c : Nat) (sep : ByteArray) (w : World) :
  Calls Try.prog 101 #[.slice a 0 c, .string sep] w fun e w' => e = .returned (.string ⟨#[]⟩) ∧ w' = w := Any.strings_Join_none Try.lays156 Try.Builder_Extra_156 a c sep w
open Go.RowKit in
theorem Try.strings_Join (bk o c : Nat) (xs : List ByteArray) (sep : ByteArray) (w : World) (hcells : ∀ (j : Nat) x, xs[j]? = some x → w.cell? ⟨bk, o + j, none⟩ = some (.string x)) (hbk : bk < w.heap.size) (hN : xs.length ≤ 140737488355328) (hcap : xs.length ≤ c) (hlen : (Lib.join (xs.map (·.data.toList)) sep.data.toList).length ≤ 140737488355328) :
  Calls Try.prog 101 #[.slice (some ⟨bk, o, none⟩) xs.length c, .string sep] w fun e w' => e = .returned (.string ⟨(Lib.join (xs.map (·.data.toList)) sep.data.toList).toArray⟩) ∧ Below w.heap.size w w' := Any.strings_Join Try.lays156 Try.Builder_Extra_156 bk o c xs sep w hcells hbk hN hcap hlen
def Try.lays119_ren : Go.Shelf.Ren := ⟨fun | 119 => 119 | n => n, fun | 21 => 21 | 4 => 4 | n => n, fun | n => n⟩
theorem Try.lays119 : Go.Proofs.Lays.n119 Try.prog Try.lays119_ren := {
 mixed := by kernel_rfl
 f119 := Try.func119.trans (congrArg some (by kernel_rfl))
 t4 := Try.underlying4
 a4 := Try.isAgg4
 z4 := Try.sizeOf4
 v4 := Try.zeroValue4
 t21 := Try.underlying21
 a21 := Try.isAgg21
 z21 := Try.sizeOf21
 v21 := Try.zeroValue21 }
theorem Try.utf8_ValidRune (r : Int) (w : World) :
  Calls Try.prog 119 #[.int .i32 r] w fun e w' => e = .returned (.bool (Lib.validRune r)) ∧ w' = w := Any.utf8_ValidRune Try.lays119 r w
def Try.lays128_ren : Go.Shelf.Ren := ⟨fun | 128 => 133 | n => n, fun | 51 => 106 | 3 => 3 | 4 => 4 | 46 => 71 | 5 => 5 | 9 => 9 | n => n, fun | n => n⟩
theorem Try.lays128 : Go.Proofs.Lays.n128 Try.prog Try.lays128_ren := {
 mixed := by kernel_rfl
 f128 := Try.func133.trans (congrArg some (by kernel_rfl))
 t3 := Try.underlying3
 a3 := Try.isAgg3
 z3 := Try.sizeOf3
 v3 := Try.zeroValue3
 t4 := Try.underlying4
 a4 := Try.isAgg4
 z4 := Try.sizeOf4
 v4 := Try.zeroValue4
 t5 := Try.underlying5
 a5 := Try.isAgg5
 z5 := Try.sizeOf5
 v5 := Try.zeroValue5
 t9 := Try.underlying9
 a9 := Try.isAgg9
 z9 := Try.sizeOf9
 v9 := Try.zeroValue9
 t46 := Try.underlying71
 a46 := Try.isAgg71
 z46 := Try.sizeOf71
 v46 := Try.zeroValue71
 t51 := Try.underlying106
 a51 := Try.isAgg106
 z51 := Try.sizeOf106
 v51 := Try.zeroValue106 }
theorem Try.bits_Len32 (x : Int) (w : World) (h0 : 0 ≤ x) (h1 : x ≤ 4294967295) :
  Calls Try.prog 133 #[.int .u32 x] w fun e w' => e = .returned (.int .i64 (Lib.bitLen x.toNat)) ∧ w' = w := Any.bits_Len32 Try.lays128 x w h0 h1
def Try.lays125_ren : Go.Shelf.Ren := ⟨fun | 125 => 115 | 128 => 133 | 129 => 134 | n => n, fun | 46 => 71 | 3 => 3 | 51 => 106 | 53 => 108 | 4 => 4 | 5 => 5 | 9 => 9 | n => n, fun | n => n⟩
theorem Try.lays125 : Go.Proofs.Lays.n125 Try.prog Try.lays125_ren := {
 mixed := by kernel_rfl
 f125 := Try.func115.trans (congrArg some (by kernel_rfl))
 f128 := Try.func133.trans (congrArg some (by kernel_rfl))
 f129 := Try.func134.trans (congrArg some (by kernel_rfl))
 t3 := Try.underlying3
 a3 := Try.isAgg3
 z3 := Try.sizeOf3
 v3 := Try.zeroValue3
 t4 := Try.underlying4
 a4 := Try.isAgg4
 z4 := Try.sizeOf4
 v4 := Try.zeroValue4
 t5 := Try.underlying5
 a5 := Try.isAgg5
 z5 := Try.sizeOf5
 v5 := Try.zeroValue5
 t9 := Try.underlying9
 a9 := Try.isAgg9
 z9 := Try.sizeOf9
 v9 := Try.zeroValue9
 t46 := Try.underlying71
 a46 := Try.isAgg71
 z46 := Try.sizeOf71
 v46 := Try.zeroValue71
 t51 := Try.underlying106
 a51 := Try.isAgg106
 z51 := Try.sizeOf106
 v51 := Try.zeroValue106
 t53 := Try.underlying108
 a53 := Try.isAgg108
 z53 := Try.sizeOf108
 v53 := Try.zeroValue108 }
theorem Try.bits_Len (x : Int) (w : World) (h0 : 0 ≤ x) (h1 : x ≤ 18446744073709551615) :
  Calls Try.prog 115 #[.int .u64 x] w fun e w' => e = .returned (.int .i64 (Lib.bitLen x.toNat)) ∧ w' = w := Any.bits_Len Try.lays125 x w h0 h1
def Try.lays213_ren : Go.Shelf.Ren := ⟨fun | 213 => 116 | 265 => 135 | n => n, fun | 9 => 9 | 3 => 3 | n => n, fun | n => n⟩
theorem Try.lays213 : Go.Proofs.Lays.n213 Try.prog Try.lays213_ren := {
 mixed := by kernel_rfl
 f213 := Try.func116.trans (congrArg some (by kernel_rfl))
 f265 := Try.func135.trans (congrArg some (by kernel_rfl))
 t3 := Try.underlying3
 a3 := Try.isAgg3
 z3 := Try.sizeOf3
 v3 := Try.zeroValue3
 t9 := Try.underlying9
 a9 := Try.isAgg9
 z9 := Try.sizeOf9
 v9 := Try.zeroValue9 }
open Go.RowKit in
theorem Try.bytealg_CompareString (a b : ByteArray) (w : World) :
  Calls Try.prog 116 #[.string a, .string b] w fun e w' => e = .returned (.int .i64 (Lib.compareBytes a.data.toList b.data.toList)) ∧ w' = w := Any.bytealg_CompareString Try.lays213 a b w
def Try.lays106_ren : Go.Shelf.Ren := ⟨fun | 106 => 97 | 213 => 116 | 265 => 135 | n => n, fun | 9 => 9 | 3 => 3 | n => n, fun | n => n⟩
theorem Try.lays106 : Go.Proofs.Lays.n106 Try.prog Try.lays106_ren := {
 mixed := by kernel_rfl
 f106 := Try.func97.trans (congrArg some (by kernel_rfl))
 f213 := Try.func116.trans (congrArg some (by kernel_rfl))
 f265 := Try.func135.trans (congrArg some (by kernel_rfl))
 t3 := Try.underlying3
 a3 := Try.isAgg3
 z3 := Try.sizeOf3
 v3 := Try.zeroValue3
 t9 := Try.underlying9
 a9 := Try.isAgg9
 z9 := Try.sizeOf9
 v9 := Try.zeroValue9 }
open Go.RowKit in
theorem Try.strings_Compare (a b : ByteArray) (w : World) :
  Calls Try.prog 97 #[.string a, .string b] w fun e w' => e = .returned (.int .i64 (Lib.compareBytes a.data.toList b.data.toList)) ∧ w' = w := Any.strings_Compare Try.lays106 a b w
def Try.lays137_ren : Go.Shelf.Ren := ⟨fun | 137 => 82 | 217 => 105 | 266 => 118 | n => n, fun | 9 => 9 | 5 => 5 | 3 => 3 | n => n, fun | n => n⟩
theorem Try.lays137 : Go.Proofs.Lays.n137 Try.prog Try.lays137_ren := {
 mixed := by kernel_rfl
 f137 := Try.func82.trans (congrArg some (by kernel_rfl))
 f217 := Try.func105.trans (congrArg some (by kernel_rfl))
 f266 := Try.func118.trans (congrArg some (by kernel_rfl))
 t3 := Try.underlying3
 a3 := Try.isAgg3
 z3 := Try.sizeOf3
 v3 := Try.zeroValue3
 t5 := Try.underlying5
 a5 := Try.isAgg5
 z5 := Try.sizeOf5
 v5 := Try.zeroValue5
 t9 := Try.underlying9
 a9 := Try.isAgg9
 z9 := Try.sizeOf9
 v9 := Try.zeroValue9 }
open Go.RowKit in
theorem Try.strings_IndexByte (s : ByteArray) (c : Int) (w : World) :
  Calls Try.prog 82 #[.string s, .int .u8 c] w fun e w' => e = .returned (.int .i64 (Lib.indexByte s.data.toList c.toNat.toUInt8)) ∧ w' = w := Any.strings_IndexByte Try.lays137 s c w
open Go.RowKit in
theorem Try.Builder_String_f (B b : Nat) (l : List UInt8) (w : World) (h : Lib.IsBuilderF 95 5 B b (Lib.byteCells l) w) (h0 : l ≠ []) :
  Calls Try.prog 93 #[.pointer (some ⟨b, 0, none⟩)] w fun e w' => e = .returned (.string ⟨l.toArray⟩) ∧ (Lib.IsBuilderF 95 5 B b (Lib.byteCells l) w' ∧ Below B w w') := Any.Builder_String_f Try.lays169 Try.Builder_Extra_169 B b l w h h0
open Go.RowKit in
theorem Try.Builder_String_empty_f (B b : Nat) (w : World) (h : Lib.IsBuilderF 95 5 B b [] w) (hBw : B ≤ w.heap.size) :
  Calls Try.prog 93 #[.pointer (some ⟨b, 0, none⟩)] w fun e w' => e = .returned (.string ⟨#[]⟩) ∧ (Lib.IsBuilderF 95 5 B b [] w' ∧ Below B w w') := Any.Builder_String_empty_f Try.lays169 Try.Builder_Extra_169 B b w h hBw
open Go.RowKit in
theorem Try.Builder_String_any_f (B b : Nat) (l : List UInt8) (w : World) (h : Lib.IsBuilderF 95 5 B b (Lib.byteCells l) w) (hBw : B ≤ w.heap.size) :
  Calls Try.prog 93 #[.pointer (some ⟨b, 0, none⟩)] w fun e w' => e = .returned (.string ⟨l.toArray⟩) ∧ (Lib.IsBuilderF 95 5 B b (Lib.byteCells l) w' ∧ Below B w w') := Any.Builder_String_any_f Try.lays169 Try.Builder_Extra_169 B b l w h hBw
open Go.RowKit in
theorem Try.Builder_String_k (B b : Nat) (l : List UInt8) (w : World) (h : Lib.IsBuilderF 95 5 B b (Lib.byteCells l) w) (h0 : l ≠ []) :
  Calls Try.prog 93 #[.pointer (some ⟨b, 0, none⟩)] w fun e w' => e = .returned (.string ⟨l.toArray⟩) ∧ (Lib.IsBuilderF 95 5 B b (Lib.byteCells l) w' ∧ Below B w w' ∧ Lib.OthersKept 5 (some b) w w') := Any.Builder_String_k Try.lays169 Try.Builder_Extra_169 B b l w h h0
open Go.RowKit in
theorem Try.Builder_String_empty_k (B b : Nat) (w : World) (h : Lib.IsBuilderF 95 5 B b [] w) (hBw : B ≤ w.heap.size) :
  Calls Try.prog 93 #[.pointer (some ⟨b, 0, none⟩)] w fun e w' => e = .returned (.string ⟨#[]⟩) ∧ (Lib.IsBuilderF 95 5 B b [] w' ∧ Below B w w' ∧ Lib.OthersKept 5 (some b) w w') := Any.Builder_String_empty_k Try.lays169 Try.Builder_Extra_169 B b w h hBw
open Go.RowKit in
theorem Try.Builder_String_any_k (B b : Nat) (l : List UInt8) (w : World) (h : Lib.IsBuilderF 95 5 B b (Lib.byteCells l) w) (hBw : B ≤ w.heap.size) :
  Calls Try.prog 93 #[.pointer (some ⟨b, 0, none⟩)] w fun e w' => e = .returned (.string ⟨l.toArray⟩) ∧ (Lib.IsBuilderF 95 5 B b (Lib.byteCells l) w' ∧ Below B w w' ∧ Lib.OthersKept 5 (some b) w w') := Any.Builder_String_any_k Try.lays169 Try.Builder_Extra_169 B b l w h hBw
open Go.RowKit in
theorem Try.Builder_grow_fresh_cap (B b n : Nat) (w : World) (hB : B ≤ b) (hbk : w.heap[b]? = some (.cells #[.pointer (some ⟨b, 0, none⟩), .slice none 0 0] 95 (0, 0))) (hBw : B ≤ w.heap.size) (hn : n ≤ 281474976710656) :
  Calls Try.prog 136 #[.pointer (some ⟨b, 0, none⟩), .int .i64 n] w fun e w' => e = .returned (.tuple #[]) ∧ (Lib.BuilderAt 95 5 B b (.pointer (some ⟨b, 0, none⟩)) [] w' ∧ Below B w w') ∧ ∃ p cap, w'.cell? ⟨b, 1, none⟩ = some (.slice p 0 cap) ∧ n ≤ cap := Any.Builder_grow_fresh_cap Try.lays241 Try.Builder_Extra_241 B b n w hB hbk hBw hn
open Go.RowKit in
theorem Try.Builder_Grow_fresh_cap (B b n : Nat) (w : World) (hB : B ≤ b) (hbk : w.heap[b]? = some (.cells #[.pointer none, .slice none 0 0] 95 (0, 0))) (hBw : B ≤ w.heap.size) (hn : n ≤ 281474976710656) :
  Calls Try.prog 117 #[.pointer (some ⟨b, 0, none⟩), .int .i64 n] w fun e w' => e = .returned (.tuple #[]) ∧ (Lib.BuilderAt 95 5 B b (.pointer (some ⟨b, 0, none⟩)) [] w' ∧ Below B w w') ∧ ∃ p cap, w'.cell? ⟨b, 1, none⟩ = some (.slice p 0 cap) ∧ n ≤ cap := Any.Builder_Grow_fresh_cap Try.lays165 Try.Builder_Extra_165 B b n w hB hbk hBw hn
def Try.lays129_ren : Go.Shelf.Ren := ⟨fun | 129 => 134 | n => n, fun | 53 => 108 | 3 => 3 | 4 => 4 | 46 => 71 | 5 => 5 | 9 => 9 | n => n, fun | n => n⟩
theorem Try.lays129 : Go.Proofs.Lays.n129 Try.prog Try.lays129_ren := {
 mixed := by kernel_rfl
 f129 := Try.func134.trans (congrArg some (by kernel_rfl))
 t3 := Try.underlying3
 a3 := Try.isAgg3
 z3 := Try.sizeOf3
 v3 := Try.zeroValue3
 t4 := Try.underlying4
 a4 := Try.isAgg4
 z4 := Try.sizeOf4
 v4 := Try.zeroValue4
 t5 := Try.underlying5
 a5 := Try.isAgg5
 z5 := Try.sizeOf5
 v5 := Try.zeroValue5
 t9 := Try.underlying9
 a9 := Try.isAgg9
 z9 := Try.sizeOf9
 v9 := Try.zeroValue9
 t46 := Try.underlying71
 a46 := Try.isAgg71
 z46 := Try.sizeOf71
 v46 := Try.zeroValue71
 t53 := Try.underlying108
 a53 := Try.isAgg108
 z53 := Try.sizeOf108
 v53 := Try.zeroValue108 }
theorem Try.bits_Len64 (x : Int) (w : World) (h0 : 0 ≤ x) (h1 : x ≤ 18446744073709551615) :
  Calls Try.prog 134 #[.int .u64 x] w fun e w' => e = .returned (.int .i64 (Lib.bitLen x.toNat)) ∧ w' = w := Any.bits_Len64 Try.lays129 x w h0 h1
def Try.lays217_ren : Go.Shelf.Ren := ⟨fun | 217 => 105 | 266 => 118 | n => n, fun | 9 => 9 | 5 => 5 | 3 => 3 | n => n, fun | n => n⟩
theorem Try.lays217 : Go.Proofs.Lays.n217 Try.prog Try.lays217_ren := {
 mixed := by kernel_rfl
 f217 := Try.func105.trans (congrArg some (by kernel_rfl))
 f266 := Try.func118.trans (congrArg some (by kernel_rfl))
 t3 := Try.underlying3
 a3 := Try.isAgg3
 z3 := Try.sizeOf3
 v3 := Try.zeroValue3
 t5 := Try.underlying5
 a5 := Try.isAgg5
 z5 := Try.sizeOf5
 v5 := Try.zeroValue5
 t9 := Try.underlying9
 a9 := Try.isAgg9
 z9 := Try.sizeOf9
 v9 := Try.zeroValue9 }
open Go.RowKit Go.Lib in
theorem Try.stringslite_IndexByte (s : ByteArray) (c : Int) (w : World) :
  Calls Try.prog 105 #[.string s, .int .u8 c] w fun e w' => e = .returned (.int .i64 (Lib.indexByte s.data.toList c.toNat.toUInt8)) ∧ w' = w := Any.stringslite_IndexByte Try.lays217 s c w
def Try.lays224_ren : Go.Shelf.Ren := ⟨fun | 224 => 120 | n => n, fun | 3 => 3 | n => n, fun | n => n⟩
theorem Try.lays224 : Go.Proofs.Lays.n224 Try.prog Try.lays224_ren := {
 mixed := by kernel_rfl
 f224 := Try.func120.trans (congrArg some (by kernel_rfl))
 t3 := Try.underlying3
 a3 := Try.isAgg3
 z3 := Try.sizeOf3
 v3 := Try.zeroValue3 }
open Go.RowKit Go.Lib in
theorem Try.bytealg_Cutover (n : Int) (h0 : 0 ≤ n) (h1 : n < 4611686018427387904) (w : World) :
  Calls Try.prog 120 #[.int .i64 n] w fun e w' => e = .returned (.int .i64 ((n + 16) / 8)) ∧ w' = w := Any.bytealg_Cutover Try.lays224 n h0 h1 w
def Try.lays152_ren : Go.Shelf.Ren := ⟨fun | 152 => 106 | 137 => 82 | 119 => 119 | 224 => 120 | 225 => 121 | 217 => 105 | 266 => 118 | n => n, fun | 9 => 9 | 21 => 21 | 3 => 3 | 4 => 4 | 5 => 5 | 0 => 0 | 46 => 71 | n => n, fun | n => n⟩
theorem Try.lays152 : Go.Proofs.Lays.n152 Try.prog Try.lays152_ren := {
 mixed := by kernel_rfl
 f119 := Try.func119.trans (congrArg some (by kernel_rfl))
 f137 := Try.func82.trans (congrArg some (by kernel_rfl))
 f152 := Try.func106.trans (congrArg some (by kernel_rfl))
 f217 := Try.func105.trans (congrArg some (by kernel_rfl))
 f224 := Try.func120.trans (congrArg some (by kernel_rfl))
 f225 := Try.func121.trans (congrArg some (by kernel_rfl))
 f266 := Try.func118.trans (congrArg some (by kernel_rfl))
 t0 := Try.underlying0
 a0 := Try.isAgg0
 z0 := Try.sizeOf0
 v0 := Try.zeroValue0
 t3 := Try.underlying3
 a3 := Try.isAgg3
 z3 := Try.sizeOf3
 v3 := Try.zeroValue3
 t4 := Try.underlying4
 a4 := Try.isAgg4
 z4 := Try.sizeOf4
 v4 := Try.zeroValue4
 t5 := Try.underlying5
 a5 := Try.isAgg5
 z5 := Try.sizeOf5
 v5 := Try.zeroValue5
 t9 := Try.underlying9
 a9 := Try.isAgg9
 z9 := Try.sizeOf9
 v9 := Try.zeroValue9
 t21 := Try.underlying21
 a21 := Try.isAgg21
 z21 := Try.sizeOf21
 v21 := Try.zeroValue21
 t46 := Try.underlying71
 a46 := Try.isAgg71
 z46 := Try.sizeOf71
 v46 := Try.zeroValue71 }
open Go.RowKit Go.Lib in
theorem Try.strings_IndexRune_ascii (s : ByteArray) (r : Int) (w : World) (h0 : 0 ≤ r) (h1 : r < 128) :
  Calls Try.prog 106 #[.string s, .int .i32 r] w fun e w' => e = .returned (.int .i64 (Lib.indexByte s.data.toList r.toNat.toUInt8)) ∧ w' = w := Any.strings_IndexRune_ascii Try.lays152 s r w h0 h1
def Try.laysSlF20_f125_ren : Go.Shelf.Ren := ⟨fun | 20 => 125 | n => n, fun | 24 => 3 | 22 => 46 | 3 => 3 | 25 => 103 | 4 => 4 | 0 => 0 | n => n, fun | n => n⟩
theorem Try.laysSlF20_f125 : Go.Proofs.SlLaysF.n20 Try.prog Try.laysSlF20_f125_ren := {
 mixed := by kernel_rfl
 f20 := ⟨Try.f125.name, by decide, Try.func125.trans (congrArg some (by kernel_rfl))⟩
 t0 := Try.underlying0
 a0 := Try.isAgg0
 z0 := Try.sizeOf0
 v0 := Try.zeroValue0
 t3 := Try.underlying3
 a3 := Try.isAgg3
 z3 := Try.sizeOf3
 v3 := Try.zeroValue3
 t4 := Try.underlying4
 a4 := Try.isAgg4
 z4 := Try.sizeOf4
 v4 := Try.zeroValue4
 t22 := Try.underlying46
 a22 := Try.isAgg46
 z22 := Try.sizeOf46
 v22 := Try.zeroValue46
 a24 := Try.isAgg3
 z24 := Try.sizeOf3
 t25 := Try.underlying103
 a25 := Try.isAgg103
 z25 := Try.sizeOf103
 v25 := Try.zeroValue103 }
open Go.RowKit Go.Lib Go.Sort in
theorem Try.insertionSortCmpFunc_one {α : Type} [Inhabited α] (enc : α → Value) (hO : OneCell enc) (cf : α → α → Int) (g : Nat) (cb : Array Value) (blk off cap a b : Nat) (d : Array α) (w : World) (eg : ∀ args w, (callFunc g args).run Try.prog w = .ok (.enter g args) w) (hcmp : CmpReads Try.prog g cb enc cf blk off d.size w) (hH : Holds enc w blk off d) (hab : a ≤ b) (hb : b ≤ d.size) (hsz : d.size < 4611686018427387904) :
  Calls Try.prog 125 #[.slice (some ⟨blk, off, none⟩) d.size cap, .int .i64 a, .int .i64 b, .func (.func g) #[] cb] w fun e w' =>
   e = .returned (.tuple #[]) ∧ ∃ n, w' = (putRow enc w blk off (Sort.insertionSort (ltOf cf) d a b)).drewN n := Any.insertionSortCmpFunc_one Try.laysSlF20_f125 enc hO cf g cb blk off cap a b d w eg hcmp hH hab hb hsz
def Try.laysSlF46_f137_ren : Go.Shelf.Ren := ⟨fun | 46 => 137 | n => n, fun | 24 => 3 | 22 => 46 | 3 => 3 | 25 => 103 | 4 => 4 | 0 => 0 | n => n, fun | n => n⟩
theorem Try.laysSlF46_f137 : Go.Proofs.SlLaysF.n46 Try.prog Try.laysSlF46_f137_ren := {
 mixed := by kernel_rfl
 f46 := ⟨Try.f137.name, by decide, Try.func137.trans (congrArg some (by kernel_rfl))⟩
 t0 := Try.underlying0
 a0 := Try.isAgg0
 z0 := Try.sizeOf0
 v0 := Try.zeroValue0
 t3 := Try.underlying3
 a3 := Try.isAgg3
 z3 := Try.sizeOf3
 v3 := Try.zeroValue3
 t4 := Try.underlying4
 a4 := Try.isAgg4
 z4 := Try.sizeOf4
 v4 := Try.zeroValue4
 t22 := Try.underlying46
 a22 := Try.isAgg46
 z22 := Try.sizeOf46
 v22 := Try.zeroValue46
 a24 := Try.isAgg3
 z24 := Try.sizeOf3
 t25 := Try.underlying103
 a25 := Try.isAgg103
 z25 := Try.sizeOf103
 v25 := Try.zeroValue103 }
open Go.RowKit Go.Lib Go.Sort in
theorem Try.siftDownCmpFunc {α : Type} [Inhabited α] (enc : α → Value) (cf : α → α → Int) (g : Nat) (cb : Array Value) (blk off cap lo hi first : Nat) (d0 d : Array α) (w0 w : World) (eg : ∀ args w, (callFunc g args).run Try.prog w = .ok (.enter g args) w) (hcmp : CmpLays1 Try.prog g cb enc cf blk off d0.size w0) (R : Row1 enc w0 blk off d0) (hs : d0.size = d.size) (S : SW enc w0 blk off d w) (hlo : lo ≤ hi) (hb : first + hi ≤ d.size) (hsz : d.size < 4611686018427387904) :
  Calls Try.prog 137 #[.slice (some ⟨blk, off, none⟩) d.size cap, .int .i64 lo, .int .i64 hi, .int .i64 first, .func (.func g) #[] cb] w fun e w' =>
   e = .returned (.tuple #[]) ∧ SW enc w0 blk off (siftDown (ltOf cf) hi first lo d) w' := Any.siftDownCmpFunc Try.laysSlF46_f137 enc cf g cb blk off cap lo hi first d0 d w0 w eg hcmp R hs S hlo hb hsz
def Try.laysSlF21_f126_ren : Go.Shelf.Ren := ⟨fun | 21 => 126 | 46 => 137 | n => n, fun | 24 => 3 | 22 => 46 | 3 => 3 | 25 => 103 | 4 => 4 | 0 => 0 | n => n, fun | n => n⟩
theorem Try.laysSlF21_f126 : Go.Proofs.SlLaysF.n21 Try.prog Try.laysSlF21_f126_ren := {
 mixed := by kernel_rfl
 f21 := ⟨Try.f126.name, by decide, Try.func126.trans (congrArg some (by kernel_rfl))⟩
 f46 := ⟨Try.f137.name, by decide, Try.func137.trans (congrArg some (by kernel_rfl))⟩
 t0 := Try.underlying0
 a0 := Try.isAgg0
 z0 := Try.sizeOf0
 v0 := Try.zeroValue0
 t3 := Try.underlying3
 a3 := Try.isAgg3
 z3 := Try.sizeOf3
 v3 := Try.zeroValue3
 t4 := Try.underlying4
 a4 := Try.isAgg4
 z4 := Try.sizeOf4
 v4 := Try.zeroValue4
 t22 := Try.underlying46
 a22 := Try.isAgg46
 z22 := Try.sizeOf46
 v22 := Try.zeroValue46
 a24 := Try.isAgg3
 z24 := Try.sizeOf3
 t25 := Try.underlying103
 a25 := Try.isAgg103
 z25 := Try.sizeOf103
 v25 := Try.zeroValue103 }
open Go.RowKit Go.Lib Go.Sort in
theorem Try.heapSortCmpFunc {α : Type} [Inhabited α] (enc : α → Value) (cf : α → α → Int) (g : Nat) (cb : Array Value) (blk off cap a b : Nat) (d0 d : Array α) (w0 w : World) (eg : ∀ args w, (callFunc g args).run Try.prog w = .ok (.enter g args) w) (hcmp : CmpLays1 Try.prog g cb enc cf blk off d0.size w0) (R : Row1 enc w0 blk off d0) (hs : d0.size = d.size) (S : SW enc w0 blk off d w) (hab : a ≤ b) (hb : b ≤ d.size) (hsz : d.size < 4611686018427387904) :
  Calls Try.prog 126 #[.slice (some ⟨blk, off, none⟩) d.size cap, .int .i64 a, .int .i64 b, .func (.func g) #[] cb] w fun e w' =>
   e = .returned (.tuple #[]) ∧ SW enc w0 blk off (heapSort (ltOf cf) d a b) w' := Any.heapSortCmpFunc Try.laysSlF21_f126 enc cf g cb blk off cap a b d0 d w0 w eg hcmp R hs S hab hb hsz
open Go.RowKit Go.Lib Go.Sort in
theorem Try.insertionSortCmpFunc_s {α : Type} [Inhabited α] (enc : α → Value) (cf : α → α → Int) (g : Nat) (cb : Array Value) (blk off cap a b : Nat) (d0 d : Array α) (w0 w : World) (eg : ∀ args w, (callFunc g args).run Try.prog w = .ok (.enter g args) w) (hcmp : CmpLays1 Try.prog g cb enc cf blk off d0.size w0) (R : Row1 enc w0 blk off d0) (hs : d0.size = d.size) (S : SW enc w0 blk off d w) (hab : a ≤ b) (hb : b ≤ d.size) (hsz : d.size < 4611686018427387904) :
  Calls Try.prog 125 #[.slice (some ⟨blk, off, none⟩) d.size cap, .int .i64 a, .int .i64 b, .func (.func g) #[] cb] w fun e w' => e = .returned (.tuple #[]) ∧ SW enc w0 blk off (Sort.insertionSort (ltOf cf) d a b) w' := Any.insertionSortCmpFunc_s Try.laysSlF20_f125 enc cf g cb blk off cap a b d0 d w0 w eg hcmp R hs S hab hb hsz
def Try.laysSlF57_f143_ren : Go.Shelf.Ren := ⟨fun | 57 => 143 | n => n, fun | 24 => 3 | 22 => 46 | 3 => 3 | 70 => 136 | 25 => 103 | 0 => 0 | 4 => 4 | n => n, fun | n => n⟩
theorem Try.laysSlF57_f143 : Go.Proofs.SlLaysF.n57 Try.prog Try.laysSlF57_f143_ren := {
 mixed := by kernel_rfl
 f57 := ⟨Try.f143.name, by decide, Try.func143.trans (congrArg some (by kernel_rfl))⟩
 t0 := Try.underlying0
 a0 := Try.isAgg0
 z0 := Try.sizeOf0
 v0 := Try.zeroValue0
 t3 := Try.underlying3
 a3 := Try.isAgg3
 z3 := Try.sizeOf3
 v3 := Try.zeroValue3
 t4 := Try.underlying4
 a4 := Try.isAgg4
 z4 := Try.sizeOf4
 v4 := Try.zeroValue4
 t22 := Try.underlying46
 a22 := Try.isAgg46
 z22 := Try.sizeOf46
 v22 := Try.zeroValue46
 a24 := Try.isAgg3
 z24 := Try.sizeOf3
 t25 := Try.underlying103
 a25 := Try.isAgg103
 z25 := Try.sizeOf103
 v25 := Try.zeroValue103
 t70 := Try.underlying136
 a70 := Try.isAgg136
 z70 := Try.sizeOf136
 v70 := Try.zeroValue136 }
open Go.RowKit Go.Lib Go.Sort in
theorem Try.order2CmpFunc {α : Type} [Inhabited α] (enc : α → Value) (cf : α → α → Int) (g : Nat) (cb : Array Value) (blk off cap a b c s : Nat) (d0 d : Array α) (w0 W : World) (eg : ∀ args w, (callFunc g args).run Try.prog w = .ok (.enter g args) w) (hcmp : CmpLays1 Try.prog g cb enc cf blk off d0.size w0) (R : Row1 enc w0 blk off d0) (hs : d0.size = d.size) (C : Cnt1 enc w0 blk off d c s W) (ha : a < d.size) (hb : b < d.size) (hsz : d.size < 4611686018427387904) (hss : s < 4611686018427387904) :
  Calls Try.prog 143 #[.slice (some ⟨blk, off, none⟩) d.size cap, .int .i64 a, .int .i64 b, .pointer (some ⟨c, 0, none⟩), .func (.func g) #[] cb] W fun e w' =>
   e = .returned (.tuple #[.int .i64 (order2 (ltOf cf) d a b s).1, .int .i64 (order2 (ltOf cf) d a b s).2.1]) ∧ Cnt1 enc w0 blk off d c (order2 (ltOf cf) d a b s).2.2 w' := Any.order2CmpFunc Try.laysSlF57_f143 enc cf g cb blk off cap a b c s d0 d w0 W eg hcmp R hs C ha hb hsz hss
def Try.laysSlF50_f141_ren : Go.Shelf.Ren := ⟨fun | 50 => 141 | 57 => 143 | n => n, fun | 24 => 3 | 22 => 46 | 3 => 3 | 70 => 136 | 25 => 103 | 77 => 140 | 0 => 0 | 4 => 4 | n => n, fun | n => n⟩
theorem Try.laysSlF50_f141 : Go.Proofs.SlLaysF.n50 Try.prog Try.laysSlF50_f141_ren := {
 mixed := by kernel_rfl
 f50 := ⟨Try.f141.name, by decide, Try.func141.trans (congrArg some (by kernel_rfl))⟩
 f57 := ⟨Try.f143.name, by decide, Try.func143.trans (congrArg some (by kernel_rfl))⟩
 t0 := Try.underlying0
 a0 := Try.isAgg0
 z0 := Try.sizeOf0
 v0 := Try.zeroValue0
 t3 := Try.underlying3
 a3 := Try.isAgg3
 z3 := Try.sizeOf3
 v3 := Try.zeroValue3
 t4 := Try.underlying4
 a4 := Try.isAgg4
 z4 := Try.sizeOf4
 v4 := Try.zeroValue4
 t22 := Try.underlying46
 a22 := Try.isAgg46
 z22 := Try.sizeOf46
 v22 := Try.zeroValue46
 a24 := Try.isAgg3
 z24 := Try.sizeOf3
 t25 := Try.underlying103
 a25 := Try.isAgg103
 z25 := Try.sizeOf103
 v25 := Try.zeroValue103
 t70 := Try.underlying136
 a70 := Try.isAgg136
 z70 := Try.sizeOf136
 v70 := Try.zeroValue136
 t77 := Try.underlying140
 a77 := Try.isAgg140
 z77 := Try.sizeOf140
 v77 := Try.zeroValue140 }
open Go.RowKit Go.Lib Go.Sort in
theorem Try.medianCmpFunc {α : Type} [Inhabited α] (enc : α → Value) (cf : α → α → Int) (g : Nat) (cb : Array Value) (blk off cap a b c' c s : Nat) (d0 d : Array α) (w0 W : World) (eg : ∀ args w, (callFunc g args).run Try.prog w = .ok (.enter g args) w) (hcmp : CmpLays1 Try.prog g cb enc cf blk off d0.size w0) (R : Row1 enc w0 blk off d0) (hs : d0.size = d.size) (C : Cnt1 enc w0 blk off d c s W) (ha : a < d.size) (hb : b < d.size) (hc : c' < d.size) (hsz : d.size < 4611686018427387904) (hss : s + 3 < 4611686018427387904) :
  Calls Try.prog 141 #[.slice (some ⟨blk, off, none⟩) d.size cap, .int .i64 a, .int .i64 b, .int .i64 c', .pointer (some ⟨c, 0, none⟩), .func (.func g) #[] cb] W fun e w' =>
   e = .returned (.int .i64 (median (ltOf cf) d a b c' s).1) ∧ Cnt1 enc w0 blk off d c (median (ltOf cf) d a b c' s).2 w' := Any.medianCmpFunc Try.laysSlF50_f141 enc cf g cb blk off cap a b c' c s d0 d w0 W eg hcmp R hs C ha hb hc hsz hss
def Try.laysSlF49_f140_ren : Go.Shelf.Ren := ⟨fun | 49 => 140 | 50 => 141 | 57 => 143 | n => n, fun | 24 => 3 | 22 => 46 | 3 => 3 | 70 => 136 | 25 => 103 | 77 => 140 | 0 => 0 | 4 => 4 | n => n, fun | n => n⟩
theorem Try.laysSlF49_f140 : Go.Proofs.SlLaysF.n49 Try.prog Try.laysSlF49_f140_ren := {
 mixed := by kernel_rfl
 f49 := ⟨Try.f140.name, by decide, Try.func140.trans (congrArg some (by kernel_rfl))⟩
 f50 := ⟨Try.f141.name, by decide, Try.func141.trans (congrArg some (by kernel_rfl))⟩
 f57 := ⟨Try.f143.name, by decide, Try.func143.trans (congrArg some (by kernel_rfl))⟩
 t0 := Try.underlying0
 a0 := Try.isAgg0
 z0 := Try.sizeOf0
 v0 := Try.zeroValue0
 t3 := Try.underlying3
 a3 := Try.isAgg3
 z3 := Try.sizeOf3
 v3 := Try.zeroValue3
 t4 := Try.underlying4
 a4 := Try.isAgg4
 z4 := Try.sizeOf4
 v4 := Try.zeroValue4
 t22 := Try.underlying46
 a22 := Try.isAgg46
 z22 := Try.sizeOf46
 v22 := Try.zeroValue46
 a24 := Try.isAgg3
 z24 := Try.sizeOf3
 t25 := Try.underlying103
 a25 := Try.isAgg103
 z25 := Try.sizeOf103
 v25 := Try.zeroValue103
 t70 := Try.underlying136
 a70 := Try.isAgg136
 z70 := Try.sizeOf136
 v70 := Try.zeroValue136
 t77 := Try.underlying140
 a77 := Try.isAgg140
 z77 := Try.sizeOf140
 v77 := Try.zeroValue140 }
open Go.RowKit Go.Lib Go.Sort in
theorem Try.medianAdjacentCmpFunc {α : Type} [Inhabited α] (enc : α → Value) (cf : α → α → Int) (g : Nat) (cb : Array Value) (blk off cap a c s : Nat) (d0 d : Array α) (w0 W : World) (eg : ∀ args w, (callFunc g args).run Try.prog w = .ok (.enter g args) w) (hcmp : CmpLays1 Try.prog g cb enc cf blk off d0.size w0) (R : Row1 enc w0 blk off d0) (hs : d0.size = d.size) (C : Cnt1 enc w0 blk off d c s W) (ha1 : 1 ≤ a) (ha2 : a + 1 < d.size) (hsz : d.size < 4611686018427387904) (hss : s + 3 < 4611686018427387904) :
  Calls Try.prog 140 #[.slice (some ⟨blk, off, none⟩) d.size cap, .int .i64 a, .pointer (some ⟨c, 0, none⟩), .func (.func g) #[] cb] W fun e w' =>
   e = .returned (.int .i64 (medianAdjacent (ltOf cf) d a s).1) ∧ Cnt1 enc w0 blk off d c (medianAdjacent (ltOf cf) d a s).2 w' := Any.medianAdjacentCmpFunc Try.laysSlF49_f140 enc cf g cb blk off cap a c s d0 d w0 W eg hcmp R hs C ha1 ha2 hsz hss
def Try.laysSlF23_f128_ren : Go.Shelf.Ren := ⟨fun | 23 => 128 | 49 => 140 | 50 => 141 | 57 => 143 | n => n, fun | 24 => 3 | 22 => 46 | 3 => 3 | 25 => 103 | 45 => 126 | 0 => 0 | 4 => 4 | 70 => 136 | 77 => 140 | n => n, fun | n => n⟩
theorem Try.laysSlF23_f128 : Go.Proofs.SlLaysF.n23 Try.prog Try.laysSlF23_f128_ren := {
 mixed := by kernel_rfl
 f23 := ⟨Try.f128.name, by decide, Try.func128.trans (congrArg some (by kernel_rfl))⟩
 f49 := ⟨Try.f140.name, by decide, Try.func140.trans (congrArg some (by kernel_rfl))⟩
 f50 := ⟨Try.f141.name, by decide, Try.func141.trans (congrArg some (by kernel_rfl))⟩
 f57 := ⟨Try.f143.name, by decide, Try.func143.trans (congrArg some (by kernel_rfl))⟩
 t0 := Try.underlying0
 a0 := Try.isAgg0
 z0 := Try.sizeOf0
 v0 := Try.zeroValue0
 t3 := Try.underlying3
 a3 := Try.isAgg3
 z3 := Try.sizeOf3
 v3 := Try.zeroValue3
 t4 := Try.underlying4
 a4 := Try.isAgg4
 z4 := Try.sizeOf4
 v4 := Try.zeroValue4
 t22 := Try.underlying46
 a22 := Try.isAgg46
 z22 := Try.sizeOf46
 v22 := Try.zeroValue46
 a24 := Try.isAgg3
 z24 := Try.sizeOf3
 t25 := Try.underlying103
 a25 := Try.isAgg103
 z25 := Try.sizeOf103
 v25 := Try.zeroValue103
 t45 := Try.underlying126
 a45 := Try.isAgg126
 z45 := Try.sizeOf126
 v45 := Try.zeroValue126
 t70 := Try.underlying136
 a70 := Try.isAgg136
 z70 := Try.sizeOf136
 v70 := Try.zeroValue136
 t77 := Try.underlying140
 a77 := Try.isAgg140
 z77 := Try.sizeOf140
 v77 := Try.zeroValue140 }
open Go.RowKit Go.Lib Go.Sort in
theorem Try.choosePivotCmpFunc {α : Type} [Inhabited α] (enc : α → Value) (cf : α → α → Int) (g : Nat) (cb : Array Value) (blk off cap a b : Nat) (d0 d : Array α) (w0 W : World) (eg : ∀ args w, (callFunc g args).run Try.prog w = .ok (.enter g args) w) (hcmp : CmpLays1 Try.prog g cb enc cf blk off d0.size w0) (R : Row1 enc w0 blk off d0) (hs : d0.size = d.size) (S : SW enc w0 blk off d W) (hab : a < b) (hb : b ≤ d.size) (hsz : d.size < 4611686018427387904) :
  Calls Try.prog 128 #[.slice (some ⟨blk, off, none⟩) d.size cap, .int .i64 a, .int .i64 b, .func (.func g) #[] cb] W fun e w' =>
   e = .returned (.tuple #[.int .i64 (choosePivot (ltOf cf) d a b).1, .int .i64 (hintCode (choosePivot (ltOf cf) d a b).2)]) ∧ SW enc w0 blk off d w' := Any.choosePivotCmpFunc Try.laysSlF23_f128 enc cf g cb blk off cap a b d0 d w0 W eg hcmp R hs S hab hb hsz
def Try.laysSlF24_f129_ren : Go.Shelf.Ren := ⟨fun | 24 => 129 | n => n, fun | 24 => 3 | 22 => 46 | 3 => 3 | 25 => 103 | 4 => 4 | 0 => 0 | n => n, fun | n => n⟩
theorem Try.laysSlF24_f129 : Go.Proofs.SlLaysF.n24 Try.prog Try.laysSlF24_f129_ren := {
 mixed := by kernel_rfl
 f24 := ⟨Try.f129.name, by decide, Try.func129.trans (congrArg some (by kernel_rfl))⟩
 t0 := Try.underlying0
 a0 := Try.isAgg0
 z0 := Try.sizeOf0
 v0 := Try.zeroValue0
 t3 := Try.underlying3
 a3 := Try.isAgg3
 z3 := Try.sizeOf3
 v3 := Try.zeroValue3
 t4 := Try.underlying4
 a4 := Try.isAgg4
 z4 := Try.sizeOf4
 v4 := Try.zeroValue4
 t22 := Try.underlying46
 a22 := Try.isAgg46
 z22 := Try.sizeOf46
 v22 := Try.zeroValue46
 a24 := Try.isAgg3
 z24 := Try.sizeOf3
 t25 := Try.underlying103
 a25 := Try.isAgg103
 z25 := Try.sizeOf103
 v25 := Try.zeroValue103 }
open Go.RowKit Go.Lib Go.Sort in
theorem Try.reverseRangeCmpFunc {α : Type} [Inhabited α] (enc : α → Value) (g : Nat) (cb : Array Value) (blk off cap a b : Nat) (d0 d : Array α) (w0 w : World) (R : Row1 enc w0 blk off d0) (hs : d0.size = d.size) (S : SW enc w0 blk off d w) (hab : a ≤ b) (hb : b ≤ d.size) (hsz : d.size < 4611686018427387904) :
  Calls Try.prog 129 #[.slice (some ⟨blk, off, none⟩) d.size cap, .int .i64 a, .int .i64 b, .func (.func g) #[] cb] w fun e w' => e = .returned (.tuple #[]) ∧ SW enc w0 blk off (reverseRange d a b) w' := Any.reverseRangeCmpFunc Try.laysSlF24_f129 enc g cb blk off cap a b d0 d w0 w R hs S hab hb hsz
def Try.laysSlF25_f130_ren : Go.Shelf.Ren := ⟨fun | 25 => 130 | n => n, fun | 24 => 3 | 22 => 46 | 3 => 3 | 25 => 103 | 4 => 4 | 0 => 0 | n => n, fun | n => n⟩
theorem Try.laysSlF25_f130 : Go.Proofs.SlLaysF.n25 Try.prog Try.laysSlF25_f130_ren := {
 mixed := by kernel_rfl
 f25 := ⟨Try.f130.name, by decide, Try.func130.trans (congrArg some (by kernel_rfl))⟩
 t0 := Try.underlying0
 a0 := Try.isAgg0
 z0 := Try.sizeOf0
 v0 := Try.zeroValue0
 t3 := Try.underlying3
 a3 := Try.isAgg3
 z3 := Try.sizeOf3
 v3 := Try.zeroValue3
 t4 := Try.underlying4
 a4 := Try.isAgg4
 z4 := Try.sizeOf4
 v4 := Try.zeroValue4
 t22 := Try.underlying46
 a22 := Try.isAgg46
 z22 := Try.sizeOf46
 v22 := Try.zeroValue46
 a24 := Try.isAgg3
 z24 := Try.sizeOf3
 t25 := Try.underlying103
 a25 := Try.isAgg103
 z25 := Try.sizeOf103
 v25 := Try.zeroValue103 }
open Go.RowKit Go.Lib Go.Sort in
theorem Try.partialInsertionSortCmpFunc {α : Type} [Inhabited α] (enc : α → Value) (cf : α → α → Int) (g : Nat) (cb : Array Value) (blk off cap a b : Nat) (d0 d : Array α) (w0 w : World) (eg : ∀ args w, (callFunc g args).run Try.prog w = .ok (.enter g args) w) (hcmp : CmpLays1 Try.prog g cb enc cf blk off d0.size w0) (R : Row1 enc w0 blk off d0) (hs : d0.size = d.size) (S : SW enc w0 blk off d w) (hab : a < b) (hb : b ≤ d.size) (hsz : d.size < 4611686018427387904) :
  Calls Try.prog 130 #[.slice (some ⟨blk, off, none⟩) d.size cap, .int .i64 a, .int .i64 b, .func (.func g) #[] cb] w fun e w' =>
   e = .returned (.bool (Sort.partialInsertionSort (ltOf cf) d a b).2) ∧ SW enc w0 blk off (Sort.partialInsertionSort (ltOf cf) d a b).1 w' := Any.partialInsertionSortCmpFunc Try.laysSlF25_f130 enc cf g cb blk off cap a b d0 d w0 w eg hcmp R hs S hab hb hsz
def Try.laysSlF26_f131_ren : Go.Shelf.Ren := ⟨fun | 26 => 131 | n => n, fun | 24 => 3 | 22 => 46 | 3 => 3 | 25 => 103 | 0 => 0 | 4 => 4 | n => n, fun | n => n⟩
theorem Try.laysSlF26_f131 : Go.Proofs.SlLaysF.n26 Try.prog Try.laysSlF26_f131_ren := {
 mixed := by kernel_rfl
 f26 := ⟨Try.f131.name, by decide, Try.func131.trans (congrArg some (by kernel_rfl))⟩
 t0 := Try.underlying0
 a0 := Try.isAgg0
 z0 := Try.sizeOf0
 v0 := Try.zeroValue0
 t3 := Try.underlying3
 a3 := Try.isAgg3
 z3 := Try.sizeOf3
 v3 := Try.zeroValue3
 t4 := Try.underlying4
 a4 := Try.isAgg4
 z4 := Try.sizeOf4
 v4 := Try.zeroValue4
 t22 := Try.underlying46
 a22 := Try.isAgg46
 z22 := Try.sizeOf46
 v22 := Try.zeroValue46
 a24 := Try.isAgg3
 z24 := Try.sizeOf3
 t25 := Try.underlying103
 a25 := Try.isAgg103
 z25 := Try.sizeOf103
 v25 := Try.zeroValue103 }
open Go.RowKit Go.Lib Go.Sort in
theorem Try.partitionEqualCmpFunc {α : Type} [Inhabited α] (enc : α → Value) (cf : α → α → Int) (g : Nat) (cb : Array Value) (blk off cap a b pivot : Nat) (d0 d : Array α) (w0 w : World) (eg : ∀ args w, (callFunc g args).run Try.prog w = .ok (.enter g args) w) (hcmp : CmpLays1 Try.prog g cb enc cf blk off d0.size w0) (R : Row1 enc w0 blk off d0) (hs : d0.size = d.size) (S : SW enc w0 blk off d w) (hap : a ≤ pivot) (hpb : pivot < b) (hb : b ≤ d.size) (hsz : d.size < 4611686018427387904) :
  Calls Try.prog 131 #[.slice (some ⟨blk, off, none⟩) d.size cap, .int .i64 a, .int .i64 b, .int .i64 pivot, .func (.func g) #[] cb] w fun e w' =>
   e = .returned (.int .i64 (Sort.partitionEqual (ltOf cf) d a b pivot).1) ∧ SW enc w0 blk off (Sort.partitionEqual (ltOf cf) d a b pivot).2 w' := Any.partitionEqualCmpFunc Try.laysSlF26_f131 enc cf g cb blk off cap a b pivot d0 d w0 w eg hcmp R hs S hap hpb hb hsz
def Try.laysSlF27_f132_ren : Go.Shelf.Ren := ⟨fun | 27 => 132 | n => n, fun | 24 => 3 | 22 => 46 | 3 => 3 | 25 => 103 | 4 => 4 | 0 => 0 | n => n, fun | n => n⟩
theorem Try.laysSlF27_f132 : Go.Proofs.SlLaysF.n27 Try.prog Try.laysSlF27_f132_ren := {
 mixed := by kernel_rfl
 f27 := ⟨Try.f132.name, by decide, Try.func132.trans (congrArg some (by kernel_rfl))⟩
 t0 := Try.underlying0
 a0 := Try.isAgg0
 z0 := Try.sizeOf0
 v0 := Try.zeroValue0
 t3 := Try.underlying3
 a3 := Try.isAgg3
 z3 := Try.sizeOf3
 v3 := Try.zeroValue3
 t4 := Try.underlying4
 a4 := Try.isAgg4
 z4 := Try.sizeOf4
 v4 := Try.zeroValue4
 t22 := Try.underlying46
 a22 := Try.isAgg46
 z22 := Try.sizeOf46
 v22 := Try.zeroValue46
 a24 := Try.isAgg3
 z24 := Try.sizeOf3
 t25 := Try.underlying103
 a25 := Try.isAgg103
 z25 := Try.sizeOf103
 v25 := Try.zeroValue103 }
open Go.RowKit Go.Lib Go.Sort in
theorem Try.partitionCmpFunc {α : Type} [Inhabited α] (enc : α → Value) (cf : α → α → Int) (g : Nat) (cb : Array Value) (blk off cap a b pivot : Nat) (d0 d : Array α) (w0 w : World) (eg : ∀ args w, (callFunc g args).run Try.prog w = .ok (.enter g args) w) (hcmp : CmpLays1 Try.prog g cb enc cf blk off d0.size w0) (R : Row1 enc w0 blk off d0) (hs : d0.size = d.size) (S : SW enc w0 blk off d w) (hap : a ≤ pivot) (hpb : pivot < b) (hb : b ≤ d.size) (hsz : d.size < 4611686018427387904) :
  Calls Try.prog 132 #[.slice (some ⟨blk, off, none⟩) d.size cap, .int .i64 a, .int .i64 b, .int .i64 pivot, .func (.func g) #[] cb] w fun e w' =>
   e = .returned (.tuple #[.int .i64 (Sort.partition (ltOf cf) d a b pivot).1, .bool (Sort.partition (ltOf cf) d a b pivot).2.1]) ∧ SW enc w0 blk off (Sort.partition (ltOf cf) d a b pivot).2.2 w' := Any.partitionCmpFunc Try.laysSlF27_f132 enc cf g cb blk off cap a b pivot d0 d w0 w eg hcmp R hs S hap hpb hb hsz
def Try.laysSlF14_f114_ren : Go.Shelf.Ren := ⟨fun | 14 => 114 | 20 => 125 | 21 => 126 | 22 => 127 | 23 => 128 | 24 => 129 | 25 => 130 | 26 => 131 | 27 => 132 | 46 => 137 | 47 => 138 | 48 => 139 | 49 => 140 | 50 => 141 | 15 => 115 | 57 => 143 | 28 => 133 | 29 => 134 | n => n, fun | 24 => 3 | 22 => 46 | 3 => 3 | 25 => 103 | 4 => 4 | 0 => 0 | 46 => 127 | 45 => 126 | 50 => 78 | 66 => 132 | 39 => 71 | 55 => 108 | 70 => 136 | 76 => 139 | 77 => 140 | 53 => 106 | 5 => 5 | 9 => 9 | n => n, fun | n => n⟩
theorem Try.laysSlF14_f114 : Go.Proofs.SlLaysF.n14 Try.prog Try.laysSlF14_f114_ren := {
 mixed := by kernel_rfl
 f14 := ⟨Try.f114.name, by decide, Try.func114.trans (congrArg some (by kernel_rfl))⟩
 f15 := Try.func115.trans (congrArg some (by kernel_rfl))
 f20 := ⟨Try.f125.name, by decide, Try.func125.trans (congrArg some (by kernel_rfl))⟩
 f21 := ⟨Try.f126.name, by decide, Try.func126.trans (congrArg some (by kernel_rfl))⟩
 f22 := ⟨Try.f127.name, by decide, Try.func127.trans (congrArg some (by kernel_rfl))⟩
 f23 := ⟨Try.f128.name, by decide, Try.func128.trans (congrArg some (by kernel_rfl))⟩
 f24 := ⟨Try.f129.name, by decide, Try.func129.trans (congrArg some (by kernel_rfl))⟩
 f25 := ⟨Try.f130.name, by decide, Try.func130.trans (congrArg some (by kernel_rfl))⟩
 f26 := ⟨Try.f131.name, by decide, Try.func131.trans (congrArg some (by kernel_rfl))⟩
 f27 := ⟨Try.f132.name, by decide, Try.func132.trans (congrArg some (by kernel_rfl))⟩
 f28 := Try.func133.trans (congrArg some (by kernel_rfl))
 f29 := Try.func134.trans (congrArg some (by kernel_rfl))
 f46 := ⟨Try.f137.name, by decide, Try.func137.trans (congrArg some (by kernel_rfl))⟩
 f47 := Try.func138.trans (congrArg some (by kernel_rfl))
 f48 := Try.func139.trans (congrArg some (by kernel_rfl))
 f49 := ⟨Try.f140.name, by decide, Try.func140.trans (congrArg some (by kernel_rfl))⟩
 f50 := ⟨Try.f141.name, by decide, Try.func141.trans (congrArg some (by kernel_rfl))⟩
 f57 := ⟨Try.f143.name, by decide, Try.func143.trans (congrArg some (by kernel_rfl))⟩
 t0 := Try.underlying0
 a0 := Try.isAgg0
 z0 := Try.sizeOf0
 v0 := Try.zeroValue0
 t3 := Try.underlying3
 a3 := Try.isAgg3
 z3 := Try.sizeOf3
 v3 := Try.zeroValue3
 t4 := Try.underlying4
 a4 := Try.isAgg4
 z4 := Try.sizeOf4
 v4 := Try.zeroValue4
 t5 := Try.underlying5
 a5 := Try.isAgg5
 z5 := Try.sizeOf5
 v5 := Try.zeroValue5
 t9 := Try.underlying9
 a9 := Try.isAgg9
 z9 := Try.sizeOf9
 v9 := Try.zeroValue9
 t22 := Try.underlying46
 a22 := Try.isAgg46
 z22 := Try.sizeOf46
 v22 := Try.zeroValue46
 a24 := Try.isAgg3
 z24 := Try.sizeOf3
 t25 := Try.underlying103
 a25 := Try.isAgg103
 z25 := Try.sizeOf103
 v25 := Try.zeroValue103
 t39 := Try.underlying71
 a39 := Try.isAgg71
 z39 := Try.sizeOf71
 v39 := Try.zeroValue71
 t45 := Try.underlying126
 a45 := Try.isAgg126
 z45 := Try.sizeOf126
 v45 := Try.zeroValue126
 t46 := Try.underlying127
 a46 := Try.isAgg127
 z46 := Try.sizeOf127
 v46 := Try.zeroValue127
 t50 := Try.underlying78
 a50 := Try.isAgg78
 z50 := Try.sizeOf78
 v50 := Try.zeroValue78
 t53 := Try.underlying106
 a53 := Try.isAgg106
 z53 := Try.sizeOf106
 v53 := Try.zeroValue106
 t55 := Try.underlying108
 a55 := Try.isAgg108
 z55 := Try.sizeOf108
 v55 := Try.zeroValue108
 t66 := Try.underlying132
 a66 := Try.isAgg132
 z66 := Try.sizeOf132
 v66 := Try.zeroValue132
 t70 := Try.underlying136
 a70 := Try.isAgg136
 z70 := Try.sizeOf136
 v70 := Try.zeroValue136
 t76 := Try.underlying139
 a76 := Try.isAgg139
 z76 := Try.sizeOf139
 v76 := Try.zeroValue139
 t77 := Try.underlying140
 a77 := Try.isAgg140
 z77 := Try.sizeOf140
 v77 := Try.zeroValue140 }
open Go.RowKit Go.Lib Go.Sort in
theorem Try.pdqsortCmpFunc_all {α : Type} [Inhabited α] (enc : α → Value) (cf : α → α → Int) (g : Nat) (cb : Array Value) (hO : SWO (ltOf cf)) (blk off cap : Nat) (d0 : Array α) (w0 : World) (eg : ∀ args w, (callFunc g args).run Try.prog w = .ok (.enter g args) w) (hcmp : CmpLays1 Try.prog g cb enc cf blk off d0.size w0) (R : Row1 enc w0 blk off d0) :
  ∀ (N a b limit : Nat) (d : Array α) (w : World), b - a < N → d0.size = d.size → SW enc w0 blk off d w → a ≤ b → b ≤ d.size → d.size < 4611686018427387904 → limit < 4611686018427387904 → Below (ltOf cf) a b d →
  Calls Try.prog 114 #[.slice (some ⟨blk, off, none⟩) d.size cap, .int .i64 a, .int .i64 b, .int .i64 limit, .func (.func g) #[] cb] w fun e w' => e = .returned (.tuple #[]) ∧ SW enc w0 blk off (pdq (ltOf cf) d a b limit true true) w' := Any.pdqsortCmpFunc_all Try.laysSlF14_f114 enc cf g cb hO blk off cap d0 w0 eg hcmp R
def Try.laysSlF6_f94_ren : Go.Shelf.Ren := ⟨fun | 6 => 94 | 15 => 115 | 14 => 114 | 28 => 133 | 29 => 134 | 20 => 125 | 21 => 126 | 22 => 127 | 23 => 128 | 24 => 129 | 25 => 130 | 26 => 131 | 27 => 132 | 46 => 137 | 47 => 138 | 48 => 139 | 49 => 140 | 50 => 141 | 57 => 143 | n => n, fun | 22 => 46 | 24 => 3 | 25 => 103 | 3 => 3 | 39 => 71 | 0 => 0 | 53 => 106 | 55 => 108 | 4 => 4 | 46 => 127 | 45 => 126 | 50 => 78 | 5 => 5 | 9 => 9 | 66 => 132 | 70 => 136 | 76 => 139 | 77 => 140 | n => n, fun | n => n⟩
theorem Try.laysSlF6_f94 : Go.Proofs.SlLaysF.n6 Try.prog Try.laysSlF6_f94_ren := {
 mixed := by kernel_rfl
 f6 := ⟨Try.f94.name, by decide, Try.func94.trans (congrArg some (by kernel_rfl))⟩
 f14 := ⟨Try.f114.name, by decide, Try.func114.trans (congrArg some (by kernel_rfl))⟩
 f15 := Try.func115.trans (congrArg some (by kernel_rfl))
 f20 := ⟨Try.f125.name, by decide, Try.func125.trans (congrArg some (by kernel_rfl))⟩
 f21 := ⟨Try.f126.name, by decide, Try.func126.trans (congrArg some (by kernel_rfl))⟩
 f22 := ⟨Try.f127.name, by decide, Try.func127.trans (congrArg some (by kernel_rfl))⟩
 f23 := ⟨Try.f128.name, by decide, Try.func128.trans (congrArg some (by kernel_rfl))⟩
 f24 := ⟨Try.f129.name, by decide, Try.func129.trans (congrArg some (by kernel_rfl))⟩
 f25 := ⟨Try.f130.name, by decide, Try.func130.trans (congrArg some (by kernel_rfl))⟩
 f26 := ⟨Try.f131.name, by decide, Try.func131.trans (congrArg some (by kernel_rfl))⟩
 f27 := ⟨Try.f132.name, by decide, Try.func132.trans (congrArg some (by kernel_rfl))⟩
 f28 := Try.func133.trans (congrArg some (by kernel_rfl))
 f29 := Try.func134.trans (congrArg some (by kernel_rfl))
 f46 := ⟨Try.f137.name, by decide, Try.func137.trans (congrArg some (by kernel_rfl))⟩
 f47 := Try.func138.trans (congrArg some (by kernel_rfl))
 f48 := Try.func139.trans (congrArg some (by kernel_rfl))
 f49 := ⟨Try.f140.name, by decide, Try.func140.trans (congrArg some (by kernel_rfl))⟩
 f50 := ⟨Try.f141.name, by decide, Try.func141.trans (congrArg some (by kernel_rfl))⟩
 f57 := ⟨Try.f143.name, by decide, Try.func143.trans (congrArg some (by kernel_rfl))⟩
 t0 := Try.underlying0
 a0 := Try.isAgg0
 z0 := Try.sizeOf0
 v0 := Try.zeroValue0
 t3 := Try.underlying3
 a3 := Try.isAgg3
 z3 := Try.sizeOf3
 v3 := Try.zeroValue3
 t4 := Try.underlying4
 a4 := Try.isAgg4
 z4 := Try.sizeOf4
 v4 := Try.zeroValue4
 t5 := Try.underlying5
 a5 := Try.isAgg5
 z5 := Try.sizeOf5
 v5 := Try.zeroValue5
 t9 := Try.underlying9
 a9 := Try.isAgg9
 z9 := Try.sizeOf9
 v9 := Try.zeroValue9
 t22 := Try.underlying46
 a22 := Try.isAgg46
 z22 := Try.sizeOf46
 v22 := Try.zeroValue46
 a24 := Try.isAgg3
 z24 := Try.sizeOf3
 t25 := Try.underlying103
 a25 := Try.isAgg103
 z25 := Try.sizeOf103
 v25 := Try.zeroValue103
 t39 := Try.underlying71
 a39 := Try.isAgg71
 z39 := Try.sizeOf71
 v39 := Try.zeroValue71
 t45 := Try.underlying126
 a45 := Try.isAgg126
 z45 := Try.sizeOf126
 v45 := Try.zeroValue126
 t46 := Try.underlying127
 a46 := Try.isAgg127
 z46 := Try.sizeOf127
 v46 := Try.zeroValue127
 t50 := Try.underlying78
 a50 := Try.isAgg78
 z50 := Try.sizeOf78
 v50 := Try.zeroValue78
 t53 := Try.underlying106
 a53 := Try.isAgg106
 z53 := Try.sizeOf106
 v53 := Try.zeroValue106
 t55 := Try.underlying108
 a55 := Try.isAgg108
 z55 := Try.sizeOf108
 v55 := Try.zeroValue108
 t66 := Try.underlying132
 a66 := Try.isAgg132
 z66 := Try.sizeOf132
 v66 := Try.zeroValue132
 t70 := Try.underlying136
 a70 := Try.isAgg136
 z70 := Try.sizeOf136
 v70 := Try.zeroValue136
 t76 := Try.underlying139
 a76 := Try.isAgg139
 z76 := Try.sizeOf139
 v76 := Try.zeroValue139
 t77 := Try.underlying140
 a77 := Try.isAgg140
 z77 := Try.sizeOf140
 v77 := Try.zeroValue140 }
open Go.RowKit Go.Lib Go.Sort in
theorem Try.slices_SortFunc_eq {α : Type} [Inhabited α] (enc : α → Value) (h1 : OneCell enc) (cf : α → α → Int) (hO : SWO (ltOf cf)) (g : Nat) (cb : Array Value) (blk off cap : Nat) (d : Array α) (w : World) (eg : ∀ args w, (callFunc g args).run Try.prog w = .ok (.enter g args) w) (hcmp : CmpLays1 Try.prog g cb enc cf blk off d.size w) (hH : Holds enc w blk off d) (hblk : blk < w.heap.size) (hsz : d.size < 4611686018427387904) :
  Calls Try.prog 94 #[.slice (some ⟨blk, off, none⟩) d.size cap, .func (.func g) #[] cb] w fun e w' =>
   e = .returned (.tuple #[]) ∧ ∃ n os, w' = sortWorld enc w blk off n (pdq (ltOf cf) d 0 d.size (Lib.bitLen d.size) true true) os := Any.slices_SortFunc_eq Try.laysSlF6_f94 enc h1 cf hO g cb blk off cap d w eg hcmp hH hblk hsz
open Go.RowKit Go.Lib Go.Sort in
theorem Try.slices_SortFunc {α : Type} [Inhabited α] (enc : α → Value) (h1 : OneCell enc) (cf : α → α → Int) (hO : SWO (ltOf cf)) (g : Nat) (cb : Array Value) (blk off cap : Nat) (d : Array α) (w : World) (eg : ∀ args w, (callFunc g args).run Try.prog w = .ok (.enter g args) w) (hcmp : CmpLays1 Try.prog g cb enc cf blk off d.size w) (hH : Holds enc w blk off d) (hblk : blk < w.heap.size) (hsz : d.size < 4611686018427387904) :
  Calls Try.prog 94 #[.slice (some ⟨blk, off, none⟩) d.size cap, .func (.func g) #[] cb] w fun e w' =>
   e = .returned (.tuple #[]) ∧ ∃ d' n os, PermIn 0 d.size d d' ∧ SortedIn (ltOf cf) 0 d.size d' ∧ w' = sortWorld enc w blk off n d' os := Any.slices_SortFunc Try.laysSlF6_f94 enc h1 cf hO g cb blk off cap d w eg hcmp hH hblk hsz
def Try.laysSlF020_f125_ren : Go.Shelf.Ren := ⟨fun | 20 => 125 | n => n, fun | 24 => 3 | 22 => 46 | 3 => 3 | 25 => 103 | 4 => 4 | 0 => 0 | n => n, fun | n => n⟩
theorem Try.laysSlF020_f125 : Go.Proofs.SlLaysF0.n20 Try.prog Try.laysSlF020_f125_ren := {
 mixed := by kernel_rfl
 f20 := ⟨Try.f125.name, by decide, Try.func125.trans (congrArg some (by kernel_rfl))⟩
 t0 := Try.underlying0
 a0 := Try.isAgg0
 z0 := Try.sizeOf0
 v0 := Try.zeroValue0
 t3 := Try.underlying3
 a3 := Try.isAgg3
 z3 := Try.sizeOf3
 v3 := Try.zeroValue3
 t4 := Try.underlying4
 a4 := Try.isAgg4
 z4 := Try.sizeOf4
 v4 := Try.zeroValue4
 t22 := Try.underlying46
 a22 := Try.isAgg46
 z22 := Try.sizeOf46
 v22 := Try.zeroValue46
 t25 := Try.underlying103
 a25 := Try.isAgg103
 z25 := Try.sizeOf103
 v25 := Try.zeroValue103 }
open Go.RowKit Go.Lib Go.Sort in
theorem Try.insertionSortCmpFunc_none {α : Type} [Inhabited α] (p : Option Addr) (cap : Nat) (fv : Value) (w : World) :
  Calls Try.prog 125 #[.slice p 0 cap, .int .i64 0, .int .i64 0, fv] w fun e w' => e = .returned (.tuple #[]) ∧ w' = w := AnyF.insertionSortCmpFunc_none Try.laysSlF020_f125 p cap fv w
def Try.laysSlF014_f114_ren : Go.Shelf.Ren := ⟨fun | 14 => 114 | 20 => 125 | 21 => 126 | 22 => 127 | 23 => 128 | 24 => 129 | 25 => 130 | 26 => 131 | 27 => 132 | 46 => 137 | 47 => 138 | 48 => 139 | 49 => 140 | 50 => 141 | 15 => 115 | 57 => 143 | 28 => 133 | 29 => 134 | n => n, fun | 24 => 3 | 22 => 46 | 3 => 3 | 25 => 103 | 4 => 4 | 0 => 0 | 46 => 127 | 45 => 126 | 50 => 78 | 66 => 132 | 39 => 71 | 55 => 108 | 70 => 136 | 76 => 139 | 77 => 140 | 53 => 106 | 5 => 5 | 9 => 9 | n => n, fun | n => n⟩
theorem Try.laysSlF014_f114 : Go.Proofs.SlLaysF0.n14 Try.prog Try.laysSlF014_f114_ren := {
 mixed := by kernel_rfl
 f14 := ⟨Try.f114.name, by decide, Try.func114.trans (congrArg some (by kernel_rfl))⟩
 f15 := Try.func115.trans (congrArg some (by kernel_rfl))
 f20 := ⟨Try.f125.name, by decide, Try.func125.trans (congrArg some (by kernel_rfl))⟩
 f21 := ⟨Try.f126.name, by decide, Try.func126.trans (congrArg some (by kernel_rfl))⟩
 f22 := ⟨Try.f127.name, by decide, Try.func127.trans (congrArg some (by kernel_rfl))⟩
 f23 := ⟨Try.f128.name, by decide, Try.func128.trans (congrArg some (by kernel_rfl))⟩
 f24 := ⟨Try.f129.name, by decide, Try.func129.trans (congrArg some (by kernel_rfl))⟩
 f25 := ⟨Try.f130.name, by decide, Try.func130.trans (congrArg some (by kernel_rfl))⟩
 f26 := ⟨Try.f131.name, by decide, Try.func131.trans (congrArg some (by kernel_rfl))⟩
 f27 := ⟨Try.f132.name, by decide, Try.func132.trans (congrArg some (by kernel_rfl))⟩
 f28 := Try.func133.trans (congrArg some (by kernel_rfl))
 f29 := Try.func134.trans (congrArg some (by kernel_rfl))
 f46 := ⟨Try.f137.name, by decide, Try.func137.trans (congrArg some (by kernel_rfl))⟩
 f47 := Try.func138.trans (congrArg some (by kernel_rfl))
 f48 := Try.func139.trans (congrArg some (by kernel_rfl))
 f49 := ⟨Try.f140.name, by decide, Try.func140.trans (congrArg some (by kernel_rfl))⟩
 f50 := ⟨Try.f141.name, by decide, Try.func141.trans (congrArg some (by kernel_rfl))⟩
 f57 := ⟨Try.f143.name, by decide, Try.func143.trans (congrArg some (by kernel_rfl))⟩
 t0 := Try.underlying0
 a0 := Try.isAgg0
 z0 := Try.sizeOf0
 v0 := Try.zeroValue0
 t3 := Try.underlying3
 a3 := Try.isAgg3
 z3 := Try.sizeOf3
 v3 := Try.zeroValue3
 t4 := Try.underlying4
 a4 := Try.isAgg4
 z4 := Try.sizeOf4
 v4 := Try.zeroValue4
 t5 := Try.underlying5
 a5 := Try.isAgg5
 z5 := Try.sizeOf5
 v5 := Try.zeroValue5
 t9 := Try.underlying9
 a9 := Try.isAgg9
 z9 := Try.sizeOf9
 v9 := Try.zeroValue9
 t22 := Try.underlying46
 a22 := Try.isAgg46
 z22 := Try.sizeOf46
 v22 := Try.zeroValue46
 t25 := Try.underlying103
 a25 := Try.isAgg103
 z25 := Try.sizeOf103
 v25 := Try.zeroValue103
 t39 := Try.underlying71
 a39 := Try.isAgg71
 z39 := Try.sizeOf71
 v39 := Try.zeroValue71
 t45 := Try.underlying126
 a45 := Try.isAgg126
 z45 := Try.sizeOf126
 v45 := Try.zeroValue126
 t46 := Try.underlying127
 a46 := Try.isAgg127
 z46 := Try.sizeOf127
 v46 := Try.zeroValue127
 t50 := Try.underlying78
 a50 := Try.isAgg78
 z50 := Try.sizeOf78
 v50 := Try.zeroValue78
 t53 := Try.underlying106
 a53 := Try.isAgg106
 z53 := Try.sizeOf106
 v53 := Try.zeroValue106
 t55 := Try.underlying108
 a55 := Try.isAgg108
 z55 := Try.sizeOf108
 v55 := Try.zeroValue108
 t66 := Try.underlying132
 a66 := Try.isAgg132
 z66 := Try.sizeOf132
 v66 := Try.zeroValue132
 t70 := Try.underlying136
 a70 := Try.isAgg136
 z70 := Try.sizeOf136
 v70 := Try.zeroValue136
 t76 := Try.underlying139
 a76 := Try.isAgg139
 z76 := Try.sizeOf139
 v76 := Try.zeroValue139
 t77 := Try.underlying140
 a77 := Try.isAgg140
 z77 := Try.sizeOf140
 v77 := Try.zeroValue140 }
open Go.RowKit Go.Lib Go.Sort in
theorem Try.pdqsortCmpFunc_none {α : Type} [Inhabited α] (p : Option Addr) (cap : Nat) (lim : Int) (fv : Value) (w : World) :
  Calls Try.prog 114 #[.slice p 0 cap, .int .i64 0, .int .i64 0, .int .i64 lim, fv] w fun e w' => e = .returned (.tuple #[]) ∧ w' = w := AnyF.pdqsortCmpFunc_none Try.laysSlF014_f114 p cap lim fv w
def Try.laysSlF06_f94_ren : Go.Shelf.Ren := ⟨fun | 6 => 94 | 15 => 115 | 14 => 114 | 28 => 133 | 29 => 134 | 20 => 125 | 21 => 126 | 22 => 127 | 23 => 128 | 24 => 129 | 25 => 130 | 26 => 131 | 27 => 132 | 46 => 137 | 47 => 138 | 48 => 139 | 49 => 140 | 50 => 141 | 57 => 143 | n => n, fun | 22 => 46 | 24 => 3 | 25 => 103 | 3 => 3 | 39 => 71 | 0 => 0 | 53 => 106 | 55 => 108 | 4 => 4 | 46 => 127 | 45 => 126 | 50 => 78 | 5 => 5 | 9 => 9 | 66 => 132 | 70 => 136 | 76 => 139 | 77 => 140 | n => n, fun | n => n⟩
theorem Try.laysSlF06_f94 : Go.Proofs.SlLaysF0.n6 Try.prog Try.laysSlF06_f94_ren := {
 mixed := by kernel_rfl
 f6 := ⟨Try.f94.name, by decide, Try.func94.trans (congrArg some (by kernel_rfl))⟩
 f14 := ⟨Try.f114.name, by decide, Try.func114.trans (congrArg some (by kernel_rfl))⟩
 f15 := Try.func115.trans (congrArg some (by kernel_rfl))
 f20 := ⟨Try.f125.name, by decide, Try.func125.trans (congrArg some (by kernel_rfl))⟩
 f21 := ⟨Try.f126.name, by decide, Try.func126.trans (congrArg some (by kernel_rfl))⟩
 f22 := ⟨Try.f127.name, by decide, Try.func127.trans (congrArg some (by kernel_rfl))⟩
 f23 := ⟨Try.f128.name, by decide, Try.func128.trans (congrArg some (by kernel_rfl))⟩
 f24 := ⟨Try.f129.name, by decide, Try.func129.trans (congrArg some (by kernel_rfl))⟩
 f25 := ⟨Try.f130.name, by decide, Try.func130.trans (congrArg some (by kernel_rfl))⟩
 f26 := ⟨Try.f131.name, by decide, Try.func131.trans (congrArg some (by kernel_rfl))⟩
 f27 := ⟨Try.f132.name, by decide, Try.func132.trans (congrArg some (by kernel_rfl))⟩
 f28 := Try.func133.trans (congrArg some (by kernel_rfl))
 f29 := Try.func134.trans (congrArg some (by kernel_rfl))
 f46 := ⟨Try.f137.name, by decide, Try.func137.trans (congrArg some (by kernel_rfl))⟩
 f47 := Try.func138.trans (congrArg some (by kernel_rfl))
 f48 := Try.func139.trans (congrArg some (by kernel_rfl))
 f49 := ⟨Try.f140.name, by decide, Try.func140.trans (congrArg some (by kernel_rfl))⟩
 f50 := ⟨Try.f141.name, by decide, Try.func141.trans (congrArg some (by kernel_rfl))⟩
 f57 := ⟨Try.f143.name, by decide, Try.func143.trans (congrArg some (by kernel_rfl))⟩
 t0 := Try.underlying0
 a0 := Try.isAgg0
 z0 := Try.sizeOf0
 v0 := Try.zeroValue0
 t3 := Try.underlying3
 a3 := Try.isAgg3
 z3 := Try.sizeOf3
 v3 := Try.zeroValue3
 t4 := Try.underlying4
 a4 := Try.isAgg4
 z4 := Try.sizeOf4
 v4 := Try.zeroValue4
 t5 := Try.underlying5
 a5 := Try.isAgg5
 z5 := Try.sizeOf5
 v5 := Try.zeroValue5
 t9 := Try.underlying9
 a9 := Try.isAgg9
 z9 := Try.sizeOf9
 v9 := Try.zeroValue9
 t22 := Try.underlying46
 a22 := Try.isAgg46
 z22 := Try.sizeOf46
 v22 := Try.zeroValue46
 t25 := Try.underlying103
 a25 := Try.isAgg103
 z25 := Try.sizeOf103
 v25 := Try.zeroValue103
 t39 := Try.underlying71
 a39 := Try.isAgg71
 z39 := Try.sizeOf71
 v39 := Try.zeroValue71
 t45 := Try.underlying126
 a45 := Try.isAgg126
 z45 := Try.sizeOf126
 v45 := Try.zeroValue126
 t46 := Try.underlying127
 a46 := Try.isAgg127
 z46 := Try.sizeOf127
 v46 := Try.zeroValue127
 t50 := Try.underlying78
 a50 := Try.isAgg78
 z50 := Try.sizeOf78
 v50 := Try.zeroValue78
 t53 := Try.underlying106
 a53 := Try.isAgg106
 z53 := Try.sizeOf106
 v53 := Try.zeroValue106
 t55 := Try.underlying108
 a55 := Try.isAgg108
 z55 := Try.sizeOf108
 v55 := Try.zeroValue108
 t66 := Try.underlying132
 a66 := Try.isAgg132
 z66 := Try.sizeOf132
 v66 := Try.zeroValue132
 t70 := Try.underlying136
 a70 := Try.isAgg136
 z70 := Try.sizeOf136
 v70 := Try.zeroValue136
 t76 := Try.underlying139
 a76 := Try.isAgg139
 z76 := Try.sizeOf139
 v76 := Try.zeroValue139
 t77 := Try.underlying140
 a77 := Try.isAgg140
 z77 := Try.sizeOf140
 v77 := Try.zeroValue140 }
open Go.RowKit Go.Lib Go.Sort in
theorem Try.slices_SortFunc_none {α : Type} [Inhabited α] (p : Option Addr) (cap : Nat) (fv : Value) (w : World) :
  Calls Try.prog 94 #[.slice p 0 cap, fv] w fun e w' => e = .returned (.tuple #[]) ∧ w' = w := AnyF.slices_SortFunc_none Try.laysSlF06_f94 p cap fv w
open Go.RowKit Go.Lib Go.Sort in
theorem Try.slices_SortFunc_total {α : Type} [Inhabited α] (enc : α → Value) (h1 : OneCell enc) (cf : α → α → Int) (hO : SWO (ltOf cf)) (g : Nat) (cb : Array Value) (blk off cap : Nat) (d : Array α) (w : World) (eg : ∀ args w, (callFunc g args).run Try.prog w = .ok (.enter g args) w) (hcmp : CmpLays1 Try.prog g cb enc cf blk off d.size w) (hH : Holds enc w blk off d) (hblk : blk < w.heap.size) (hsz : d.size < 4611686018427387904) (hT : ∀ x y, (ltOf cf) x y = false → (ltOf cf) y x = false → x = y) :
  Calls Try.prog 94 #[.slice (some ⟨blk, off, none⟩) d.size cap, .func (.func g) #[] cb] w fun e w' =>
   e = .returned (.tuple #[]) ∧ ∃ n os, w' = sortWorld enc w blk off n (d.toList.mergeSort fun x y => !(ltOf cf) y x).toArray os := Any.slices_SortFunc_total Try.laysSlF6_f94 enc h1 cf hO g cb blk off cap d w eg hcmp hH hblk hsz hT
end Go.Proofs

/- Contracts of strings.Builder at this program: laid by hand, where the shelf's own command asks for types that no body names. -/
namespace Go.Proofs
open Go.Shelf Go.RowKit
def Try.lays240_ren : Go.Shelf.Ren := ⟨fun | 240 => 113 | 276 => 124 | n => n, fun | 0 => 0 | 4 => 4 | 5 => 5 | 9 => 9 | 20 => 20 | 37 => 93 | 70 => 92 | 72 => 95 | 164 => 123 | n => n, fun | n => n⟩
theorem Try.lays240 : Go.Proofs.Lays.n240 Try.prog Try.lays240_ren := {
 mixed := by kernel_rfl
 f240 := Try.func113.trans (congrArg some (by kernel_rfl))
 f276 := Try.func124.trans (congrArg some (by kernel_rfl))
 t0 := Try.underlying0
 a0 := Try.isAgg0
 z0 := Try.sizeOf0
 v0 := Try.zeroValue0
 t4 := Try.underlying4
 a4 := Try.isAgg4
 z4 := Try.sizeOf4
 v4 := Try.zeroValue4
 t9 := Try.underlying9
 a9 := Try.isAgg9
 z9 := Try.sizeOf9
 v9 := Try.zeroValue9
 t20 := Try.underlying20
 a20 := Try.isAgg20
 z20 := Try.sizeOf20
 v20 := Try.zeroValue20
 t70 := Try.underlying92
 a70 := Try.isAgg92
 z70 := Try.sizeOf92
 v70 := Try.zeroValue92
 t72 := Try.underlying95
 a72 := Try.isAgg95
 z72 := Try.sizeOf95
 v72 := Try.zeroValue95
 t164 := Try.underlying123
 a164 := Try.isAgg123
 z164 := Try.sizeOf123
 v164 := Try.zeroValue123 }
theorem Try.Builder_X72_240 : Builder.X72 Try.prog Try.lays240_ren := {
 sizeBuilder := by kernel_rfl
 liesBuilder := by kernel_rfl }
def Try.lays167_ren : Go.Shelf.Ren := ⟨fun | 167 => 98 | 240 => 113 | 276 => 124 | n => n, fun | 0 => 0 | 4 => 4 | 5 => 5 | 9 => 9 | 20 => 20 | 37 => 93 | 70 => 92 | 72 => 95 | 75 => 97 | 80 => 64 | 164 => 123 | n => n, fun | n => n⟩
theorem Try.lays167 : Go.Proofs.Lays.n167 Try.prog Try.lays167_ren := {
 mixed := by kernel_rfl
 f167 := Try.func98.trans (congrArg some (by kernel_rfl))
 f240 := Try.func113.trans (congrArg some (by kernel_rfl))
 f276 := Try.func124.trans (congrArg some (by kernel_rfl))
 t0 := Try.underlying0
 a0 := Try.isAgg0
 z0 := Try.sizeOf0
 v0 := Try.zeroValue0
 t4 := Try.underlying4
 a4 := Try.isAgg4
 z4 := Try.sizeOf4
 v4 := Try.zeroValue4
 t5 := Try.underlying5
 a5 := Try.isAgg5
 z5 := Try.sizeOf5
 v5 := Try.zeroValue5
 t9 := Try.underlying9
 a9 := Try.isAgg9
 z9 := Try.sizeOf9
 v9 := Try.zeroValue9
 t20 := Try.underlying20
 a20 := Try.isAgg20
 z20 := Try.sizeOf20
 v20 := Try.zeroValue20
 t37 := Try.underlying93
 a37 := Try.isAgg93
 z37 := Try.sizeOf93
 v37 := Try.zeroValue93
 t70 := Try.underlying92
 a70 := Try.isAgg92
 z70 := Try.sizeOf92
 v70 := Try.zeroValue92
 t72 := Try.underlying95
 a72 := Try.isAgg95
 z72 := Try.sizeOf95
 v72 := Try.zeroValue95
 t75 := Try.underlying97
 a75 := Try.isAgg97
 z75 := Try.sizeOf97
 v75 := Try.zeroValue97
 t164 := Try.underlying123
 a164 := Try.isAgg123
 z164 := Try.sizeOf123
 v164 := Try.zeroValue123 }
theorem Try.Builder_Extra_167 : Builder.Extra Try.prog Try.lays167_ren := {
 sizeBuilder := by kernel_rfl
 liesBuilder := by kernel_rfl
 t5 := Try.underlying5
 a5 := Try.isAgg5
 z5 := Try.sizeOf5
 v5 := Try.zeroValue5
 infoByte := by kernel_rfl
 cellsByte := by kernel_rfl
 sizeByte := by kernel_rfl
 neB5 := by decide }
def Try.lays166_ren : Go.Shelf.Ren := ⟨fun | 166 => 92 | 240 => 113 | 276 => 124 | n => n, fun | 0 => 0 | 3 => 3 | 4 => 4 | 5 => 5 | 9 => 9 | 20 => 20 | 37 => 93 | 70 => 92 | 72 => 95 | 75 => 97 | 80 => 64 | 164 => 123 | n => n, fun | n => n⟩
theorem Try.lays166 : Go.Proofs.Lays.n166 Try.prog Try.lays166_ren := {
 mixed := by kernel_rfl
 f166 := Try.func92.trans (congrArg some (by kernel_rfl))
 f240 := Try.func113.trans (congrArg some (by kernel_rfl))
 f276 := Try.func124.trans (congrArg some (by kernel_rfl))
 t0 := Try.underlying0
 a0 := Try.isAgg0
 z0 := Try.sizeOf0
 v0 := Try.zeroValue0
 t3 := Try.underlying3
 a3 := Try.isAgg3
 z3 := Try.sizeOf3
 v3 := Try.zeroValue3
 t4 := Try.underlying4
 a4 := Try.isAgg4
 z4 := Try.sizeOf4
 v4 := Try.zeroValue4
 t9 := Try.underlying9
 a9 := Try.isAgg9
 z9 := Try.sizeOf9
 v9 := Try.zeroValue9
 t20 := Try.underlying20
 a20 := Try.isAgg20
 z20 := Try.sizeOf20
 v20 := Try.zeroValue20
 t37 := Try.underlying93
 a37 := Try.isAgg93
 z37 := Try.sizeOf93
 v37 := Try.zeroValue93
 t70 := Try.underlying92
 a70 := Try.isAgg92
 z70 := Try.sizeOf92
 v70 := Try.zeroValue92
 t72 := Try.underlying95
 a72 := Try.isAgg95
 z72 := Try.sizeOf95
 v72 := Try.zeroValue95
 t75 := Try.underlying97
 a75 := Try.isAgg97
 z75 := Try.sizeOf97
 v75 := Try.zeroValue97
 t164 := Try.underlying123
 a164 := Try.isAgg123
 z164 := Try.sizeOf123
 v164 := Try.zeroValue123 }
theorem Try.Builder_Extra_166 : Builder.Extra Try.prog Try.lays166_ren := {
 sizeBuilder := by kernel_rfl
 liesBuilder := by kernel_rfl
 t5 := Try.underlying5
 a5 := Try.isAgg5
 z5 := Try.sizeOf5
 v5 := Try.zeroValue5
 infoByte := by kernel_rfl
 cellsByte := by kernel_rfl
 sizeByte := by kernel_rfl
 neB5 := by decide }
theorem Try.Builder_copyCheck (B b : Nat) (bs : List Value) (w : World) (h : Lib.IsBuilder 95 5 B b bs w) :
  Calls Try.prog 113 #[.pointer (some ⟨b, 0, none⟩)] w fun e w' => e = .returned (.tuple #[]) ∧ (Lib.BuilderAt 95 5 B b (.pointer (some ⟨b, 0, none⟩)) bs w' ∧ Below B w w') := Any.Builder_copyCheck Try.lays240 Try.Builder_X72_240 B b bs w h
theorem Try.Builder_WriteByte (B b : Nat) (bs : List Value) (c : Int) (w : World) (h : Lib.IsBuilder 95 5 B b bs w) (hlen : bs.length + 1 ≤ 140737488355328) (hBw : B ≤ w.heap.size) :
  Calls Try.prog 98 #[.pointer (some ⟨b, 0, none⟩), .int .u8 c] w fun e w' => e = .returned .nilIface ∧ (Lib.BuilderAt 95 5 B b (.pointer (some ⟨b, 0, none⟩)) (bs ++ [.int .u8 c]) w' ∧ Below B w w') := Any.Builder_WriteByte Try.lays167 Try.Builder_Extra_167 B b bs c w h hlen hBw
theorem Try.Builder_WriteString (B b : Nat) (bs : List Value) (s : ByteArray) (w : World) (h : Lib.IsBuilder 95 5 B b bs w) (hlen : bs.length + s.size ≤ 140737488355328) (hBw : B ≤ w.heap.size) :
  Calls Try.prog 92 #[.pointer (some ⟨b, 0, none⟩), .string s] w fun e w' => e = .returned (.tuple #[.int .i64 s.size, .nilIface]) ∧ (Lib.BuilderAt 95 5 B b (.pointer (some ⟨b, 0, none⟩)) (bs ++ Lib.strCells s) w' ∧ Below B w w') := Any.Builder_WriteString Try.lays166 Try.Builder_Extra_166 B b bs s w h hlen hBw
end Go.Proofs

/- Short words for what the printed walks prove again and again: each bears its own proof as a default, found where it is used. -/
namespace Go.Proofs.YteikgnaikeleaaaW.PrintMore
open Go.RowKit Go.Proofs.YteikgnaikeleaaaW.PrintWords Go.Proofs.YteikgnaikeleaaaW.PrintLast
set_option linter.unusedVariables false

theorem bel {n : Nat} {w W : World} (h : Below n w W := by repeat (first | (with_reducible first | exact HB.out | apply below_alloc | apply pw_below_drewN | apply below_drew1 | refine below_set ?_ (Aside0.out (by assumption))) | exact HB.out)) : Below n w W := h
theorem blkz {W : World} {g : Nat} {o : Obj} (h : W.heap[g]? = some o := by (with_reducible repeat (first | refine blk_drewN ?_ _ | refine blk_drew ?_ | refine blk_alloc ?_ _)); exact Aside0.out (by assumption)) : W.heap[g]? = some o := h
theorem blkc {W : World} {g : Nat} {cs : Array Value} {t : TypeId} (h : W.heap[g]? = some (.cells cs t (0, 0))) (i : Nat) (v : Value) (e : cs[i]? = some v) : W.cell? ⟨g, i, none⟩ = some v := (blk_cell h i).trans e
theorem cbz {α : Type} {d : Kd α} {w W : World} {A : Option Addr} {n : Nat} {xs : List α} (K : Aside0 (d.C w A n xs)) (h : Below w.heap.size w W := by repeat (first | (with_reducible first | exact HB.out | apply below_alloc | apply pw_below_drewN | apply below_drew1 | refine below_set ?_ (Aside0.out (by assumption))) | exact HB.out)) : d.C W A n xs := Kd.C_below K.out h
theorem mapz {α : Type} {a b : α} (h : a = b := by (try simp only [List.map_toArray, List.map_cons, List.map_nil]); first | done | rfl | (simp only [List.length_drop, List.length_take]; rfl)) : a = b := h
theorem asz {p : Prop} (h : p := by first | (with_reducible assumption) | assumption) : p := h
theorem rsz {α : Sort _} {a b : α} (h : a = b := by first | rfl | (simp; done) | (simp [*]; done)) : a = b := h
theorem drz {w W : World} (h : Drawn0 w W := by repeat (first | exact Drawn0.refl _ | apply Drawn0.step)) : Drawn0 w W := h
theorem ownx {α : Type} {d : Kd α} {e : Nat} {W0 W : World} {base : Nat} {ok : Nat → Prop} {v : Value} {xs : List α} (K : Aside0 (d.R e W0 base ok v xs)) (h : d.R e W base ok v xs := by (with_reducible repeat (first | apply Kd.R_alloc | apply Kd.R_drewN | apply Kd.R_drew)); exact Aside0.out (by assumption)) : d.R e W base ok v xs := h
theorem ezz {α : Sort _} {a b : α} (h : a = b := by first | rfl | (simp [errW_none, errW_some] <;> rfl) | (simp [*, errW_none, errW_some] <;> rfl)) : a = b := h
theorem bsz {w W : World} {g : Nat} (hg : g = W.heap.size) (h : Below w.heap.size w W := by repeat (first | (with_reducible first | exact HB.out | apply below_alloc | apply pw_below_drewN | apply below_drew1 | refine below_set ?_ (Aside0.out (by assumption))) | exact HB.out)) : Aside0 (w.heap.size ≤ g) := ⟨by rw [hg]; exact below_size h⟩
theorem neL {W : World} {g g' : Nat} {o : Obj} (hg : g' = W.heap.size) (h : W.heap[g]? = some o := by (with_reducible repeat (first | refine blk_drewN ?_ _ | refine blk_drew ?_ | refine blk_alloc ?_ _)); exact Aside0.out (by assumption)) : Aside0 (g ≠ g') := ⟨by rw [hg]; exact Nat.ne_of_lt (blk_lt h)⟩
theorem neR {W : World} {g g' : Nat} {o : Obj} (hg : g' = W.heap.size) (h : W.heap[g]? = some o := by (with_reducible repeat (first | refine blk_drewN ?_ _ | refine blk_drew ?_ | refine blk_alloc ?_ _)); exact Aside0.out (by assumption)) : Aside0 (g' ≠ g) := ⟨by rw [hg]; exact Nat.ne_of_gt (blk_lt h)⟩
def bz (n m : Nat) : Array Bool := ((List.range n).map m.testBit).toArray
section
variable {P : Program} {md : Region.Mode} {ops : Array Oper} {Q : Exit → Act → World → Prop} {S : World → Prop} {ds : List Nat}
theorem pst {i : Nat} {N : Option Tmp} {oi : Oper} {v : Value} {fuel : Nat} {l : Array Bool} {a a' : Act} {w : World} (l' : Array Bool) (hc : anyB md ops l l' i = true) (h : wpAnyLast P md ops Q S ds fuel l' a' w)
  (hi : ops[i]? = some oi := by rfl) (hN : oi.dst = N := by rfl) (hy : Yields P ops oi v a := by exact Or.inl ⟨by rfl, by (intro w'; go_simp; with_reducible rfl)⟩) (ha : a.put N v = a' := by (simp only [Act.put, List.setIfInBounds_toArray, List.set_cons_zero, List.set_cons_succ, i64_w, i32_w]; rfl)) (hQ : ∀ c a w, Q (.panic c) (a.put oi.dst v) w → Q (.panic c) a w := by exact (fun _ _ _ h => h)) :
  wpAnyLast P md ops Q S ds (fuel + 1) l a w := pure_ l' hi hN hc hQ hy ha h
theorem psn {i : Nat} {N : Option Tmp} {oi : Oper} {v : Value} {fuel : Nat} {l : Array Bool} {a a' : Act} {w : World} (l' : Array Bool) (hc : anyB md ops l l' i = true) (h : wpAnyLast P md ops Q S ds fuel l' a' w)
  (hi : ops[i]? = some oi := by rfl) (hN : oi.dst = N := by rfl) (hy : Yields P ops oi v a := by exact Or.inl ⟨by rfl, by (intro w'; go_simp; with_reducible rfl)⟩) (ha : a.put N v = a' := by (rfl)) (hQ : ∀ c a w, Q (.panic c) (a.put oi.dst v) w → Q (.panic c) a w := by exact (fun _ _ _ h => h)) :
  wpAnyLast P md ops Q S ds (fuel + 1) l a w := pure_ l' hi hN hc hQ hy ha h
theorem pso {i : Nat} {N : Option Tmp} {oi : Oper} {fuel : Nat} {l : Array Bool} {a a' : Act} {w : World} (l' : Array Bool) (hc : anyB md ops l l' i = true) (h : wpAnyLast P md ops Q S ds fuel l' a' w)
  (hi : ops[i]? = some oi := by rfl) (hN : oi.dst = N := by rfl) (hy : Yields P ops oi undef a := by exact Or.inr ⟨by rfl, rfl⟩) (ha : a.put N undef = a' := by (simp only [Act.put, List.setIfInBounds_toArray, List.set_cons_zero, List.set_cons_succ, i64_w, i32_w]; rfl)) (hQ : ∀ c a w, Q (.panic c) (a.put oi.dst undef) w → Q (.panic c) a w := by exact (fun _ _ _ h => h)) :
  wpAnyLast P md ops Q S ds (fuel + 1) l a w := pure_ l' hi hN hc hQ hy ha h
theorem tst1 {i : Nat} {N : Option Tmp} {oi : Oper} {v : Value} {fuel : Nat} {l : Array Bool} {a a' : Act} {w : World} (l' : Array Bool) (hc : takeB md ops ds l l' i = true) (hS : S w) (h : wpAnyLast P md ops Q S ds fuel l' a' w)
  (hi : ops[i]? = some oi := by rfl) (hN : oi.dst = N := by rfl) (hy : YieldsIf P ops S oi v a := by exact Or.inl ⟨by rfl, by (rintro w' s0; go_simp; with_reducible rfl)⟩) (ha : a.put N v = a' := by (simp only [Act.put, List.setIfInBounds_toArray, List.set_cons_zero, List.set_cons_succ, i64_w, i32_w]; rfl)) (hQ : ∀ c a w, Q (.panic c) (a.put oi.dst v) w → Q (.panic c) a w := by exact (fun _ _ _ h => h)) :
  wpAnyLast P md ops Q S ds (fuel + 1) l a w := take_ l' hi hN hc hQ hy hS ha h
theorem tst2 {i : Nat} {N : Option Tmp} {oi : Oper} {v : Value} {fuel : Nat} {l : Array Bool} {a a' : Act} {w : World} (l' : Array Bool) (hc : takeB md ops ds l l' i = true) (hS : S w) (h : wpAnyLast P md ops Q S ds fuel l' a' w)
  (hi : ops[i]? = some oi := by rfl) (hN : oi.dst = N := by rfl) (hy : YieldsIf P ops S oi v a := by exact Or.inl ⟨by rfl, by (rintro w' ⟨s0, s1⟩; go_simp; with_reducible rfl)⟩) (ha : a.put N v = a' := by (simp only [Act.put, List.setIfInBounds_toArray, List.set_cons_zero, List.set_cons_succ, i64_w, i32_w]; rfl)) (hQ : ∀ c a w, Q (.panic c) (a.put oi.dst v) w → Q (.panic c) a w := by exact (fun _ _ _ h => h)) :
  wpAnyLast P md ops Q S ds (fuel + 1) l a w := take_ l' hi hN hc hQ hy hS ha h
theorem tst3 {i : Nat} {N : Option Tmp} {oi : Oper} {v : Value} {fuel : Nat} {l : Array Bool} {a a' : Act} {w : World} (l' : Array Bool) (hc : takeB md ops ds l l' i = true) (hS : S w) (h : wpAnyLast P md ops Q S ds fuel l' a' w)
  (hi : ops[i]? = some oi := by rfl) (hN : oi.dst = N := by rfl) (hy : YieldsIf P ops S oi v a := by exact Or.inl ⟨by rfl, by (rintro w' ⟨s0, s1, s2⟩; go_simp; with_reducible rfl)⟩) (ha : a.put N v = a' := by (simp only [Act.put, List.setIfInBounds_toArray, List.set_cons_zero, List.set_cons_succ, i64_w, i32_w]; rfl)) (hQ : ∀ c a w, Q (.panic c) (a.put oi.dst v) w → Q (.panic c) a w := by exact (fun _ _ _ h => h)) :
  wpAnyLast P md ops Q S ds (fuel + 1) l a w := take_ l' hi hN hc hQ hy hS ha h
theorem tst4 {i : Nat} {N : Option Tmp} {oi : Oper} {v : Value} {fuel : Nat} {l : Array Bool} {a a' : Act} {w : World} (l' : Array Bool) (hc : takeB md ops ds l l' i = true) (hS : S w) (h : wpAnyLast P md ops Q S ds fuel l' a' w)
  (hi : ops[i]? = some oi := by rfl) (hN : oi.dst = N := by rfl) (hy : YieldsIf P ops S oi v a := by exact Or.inl ⟨by rfl, by (rintro w' ⟨s0, s1, s2, s3⟩; go_simp; with_reducible rfl)⟩) (ha : a.put N v = a' := by (simp only [Act.put, List.setIfInBounds_toArray, List.set_cons_zero, List.set_cons_succ, i64_w, i32_w]; rfl)) (hQ : ∀ c a w, Q (.panic c) (a.put oi.dst v) w → Q (.panic c) a w := by exact (fun _ _ _ h => h)) :
  wpAnyLast P md ops Q S ds (fuel + 1) l a w := take_ l' hi hN hc hQ hy hS ha h
theorem tst5 {i : Nat} {N : Option Tmp} {oi : Oper} {v : Value} {fuel : Nat} {l : Array Bool} {a a' : Act} {w : World} (l' : Array Bool) (hc : takeB md ops ds l l' i = true) (hS : S w) (h : wpAnyLast P md ops Q S ds fuel l' a' w)
  (hi : ops[i]? = some oi := by rfl) (hN : oi.dst = N := by rfl) (hy : YieldsIf P ops S oi v a := by exact Or.inl ⟨by rfl, by (rintro w' ⟨s0, s1, s2, s3, s4⟩; go_simp; with_reducible rfl)⟩) (ha : a.put N v = a' := by (simp only [Act.put, List.setIfInBounds_toArray, List.set_cons_zero, List.set_cons_succ, i64_w, i32_w]; rfl)) (hQ : ∀ c a w, Q (.panic c) (a.put oi.dst v) w → Q (.panic c) a w := by exact (fun _ _ _ h => h)) :
  wpAnyLast P md ops Q S ds (fuel + 1) l a w := take_ l' hi hN hc hQ hy hS ha h
theorem tst6 {i : Nat} {N : Option Tmp} {oi : Oper} {v : Value} {fuel : Nat} {l : Array Bool} {a a' : Act} {w : World} (l' : Array Bool) (hc : takeB md ops ds l l' i = true) (hS : S w) (h : wpAnyLast P md ops Q S ds fuel l' a' w)
  (hi : ops[i]? = some oi := by rfl) (hN : oi.dst = N := by rfl) (hy : YieldsIf P ops S oi v a := by exact Or.inl ⟨by rfl, by (rintro w' ⟨s0, s1, s2, s3, s4, s5⟩; go_simp; with_reducible rfl)⟩) (ha : a.put N v = a' := by (simp only [Act.put, List.setIfInBounds_toArray, List.set_cons_zero, List.set_cons_succ, i64_w, i32_w]; rfl)) (hQ : ∀ c a w, Q (.panic c) (a.put oi.dst v) w → Q (.panic c) a w := by exact (fun _ _ _ h => h)) :
  wpAnyLast P md ops Q S ds (fuel + 1) l a w := take_ l' hi hN hc hQ hy hS ha h
theorem tst7 {i : Nat} {N : Option Tmp} {oi : Oper} {v : Value} {fuel : Nat} {l : Array Bool} {a a' : Act} {w : World} (l' : Array Bool) (hc : takeB md ops ds l l' i = true) (hS : S w) (h : wpAnyLast P md ops Q S ds fuel l' a' w)
  (hi : ops[i]? = some oi := by rfl) (hN : oi.dst = N := by rfl) (hy : YieldsIf P ops S oi v a := by exact Or.inl ⟨by rfl, by (rintro w' ⟨s0, s1, s2, s3, s4, s5, s6⟩; go_simp; with_reducible rfl)⟩) (ha : a.put N v = a' := by (simp only [Act.put, List.setIfInBounds_toArray, List.set_cons_zero, List.set_cons_succ, i64_w, i32_w]; rfl)) (hQ : ∀ c a w, Q (.panic c) (a.put oi.dst v) w → Q (.panic c) a w := by exact (fun _ _ _ h => h)) :
  wpAnyLast P md ops Q S ds (fuel + 1) l a w := take_ l' hi hN hc hQ hy hS ha h
theorem tst8 {i : Nat} {N : Option Tmp} {oi : Oper} {v : Value} {fuel : Nat} {l : Array Bool} {a a' : Act} {w : World} (l' : Array Bool) (hc : takeB md ops ds l l' i = true) (hS : S w) (h : wpAnyLast P md ops Q S ds fuel l' a' w)
  (hi : ops[i]? = some oi := by rfl) (hN : oi.dst = N := by rfl) (hy : YieldsIf P ops S oi v a := by exact Or.inl ⟨by rfl, by (rintro w' ⟨s0, s1, s2, s3, s4, s5, s6, s7⟩; go_simp; with_reducible rfl)⟩) (ha : a.put N v = a' := by (simp only [Act.put, List.setIfInBounds_toArray, List.set_cons_zero, List.set_cons_succ, i64_w, i32_w]; rfl)) (hQ : ∀ c a w, Q (.panic c) (a.put oi.dst v) w → Q (.panic c) a w := by exact (fun _ _ _ h => h)) :
  wpAnyLast P md ops Q S ds (fuel + 1) l a w := take_ l' hi hN hc hQ hy hS ha h
theorem tst9 {i : Nat} {N : Option Tmp} {oi : Oper} {v : Value} {fuel : Nat} {l : Array Bool} {a a' : Act} {w : World} (l' : Array Bool) (hc : takeB md ops ds l l' i = true) (hS : S w) (h : wpAnyLast P md ops Q S ds fuel l' a' w)
  (hi : ops[i]? = some oi := by rfl) (hN : oi.dst = N := by rfl) (hy : YieldsIf P ops S oi v a := by exact Or.inl ⟨by rfl, by (rintro w' ⟨s0, s1, s2, s3, s4, s5, s6, s7, s8⟩; go_simp; with_reducible rfl)⟩) (ha : a.put N v = a' := by (simp only [Act.put, List.setIfInBounds_toArray, List.set_cons_zero, List.set_cons_succ, i64_w, i32_w]; rfl)) (hQ : ∀ c a w, Q (.panic c) (a.put oi.dst v) w → Q (.panic c) a w := by exact (fun _ _ _ h => h)) :
  wpAnyLast P md ops Q S ds (fuel + 1) l a w := take_ l' hi hN hc hQ hy hS ha h
theorem tst10 {i : Nat} {N : Option Tmp} {oi : Oper} {v : Value} {fuel : Nat} {l : Array Bool} {a a' : Act} {w : World} (l' : Array Bool) (hc : takeB md ops ds l l' i = true) (hS : S w) (h : wpAnyLast P md ops Q S ds fuel l' a' w)
  (hi : ops[i]? = some oi := by rfl) (hN : oi.dst = N := by rfl) (hy : YieldsIf P ops S oi v a := by exact Or.inl ⟨by rfl, by (rintro w' ⟨s0, s1, s2, s3, s4, s5, s6, s7, s8, s9⟩; go_simp; with_reducible rfl)⟩) (ha : a.put N v = a' := by (simp only [Act.put, List.setIfInBounds_toArray, List.set_cons_zero, List.set_cons_succ, i64_w, i32_w]; rfl)) (hQ : ∀ c a w, Q (.panic c) (a.put oi.dst v) w → Q (.panic c) a w := by exact (fun _ _ _ h => h)) :
  wpAnyLast P md ops Q S ds (fuel + 1) l a w := take_ l' hi hN hc hQ hy hS ha h
theorem tst11 {i : Nat} {N : Option Tmp} {oi : Oper} {v : Value} {fuel : Nat} {l : Array Bool} {a a' : Act} {w : World} (l' : Array Bool) (hc : takeB md ops ds l l' i = true) (hS : S w) (h : wpAnyLast P md ops Q S ds fuel l' a' w)
  (hi : ops[i]? = some oi := by rfl) (hN : oi.dst = N := by rfl) (hy : YieldsIf P ops S oi v a := by exact Or.inl ⟨by rfl, by (rintro w' ⟨s0, s1, s2, s3, s4, s5, s6, s7, s8, s9, s10⟩; go_simp; with_reducible rfl)⟩) (ha : a.put N v = a' := by (simp only [Act.put, List.setIfInBounds_toArray, List.set_cons_zero, List.set_cons_succ, i64_w, i32_w]; rfl)) (hQ : ∀ c a w, Q (.panic c) (a.put oi.dst v) w → Q (.panic c) a w := by exact (fun _ _ _ h => h)) :
  wpAnyLast P md ops Q S ds (fuel + 1) l a w := take_ l' hi hN hc hQ hy hS ha h
theorem tst12 {i : Nat} {N : Option Tmp} {oi : Oper} {v : Value} {fuel : Nat} {l : Array Bool} {a a' : Act} {w : World} (l' : Array Bool) (hc : takeB md ops ds l l' i = true) (hS : S w) (h : wpAnyLast P md ops Q S ds fuel l' a' w)
  (hi : ops[i]? = some oi := by rfl) (hN : oi.dst = N := by rfl) (hy : YieldsIf P ops S oi v a := by exact Or.inl ⟨by rfl, by (rintro w' ⟨s0, s1, s2, s3, s4, s5, s6, s7, s8, s9, s10, s11⟩; go_simp; with_reducible rfl)⟩) (ha : a.put N v = a' := by (simp only [Act.put, List.setIfInBounds_toArray, List.set_cons_zero, List.set_cons_succ, i64_w, i32_w]; rfl)) (hQ : ∀ c a w, Q (.panic c) (a.put oi.dst v) w → Q (.panic c) a w := by exact (fun _ _ _ h => h)) :
  wpAnyLast P md ops Q S ds (fuel + 1) l a w := take_ l' hi hN hc hQ hy hS ha h
theorem tst13 {i : Nat} {N : Option Tmp} {oi : Oper} {v : Value} {fuel : Nat} {l : Array Bool} {a a' : Act} {w : World} (l' : Array Bool) (hc : takeB md ops ds l l' i = true) (hS : S w) (h : wpAnyLast P md ops Q S ds fuel l' a' w)
  (hi : ops[i]? = some oi := by rfl) (hN : oi.dst = N := by rfl) (hy : YieldsIf P ops S oi v a := by exact Or.inl ⟨by rfl, by (rintro w' ⟨s0, s1, s2, s3, s4, s5, s6, s7, s8, s9, s10, s11, s12⟩; go_simp; with_reducible rfl)⟩) (ha : a.put N v = a' := by (simp only [Act.put, List.setIfInBounds_toArray, List.set_cons_zero, List.set_cons_succ, i64_w, i32_w]; rfl)) (hQ : ∀ c a w, Q (.panic c) (a.put oi.dst v) w → Q (.panic c) a w := by exact (fun _ _ _ h => h)) :
  wpAnyLast P md ops Q S ds (fuel + 1) l a w := take_ l' hi hN hc hQ hy hS ha h
theorem tst14 {i : Nat} {N : Option Tmp} {oi : Oper} {v : Value} {fuel : Nat} {l : Array Bool} {a a' : Act} {w : World} (l' : Array Bool) (hc : takeB md ops ds l l' i = true) (hS : S w) (h : wpAnyLast P md ops Q S ds fuel l' a' w)
  (hi : ops[i]? = some oi := by rfl) (hN : oi.dst = N := by rfl) (hy : YieldsIf P ops S oi v a := by exact Or.inl ⟨by rfl, by (rintro w' ⟨s0, s1, s2, s3, s4, s5, s6, s7, s8, s9, s10, s11, s12, s13⟩; go_simp; with_reducible rfl)⟩) (ha : a.put N v = a' := by (simp only [Act.put, List.setIfInBounds_toArray, List.set_cons_zero, List.set_cons_succ, i64_w, i32_w]; rfl)) (hQ : ∀ c a w, Q (.panic c) (a.put oi.dst v) w → Q (.panic c) a w := by exact (fun _ _ _ h => h)) :
  wpAnyLast P md ops Q S ds (fuel + 1) l a w := take_ l' hi hN hc hQ hy hS ha h
theorem tst15 {i : Nat} {N : Option Tmp} {oi : Oper} {v : Value} {fuel : Nat} {l : Array Bool} {a a' : Act} {w : World} (l' : Array Bool) (hc : takeB md ops ds l l' i = true) (hS : S w) (h : wpAnyLast P md ops Q S ds fuel l' a' w)
  (hi : ops[i]? = some oi := by rfl) (hN : oi.dst = N := by rfl) (hy : YieldsIf P ops S oi v a := by exact Or.inl ⟨by rfl, by (rintro w' ⟨s0, s1, s2, s3, s4, s5, s6, s7, s8, s9, s10, s11, s12, s13, s14⟩; go_simp; with_reducible rfl)⟩) (ha : a.put N v = a' := by (simp only [Act.put, List.setIfInBounds_toArray, List.set_cons_zero, List.set_cons_succ, i64_w, i32_w]; rfl)) (hQ : ∀ c a w, Q (.panic c) (a.put oi.dst v) w → Q (.panic c) a w := by exact (fun _ _ _ h => h)) :
  wpAnyLast P md ops Q S ds (fuel + 1) l a w := take_ l' hi hN hc hQ hy hS ha h
theorem tst16 {i : Nat} {N : Option Tmp} {oi : Oper} {v : Value} {fuel : Nat} {l : Array Bool} {a a' : Act} {w : World} (l' : Array Bool) (hc : takeB md ops ds l l' i = true) (hS : S w) (h : wpAnyLast P md ops Q S ds fuel l' a' w)
  (hi : ops[i]? = some oi := by rfl) (hN : oi.dst = N := by rfl) (hy : YieldsIf P ops S oi v a := by exact Or.inl ⟨by rfl, by (rintro w' ⟨s0, s1, s2, s3, s4, s5, s6, s7, s8, s9, s10, s11, s12, s13, s14, s15⟩; go_simp; with_reducible rfl)⟩) (ha : a.put N v = a' := by (simp only [Act.put, List.setIfInBounds_toArray, List.set_cons_zero, List.set_cons_succ, i64_w, i32_w]; rfl)) (hQ : ∀ c a w, Q (.panic c) (a.put oi.dst v) w → Q (.panic c) a w := by exact (fun _ _ _ h => h)) :
  wpAnyLast P md ops Q S ds (fuel + 1) l a w := take_ l' hi hN hc hQ hy hS ha h
end
end Go.Proofs.YteikgnaikeleaaaW.PrintMore

/- More short words: all cells of a box at once; a table that is as it was. -/
namespace Go.Proofs.YteikgnaikeleaaaW.PrintMore
open Go.RowKit Go.Proofs.YteikgnaikeleaaaW.PrintWords Go.Proofs.YteikgnaikeleaaaW.PrintLast
set_option linter.unusedVariables false
section
variable {W : World} {g : Nat} {t : TypeId} {a b c d e f : Value}
theorem bc1 (h : W.heap[g]? = some (.cells #[a] t (0, 0))) : W.cell? ⟨g, 0, none⟩ = some a := (blk_cell h 0).trans rfl
theorem bc2 (h : W.heap[g]? = some (.cells #[a, b] t (0, 0))) : W.cell? ⟨g, 0, none⟩ = some a ∧ W.cell? ⟨g, 1, none⟩ = some b := ⟨(blk_cell h 0).trans rfl, (blk_cell h 1).trans rfl⟩
theorem bc3 (h : W.heap[g]? = some (.cells #[a, b, c] t (0, 0))) : W.cell? ⟨g, 0, none⟩ = some a ∧ W.cell? ⟨g, 1, none⟩ = some b ∧ W.cell? ⟨g, 2, none⟩ = some c := ⟨(blk_cell h 0).trans rfl, (blk_cell h 1).trans rfl, (blk_cell h 2).trans rfl⟩
theorem bc4 (h : W.heap[g]? = some (.cells #[a, b, c, d] t (0, 0))) : W.cell? ⟨g, 0, none⟩ = some a ∧ W.cell? ⟨g, 1, none⟩ = some b ∧ W.cell? ⟨g, 2, none⟩ = some c ∧ W.cell? ⟨g, 3, none⟩ = some d := ⟨(blk_cell h 0).trans rfl, (blk_cell h 1).trans rfl, (blk_cell h 2).trans rfl, (blk_cell h 3).trans rfl⟩
theorem bc5 (h : W.heap[g]? = some (.cells #[a, b, c, d, e] t (0, 0))) : W.cell? ⟨g, 0, none⟩ = some a ∧ W.cell? ⟨g, 1, none⟩ = some b ∧ W.cell? ⟨g, 2, none⟩ = some c ∧ W.cell? ⟨g, 3, none⟩ = some d ∧ W.cell? ⟨g, 4, none⟩ = some e := ⟨(blk_cell h 0).trans rfl, (blk_cell h 1).trans rfl, (blk_cell h 2).trans rfl, (blk_cell h 3).trans rfl, (blk_cell h 4).trans rfl⟩
theorem bc6 (h : W.heap[g]? = some (.cells #[a, b, c, d, e, f] t (0, 0))) : W.cell? ⟨g, 0, none⟩ = some a ∧ W.cell? ⟨g, 1, none⟩ = some b ∧ W.cell? ⟨g, 2, none⟩ = some c ∧ W.cell? ⟨g, 3, none⟩ = some d ∧ W.cell? ⟨g, 4, none⟩ = some e ∧ W.cell? ⟨g, 5, none⟩ = some f := ⟨(blk_cell h 0).trans rfl, (blk_cell h 1).trans rfl, (blk_cell h 2).trans rfl, (blk_cell h 3).trans rfl, (blk_cell h 4).trans rfl, (blk_cell h 5).trans rfl⟩
variable {cs : Array Value}
theorem bf1 (h : W.heap[g]? = some (.cells cs t (0, 0))) : W.frozen? ⟨g, 0, none⟩ = false := blk_frozen h 0
theorem bf2 (h : W.heap[g]? = some (.cells cs t (0, 0))) : W.frozen? ⟨g, 0, none⟩ = false ∧ W.frozen? ⟨g, 1, none⟩ = false := ⟨blk_frozen h 0, blk_frozen h 1⟩
theorem bf3 (h : W.heap[g]? = some (.cells cs t (0, 0))) : W.frozen? ⟨g, 0, none⟩ = false ∧ W.frozen? ⟨g, 1, none⟩ = false ∧ W.frozen? ⟨g, 2, none⟩ = false := ⟨blk_frozen h 0, blk_frozen h 1, blk_frozen h 2⟩
theorem bf4 (h : W.heap[g]? = some (.cells cs t (0, 0))) : W.frozen? ⟨g, 0, none⟩ = false ∧ W.frozen? ⟨g, 1, none⟩ = false ∧ W.frozen? ⟨g, 2, none⟩ = false ∧ W.frozen? ⟨g, 3, none⟩ = false := ⟨blk_frozen h 0, blk_frozen h 1, blk_frozen h 2, blk_frozen h 3⟩
theorem bf5 (h : W.heap[g]? = some (.cells cs t (0, 0))) : W.frozen? ⟨g, 0, none⟩ = false ∧ W.frozen? ⟨g, 1, none⟩ = false ∧ W.frozen? ⟨g, 2, none⟩ = false ∧ W.frozen? ⟨g, 3, none⟩ = false ∧ W.frozen? ⟨g, 4, none⟩ = false := ⟨blk_frozen h 0, blk_frozen h 1, blk_frozen h 2, blk_frozen h 3, blk_frozen h 4⟩
theorem bf6 (h : W.heap[g]? = some (.cells cs t (0, 0))) : W.frozen? ⟨g, 0, none⟩ = false ∧ W.frozen? ⟨g, 1, none⟩ = false ∧ W.frozen? ⟨g, 2, none⟩ = false ∧ W.frozen? ⟨g, 3, none⟩ = false ∧ W.frozen? ⟨g, 4, none⟩ = false ∧ W.frozen? ⟨g, 5, none⟩ = false := ⟨blk_frozen h 0, blk_frozen h 1, blk_frozen h 2, blk_frozen h 3, blk_frozen h 4, blk_frozen h 5⟩
end
end Go.Proofs.YteikgnaikeleaaaW.PrintMore
namespace Go.Proofs.Yteikgnaikeleaaa
open Go.RowKit Go.Proofs.YteikgnaikeleaaaW.PrintWords Go.Proofs.YteikgnaikeleaaaW.PrintLast Go.Proofs.YteikgnaikeleaaaW.PrintMore
end Go.Proofs.Yteikgnaikeleaaa

-- Written by wip/xprint.py of this repo, over the kit's print.py: out of the translation; the oracles in it are by hand. Not trusted: Lean checks it.
namespace Go.Proofs.Yteikgnaikeleaaa.XLoop
open Go.RowKit Go.Proofs.YteikgnaikeleaaaW.PrintWords Go.Proofs.YteikgnaikeleaaaW.PrintLast Go.Proofs.YteikgnaikeleaaaW.PrintMore
attribute [local go_sem] max2_int min2_int max_two min_two max_three min_three max_four min_four   -- for this text's walks alone
set_option linter.unusedVariables false
set_option linter.unusedSimpArgs false



def errW : Option Int → Value
 | none => .nilIface
 | some c => .iface 0 (.int .i64 c)
theorem errW_none : errW none = .nilIface := rfl
theorem errW_some (c : Int) : errW (some c) = .iface 0 (.int .i64 c) := rfl

theorem info9 : (Try.prog.info? 9).map (fun i => (i.zero, i.size, i.bytes)) = some (some (.string ⟨#[]⟩), 1, 16) := by kernel_rfl
-- the values' own types
end Go.Proofs.Yteikgnaikeleaaa.XLoop

namespace Go.Proofs.Yteikgnaikeleaaa.XLoop
open Go.RowKit Go.Proofs.YteikgnaikeleaaaW.PrintWords Go.Proofs.YteikgnaikeleaaaW.PrintLast Go.Proofs.YteikgnaikeleaaaW.PrintMore
attribute [local go_sem] max2_int min2_int max_two min_two max_three min_three max_four min_four   -- for this text's walks alone
set_option linter.unusedVariables false
set_option linter.unusedSimpArgs false
/-! ### dropperlaw09_Long: function 14 -/
def dropperlaw09_Long.f (a0 : ByteArray) (a1 : ByteArray) : Option (Bool) := if (a0.size : Int) > 200 then (some true) else (some (decide ((a1.size : Int) > 200)))
set_option maxHeartbeats 8000000 in
set_option maxRecDepth 100000 in
theorem dropperlaw09_Long.calls (a0 : ByteArray) (a1 : ByteArray) (r : Bool) (w : World) (h : dropperlaw09_Long.f a0 a1 = some r) :
  Calls Try.prog 14 #[.string a0, .string a1] w fun e w' => e = .returned (.bool r) ∧ Drawn0 w w' := by
 have H : (if (a0.size : Int) > 200 then (some true) else (some (decide ((a1.size : Int) > 200)))) = some r := h
 clear h
 by_cases c3 : (a0.size : Int) > 200
 ·
  rw [if_pos c3] at H
  have c3b0 : decide (200 < (a0.size : Int)) = true := decide_eq_true c3
  have c3b1 : decide (200 < a0.size) = true := decide_eq_true (by omega)
  clear c3
  obtain rfl := Option.some.inj H
  go_enter Try.func14, Try.ntmps14
  go_wp2
  go_ret
  exact ⟨by first | rfl | (simp; done) | (simp [*]; done), drz⟩
 ·
  rw [if_neg c3] at H
  have c3b0 : decide (200 < (a0.size : Int)) = false := decide_eq_false c3
  have c3b1 : decide (200 < a0.size) = false := decide_eq_false (by omega)
  clear c3
  obtain rfl := Option.some.inj H
  go_enter Try.func14, Try.ntmps14
  go_wp2
  go_ret
  exact ⟨by first | rfl | (simp; done) | (simp [*]; done), drz⟩

end Go.Proofs.Yteikgnaikeleaaa.XLoop
/- Circuits, plainly: what a text means. -/
namespace Go.Proofs.Yteikgnaikeleaaa
set_option linter.unusedVariables false

def tx (l : List UInt8) : ByteArray := ⟨l.toArray⟩
structure Mean where
 f : Nat → Bool
 d : List UInt8
def isL (b : UInt8) : Bool := decide (97 ≤ b) && decide (b ≤ 104)
def litM (b : UInt8) : Mean := ⟨fun n => n.testBit (b.toNat - 97), [b]⟩
def condB (b : List Mean) (n : Nat) : Bool := b.all (fun m => m.f n)
def condC (c : List (List Mean)) (n : Nat) : Bool := c.any (fun b => condB b n)
def joinL : List (List UInt8) → List UInt8
 | [] => []
 | [a] => a
 | a :: b :: l => a ++ 43 :: joinL (b :: l)
def dualB (b : List Mean) : List UInt8 := joinL (b.map (·.d))
def wideL : List UInt8 → Int → Bool
 | [], _ => false
 | b :: l, k => if b = 40 then wideL l (k + 1) else if b = 41 then wideL l (k - 1) else if b = 43 ∧ k = 0 then true else wideL l k
def wrapL (d : List UInt8) : List UInt8 := if wideL d 0 then 40 :: d ++ [41] else d
def dualC (c : List (List Mean)) : List UInt8 :=
 match c with
 | [b] => dualB b
 | _ => c.flatMap (fun b => wrapL (dualB b))
def meanC (c : List (List Mean)) : Mean := ⟨condC c, dualC c⟩
abbrev PF := List UInt8 → Option (Mean × List UInt8)
def partsL (P : PF) : Nat → List Mean → List UInt8 → Option (List Mean × List UInt8)
 | 0, _, _ => none
 | _ + 1, acc, [] => some (acc, [])
 | k + 1, acc, b :: t =>
  if b = 0 ∨ b = 43 ∨ b = 41 then some (acc, b :: t) else
   match P (b :: t) with
   | none => none
   | some (m, l') => partsL P k (acc ++ [m]) l'
def circL (P : PF) : Nat → List (List Mean) → List UInt8 → Option (List (List Mean) × List UInt8)
 | 0, _, _ => none
 | k + 1, acc, l =>
  match P l with
  | none => none
  | some (m, l1) =>
   match partsL P (l1.length + 1) [m] l1 with
   | none => none
   | some (b, l2) =>
    match l2 with
    | [] => some (acc ++ [b], [])
    | c :: l3 => if c = 43 then circL P k (acc ++ [b]) l3 else some (acc ++ [b], c :: l3)
def pPart : Nat → PF
 | 0, _ => none
 | _ + 1, [] => none
 | n + 1, b :: t =>
  if isL b then some (litM b, t)
  else if b = 40 then
   match circL (pPart n) (t.length + 1) [] t with
   | some (c, 41 :: t') => some (meanC c, t')
   | _ => none
  else none
def parseC (s : List UInt8) : Option (List (List Mean)) :=
 if s.length ≤ 40 then
  match circL (pPart (s.length + 1)) (s.length + 1) [] s with
  | some (c, []) => some c
  | _ => none
 else none
def parseL (s : List UInt8) : Option Mean := (parseC s).map meanC

def setL : List UInt8 → Nat → Int → Option Nat
 | [], out, _ => some out
 | b :: t, out, last => if isL b ∧ last < (b.toNat : Int) - 97 then setL t (out ||| 2 ^ (b.toNat - 97)) ((b.toNat : Int) - 97) else none
def textN (n : Nat) : List UInt8 := (List.range 8).filterMap (fun i => if n.testBit i then some (UInt8.ofNat (97 + i)) else none)
def order : List Nat := [0, 1, 2, 4, 8, 16, 32, 64, 128, 3, 5, 9, 17, 33, 65, 129, 6, 10, 18, 34, 66, 130, 12, 20, 36, 68, 132, 24, 40, 72, 136, 48, 80, 144, 96, 160, 192, 7, 11, 19, 35, 67, 131, 13, 21, 37, 69, 133, 25, 41, 73, 137, 49, 81, 145, 97, 161, 193, 14, 22, 38, 70, 134, 26, 42, 74, 138, 50, 82, 146, 98, 162, 194, 28, 44, 76, 140, 52, 84, 148, 100, 164, 196, 56, 88, 152, 104, 168, 200, 112, 176, 208, 224, 15, 23, 39, 71, 135, 27, 43, 75, 139, 51, 83, 147, 99, 163, 195, 29, 45, 77, 141, 53, 85, 149, 101, 165, 197, 57, 89, 153, 105, 169, 201, 113, 177, 209, 225, 30, 46, 78, 142, 54, 86, 150, 102, 166, 198, 58, 90, 154, 106, 170, 202, 114, 178, 210, 226, 60, 92, 156, 108, 172, 204, 116, 180, 212, 228, 120, 184, 216, 232, 240, 31, 47, 79, 143, 55, 87, 151, 103, 167, 199, 59, 91, 155, 107, 171, 203, 115, 179, 211, 227, 61, 93, 157, 109, 173, 205, 117, 181, 213, 229, 121, 185, 217, 233, 241, 62, 94, 158, 110, 174, 206, 118, 182, 214, 230, 122, 186, 218, 234, 242, 124, 188, 220, 236, 244, 248, 63, 95, 159, 111, 175, 207, 119, 183, 215, 231, 123, 187, 219, 235, 243, 125, 189, 221, 237, 245, 249, 126, 190, 222, 238, 246, 250, 252, 127, 191, 223, 239, 247, 251, 253, 254, 255]
def partOf (a b : Nat) : Bool := a &&& (255 ^^^ b) == 0
def leastL (is : Nat → Bool) : List Nat := order.foldl (fun out n => if is n && !out.any (fun a => partOf a n) then out ++ [n] else out) []
def cutF (f : Nat → Bool) (n : Nat) : Bool := !f (255 ^^^ n)
def fixF (f : Nat → Bool) (m : Nat) (closed : Bool) (n : Nat) : Bool := if closed then f (n ||| m) else f (n &&& (255 ^^^ m))
def plainL (f : Nat → Bool) : List UInt8 × Int :=
 if f 0 || !f 255 then ([], 5) else
  let s := joinL ((leastL f).map textN)
  if s.length > 40 then ([], 4) else (s, 0)
def sizeN (n : Nat) : Nat := ((List.range 8).filter (fun i => n.testBit i)).length
def allOf (s : List UInt8) : Nat := (List.range 8).foldl (fun out i => if s.contains (UInt8.ofNat (97 + i)) then out ||| 2 ^ i else out) 0
end Go.Proofs.Yteikgnaikeleaaa

/- The reference's reader, plainly, and that it reads what the program's reads. -/
namespace Go.Proofs.Yteikgnaikeleaaa
set_option linter.unusedVariables false

abbrev RF := List UInt8 → Option ((Nat → Bool) × List UInt8)
def opens (b : UInt8) : Bool := decide (b = 40) || isL b
def rParts (P : RF) : Nat → (Nat → Bool) → List UInt8 → Option ((Nat → Bool) × List UInt8)
 | 0, _, _ => none
 | _ + 1, v, [] => some (v, [])
 | k + 1, v, b :: t =>
  if opens b then
   match P (b :: t) with
   | none => none
   | some (p, l') => rParts P k (fun n => v n && p n) l'
  else some (v, b :: t)
def rBranch (P : RF) (l : List UInt8) : Option ((Nat → Bool) × List UInt8) :=
 match l with
 | [] => none
 | b :: t => if opens b then rParts P ((b :: t).length + 1) (fun _ => true) (b :: t) else none
def rCirc (P : RF) : Nat → (Nat → Bool) → List UInt8 → Option ((Nat → Bool) × List UInt8)
 | 0, _, _ => none
 | k + 1, v, l =>
  match rBranch P l with
  | none => none
  | some (b, l2) =>
   match l2 with
   | [] => some (fun n => v n || b n, [])
   | c :: l3 => if c = 43 then rCirc P k (fun n => v n || b n) l3 else some (fun n => v n || b n, c :: l3)
def rPart : Nat → RF
 | 0, _ => none
 | _ + 1, [] => none
 | n + 1, b :: t =>
  if isL b then some (fun n => n.testBit (b.toNat - 97), t)
  else if b = 40 then
   match rCirc (rPart n) (t.length + 1) (fun _ => false) t with
   | some (v, 41 :: t') => some (v, t')
   | _ => none
  else none
def readL (s : List UInt8) : Option (Nat → Bool) :=
 if s.length ≤ 40 then
  match rCirc (rPart (s.length + 1)) (s.length + 1) (fun _ => false) s with
  | some (v, []) => some v
  | _ => none
 else none

def odd (b : UInt8) : Prop := b ≠ 0 ∧ b ≠ 41 ∧ b ≠ 43
structure PR (N : Nat) (P : PF) (R : RF) : Prop where
 same : ∀ b t, (b :: t).length ≤ N → opens b = true → R (b :: t) = (P (b :: t)).map (fun x => (x.1.f, x.2))
 none_ : ∀ b t, opens b = false → P (b :: t) = none
 nil_ : P [] = none
 less : ∀ l m t, P l = some (m, t) → t.length < l.length

theorem stop_not_opens {b : UInt8} (h : b = 0 ∨ b = 43 ∨ b = 41) : opens b = false := by
 rcases h with rfl | rfl | rfl <;> decide

theorem partsL_less {P : PF} (hl : ∀ l m t, P l = some (m, t) → t.length < l.length) : ∀ k acc l b t, partsL P k acc l = some (b, t) → t.length ≤ l.length
 | 0, _, _, _, _, h => by simp [partsL] at h
 | k + 1, acc, [], b, t, h => by simp [partsL] at h; obtain ⟨_, rfl⟩ := h; simp
 | k + 1, acc, c :: l, b, t, h => by
  rw [partsL] at h
  split at h
  ·
   simp at h; obtain ⟨_, rfl⟩ := h; simp
  ·
   cases hp : P (c :: l) with
   | none => simp [hp] at h
   | some x =>
    obtain ⟨m, l'⟩ := x
    simp only [hp] at h
    have := hl _ _ _ hp
    have := partsL_less hl k _ _ _ _ h
    omega

theorem parts_agree {N : Nat} {P : PF} {R : RF} (H : PR N P R) : ∀ (k k' : Nat) (acc : List Mean) (l : List UInt8), l.length ≤ N → l.length < k → l.length < k' →
  (∀ b t, partsL P k acc l = some (b, t) → rParts R k' (condB acc) l = some (condB b, t)) ∧
  (partsL P k acc l = none → rParts R k' (condB acc) l = none ∨ ∃ v b t, rParts R k' (condB acc) l = some (v, b :: t) ∧ odd b)
 | 0, _, _, _, _, h, _ => absurd h (by omega)
 | _, 0, _, _, _, _, h => absurd h (by omega)
 | k + 1, k' + 1, acc, [], _, _, _ => by
  refine ⟨fun b t h => ?_, fun h => ?_⟩
  ·
   simp [partsL] at h
   obtain ⟨rfl, rfl⟩ := h
   rfl
  ·
   simp [partsL] at h
 | k + 1, k' + 1, acc, c :: l, hN, hk, hk' => by
  rw [partsL, rParts]
  by_cases hs : c = 0 ∨ c = 43 ∨ c = 41
  ·
   rw [if_pos hs, stop_not_opens hs]
   refine ⟨fun b t h => ?_, fun h => by simp at h⟩
   simp at h
   obtain ⟨rfl, rfl⟩ := h
   rfl
  ·
   rw [if_neg hs]
   by_cases ho : opens c = true
   ·
    rw [if_pos ho, H.same c l hN ho]
    cases hp : P (c :: l) with
    | none => exact ⟨fun b t h => by simp at h, fun _ => Or.inl rfl⟩
    | some x =>
     obtain ⟨m, l'⟩ := x
     have hl := H.less _ _ _ hp
     have ih := parts_agree H k k' (acc ++ [m]) l' (by omega) (by omega) (by omega)
     have e : (fun n => condB acc n && m.f n) = condB (acc ++ [m]) := by
      funext n
      simp [condB]
     simp only [Option.map_some]
     rw [e]
     exact ih
   ·
    rw [if_neg ho, H.none_ c l (by simpa using ho)]
    refine ⟨fun b t h => by simp at h, fun _ => Or.inr ⟨_, c, l, rfl, ?_⟩⟩
    unfold odd
    refine ⟨fun h => hs (.inl h), fun h => hs (.inr (.inr h)), fun h => hs (.inr (.inl h))⟩

theorem circL_less {P : PF} (hl : ∀ l m t, P l = some (m, t) → t.length < l.length) : ∀ k acc l c t, circL P k acc l = some (c, t) → t.length < l.length
 | 0, _, _, _, _, h => by simp [circL] at h
 | k + 1, acc, l, c, t, h => by
  rw [circL] at h
  cases hp : P l with
  | none => simp [hp] at h
  | some x =>
   obtain ⟨m, l1⟩ := x
   simp only [hp] at h
   have h1 := hl _ _ _ hp
   cases hq : partsL P (l1.length + 1) [m] l1 with
   | none => simp [hq] at h
   | some y =>
    obtain ⟨b, l2⟩ := y
    simp only [hq] at h
    have h2 := partsL_less hl _ _ _ _ _ hq
    cases l2 with
    | nil =>
     simp at h
     obtain ⟨_, rfl⟩ := h
     simp at h2 ⊢
     omega
    | cons d l3 =>
     simp only at h
     simp only [List.length_cons] at h2
     split at h
     ·
      have := circL_less hl k _ _ _ _ h
      omega
     ·
      simp at h
      obtain ⟨_, rfl⟩ := h
      simp only [List.length_cons]
      omega

theorem circ_agree {N : Nat} {P : PF} {R : RF} (H : PR N P R) : ∀ (k k' : Nat) (acc : List (List Mean)) (l : List UInt8), l.length ≤ N → l.length < k → l.length < k' →
  (∀ c t, circL P k acc l = some (c, t) → rCirc R k' (condC acc) l = some (condC c, t)) ∧
  (circL P k acc l = none → rCirc R k' (condC acc) l = none ∨ ∃ v b t, rCirc R k' (condC acc) l = some (v, b :: t) ∧ odd b)
 | 0, _, _, _, _, h, _ => absurd h (by omega)
 | _, 0, _, _, _, _, h => absurd h (by omega)
 | k + 1, k' + 1, acc, l, hN, hk, hk' => by
  rw [circL, rCirc]
  cases l with
  | nil =>
   rw [H.nil_]
   exact ⟨fun b t h => by simp at h, fun _ => Or.inl rfl⟩
  | cons c l =>
   rw [rBranch]
   by_cases ho : opens c = true
   ·
    rw [if_pos ho, rParts, if_pos ho, H.same c l hN ho]
    cases hp : P (c :: l) with
    | none => exact ⟨fun b t h => by simp at h, fun _ => Or.inl rfl⟩
    | some x =>
     obtain ⟨m, l1⟩ := x
     have hl := H.less _ _ _ hp
     have e : (fun n => true && m.f n) = condB [m] := by
      funext n
      simp [condB]
     simp only [Option.map_some]
     rw [e]
     obtain ⟨i1, i2⟩ := parts_agree H (l1.length + 1) ((c :: l).length) [m] l1 (by omega) (by omega) (by omega)
     cases hq : partsL P (l1.length + 1) [m] l1 with
     | none =>
      rcases i2 hq with h | ⟨v, b, t, h, hb⟩
      ·
       rw [h]
       exact ⟨fun b t h => by simp at h, fun _ => Or.inl rfl⟩
      ·
       rw [h]
       refine ⟨fun b t h => by simp at h, fun _ => Or.inr ⟨fun n => condC acc n || v n, b, t, ?_, hb⟩⟩
       simp only
       rw [if_neg hb.2.2]
     | some y =>
      obtain ⟨b, l2⟩ := y
      rw [i1 b l2 hq]
      have h2 := partsL_less H.less _ _ _ _ _ hq
      have e2 : (fun n => condC acc n || condB b n) = condC (acc ++ [b]) := by
       funext n
       simp [condC]
      cases l2 with
      | nil =>
       simp only
       rw [e2]
       refine ⟨fun c t h => ?_, fun h => by simp at h⟩
       simp at h
       obtain ⟨rfl, rfl⟩ := h
       rfl
      | cons d l3 =>
       simp only
       rw [e2]
       simp only [List.length_cons] at h2 hl hN hk hk'
       by_cases hd : d = 43
       ·
        rw [if_pos hd, if_pos hd]
        exact circ_agree H k k' (acc ++ [b]) l3 (by omega) (by omega) (by omega)
       ·
        rw [if_neg hd, if_neg hd]
        refine ⟨fun c t h => ?_, fun h => by simp at h⟩
        simp at h
        obtain ⟨rfl, rfl⟩ := h
        rfl
   ·
    rw [if_neg ho, H.none_ c l (by simpa using ho)]
    exact ⟨fun b t h => by simp at h, fun _ => Or.inl rfl⟩

theorem pPart_less : ∀ n l m t, pPart n l = some (m, t) → t.length < l.length
 | 0, _, _, _, h => by simp [pPart] at h
 | n + 1, [], _, _, h => by simp [pPart] at h
 | n + 1, b :: l, m, t, h => by
  rw [pPart] at h
  split at h
  ·
   simp at h
   obtain ⟨_, rfl⟩ := h
   simp
  ·
   split at h
   ·
    cases hc : circL (pPart n) (l.length + 1) [] l with
    | none => simp [hc] at h
    | some x =>
     obtain ⟨c, l1⟩ := x
     rw [hc] at h
     have := circL_less (fun l m t => pPart_less n l m t) _ _ _ _ _ hc
     split at h
     ·
      rename_i e
      simp at e h
      obtain ⟨_, rfl⟩ := h
      obtain ⟨_, rfl⟩ := e
      simp only [List.length_cons] at this ⊢
      omega
     ·
      simp at h
   ·
    simp at h

theorem part_agree : ∀ n, PR n (pPart n) (rPart n)
 | 0 => ⟨fun b t h => by simp at h, fun _ _ _ => rfl, rfl, fun _ _ _ h => by simp [pPart] at h⟩
 | n + 1 => by
  refine ⟨fun b t hN ho => ?_, fun b t ho => ?_, rfl, pPart_less (n + 1)⟩
  ·
   rw [pPart, rPart]
   by_cases hi : isL b = true
   ·
    rw [if_pos hi, if_pos hi]
    rfl
   ·
    rw [if_neg hi, if_neg hi]
    by_cases h4 : b = 40
    ·
     rw [if_pos h4, if_pos h4]
     simp only [List.length_cons] at hN
     obtain ⟨i1, i2⟩ := circ_agree (part_agree n) (t.length + 1) (t.length + 1) [] t (by omega) (by omega) (by omega)
     have e0 : (fun _ : Nat => false) = condC [] := rfl
     rw [e0]
     cases hc : circL (pPart n) (t.length + 1) [] t with
     | none =>
      rcases i2 hc with h | ⟨v, b, t', h, hb⟩
      ·
       rw [h]; rfl
      ·
       rw [h]
       have hb2 := hb.2.1
       split
       ·
        rename_i e
        simp at e
        exact absurd e.2.1 hb2
       ·
        rfl
     | some x =>
      obtain ⟨c, l1⟩ := x
      rw [i1 c l1 hc]
      cases l1 with
      | nil => rfl
      | cons d l2 =>
       by_cases hd : d = 41
       ·
        subst hd; rfl
       ·
        have g1 : (match some (condC c, d :: l2) with | some (v, 41 :: t') => some (v, t') | _ => none) = none := by
         split
         ·
          rename_i e
          simp at e
          exact absurd e.2.1 hd
         ·
          rfl
        rw [g1]
        split
        ·
         rename_i e
         simp at e
         exact absurd e.2.1 hd
        ·
         rfl
    ·
     unfold opens at ho
     simp [h4, hi] at ho
  ·
   rw [pPart]
   unfold opens at ho
   simp at ho
   rw [if_neg (by simp [ho.2]), if_neg ho.1]

theorem tx_size (l : List UInt8) : (tx l).size = l.length := by simp [tx, ByteArray.size]
theorem tx_get (l : List UInt8) (i : Nat) (h : i < (tx l).size) : (tx l)[i]'h = l[i]'(by rw [← tx_size]; exact h) := by
 simp [tx, ByteArray.getElem_eq_getElem_data]
theorem tx_data (s : ByteArray) : tx s.data.toList = s := by
 cases s; simp [tx]
theorem readL_eq (s : List UInt8) : readL s = (parseL s).map (·.f) := by
 unfold readL parseL parseC
 by_cases hs : s.length ≤ 40
 ·
  rw [if_pos hs, if_pos hs]
  obtain ⟨i1, i2⟩ := circ_agree (part_agree (s.length + 1)) (s.length + 1) (s.length + 1) [] s (by omega) (by omega) (by omega)
  have e0 : (fun _ : Nat => false) = condC [] := rfl
  rw [e0]
  cases hc : circL (pPart (s.length + 1)) (s.length + 1) [] s with
  | none =>
   rcases i2 hc with h | ⟨v, b, t', h, hb⟩
   ·
    rw [h]; rfl
   ·
    rw [h]; rfl
  | some x =>
   obtain ⟨c, l1⟩ := x
   rw [i1 c l1 hc]
   cases l1 with
   | nil => rfl
   | cons d l2 => rfl
 ·
  rw [if_neg hs, if_neg hs]
  rfl
end Go.Proofs.Yteikgnaikeleaaa

/- A circuit never conducts with fewer letters than with more; with none never, with all always. -/
namespace Go.Proofs.Yteikgnaikeleaaa
set_option linter.unusedVariables false

def Sub (a b : Nat) : Prop := ∀ i, a.testBit i = true → b.testBit i = true
structure Good (f : Nat → Bool) : Prop where
 mono : ∀ a b, Sub a b → f a = true → f b = true
 zero : f 0 = false
 full : f 255 = true
theorem partsL_all {p : Mean → Prop} {P : PF} (hP : ∀ l m t, P l = some (m, t) → p m) : ∀ k acc l b t, (∀ m ∈ acc, p m) → partsL P k acc l = some (b, t) → (∀ m ∈ b, p m) ∧ acc.length ≤ b.length
 | 0, _, _, _, _, _, h => by simp [partsL] at h
 | k + 1, acc, [], b, t, ha, h => by simp [partsL] at h; obtain ⟨rfl, rfl⟩ := h; exact ⟨ha, Nat.le_refl _⟩
 | k + 1, acc, c :: l, b, t, ha, h => by
  rw [partsL] at h
  split at h
  ·
   simp at h; obtain ⟨rfl, rfl⟩ := h; exact ⟨ha, Nat.le_refl _⟩
  ·
   cases hp : P (c :: l) with
   | none => simp [hp] at h
   | some x =>
    obtain ⟨m, l'⟩ := x
    simp only [hp] at h
    have := partsL_all hP k _ _ _ _ (fun m' hm' => by
     rcases List.mem_append.1 hm' with h' | h'
     ·
      exact ha m' h'
     ·
      rw [List.mem_singleton.1 h']; exact hP _ _ _ hp) h
    refine ⟨this.1, ?_⟩
    have h2 := this.2
    simp at h2
    omega
def okC (p : Mean → Prop) (c : List (List Mean)) : Prop := ∀ b ∈ c, b ≠ [] ∧ ∀ m ∈ b, p m
theorem circL_all {p : Mean → Prop} {P : PF} (hP : ∀ l m t, P l = some (m, t) → p m) : ∀ k acc l c t, okC p acc → circL P k acc l = some (c, t) → okC p c ∧ c ≠ []
 | 0, _, _, _, _, _, h => by simp [circL] at h
 | k + 1, acc, l, c, t, ha, h => by
  rw [circL] at h
  cases hp : P l with
  | none => simp [hp] at h
  | some x =>
   obtain ⟨m, l1⟩ := x
   simp only [hp] at h
   cases hq : partsL P (l1.length + 1) [m] l1 with
   | none => simp [hq] at h
   | some y =>
    obtain ⟨b, l2⟩ := y
    simp only [hq] at h
    have hb := partsL_all hP _ _ _ _ _ (fun m' hm' => by rw [List.mem_singleton.1 hm']; exact hP _ _ _ hp) hq
    have hc : okC p (acc ++ [b]) := by
     intro b' hb'
     rcases List.mem_append.1 hb' with h' | h'
     ·
      exact ha b' h'
     ·
      rw [List.mem_singleton.1 h']
      refine ⟨fun e => ?_, hb.1⟩
      have := hb.2
      simp [e] at this
    cases l2 with
    | nil =>
     simp at h
     obtain ⟨rfl, rfl⟩ := h
     exact ⟨hc, by simp⟩
    | cons d l3 =>
     simp only at h
     split at h
     ·
      exact circL_all hP k _ _ _ _ hc h
     ·
      simp at h
      obtain ⟨rfl, rfl⟩ := h
      exact ⟨hc, by simp⟩
theorem pPart_all {p : Mean → Prop} (h1 : ∀ b, isL b = true → p (litM b)) (h2 : ∀ c, okC p c → c ≠ [] → p (meanC c)) : ∀ n l m t, pPart n l = some (m, t) → p m
 | 0, _, _, _, h => by simp [pPart] at h
 | n + 1, [], _, _, h => by simp [pPart] at h
 | n + 1, b :: l, m, t, h => by
  rw [pPart] at h
  split at h
  ·
   rename_i hb
   simp at h
   obtain ⟨rfl, rfl⟩ := h
   exact h1 b hb
  ·
   split at h
   ·
    cases hc : circL (pPart n) (l.length + 1) [] l with
    | none => simp [hc] at h
    | some x =>
     obtain ⟨c, l1⟩ := x
     rw [hc] at h
     have := circL_all (fun l m t => pPart_all h1 h2 n l m t) _ _ _ _ _ (fun b hb => by simp at hb) hc
     split at h
     ·
      rename_i e
      simp at e h
      obtain ⟨rfl, rfl⟩ := h
      obtain ⟨rfl, rfl⟩ := e
      exact h2 _ this.1 this.2
     ·
      simp at h
   ·
    simp at h
theorem parseC_all {p : Mean → Prop} (h1 : ∀ b, isL b = true → p (litM b)) (h2 : ∀ c, okC p c → c ≠ [] → p (meanC c)) {s : List UInt8} {c : List (List Mean)} (h : parseC s = some c) : okC p c ∧ c ≠ [] := by
 unfold parseC at h
 split at h
 ·
  cases hc : circL (pPart (s.length + 1)) (s.length + 1) [] s with
  | none => simp [hc] at h
  | some x =>
   obtain ⟨c', l1⟩ := x
   rw [hc] at h
   cases l1 with
   | nil =>
    simp at h
    subst h
    exact circL_all (fun l m t => pPart_all h1 h2 _ l m t) _ _ _ _ _ (fun b hb => by simp at hb) hc
   | cons d l => simp at h
 ·
  simp at h
theorem good_lit {b : UInt8} (h : isL b = true) : Good (litM b).f := by
 have hb : b.toNat - 97 < 8 := by
  unfold isL at h
  simp [UInt8.le_iff_toNat_le] at h
  omega
 refine ⟨fun x y hs hx => hs _ hx, by simp [litM], ?_⟩
 have : ∀ i : Fin 8, Nat.testBit 255 i.val = true := by decide
 exact this ⟨_, hb⟩
theorem good_circ (c : List (List Mean)) (hc : okC (fun m => Good m.f) c) (hn : c ≠ []) : Good (meanC c).f := by
 refine ⟨fun a b hs ha => ?_, ?_, ?_⟩
 ·
  simp only [meanC, condC, condB, List.any_eq_true, List.all_eq_true] at ha ⊢
  obtain ⟨x, hx, hm⟩ := ha
  exact ⟨x, hx, fun m hmx => ((hc x hx).2 m hmx).mono a b hs (hm m hmx)⟩
 ·
  simp only [meanC, condC, condB, List.any_eq_false, List.all_eq_true]
  intro x hx hm
  obtain ⟨h0, h1⟩ := hc x hx
  obtain ⟨m, hm0⟩ := List.exists_mem_of_ne_nil x h0
  have := (h1 m hm0).zero
  rw [hm m hm0] at this
  exact absurd this (by decide)
 ·
  simp only [meanC, condC, condB, List.any_eq_true, List.all_eq_true]
  obtain ⟨x, hx⟩ := List.exists_mem_of_ne_nil c hn
  exact ⟨x, hx, fun m hmx => ((hc x hx).2 m hmx).full⟩
theorem parseL_good {s : List UInt8} {m : Mean} (h : parseL s = some m) : Good m.f := by
 unfold parseL at h
 obtain ⟨c, hc, rfl⟩ := Option.map_eq_some_iff.1 h
 obtain ⟨h1, h2⟩ := parseC_all (p := fun m => Good m.f) (fun b hb => good_lit hb) (fun c h1 h2 => good_circ c h1 h2) hc
 exact good_circ c h1 h2
end Go.Proofs.Yteikgnaikeleaaa

/- What parts and circuits are in memory. -/
namespace Go.Proofs.Yteikgnaikeleaaa
open Go.RowKit Go.Proofs.YteikgnaikeleaaaW.PrintWords Go.Proofs.YteikgnaikeleaaaW.PrintLast Go.Proofs.YteikgnaikeleaaaW.PrintMore
set_option linter.unusedVariables false

theorem isL_iff' (b : UInt8) : isL b = true ↔ 97 ≤ b.toNat ∧ b.toNat ≤ 104 := by
 unfold isL
 simp [UInt8.le_iff_toNat_le]
def asc (d : List UInt8) : Prop := ∀ b ∈ d, b.toNat < 128
def small (c : List (List Mean)) : Prop := asc (dualC c) ∧ c.length ≤ 100000 ∧ ∀ b ∈ c, b.length ≤ 100000
def litK (x : Mean) (cs : List Value) : Prop := ∃ b : UInt8, isL b = true ∧ x = litM b ∧ cs = [.iface 122 (.int .i64 ((b.toNat : Int) - 97))]
def partKd : Nat → Kd Mean
 | 0 => {
  sz := 1
  E := []
  K := fun _ x cs => litK x cs
  M := fun _ _ _ x cs => litK x cs
  K_len := by rintro w x cs ⟨b, _, _, rfl⟩; rfl
  K_one := by
   rintro w x cs ⟨b, _, _, rfl⟩ u hu
   rw [List.mem_singleton.1 hu]; rfl
  K_below := fun _ h => h
  K_of_M := fun h => h
  M_mono := fun _ h => h
  M_bound := fun h => h
  M_move := fun _ h => h
  M_lower := fun _ h => h }
 | n + 1 => {
  sz := 1
  E := (Kd.slice 91 (Kd.slice 116 (partKd n))).E
  K := fun w x cs => litK x cs ∨ ∃ c v, x = meanC c ∧ small c ∧ cs = [.iface 61 v] ∧ (Kd.slice 91 (Kd.slice 116 (partKd n))).K w c [v]
  M := fun w base ok x cs => litK x cs ∨ ∃ c v, x = meanC c ∧ small c ∧ cs = [.iface 61 v] ∧ (Kd.slice 91 (Kd.slice 116 (partKd n))).M w base ok c [v]
  K_len := by rintro w x cs (⟨b, _, _, rfl⟩ | ⟨c, v, _, _, rfl, _⟩) <;> rfl
  K_one := by
   rintro w x cs (⟨b, _, _, rfl⟩ | ⟨c, v, _, _, rfl, _⟩) u hu
   ·
    rw [List.mem_singleton.1 hu]; rfl
   ·
    rw [List.mem_singleton.1 hu]; rfl
  K_below := by
   rintro w w1 x cs hb (h | ⟨c, v, h1, h2, h3, h4⟩)
   ·
    exact .inl h
   ·
    exact .inr ⟨c, v, h1, h2, h3, Kd.K_below _ hb h4⟩
  K_of_M := by
   rintro w base ok x cs (h | ⟨c, v, h1, h2, h3, h4⟩)
   ·
    exact .inl h
   ·
    exact .inr ⟨c, v, h1, h2, h3, Kd.K_of_M _ h4⟩
  M_mono := by
   rintro w base ok ok' x cs hk (h | ⟨c, v, h1, h2, h3, h4⟩)
   ·
    exact .inl h
   ·
    exact .inr ⟨c, v, h1, h2, h3, Kd.M_mono _ hk h4⟩
  M_bound := by
   rintro w base ok x cs (h | ⟨c, v, h1, h2, h3, h4⟩)
   ·
    exact .inl h
   ·
    exact .inr ⟨c, v, h1, h2, h3, Kd.M_bound _ h4⟩
  M_move := by
   rintro w w1 base ok x cs hk (h | ⟨c, v, h1, h2, h3, h4⟩)
   ·
    exact .inl h
   ·
    exact .inr ⟨c, v, h1, h2, h3, Kd.M_move _ hk h4⟩
  M_lower := by
   rintro w base base' ok x cs hk (h | ⟨c, v, h1, h2, h3, h4⟩)
   ·
    exact .inl h
   ·
    exact .inr ⟨c, v, h1, h2, h3, Kd.M_lower _ hk h4⟩ }
abbrev branchKd (n : Nat) : Kd (List Mean) := Kd.slice 116 (partKd n)
theorem partKd_sz : ∀ n, (partKd n).sz = 1
 | 0 => rfl
 | _ + 1 => rfl
theorem partKd_E : ∀ n q, q ∈ (partKd n).E → q = 91 ∨ q = 116
 | 0, q, h => by cases h
 | n + 1, q, h => by
  have h' : q ∈ 91 :: 116 :: (partKd n).E := h
  rcases List.mem_cons.1 h' with h' | h'
  ·
   exact .inl h'
  ·
   rcases List.mem_cons.1 h' with h' | h'
   ·
    exact .inr h'
   ·
    exact partKd_E n q h'
theorem partKd_succ (n : Nat) (w : World) (x : Mean) (cs : List Value) : (partKd (n + 1)).K w x cs ↔ litK x cs ∨ ∃ c v, x = meanC c ∧ small c ∧ cs = [.iface 61 v] ∧ (Kd.slice 91 (branchKd n)).K w c [v] := Iff.rfl
theorem partKd_lit (n : Nat) (w : World) (base : Nat) (ok : Nat → Prop) (b : UInt8) (h : isL b = true) : (partKd n).M w base ok (litM b) [.iface 122 (.int .i64 ((b.toNat : Int) - 97))] := by
 cases n with
 | zero => exact ⟨b, h, rfl, rfl⟩
 | succ n => exact .inl ⟨b, h, rfl, rfl⟩
theorem partKd_circ (n : Nat) (w : World) (base : Nat) (ok : Nat → Prop) (c : List (List Mean)) (v : Value) (ha : small c) (h : (branchKd n).R 91 w base ok v c) : (partKd (n + 1)).M w base ok (meanC c) [.iface 61 v] :=
 .inr ⟨c, v, rfl, ha, rfl, v, rfl, h⟩
theorem part_asc (n : Nat) (w : World) (x : Mean) (cs : List Value) (h : (partKd n).K w x cs) : asc x.d := by
 have hl : litK x cs → asc x.d := by
  rintro ⟨b, hb, rfl, _⟩ y hy
  have := (isL_iff' b).1 hb
  simp [litM] at hy
  subst hy
  omega
 cases n with
 | zero => exact hl h
 | succ n =>
  rcases (partKd_succ n w x cs).1 h with h | ⟨c, v, rfl, h, _⟩
  ·
   exact hl h
  ·
   exact h.1
end Go.Proofs.Yteikgnaikeleaaa

/- What all walks here need. -/
namespace Go.Proofs.Yteikgnaikeleaaa
open Go.RowKit Go.Proofs.YteikgnaikeleaaaW.PrintWords Go.Proofs.YteikgnaikeleaaaW.PrintLast Go.Proofs.YteikgnaikeleaaaW.PrintMore
set_option linter.unusedVariables false
structure Kb (b : Nat) (w w' : World) : Prop where
 os : w'.os = w.os
 tape : w'.tape = w.tape
 output : w'.output = w.output
 size : w.heap.size ≤ w'.heap.size
 block : ∀ k, k < w.heap.size → k ≠ b → w'.heap[k]? = w.heap[k]?
theorem Kb.refl (b : Nat) (w : World) : Kb b w w := ⟨rfl, rfl, rfl, Nat.le_refl _, fun _ _ _ => rfl⟩
theorem Kb.trans {b : Nat} {w w1 w2 : World} (h : Kb b w w1) (k : Kb b w1 w2) : Kb b w w2 :=
 ⟨k.os.trans h.os, k.tape.trans h.tape, k.output.trans h.output, Nat.le_trans h.size k.size, fun i hi hb => (k.block i (Nat.lt_of_lt_of_le hi h.size) hb).trans (h.block i hi hb)⟩
theorem Kb.of_below {b : Nat} {w w1 : World} (h : Below w.heap.size w w1) : Kb b w w1 := ⟨h.os, h.tape, h.output, h.size, fun k hk _ => h.block k hk⟩
theorem Kb.below {b : Nat} {w w1 : World} (h : Kb b w w1) (hb : b ≤ w.heap.size) : Below b w w1 := ⟨h.os, h.tape, h.output, h.size, fun k hk => h.block k (by omega) (by omega)⟩
theorem Kb.set {b : Nat} {w w1 : World} (h : Kb b w w1) (j : Nat) (u : Value) : Kb b w (w1.setCell ⟨b, j, none⟩ u) :=
 ⟨h.os, h.tape, h.output, by simpa using h.size, fun k hk hb => (Below.heap_setCell w1 _ u k hb).trans (h.block k hk hb)⟩
theorem Kb.drew {b : Nat} {w w1 : World} (h : Kb b w w1) : Kb b w w1.drew := ⟨h.os, h.tape, h.output, h.size, h.block⟩
theorem Kb.grown {b : Nat} {w w1 w2 : World} {row : Option Nat} (h : Kb b w w1) (hg : w1.grownBy w2 row) (hr : ∀ k, row = some k → w.heap.size ≤ k) : Kb b w w2 :=
 ⟨hg.os.trans h.os, hg.tape.trans h.tape, hg.output.trans h.output, Nat.le_trans h.size hg.size, fun k hk hb => (hg.block k (Nat.lt_of_lt_of_le hk h.size) (fun e => by have := hr k e.symm; omega)).trans (h.block k hk hb)⟩
theorem Kb.alloc {b : Nat} {w w1 : World} (h : Kb b w w1) (o : Obj) : Kb b w (w1.alloc o) := h.trans (Kb.of_below ((Below.refl _ _).alloc (Nat.le_refl _) _))
theorem Kb.keep {b : Nat} {w w1 : World} (h : Kb b w w1) : KeepBut w w1 b none := ⟨h.size, fun i hi hb _ => h.block i hi hb⟩
def nextB : List UInt8 → Int
 | [] => 0
 | b :: _ => b.toNat
def rdr (l : List UInt8) (bad : Bool) : Obj := .cells #[.string (tx l), .bool bad] 88 (0, 0)
end Go.Proofs.Yteikgnaikeleaaa

namespace Go.Proofs.Yteikgnaikeleaaa
open Go.RowKit Go.Proofs.YteikgnaikeleaaaW.PrintWords Go.Proofs.YteikgnaikeleaaaW.PrintLast Go.Proofs.YteikgnaikeleaaaW.PrintMore
set_option linter.unusedVariables false

theorem tx_toList (l : List UInt8) : (tx l).toList = l := by rw [ByteArray.toList_eq]; rfl
theorem rdr_cells {w : World} {b : Nat} {l : List UInt8} {bad : Bool} (h : w.heap[b]? = some (rdr l bad)) : w.cell? ⟨b, 0, none⟩ = some (.string (tx l)) ∧ w.cell? ⟨b, 1, none⟩ = some (.bool bad) ∧ w.frozen? ⟨b, 0, none⟩ = false ∧ w.frozen? ⟨b, 1, none⟩ = false :=
 ⟨(blk_cell h 0).trans rfl, (blk_cell h 1).trans rfl, blk_frozen h 0, blk_frozen h 1⟩

set_option maxHeartbeats 4000000 in
set_option maxRecDepth 1000000 in
theorem next_calls (l : List UInt8) (bad : Bool) (b : Nat) (w : World) (h : w.heap[b]? = some (rdr l bad)) :
  Calls Try.prog 112 #[.pointer (some ⟨b, 0, none⟩)] w fun e w' => e = .returned (.int .u8 (nextB l)) ∧ w' = w := by
 obtain ⟨c0, c1, f0, f1⟩ := rdr_cells h
 cases l with
 | nil =>
  have he : (tx []).toList.isEmpty = true := by rw [tx_toList]; rfl
  go_enter Try.func112, Try.ntmps112
  go_wp2
  go_ret
  exact ⟨rfl, rfl⟩
 | cons x l =>
  have he : (tx (x :: l)).toList.isEmpty = false := by rw [tx_toList]; rfl
  have hsz : 0 < (tx (x :: l)).size := by rw [tx_size]; simp
  have hsz' : (0 : Int) < (tx (x :: l)).size := by omega
  have hg : (tx (x :: l))[0]'hsz = x := tx_get _ _ _
  go_enter Try.func112, Try.ntmps112
  go_wp2
  go_ret
  exact ⟨rfl, rfl⟩
end Go.Proofs.Yteikgnaikeleaaa

namespace Go.Proofs.Yteikgnaikeleaaa
open Go.RowKit Go.Proofs.YteikgnaikeleaaaW.PrintWords Go.Proofs.YteikgnaikeleaaaW.PrintLast Go.Proofs.YteikgnaikeleaaaW.PrintMore
set_option linter.unusedVariables false

theorem part_iface {n : Nat} {w : World} {base : Nat} {ok : Nat → Prop} {m : Mean} {v : Value} (h : (partKd n).M w base ok m [v]) : ∃ T u, v = .iface T u := by
 have hl : litK m [v] → ∃ T u, v = .iface T u := by
  rintro ⟨b, _, _, h⟩
  exact ⟨_, _, (List.cons.inj h).1⟩
 cases n with
 | zero => exact hl h
 | succ n =>
  rcases (h : litK m [v] ∨ _) with h | ⟨c, u, _, _, h, _⟩
  ·
   exact hl h
  ·
   exact ⟨_, _, (List.cons.inj h).1⟩
def PPost (n : Nat) (w : World) (b : Nat) (X : Option (Mean × List UInt8)) (e : Ending) (w' : World) : Prop :=
 ∃ m v l' bad, e = .returned v ∧ w'.heap[b]? = some (rdr l' bad) ∧ Kb b w w' ∧ (partKd n).M w' w.heap.size (fun _ => True) m [v] ∧
  (match X with | some (m', t) => bad = false ∧ l' = t ∧ m = m' | none => bad = true)
def CPost (n : Nat) (w : World) (b : Nat) (X : Option (List (List Mean) × List UInt8)) (e : Ending) (w' : World) : Prop :=
 ∃ c v l' bad, e = .returned v ∧ w'.heap[b]? = some (rdr l' bad) ∧ Kb b w w' ∧ (branchKd n).R 91 w' w.heap.size (fun _ => True) v c ∧ (c.length ≤ 100000 ∧ ∀ b ∈ c, b.length ≤ 100000) ∧
  (match X with | some (c', t) => bad = false ∧ l' = t ∧ c = c' | none => bad = true)
theorem PPost.mk {n : Nat} {w : World} {b : Nat} {X : Option (Mean × List UInt8)} {e : Ending} {w' : World} (m : Mean) (v : Value) (l' : List UInt8) (bad : Bool) (h1 : e = .returned v) (h2 : w'.heap[b]? = some (rdr l' bad)) (h3 : Kb b w w') (h4 : (partKd n).M w' w.heap.size (fun _ => True) m [v])
  (h5 : match X with | some (m', t) => bad = false ∧ l' = t ∧ m = m' | none => bad = true) : PPost n w b X e w' := ⟨m, v, l', bad, h1, h2, h3, h4, h5⟩
theorem CPost.mk {n : Nat} {w : World} {b : Nat} {X : Option (List (List Mean) × List UInt8)} {e : Ending} {w' : World} (c : List (List Mean)) (v : Value) (l' : List UInt8) (bad : Bool) (h1 : e = .returned v) (h2 : w'.heap[b]? = some (rdr l' bad)) (h3 : Kb b w w') (h4 : (branchKd n).R 91 w' w.heap.size (fun _ => True) v c) (h6 : c.length ≤ 100000 ∧ ∀ b ∈ c, b.length ≤ 100000)
  (h5 : match X with | some (c', t) => bad = false ∧ l' = t ∧ c = c' | none => bad = true) : CPost n w b X e w' := ⟨c, v, l', bad, h1, h2, h3, h4, h6, h5⟩
def PartSpec (n : Nat) : Prop := ∀ (l : List UInt8) (w : World) (b : Nat), w.heap[b]? = some (rdr l false) → l.length < n →
 Calls Try.prog 111 #[.pointer (some ⟨b, 0, none⟩)] w (PPost n w b (pPart n l))
def CircSpec (n : Nat) : Prop := ∀ (l : List UInt8) (w : World) (b : Nat), w.heap[b]? = some (rdr l false) → l.length < n →
 Calls Try.prog 89 #[.pointer (some ⟨b, 0, none⟩)] w (CPost n w b (circL (pPart n) (l.length + 1) [] l))

theorem info116 : (Try.prog.info? 116).map (fun i => (i.zero, i.size, i.bytes)) = some (some .nilIface, 1, 16) := by kernel_rfl
theorem info91 : (Try.prog.info? 91).map (fun i => (i.zero, i.size, i.bytes)) = some (some (.slice none 0 0), 1, 24) := by kernel_rfl

theorem R_kb {α : Type} {d : Kd α} {e b base : Nat} {W W2 : World} {ok : Nat → Prop} {v : Value} {xs : List α} (h : d.R e W base ok v xs) (hk : Kb b W W2) (hb : b < base) : d.R e W2 base ok v xs :=
 Kd.R_mono (Kd.R_step (Kd.R_bound h) (fun k h1 hl => hk.block k hl (by have := h1.2.1; omega))) (fun _ h1 => h1.1)
theorem rdr_grown {W w1 : World} {b base : Nat} {o : Obj} {row : Option Nat} (h : W.heap[b]? = some o) (hg : W.grownBy w1 row) (hr : ∀ k, row = some k → base ≤ k) (hb : b < base) : w1.heap[b]? = some o := by
 rw [hg.block b (blk_lt h) (fun e => by have := hr b e.symm; omega)]
 exact h
theorem reps_one' {α : Type} {M : α → List Value → Prop} {k : Nat} {x : α} {cs : List Value} (h : M x cs) (hl : cs.length = k) : Reps M k [x] cs := by
 refine ⟨by simp [hl], fun j p hj => ?_⟩
 cases j with
 | zero =>
  simp at hj
  subst hj
  rw [Nat.zero_mul, List.drop_zero, List.take_of_length_le (by omega)]
  exact h
 | succ j => simp at hj
theorem R_lit1 {α : Type} {d : Kd α} {e base : Nat} {W : World} {okp : Nat → Prop} {x : α} {cs : List Value} (h : d.M W base okp x cs) (hbase : base ≤ W.heap.size) : d.R e (W.alloc (.cells cs.toArray e)) base (fun _ => True) (.slice (some ⟨W.heap.size, 0, none⟩) 1 1) [x] := by
 refine ⟨fun k hk => trivial, cs, ?_, ?_⟩
 ·
  have h2 := World.ownsRow_lit (base := base) (e := e) (size := d.sz) W cs.toArray 1 hbase (by simp [maxLen]) (by simp [d.K_len (d.K_of_M h)])
  simpa using h2
 ·
  have h3 : d.M (W.alloc (.cells cs.toArray e)) base (fun k => True ∧ some k ≠ (Value.slice (some ⟨W.heap.size, 0, none⟩) 1 1).ownBlock) x cs := by
   refine d.M_mono (fun k hk => ⟨trivial, ?_⟩) (d.M_move (w := W) (fun k hk => Below.heap_alloc W _ k hk.2.2.1) (d.M_bound h))
   have := hk.2.2.1
   simp [Value.ownBlock]
   omega
  exact reps_one' h3 (d.K_len (d.K_of_M h))
theorem partsL_fuel {P : PF} (hl : ∀ l m t, P l = some (m, t) → t.length < l.length) : ∀ k k' acc l, l.length < k → l.length < k' → partsL P k acc l = partsL P k' acc l
 | 0, _, _, _, h, _ => absurd h (by omega)
 | _, 0, _, _, _, h => absurd h (by omega)
 | k + 1, k' + 1, acc, [], _, _ => rfl
 | k + 1, k' + 1, acc, c :: l, h, h' => by
  rw [partsL, partsL]
  split
  ·
   rfl
  ·
   cases hp : P (c :: l) with
   | none => rfl
   | some x =>
    obtain ⟨m, l'⟩ := x
    have := hl _ _ _ hp
    exact partsL_fuel hl k k' _ _ (by omega) (by omega)
theorem tx_tail (d : UInt8) (l : List UInt8) : (tx (d :: l)).extract 1 (tx (d :: l)).size = tx l := by
 apply ByteArray.ext
 simp [tx, ByteArray.size]
theorem rdr_set {w : World} {b : Nat} {l : List UInt8} {bad : Bool} (h : w.heap[b]? = some (rdr l bad)) (s : ByteArray) : (w.setCell ⟨b, 0, none⟩ (.string s)).heap[b]? = some (.cells #[.string s, .bool bad] 88 (0, 0)) := by
 have := blk_put h 0 (.string s) rfl
 exact this
theorem small_add {acc : List (List Mean)} {b : List Mean} (h : ∀ b ∈ acc, b.length ≤ 100000) (hb : b.length ≤ 100000) : ∀ x ∈ acc ++ [b], x.length ≤ 100000 := by
 intro x hx
 rcases List.mem_append.1 hx with hx | hx
 ·
  exact h x hx
 ·
  rw [List.mem_singleton.1 hx]; exact hb
theorem bne_of {d e : UInt8} {l : List UInt8} (h : d ≠ e) : (nextB (d :: l) != (e.toNat : Int)) = true := by
 apply bne_iff_ne.mpr
 intro k
 apply h
 have : d.toNat = e.toNat := Int.ofNat.inj k
 exact UInt8.toNat_inj.1 this
def afterP (n : Nat) (lc : List UInt8) : Option (List Mean × List UInt8) :=
 match pPart n lc with
 | none => none
 | some (m, l1) => partsL (pPart n) (l1.length + 1) [m] l1
theorem circL_step (n k : Nat) (acc : List (List Mean)) (lc : List UInt8) : circL (pPart n) (k + 1) acc lc =
  match afterP n lc with
  | none => none
  | some (b, []) => some (acc ++ [b], [])
  | some (b, c :: l3) => if c = 43 then circL (pPart n) k (acc ++ [b]) l3 else some (acc ++ [b], c :: l3) := by
 rw [circL, afterP]
 cases h : pPart n lc with
 | none => rfl
 | some y =>
  obtain ⟨m, l1⟩ := y
  simp only
  cases h2 : partsL (pPart n) (l1.length + 1) [m] l1 with
  | none => rfl
  | some z =>
   obtain ⟨b, l2⟩ := z
   cases l2 <;> rfl
theorem partsL_length {P : PF} (hl : ∀ l m t, P l = some (m, t) → t.length < l.length) : ∀ k acc l b t, partsL P k acc l = some (b, t) → b.length + t.length ≤ acc.length + l.length
 | 0, _, _, _, _, h => by simp [partsL] at h
 | k + 1, acc, [], b, t, h => by simp [partsL] at h; obtain ⟨rfl, rfl⟩ := h; simp
 | k + 1, acc, c :: l, b, t, h => by
  rw [partsL] at h
  split at h
  ·
   simp at h; obtain ⟨rfl, rfl⟩ := h; simp
  ·
   cases hp : P (c :: l) with
   | none => simp [hp] at h
   | some x =>
    obtain ⟨m, l'⟩ := x
    simp only [hp] at h
    have := hl _ _ _ hp
    have := partsL_length hl k _ _ _ _ h
    simp at this ⊢
    simp at *
    omega

set_option maxHeartbeats 8000000 in
set_option maxRecDepth 1000000 in
theorem circ_of_part (n : Nat) (hn0 : n ≤ 100000) (HP : PartSpec n) : CircSpec n := by
 intro l w b hb hn
 obtain ⟨X, hX⟩ : ∃ X, X = circL (pPart n) (l.length + 1) [] l := ⟨_, rfl⟩
 rw [← hX]
 have hbl := blk_lt hb
 have HX0 := Aside0.mk hX.symm
 have HB0 := Aside0.mk hb
 have HBL := Aside0.mk hbl
 have HN0 := Aside0.mk hn
 have HNN := Aside0.mk hn0
 clear hX hb hn hbl hn0
 go_enter Try.func89, Try.ntmps89
 go_wp2
 go_loopg [3] (l.length + 1) (fun kq v3 W => ∃ (acc : List (List Mean)) (lc : List UInt8), Aside0 (lc.length < kq) ∧ Aside0 (circL (pPart n) kq acc lc = X) ∧ Aside0 (acc.length + lc.length < n) ∧ Aside0 (W.heap[b]? = some (rdr lc false)) ∧ Aside0 (Kb b w W) ∧ Aside0 ((branchKd n).R 91 W w.heap.size (fun _ => True) v3 acc) ∧ Aside0 (∀ b ∈ acc, b.length ≤ 100000))
 case atStart => exact ⟨[], l, ⟨by omega⟩, HX0, ⟨by simpa using HN0.out⟩, HB0, ⟨Kb.refl _ _⟩, ⟨Kd.R_nil _ _ _ _ _⟩, ⟨fun b hb => by simp at hb⟩⟩
 case round =>
  clear HX0 HB0 HN0
  obtain ⟨acc, lc, HK, HX, HN, HB, HKB, HO, HSM⟩ := hrel
  obtain ⟨W0, rfl⟩ : ∃ W0, W0 = wr := ⟨_, rfl⟩
  cases gk with
  | zero => exact absurd HK.out (by omega)
  | succ k1 =>
   have hx := HX.out
   clear HX
   rw [circL_step] at hx
   obtain ⟨Y, hY⟩ : ∃ Y, Y = afterP n lc := ⟨_, rfl⟩
   rw [← hY] at hx
   have HX := Aside0.mk hx
   have HY := Aside0.mk hY.symm
   clear hx hY
   have HC := Aside0.mk (HP lc W0 b HB.out (by have := HN.out; omega))
   go_wp2_with (first | (go_at_call 111; refine HC.out.mono ?_; rintro e W1 ⟨m, v, l1, bad, rfl, hr1, hk1, hm1, hres⟩; obtain ⟨T, u, rfl⟩ := part_iface hm1; have HR1 := Aside0.mk hr1; have HK1 := Aside0.mk hk1; have HM1 := Aside0.mk hm1; have HS1 := Aside0.mk hres; clear hr1 hk1 hm1 hres))
   have HIN : Aside0 (∃ (accb : List Mean) (lq : List UInt8) (bad : Bool), Aside0 ((W1.alloc (Obj.cells #[Value.iface T u] 116)).heap[b]? = some (rdr lq bad)) ∧ Aside0 (Kb b W0 (W1.alloc (Obj.cells #[Value.iface T u] 116))) ∧ Aside0 ((partKd n).R 116 (W1.alloc (Obj.cells #[Value.iface T u] 116)) W0.heap.size (fun _ => True) (.slice (some ⟨W1.heap.size, 0, none⟩) 1 1) accb) ∧ Aside0 (match bad with | true => Y = none ∧ accb.length ≤ n | false => lq.length < lc.length + 1 ∧ accb.length + lq.length ≤ lc.length ∧ partsL (pPart n) (lc.length + 1) accb lq = Y)) := by
    refine ⟨[m], l1, bad, ⟨?_⟩, ⟨HK1.out.alloc _⟩, ⟨R_lit1 HM1.out HK1.out.size⟩, ⟨?_⟩⟩
    ·
     rw [Below.heap_alloc _ _ _ (blk_lt HR1.out)]; exact HR1.out
    ·
     have hs := HS1.out
     have hy := HY.out
     rw [afterP] at hy
     cases hp : pPart n lc with
     | none =>
      rw [hp] at hs hy
      simp only at hs hy
      subst hs
      exact ⟨hy.symm, by have := HN.out; simp; omega⟩
     | some y =>
      obtain ⟨m', t⟩ := y
      rw [hp] at hs hy
      simp only at hs hy
      obtain ⟨rfl, rfl, rfl⟩ := hs
      have := pPart_less _ _ _ _ hp
      exact ⟨by omega, by simp; omega, by rw [← hy]; exact partsL_fuel (pPart_less n) _ _ _ _ (by omega) (by omega)⟩
   have HSZ : Aside0 (W0.heap.size ≤ W1.heap.size) := ⟨HK1.out.size⟩
   clear HR1 HK1 HM1 HS1 HC
   go_loopg [4] (lc.length + 1) (fun kq v4 W => ∃ (accb : List Mean) (lq : List UInt8) (bad : Bool), Aside0 (W.heap[b]? = some (rdr lq bad)) ∧ Aside0 (Kb b W0 W) ∧ Aside0 ((partKd n).R 116 W W0.heap.size (fun _ => True) v4 accb) ∧ Aside0 (match bad with | true => Y = none ∧ accb.length ≤ n | false => lq.length < kq ∧ accb.length + lq.length ≤ lc.length ∧ partsL (pPart n) kq accb lq = Y))
   case atStart => exact HIN.out
   case round =>
    clear HIN
    obtain ⟨accb, lq, bad, HQ, HKQ, HRQ, HS⟩ := hrel
    obtain ⟨A4, c4, rfl⟩ := Kd.R_slice HRQ.out
    have HBR : Aside0 (b < w.heap.size) := HBL
    have hrc := rdr_cells HQ.out
    cases bad with
    | true =>
     obtain ⟨hy, hac⟩ := (HS.out : Y = none ∧ accb.length ≤ n)
     have HAC := Aside0.mk hac
     subst hy
     have hx := HX.out
     simp only at hx
     subst hx
     clear hac
     obtain ⟨c0, c1, f0, f1⟩ := hrc
     go_wp2_with (first | ((with_reducible refine gate_builtin (b := .append) (xs := #[.tmp 33, .tmp 35]) rfl ?_); at_builtin; refine Kd.R_append (branchKd n) (w0 := wr) w.heap.size rfl (.tmp 33) (.tmp 35) 61 91 (.slice none 0 0) 24 rfl Try.underlying61 info91 rfl Nat.one_pos (by omega) u3 acc accb [.slice A4 accb.length c4] (fun _ => True) (fun k => W0.heap.size ≤ k) rfl rfl ?aP ?aK (fun _ _ => trivial) ?aO (Below.refl _ _) ?aS ?aL ?_; (case aP => exact ⟨_, rfl, Kd.R_mono (Kd.R_lower (Kd.R_bound HRQ.out) HKB.out.size) (fun k hk => hk.2.1)⟩); (case aK => exact (fun k hk => ⟨trivial, fun e => by have := Kd.R_lt HO.out k e.symm; omega⟩)); (case aO => exact R_kb HO.out HKQ.out HBR.out); (case aS => have := HKB.out.size; have := HKQ.out.size; omega); (case aL => have := HN.out; have := HNN.out; omega); intro v1 w1 ho hb hg hat; have hr9 := rdr_grown HQ.out hg (fun k e => Kd.R_base HO.out k e) HBR.out; have HR9 := Aside0.mk hr9; obtain ⟨c0', c1', f0', f1'⟩ := rdr_cells hr9; have HO9 := Aside0.mk ho; have HG9 := Aside0.mk (Kb.grown (HKB.out.trans HKQ.out) hg (fun k e => Kd.R_base HO.out k e)); clear ho hb hg hat hr9))
     go_ret
     exact CPost.mk _ v1 lq true rfl HR9.out HG9.out HO9.out ⟨by have := HN.out; have := HNN.out; simp; omega, small_add HSM.out (Nat.le_trans HAC.out HNN.out)⟩ rfl
    | false =>
     obtain ⟨hlt, hac, hps⟩ := (HS.out : lq.length < _ ∧ accb.length + lq.length ≤ lc.length ∧ partsL (pPart n) _ accb lq = Y)
     clear HS
     cases gk with
     | zero => exact absurd hlt (by omega)
     | succ k2 =>
     have HL2 := Aside0.mk hlt
     have HAC := Aside0.mk hac
     have hYL : ∀ bb t, Y = some (bb, t) → bb.length + t.length ≤ lc.length := by
      intro bb t e
      rw [← hps] at e
      have := partsL_length (pPart_less n) _ _ _ _ _ e
      omega
     have HYL := Aside0.mk hYL
     clear hlt hac hYL
     obtain ⟨c0, c1, f0, f1⟩ := hrc
     cases lq with
     | nil =>
      rw [partsL] at hps
      subst hps
      have hx := HX.out
      simp only at hx
      subst hx
      have n0 : (nextB [] != 0) = false := rfl
      have n1 : (nextB [] != 43) = true := rfl
      go_wp2_with (first | ((with_reducible refine gate_builtin (b := .append) (xs := #[.tmp 33, .tmp 35]) rfl ?_); at_builtin; refine Kd.R_append (branchKd n) (w0 := wr) w.heap.size rfl (.tmp 33) (.tmp 35) 61 91 (.slice none 0 0) 24 rfl Try.underlying61 info91 rfl Nat.one_pos (by omega) u3 acc accb [.slice A4 accb.length c4] (fun _ => True) (fun k => W0.heap.size ≤ k) rfl rfl ?aP ?aK (fun _ _ => trivial) ?aO (Below.refl _ _) ?aS ?aL ?_; (case aP => exact ⟨_, rfl, Kd.R_mono (Kd.R_lower (Kd.R_bound HRQ.out) HKB.out.size) (fun k hk => hk.2.1)⟩); (case aK => exact (fun k hk => ⟨trivial, fun e => by have := Kd.R_lt HO.out k e.symm; omega⟩)); (case aO => exact R_kb HO.out HKQ.out HBR.out); (case aS => have := HKB.out.size; have := HKQ.out.size; omega); (case aL => have := HN.out; have := HNN.out; omega); intro v1 w1 ho hb hg hat; have hr9 := rdr_grown HQ.out hg (fun k e => Kd.R_base HO.out k e) HBR.out; have HR9 := Aside0.mk hr9; obtain ⟨c0', c1', f0', f1'⟩ := rdr_cells hr9; have HO9 := Aside0.mk ho; have HG9 := Aside0.mk (Kb.grown (HKB.out.trans HKQ.out) hg (fun k e => Kd.R_base HO.out k e)); clear ho hb hg hat hr9) | (go_at_call 112; refine (next_calls [] false b _ (by first | exact HQ.out | exact HR9.out)).mono ?_; rintro e' W' ⟨rfl, hw⟩; rw [hw]; clear hw W'))
      go_ret
      exact CPost.mk _ v1 [] false rfl HR9.out HG9.out HO9.out ⟨by have := HN.out; have := HNN.out; simp; omega, small_add HSM.out (by have := HAC.out; have := HN.out; have := HNN.out; omega)⟩ ⟨rfl, rfl, rfl⟩
     | cons d lr =>
      rw [partsL] at hps
      have hnb : nextB (d :: lr) = (d.toNat : Int) := rfl
      by_cases h43 : d = 43
      ·
       rw [if_pos (.inr (.inl h43))] at hps
       subst hps
       have hx := HX.out
       simp only at hx
       rw [if_pos h43] at hx
       have HX2 := Aside0.mk hx
       subst h43
       have hsl : (tx (43 :: lr)).extract 1 (tx (43 :: lr)).size = tx lr := tx_tail 43 lr
       have hsz : (1 : Int) ≤ (tx (43 :: lr)).size := by rw [tx_size]; simp; omega
       clear hx hnb
       have n0 : (nextB (43 :: lr) != 0) = true := rfl
       have n1 : (nextB (43 :: lr) != 43) = false := rfl
       go_wp2_with (first | ((with_reducible refine gate_builtin (b := .append) (xs := #[.tmp 33, .tmp 35]) rfl ?_); at_builtin; refine Kd.R_append (branchKd n) (w0 := wr) w.heap.size rfl (.tmp 33) (.tmp 35) 61 91 (.slice none 0 0) 24 rfl Try.underlying61 info91 rfl Nat.one_pos (by omega) u3 acc accb [.slice A4 accb.length c4] (fun _ => True) (fun k => W0.heap.size ≤ k) rfl rfl ?aP ?aK (fun _ _ => trivial) ?aO (Below.refl _ _) ?aS ?aL ?_; (case aP => exact ⟨_, rfl, Kd.R_mono (Kd.R_lower (Kd.R_bound HRQ.out) HKB.out.size) (fun k hk => hk.2.1)⟩); (case aK => exact (fun k hk => ⟨trivial, fun e => by have := Kd.R_lt HO.out k e.symm; omega⟩)); (case aO => exact R_kb HO.out HKQ.out HBR.out); (case aS => have := HKB.out.size; have := HKQ.out.size; omega); (case aL => have := HN.out; have := HNN.out; omega); intro v1 w1 ho hb hg hat; have hr9 := rdr_grown HQ.out hg (fun k e => Kd.R_base HO.out k e) HBR.out; have HR9 := Aside0.mk hr9; obtain ⟨c0', c1', f0', f1'⟩ := rdr_cells hr9; have HO9 := Aside0.mk ho; have HG9 := Aside0.mk (Kb.grown (HKB.out.trans HKQ.out) hg (fun k e => Kd.R_base HO.out k e)); clear ho hb hg hat hr9) | (go_at_call 112; refine (next_calls (43 :: lr) false b _ (by first | exact HQ.out | exact HR9.out)).mono ?_; rintro e' W' ⟨rfl, hw⟩; rw [hw]; clear hw W'))
       go_roundg k1
       case measure => omega
       case rel =>
        have hyl := HYL.out _ _ rfl
        have hk := HK.out
        simp only [List.length_cons] at hyl
        have hb0 : b < w.heap.size := HBR.out
        refine ⟨acc ++ [accb], lr, ⟨by omega⟩, HX2, ⟨by have := HN.out; simp; omega⟩, ⟨?_⟩, ⟨HG9.out.set 0 _⟩, ⟨?_⟩, ?_⟩
        ·
         exact rdr_set HR9.out (tx lr)
        ·
         exact R_kb HO9.out ((Kb.refl b _).set 0 _) hb0
        ·
         exact ⟨small_add HSM.out (by have := HAC.out; have := HN.out; have := HNN.out; omega)⟩
      ·
       by_cases hs : d = 0 ∨ d = 41
       ·
        rw [if_pos (hs.elim Or.inl (fun h => Or.inr (Or.inr h)))] at hps
        subst hps
        have hx := HX.out
        simp only at hx
        rw [if_neg h43] at hx
        subst hx
        have n1 : (nextB (d :: lr) != 43) = true := by
         rcases hs with rfl | rfl <;> rfl
        clear hnb
        rcases hs with rfl | rfl
        ·
         have n0 : (nextB (0 :: lr) != 0) = false := rfl
         go_wp2_with (first | ((with_reducible refine gate_builtin (b := .append) (xs := #[.tmp 33, .tmp 35]) rfl ?_); at_builtin; refine Kd.R_append (branchKd n) (w0 := wr) w.heap.size rfl (.tmp 33) (.tmp 35) 61 91 (.slice none 0 0) 24 rfl Try.underlying61 info91 rfl Nat.one_pos (by omega) u3 acc accb [.slice A4 accb.length c4] (fun _ => True) (fun k => W0.heap.size ≤ k) rfl rfl ?aP ?aK (fun _ _ => trivial) ?aO (Below.refl _ _) ?aS ?aL ?_; (case aP => exact ⟨_, rfl, Kd.R_mono (Kd.R_lower (Kd.R_bound HRQ.out) HKB.out.size) (fun k hk => hk.2.1)⟩); (case aK => exact (fun k hk => ⟨trivial, fun e => by have := Kd.R_lt HO.out k e.symm; omega⟩)); (case aO => exact R_kb HO.out HKQ.out HBR.out); (case aS => have := HKB.out.size; have := HKQ.out.size; omega); (case aL => have := HN.out; have := HNN.out; omega); intro v1 w1 ho hb hg hat; have hr9 := rdr_grown HQ.out hg (fun k e => Kd.R_base HO.out k e) HBR.out; have HR9 := Aside0.mk hr9; obtain ⟨c0', c1', f0', f1'⟩ := rdr_cells hr9; have HO9 := Aside0.mk ho; have HG9 := Aside0.mk (Kb.grown (HKB.out.trans HKQ.out) hg (fun k e => Kd.R_base HO.out k e)); clear ho hb hg hat hr9) | (go_at_call 112; refine (next_calls (0 :: lr) false b _ (by first | exact HQ.out | exact HR9.out)).mono ?_; rintro e' W' ⟨rfl, hw⟩; rw [hw]; clear hw W'))
         go_ret
         exact CPost.mk _ v1 (0 :: lr) false rfl HR9.out HG9.out HO9.out ⟨by have := HN.out; have := HNN.out; simp; omega, small_add HSM.out (by have := HAC.out; have := HN.out; have := HNN.out; omega)⟩ ⟨rfl, rfl, rfl⟩
        ·
         have n0 : (nextB (41 :: lr) != 0) = true := rfl
         have n2 : (nextB (41 :: lr) != 41) = false := rfl
         go_wp2_with (first | ((with_reducible refine gate_builtin (b := .append) (xs := #[.tmp 33, .tmp 35]) rfl ?_); at_builtin; refine Kd.R_append (branchKd n) (w0 := wr) w.heap.size rfl (.tmp 33) (.tmp 35) 61 91 (.slice none 0 0) 24 rfl Try.underlying61 info91 rfl Nat.one_pos (by omega) u3 acc accb [.slice A4 accb.length c4] (fun _ => True) (fun k => W0.heap.size ≤ k) rfl rfl ?aP ?aK (fun _ _ => trivial) ?aO (Below.refl _ _) ?aS ?aL ?_; (case aP => exact ⟨_, rfl, Kd.R_mono (Kd.R_lower (Kd.R_bound HRQ.out) HKB.out.size) (fun k hk => hk.2.1)⟩); (case aK => exact (fun k hk => ⟨trivial, fun e => by have := Kd.R_lt HO.out k e.symm; omega⟩)); (case aO => exact R_kb HO.out HKQ.out HBR.out); (case aS => have := HKB.out.size; have := HKQ.out.size; omega); (case aL => have := HN.out; have := HNN.out; omega); intro v1 w1 ho hb hg hat; have hr9 := rdr_grown HQ.out hg (fun k e => Kd.R_base HO.out k e) HBR.out; have HR9 := Aside0.mk hr9; obtain ⟨c0', c1', f0', f1'⟩ := rdr_cells hr9; have HO9 := Aside0.mk ho; have HG9 := Aside0.mk (Kb.grown (HKB.out.trans HKQ.out) hg (fun k e => Kd.R_base HO.out k e)); clear ho hb hg hat hr9) | (go_at_call 112; refine (next_calls (41 :: lr) false b _ (by first | exact HQ.out | exact HR9.out)).mono ?_; rintro e' W' ⟨rfl, hw⟩; rw [hw]; clear hw W'))
         go_ret
         exact CPost.mk _ v1 (41 :: lr) false rfl HR9.out HG9.out HO9.out ⟨by have := HN.out; have := HNN.out; simp; omega, small_add HSM.out (by have := HAC.out; have := HN.out; have := HNN.out; omega)⟩ ⟨rfl, rfl, rfl⟩
       ·
        have hns : ¬ (d = 0 ∨ d = 43 ∨ d = 41) := by
         rintro (h | h | h)
         ·
          exact hs (.inl h)
         ·
          exact h43 h
         ·
          exact hs (.inr h)
        rw [if_neg hns] at hps
        have n0 : (nextB (d :: lr) != 0) = true := bne_of (fun h => hs (.inl h)) 
        have n1 : (nextB (d :: lr) != 43) = true := bne_of h43
        have n2 : (nextB (d :: lr) != 41) = true := bne_of (fun h => hs (.inr h))
        have HC := Aside0.mk (HP (d :: lr) wr b HQ.out (by have := HL2.out; have := HN.out; have := HAC.out; omega))
        have HPS := Aside0.mk hps
        clear hnb hps hs hns h43
        go_wp2_with (first | (go_at_call 112; refine (next_calls (d :: lr) false b _ (by first | exact HQ.out | exact HR9.out)).mono ?_; rintro e' W' ⟨rfl, hw⟩; rw [hw]; clear hw W') | (go_at_call 111; refine HC.out.mono ?_; rintro e W3 ⟨m3, v, l3, bad3, rfl, hr3, hk3, hm3, hres⟩; obtain ⟨T3, u3', rfl⟩ := part_iface hm3; have HR3 := Aside0.mk hr3; have HK3 := Aside0.mk hk3; have HM3 := Aside0.mk hm3; have HS3 := Aside0.mk hres; clear hr3 hk3 hm3 hres) | ((with_reducible refine gate_builtin (b := .append) (xs := #[.tmp 28, .tmp 31]) rfl ?_); at_builtin; refine Kd.R_append (partKd n) (w0 := W3) W0.heap.size rfl (.tmp 28) (.tmp 31) 91 116 .nilIface 16 rfl Try.underlying91 (by rw [partKd_sz]; exact info116) (by rw [partKd_sz]; rfl) (by rw [partKd_sz]; decide) (by omega) (.slice A4 accb.length c4) accb m3 [.iface T3 u3'] (fun _ => True) (fun k => wr.heap.size ≤ k) rfl rfl ?aP ?aK (fun _ _ => trivial) ?aO (Below.refl _ _) ?aS ?aL ?_; (case aP => exact (partKd n).M_mono (fun k hk => hk.2.1) ((partKd n).M_lower HKQ.out.size ((partKd n).M_bound HM3.out))); (case aK => exact (fun k hk => ⟨trivial, fun e => by have := Kd.R_lt HRQ.out k e.symm; omega⟩)); (case aO => exact R_kb HRQ.out HK3.out (Nat.lt_of_lt_of_le HBR.out HKB.out.size)); (case aS => exact Nat.le_trans HKQ.out.size HK3.out.size); (case aL => have := HAC.out; have := HNN.out; have := HN.out; omega); intro v1 w1 ho hb hg hat; have HR9 := Aside0.mk (rdr_grown HR3.out hg (fun k e => Kd.R_base HRQ.out k e) (Nat.lt_of_lt_of_le HBR.out HKB.out.size)); have HO9 := Aside0.mk ho; have HG9 := Aside0.mk (Kb.grown (HKQ.out.trans HK3.out) hg (fun k e => Kd.R_base HRQ.out k e)); clear ho hb hg hat))
        go_roundg k2
        case measure => omega
        case rel =>
         refine ⟨accb ++ [m3], l3, bad3, HR9, HG9, HO9, ⟨?_⟩⟩
         have hs := HS3.out
         have hy := HPS.out
         cases hp : pPart n (d :: lr) with
         | none =>
          rw [hp] at hs hy
          simp only at hs hy
          subst hs
          exact ⟨hy.symm, by have := HAC.out; have := HN.out; simp at this ⊢; simp at *; omega⟩
         | some y =>
          obtain ⟨m', t⟩ := y
          rw [hp] at hs hy
          simp only at hs hy
          obtain ⟨rfl, rfl, rfl⟩ := hs
          have := pPart_less _ _ _ _ hp
          have h1 := HL2.out
          have h2 := HAC.out
          simp only [List.length_cons, List.length_append, List.length_nil] at *
          exact ⟨by omega, by omega, hy⟩
end Go.Proofs.Yteikgnaikeleaaa

namespace Go.Proofs.Yteikgnaikeleaaa
open Go.RowKit Go.Proofs.YteikgnaikeleaaaW.PrintWords Go.Proofs.YteikgnaikeleaaaW.PrintLast Go.Proofs.YteikgnaikeleaaaW.PrintMore
set_option linter.unusedVariables false

def IBSpec : Prop := ∀ (s : ByteArray) (c : Int) (w : World), Calls Try.prog 82 #[.string s, .int .u8 c] w fun e w' => e = .returned (.int .i64 (Lib.indexByte s.data.toList c.toNat.toUInt8)) ∧ w' = w
theorem ib_letter (b : UInt8) : Lib.indexByte (⟨#[97, 98, 99, 100, 101, 102, 103, 104]⟩ : ByteArray).data.toList ((b.toNat : Int)).toNat.toUInt8 = if isL b then (b.toNat : Int) - 97 else -1 := by
  have k : ∀ i : Fin 256, Lib.indexByte (⟨#[97, 98, 99, 100, 101, 102, 103, 104]⟩ : ByteArray).data.toList ((i.val : Int).toNat.toUInt8) = if isL (UInt8.ofNat i.val) then (i.val : Int) - 97 else -1 := by decide +kernel
  have h := k ⟨b.toNat, b.toNat_lt⟩
  simpa using h
theorem ib_zero : Lib.indexByte (⟨#[97, 98, 99, 100, 101, 102, 103, 104]⟩ : ByteArray).data.toList ((0 : Int)).toNat.toUInt8 = -1 := by decide +kernel
theorem asc_join : ∀ l : List (List UInt8), (∀ d ∈ l, asc d) → asc (joinL l)
  | [], _, b, hb => by simp [joinL] at hb
  | [a], h, b, hb => h a (by simp) b (by simpa [joinL] using hb)
  | a :: c :: l, h, b, hb => by
    rw [joinL] at hb
    rcases List.mem_append.1 hb with hb | hb
    · exact h a (by simp) b hb
    · rcases List.mem_cons.1 hb with rfl | hb
      · decide
      · exact asc_join (c :: l) (fun d hd => h d (by simp [hd])) b hb
theorem asc_dualB (b : List Mean) (h : ∀ m ∈ b, asc m.d) : asc (dualB b) := asc_join _ (fun d hd => by
  obtain ⟨m, hm, rfl⟩ := List.mem_map.1 hd
  exact h m hm)
theorem asc_wrap (d : List UInt8) (h : asc d) : asc (wrapL d) := by
  unfold wrapL
  split
  · intro b hb
    simp at hb
    rcases hb with rfl | hb | rfl
    · decide
    · exact h b hb
    · decide
  · exact h
theorem asc_dualC (c : List (List Mean)) (h : ∀ b ∈ c, ∀ m ∈ b, asc m.d) : asc (dualC c) := by
  unfold dualC
  split
  · rename_i b
    exact asc_dualB b (h b (by simp))
  · intro y hy
    obtain ⟨b, hb, hy⟩ := List.mem_flatMap.1 hy
    exact asc_wrap _ (asc_dualB b (h b hb)) y hy
theorem row_all {α : Type} {d : Kd α} {p : α → Prop} {w : World} {A : Option Addr} {n : Nat} {xs : List α} (h : d.C w A n xs) (hp : ∀ x cs, d.K w x cs → p x) : ∀ x ∈ xs, p x := by
  intro x hx
  obtain ⟨j, hj, rfl⟩ := List.mem_iff_getElem.1 hx
  obtain ⟨ad, _, hc⟩ := h.2.2 (by have := h.1; omega)
  obtain ⟨c, _, hk, _⟩ := hc j _ (List.getElem?_eq_getElem hj)
  exact hp _ _ hk
theorem circ_asc {n : Nat} {w : World} {base : Nat} {ok : Nat → Prop} {c : List (List Mean)} {v : Value} (h : (branchKd n).R 91 w base ok v c) : asc (dualC c) := by
  obtain ⟨A, cc, _, _, hr⟩ := Kd.R_reads h
  refine asc_dualC c (row_all (p := fun b => ∀ m ∈ b, asc m.d) hr ?_)
  rintro b cs ⟨A2, c2, _, _, hr2⟩
  exact row_all (p := fun m => asc m.d) hr2 (fun m cs hm => part_asc n _ m cs hm)

theorem pPart_succ (n : Nat) (b : UInt8) (t : List UInt8) : pPart (n + 1) (b :: t) =
    if isL b then some (litM b, t)
    else if b = 40 then
      match circL (pPart n) (t.length + 1) [] t with
      | some (c, 41 :: t') => some (meanC c, t')
      | _ => none
    else none := rfl

set_option maxHeartbeats 8000000 in
set_option maxRecDepth 1000000 in
theorem part_of_circ (hIB : IBSpec) (n : Nat) (HC : CircSpec n) : PartSpec (n + 1) := by
  intro l w b hb hn
  have hrc := rdr_cells hb
  obtain ⟨c0, c1, f0, f1⟩ := hrc
  have HB := Aside0.mk hb
  have HBL := Aside0.mk (blk_lt hb)
  have HIB := Aside0.mk hIB
  cases l with
  | nil =>
    have hx : pPart (n + 1) [] = none := rfl
    rw [hx]
    have i0 := ib_zero
    have n0 : (nextB [] : Int) = 0 := rfl
    have hh := HIB.out (⟨#[97, 98, 99, 100, 101, 102, 103, 104]⟩ : ByteArray) 0
    rw [i0] at hh
    have HI := Aside0.mk hh
    have HNX := Aside0.mk (next_calls [] false b w hb)
    rw [n0] at HNX
    clear hb hn hx hIB hh i0 n0
    go_enter Try.func111, Try.ntmps111
    go_wp2_with (first | (go_at_call 112; refine HNX.out.mono ?_; rintro e' W' ⟨rfl, hw⟩; rw [hw]; clear hw W') | (go_at_call 82; refine (HI.out _).mono ?_; rintro e' W' ⟨rfl, hw⟩; rw [hw]; clear hw W'))
    go_ret
    exact PPost.mk (litM 97) _ [] true rfl (by exact blk_put HB.out 1 (.bool true) rfl) ((Kb.refl _ _).set 1 _) (partKd_lit _ _ _ _ 97 (by decide)) rfl
  | cons d t =>
    have hx := pPart_succ n d t
    have hh := HIB.out (⟨#[97, 98, 99, 100, 101, 102, 103, 104]⟩ : ByteArray) (d.toNat : Int)
    rw [ib_letter d] at hh
    have HI := Aside0.mk hh
    have HNX := Aside0.mk (next_calls (d :: t) false b w hb)
    have hsl : (tx (d :: t)).extract 1 (tx (d :: t)).size = tx t := tx_tail d t
    have hsz : (1 : Int) ≤ (tx (d :: t)).size := by rw [tx_size]; simp; omega
    have hnd : nextB (d :: t) = (d.toNat : Int) := rfl
    have hset := Aside0.mk (rdr_set hb (tx t))
    have HT : Aside0 (t.length < n) := ⟨by simpa using hn⟩
    rw [hnd] at HNX
    clear hb hn hIB hh hnd
    by_cases hl : isL d = true
    · rw [if_pos hl] at hx HI
      rw [hx]
      have h97 := (isL_iff' d).1 hl
      have hge : ((d.toNat : Int) - 97 ≥ 0) := by omega
      have hge' : decide ((0 : Int) ≤ (d.toNat : Int) - 97) = true := decide_eq_true hge
      clear hx
      go_enter Try.func111, Try.ntmps111
      go_wp2_with (first | (go_at_call 112; refine HNX.out.mono ?_; rintro e' W' ⟨rfl, hw⟩; rw [hw]; clear hw W') | (go_at_call 82; refine (HI.out _).mono ?_; rintro e' W' ⟨rfl, hw⟩; rw [hw]; clear hw W'))
      go_ret
      exact PPost.mk (litM d) _ t false rfl hset.out ((Kb.refl _ _).set 0 _) (partKd_lit _ _ _ _ d hl) ⟨rfl, rfl, rfl⟩
    · rw [if_neg hl] at hx HI
      by_cases h4 : d = 40
      · rw [if_pos h4] at hx
        subst h4
        have hdn : ((40 : UInt8).toNat : Int) = 40 := rfl
        rw [hdn] at HI HNX
        have HC1 := Aside0.mk (HC t (w.setCell ⟨b, 0, none⟩ (.string (tx t))) b hset.out HT.out)
        have HX := Aside0.mk hx
        clear hx hl hdn
        go_enter Try.func111, Try.ntmps111
        go_wp2_with (first | (go_at_call 112; refine HNX.out.mono ?_; rintro e' W' ⟨rfl, hw⟩; rw [hw]; clear hw W') | (go_at_call 82; refine (HI.out _).mono ?_; rintro e' W' ⟨rfl, hw⟩; rw [hw]; clear hw W') | (go_at_call 89; refine HC1.out.mono ?_; rintro e' W2 ⟨c, v, l2, bad, rfl, hr2, hk2, ho2, hsm2, hres⟩; have HR2 := Aside0.mk hr2; have HK2 := Aside0.mk hk2; have HO2 := Aside0.mk ho2; have HSM2 := Aside0.mk hsm2; have HS2 := Aside0.mk hres; have HNX2 := Aside0.mk (next_calls l2 bad b W2 hr2); clear hr2 hk2 ho2 hsm2 hres c0 c1 f0 f1))
        have HA : Aside0 (small c) := ⟨circ_asc HO2.out, HSM2.out⟩
        have HKW : Aside0 (Kb b w W2) := ⟨((Kb.refl b w).set 0 _).trans HK2.out⟩
        have hwl : w.heap.size ≤ (w.setCell ⟨b, 0, none⟩ (.string (tx t))).heap.size := ((Kb.refl b w).set 0 _).size
        have HOL : Aside0 ((branchKd n).R 91 W2 w.heap.size (fun _ => True) v c) := ⟨Kd.R_lower HO2.out hwl⟩
        clear hwl
        refine HNX2.out.mono ?_
        rintro e' W' ⟨rfl, hw⟩
        rw [hw]
        clear hw W'
        obtain ⟨c0, c1, f0, f1⟩ := rdr_cells HR2.out
        by_cases h41 : ∃ r, l2 = 41 :: r
        · obtain ⟨r, rfl⟩ := h41
          have q : (nextB (41 :: r) != 41) = false := rfl
          have hsl2 : (tx (41 :: r)).extract 1 (tx (41 :: r)).size = tx r := tx_tail 41 r
          have hsz2 : (1 : Int) ≤ (tx (41 :: r)).size := by rw [tx_size]; simp; omega
          have hset2 := Aside0.mk (rdr_set HR2.out (tx r))
          go_wp2
          go_ret
          refine PPost.mk (meanC c) _ r bad rfl hset2.out (HKW.out.set 0 _) (partKd_circ _ _ _ _ c v HA.out (R_kb HOL.out ((Kb.refl _ _).set 0 _) HBL.out)) ?_
          have hs := HS2.out
          rw [HX.out]
          cases hc : circL (pPart n) (t.length + 1) [] t with
          | none =>
            rw [hc] at hs
            exact hs
          | some y =>
            obtain ⟨c', t'⟩ := y
            rw [hc] at hs
            simp only at hs
            obtain ⟨rfl, rfl, rfl⟩ := hs
            exact ⟨rfl, rfl, rfl⟩
        · have q : (nextB l2 != 41) = true := by
            cases l2 with
            | nil => rfl
            | cons d r => exact bne_of (d := d) (e := 41) (l := r) (fun e => h41 ⟨r, by rw [e]⟩)
          go_wp2
          go_ret
          refine PPost.mk (meanC c) _ l2 true rfl (by exact blk_put HR2.out 1 (.bool true) rfl) (HKW.out.set 1 _) (partKd_circ _ _ _ _ c v HA.out (R_kb HOL.out ((Kb.refl _ _).set 1 _) HBL.out)) ?_
          have hs := HS2.out
          rw [HX.out]
          cases hc : circL (pPart n) (t.length + 1) [] t with
          | none => rfl
          | some y =>
            obtain ⟨c', t'⟩ := y
            rw [hc] at hs
            simp only at hs
            obtain ⟨_, rfl, _⟩ := hs
            split
            · rename_i e
              split at e
              · rename_i e2
                simp at e2
                exact absurd ⟨_, e2.2⟩ h41
              · cases e
            · rfl
      · rw [if_neg h4] at hx
        rw [hx]
        have hne : ((d.toNat : Int) != 40) = true := by
          have := bne_of (l := t) h4
          exact this
        clear hx
        go_enter Try.func111, Try.ntmps111
        go_wp2_with (first | (go_at_call 112; refine HNX.out.mono ?_; rintro e' W' ⟨rfl, hw⟩; rw [hw]; clear hw W') | (go_at_call 82; refine (HI.out _).mono ?_; rintro e' W' ⟨rfl, hw⟩; rw [hw]; clear hw W'))
        go_ret
        exact PPost.mk (litM 97) _ (d :: t) true rfl (by exact blk_put HB.out 1 (.bool true) rfl) ((Kb.refl _ _).set 1 _) (partKd_lit _ _ _ _ 97 (by decide)) rfl
theorem part_all (hIB : IBSpec) : ∀ n, n ≤ 100000 → PartSpec n
  | 0, _ => fun l w b _ h => absurd h (Nat.not_lt_zero _)
  | n + 1, h => part_of_circ hIB n (circ_of_part n (by omega) (part_all hIB n (by omega)))
theorem circ_all (hIB : IBSpec) (n : Nat) (h : n ≤ 100000) : CircSpec n := circ_of_part n h (part_all hIB n h)

theorem parseC_none {s : List UInt8} {c : List (List Mean)} {l2 : List UInt8} {bad : Bool} (hl : s.length ≤ 40) (hs : match circL (pPart (s.length + 1)) (s.length + 1) [] s with | some (c', t) => bad = false ∧ l2 = t ∧ c = c' | none => bad = true) (h : bad = true ∨ l2 ≠ []) : parseC s = none := by
  unfold parseC
  rw [if_pos hl]
  cases hc : circL (pPart (s.length + 1)) (s.length + 1) [] s with
  | none => rfl
  | some y =>
    obtain ⟨c', t'⟩ := y
    rw [hc] at hs
    simp only at hs
    obtain ⟨rfl, rfl, rfl⟩ := hs
    rcases h with h | h
    · cases h
    · cases l2 with
      | nil => exact absurd rfl h
      | cons a l => rfl
theorem parseC_some {s : List UInt8} {c : List (List Mean)} {l2 : List UInt8} {bad : Bool} (hl : s.length ≤ 40) (hs : match circL (pPart (s.length + 1)) (s.length + 1) [] s with | some (c', t) => bad = false ∧ l2 = t ∧ c = c' | none => bad = true) (h : bad = false) (h2 : l2 = []) : parseC s = some c := by
  unfold parseC
  rw [if_pos hl]
  cases hc : circL (pPart (s.length + 1)) (s.length + 1) [] s with
  | none =>
    rw [hc] at hs
    rw [h] at hs
    cases hs
  | some y =>
    obtain ⟨c', t'⟩ := y
    rw [hc] at hs
    simp only at hs
    obtain ⟨_, rfl, rfl⟩ := hs
    rw [h2]
def ParsePost (w : World) (s : List UInt8) (e : Ending) (w' : World) : Prop :=
  Below w.heap.size w w' ∧ match parseC s with
    | some c => ∃ v, e = .returned (.tuple #[v, .int .i64 0]) ∧ (branchKd (s.length + 1)).R 91 w' w.heap.size (fun _ => True) v c ∧ small c
    | none => e = .returned (.tuple #[.slice none 0 0, .int .i64 90])
set_option maxHeartbeats 8000000 in
set_option maxRecDepth 1000000 in
theorem parse_calls (hIB : IBSpec) (s : List UInt8) (w : World) : Calls Try.prog 68 #[.string (tx s)] w (ParsePost w s) := by
  have hz := tx_size s
  by_cases hl : s.length ≤ 40
  · have h40 : decide ((40 : Int) < (tx s).size) = false := decide_eq_false (by rw [hz]; omega)
    have HC := Aside0.mk (circ_all hIB (s.length + 1) (by omega) s (w.alloc (rdr s false)) w.heap.size (by show (w.heap.push _)[w.heap.size]? = _; simp) (by omega))
    clear hz hIB
    go_enter Try.func68, Try.ntmps68
    go_wp2_with (first | (go_at_call 89; refine HC.out.mono ?_; rintro e' W2 ⟨c, v, l2, bad, rfl, hr2, hk2, ho2, hsm2, hres⟩; have HR2 := Aside0.mk hr2; have HK2 := Aside0.mk hk2; have HO2 := Aside0.mk ho2; have HSM2 := Aside0.mk hsm2; have HS2 := Aside0.mk hres; obtain ⟨c0, c1, f0, f1⟩ := rdr_cells hr2; clear hr2 hk2 ho2 hsm2 hres))
    all_goals have HBB : Below w.heap.size w W2 := ((Below.refl _ w).alloc (Nat.le_refl _) _).trans (HK2.out.below ((Below.refl _ w).alloc (Nat.le_refl _) _).size)
    all_goals go_ret2
    all_goals refine ⟨HBB, ?_⟩
    all_goals first
      | (have hn : parseC s = none := parseC_none hl HS2.out (.inl (by assumption)); rw [hn]; rfl)
      | (have hq : (!(tx l2).toList.isEmpty) = true := by assumption
         have hn : parseC s = none := parseC_none hl HS2.out (.inr (by rintro rfl; rw [tx_toList] at hq; cases hq)); rw [hn]; rfl)
      | (have hq : (!(tx l2).toList.isEmpty) = false := by assumption
         have hb : ¬ bad = true := by assumption
         have e0 : l2 = [] := by
           rw [tx_toList] at hq
           cases l2 with
           | nil => rfl
           | cons a l => cases hq
         have hn : parseC s = some c := parseC_some hl HS2.out (by simpa using hb) e0
         rw [hn]
         exact ⟨v, rfl, Kd.R_lower HO2.out ((Below.refl _ w).alloc (Nat.le_refl _) _).size, circ_asc HO2.out, HSM2.out⟩)
  · have h40 : decide ((40 : Int) < (tx s).size) = true := decide_eq_true (by rw [hz]; omega)
    clear hz hIB
    go_enter Try.func68, Try.ntmps68
    go_wp2
    go_ret2
    refine ⟨Below.refl _ _, ?_⟩
    unfold parseC
    rw [if_neg hl]
    rfl
end Go.Proofs.Yteikgnaikeleaaa

namespace Go.Proofs.Yteikgnaikeleaaa
open Go.RowKit Go.Proofs.YteikgnaikeleaaaW.PrintWords Go.Proofs.YteikgnaikeleaaaW.PrintLast Go.Proofs.YteikgnaikeleaaaW.PrintMore
set_option linter.unusedVariables false

theorem bit_at (s i : Nat) (hs : s < 256) (hi : i < 8) : (Go.bits .and .i64 ((s : Int) / 2 ^ i) 1 == 1) = s.testBit i := by
 have h : ∀ (a : Fin 256) (i : Fin 8), (Go.bits .and .i64 ((a.val : Int) / 2 ^ i.val) 1 == 1) = a.val.testBit i.val := by decide +kernel
 exact h ⟨s, hs⟩ ⟨i, hi⟩

set_option maxHeartbeats 8000000 in
set_option maxRecDepth 1000000 in
theorem lit_cond (b : UInt8) (h : isL b = true) (s : Nat) (hs : s < 256) (w : World) :
  Calls Try.prog 160 #[.int .i64 ((b.toNat : Int) - 97), .int .i64 s] w fun e w' => e = .returned (.bool ((litM b).f s)) ∧ w' = w := by
 have h1 := (isL_iff' b).1 h
 have h0 : (0 : Int) ≤ (b.toNat : Int) - 97 := by omega
 have hb := bit_at s (b.toNat - 97) hs (by omega)
 have hn : ((b.toNat : Int) - 97).toNat = b.toNat - 97 := by omega
 have hm : min (b.toNat - 97) 64 = b.toNat - 97 := by omega
 go_enter Try.func160, Try.ntmps160
 go_wp2
 go_ret
 exact ⟨rfl, rfl⟩

theorem condB_cons (m : Mean) (b : List Mean) (s : Nat) : condB (m :: b) s = (m.f s && condB b s) := by simp [condB]
theorem condC_cons (m : List Mean) (b : List (List Mean)) (s : Nat) : condC (m :: b) s = (condB m s || condC b s) := by simp [condC]
theorem meth_lit (i : Int) (w : World) (k : Nat) : (method 255 122 (.int .i64 i) "dropper/loop.conducts").run Try.prog w = .ok (160, .int .i64 i) w := by kernel_rfl
theorem meth_circ (a : Option Addr) (n c : Nat) (w : World) : (method 255 61 (.slice a n c) "dropper/loop.conducts").run Try.prog w = .ok (107, .slice a n c) w := by kernel_rfl

def CondB (n : Nat) : Prop := ∀ (b : List Mean) (A : Option Addr) (c : Nat) (s : Nat) (w : World), s < 256 → (partKd n).C w A b.length b →
 Calls Try.prog 122 #[.slice A b.length c, .int .i64 s] w fun e w' => e = .returned (.bool (condB b s)) ∧ w' = w
def CondC (n : Nat) : Prop := ∀ (c : List (List Mean)) (A : Option Addr) (cc : Nat) (s : Nat) (w : World), s < 256 → (branchKd n).C w A c.length c →
 Calls Try.prog 107 #[.slice A c.length cc, .int .i64 s] w fun e w' => e = .returned (.bool (condC c s)) ∧ w' = w

set_option maxHeartbeats 8000000 in
set_option maxRecDepth 1000000 in
theorem condB_of (n : Nat) (HC : ∀ m v s w, s < 256 → (partKd n).K w m [v] → ∃ T u f, v = .iface T u ∧ (∀ w, (method 255 T u "dropper/loop.conducts").run Try.prog w = .ok (f, u) w) ∧ (∀ args w, (callFunc f args).run Try.prog w = .ok (.enter f args) w) ∧ Calls Try.prog f #[u, .int .i64 (s : Nat)] w fun e w' => e = .returned (.bool (m.f s)) ∧ w' = w) : CondB n := by
 intro b A c s w hs hr
 have hlen : b.length ≤ 9223372036854775807 := hr.2.1
 have HS := Aside0.mk hs
 have HR := Aside0.mk hr
 have HCA := Aside0.mk HC
 clear HC hs hr
 go_enter Try.func122, Try.ntmps122
 go_wp2
 go_loopg [9] (b.length + 1) (fun kq v9 W => ∃ x : Nat, v9 = .int .i64 x ∧ Aside0 (x + kq = b.length + 1) ∧ Aside0 (x ≤ b.length) ∧ Aside0 (condB (b.drop x) s = condB b s) ∧ Aside0 (W = w))
 case atStart => exact ⟨0, rfl, ⟨by omega⟩, ⟨by omega⟩, ⟨rfl⟩, ⟨rfl⟩⟩
 case round =>
  obtain ⟨x, rfl, HK, HX, HD, ⟨rfl⟩⟩ := hrel
  by_cases hx : x < b.length
  ·
   have h1 : decide ((x : Int) < (b.length : Int)) = true := decide_eq_true (by omega)
   obtain ⟨ad, cs, rfl, hcl, hk, hcell⟩ := HR.out.get_ (litM 97) (x : Int) (by omega) (by omega)
   rw [partKd_sz] at hcl
   obtain ⟨v, rfl⟩ : ∃ v, cs = [v] := List.length_eq_one_iff.1 hcl
   have hc0 := hcell 0 v rfl
   rw [partKd_sz] at hc0
   simp only [Int.toNat_natCast, Nat.mul_one, Nat.add_zero] at hc0 hk
   obtain ⟨T, u, f, rfl, hm, hcf, hcalls⟩ := HCA.out _ _ s _ HS.out hk
   have HCL := Aside0.mk hcalls
   clear hcalls hk hcell hcl
   have h0 : (0 : Int) ≤ (x : Int) := by omega
   have HX1 : Aside0 (x < b.length) := ⟨hx⟩
   have hd := HD.out
   rw [List.drop_eq_getElem_cons hx] at hd
   have hg : b.getD x (litM 97) = b[x] := by simp [List.getD_eq_getElem?_getD, hx]
   rw [hg] at HCL
   have HE : Aside0 (condB (b[x] :: b.drop (x + 1)) s = condB b s) := ⟨hd⟩
   clear hd hg
   by_cases hv : (b[x]).f s = true
   ·
    rw [hv] at HCL
    go_wp2_with (go_simp; with_reducible refine HCL.out.mono ?_; rintro e W' ⟨rfl, hw⟩; rw [hw]; clear hw W')
    go_roundg (b.length - x)
    case measure => have := HK.out; omega
    case rel =>
     have hw : wrap64 ((x : Int) + 1) = ((x + 1 : Nat) : Int) := by unfold wrap64; omega
     refine ⟨x + 1, by first | rfl | rw [hw] | simp, ⟨by omega⟩, ⟨by omega⟩, ⟨?_⟩, ⟨rfl⟩⟩
     rw [← HE.out, condB_cons, hv, Bool.true_and]
   ·
    have hv' : (b[x]).f s = false := by simpa using hv
    rw [hv'] at HCL
    go_wp2_with (go_simp; with_reducible refine HCL.out.mono ?_; rintro e W' ⟨rfl, hw⟩; rw [hw]; clear hw W')
    go_ret
    refine ⟨?_, rfl⟩
    rw [← HE.out, condB_cons, hv', Bool.false_and]
    rfl
  ·
   have h1 : decide ((x : Int) < (b.length : Int)) = false := decide_eq_false (by omega)
   go_wp2
   go_ret
   refine ⟨?_, rfl⟩
   rw [← HD.out, List.drop_eq_nil_of_le (by omega)]
   rfl

set_option maxHeartbeats 8000000 in
set_option maxRecDepth 1000000 in
theorem condC_of (n : Nat) (HC : CondB n) : CondC n := by
 intro b A c s w hs hr
 have hlen : b.length ≤ 9223372036854775807 := hr.2.1
 have HS := Aside0.mk hs
 have HR := Aside0.mk hr
 have HCA := Aside0.mk HC
 clear HC hs hr
 go_enter Try.func107, Try.ntmps107
 go_wp2
 go_loopg [9] (b.length + 1) (fun kq v9 W => ∃ x : Nat, v9 = .int .i64 x ∧ Aside0 (x + kq = b.length + 1) ∧ Aside0 (x ≤ b.length) ∧ Aside0 (condC (b.drop x) s = condC b s) ∧ Aside0 (W = w))
 case atStart => exact ⟨0, rfl, ⟨by omega⟩, ⟨by omega⟩, ⟨rfl⟩, ⟨rfl⟩⟩
 case round =>
  obtain ⟨x, rfl, HK, HX, HD, ⟨rfl⟩⟩ := hrel
  by_cases hx : x < b.length
  ·
   have h1 : decide ((x : Int) < (b.length : Int)) = true := decide_eq_true (by omega)
   obtain ⟨ad, cs, rfl, hcl, hk, hcell⟩ := HR.out.get_ [] (x : Int) (by omega) (by omega)
   obtain ⟨v, rfl⟩ : ∃ v, cs = [v] := List.length_eq_one_iff.1 hcl
   have hc0 := hcell 0 v rfl
   rw [show (branchKd n).sz = 1 from rfl] at hc0
   simp only [Int.toNat_natCast, Nat.mul_one, Nat.add_zero] at hc0 hk
   have hg : b.getD x [] = b[x] := by simp [List.getD_eq_getElem?_getD, hx]
   rw [hg] at hk
   obtain ⟨A2, c2, hv2, _, hr2⟩ := hk
   obtain rfl := (List.cons.inj hv2).1
   have HCL := Aside0.mk (HCA.out b[x] A2 c2 s wr HS.out hr2)
   have hd := HD.out
   rw [List.drop_eq_getElem_cons hx] at hd
   have HE : Aside0 (condC (b[x] :: b.drop (x + 1)) s = condC b s) := ⟨hd⟩
   have h0 : (0 : Int) ≤ (x : Int) := by omega
   clear hcell hcl hd hg hr2 hv2
   by_cases hv : condB b[x] s = true
   ·
    rw [hv] at HCL
    go_wp2_with (go_at_call 122; refine HCL.out.mono ?_; rintro e W' ⟨rfl, hw⟩; rw [hw]; clear hw W')
    go_ret
    refine ⟨?_, rfl⟩
    rw [← HE.out, condC_cons, hv, Bool.true_or]
    rfl
   ·
    have hv' : condB b[x] s = false := by simpa using hv
    rw [hv'] at HCL
    go_wp2_with (go_at_call 122; refine HCL.out.mono ?_; rintro e W' ⟨rfl, hw⟩; rw [hw]; clear hw W')
    go_roundg (b.length - x)
    case measure => have := HK.out; omega
    case rel =>
     have hw : wrap64 ((x : Int) + 1) = ((x + 1 : Nat) : Int) := by unfold wrap64; omega
     refine ⟨x + 1, by first | rfl | rw [hw] | simp, ⟨by omega⟩, ⟨by omega⟩, ⟨?_⟩, ⟨rfl⟩⟩
     rw [← HE.out, condC_cons, hv', Bool.false_or]
  ·
   have h1 : decide ((x : Int) < (b.length : Int)) = false := decide_eq_false (by omega)
   go_wp2
   go_ret
   refine ⟨?_, rfl⟩
   rw [← HD.out, List.drop_eq_nil_of_le (by omega)]
   rfl

theorem enter160 (args : Array Value) (w : World) : (callFunc 160 args).run Try.prog w = .ok (.enter 160 args) w := by kernel_rfl
theorem enter107 (args : Array Value) (w : World) : (callFunc 107 args).run Try.prog w = .ok (.enter 107 args) w := by kernel_rfl
theorem cond_lit {m : Mean} {v : Value} (h : litK m [v]) (s : Nat) (w : World) (hs : s < 256) : ∃ T u f, v = .iface T u ∧ (∀ w, (method 255 T u "dropper/loop.conducts").run Try.prog w = .ok (f, u) w) ∧ (∀ args w, (callFunc f args).run Try.prog w = .ok (.enter f args) w) ∧ Calls Try.prog f #[u, .int .i64 (s : Nat)] w fun e w' => e = .returned (.bool (m.f s)) ∧ w' = w := by
 obtain ⟨b, hb, rfl, hv⟩ := h
 obtain rfl := (List.cons.inj hv).1
 exact ⟨_, _, 160, rfl, fun w => meth_lit _ w 0, enter160, lit_cond b hb s hs w⟩
theorem cond_all : ∀ n, CondB n ∧ CondC n
 | 0 => by
  have h : CondB 0 := condB_of 0 (fun m v s w hs hk => cond_lit hk s w hs)
  exact ⟨h, condC_of 0 h⟩
 | n + 1 => by
  have ih := (cond_all n).2
  have h : CondB (n + 1) := condB_of (n + 1) (fun m v s w hs hk => by
   rcases (partKd_succ n w m [v]).1 hk with hk | ⟨c, u, rfl, _, hv, A, cc, hu, _, hr⟩
   ·
    exact cond_lit hk s w hs
   ·
    obtain rfl := (List.cons.inj hv).1
    obtain rfl := (List.cons.inj hu).1
    exact ⟨_, _, 107, rfl, fun w => meth_circ _ _ _ w, enter107, ih c A cc s w hs hr⟩)
  exact ⟨h, condC_of (n + 1) h⟩
end Go.Proofs.Yteikgnaikeleaaa

namespace Go.Proofs.Yteikgnaikeleaaa
open Go.RowKit Go.Proofs.YteikgnaikeleaaaW.PrintWords Go.Proofs.YteikgnaikeleaaaW.PrintLast Go.Proofs.YteikgnaikeleaaaW.PrintMore
set_option linter.unusedVariables false

theorem next_nat (x : Nat) (h : x < 256) : wrap64 ((x : Int) + 1) = ((x + 1 : Nat) : Int) := by unfold wrap64; omega
theorem tbl_drewN {w : World} {g : Nat} {o : Obj} (h : w.heap[g]? = some o) (m : Nat) : (w.drewN m).heap[g]? = some o := h
def tbl (f : Nat → Bool) : Array Value := ((List.range 256).map (fun i => Value.bool (f i))).toArray
theorem tbl_size (f : Nat → Bool) : (tbl f).size = 256 := by simp [tbl]
theorem tbl_get (f : Nat → Bool) (i : Nat) (h : i < 256) : (tbl f)[i]? = some (.bool (f i)) := by simp [tbl, h]
theorem tbl_ext {f g : Nat → Bool} (h : ∀ i, i < 256 → f i = g i) : tbl f = tbl g := by
 unfold tbl
 congr 1
 exact List.map_congr_left (fun i hi => by rw [h i (List.mem_range.1 hi)])
theorem tbl_set (f : Nat → Bool) (i : Nat) (v : Bool) : (tbl f).setIfInBounds i (.bool v) = tbl (fun n => if n = i then v else f n) := by
 apply Array.ext_getElem?
 intro j
 rw [Array.getElem?_setIfInBounds]
 by_cases hj : j < 256
 ·
  rw [tbl_get _ j hj, tbl_get _ j hj]
  by_cases hij : i = j
  ·
   subst hij
   simp [tbl_size, hj]
  ·
   rw [if_neg hij, if_neg (fun e => hij e.symm)]
 ·
  have h1 : ∀ g, (tbl g)[j]? = none := fun g => Array.getElem?_eq_none (by rw [tbl_size]; omega)
  rw [h1, h1]
  split
  ·
   rename_i e
   subst e
   rw [if_neg (by rw [tbl_size]; omega)]
  ·
   rfl

theorem tbl_cell {w : World} {g : Nat} {f : Nat → Bool} {t : TypeId} (h : w.heap[g]? = some (.cells (tbl f) t (0, 0))) (n : Nat) (hn : n < 256) : w.cell? ⟨g, n, none⟩ = some (.bool (f n)) := (blk_cell h n).trans (tbl_get f n hn)
set_option maxHeartbeats 8000000 in
set_option maxRecDepth 1000000 in
theorem table_calls (n : Nat) (c : List (List Mean)) (A : Option Addr) (cc : Nat) (w : World) (hr : (branchKd n).C w A c.length c) :
  Calls Try.prog 85 #[.slice A c.length cc] w fun e w' => e = .returned (.pointer (some ⟨w.heap.size, 0, none⟩)) ∧ w'.heap[w.heap.size]? = some (.cells (tbl (condC c)) 67 (0, 0)) ∧ Below w.heap.size w w' := by
 have HR := Aside0.mk hr
 clear hr
 go_enter Try.func85, Try.ntmps85
 go_wp2
 have hz : Try.zeroCells67 = tbl (fun _ => false) := by rfl
 rw [hz]
 go_loopg [7] 257 (fun kq v7 W => ∃ x : Nat, v7 = .int .i64 x ∧ Aside0 (x + kq = 257) ∧ Aside0 (x ≤ 256) ∧ Aside0 (W.heap[w.heap.size]? = some (.cells (tbl (fun i => decide (i < x) && condC c i)) 67 (0, 0))) ∧ Aside0 (Below w.heap.size w W))
 case atStart => exact ⟨0, rfl, ⟨rfl⟩, ⟨by decide⟩, ⟨by rw [show (fun i => decide (i < 0) && condC c i) = (fun _ => false) from by funext i; simp]; show (w.heap.push _)[w.heap.size]? = _; simp⟩, ⟨(Below.refl _ w).alloc (Nat.le_refl _) _⟩⟩
 case round =>
  obtain ⟨x, rfl, HK, HX, HC, HB⟩ := hrel
  by_cases hx : x < 256
  ·
   have h1 : decide ((x : Int) < 256) = true := decide_eq_true (by omega)
   have h0 : (0 : Int) ≤ (x : Int) ∧ (x : Int) < 256 := by omega
   go_wp2
   refine start_ (n := 8) (S := fun _ => True) (ds := []) #[false, false, false, false, false, false, false, false] (by kernel_rfl) rfl rfl trivial (fun hHeld => ?_)
   have HC2 := Aside0.mk (blk_drew HC.out)
   have HB2 := Aside0.mk (below_drew1 HB.out)
   have HCL := Aside0.mk ((cond_all n).2 c A cc x wr.drew hx (Kd.C_below HR.out HB2.out))
   obtain ⟨w5, hw5⟩ : ∃ w5, w5 = wr.drew := ⟨_, rfl⟩
   rw [← hw5] at HC2 HB2 HCL ⊢
   clear hw5 HC HB
   have c8 := blkc HC2.out x (.bool (decide (x < x) && condC c x)) (tbl_get _ x hx)
   have f8 := blk_frozen HC2.out x
   refine pst (i := 0) (N := some 10) (bz 8 1) (by kernel_rfl) ?_
   refine pst (i := 1) (N := some 11) (bz 8 3) (by kernel_rfl) ?_
   refine pst (i := 2) (N := some 12) (bz 8 7) (by kernel_rfl) ?_
   refine pst (i := 3) (N := some 13) (bz 8 15) (by kernel_rfl) ?_
   refine pst (i := 5) (N := some 15) (bz 8 47) (by kernel_rfl) ?_
   refine one_ (i := 4) (N := some 14) (bz 8 63) rfl rfl (by kernel_rfl) (by decide) (fun K hK => ?_)
   refine goes_ Try.func107 (by kernel_rfl) rfl #[.slice A c.length cc, .int .i64 x] (by rfl) rfl rfl mapz ?_
   refine HCL.out.mono ?_
   rintro e w' ⟨rfl, hw⟩
   rw [hw]
   clear hw w'
   refine ⟨_, rfl, ?_⟩
   refine hK.out _ _ trivial (fun hHeld => ?_)
   clear hK K
   refine norm_ (a' := ?_) ?_ ?_
   rotate_left
   ·
    show Act.put _ (some 14) _ = _
    simp only [Act.put, List.setIfInBounds_toArray, List.set_cons_zero, List.set_cons_succ, i64_w, i32_w]
    rfl
   refine pst (i := 6) (N := some 16) (bz 8 127) (by kernel_rfl) ?_
   refine one_ (i := 7) (N := none) (bz 8 255) rfl rfl (by kernel_rfl) (by decide) (fun K hK => ?_)
   refine skip_ rfl rfl (w1 := w5.setCell ⟨w.heap.size, x, none⟩ (.bool (condC c x))) ?_ ?_
   ·
    go_simp
   refine hK.out _ _ trivial (fun hHeld => ?_)
   clear hK K
   refine done_ (by kernel_rfl) ?_
   go_wp2
   go_roundg (256 - x)
   case measure => have := HK.out; omega
   case rel =>
    have hw : wrap64 ((x : Int) + 1) = ((x + 1 : Nat) : Int) := by unfold wrap64; omega
    refine ⟨x + 1, by first | rfl | rw [hw] | simp, ⟨by omega⟩, ⟨by omega⟩, ⟨?_⟩, ⟨below_set HB2.out (Nat.le_refl _)⟩⟩
    refine blk_put HC2.out x _ ?_
    rw [tbl_set]
    apply tbl_ext
    intro i hi
    by_cases e : i = x
    ·
     subst e
     simp
    ·
     rw [if_neg e]
     have : (i < x) = (i < x + 1) := propext ⟨fun h => by omega, fun h => by omega⟩
     simp only [this]
  ·
   have h1 : decide ((x : Int) < 256) = false := decide_eq_false (by omega)
   go_wp2
   go_ret
   refine ⟨rfl, ?_, HB.out⟩
   have hx6 : x = 256 := by have := HX.out; omega
   rw [HC.out, tbl_ext (g := condC c) (fun i hi => by rw [hx6]; simp [hi])]
def OpenPost (w : World) (s : List UInt8) (e : Ending) (w' : World) : Prop :=
 Below w.heap.size w w' ∧ match parseL s with
  | some m => ∃ g, w.heap.size ≤ g ∧ e = .returned (.tuple #[.pointer (some ⟨g, 0, none⟩), .int .i64 0]) ∧ w'.heap[g]? = some (.cells (tbl m.f) 67 (0, 0))
  | none => e = .returned (.tuple #[.pointer none, .int .i64 90])
set_option maxHeartbeats 8000000 in
set_option maxRecDepth 1000000 in
theorem open_calls (hIB : IBSpec) (s : List UInt8) (w : World) : Calls Try.prog 57 #[.string (tx s)] w (OpenPost w s) := by
 have HP := Aside0.mk (parse_calls hIB s w)
 unfold ParsePost at HP
 cases hc : parseC s with
 | none =>
  rw [hc] at HP
  go_enter Try.func57, Try.ntmps57
  go_wp2_with (go_at_call 68; refine HP.out.mono ?_; rintro e W' ⟨hb, rfl⟩; have HB := Aside0.mk hb; clear hb)
  go_ret2
  unfold OpenPost parseL
  rw [hc]
  exact ⟨HB.out, rfl⟩
 | some c =>
  rw [hc] at HP
  go_enter Try.func57, Try.ntmps57
  go_wp2_with (first | (go_at_call 68; refine HP.out.mono ?_; rintro e W' ⟨hb, v, rfl, hr, hsm⟩; obtain ⟨A, cc, rfl, hl, hcc⟩ := Kd.R_reads hr; have HB := Aside0.mk hb; have HC := Aside0.mk (table_calls _ c A cc W' hcc); clear hb hr hl hcc hsm) | (go_at_call 85; refine HC.out.mono ?_; rintro e W2 ⟨rfl, hg, hb⟩; have HG := Aside0.mk hg; have HB2 := Aside0.mk hb; clear hg hb))
  go_ret2
  unfold OpenPost parseL
  rw [hc]
  exact ⟨below_step HB.out HB2.out, W'.heap.size, HB.out.size, rfl, HG.out⟩
end Go.Proofs.Yteikgnaikeleaaa

namespace Go.Proofs.Yteikgnaikeleaaa
open Go.RowKit

def abc : ByteArray := ⟨#[97, 98, 99, 100, 101, 102, 103, 104]⟩

theorem encode_high (r : Int) (h0 : 128 ≤ r) : (∃ a b : UInt8, Utf8.encode r = ⟨#[a, b]⟩ ∧ 128 ≤ b.toNat) ∨ (∃ a b c : UInt8, Utf8.encode r = ⟨#[a, b, c]⟩ ∧ 128 ≤ c.toNat) ∨ (∃ a b c d : UInt8, Utf8.encode r = ⟨#[a, b, c, d]⟩ ∧ 128 ≤ d.toNat) := by
 have hl : ∀ n : Nat, 128 ≤ (UInt8.ofNat (0x80 + n % 64)).toNat := by
  intro n
  rw [UInt8.toNat_ofNat']
  omega
 have hc : 128 ≤ (if Utf8.valid r then r.toNat else Utf8.runeError) := by
  split
  ·
   omega
  ·
   decide
 simp only [Utf8.encode]
 generalize (if Utf8.valid r then r.toNat else Utf8.runeError) = c at hc ⊢
 rw [if_neg (by omega)]
 split
 ·
  exact Or.inl ⟨_, _, rfl, hl _⟩
 ·
  split
  ·
   exact Or.inr (Or.inl ⟨_, _, _, rfl, hl _⟩)
  ·
   exact Or.inr (Or.inr ⟨_, _, _, _, rfl, hl _⟩)

theorem indexByte_high (c : UInt8) (h : 128 ≤ c.toNat) : ∀ l : List UInt8, (∀ x ∈ l, x.toNat < 128) → Lib.indexByte l c = -1
 | [], _ => rfl
 | b :: l, hl => by
  have h1 : (b == c) = false := by
   apply beq_eq_false_iff_ne.mpr
   rintro rfl
   have := hl b (by simp)
   omega
  have h2 := indexByte_high c h l (fun x hx => hl x (by simp [hx]))
  simp [Lib.indexByte, h1, h2]

theorem u8_back (x : UInt8) : ((x.toNat : Int)).toNat.toUInt8 = x := by simp

theorem wp_loop_once {P : Program} {Q : Exit → Act → World → Prop} {a : Act} {w : World} {c : Code} (h : c.wp P (Exit.then (fun _ _ => False) Q) a w) : (Code.loop c).wp P Q a w :=
 wp_loop (fun a' w' => a' = a ∧ w' = w) (fun _ _ => 0) ⟨rfl, rfl⟩ (by
  rintro a' w' ⟨rfl, rfl⟩
  refine wp_mono h ?_
  intro e a2 w2 hq
  cases e <;> first | exact hq | exact hq.elim)

set_option maxHeartbeats 4000000 in
set_option maxRecDepth 1000000 in
theorem indexRune_bad (r : Int) (h0 : 128 ≤ r) (h1 : r ≠ 65533) (hv : Lib.validRune r = false) (w : World) :
  Calls Try.prog 106 #[.string abc, .int .i32 r] w fun e w' => e = .returned (.int .i64 (-1)) ∧ w' = w := by
 have a0 : decide (r < 128) = false := decide_eq_false (by omega)
 have a1 : (r == 65533) = false := beq_eq_false_iff_ne.mpr h1
 go_enter Try.func106, Try.ntmps106
 go_wp2_with (first | (go_at_call 119; refine (Try.utf8_ValidRune r _).mono ?_; rintro e w' ⟨rfl, hw⟩; rw [hw]))
 go_ret
 exact ⟨rfl, rfl⟩

set_option maxHeartbeats 4000000 in
set_option maxRecDepth 1000000 in
theorem indexRune_two (r : Int) (h0 : 128 ≤ r) (h1 : r ≠ 65533) (hv : Lib.validRune r = true) (a b : UInt8) (he : Utf8.encode r = ⟨#[a, b]⟩) (hb : 128 ≤ b.toNat) (w : World) :
  Calls Try.prog 106 #[.string abc, .int .i32 r] w fun e w' => e = .returned (.int .i64 (-1)) ∧ ∃ n, w' = w.drewN n := by
 have a0 : decide (r < 128) = false := decide_eq_false (by omega)
 have a1 : (r == 65533) = false := beq_eq_false_iff_ne.mpr h1
 have u21 : (Try.prog.underlying 21).isSome = true := by rw [Try.underlying21]; rfl
 have cv : (convert 21 9 (.int .i32 r)).run Try.prog w = _ := run_convert_int_string w 21 9 .i32 r u21 Try.underlying9
 rw [he] at cv
 go_enter Try.func106, Try.ntmps106
 go_wp2_with (first | (go_at_call 119; refine (Try.utf8_ValidRune r _).mono ?_; rintro e w' ⟨rfl, hw⟩; rw [hw]) | (go_at_call 82; refine (Try.strings_IndexByte _ _ _).mono ?_; rintro e w' ⟨rfl, hw⟩; rw [hw]))
 subst hw
 have w2 : IntKind.i64.wrap 2 = 2 := by decide
 have hsz : abc.size = 8 := rfl
 have hne : ((↑(abc[1]'(by decide)).toNat : Int) != ↑((({ data := #[a, b] } : ByteArray))[1]'(by show 1 < 2; decide)).toNat) = true := by
  apply bne_iff_ne.mpr
  show (98 : Int) ≠ (b.toNat : Int)
  omega
 apply wp_scope_straight
 go_wp2
 apply wp_loop_once
 go_wp2
 apply wp_scope_straight
 go_wp2
 go_quiet (fail)
 try go_wp2
 have b2 : (0 : Int) ≤ 2 ∧ (2 : Int) ≤ (abc.size : Int) := by decide
 go_quiet ((refine (Try.strings_IndexByte _ _ _).mono ?_; rintro e w2 ⟨rfl, hw⟩; exact ⟨congrArg (fun z => Ending.returned (Value.int .i64 z)) (indexByte_high _ (by rw [u8_back]; exact hb) _ (by decide)), _, hw⟩))
 go_wp2
 simp +zetaDelta only [Exit.noGoto, Exit.inBlock, Exit.then]
 go_ret
 exact ⟨rfl, _, rfl⟩

set_option maxHeartbeats 4000000 in
set_option maxRecDepth 1000000 in
theorem indexRune_three (r : Int) (h0 : 128 ≤ r) (h1 : r ≠ 65533) (hv : Lib.validRune r = true) (a b c : UInt8) (he : Utf8.encode r = ⟨#[a, b, c]⟩) (hb : 128 ≤ c.toNat) (w : World) :
  Calls Try.prog 106 #[.string abc, .int .i32 r] w fun e w' => e = .returned (.int .i64 (-1)) ∧ ∃ n, w' = w.drewN n := by
 have a0 : decide (r < 128) = false := decide_eq_false (by omega)
 have a1 : (r == 65533) = false := beq_eq_false_iff_ne.mpr h1
 have u21 : (Try.prog.underlying 21).isSome = true := by rw [Try.underlying21]; rfl
 have cv : (convert 21 9 (.int .i32 r)).run Try.prog w = _ := run_convert_int_string w 21 9 .i32 r u21 Try.underlying9
 rw [he] at cv
 go_enter Try.func106, Try.ntmps106
 go_wp2_with (first | (go_at_call 119; refine (Try.utf8_ValidRune r _).mono ?_; rintro e w' ⟨rfl, hw⟩; rw [hw]) | (go_at_call 82; refine (Try.strings_IndexByte _ _ _).mono ?_; rintro e w' ⟨rfl, hw⟩; rw [hw]))
 subst hw
 have w2 : IntKind.i64.wrap 3 = 3 := by decide
 have hsz : abc.size = 8 := rfl
 have hne : ((↑(abc[2]'(by decide)).toNat : Int) != ↑((({ data := #[a, b, c] } : ByteArray))[2]'(by show 2 < 3; decide)).toNat) = true := by
  apply bne_iff_ne.mpr
  show (99 : Int) ≠ (c.toNat : Int)
  omega
 apply wp_scope_straight
 go_wp2
 apply wp_loop_once
 go_wp2
 apply wp_scope_straight
 go_wp2
 go_quiet (fail)
 try go_wp2
 have b2 : (0 : Int) ≤ 3 ∧ (3 : Int) ≤ (abc.size : Int) := by decide
 go_quiet ((refine (Try.strings_IndexByte _ _ _).mono ?_; rintro e w2 ⟨rfl, hw⟩; exact ⟨congrArg (fun z => Ending.returned (Value.int .i64 z)) (indexByte_high _ (by rw [u8_back]; exact hb) _ (by decide)), _, hw⟩))
 go_wp2
 simp +zetaDelta only [Exit.noGoto, Exit.inBlock, Exit.then]
 go_ret
 exact ⟨rfl, _, rfl⟩

set_option maxHeartbeats 4000000 in
set_option maxRecDepth 1000000 in
theorem indexRune_four (r : Int) (h0 : 128 ≤ r) (h1 : r ≠ 65533) (hv : Lib.validRune r = true) (a b c d : UInt8) (he : Utf8.encode r = ⟨#[a, b, c, d]⟩) (hb : 128 ≤ d.toNat) (w : World) :
  Calls Try.prog 106 #[.string abc, .int .i32 r] w fun e w' => e = .returned (.int .i64 (-1)) ∧ ∃ n, w' = w.drewN n := by
 have a0 : decide (r < 128) = false := decide_eq_false (by omega)
 have a1 : (r == 65533) = false := beq_eq_false_iff_ne.mpr h1
 have u21 : (Try.prog.underlying 21).isSome = true := by rw [Try.underlying21]; rfl
 have cv : (convert 21 9 (.int .i32 r)).run Try.prog w = _ := run_convert_int_string w 21 9 .i32 r u21 Try.underlying9
 rw [he] at cv
 go_enter Try.func106, Try.ntmps106
 go_wp2_with (first | (go_at_call 119; refine (Try.utf8_ValidRune r _).mono ?_; rintro e w' ⟨rfl, hw⟩; rw [hw]) | (go_at_call 82; refine (Try.strings_IndexByte _ _ _).mono ?_; rintro e w' ⟨rfl, hw⟩; rw [hw]))
 subst hw
 have w2 : IntKind.i64.wrap 4 = 4 := by decide
 have hsz : abc.size = 8 := rfl
 have hne : ((↑(abc[3]'(by decide)).toNat : Int) != ↑((({ data := #[a, b, c, d] } : ByteArray))[3]'(by show 3 < 4; decide)).toNat) = true := by
  apply bne_iff_ne.mpr
  show (100 : Int) ≠ (d.toNat : Int)
  omega
 apply wp_scope_straight
 go_wp2
 apply wp_loop_once
 go_wp2
 apply wp_scope_straight
 go_wp2
 go_quiet (fail)
 try go_wp2
 have b2 : (0 : Int) ≤ 4 ∧ (4 : Int) ≤ (abc.size : Int) := by decide
 go_quiet ((refine (Try.strings_IndexByte _ _ _).mono ?_; rintro e w2 ⟨rfl, hw⟩; exact ⟨congrArg (fun z => Ending.returned (Value.int .i64 z)) (indexByte_high _ (by rw [u8_back]; exact hb) _ (by decide)), _, hw⟩))
 go_wp2
 simp +zetaDelta only [Exit.noGoto, Exit.inBlock, Exit.then]
 go_ret
 exact ⟨rfl, _, rfl⟩

theorem abc_ascii (pos : Nat) (h : pos < abc.size) : (abc[pos]'h).toNat < 128 := by
 have k : ∀ i : Fin 8, (abc[i.val]'(by have := i.isLt; exact this)).toNat < 128 := by decide
 exact k ⟨pos, h⟩

set_option maxHeartbeats 4000000 in
set_option maxRecDepth 1000000 in
theorem indexRune_err (w : World) :
  Calls Try.prog 106 #[.string abc, .int .i32 65533] w fun e w' => e = .returned (.int .i64 (-1)) ∧ ∃ pos, w' = w.iter abc pos := by
 go_enter Try.func106, Try.ntmps106
 go_wp2
 go_loopw [] (fun w' => ∃ pos : Nat, w' = w.iter abc pos) (fun w' => abc.size - w'.iterPos w.heap.size)
 case atStart => exact ⟨0, rfl⟩
 case round =>
  obtain ⟨pos, rfl⟩ := hrel
  by_cases hp : pos < abc.size
  ·
   have ha := abc_ascii pos hp
   have hnx : ∀ ty, (Instr.next (.pointer (some ⟨w.heap.size, 0, none⟩)) true ty).run Try.prog (w.iter abc pos) = _ := fun ty => run_next_ascii w abc pos ty hp ha
   have hne : (((abc[pos]'hp).toNat : Int) == 65533) = false := beq_eq_false_iff_ne.mpr (by omega)
   go_wp2
   go_roundw
   case rel => exact ⟨pos + 1, rfl⟩
   case measure =>
    simp
    omega
  ·
   have hnx : ∀ ty, (Instr.next (.pointer (some ⟨w.heap.size, 0, none⟩)) true ty).run Try.prog (w.iter abc pos) = _ := fun ty => run_next_end w abc pos ty hp
   go_wp2
   go_ret
   exact ⟨rfl, pos, rfl⟩
def idx (r : Int) : Int := if 97 ≤ r ∧ r ≤ 104 then r - 97 else -1

theorem idx_ascii (r : Int) (h0 : 0 ≤ r) (h1 : r < 128) : Lib.indexByte abc.data.toList r.toNat.toUInt8 = idx r := by
 have k : ∀ i : Fin 128, Lib.indexByte abc.data.toList ((i.val : Int).toNat.toUInt8) = idx (i.val : Int) := by decide +kernel
 have := k ⟨r.toNat, by omega⟩
 rw [show ((r.toNat : Nat) : Int) = r by omega] at this
 exact this

theorem indexRune (r : Int) (h0 : 0 ≤ r) (w : World) :
  Calls Try.prog 106 #[.string abc, .int .i32 r] w fun e w' => e = .returned (.int .i64 (idx r)) ∧ Below w.heap.size w w' := by
 by_cases h1 : r < 128
 ·
  refine (Try.strings_IndexRune_ascii abc r w h0 h1).mono ?_
  rintro e w' ⟨rfl, rfl⟩
  exact ⟨by rw [idx_ascii r h0 h1], Below.refl _ _⟩
 ·
  have hi : idx r = -1 := if_neg (by omega)
  rw [hi]
  by_cases h2 : r = 65533
  ·
   subst h2
   refine (indexRune_err w).mono ?_
   rintro e w' ⟨rfl, pos, rfl⟩
   exact ⟨rfl, (Below.refl _ w).alloc (Nat.le_refl _) _⟩
  ·
   cases hv : Lib.validRune r with
   | false =>
    refine (indexRune_bad r (by omega) h2 hv w).mono ?_
    rintro e w' ⟨rfl, rfl⟩
    exact ⟨rfl, Below.refl _ _⟩
   | true =>
    rcases encode_high r (by omega) with ⟨a, b, he, hb⟩ | ⟨a, b, c, he, hb⟩ | ⟨a, b, c, d, he, hb⟩
    ·
     refine (indexRune_two r (by omega) h2 hv a b he hb w).mono ?_
     rintro e w' ⟨rfl, n, rfl⟩
     exact ⟨rfl, ⟨rfl, rfl, rfl, Nat.le_refl _, fun _ _ => rfl⟩⟩
    ·
     refine (indexRune_three r (by omega) h2 hv a b c he hb w).mono ?_
     rintro e w' ⟨rfl, n, rfl⟩
     exact ⟨rfl, ⟨rfl, rfl, rfl, Nat.le_refl _, fun _ _ => rfl⟩⟩
    ·
     refine (indexRune_four r (by omega) h2 hv a b c d he hb w).mono ?_
     rintro e w' ⟨rfl, n, rfl⟩
     exact ⟨rfl, ⟨rfl, rfl, rfl, Nat.le_refl _, fun _ _ => rfl⟩⟩
end Go.Proofs.Yteikgnaikeleaaa

namespace Go.Proofs.Yteikgnaikeleaaa
open Go.RowKit Go.Proofs.YteikgnaikeleaaaW.PrintWords Go.Proofs.YteikgnaikeleaaaW.PrintLast Go.Proofs.YteikgnaikeleaaaW.PrintMore
set_option linter.unusedVariables false

def runeAt (s : ByteArray) (pos : Nat) : Int := ((Utf8.decode s pos).1 : Nat)

def numL (s : ByteArray) : Nat → Nat → Int → Int → Option (Int × Bool)
 | 0, _, _, _ => none
 | k + 1, pos, out, last => if pos < s.size then (if idx (runeAt s pos) ≤ last then some (0, false) else numL s k (pos + (Utf8.decode s pos).2) (Go.bits .or .i64 out (wrap64 (2 ^ (idx (runeAt s pos)).toNat))) (idx (runeAt s pos))) else some (out, true)

theorem next_at {P : Program} (W : World) (b : Nat) (s : ByteArray) (pos : Nat) (ty : TypeId) (hb : W.heap[b]? = some (.stringIter s pos)) (h : pos < s.size) :
  (Instr.next (.pointer (some ⟨b, 0, none⟩)) true ty).run P W =
   .ok (.tuple #[.bool true, .int .i64 pos, .int .i32 (runeAt s pos)]) { W with heap := W.heap.setIfInBounds b (.stringIter s (pos + (Utf8.decode s pos).2)) } := by
 simp only [Instr.next, getObj, setObj, Sem.run_bind, Sem.run, hb, Result.andThen, h, if_true]
 simp [goInt, runeAt]

theorem next_end {P : Program} (W : World) (b : Nat) (s : ByteArray) (pos : Nat) (ty : TypeId) (hb : W.heap[b]? = some (.stringIter s pos)) (h : ¬ pos < s.size) :
  (Instr.next (.pointer (some ⟨b, 0, none⟩)) true ty).run P W = .ok (.tuple #[.bool false]) W := by
 simp [Instr.next, getObj, Sem.run, hb, h]

theorem below_set {B : Nat} {w W : World} (h : Below B w W) (b : Nat) (hb : B ≤ b) (o : Obj) : Below B w { W with heap := W.heap.setIfInBounds b o } := by
 refine ⟨h.os, h.tape, h.output, by simpa using h.size, fun i hi => ?_⟩
 rw [show ({ W with heap := W.heap.setIfInBounds b o } : World).heap = W.heap.setIfInBounds b o from rfl, Array.getElem?_setIfInBounds_ne (by omega)]
 exact h.block i hi

set_option maxHeartbeats 8000000 in
set_option maxRecDepth 1000000 in
theorem number_calls (k : Nat) (s : ByteArray) (r1 : Int) (r2 : Bool) (w : World) (h : numL s k 0 0 (-1) = some (r1, r2)) :
  Calls Try.prog 83 #[.string s] w fun e w' => e = .returned (.tuple #[.int .i64 r1, .bool r2]) ∧ Below w.heap.size w w' := by
 have H' := Aside0.mk h
 clear h
 go_enter Try.func83, Try.ntmps83
 go_wp2
 go_loopg [4, 5] k (fun kq v4 v5 w' => ∃ (pos : Nat) (out last : Int), v4 = .int .i64 out ∧ v5 = .int .i64 last ∧ Aside0 (numL s kq pos out last = some (r1, r2)) ∧ Aside0 (-1 ≤ last) ∧ Aside0 (w'.heap[w.heap.size]? = some (.stringIter s pos)) ∧ Aside0 (Below w.heap.size w w'))
 case atStart => exact ⟨0, 0, -1, rfl, rfl, H', ⟨by decide⟩, ⟨World.iter_heap w s 0⟩, ⟨(Below.refl _ w).alloc (Nat.le_refl _) _⟩⟩
 case round =>
  clear H'
  obtain ⟨pos, out, last, rfl, rfl, HA, HL, HI, HB⟩ := hrel
  cases gk with
  | zero => exact absurd HA.out (by simp [numL])
  | succ k1 =>
   have H := HA.out
   clear HA
   rw [numL] at H
   by_cases hp : pos < s.size
   ·
    rw [if_pos hp] at H
    have hlt : w.heap.size < wr.heap.size := (Array.getElem?_eq_some_iff.1 HI.out).1
    obtain ⟨W2, hW2⟩ : ∃ W2 : World, W2 = { wr with heap := wr.heap.setIfInBounds w.heap.size (.stringIter s (pos + (Utf8.decode s pos).2)) } := ⟨_, rfl⟩
    have hnx : ∀ ty, (Instr.next (.pointer (some ⟨w.heap.size, 0, none⟩)) true ty).run Try.prog wr = .ok (.tuple #[.bool true, .int .i64 pos, .int .i32 (runeAt s pos)]) W2 := fun ty => by rw [hW2]; exact next_at wr w.heap.size s pos ty HI.out hp
    have HB2 : Aside0 (Below w.heap.size w W2) := ⟨by rw [hW2]; exact below_set HB.out _ (Nat.le_refl _) _⟩
    have HI2 : Aside0 (W2.heap[w.heap.size]? = some (.stringIter s (pos + (Utf8.decode s pos).2))) := ⟨by rw [hW2]; simp [hlt]⟩
    have HS2 : Aside0 (w.heap.size < W2.heap.size) := ⟨by rw [hW2]; simpa using hlt⟩
    clear hW2 HI HB hlt
    have hr0 : 0 ≤ runeAt s pos := Int.natCast_nonneg _
    have HC := Aside0.mk (indexRune (runeAt s pos) hr0 W2)
    clear hr0
    by_cases hl : idx (runeAt s pos) ≤ last
    ·
     rw [if_pos hl] at H
     have hlb : decide (idx (runeAt s pos) ≤ last) = true := decide_eq_true hl
     clear hl
     obtain ⟨rfl, rfl⟩ := Prod.mk.inj (Option.some.inj H)
     go_wp2_with (go_at_call 106; refine HC.out.mono ?_; rintro e W3 ⟨rfl, hb3⟩)
     go_ret2
     exact ⟨rfl, HB2.out.trans (hb3.mono (Nat.le_of_lt HS2.out))⟩
    ·
     rw [if_neg hl] at H
     have hlb : decide (idx (runeAt s pos) ≤ last) = false := decide_eq_false hl
     have hi0 : 0 ≤ idx (runeAt s pos) := by have := HL.out; omega
     have hi8 : idx (runeAt s pos) < 8 := by unfold idx; split <;> omega
     clear hl
     have H' := Aside0.mk H
     clear H
     go_wp2_with (go_at_call 106; refine HC.out.mono ?_; rintro e W3 ⟨rfl, hb3⟩)
     go_roundg k1
     case measure => omega
     case rel => exact ⟨pos + (Utf8.decode s pos).2, _, _, rfl, rfl, H', ⟨by omega⟩, ⟨(hb3.block _ HS2.out).trans HI2.out⟩, ⟨HB2.out.trans (hb3.mono (Nat.le_of_lt HS2.out))⟩⟩
   ·
    rw [if_neg hp] at H
    obtain ⟨rfl, rfl⟩ := Prod.mk.inj (Option.some.inj H)
    have hnx : ∀ ty, (Instr.next (.pointer (some ⟨w.heap.size, 0, none⟩)) true ty).run Try.prog wr = _ := fun ty => next_end wr w.heap.size s pos ty HI.out hp
    go_wp2
    go_ret2
    exact ⟨rfl, HB.out⟩
end Go.Proofs.Yteikgnaikeleaaa

/- The set of a text: by runes as by bytes. -/
namespace Go.Proofs.Yteikgnaikeleaaa
open Go.RowKit
set_option linter.unusedVariables false

theorem setL_none {t : List UInt8} {out : Nat} {last : Int} {b : UInt8} (h : isL b = false) : setL (b :: t) out last = none := by
 rw [setL, if_neg (by simp [h])]
theorem isL_iff (b : UInt8) : isL b = true ↔ 97 ≤ (b.toNat : Int) ∧ (b.toNat : Int) ≤ 104 := by
 unfold isL
 simp [UInt8.le_iff_toNat_le]
 omega
theorem or_bits {a : Nat} (ha : a < 256) {i : Nat} (hi : i < 8) : Go.bits .or .i64 (a : Int) (wrap64 (2 ^ i)) = ((a ||| 2 ^ i : Nat) : Int) := by
 have h : ∀ (a : Fin 256) (i : Fin 8), Go.bits .or .i64 (a.val : Int) (wrap64 (2 ^ i.val)) = ((a.val ||| 2 ^ i.val : Nat) : Int) := by decide +kernel
 exact h ⟨a, ha⟩ ⟨i, hi⟩
theorem or_lt {a : Nat} (ha : a < 256) {i : Nat} (hi : i < 8) : a ||| 2 ^ i < 256 := by
 have h : ∀ (a : Fin 256) (i : Fin 8), a.val ||| 2 ^ i.val < 256 := by decide +kernel
 exact h ⟨a, ha⟩ ⟨i, hi⟩
theorem numL_eq : ∀ (t : List UInt8) (k : Nat) (pos : Nat) (out : Nat) (last : Int) (s : List UInt8), s.drop pos = t → out < 256 → -1 ≤ last → t.length < k →
  numL (tx s) k pos out last = some (match setL t out last with | some n => ((n : Int), true) | none => (0, false))
 | [], k + 1, pos, out, last, s, hs, ho, hl, hk => by
  have : ¬ pos < (tx s).size := by
   rw [tx_size]
   have := congrArg List.length hs
   simp at this
   omega
  rw [numL, if_neg this]
  rfl
 | b :: t, 0, pos, out, last, s, hs, ho, hl, hk => by simp at hk
 | b :: t, k + 1, pos, out, last, s, hs, ho, hl, hk => by
  have hp : pos < s.length := by
   have := congrArg List.length hs
   simp at this
   omega
  have hp' : pos < (tx s).size := by rw [tx_size]; exact hp
  have hb : s[pos] = b := by
   rw [List.drop_eq_getElem_cons hp] at hs
   exact (List.cons.inj hs).1
  have ht : s.drop (pos + 1) = t := by
   rw [List.drop_eq_getElem_cons hp] at hs
   exact (List.cons.inj hs).2
  have hg : (tx s)[pos]'hp' = b := by rw [tx_get]; exact hb
  rw [numL, if_pos hp']
  by_cases ha : b.toNat < 128
  ·
   have hd : Utf8.decode (tx s) pos = (b.toNat, 1) := by
    rw [decode_ascii (tx s) pos hp' (by rw [hg]; exact ha), hg]
   unfold runeAt
   rw [hd]
   simp only
   by_cases hi : isL b = true
   ·
    have hi' := (isL_iff b).1 hi
    have hx : idx (b.toNat : Int) = (b.toNat : Int) - 97 := if_pos hi'
    rw [hx]
    by_cases hlt : last < (b.toNat : Int) - 97
    ·
     rw [if_neg (by omega), setL, if_pos ⟨hi, hlt⟩]
     have e1 : ((b.toNat : Int) - 97).toNat = b.toNat - 97 := by omega
     rw [e1, or_bits ho (by omega)]
     exact numL_eq t k (pos + 1) _ _ s ht (or_lt ho (by omega)) (by omega) (by simp at hk; omega)
    ·
     rw [if_pos (by omega), setL, if_neg (fun h => hlt h.2)]
   ·
    have hx : idx (b.toNat : Int) = -1 := if_neg (fun h => hi ((isL_iff b).2 h))
    rw [hx, if_pos (by omega), setL_none (by simpa using hi)]
  ·
   have hd := decode_high (tx s) pos hp' (by rw [hg]; omega)
   have hx : idx (runeAt (tx s) pos) = -1 := by
    unfold idx runeAt
    exact if_neg (by omega)
   have hi : isL b = false := by
    cases h : isL b with
    | false => rfl
    | true => have := (isL_iff b).1 h; omega
   rw [hx, if_pos (by omega), setL_none hi]
theorem number_eq (s : ByteArray) : numL s (s.size + 1) 0 0 (-1) = some (match setL s.data.toList 0 (-1) with | some n => ((n : Int), true) | none => (0, false)) := by
 have h := numL_eq s.data.toList (s.size + 1) 0 0 (-1) s.data.toList rfl (by decide) (by decide) (by have := tx_size s.data.toList; rw [tx_data] at this; omega)
 rw [tx_data] at h
 exact h
theorem setL_lt : ∀ (t : List UInt8) (out : Nat) (last : Int) (n : Nat), out < 256 → setL t out last = some n → n < 256
 | [], out, _, n, ho, h => by simp [setL] at h; omega
 | b :: t, out, last, n, ho, h => by
  rw [setL] at h
  split at h
  ·
   rename_i hc
   have := (isL_iff b).1 hc.1
   exact setL_lt t _ _ n (or_lt ho (by omega)) h
  ·
   simp at h
def numR (s : List UInt8) : Int × Bool := match setL s 0 (-1) with | some n => ((n : Int), true) | none => (0, false)
theorem number_of (s : List UInt8) (w : World) : Calls Try.prog 83 #[.string (tx s)] w fun e w' => e = .returned (.tuple #[.int .i64 (numR s).1, .bool (numR s).2]) ∧ Below w.heap.size w w' := by
 refine number_calls ((tx s).size + 1) (tx s) (numR s).1 (numR s).2 w ?_
 rw [number_eq]
 rfl
end Go.Proofs.Yteikgnaikeleaaa

namespace Go.Proofs.Yteikgnaikeleaaa
open Go.RowKit Go.Proofs.YteikgnaikeleaaaW.PrintWords Go.Proofs.YteikgnaikeleaaaW.PrintLast Go.Proofs.YteikgnaikeleaaaW.PrintMore
set_option linter.unusedVariables false

theorem ib : IBSpec := fun s c w => Try.strings_IndexByte s c w
theorem open_ (s : List UInt8) (w : World) : Calls Try.prog 57 #[.string (tx s)] w (OpenPost w s) := open_calls ib s w

def AskedPost (w : World) (s q : List UInt8) (e : Ending) (w' : World) : Prop :=
 Below w.heap.size w w' ∧ match parseL s, setL q 0 (-1) with
  | none, _ => ∃ n, e = .returned (.tuple #[.pointer none, .int .i64 n, .int .i64 90])
  | some m, none => ∃ g, e = .returned (.tuple #[.pointer (some ⟨g, 0, none⟩), .int .i64 0, .int .i64 91])
  | some m, some k => ∃ g, w.heap.size ≤ g ∧ e = .returned (.tuple #[.pointer (some ⟨g, 0, none⟩), .int .i64 k, .int .i64 0]) ∧ w'.heap[g]? = some (.cells (tbl m.f) 67 (0, 0))
set_option maxHeartbeats 8000000 in
set_option maxRecDepth 1000000 in
theorem asked_calls (s q : List UInt8) (w : World) : Calls Try.prog 66 #[.string (tx s), .string (tx q)] w (AskedPost w s q) := by
 have HP := Aside0.mk (open_ s w)
 unfold OpenPost at HP
 have hN := number_of q
 unfold numR at hN
 cases hc : parseL s with
 | none =>
  rw [hc] at HP
  have HNN := Aside0.mk hN
  clear hN
  generalize hp : (match setL q 0 (-1) with | some n => ((n : Int), true) | none => (0, false)) = pr at HNN
  obtain ⟨p1, p2⟩ := pr
  clear hp
  go_enter Try.func66, Try.ntmps66
  go_wp2_with (first | (go_at_call 57; refine HP.out.mono ?_; rintro e W' ⟨hb, rfl⟩; have HB := Aside0.mk hb; clear hb) | (go_at_call 83; refine (HNN.out _).mono ?_; rintro e W2 ⟨rfl, hb⟩; have HB2 := Aside0.mk hb; clear hb))
  all_goals go_ret3
  all_goals unfold AskedPost
  all_goals rw [hc]
  all_goals exact ⟨below_step HB.out HB2.out, _, rfl⟩
 | some m =>
  rw [hc] at HP
  cases hq : setL q 0 (-1) with
  | none =>
   rw [hq] at hN
   have HNN := Aside0.mk hN
   clear hN
   go_enter Try.func66, Try.ntmps66
   go_wp2_with (first | (go_at_call 57; refine HP.out.mono ?_; rintro e W' ⟨hb, g, hg, rfl, hh⟩; have HB := Aside0.mk hb; clear hb) | (go_at_call 83; refine (HNN.out _).mono ?_; rintro e W2 ⟨rfl, hb⟩; have HB2 := Aside0.mk hb; clear hb))
   go_ret3
   unfold AskedPost
   rw [hc, hq]
   exact ⟨below_step HB.out HB2.out, _, rfl⟩
  | some k =>
   rw [hq] at hN
   have HNN := Aside0.mk hN
   clear hN
   go_enter Try.func66, Try.ntmps66
   go_wp2_with (first | (go_at_call 57; refine HP.out.mono ?_; rintro e W' ⟨hb, g, hg, rfl, hh⟩; have HB := Aside0.mk hb; have HG := Aside0.mk hg; have HH := Aside0.mk hh; clear hb hg hh) | (go_at_call 83; refine (HNN.out _).mono ?_; rintro e W2 ⟨rfl, hb⟩; have HB2 := Aside0.mk hb; clear hb))
   go_ret3
   unfold AskedPost
   rw [hc, hq]
   exact ⟨below_step HB.out HB2.out, g, HG.out, rfl, blk_below HH.out HB2.out⟩

def condR (s q : List UInt8) : Bool × Int :=
 match parseL s, setL q 0 (-1) with
 | none, _ => (false, 90)
 | some m, none => (false, 91)
 | some m, some k => (m.f k, 0)
def cutR (s q : List UInt8) : Bool × Int :=
 match parseL s, setL q 0 (-1) with
 | none, _ => (false, 90)
 | some m, none => (false, 91)
 | some m, some k => (cutF m.f k, 0)
theorem setL_256 {q : List UInt8} {k : Nat} (h : setL q 0 (-1) = some k) : k < 256 := setL_lt _ _ _ _ (by decide) h
theorem cut_index (k : Nat) (h : k < 256) : Go.bits .andNot .i64 255 (k : Int) = ((255 ^^^ k : Nat) : Int) ∧ 255 ^^^ k < 256 := by
 have : ∀ k : Fin 256, Go.bits .andNot .i64 255 (k.val : Int) = ((255 ^^^ k.val : Nat) : Int) ∧ 255 ^^^ k.val < 256 := by decide +kernel
 exact this ⟨k, h⟩
set_option maxHeartbeats 8000000 in
set_option maxRecDepth 1000000 in
theorem conducts_calls (s q : List UInt8) (w : World) : Calls Try.prog 25 #[.string (tx s), .string (tx q)] w fun e w' => e = .returned (.tuple #[.bool (condR s q).1, .int .i64 (condR s q).2]) ∧ Below w.heap.size w w' := by
 have HP := Aside0.mk (asked_calls s q w)
 unfold AskedPost at HP
 unfold condR
 cases hc : parseL s with
 | none =>
  rw [hc] at HP
  go_enter Try.func25, Try.ntmps25
  go_wp2_with (first | (go_at_call 66; refine HP.out.mono ?_; rintro e W' ⟨hb, n, rfl⟩; have HB := Aside0.mk hb; clear hb))
  go_ret2
  exact ⟨rfl, HB.out⟩
 | some m =>
  rw [hc] at HP
  cases hq : setL q 0 (-1) with
  | none =>
   rw [hq] at HP
   go_enter Try.func25, Try.ntmps25
   go_wp2_with (first | (go_at_call 66; refine HP.out.mono ?_; rintro e W' ⟨hb, n, rfl⟩; have HB := Aside0.mk hb; clear hb))
   go_ret2
   exact ⟨rfl, HB.out⟩
  | some k =>
   rw [hq] at HP
   have hk := setL_256 hq
   have h0 : (0 : Int) ≤ (k : Int) ∧ (k : Int) < 256 := by omega
   clear hc hq
   go_enter Try.func25, Try.ntmps25
   go_wp2_with (first | (go_at_call 66; refine HP.out.mono ?_; rintro e W' ⟨hb, g, hg, rfl, hh⟩; have HB := Aside0.mk hb; have hcell := tbl_cell hh k hk; clear hb hg hh))
   go_ret2
   exact ⟨rfl, HB.out⟩
set_option maxHeartbeats 8000000 in
set_option maxRecDepth 1000000 in
theorem iscut_calls (s q : List UInt8) (w : World) : Calls Try.prog 24 #[.string (tx s), .string (tx q)] w fun e w' => e = .returned (.tuple #[.bool (cutR s q).1, .int .i64 (cutR s q).2]) ∧ Below w.heap.size w w' := by
 have HP := Aside0.mk (asked_calls s q w)
 unfold AskedPost at HP
 unfold cutR
 cases hc : parseL s with
 | none =>
  rw [hc] at HP
  go_enter Try.func24, Try.ntmps24
  go_wp2_with (first | (go_at_call 66; refine HP.out.mono ?_; rintro e W' ⟨hb, n, rfl⟩; have HB := Aside0.mk hb; clear hb))
  go_ret2
  exact ⟨rfl, HB.out⟩
 | some m =>
  rw [hc] at HP
  cases hq : setL q 0 (-1) with
  | none =>
   rw [hq] at HP
   go_enter Try.func24, Try.ntmps24
   go_wp2_with (first | (go_at_call 66; refine HP.out.mono ?_; rintro e W' ⟨hb, n, rfl⟩; have HB := Aside0.mk hb; clear hb))
   go_ret2
   exact ⟨rfl, HB.out⟩
  | some k =>
   rw [hq] at HP
   have hk := setL_256 hq
   obtain ⟨h1, h2⟩ := cut_index k hk
   have h0 : (0 : Int) ≤ ((255 ^^^ k : Nat) : Int) ∧ ((255 ^^^ k : Nat) : Int) < 256 := by omega
   obtain ⟨kk, hkk⟩ : ∃ kk, kk = 255 ^^^ k := ⟨_, rfl⟩
   have hcf : cutF m.f k = !m.f kk := by rw [hkk]; rfl
   rw [← hkk] at h0 h1 h2
   simp only [hcf]
   clear hc hq hcf hkk
   go_enter Try.func24, Try.ntmps24
   go_wp2_with (first | (go_at_call 66; refine HP.out.mono ?_; rintro e W' ⟨hb, g, hg, rfl, hh⟩; have HB := Aside0.mk hb; have hcell := tbl_cell hh kk h2; clear hb hg hh))
   go_ret2
   exact ⟨rfl, HB.out⟩
set_option maxHeartbeats 8000000 in
set_option maxRecDepth 1000000 in
theorem ispath_calls (s q : List UInt8) (w : World) : Calls Try.prog 23 #[.string (tx s), .string (tx q)] w fun e w' => e = .returned (.tuple #[.bool (condR s q).1, .int .i64 (condR s q).2]) ∧ Below w.heap.size w w' := by
 have HP := Aside0.mk (conducts_calls s q w)
 go_enter Try.func23, Try.ntmps23
 go_wp2_with (first | (go_at_call 25; refine HP.out.mono ?_; rintro e W' ⟨rfl, hb⟩; have HB := Aside0.mk hb; clear hb))
 go_ret2
 exact ⟨rfl, HB.out⟩
end Go.Proofs.Yteikgnaikeleaaa

namespace Go.Proofs.Yteikgnaikeleaaa
open Go.RowKit Go.Proofs.YteikgnaikeleaaaW.PrintWords Go.Proofs.YteikgnaikeleaaaW.PrintLast Go.Proofs.YteikgnaikeleaaaW.PrintMore
set_option linter.unusedVariables false

theorem part_tbl (f : Nat → Bool) (i : Nat) (h : i < 256) (w : World) : (part 4 (tbl f) (i * 1)).run Try.prog w = .ok (.bool (f i)) w := by
 have hz : ∀ w, (Go.sizeOf 4).run Try.prog w = .ok 1 w := fun _ => by kernel_rfl
 have ha : ∀ w, (isAgg 4).run Try.prog w = .ok false w := fun _ => by kernel_rfl
 have hg := tbl_get f i h
 rw [Nat.mul_one]
 simp [part, hz, ha, hg, go_sem]
theorem eq_loop (d : Nat) (f g : Nat → Bool) (w : World) : ∀ l : List Nat, (∀ i ∈ l, i < 256) →
  (forIn l ((none, ()) : Option Bool × Unit) fun i __s => do
      let __do_lift ← part 4 (tbl f) (i * 1)
      let __do_lift_1 ← part 4 (tbl g) (i * 1)
      let __do_lift ← Op.equalIn (d + 1) 4 __do_lift __do_lift_1
      if (!__do_lift) = true then pure (ForInStep.done (some false, ())) else pure (ForInStep.yield (none, ()))).run Try.prog w
   = .ok (if l.all (fun i => f i == g i) then (none, ()) else (some false, ())) w
 | [], _ => by simp
 | i :: l, h => by
  have hi := h i (by simp)
  have ih := eq_loop d f g w l (fun j hj => h j (by simp [hj]))
  have he := run_equalIn_bool (P := Try.prog) w d 4 (f i) (g i) Try.underlying4
  rw [List.forIn_cons]
  simp only [Sem.run_bind, part_tbl _ i hi, Result.andThen_ok, he]
  by_cases hq : f i = g i
  ·
   have h1 : (f i == g i) = true := by simpa using hq
   simp only [h1, Bool.not_true, Bool.false_eq_true, if_false, Sem.run_pure, Result.andThen_ok, List.all_cons, Bool.true_and]
   exact ih
  ·
   have h1 : (f i == g i) = false := by simpa using hq
   simp [h1]
theorem equalIn_tbl (d : Nat) (f g : Nat → Bool) (w : World) : (Op.equalIn (d + 2) 67 (.agg (tbl f)) (.agg (tbl g))).run Try.prog w = .ok ((List.range 256).all (fun i => f i == g i)) w := by
 have hu : Try.prog.underlying 67 = some (.array 256 4) := Try.underlying67
 have hz : ∀ w, (Go.sizeOf 4).run Try.prog w = .ok 1 w := fun _ => by kernel_rfl
 rw [Op.equalIn]
 simp only [Sem.run_bind, run_underlying hu, Result.andThen_ok, hz]
 rw [Std.Legacy.Range.forIn_eq_forIn_range']
 have hl : List.range' ([:256] : Std.Legacy.Range).start ([:256] : Std.Legacy.Range).size ([:256] : Std.Legacy.Range).step = List.range 256 := by rw [List.range_eq_range']; rfl
 rw [hl, eq_loop d f g w (List.range 256) (fun i hi => List.mem_range.1 hi)]
 by_cases hq : (List.range 256).all (fun i => f i == g i) = true
 ·
  rw [if_pos hq, hq]
  simp
 ·
  rw [if_neg hq, Bool.eq_false_iff.mpr hq]
  simp
theorem eql_tbl (f g : Nat → Bool) (w : World) : (binOp .eql 67 (.agg (tbl f)) (.agg (tbl g))).run Try.prog w = .ok (.bool ((List.range 256).all (fun i => f i == g i))) w := by
 rw [run_eql_struct, equalIn_tbl 9998]
 rfl
end Go.Proofs.Yteikgnaikeleaaa

namespace Go.Proofs.Yteikgnaikeleaaa
open Go.RowKit Go.Proofs.YteikgnaikeleaaaW.PrintWords Go.Proofs.YteikgnaikeleaaaW.PrintLast Go.Proofs.YteikgnaikeleaaaW.PrintMore
set_option linter.unusedVariables false

theorem load_tbl {w : World} {g : Nat} {f : Nat → Bool} (h : w.heap[g]? = some (.cells (tbl f) 67 (0, 0))) (m : Nat) : (loadVar 67 ⟨g, 0, none⟩).run Try.prog (w.drewN m) = .ok (.agg (tbl f)) (w.drewN m) :=
 run_loadVar_row _ g 67 67 (tbl f) (0, 0) (.array 256 4) (by exact h) Try.underlying67 rfl (by rw [tbl_size]; kernel_rfl)
theorem exec_load_tbl {w : World} {g : Nat} {f : Nat → Bool} {o : Oper} {a : Act} {x : Operand} (ho : o.op = .load 67 x) (hx : a.eval x = .pointer (some ⟨g, 0, none⟩)) (h : w.heap[g]? = some (.cells (tbl f) 67 (0, 0))) : (execOp a.eval o).run Try.prog w = .ok (.value (.agg (tbl f))) w := by
 have hl := run_loadVar_row (P := Try.prog) w g 67 67 (tbl f) (0, 0) (.array 256 4) h Try.underlying67 rfl (by rw [tbl_size]; kernel_rfl)
 unfold execOp
 simp only [ho, hx, Instr.loadAt, Instr.sureAddr, Sem.run_bind, Sem.run_pure, Result.andThen_ok, hl]
def TwoPost (w : World) (s t : List UInt8) (e : Ending) (w' : World) : Prop :=
 Below w.heap.size w w' ∧ match parseL s, parseL t with
  | some m, some n => ∃ g h, e = .returned (.tuple #[.pointer (some ⟨g, 0, none⟩), .pointer (some ⟨h, 0, none⟩), .int .i64 0]) ∧ w'.heap[g]? = some (.cells (tbl m.f) 67 (0, 0)) ∧ w'.heap[h]? = some (.cells (tbl n.f) 67 (0, 0))
  | _, _ => e = .returned (.tuple #[.pointer none, .pointer none, .int .i64 90])
set_option maxHeartbeats 8000000 in
set_option maxRecDepth 1000000 in
theorem two_calls (s t : List UInt8) (w : World) : Calls Try.prog 70 #[.string (tx s), .string (tx t)] w (TwoPost w s t) := by
 have HP := Aside0.mk (open_ s w)
 have HQ : Aside0 (∀ w, Calls Try.prog 57 #[.string (tx t)] w (OpenPost w t)) := ⟨open_ t⟩
 unfold OpenPost at HP HQ
 cases hc : parseL s with
 | none =>
  rw [hc] at HP
  cases hd : parseL t with
  | none =>
   rw [hd] at HQ
   go_enter Try.func70, Try.ntmps70
   go_wp2_with (first | (go_at_call 57; first | (with_reducible refine HP.out.mono ?_; rintro e W' ⟨hb, rfl⟩; have HB := Aside0.mk hb; clear hb) | (with_reducible refine (HQ.out _).mono ?_; rintro e W2 ⟨hb, rfl⟩; have HB2 := Aside0.mk hb; clear hb)))
   go_ret3
   unfold TwoPost
   rw [hc]
   exact ⟨below_step HB.out HB2.out, rfl⟩
  | some n =>
   rw [hd] at HQ
   go_enter Try.func70, Try.ntmps70
   go_wp2_with (first | (go_at_call 57; first | (with_reducible refine HP.out.mono ?_; rintro e W' ⟨hb, rfl⟩; have HB := Aside0.mk hb; clear hb) | (with_reducible refine (HQ.out _).mono ?_; rintro e W2 ⟨hb, g, hg, rfl, hh⟩; have HB2 := Aside0.mk hb; clear hb)))
   go_ret3
   unfold TwoPost
   rw [hc]
   exact ⟨below_step HB.out HB2.out, rfl⟩
 | some m =>
  rw [hc] at HP
  cases hd : parseL t with
  | none =>
   rw [hd] at HQ
   go_enter Try.func70, Try.ntmps70
   go_wp2_with (first | (go_at_call 57; first | (with_reducible refine HP.out.mono ?_; rintro e W' ⟨hb, g, hg, rfl, hh⟩; have HB := Aside0.mk hb; clear hb) | (with_reducible refine (HQ.out _).mono ?_; rintro e W2 ⟨hb, rfl⟩; have HB2 := Aside0.mk hb; clear hb)))
   go_ret3
   unfold TwoPost
   rw [hc, hd]
   exact ⟨below_step HB.out HB2.out, rfl⟩
  | some n =>
   rw [hd] at HQ
   go_enter Try.func70, Try.ntmps70
   go_wp2_with (first | (go_at_call 57; first | (with_reducible refine HP.out.mono ?_; rintro e W' ⟨hb, g, hg, rfl, hh⟩; have HB := Aside0.mk hb; have HH := Aside0.mk hh; clear hb hh) | (with_reducible refine (HQ.out _).mono ?_; rintro e W2 ⟨hb, g2, hg2, rfl, hh⟩; have HB2 := Aside0.mk hb; have HH2 := Aside0.mk hh; clear hb hh)))
   go_ret3
   unfold TwoPost
   rw [hc, hd]
   exact ⟨below_step HB.out HB2.out, g, g2, rfl, blk_below HH.out HB2.out, HH2.out⟩
def sameF (f g : Nat → Bool) : Bool := (List.range 256).all (fun i => f i == g i)
def sameR (s t : List UInt8) : Bool × Int := match parseL s, parseL t with | some m, some n => (sameF m.f n.f, 0) | _, _ => (false, 90)
set_option maxHeartbeats 8000000 in
set_option maxRecDepth 1000000 in
theorem same_calls (s t : List UInt8) (w : World) : Calls Try.prog 29 #[.string (tx s), .string (tx t)] w fun e w' => e = .returned (.tuple #[.bool (sameR s t).1, .int .i64 (sameR s t).2]) ∧ Below w.heap.size w w' := by
 have HP := Aside0.mk (two_calls s t w)
 unfold TwoPost at HP
 unfold sameR
 have bad : (match parseL s, parseL t with | some m, some n => False | _, _ => True) → Calls Try.prog 70 #[.string (tx s), .string (tx t)] w (fun e w' => e = .returned (.tuple #[.pointer none, .pointer none, .int .i64 90]) ∧ Below w.heap.size w w') → Calls Try.prog 29 #[.string (tx s), .string (tx t)] w fun e w' => e = .returned (.tuple #[.bool false, .int .i64 90]) ∧ Below w.heap.size w w' := by
  intro _ hq
  have HQ := Aside0.mk hq
  clear hq HP
  go_enter Try.func29, Try.ntmps29
  go_wp2_with (first | (go_at_call 70; refine HQ.out.mono ?_; rintro e W' ⟨rfl, hb⟩; have HB := Aside0.mk hb; clear hb))
  go_quiet (fail)
  go_wp2
  go_ret2
  exact ⟨rfl, pw_below_drewN HB.out _⟩
 cases hc : parseL s with
 | none =>
  rw [hc] at HP bad
  exact bad trivial (HP.out.mono (by rintro e w' ⟨hb, rfl⟩; exact ⟨rfl, hb⟩))
 | some m =>
  cases hd : parseL t with
  | none =>
   rw [hc, hd] at HP bad
   exact bad trivial (HP.out.mono (by rintro e w' ⟨hb, rfl⟩; exact ⟨rfl, hb⟩))
  | some n =>
   rw [hc, hd] at HP
   clear bad
   have he : ∀ w, (binOp .eql 67 (.agg (tbl m.f)) (.agg (tbl n.f))).run Try.prog w = _ := fun w => eql_tbl m.f n.f w
   simp only [sameF]
   generalize (List.range 256).all (fun i => m.f i == n.f i) = b at he
   go_enter Try.func29, Try.ntmps29
   go_wp2_with (first | (go_at_call 70; refine HP.out.mono ?_; rintro e W' ⟨hb, g, g2, rfl, hh, hh2⟩; have HB := Aside0.mk hb; have HH := Aside0.mk hh; have HH2 := Aside0.mk hh2; clear hb hh hh2))
   refine start_ (n := 14) (S := fun w' => w'.heap[g]? = some (.cells (tbl m.f) 67 (0, 0)) ∧ w'.heap[g2]? = some (.cells (tbl n.f) 67 (0, 0))) (ds := []) #[false, false, false, false, false, false, false, false, false, false, false, false, false, false] (by kernel_rfl) rfl rfl ⟨blk_drew HH.out, blk_drew HH2.out⟩ (fun hHeld => ?_)
   refine pst (i := 0) (N := some 16) (bz 14 1) (by kernel_rfl) ?_
   refine pst (i := 1) (N := some 17) (bz 14 3) (by kernel_rfl) ?_
   refine pst (i := 2) (N := some 18) (bz 14 7) (by kernel_rfl) ?_
   refine pst (i := 3) (N := some 19) (bz 14 15) (by kernel_rfl) ?_
   refine pst (i := 4) (N := some 20) (bz 14 31) (by kernel_rfl) ?_
   refine tst2 (i := 5) (N := some 21) (v := .agg (tbl m.f)) (bz 14 63) (by kernel_rfl) hHeld ?_ (hy := Or.inl ⟨by rfl, fun w' hw => exec_load_tbl rfl rfl hw.1⟩)
   refine pst (i := 6) (N := some 22) (bz 14 127) (by kernel_rfl) ?_
   refine pst (i := 7) (N := some 23) (bz 14 255) (by kernel_rfl) ?_
   refine tst2 (i := 8) (N := some 24) (v := .agg (tbl n.f)) (bz 14 511) (by kernel_rfl) hHeld ?_ (hy := Or.inl ⟨by rfl, fun w' hw => exec_load_tbl rfl rfl hw.2⟩)
   refine pst (i := 9) (N := some 25) (bz 14 1023) (by kernel_rfl) ?_
   refine pst (i := 10) (N := some 26) (bz 14 2047) (by kernel_rfl) ?_
   refine pst (i := 11) (N := some 27) (bz 14 4095) (by kernel_rfl) ?_
   refine pst (i := 12) (N := some 4) (bz 14 8191) (by kernel_rfl) ?_
   refine pst (i := 13) (N := some 5) (bz 14 16383) (by kernel_rfl) ?_
   refine done_ (by kernel_rfl) ?_
   go_wp2
   go_ret2
   exact ⟨rfl, below_drew1 HB.out⟩
end Go.Proofs.Yteikgnaikeleaaa

namespace Go.Proofs.Yteikgnaikeleaaa
open Go.RowKit Go.Proofs.YteikgnaikeleaaaW.PrintWords Go.Proofs.YteikgnaikeleaaaW.PrintLast Go.Proofs.YteikgnaikeleaaaW.PrintMore
set_option linter.unusedVariables false

set_option maxHeartbeats 8000000 in
set_option maxRecDepth 1000000 in
theorem ones64_calls (n : Nat) (hn : n < 256) (w : World) : Calls Try.prog 100 #[.int .u64 n] w fun e w' => e = .returned (.int .i64 (sizeN n)) ∧ w' = w := by
 go_enter Try.func100, Try.ntmps100
 go_wp2
 go_ret
 refine ⟨congrArg (fun z => Ending.returned (Value.int .i64 z)) ?_, rfl⟩
 clear w
 revert hn
 revert n
 decide +kernel
set_option maxHeartbeats 8000000 in
set_option maxRecDepth 1000000 in
theorem ones_calls (n : Nat) (hn : n < 256) (w : World) : Calls Try.prog 73 #[.int .u64 n] w fun e w' => e = .returned (.int .i64 (sizeN n)) ∧ w' = w := by
 have HO := Aside0.mk (ones64_calls n hn w)
 go_enter Try.func73, Try.ntmps73
 go_wp2_with (go_at_call 100; refine HO.out.mono ?_; rintro e w' ⟨rfl, hw⟩; rw [hw]; clear hw w')
 go_ret
 exact ⟨rfl, rfl⟩
end Go.Proofs.Yteikgnaikeleaaa
