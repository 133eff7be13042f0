-- Written by wip/pack.py of this repo: texts of this claim, put together.
import Derived.Shelf.Strings.Builder1
import Derived.Shelf.Strings.Builder2
import Derived.Shelf.Strings.OnBuilder
import Derived.Shelf.Small.Bits
import Derived.Shelf.Small.Wraps
import Derived.Shelf.Strings.BuilderF
import Derived.Shelf.Strings.BuilderK
import Derived.Shelf.Strings.Builder2Cap
import Derived.Shelf.Strconv.Atoi
import Derived.Shelf.Strconv.Itoa0
import Derived.Shelf.Strconv.Itoa1
import Derived.Shelf.LaysM
import Derived.Shelf.Strconv.Itoa2
import Derived.Shelf.Strconv.Itoa3
import Derived.Shelf.Strconv.AtoiErrFast
import Derived.Shelf.Strconv.ParseIntEmpty
import Derived.Shelf.Strconv.AtoiFail
import Derived.Shelf.Strconv.Clone
import Derived.Shelf.Strconv.SyntaxError
import Derived.Shelf.LaysC
import Derived.Shelf.Strconv.ToError
import Derived.Shelf.Strconv.Lower
import Derived.Shelf.Strconv.ParseUint10
import Derived.Shelf.Strconv.ParseUint10Empty
import Derived.Shelf.Strconv.ParseUint10Any
import Derived.Shelf.Strconv.ParseInt10
import Derived.Shelf.Strconv.AtoiLong
import Derived.Shelf.Strconv.AtoiInnerAll
import Derived.Shelf.Strconv.RangeError
import Derived.Shelf.Strconv.ToErrorRange
import Derived.Shelf.Strconv.AtoiAll
import Derived.Shelf.Strconv.ErrVarAll
import Derived.Shelf.Strconv.ParseUintEmpty
import Derived.Shelf.Strconv.ParseUint10b64
import Derived.Shelf.Strconv.ParseUint10b32
import Derived.Shelf.Strconv.ParseUint10b16
import Derived.Shelf.Strconv.ParseUint10b8
import Derived.Shelf.Strings.Search1
import Derived.Shelf.Strings.Search2
import Derived.Shelf.Strings.Search3
import Derived.Shelf.Strings.Cut
import Derived.Shelf.Strings.Shaped
import Derived.Shelf.Unicode.Decode
import Derived.Shelf.Unicode.DecodeSlow
import Derived.Shelf.Unicode.DecodeAny
import Derived.Shelf.Strings.BuilderCap
import Derived.Ground.Names2Prog
import Derived.Shelf.Slices.SearchI
import Derived.Test.YtcmdcgghpkcchaaGreatDoorProg
import Derived.Lib.SmallJoins
import Derived.Lib.ItoaNum
import Derived.StillTailTactics
import Derived.Below
import Derived.Deep.Draws
import Derived.Deep.AppendLies
import Derived.Maps.AppendAt
import Derived.OwnWalk
import Derived.Laws.BytesArg
import Derived.Laws.MakeOwn
import Derived.Laws.OwnMore
import Derived.Deep.OwnRows
import Derived.Tactics
import Derived.Lib.ConvBytes
import Derived.Laws.Slices
import Derived.WalkKit
import Derived.KernelRfl
import Derived.RowKit3
import Derived.Deep.LoopGhost
import Derived.Deep.QuietTactic
import Derived.BigQuiet
import Derived.WideLaws
import Derived.Deep.DeepCutAuto
import Derived.Deep.CutBlock
import Derived.Deep.RegionHeld3
import Derived.Laws.Rows
import Derived.Lib.AppendStr
import Derived.ArgAppend
import Derived.Laws.IdiomCopy
import Derived.OrdersHeld
import Derived.Laws.BitsLemmas
import Derived.RowKit
import Derived.Laws.CopyOwn
import Derived.Test.YtcmdcgghpkcchaaGreatDoorKMastZa
/-
 DERIVED: THE SHELF's CONTRACTS AT THIS DUMP, IN PLAIN WORDS (tools/lay-plain.mjs out of 'YtcmdcgghpkcchaaGreatDoorShelf.lean', which tools/lay-shelf.mjs wrote): THE SAME DECLARATIONS UNDER THE SAME NAMES: 'import', 'namespace', 'open', 'def', 'theorem' AND NOTHING ELSE: no command of the shelf's: FOR A HAND-IN. Each laying: the table of numbers ('.._ren') and one theorem, a field a fact of the dump's own or the kernel's comparison; each contract: ONE APPLICATION.
-/
namespace Go.Proofs
open Go.Shelf
def Tryz.lays169_ren : Go.Shelf.Ren := ⟨fun | 169 => 42 | n => n, fun | 70 => 59 | 9 => 9 | 0 => 0 | 72 => 62 | 37 => 60 | 127 => 80 | 3 => 3 | 5 => 5 | n => n, fun | n => n⟩
theorem Tryz.lays169 : Go.Proofs.Lays.n169 Tryz.prog Tryz.lays169_ren := {
 mixed := by kernel_rfl
 f169 := Tryz.func42.trans (congrArg some (by kernel_rfl))
 t0 := Tryz.underlying0
 a0 := Tryz.isAgg0
 z0 := Tryz.sizeOf0
 v0 := Tryz.zeroValue0
 t3 := Tryz.underlying3
 a3 := Tryz.isAgg3
 z3 := Tryz.sizeOf3
 v3 := Tryz.zeroValue3
 t9 := Tryz.underlying9
 a9 := Tryz.isAgg9
 z9 := Tryz.sizeOf9
 v9 := Tryz.zeroValue9
 t37 := Tryz.underlying60
 a37 := Tryz.isAgg60
 z37 := Tryz.sizeOf60
 v37 := Tryz.zeroValue60
 t70 := Tryz.underlying59
 a70 := Tryz.isAgg59
 z70 := Tryz.sizeOf59
 v70 := Tryz.zeroValue59
 t72 := Tryz.underlying62
 a72 := Tryz.isAgg62
 z72 := Tryz.sizeOf62
 v72 := Tryz.zeroValue62
 t127 := Tryz.underlying80
 a127 := Tryz.isAgg80
 z127 := Tryz.sizeOf80
 v127 := Tryz.zeroValue80 }
theorem Tryz.Builder_Extra_169 : Builder.Extra Tryz.prog Tryz.lays169_ren := {
 sizeBuilder := by kernel_rfl
 liesBuilder := by kernel_rfl
 t5 := Tryz.underlying5
 a5 := Tryz.isAgg5
 z5 := Tryz.sizeOf5
 v5 := Tryz.zeroValue5
 infoByte := by kernel_rfl
 cellsByte := by kernel_rfl
 sizeByte := by kernel_rfl
 neB5 := by decide }
open Go.RowKit in
theorem Tryz.Builder_String (B b : Nat) (l : List UInt8) (w : World) (h : Lib.IsBuilder 62 5 B b (Lib.byteCells l) w) (h0 : l ≠ []) :
  Calls Tryz.prog 42 #[.pointer (some ⟨b, 0, none⟩)] w fun e w' => e = .returned (.string ⟨l.toArray⟩) ∧ Below B w w' := Any.Builder_String Tryz.lays169 Tryz.Builder_Extra_169 B b l w h h0
open Go.RowKit in
theorem Tryz.Builder_String_empty (B b : Nat) (w : World) (h : Lib.IsBuilder 62 5 B b [] w) (hBw : B ≤ w.heap.size) :
  Calls Tryz.prog 42 #[.pointer (some ⟨b, 0, none⟩)] w fun e w' => e = .returned (.string ⟨#[]⟩) ∧ Below B w w' := Any.Builder_String_empty Tryz.lays169 Tryz.Builder_Extra_169 B b w h hBw
open Go.RowKit in
theorem Tryz.Builder_String_any (B b : Nat) (l : List UInt8) (w : World) (h : Lib.IsBuilder 62 5 B b (Lib.byteCells l) w) (hBw : B ≤ w.heap.size) :
  Calls Tryz.prog 42 #[.pointer (some ⟨b, 0, none⟩)] w fun e w' => e = .returned (.string ⟨l.toArray⟩) ∧ Below B w w' := Any.Builder_String_any Tryz.lays169 Tryz.Builder_Extra_169 B b l w h hBw
def Tryz.lays241_ren : Go.Shelf.Ren := ⟨fun | 241 => 58 | 277 => 78 | n => n, fun | 70 => 59 | 3 => 3 | 0 => 0 | 72 => 62 | 37 => 60 | 5 => 5 | n => n, fun | n => n⟩
theorem Tryz.lays241 : Go.Proofs.Lays.n241 Tryz.prog Tryz.lays241_ren := {
 mixed := by kernel_rfl
 f241 := Tryz.func58.trans (congrArg some (by kernel_rfl))
 f277 := Tryz.func78.trans (congrArg some (by kernel_rfl))
 t0 := Tryz.underlying0
 a0 := Tryz.isAgg0
 z0 := Tryz.sizeOf0
 v0 := Tryz.zeroValue0
 t3 := Tryz.underlying3
 a3 := Tryz.isAgg3
 z3 := Tryz.sizeOf3
 v3 := Tryz.zeroValue3
 t37 := Tryz.underlying60
 a37 := Tryz.isAgg60
 z37 := Tryz.sizeOf60
 v37 := Tryz.zeroValue60
 t70 := Tryz.underlying59
 a70 := Tryz.isAgg59
 z70 := Tryz.sizeOf59
 v70 := Tryz.zeroValue59
 t72 := Tryz.underlying62
 a72 := Tryz.isAgg62
 z72 := Tryz.sizeOf62
 v72 := Tryz.zeroValue62 }
theorem Tryz.Builder_Extra_241 : Builder.Extra Tryz.prog Tryz.lays241_ren := {
 sizeBuilder := by kernel_rfl
 liesBuilder := by kernel_rfl
 t5 := Tryz.underlying5
 a5 := Tryz.isAgg5
 z5 := Tryz.sizeOf5
 v5 := Tryz.zeroValue5
 infoByte := by kernel_rfl
 cellsByte := by kernel_rfl
 sizeByte := by kernel_rfl
 neB5 := by decide }
open Go.RowKit in
theorem Tryz.Builder_grow_fresh (B b n : Nat) (w : World) (hB : B ≤ b) (hbk : w.heap[b]? = some (.cells #[.pointer (some ⟨b, 0, none⟩), .slice none 0 0] 62 (0, 0))) (hBw : B ≤ w.heap.size) (hn : n ≤ 281474976710656) :
  Calls Tryz.prog 58 #[.pointer (some ⟨b, 0, none⟩), .int .i64 n] w fun e w' => e = .returned (.tuple #[]) ∧ (Lib.BuilderAt 62 5 B b (.pointer (some ⟨b, 0, none⟩)) [] w' ∧ Below B w w') := Any.Builder_grow_fresh Tryz.lays241 Tryz.Builder_Extra_241 B b n w hB hbk hBw hn
def Tryz.lays165_ren : Go.Shelf.Ren := ⟨fun | 165 => 40 | 240 => 57 | 241 => 58 | 276 => 77 | 277 => 78 | n => n, fun | 70 => 59 | 3 => 3 | 0 => 0 | 4 => 4 | 9 => 9 | 20 => 20 | 72 => 62 | 37 => 60 | 164 => 100 | 5 => 5 | n => n, fun | n => n⟩
theorem Tryz.lays165 : Go.Proofs.Lays.n165 Tryz.prog Tryz.lays165_ren := {
 mixed := by kernel_rfl
 f165 := Tryz.func40.trans (congrArg some (by kernel_rfl))
 f240 := Tryz.func57.trans (congrArg some (by kernel_rfl))
 f241 := Tryz.func58.trans (congrArg some (by kernel_rfl))
 f276 := Tryz.func77.trans (congrArg some (by kernel_rfl))
 f277 := Tryz.func78.trans (congrArg some (by kernel_rfl))
 t0 := Tryz.underlying0
 a0 := Tryz.isAgg0
 z0 := Tryz.sizeOf0
 v0 := Tryz.zeroValue0
 t3 := Tryz.underlying3
 a3 := Tryz.isAgg3
 z3 := Tryz.sizeOf3
 v3 := Tryz.zeroValue3
 t4 := Tryz.underlying4
 a4 := Tryz.isAgg4
 z4 := Tryz.sizeOf4
 v4 := Tryz.zeroValue4
 t9 := Tryz.underlying9
 a9 := Tryz.isAgg9
 z9 := Tryz.sizeOf9
 v9 := Tryz.zeroValue9
 t20 := Tryz.underlying20
 a20 := Tryz.isAgg20
 z20 := Tryz.sizeOf20
 v20 := Tryz.zeroValue20
 t37 := Tryz.underlying60
 a37 := Tryz.isAgg60
 z37 := Tryz.sizeOf60
 v37 := Tryz.zeroValue60
 t70 := Tryz.underlying59
 a70 := Tryz.isAgg59
 z70 := Tryz.sizeOf59
 v70 := Tryz.zeroValue59
 t72 := Tryz.underlying62
 a72 := Tryz.isAgg62
 z72 := Tryz.sizeOf62
 v72 := Tryz.zeroValue62
 t164 := Tryz.underlying100
 a164 := Tryz.isAgg100
 z164 := Tryz.sizeOf100
 v164 := Tryz.zeroValue100 }
theorem Tryz.Builder_Extra_165 : Builder.Extra Tryz.prog Tryz.lays165_ren := {
 sizeBuilder := by kernel_rfl
 liesBuilder := by kernel_rfl
 t5 := Tryz.underlying5
 a5 := Tryz.isAgg5
 z5 := Tryz.sizeOf5
 v5 := Tryz.zeroValue5
 infoByte := by kernel_rfl
 cellsByte := by kernel_rfl
 sizeByte := by kernel_rfl
 neB5 := by decide }
open Go.RowKit in
theorem Tryz.Builder_Grow_fresh (B b n : Nat) (w : World) (hB : B ≤ b) (hbk : w.heap[b]? = some (.cells #[.pointer none, .slice none 0 0] 62 (0, 0))) (hBw : B ≤ w.heap.size) (hn : n ≤ 281474976710656) :
  Calls Tryz.prog 40 #[.pointer (some ⟨b, 0, none⟩), .int .i64 n] w fun e w' => e = .returned (.tuple #[]) ∧ (Lib.BuilderAt 62 5 B b (.pointer (some ⟨b, 0, none⟩)) [] w' ∧ Below B w w') := Any.Builder_Grow_fresh Tryz.lays165 Tryz.Builder_Extra_165 B b n w hB hbk hBw hn
def Tryz.lays156_ren : Go.Shelf.Ren := ⟨fun | 156 => 27 | 165 => 40 | 166 => 41 | 169 => 42 | 240 => 57 | 241 => 58 | 276 => 77 | 277 => 78 | n => n, fun | 31 => 48 | 9 => 9 | 3 => 3 | 4 => 4 | 0 => 0 | 20 => 20 | 72 => 62 | 76 => 46 | 70 => 59 | 37 => 60 | 75 => 45 | 127 => 80 | 164 => 100 | 5 => 5 | 80 => 64 | n => n, fun | n => n⟩
theorem Tryz.lays156 : Go.Proofs.Lays.n156 Tryz.prog Tryz.lays156_ren := {
 mixed := by kernel_rfl
 f156 := Tryz.func27.trans (congrArg some (by kernel_rfl))
 f165 := Tryz.func40.trans (congrArg some (by kernel_rfl))
 f166 := Tryz.func41.trans (congrArg some (by kernel_rfl))
 f169 := Tryz.func42.trans (congrArg some (by kernel_rfl))
 f240 := Tryz.func57.trans (congrArg some (by kernel_rfl))
 f241 := Tryz.func58.trans (congrArg some (by kernel_rfl))
 f276 := Tryz.func77.trans (congrArg some (by kernel_rfl))
 f277 := Tryz.func78.trans (congrArg some (by kernel_rfl))
 t0 := Tryz.underlying0
 a0 := Tryz.isAgg0
 z0 := Tryz.sizeOf0
 v0 := Tryz.zeroValue0
 t3 := Tryz.underlying3
 a3 := Tryz.isAgg3
 z3 := Tryz.sizeOf3
 v3 := Tryz.zeroValue3
 t4 := Tryz.underlying4
 a4 := Tryz.isAgg4
 z4 := Tryz.sizeOf4
 v4 := Tryz.zeroValue4
 t9 := Tryz.underlying9
 a9 := Tryz.isAgg9
 z9 := Tryz.sizeOf9
 v9 := Tryz.zeroValue9
 t20 := Tryz.underlying20
 a20 := Tryz.isAgg20
 z20 := Tryz.sizeOf20
 v20 := Tryz.zeroValue20
 t31 := Tryz.underlying48
 a31 := Tryz.isAgg48
 z31 := Tryz.sizeOf48
 v31 := Tryz.zeroValue48
 t37 := Tryz.underlying60
 a37 := Tryz.isAgg60
 z37 := Tryz.sizeOf60
 v37 := Tryz.zeroValue60
 t70 := Tryz.underlying59
 a70 := Tryz.isAgg59
 z70 := Tryz.sizeOf59
 v70 := Tryz.zeroValue59
 t72 := Tryz.underlying62
 a72 := Tryz.isAgg62
 z72 := Tryz.sizeOf62
 v72 := Tryz.zeroValue62
 t75 := Tryz.underlying45
 a75 := Tryz.isAgg45
 z75 := Tryz.sizeOf45
 v75 := Tryz.zeroValue45
 t76 := Tryz.underlying46
 a76 := Tryz.isAgg46
 z76 := Tryz.sizeOf46
 v76 := Tryz.zeroValue46
 t127 := Tryz.underlying80
 a127 := Tryz.isAgg80
 z127 := Tryz.sizeOf80
 v127 := Tryz.zeroValue80
 t164 := Tryz.underlying100
 a164 := Tryz.isAgg100
 z164 := Tryz.sizeOf100
 v164 := Tryz.zeroValue100 }
theorem Tryz.Builder_Extra_156 : Builder.Extra Tryz.prog Tryz.lays156_ren := {
 sizeBuilder := by kernel_rfl
 liesBuilder := by kernel_rfl
 t5 := Tryz.underlying5
 a5 := Tryz.isAgg5
 z5 := Tryz.sizeOf5
 v5 := Tryz.zeroValue5
 infoByte := by kernel_rfl
 cellsByte := by kernel_rfl
 sizeByte := by kernel_rfl
 neB5 := by decide }
open Go.RowKit in
theorem Tryz.strings_Join_none (a : Option Addr) (c : Nat) (sep : ByteArray) (w : World) :
  Calls Tryz.prog 27 #[.slice a 0 c, .string sep] w fun e w' => e = .returned (.string ⟨#[]⟩) ∧ w' = w := Any.strings_Join_none Tryz.lays156 Tryz.Builder_Extra_156 a c sep w
open Go.RowKit in
theorem Tryz.strings_Join (bk o c : Nat) (xs : List ByteArray) (sep : ByteArray) (w : World) (hcells : ∀ (j : Nat) x, xs[j]? = some x → w.cell? ⟨bk, o + j, none⟩ = some (.string x)) (hbk : bk < w.heap.size) (hN : xs.length ≤ 140737488355328) (hcap : xs.length ≤ c) (hlen : (Lib.join (xs.map (·.data.toList)) sep.data.toList).length ≤ 140737488355328) :
  Calls Tryz.prog 27 #[.slice (some ⟨bk, o, none⟩) xs.length c, .string sep] w fun e w' => e = .returned (.string ⟨(Lib.join (xs.map (·.data.toList)) sep.data.toList).toArray⟩) ∧ Below w.heap.size w w' := Any.strings_Join Tryz.lays156 Tryz.Builder_Extra_156 bk o c xs sep w hcells hbk hN hcap hlen
def Tryz.lays128_ren : Go.Shelf.Ren := ⟨fun | 128 => 102 | n => n, fun | 51 => 112 | 3 => 3 | 4 => 4 | 46 => 89 | 5 => 5 | 9 => 9 | n => n, fun | n => n⟩
theorem Tryz.lays128 : Go.Proofs.Lays.n128 Tryz.prog Tryz.lays128_ren := {
 mixed := by kernel_rfl
 f128 := Tryz.func102.trans (congrArg some (by kernel_rfl))
 t3 := Tryz.underlying3
 a3 := Tryz.isAgg3
 z3 := Tryz.sizeOf3
 v3 := Tryz.zeroValue3
 t4 := Tryz.underlying4
 a4 := Tryz.isAgg4
 z4 := Tryz.sizeOf4
 v4 := Tryz.zeroValue4
 t5 := Tryz.underlying5
 a5 := Tryz.isAgg5
 z5 := Tryz.sizeOf5
 v5 := Tryz.zeroValue5
 t9 := Tryz.underlying9
 a9 := Tryz.isAgg9
 z9 := Tryz.sizeOf9
 v9 := Tryz.zeroValue9
 t46 := Tryz.underlying89
 a46 := Tryz.isAgg89
 z46 := Tryz.sizeOf89
 v46 := Tryz.zeroValue89
 t51 := Tryz.underlying112
 a51 := Tryz.isAgg112
 z51 := Tryz.sizeOf112
 v51 := Tryz.zeroValue112 }
theorem Tryz.bits_Len32 (x : Int) (w : World) (h0 : 0 ≤ x) (h1 : x ≤ 4294967295) :
  Calls Tryz.prog 102 #[.int .u32 x] w fun e w' => e = .returned (.int .i64 (Lib.bitLen x.toNat)) ∧ w' = w := Any.bits_Len32 Tryz.lays128 x w h0 h1
def Tryz.lays125_ren : Go.Shelf.Ren := ⟨fun | 125 => 84 | 128 => 102 | 129 => 103 | n => n, fun | 46 => 89 | 3 => 3 | 51 => 112 | 53 => 93 | 4 => 4 | 5 => 5 | 9 => 9 | n => n, fun | n => n⟩
theorem Tryz.lays125 : Go.Proofs.Lays.n125 Tryz.prog Tryz.lays125_ren := {
 mixed := by kernel_rfl
 f125 := Tryz.func84.trans (congrArg some (by kernel_rfl))
 f128 := Tryz.func102.trans (congrArg some (by kernel_rfl))
 f129 := Tryz.func103.trans (congrArg some (by kernel_rfl))
 t3 := Tryz.underlying3
 a3 := Tryz.isAgg3
 z3 := Tryz.sizeOf3
 v3 := Tryz.zeroValue3
 t4 := Tryz.underlying4
 a4 := Tryz.isAgg4
 z4 := Tryz.sizeOf4
 v4 := Tryz.zeroValue4
 t5 := Tryz.underlying5
 a5 := Tryz.isAgg5
 z5 := Tryz.sizeOf5
 v5 := Tryz.zeroValue5
 t9 := Tryz.underlying9
 a9 := Tryz.isAgg9
 z9 := Tryz.sizeOf9
 v9 := Tryz.zeroValue9
 t46 := Tryz.underlying89
 a46 := Tryz.isAgg89
 z46 := Tryz.sizeOf89
 v46 := Tryz.zeroValue89
 t51 := Tryz.underlying112
 a51 := Tryz.isAgg112
 z51 := Tryz.sizeOf112
 v51 := Tryz.zeroValue112
 t53 := Tryz.underlying93
 a53 := Tryz.isAgg93
 z53 := Tryz.sizeOf93
 v53 := Tryz.zeroValue93 }
theorem Tryz.bits_Len (x : Int) (w : World) (h0 : 0 ≤ x) (h1 : x ≤ 18446744073709551615) :
  Calls Tryz.prog 84 #[.int .u64 x] w fun e w' => e = .returned (.int .i64 (Lib.bitLen x.toNat)) ∧ w' = w := Any.bits_Len Tryz.lays125 x w h0 h1
def Tryz.lays215_ren : Go.Shelf.Ren := ⟨fun | 215 => 82 | n => n, fun | 3 => 3 | 4 => 4 | n => n, fun | n => n⟩
theorem Tryz.lays215 : Go.Proofs.Lays.n215 Tryz.prog Tryz.lays215_ren := {
 mixed := by kernel_rfl
 f215 := Tryz.func82.trans (congrArg some (by kernel_rfl))
 t3 := Tryz.underlying3
 a3 := Tryz.isAgg3
 z3 := Tryz.sizeOf3
 v3 := Tryz.zeroValue3
 t4 := Tryz.underlying4
 a4 := Tryz.isAgg4
 z4 := Tryz.sizeOf4
 v4 := Tryz.zeroValue4 }
open Go.RowKit in
theorem Tryz.cmp_isNaN_int (x : Int) (w : World) :
  Calls Tryz.prog 82 #[.int .i64 x] w fun e w' => e = .returned (.bool false) ∧ w' = w := Any.cmp_isNaN_int Tryz.lays215 x w
def Tryz.lays122_ren : Go.Shelf.Ren := ⟨fun | 122 => 66 | 215 => 82 | n => n, fun | 3 => 3 | 4 => 4 | n => n, fun | n => n⟩
theorem Tryz.lays122 : Go.Proofs.Lays.n122 Tryz.prog Tryz.lays122_ren := {
 mixed := by kernel_rfl
 f122 := Tryz.func66.trans (congrArg some (by kernel_rfl))
 f215 := Tryz.func82.trans (congrArg some (by kernel_rfl))
 t3 := Tryz.underlying3
 a3 := Tryz.isAgg3
 z3 := Tryz.sizeOf3
 v3 := Tryz.zeroValue3
 t4 := Tryz.underlying4
 a4 := Tryz.isAgg4
 z4 := Tryz.sizeOf4
 v4 := Tryz.zeroValue4 }
open Go.RowKit in
theorem Tryz.cmp_Compare_int (x y : Int) (w : World) :
  Calls Tryz.prog 66 #[.int .i64 x, .int .i64 y] w fun e w' => e = .returned (.int .i64 (Lib.compareInt x y)) ∧ w' = w := Any.cmp_Compare_int Tryz.lays122 x y w
open Go.RowKit in
theorem Tryz.Builder_String_f (B b : Nat) (l : List UInt8) (w : World) (h : Lib.IsBuilderF 62 5 B b (Lib.byteCells l) w) (h0 : l ≠ []) :
  Calls Tryz.prog 42 #[.pointer (some ⟨b, 0, none⟩)] w fun e w' => e = .returned (.string ⟨l.toArray⟩) ∧ (Lib.IsBuilderF 62 5 B b (Lib.byteCells l) w' ∧ Below B w w') := Any.Builder_String_f Tryz.lays169 Tryz.Builder_Extra_169 B b l w h h0
open Go.RowKit in
theorem Tryz.Builder_String_empty_f (B b : Nat) (w : World) (h : Lib.IsBuilderF 62 5 B b [] w) (hBw : B ≤ w.heap.size) :
  Calls Tryz.prog 42 #[.pointer (some ⟨b, 0, none⟩)] w fun e w' => e = .returned (.string ⟨#[]⟩) ∧ (Lib.IsBuilderF 62 5 B b [] w' ∧ Below B w w') := Any.Builder_String_empty_f Tryz.lays169 Tryz.Builder_Extra_169 B b w h hBw
open Go.RowKit in
theorem Tryz.Builder_String_any_f (B b : Nat) (l : List UInt8) (w : World) (h : Lib.IsBuilderF 62 5 B b (Lib.byteCells l) w) (hBw : B ≤ w.heap.size) :
  Calls Tryz.prog 42 #[.pointer (some ⟨b, 0, none⟩)] w fun e w' => e = .returned (.string ⟨l.toArray⟩) ∧ (Lib.IsBuilderF 62 5 B b (Lib.byteCells l) w' ∧ Below B w w') := Any.Builder_String_any_f Tryz.lays169 Tryz.Builder_Extra_169 B b l w h hBw
open Go.RowKit in
theorem Tryz.Builder_String_k (B b : Nat) (l : List UInt8) (w : World) (h : Lib.IsBuilderF 62 5 B b (Lib.byteCells l) w) (h0 : l ≠ []) :
  Calls Tryz.prog 42 #[.pointer (some ⟨b, 0, none⟩)] w fun e w' => e = .returned (.string ⟨l.toArray⟩) ∧ (Lib.IsBuilderF 62 5 B b (Lib.byteCells l) w' ∧ Below B w w' ∧ Lib.OthersKept 5 (some b) w w') := Any.Builder_String_k Tryz.lays169 Tryz.Builder_Extra_169 B b l w h h0
open Go.RowKit in
theorem Tryz.Builder_String_empty_k (B b : Nat) (w : World) (h : Lib.IsBuilderF 62 5 B b [] w) (hBw : B ≤ w.heap.size) :
  Calls Tryz.prog 42 #[.pointer (some ⟨b, 0, none⟩)] w fun e w' => e = .returned (.string ⟨#[]⟩) ∧ (Lib.IsBuilderF 62 5 B b [] w' ∧ Below B w w' ∧ Lib.OthersKept 5 (some b) w w') := Any.Builder_String_empty_k Tryz.lays169 Tryz.Builder_Extra_169 B b w h hBw
open Go.RowKit in
theorem Tryz.Builder_String_any_k (B b : Nat) (l : List UInt8) (w : World) (h : Lib.IsBuilderF 62 5 B b (Lib.byteCells l) w) (hBw : B ≤ w.heap.size) :
  Calls Tryz.prog 42 #[.pointer (some ⟨b, 0, none⟩)] w fun e w' => e = .returned (.string ⟨l.toArray⟩) ∧ (Lib.IsBuilderF 62 5 B b (Lib.byteCells l) w' ∧ Below B w w' ∧ Lib.OthersKept 5 (some b) w w') := Any.Builder_String_any_k Tryz.lays169 Tryz.Builder_Extra_169 B b l w h hBw
open Go.RowKit in
theorem Tryz.Builder_grow_fresh_cap (B b n : Nat) (w : World) (hB : B ≤ b) (hbk : w.heap[b]? = some (.cells #[.pointer (some ⟨b, 0, none⟩), .slice none 0 0] 62 (0, 0))) (hBw : B ≤ w.heap.size) (hn : n ≤ 281474976710656) :
  Calls Tryz.prog 58 #[.pointer (some ⟨b, 0, none⟩), .int .i64 n] w fun e w' => e = .returned (.tuple #[]) ∧ (Lib.BuilderAt 62 5 B b (.pointer (some ⟨b, 0, none⟩)) [] w' ∧ Below B w w') ∧ ∃ p cap, w'.cell? ⟨b, 1, none⟩ = some (.slice p 0 cap) ∧ n ≤ cap := Any.Builder_grow_fresh_cap Tryz.lays241 Tryz.Builder_Extra_241 B b n w hB hbk hBw hn
open Go.RowKit in
theorem Tryz.Builder_Grow_fresh_cap (B b n : Nat) (w : World) (hB : B ≤ b) (hbk : w.heap[b]? = some (.cells #[.pointer none, .slice none 0 0] 62 (0, 0))) (hBw : B ≤ w.heap.size) (hn : n ≤ 281474976710656) :
  Calls Tryz.prog 40 #[.pointer (some ⟨b, 0, none⟩), .int .i64 n] w fun e w' => e = .returned (.tuple #[]) ∧ (Lib.BuilderAt 62 5 B b (.pointer (some ⟨b, 0, none⟩)) [] w' ∧ Below B w w') ∧ ∃ p cap, w'.cell? ⟨b, 1, none⟩ = some (.slice p 0 cap) ∧ n ≤ cap := Any.Builder_Grow_fresh_cap Tryz.lays165 Tryz.Builder_Extra_165 B b n w hB hbk hBw hn
def Tryz.lays244_ren : Go.Shelf.Ren := ⟨fun | 244 => 38 | 247 => 52 | 287 => 74 | 321 => 91 | 322 => 92 | n => n, fun | 9 => 9 | 3 => 3 | 75 => 45 | 4 => 4 | 5 => 5 | 167 => 74 | 37 => 60 | 0 => 0 | 85 => 75 | 2 => 2 | 53 => 93 | 175 => 94 | 46 => 89 | 21 => 21 | 80 => 64 | n => n, fun | n => n⟩
theorem Tryz.lays244 : Go.Proofs.Lays.n244 Tryz.prog Tryz.lays244_ren := {
 mixed := by kernel_rfl
 f244 := Tryz.func38.trans (congrArg some (by kernel_rfl))
 f247 := Tryz.func52.trans (congrArg some (by kernel_rfl))
 f287 := Tryz.func74.trans (congrArg some (by kernel_rfl))
 f321 := Tryz.func91.trans (congrArg some (by kernel_rfl))
 f322 := Tryz.func92.trans (congrArg some (by kernel_rfl))
 t0 := Tryz.underlying0
 a0 := Tryz.isAgg0
 z0 := Tryz.sizeOf0
 v0 := Tryz.zeroValue0
 t2 := Tryz.underlying2
 a2 := Tryz.isAgg2
 z2 := Tryz.sizeOf2
 v2 := Tryz.zeroValue2
 t3 := Tryz.underlying3
 a3 := Tryz.isAgg3
 z3 := Tryz.sizeOf3
 v3 := Tryz.zeroValue3
 t4 := Tryz.underlying4
 a4 := Tryz.isAgg4
 z4 := Tryz.sizeOf4
 v4 := Tryz.zeroValue4
 t5 := Tryz.underlying5
 a5 := Tryz.isAgg5
 z5 := Tryz.sizeOf5
 v5 := Tryz.zeroValue5
 t9 := Tryz.underlying9
 a9 := Tryz.isAgg9
 z9 := Tryz.sizeOf9
 v9 := Tryz.zeroValue9
 t21 := Tryz.underlying21
 a21 := Tryz.isAgg21
 z21 := Tryz.sizeOf21
 v21 := Tryz.zeroValue21
 t37 := Tryz.underlying60
 a37 := Tryz.isAgg60
 z37 := Tryz.sizeOf60
 v37 := Tryz.zeroValue60
 t46 := Tryz.underlying89
 a46 := Tryz.isAgg89
 z46 := Tryz.sizeOf89
 v46 := Tryz.zeroValue89
 t53 := Tryz.underlying93
 a53 := Tryz.isAgg93
 z53 := Tryz.sizeOf93
 v53 := Tryz.zeroValue93
 t75 := Tryz.underlying45
 a75 := Tryz.isAgg45
 z75 := Tryz.sizeOf45
 v75 := Tryz.zeroValue45
 t85 := Tryz.underlying75
 a85 := Tryz.isAgg75
 z85 := Tryz.sizeOf75
 v85 := Tryz.zeroValue75
 t167 := Tryz.underlying74
 a167 := Tryz.isAgg74
 z167 := Tryz.sizeOf74
 v167 := Tryz.zeroValue74
 t175 := Tryz.underlying94
 a175 := Tryz.isAgg94
 z175 := Tryz.sizeOf94
 v175 := Tryz.zeroValue94 }
open Go.RowKit in
theorem Tryz.internal_strconv_Atoi (s : ByteArray) (n : Int) (hl : s.size ≤ 18) (h : Lib.atoi s.data.toList = some n) (w : World) :
  Calls Tryz.prog 38 #[.string s] w fun e w' => e = .returned (.tuple #[.int .i64 n, .nilIface]) ∧ ∃ t, w' = Lib.bytesWorld w 5 t := Any.internal_strconv_Atoi Tryz.lays244 s n hl h w
def Tryz.lays172_ren : Go.Shelf.Ren := ⟨fun | 172 => 26 | 244 => 38 | 245 => 39 | 247 => 52 | 279 => 53 | 280 => 54 | 281 => 55 | 282 => 56 | 287 => 74 | 316 => 75 | 171 => 35 | 205 => 76 | 321 => 91 | 322 => 92 | 243 => 50 | 246 => 69 | 283 => 85 | 284 => 86 | 285 => 87 | 286 => 88 | 129 => 103 | 317 => 104 | 318 => 105 | 319 => 106 | 320 => 107 | 337 => 114 | 338 => 115 | n => n, fun | 9 => 9 | 3 => 3 | 75 => 45 | 76 => 46 | 4 => 4 | 5 => 5 | 167 => 74 | 37 => 60 | 0 => 0 | 85 => 75 | 2 => 2 | 168 => 77 | 53 => 93 | 175 => 94 | 46 => 89 | 210 => 98 | 127 => 80 | 145 => 118 | 143 => 116 | 21 => 21 | 171 => 107 | 173 => 110 | 212 => 132 | 51 => 112 | 20 => 20 | 213 => 133 | 232 => 143 | 233 => 144 | 80 => 64 | n => n, fun | 15 => 1 | 16 => 2 | 17 => 5 | 18 => 6 | 19 => 7 | n => n⟩
theorem Tryz.lays172 : Go.Proofs.Lays.n172 Tryz.prog Tryz.lays172_ren := {
 mixed := by kernel_rfl
 f129 := Tryz.func103.trans (congrArg some (by kernel_rfl))
 f171 := Tryz.func35.trans (congrArg some (by kernel_rfl))
 f172 := Tryz.func26.trans (congrArg some (by kernel_rfl))
 f205 := Tryz.func76.trans (congrArg some (by kernel_rfl))
 f243 := Tryz.func50.trans (congrArg some (by kernel_rfl))
 f244 := Tryz.func38.trans (congrArg some (by kernel_rfl))
 f245 := Tryz.func39.trans (congrArg some (by kernel_rfl))
 f246 := Tryz.func69.trans (congrArg some (by kernel_rfl))
 f247 := Tryz.func52.trans (congrArg some (by kernel_rfl))
 f279 := Tryz.func53.trans (congrArg some (by kernel_rfl))
 f280 := Tryz.func54.trans (congrArg some (by kernel_rfl))
 f281 := Tryz.func55.trans (congrArg some (by kernel_rfl))
 f282 := Tryz.func56.trans (congrArg some (by kernel_rfl))
 f283 := Tryz.func85.trans (congrArg some (by kernel_rfl))
 f284 := Tryz.func86.trans (congrArg some (by kernel_rfl))
 f285 := Tryz.func87.trans (congrArg some (by kernel_rfl))
 f286 := Tryz.func88.trans (congrArg some (by kernel_rfl))
 f287 := Tryz.func74.trans (congrArg some (by kernel_rfl))
 f316 := Tryz.func75.trans (congrArg some (by kernel_rfl))
 f317 := Tryz.func104.trans (congrArg some (by kernel_rfl))
 f318 := Tryz.func105.trans (congrArg some (by kernel_rfl))
 f319 := Tryz.func106.trans (congrArg some (by kernel_rfl))
 f320 := Tryz.func107.trans (congrArg some (by kernel_rfl))
 f321 := Tryz.func91.trans (congrArg some (by kernel_rfl))
 f322 := Tryz.func92.trans (congrArg some (by kernel_rfl))
 f337 := Tryz.func114.trans (congrArg some (by kernel_rfl))
 f338 := Tryz.func115.trans (congrArg some (by kernel_rfl))
 t0 := Tryz.underlying0
 a0 := Tryz.isAgg0
 z0 := Tryz.sizeOf0
 v0 := Tryz.zeroValue0
 t2 := Tryz.underlying2
 a2 := Tryz.isAgg2
 z2 := Tryz.sizeOf2
 v2 := Tryz.zeroValue2
 t3 := Tryz.underlying3
 a3 := Tryz.isAgg3
 z3 := Tryz.sizeOf3
 v3 := Tryz.zeroValue3
 t4 := Tryz.underlying4
 a4 := Tryz.isAgg4
 z4 := Tryz.sizeOf4
 v4 := Tryz.zeroValue4
 t5 := Tryz.underlying5
 a5 := Tryz.isAgg5
 z5 := Tryz.sizeOf5
 v5 := Tryz.zeroValue5
 t9 := Tryz.underlying9
 a9 := Tryz.isAgg9
 z9 := Tryz.sizeOf9
 v9 := Tryz.zeroValue9
 t20 := Tryz.underlying20
 a20 := Tryz.isAgg20
 z20 := Tryz.sizeOf20
 v20 := Tryz.zeroValue20
 t21 := Tryz.underlying21
 a21 := Tryz.isAgg21
 z21 := Tryz.sizeOf21
 v21 := Tryz.zeroValue21
 t37 := Tryz.underlying60
 a37 := Tryz.isAgg60
 z37 := Tryz.sizeOf60
 v37 := Tryz.zeroValue60
 t46 := Tryz.underlying89
 a46 := Tryz.isAgg89
 z46 := Tryz.sizeOf89
 v46 := Tryz.zeroValue89
 t51 := Tryz.underlying112
 a51 := Tryz.isAgg112
 z51 := Tryz.sizeOf112
 v51 := Tryz.zeroValue112
 t53 := Tryz.underlying93
 a53 := Tryz.isAgg93
 z53 := Tryz.sizeOf93
 v53 := Tryz.zeroValue93
 t75 := Tryz.underlying45
 a75 := Tryz.isAgg45
 z75 := Tryz.sizeOf45
 v75 := Tryz.zeroValue45
 t76 := Tryz.underlying46
 a76 := Tryz.isAgg46
 z76 := Tryz.sizeOf46
 v76 := Tryz.zeroValue46
 t85 := Tryz.underlying75
 a85 := Tryz.isAgg75
 z85 := Tryz.sizeOf75
 v85 := Tryz.zeroValue75
 t127 := Tryz.underlying80
 a127 := Tryz.isAgg80
 z127 := Tryz.sizeOf80
 v127 := Tryz.zeroValue80
 t143 := Tryz.underlying116
 a143 := Tryz.isAgg116
 z143 := Tryz.sizeOf116
 v143 := Tryz.zeroValue116
 t145 := Tryz.underlying118
 a145 := Tryz.isAgg118
 z145 := Tryz.sizeOf118
 v145 := Tryz.zeroValue118
 t167 := Tryz.underlying74
 a167 := Tryz.isAgg74
 z167 := Tryz.sizeOf74
 v167 := Tryz.zeroValue74
 t168 := Tryz.underlying77
 a168 := Tryz.isAgg77
 z168 := Tryz.sizeOf77
 v168 := Tryz.zeroValue77
 t171 := Tryz.underlying107
 a171 := Tryz.isAgg107
 z171 := Tryz.sizeOf107
 v171 := Tryz.zeroValue107
 t173 := Tryz.underlying110
 a173 := Tryz.isAgg110
 z173 := Tryz.sizeOf110
 v173 := Tryz.zeroValue110
 t175 := Tryz.underlying94
 a175 := Tryz.isAgg94
 z175 := Tryz.sizeOf94
 v175 := Tryz.zeroValue94
 t210 := Tryz.underlying98
 a210 := Tryz.isAgg98
 z210 := Tryz.sizeOf98
 v210 := Tryz.zeroValue98
 t212 := Tryz.underlying132
 a212 := Tryz.isAgg132
 z212 := Tryz.sizeOf132
 v212 := Tryz.zeroValue132
 t213 := Tryz.underlying133
 a213 := Tryz.isAgg133
 z213 := Tryz.sizeOf133
 t232 := Tryz.underlying143
 a232 := Tryz.isAgg143
 z232 := Tryz.sizeOf143
 v232 := Tryz.zeroValue143
 t233 := Tryz.underlying144
 a233 := Tryz.isAgg144
 z233 := Tryz.sizeOf144
 v233 := Tryz.zeroValue144
 g15 := by kernel_rfl
 g16 := by kernel_rfl
 g17 := by kernel_rfl
 g18 := by kernel_rfl
 g19 := by kernel_rfl }
open Go.RowKit in
theorem Tryz.strconv_Atoi (s : ByteArray) (n : Int) (hl : s.size ≤ 18) (h : Lib.atoi s.data.toList = some n) (w : World) :
  Calls Tryz.prog 26 #[.string s] w fun e w' => e = .returned (.tuple #[.int .i64 n, .nilIface]) ∧ ∃ t, w' = Lib.bytesWorld w 5 t := Any.strconv_Atoi Tryz.lays172 s n hl h w
def Tryz.lays129_ren : Go.Shelf.Ren := ⟨fun | 129 => 103 | n => n, fun | 53 => 93 | 3 => 3 | 4 => 4 | 46 => 89 | 5 => 5 | 9 => 9 | n => n, fun | n => n⟩
theorem Tryz.lays129 : Go.Proofs.Lays.n129 Tryz.prog Tryz.lays129_ren := {
 mixed := by kernel_rfl
 f129 := Tryz.func103.trans (congrArg some (by kernel_rfl))
 t3 := Tryz.underlying3
 a3 := Tryz.isAgg3
 z3 := Tryz.sizeOf3
 v3 := Tryz.zeroValue3
 t4 := Tryz.underlying4
 a4 := Tryz.isAgg4
 z4 := Tryz.sizeOf4
 v4 := Tryz.zeroValue4
 t5 := Tryz.underlying5
 a5 := Tryz.isAgg5
 z5 := Tryz.sizeOf5
 v5 := Tryz.zeroValue5
 t9 := Tryz.underlying9
 a9 := Tryz.isAgg9
 z9 := Tryz.sizeOf9
 v9 := Tryz.zeroValue9
 t46 := Tryz.underlying89
 a46 := Tryz.isAgg89
 z46 := Tryz.sizeOf89
 v46 := Tryz.zeroValue89
 t53 := Tryz.underlying93
 a53 := Tryz.isAgg93
 z53 := Tryz.sizeOf93
 v53 := Tryz.zeroValue93 }
theorem Tryz.bits_Len64 (x : Int) (w : World) (h0 : 0 ≤ x) (h1 : x ≤ 18446744073709551615) :
  Calls Tryz.prog 103 #[.int .u64 x] w fun e w' => e = .returned (.int .i64 (Lib.bitLen x.toNat)) ∧ w' = w := Any.bits_Len64 Tryz.lays129 x w h0 h1
def Tryz.lays317_ren : Go.Shelf.Ren := ⟨fun | 317 => 104 | n => n, fun | 3 => 3 | 46 => 89 | n => n, fun | n => n⟩
theorem Tryz.lays317 : Go.Proofs.Lays.n317 Tryz.prog Tryz.lays317_ren := {
 mixed := by kernel_rfl
 f317 := Tryz.func104.trans (congrArg some (by kernel_rfl))
 t3 := Tryz.underlying3
 a3 := Tryz.isAgg3
 z3 := Tryz.sizeOf3
 v3 := Tryz.zeroValue3
 t46 := Tryz.underlying89
 a46 := Tryz.isAgg89
 z46 := Tryz.sizeOf89
 v46 := Tryz.zeroValue89 }
open Go.Lib in
theorem Tryz.internal_strconv_log10Pow2 (x : Nat) (h : x ≤ 64) (w : World) :
  Calls Tryz.prog 104 #[.int .i64 x] w fun e w' => e = .returned (.int .i64 (Lib.l10 x)) ∧ w' = w := Any.internal_strconv_log10Pow2 Tryz.lays317 x h w
def Tryz.lays318_ren : Go.Shelf.Ren := ⟨fun | 318 => 105 | n => n, fun | 3 => 3 | 4 => 4 | n => n, fun | n => n⟩
theorem Tryz.lays318 : Go.Proofs.Lays.n318 Tryz.prog Tryz.lays318_ren := {
 mixed := by kernel_rfl
 f318 := Tryz.func105.trans (congrArg some (by kernel_rfl))
 t3 := Tryz.underlying3
 a3 := Tryz.isAgg3
 z3 := Tryz.sizeOf3
 v3 := Tryz.zeroValue3
 t4 := Tryz.underlying4
 a4 := Tryz.isAgg4
 z4 := Tryz.sizeOf4
 v4 := Tryz.zeroValue4 }
open Go.Lib in
theorem Tryz.internal_strconv_bool2_int (b : Bool) (w : World) :
  Calls Tryz.prog 105 #[.bool b] w fun e w' => e = .returned (.int .i64 (if b then 1 else 0)) ∧ w' = w := Any.internal_strconv_bool2_int Tryz.lays318 b w
def Tryz.lays283_ren : Go.Shelf.Ren := ⟨fun | 283 => 85 | n => n, fun | 3 => 3 | 9 => 9 | 4 => 4 | n => n, fun | n => n⟩
theorem Tryz.lays283 : Go.Proofs.Lays.n283 Tryz.prog Tryz.lays283_ren := {
 mixed := by kernel_rfl
 f283 := Tryz.func85.trans (congrArg some (by kernel_rfl))
 t3 := Tryz.underlying3
 a3 := Tryz.isAgg3
 z3 := Tryz.sizeOf3
 v3 := Tryz.zeroValue3
 t4 := Tryz.underlying4
 a4 := Tryz.isAgg4
 z4 := Tryz.sizeOf4
 v4 := Tryz.zeroValue4
 t9 := Tryz.underlying9
 a9 := Tryz.isAgg9
 z9 := Tryz.sizeOf9
 v9 := Tryz.zeroValue9 }
open Go.Lib in
theorem Tryz.internal_strconv_small (i : Nat) (h : i < 100) (w : World) :
  Calls Tryz.prog 85 #[.int .i64 i] w fun e w' => e = .returned (.string ⟨(Lib.decDigits i).toArray⟩) ∧ w' = w := Any.internal_strconv_small Tryz.lays283 i h w
def Tryz.laysM284_ren : Go.Shelf.Ren := ⟨fun | 284 => 86 | 129 => 103 | 317 => 104 | 318 => 105 | n => n, fun | 53 => 93 | 3 => 3 | 212 => 132 | 0 => 0 | 4 => 4 | 46 => 89 | 5 => 5 | 9 => 9 | n => n, fun | 17 => 5 | n => n⟩
theorem Tryz.laysM284 : Go.Proofs.LaysM.n284 Tryz.prog Tryz.laysM284_ren := {
 mixed := by kernel_rfl
 f129 := Tryz.func103.trans (congrArg some (by kernel_rfl))
 f284 := Tryz.func86.trans (congrArg some (by kernel_rfl))
 f317 := Tryz.func104.trans (congrArg some (by kernel_rfl))
 f318 := Tryz.func105.trans (congrArg some (by kernel_rfl))
 t0 := Tryz.underlying0
 a0 := Tryz.isAgg0
 z0 := Tryz.sizeOf0
 v0 := Tryz.zeroValue0
 t3 := Tryz.underlying3
 a3 := Tryz.isAgg3
 z3 := Tryz.sizeOf3
 v3 := Tryz.zeroValue3
 t4 := Tryz.underlying4
 a4 := Tryz.isAgg4
 z4 := Tryz.sizeOf4
 v4 := Tryz.zeroValue4
 t5 := Tryz.underlying5
 a5 := Tryz.isAgg5
 z5 := Tryz.sizeOf5
 v5 := Tryz.zeroValue5
 t9 := Tryz.underlying9
 a9 := Tryz.isAgg9
 z9 := Tryz.sizeOf9
 v9 := Tryz.zeroValue9
 t46 := Tryz.underlying89
 a46 := Tryz.isAgg89
 z46 := Tryz.sizeOf89
 v46 := Tryz.zeroValue89
 t53 := Tryz.underlying93
 a53 := Tryz.isAgg93
 z53 := Tryz.sizeOf93
 v53 := Tryz.zeroValue93
 t212 := Tryz.underlying132
 a212 := Tryz.isAgg132
 z212 := Tryz.sizeOf132
 v212 := Tryz.zeroValue132
 g17 := by kernel_rfl
 i0 := by kernel_rfl
 i3 := by kernel_rfl
 i4 := by kernel_rfl
 i5 := by kernel_rfl
 i9 := by kernel_rfl
 i46 := by kernel_rfl
 i53 := by kernel_rfl
 i212 := by kernel_rfl
 m17 := by kernel_rfl }
open Go.Lib in
theorem Tryz.internal_strconv_numDigits (u : Nat) (h1 : 1 ≤ u) (h2 : u < 18446744073709551616) (w : World) (htab : Lib.TabIs Tryz.prog w "internal/strconv.uint64pow10" .u64 Lib.pow10Tab) :
  Calls Tryz.prog 86 #[.int .u64 u] w fun e w' => e = .returned (.int .i64 (Lib.nDigits u)) ∧ w' = w := Any.internal_strconv_numDigits Tryz.laysM284 u h1 h2 w htab
def Tryz.lays285_ren : Go.Shelf.Ren := ⟨fun | 285 => 87 | n => n, fun | 37 => 60 | 53 => 93 | 3 => 3 | 4 => 4 | 51 => 112 | 9 => 9 | 5 => 5 | 0 => 0 | n => n, fun | n => n⟩
theorem Tryz.lays285 : Go.Proofs.Lays.n285 Tryz.prog Tryz.lays285_ren := {
 mixed := by kernel_rfl
 f285 := Tryz.func87.trans (congrArg some (by kernel_rfl))
 t0 := Tryz.underlying0
 a0 := Tryz.isAgg0
 z0 := Tryz.sizeOf0
 v0 := Tryz.zeroValue0
 t3 := Tryz.underlying3
 a3 := Tryz.isAgg3
 z3 := Tryz.sizeOf3
 v3 := Tryz.zeroValue3
 t4 := Tryz.underlying4
 a4 := Tryz.isAgg4
 z4 := Tryz.sizeOf4
 v4 := Tryz.zeroValue4
 t5 := Tryz.underlying5
 a5 := Tryz.isAgg5
 z5 := Tryz.sizeOf5
 v5 := Tryz.zeroValue5
 t9 := Tryz.underlying9
 a9 := Tryz.isAgg9
 z9 := Tryz.sizeOf9
 v9 := Tryz.zeroValue9
 t37 := Tryz.underlying60
 a37 := Tryz.isAgg60
 z37 := Tryz.sizeOf60
 v37 := Tryz.zeroValue60
 t51 := Tryz.underlying112
 a51 := Tryz.isAgg112
 z51 := Tryz.sizeOf112
 v51 := Tryz.zeroValue112
 t53 := Tryz.underlying93
 a53 := Tryz.isAgg93
 z53 := Tryz.sizeOf93
 v53 := Tryz.zeroValue93 }
open Go.RowKit Go.Sort Go.Lib in
theorem Tryz.internal_strconv_formatBase10 (blk off cap : Nat) (u : Nat) (d : Array UInt8) (w : World) (hH : Holds (fun (b : UInt8) => Value.int .u8 (b.toNat : Int)) w blk off d) (hu : u < 10 ^ d.size) (hu64 : u < 18446744073709551616) (hsz : d.size < 4611686018427387904) :
  Calls Tryz.prog 87 #[.slice (some ⟨blk, off, none⟩) d.size cap, .int .u64 u] w fun e w' =>
   e = .returned (.tuple #[]) ∧ ∃ (n v' : Nat) (dk : Array UInt8), w' = (putRow (fun (b : UInt8) => Value.int .u8 (b.toNat : Int)) w blk off dk).drewN n ∧ FmtInv d.size u 0 v' dk := Any.internal_strconv_formatBase10 Tryz.lays285 blk off cap u d w hH hu hu64 hsz
def Tryz.laysM246_ren : Go.Shelf.Ren := ⟨fun | 246 => 69 | 283 => 85 | 284 => 86 | 285 => 87 | 286 => 88 | 129 => 103 | 317 => 104 | 318 => 105 | 319 => 106 | 320 => 107 | 337 => 114 | 338 => 115 | n => n, fun | 2 => 2 | 3 => 3 | 9 => 9 | 4 => 4 | 171 => 107 | 0 => 0 | 53 => 93 | 37 => 60 | 5 => 5 | 173 => 110 | 212 => 132 | 51 => 112 | 20 => 20 | 213 => 133 | 46 => 89 | 232 => 143 | 233 => 144 | n => n, fun | 17 => 5 | 18 => 6 | 19 => 7 | n => n⟩
theorem Tryz.laysM246 : Go.Proofs.LaysM.n246 Tryz.prog Tryz.laysM246_ren := {
 mixed := by kernel_rfl
 f129 := Tryz.func103.trans (congrArg some (by kernel_rfl))
 f246 := Tryz.func69.trans (congrArg some (by kernel_rfl))
 f283 := Tryz.func85.trans (congrArg some (by kernel_rfl))
 f284 := Tryz.func86.trans (congrArg some (by kernel_rfl))
 f285 := Tryz.func87.trans (congrArg some (by kernel_rfl))
 f286 := Tryz.func88.trans (congrArg some (by kernel_rfl))
 f317 := Tryz.func104.trans (congrArg some (by kernel_rfl))
 f318 := Tryz.func105.trans (congrArg some (by kernel_rfl))
 f319 := Tryz.func106.trans (congrArg some (by kernel_rfl))
 f320 := Tryz.func107.trans (congrArg some (by kernel_rfl))
 f337 := Tryz.func114.trans (congrArg some (by kernel_rfl))
 f338 := Tryz.func115.trans (congrArg some (by kernel_rfl))
 t0 := Tryz.underlying0
 a0 := Tryz.isAgg0
 z0 := Tryz.sizeOf0
 v0 := Tryz.zeroValue0
 t2 := Tryz.underlying2
 a2 := Tryz.isAgg2
 z2 := Tryz.sizeOf2
 v2 := Tryz.zeroValue2
 t3 := Tryz.underlying3
 a3 := Tryz.isAgg3
 z3 := Tryz.sizeOf3
 v3 := Tryz.zeroValue3
 t4 := Tryz.underlying4
 a4 := Tryz.isAgg4
 z4 := Tryz.sizeOf4
 v4 := Tryz.zeroValue4
 t5 := Tryz.underlying5
 a5 := Tryz.isAgg5
 z5 := Tryz.sizeOf5
 v5 := Tryz.zeroValue5
 t9 := Tryz.underlying9
 a9 := Tryz.isAgg9
 z9 := Tryz.sizeOf9
 v9 := Tryz.zeroValue9
 t20 := Tryz.underlying20
 a20 := Tryz.isAgg20
 z20 := Tryz.sizeOf20
 v20 := Tryz.zeroValue20
 t37 := Tryz.underlying60
 a37 := Tryz.isAgg60
 z37 := Tryz.sizeOf60
 v37 := Tryz.zeroValue60
 t46 := Tryz.underlying89
 a46 := Tryz.isAgg89
 z46 := Tryz.sizeOf89
 v46 := Tryz.zeroValue89
 t51 := Tryz.underlying112
 a51 := Tryz.isAgg112
 z51 := Tryz.sizeOf112
 v51 := Tryz.zeroValue112
 t53 := Tryz.underlying93
 a53 := Tryz.isAgg93
 z53 := Tryz.sizeOf93
 v53 := Tryz.zeroValue93
 t171 := Tryz.underlying107
 a171 := Tryz.isAgg107
 z171 := Tryz.sizeOf107
 v171 := Tryz.zeroValue107
 t173 := Tryz.underlying110
 a173 := Tryz.isAgg110
 z173 := Tryz.sizeOf110
 v173 := Tryz.zeroValue110
 t212 := Tryz.underlying132
 a212 := Tryz.isAgg132
 z212 := Tryz.sizeOf132
 v212 := Tryz.zeroValue132
 t213 := Tryz.underlying133
 a213 := Tryz.isAgg133
 z213 := Tryz.sizeOf133
 t232 := Tryz.underlying143
 a232 := Tryz.isAgg143
 z232 := Tryz.sizeOf143
 v232 := Tryz.zeroValue143
 t233 := Tryz.underlying144
 a233 := Tryz.isAgg144
 z233 := Tryz.sizeOf144
 v233 := Tryz.zeroValue144
 g17 := by kernel_rfl
 g18 := by kernel_rfl
 g19 := by kernel_rfl
 i0 := by kernel_rfl
 i2 := by kernel_rfl
 i3 := by kernel_rfl
 i4 := by kernel_rfl
 i5 := by kernel_rfl
 i9 := by kernel_rfl
 i20 := by kernel_rfl
 i37 := by kernel_rfl
 i46 := by kernel_rfl
 i51 := by kernel_rfl
 i53 := by kernel_rfl
 i171 := by kernel_rfl
 i173 := by kernel_rfl
 i212 := by kernel_rfl
 i232 := by kernel_rfl
 i233 := by kernel_rfl
 m17 := by kernel_rfl
 m18 := by kernel_rfl
 m19 := by kernel_rfl }
open Go.RowKit Go.Sort Go.Lib in
theorem Tryz.internal_strconv_FormatInt_10 (n : Int) (h0 : -9223372036854775808 ≤ n) (h1 : n ≤ 9223372036854775807) (w : World) (htab : Lib.TabIs Tryz.prog w "internal/strconv.uint64pow10" .u64 Lib.pow10Tab) :
  Calls Tryz.prog 69 #[.int .i64 n, .int .i64 10] w fun e w' => e = .returned (.string ⟨(Lib.itoa n).toArray⟩) ∧ ∃ k os, w' = grow (w.drewN k) os := Any.internal_strconv_FormatInt_10 Tryz.laysM246 n h0 h1 w htab
def Tryz.lays246_ren : Go.Shelf.Ren := ⟨fun | 246 => 69 | 283 => 85 | 284 => 86 | 285 => 87 | 286 => 88 | 129 => 103 | 317 => 104 | 318 => 105 | 319 => 106 | 320 => 107 | 337 => 114 | 338 => 115 | n => n, fun | 2 => 2 | 3 => 3 | 9 => 9 | 4 => 4 | 171 => 107 | 0 => 0 | 53 => 93 | 37 => 60 | 5 => 5 | 173 => 110 | 212 => 132 | 51 => 112 | 20 => 20 | 213 => 133 | 46 => 89 | 232 => 143 | 233 => 144 | n => n, fun | 17 => 5 | 18 => 6 | 19 => 7 | n => n⟩
theorem Tryz.lays246 : Go.Proofs.Lays.n246 Tryz.prog Tryz.lays246_ren := {
 mixed := by kernel_rfl
 f129 := Tryz.func103.trans (congrArg some (by kernel_rfl))
 f246 := Tryz.func69.trans (congrArg some (by kernel_rfl))
 f283 := Tryz.func85.trans (congrArg some (by kernel_rfl))
 f284 := Tryz.func86.trans (congrArg some (by kernel_rfl))
 f285 := Tryz.func87.trans (congrArg some (by kernel_rfl))
 f286 := Tryz.func88.trans (congrArg some (by kernel_rfl))
 f317 := Tryz.func104.trans (congrArg some (by kernel_rfl))
 f318 := Tryz.func105.trans (congrArg some (by kernel_rfl))
 f319 := Tryz.func106.trans (congrArg some (by kernel_rfl))
 f320 := Tryz.func107.trans (congrArg some (by kernel_rfl))
 f337 := Tryz.func114.trans (congrArg some (by kernel_rfl))
 f338 := Tryz.func115.trans (congrArg some (by kernel_rfl))
 t0 := Tryz.underlying0
 a0 := Tryz.isAgg0
 z0 := Tryz.sizeOf0
 v0 := Tryz.zeroValue0
 t2 := Tryz.underlying2
 a2 := Tryz.isAgg2
 z2 := Tryz.sizeOf2
 v2 := Tryz.zeroValue2
 t3 := Tryz.underlying3
 a3 := Tryz.isAgg3
 z3 := Tryz.sizeOf3
 v3 := Tryz.zeroValue3
 t4 := Tryz.underlying4
 a4 := Tryz.isAgg4
 z4 := Tryz.sizeOf4
 v4 := Tryz.zeroValue4
 t5 := Tryz.underlying5
 a5 := Tryz.isAgg5
 z5 := Tryz.sizeOf5
 v5 := Tryz.zeroValue5
 t9 := Tryz.underlying9
 a9 := Tryz.isAgg9
 z9 := Tryz.sizeOf9
 v9 := Tryz.zeroValue9
 t20 := Tryz.underlying20
 a20 := Tryz.isAgg20
 z20 := Tryz.sizeOf20
 v20 := Tryz.zeroValue20
 t37 := Tryz.underlying60
 a37 := Tryz.isAgg60
 z37 := Tryz.sizeOf60
 v37 := Tryz.zeroValue60
 t46 := Tryz.underlying89
 a46 := Tryz.isAgg89
 z46 := Tryz.sizeOf89
 v46 := Tryz.zeroValue89
 t51 := Tryz.underlying112
 a51 := Tryz.isAgg112
 z51 := Tryz.sizeOf112
 v51 := Tryz.zeroValue112
 t53 := Tryz.underlying93
 a53 := Tryz.isAgg93
 z53 := Tryz.sizeOf93
 v53 := Tryz.zeroValue93
 t171 := Tryz.underlying107
 a171 := Tryz.isAgg107
 z171 := Tryz.sizeOf107
 v171 := Tryz.zeroValue107
 t173 := Tryz.underlying110
 a173 := Tryz.isAgg110
 z173 := Tryz.sizeOf110
 v173 := Tryz.zeroValue110
 t212 := Tryz.underlying132
 a212 := Tryz.isAgg132
 z212 := Tryz.sizeOf132
 v212 := Tryz.zeroValue132
 t213 := Tryz.underlying133
 a213 := Tryz.isAgg133
 z213 := Tryz.sizeOf133
 t232 := Tryz.underlying143
 a232 := Tryz.isAgg143
 z232 := Tryz.sizeOf143
 v232 := Tryz.zeroValue143
 t233 := Tryz.underlying144
 a233 := Tryz.isAgg144
 z233 := Tryz.sizeOf144
 v233 := Tryz.zeroValue144
 g17 := by kernel_rfl
 g18 := by kernel_rfl
 g19 := by kernel_rfl }
open Go.RowKit Go.Sort Go.Lib in
theorem Tryz.internal_strconv_FormatInt_10_small (i : Nat) (hi : i < 100) (w : World) :
  Calls Tryz.prog 69 #[.int .i64 i, .int .i64 10] w fun e w' => e = .returned (.string ⟨(Lib.decDigits i).toArray⟩) ∧ w' = w := Any.internal_strconv_FormatInt_10_small Tryz.lays246 i hi w
def Tryz.laysM243_ren : Go.Shelf.Ren := ⟨fun | 243 => 50 | 246 => 69 | 283 => 85 | 284 => 86 | 285 => 87 | 286 => 88 | 129 => 103 | 317 => 104 | 318 => 105 | 319 => 106 | 320 => 107 | 337 => 114 | 338 => 115 | n => n, fun | 3 => 3 | 9 => 9 | 2 => 2 | 4 => 4 | 171 => 107 | 0 => 0 | 53 => 93 | 37 => 60 | 5 => 5 | 173 => 110 | 212 => 132 | 51 => 112 | 20 => 20 | 213 => 133 | 46 => 89 | 232 => 143 | 233 => 144 | n => n, fun | 17 => 5 | 18 => 6 | 19 => 7 | n => n⟩
theorem Tryz.laysM243 : Go.Proofs.LaysM.n243 Tryz.prog Tryz.laysM243_ren := {
 mixed := by kernel_rfl
 f129 := Tryz.func103.trans (congrArg some (by kernel_rfl))
 f243 := Tryz.func50.trans (congrArg some (by kernel_rfl))
 f246 := Tryz.func69.trans (congrArg some (by kernel_rfl))
 f283 := Tryz.func85.trans (congrArg some (by kernel_rfl))
 f284 := Tryz.func86.trans (congrArg some (by kernel_rfl))
 f285 := Tryz.func87.trans (congrArg some (by kernel_rfl))
 f286 := Tryz.func88.trans (congrArg some (by kernel_rfl))
 f317 := Tryz.func104.trans (congrArg some (by kernel_rfl))
 f318 := Tryz.func105.trans (congrArg some (by kernel_rfl))
 f319 := Tryz.func106.trans (congrArg some (by kernel_rfl))
 f320 := Tryz.func107.trans (congrArg some (by kernel_rfl))
 f337 := Tryz.func114.trans (congrArg some (by kernel_rfl))
 f338 := Tryz.func115.trans (congrArg some (by kernel_rfl))
 t0 := Tryz.underlying0
 a0 := Tryz.isAgg0
 z0 := Tryz.sizeOf0
 v0 := Tryz.zeroValue0
 t2 := Tryz.underlying2
 a2 := Tryz.isAgg2
 z2 := Tryz.sizeOf2
 v2 := Tryz.zeroValue2
 t3 := Tryz.underlying3
 a3 := Tryz.isAgg3
 z3 := Tryz.sizeOf3
 v3 := Tryz.zeroValue3
 t4 := Tryz.underlying4
 a4 := Tryz.isAgg4
 z4 := Tryz.sizeOf4
 v4 := Tryz.zeroValue4
 t5 := Tryz.underlying5
 a5 := Tryz.isAgg5
 z5 := Tryz.sizeOf5
 v5 := Tryz.zeroValue5
 t9 := Tryz.underlying9
 a9 := Tryz.isAgg9
 z9 := Tryz.sizeOf9
 v9 := Tryz.zeroValue9
 t20 := Tryz.underlying20
 a20 := Tryz.isAgg20
 z20 := Tryz.sizeOf20
 v20 := Tryz.zeroValue20
 t37 := Tryz.underlying60
 a37 := Tryz.isAgg60
 z37 := Tryz.sizeOf60
 v37 := Tryz.zeroValue60
 t46 := Tryz.underlying89
 a46 := Tryz.isAgg89
 z46 := Tryz.sizeOf89
 v46 := Tryz.zeroValue89
 t51 := Tryz.underlying112
 a51 := Tryz.isAgg112
 z51 := Tryz.sizeOf112
 v51 := Tryz.zeroValue112
 t53 := Tryz.underlying93
 a53 := Tryz.isAgg93
 z53 := Tryz.sizeOf93
 v53 := Tryz.zeroValue93
 t171 := Tryz.underlying107
 a171 := Tryz.isAgg107
 z171 := Tryz.sizeOf107
 v171 := Tryz.zeroValue107
 t173 := Tryz.underlying110
 a173 := Tryz.isAgg110
 z173 := Tryz.sizeOf110
 v173 := Tryz.zeroValue110
 t212 := Tryz.underlying132
 a212 := Tryz.isAgg132
 z212 := Tryz.sizeOf132
 v212 := Tryz.zeroValue132
 t213 := Tryz.underlying133
 a213 := Tryz.isAgg133
 z213 := Tryz.sizeOf133
 t232 := Tryz.underlying143
 a232 := Tryz.isAgg143
 z232 := Tryz.sizeOf143
 v232 := Tryz.zeroValue143
 t233 := Tryz.underlying144
 a233 := Tryz.isAgg144
 z233 := Tryz.sizeOf144
 v233 := Tryz.zeroValue144
 g17 := by kernel_rfl
 g18 := by kernel_rfl
 g19 := by kernel_rfl
 i0 := by kernel_rfl
 i2 := by kernel_rfl
 i3 := by kernel_rfl
 i4 := by kernel_rfl
 i5 := by kernel_rfl
 i9 := by kernel_rfl
 i20 := by kernel_rfl
 i37 := by kernel_rfl
 i46 := by kernel_rfl
 i51 := by kernel_rfl
 i53 := by kernel_rfl
 i171 := by kernel_rfl
 i173 := by kernel_rfl
 i212 := by kernel_rfl
 i232 := by kernel_rfl
 i233 := by kernel_rfl
 m17 := by kernel_rfl
 m18 := by kernel_rfl
 m19 := by kernel_rfl }
open Go.RowKit Go.Sort Go.Lib in
theorem Tryz.internal_strconv_Itoa (n : Int) (h0 : -9223372036854775808 ≤ n) (h1 : n ≤ 9223372036854775807) (w : World) (htab : Lib.TabIs Tryz.prog w "internal/strconv.uint64pow10" .u64 Lib.pow10Tab) :
  Calls Tryz.prog 50 #[.int .i64 n] w fun e w' => e = .returned (.string ⟨(Lib.itoa n).toArray⟩) ∧ ∃ k os, w' = grow (w.drewN k) os := Any.internal_strconv_Itoa Tryz.laysM243 n h0 h1 w htab
def Tryz.lays243_ren : Go.Shelf.Ren := ⟨fun | 243 => 50 | 246 => 69 | 283 => 85 | 284 => 86 | 285 => 87 | 286 => 88 | 129 => 103 | 317 => 104 | 318 => 105 | 319 => 106 | 320 => 107 | 337 => 114 | 338 => 115 | n => n, fun | 3 => 3 | 9 => 9 | 2 => 2 | 4 => 4 | 171 => 107 | 0 => 0 | 53 => 93 | 37 => 60 | 5 => 5 | 173 => 110 | 212 => 132 | 51 => 112 | 20 => 20 | 213 => 133 | 46 => 89 | 232 => 143 | 233 => 144 | n => n, fun | 17 => 5 | 18 => 6 | 19 => 7 | n => n⟩
theorem Tryz.lays243 : Go.Proofs.Lays.n243 Tryz.prog Tryz.lays243_ren := {
 mixed := by kernel_rfl
 f129 := Tryz.func103.trans (congrArg some (by kernel_rfl))
 f243 := Tryz.func50.trans (congrArg some (by kernel_rfl))
 f246 := Tryz.func69.trans (congrArg some (by kernel_rfl))
 f283 := Tryz.func85.trans (congrArg some (by kernel_rfl))
 f284 := Tryz.func86.trans (congrArg some (by kernel_rfl))
 f285 := Tryz.func87.trans (congrArg some (by kernel_rfl))
 f286 := Tryz.func88.trans (congrArg some (by kernel_rfl))
 f317 := Tryz.func104.trans (congrArg some (by kernel_rfl))
 f318 := Tryz.func105.trans (congrArg some (by kernel_rfl))
 f319 := Tryz.func106.trans (congrArg some (by kernel_rfl))
 f320 := Tryz.func107.trans (congrArg some (by kernel_rfl))
 f337 := Tryz.func114.trans (congrArg some (by kernel_rfl))
 f338 := Tryz.func115.trans (congrArg some (by kernel_rfl))
 t0 := Tryz.underlying0
 a0 := Tryz.isAgg0
 z0 := Tryz.sizeOf0
 v0 := Tryz.zeroValue0
 t2 := Tryz.underlying2
 a2 := Tryz.isAgg2
 z2 := Tryz.sizeOf2
 v2 := Tryz.zeroValue2
 t3 := Tryz.underlying3
 a3 := Tryz.isAgg3
 z3 := Tryz.sizeOf3
 v3 := Tryz.zeroValue3
 t4 := Tryz.underlying4
 a4 := Tryz.isAgg4
 z4 := Tryz.sizeOf4
 v4 := Tryz.zeroValue4
 t5 := Tryz.underlying5
 a5 := Tryz.isAgg5
 z5 := Tryz.sizeOf5
 v5 := Tryz.zeroValue5
 t9 := Tryz.underlying9
 a9 := Tryz.isAgg9
 z9 := Tryz.sizeOf9
 v9 := Tryz.zeroValue9
 t20 := Tryz.underlying20
 a20 := Tryz.isAgg20
 z20 := Tryz.sizeOf20
 v20 := Tryz.zeroValue20
 t37 := Tryz.underlying60
 a37 := Tryz.isAgg60
 z37 := Tryz.sizeOf60
 v37 := Tryz.zeroValue60
 t46 := Tryz.underlying89
 a46 := Tryz.isAgg89
 z46 := Tryz.sizeOf89
 v46 := Tryz.zeroValue89
 t51 := Tryz.underlying112
 a51 := Tryz.isAgg112
 z51 := Tryz.sizeOf112
 v51 := Tryz.zeroValue112
 t53 := Tryz.underlying93
 a53 := Tryz.isAgg93
 z53 := Tryz.sizeOf93
 v53 := Tryz.zeroValue93
 t171 := Tryz.underlying107
 a171 := Tryz.isAgg107
 z171 := Tryz.sizeOf107
 v171 := Tryz.zeroValue107
 t173 := Tryz.underlying110
 a173 := Tryz.isAgg110
 z173 := Tryz.sizeOf110
 v173 := Tryz.zeroValue110
 t212 := Tryz.underlying132
 a212 := Tryz.isAgg132
 z212 := Tryz.sizeOf132
 v212 := Tryz.zeroValue132
 t213 := Tryz.underlying133
 a213 := Tryz.isAgg133
 z213 := Tryz.sizeOf133
 t232 := Tryz.underlying143
 a232 := Tryz.isAgg143
 z232 := Tryz.sizeOf143
 v232 := Tryz.zeroValue143
 t233 := Tryz.underlying144
 a233 := Tryz.isAgg144
 z233 := Tryz.sizeOf144
 v233 := Tryz.zeroValue144
 g17 := by kernel_rfl
 g18 := by kernel_rfl
 g19 := by kernel_rfl }
open Go.RowKit Go.Sort Go.Lib in
theorem Tryz.internal_strconv_Itoa_small (i : Nat) (hi : i < 100) (w : World) :
  Calls Tryz.prog 50 #[.int .i64 i] w fun e w' => e = .returned (.string ⟨(Lib.decDigits i).toArray⟩) ∧ w' = w := Any.internal_strconv_Itoa_small Tryz.lays243 i hi w
def Tryz.laysM171_ren : Go.Shelf.Ren := ⟨fun | 171 => 35 | 243 => 50 | 246 => 69 | 283 => 85 | 284 => 86 | 285 => 87 | 286 => 88 | 129 => 103 | 317 => 104 | 318 => 105 | 319 => 106 | 320 => 107 | 337 => 114 | 338 => 115 | n => n, fun | 3 => 3 | 9 => 9 | 2 => 2 | 4 => 4 | 171 => 107 | 0 => 0 | 53 => 93 | 37 => 60 | 5 => 5 | 173 => 110 | 212 => 132 | 51 => 112 | 20 => 20 | 213 => 133 | 46 => 89 | 232 => 143 | 233 => 144 | n => n, fun | 17 => 5 | 18 => 6 | 19 => 7 | n => n⟩
theorem Tryz.laysM171 : Go.Proofs.LaysM.n171 Tryz.prog Tryz.laysM171_ren := {
 mixed := by kernel_rfl
 f129 := Tryz.func103.trans (congrArg some (by kernel_rfl))
 f171 := Tryz.func35.trans (congrArg some (by kernel_rfl))
 f243 := Tryz.func50.trans (congrArg some (by kernel_rfl))
 f246 := Tryz.func69.trans (congrArg some (by kernel_rfl))
 f283 := Tryz.func85.trans (congrArg some (by kernel_rfl))
 f284 := Tryz.func86.trans (congrArg some (by kernel_rfl))
 f285 := Tryz.func87.trans (congrArg some (by kernel_rfl))
 f286 := Tryz.func88.trans (congrArg some (by kernel_rfl))
 f317 := Tryz.func104.trans (congrArg some (by kernel_rfl))
 f318 := Tryz.func105.trans (congrArg some (by kernel_rfl))
 f319 := Tryz.func106.trans (congrArg some (by kernel_rfl))
 f320 := Tryz.func107.trans (congrArg some (by kernel_rfl))
 f337 := Tryz.func114.trans (congrArg some (by kernel_rfl))
 f338 := Tryz.func115.trans (congrArg some (by kernel_rfl))
 t0 := Tryz.underlying0
 a0 := Tryz.isAgg0
 z0 := Tryz.sizeOf0
 v0 := Tryz.zeroValue0
 t2 := Tryz.underlying2
 a2 := Tryz.isAgg2
 z2 := Tryz.sizeOf2
 v2 := Tryz.zeroValue2
 t3 := Tryz.underlying3
 a3 := Tryz.isAgg3
 z3 := Tryz.sizeOf3
 v3 := Tryz.zeroValue3
 t4 := Tryz.underlying4
 a4 := Tryz.isAgg4
 z4 := Tryz.sizeOf4
 v4 := Tryz.zeroValue4
 t5 := Tryz.underlying5
 a5 := Tryz.isAgg5
 z5 := Tryz.sizeOf5
 v5 := Tryz.zeroValue5
 t9 := Tryz.underlying9
 a9 := Tryz.isAgg9
 z9 := Tryz.sizeOf9
 v9 := Tryz.zeroValue9
 t20 := Tryz.underlying20
 a20 := Tryz.isAgg20
 z20 := Tryz.sizeOf20
 v20 := Tryz.zeroValue20
 t37 := Tryz.underlying60
 a37 := Tryz.isAgg60
 z37 := Tryz.sizeOf60
 v37 := Tryz.zeroValue60
 t46 := Tryz.underlying89
 a46 := Tryz.isAgg89
 z46 := Tryz.sizeOf89
 v46 := Tryz.zeroValue89
 t51 := Tryz.underlying112
 a51 := Tryz.isAgg112
 z51 := Tryz.sizeOf112
 v51 := Tryz.zeroValue112
 t53 := Tryz.underlying93
 a53 := Tryz.isAgg93
 z53 := Tryz.sizeOf93
 v53 := Tryz.zeroValue93
 t171 := Tryz.underlying107
 a171 := Tryz.isAgg107
 z171 := Tryz.sizeOf107
 v171 := Tryz.zeroValue107
 t173 := Tryz.underlying110
 a173 := Tryz.isAgg110
 z173 := Tryz.sizeOf110
 v173 := Tryz.zeroValue110
 t212 := Tryz.underlying132
 a212 := Tryz.isAgg132
 z212 := Tryz.sizeOf132
 v212 := Tryz.zeroValue132
 t213 := Tryz.underlying133
 a213 := Tryz.isAgg133
 z213 := Tryz.sizeOf133
 t232 := Tryz.underlying143
 a232 := Tryz.isAgg143
 z232 := Tryz.sizeOf143
 v232 := Tryz.zeroValue143
 t233 := Tryz.underlying144
 a233 := Tryz.isAgg144
 z233 := Tryz.sizeOf144
 v233 := Tryz.zeroValue144
 g17 := by kernel_rfl
 g18 := by kernel_rfl
 g19 := by kernel_rfl
 i0 := by kernel_rfl
 i2 := by kernel_rfl
 i3 := by kernel_rfl
 i4 := by kernel_rfl
 i5 := by kernel_rfl
 i9 := by kernel_rfl
 i20 := by kernel_rfl
 i37 := by kernel_rfl
 i46 := by kernel_rfl
 i51 := by kernel_rfl
 i53 := by kernel_rfl
 i171 := by kernel_rfl
 i173 := by kernel_rfl
 i212 := by kernel_rfl
 i232 := by kernel_rfl
 i233 := by kernel_rfl
 m17 := by kernel_rfl
 m18 := by kernel_rfl
 m19 := by kernel_rfl }
open Go.RowKit Go.Sort Go.Lib in
theorem Tryz.strconv_Itoa (n : Int) (h0 : -9223372036854775808 ≤ n) (h1 : n ≤ 9223372036854775807) (w : World) (htab : Lib.TabIs Tryz.prog w "internal/strconv.uint64pow10" .u64 Lib.pow10Tab) :
  Calls Tryz.prog 35 #[.int .i64 n] w fun e w' => e = .returned (.string ⟨(Lib.itoa n).toArray⟩) ∧ ∃ k os, w' = grow (w.drewN k) os := Any.strconv_Itoa Tryz.laysM171 n h0 h1 w htab
def Tryz.lays171_ren : Go.Shelf.Ren := ⟨fun | 171 => 35 | 243 => 50 | 246 => 69 | 283 => 85 | 284 => 86 | 285 => 87 | 286 => 88 | 129 => 103 | 317 => 104 | 318 => 105 | 319 => 106 | 320 => 107 | 337 => 114 | 338 => 115 | n => n, fun | 3 => 3 | 9 => 9 | 2 => 2 | 4 => 4 | 171 => 107 | 0 => 0 | 53 => 93 | 37 => 60 | 5 => 5 | 173 => 110 | 212 => 132 | 51 => 112 | 20 => 20 | 213 => 133 | 46 => 89 | 232 => 143 | 233 => 144 | n => n, fun | 17 => 5 | 18 => 6 | 19 => 7 | n => n⟩
theorem Tryz.lays171 : Go.Proofs.Lays.n171 Tryz.prog Tryz.lays171_ren := {
 mixed := by kernel_rfl
 f129 := Tryz.func103.trans (congrArg some (by kernel_rfl))
 f171 := Tryz.func35.trans (congrArg some (by kernel_rfl))
 f243 := Tryz.func50.trans (congrArg some (by kernel_rfl))
 f246 := Tryz.func69.trans (congrArg some (by kernel_rfl))
 f283 := Tryz.func85.trans (congrArg some (by kernel_rfl))
 f284 := Tryz.func86.trans (congrArg some (by kernel_rfl))
 f285 := Tryz.func87.trans (congrArg some (by kernel_rfl))
 f286 := Tryz.func88.trans (congrArg some (by kernel_rfl))
 f317 := Tryz.func104.trans (congrArg some (by kernel_rfl))
 f318 := Tryz.func105.trans (congrArg some (by kernel_rfl))
 f319 := Tryz.func106.trans (congrArg some (by kernel_rfl))
 f320 := Tryz.func107.trans (congrArg some (by kernel_rfl))
 f337 := Tryz.func114.trans (congrArg some (by kernel_rfl))
 f338 := Tryz.func115.trans (congrArg some (by kernel_rfl))
 t0 := Tryz.underlying0
 a0 := Tryz.isAgg0
 z0 := Tryz.sizeOf0
 v0 := Tryz.zeroValue0
 t2 := Tryz.underlying2
 a2 := Tryz.isAgg2
 z2 := Tryz.sizeOf2
 v2 := Tryz.zeroValue2
 t3 := Tryz.underlying3
 a3 := Tryz.isAgg3
 z3 := Tryz.sizeOf3
 v3 := Tryz.zeroValue3
 t4 := Tryz.underlying4
 a4 := Tryz.isAgg4
 z4 := Tryz.sizeOf4
 v4 := Tryz.zeroValue4
 t5 := Tryz.underlying5
 a5 := Tryz.isAgg5
 z5 := Tryz.sizeOf5
 v5 := Tryz.zeroValue5
 t9 := Tryz.underlying9
 a9 := Tryz.isAgg9
 z9 := Tryz.sizeOf9
 v9 := Tryz.zeroValue9
 t20 := Tryz.underlying20
 a20 := Tryz.isAgg20
 z20 := Tryz.sizeOf20
 v20 := Tryz.zeroValue20
 t37 := Tryz.underlying60
 a37 := Tryz.isAgg60
 z37 := Tryz.sizeOf60
 v37 := Tryz.zeroValue60
 t46 := Tryz.underlying89
 a46 := Tryz.isAgg89
 z46 := Tryz.sizeOf89
 v46 := Tryz.zeroValue89
 t51 := Tryz.underlying112
 a51 := Tryz.isAgg112
 z51 := Tryz.sizeOf112
 v51 := Tryz.zeroValue112
 t53 := Tryz.underlying93
 a53 := Tryz.isAgg93
 z53 := Tryz.sizeOf93
 v53 := Tryz.zeroValue93
 t171 := Tryz.underlying107
 a171 := Tryz.isAgg107
 z171 := Tryz.sizeOf107
 v171 := Tryz.zeroValue107
 t173 := Tryz.underlying110
 a173 := Tryz.isAgg110
 z173 := Tryz.sizeOf110
 v173 := Tryz.zeroValue110
 t212 := Tryz.underlying132
 a212 := Tryz.isAgg132
 z212 := Tryz.sizeOf132
 v212 := Tryz.zeroValue132
 t213 := Tryz.underlying133
 a213 := Tryz.isAgg133
 z213 := Tryz.sizeOf133
 t232 := Tryz.underlying143
 a232 := Tryz.isAgg143
 z232 := Tryz.sizeOf143
 v232 := Tryz.zeroValue143
 t233 := Tryz.underlying144
 a233 := Tryz.isAgg144
 z233 := Tryz.sizeOf144
 v233 := Tryz.zeroValue144
 g17 := by kernel_rfl
 g18 := by kernel_rfl
 g19 := by kernel_rfl }
open Go.RowKit Go.Sort Go.Lib in
theorem Tryz.strconv_Itoa_small (i : Nat) (hi : i < 100) (w : World) :
  Calls Tryz.prog 35 #[.int .i64 i] w fun e w' => e = .returned (.string ⟨(Lib.decDigits i).toArray⟩) ∧ w' = w := Any.strconv_Itoa_small Tryz.lays171 i hi w
open Go.RowKit in
theorem Tryz.internal_strconv_Atoi_err (s : ByteArray) (hl0 : 1 ≤ s.size) (hl : s.size ≤ 18) (h : Lib.atoi s.data.toList = none) (w : World) :
  Calls Tryz.prog 38 #[.string s] w fun e w' => e = .returned (.tuple #[.int .i64 0, (.iface 74 (.int .i64 2))]) ∧ (w' = w ∨ ∃ t, w' = Lib.bytesWorld w 5 t) := Any.internal_strconv_Atoi_err Tryz.lays244 s hl0 hl h w
def Tryz.lays247_ren : Go.Shelf.Ren := ⟨fun | 247 => 52 | 287 => 74 | 321 => 91 | 322 => 92 | n => n, fun | 9 => 9 | 3 => 3 | 2 => 2 | 75 => 45 | 4 => 4 | 167 => 74 | 5 => 5 | 53 => 93 | 175 => 94 | 46 => 89 | 37 => 60 | 0 => 0 | 21 => 21 | 80 => 64 | n => n, fun | n => n⟩
theorem Tryz.lays247 : Go.Proofs.Lays.n247 Tryz.prog Tryz.lays247_ren := {
 mixed := by kernel_rfl
 f247 := Tryz.func52.trans (congrArg some (by kernel_rfl))
 f287 := Tryz.func74.trans (congrArg some (by kernel_rfl))
 f321 := Tryz.func91.trans (congrArg some (by kernel_rfl))
 f322 := Tryz.func92.trans (congrArg some (by kernel_rfl))
 t0 := Tryz.underlying0
 a0 := Tryz.isAgg0
 z0 := Tryz.sizeOf0
 v0 := Tryz.zeroValue0
 t2 := Tryz.underlying2
 a2 := Tryz.isAgg2
 z2 := Tryz.sizeOf2
 v2 := Tryz.zeroValue2
 t3 := Tryz.underlying3
 a3 := Tryz.isAgg3
 z3 := Tryz.sizeOf3
 v3 := Tryz.zeroValue3
 t4 := Tryz.underlying4
 a4 := Tryz.isAgg4
 z4 := Tryz.sizeOf4
 v4 := Tryz.zeroValue4
 t5 := Tryz.underlying5
 a5 := Tryz.isAgg5
 z5 := Tryz.sizeOf5
 v5 := Tryz.zeroValue5
 t9 := Tryz.underlying9
 a9 := Tryz.isAgg9
 z9 := Tryz.sizeOf9
 v9 := Tryz.zeroValue9
 t21 := Tryz.underlying21
 a21 := Tryz.isAgg21
 z21 := Tryz.sizeOf21
 v21 := Tryz.zeroValue21
 t37 := Tryz.underlying60
 a37 := Tryz.isAgg60
 z37 := Tryz.sizeOf60
 v37 := Tryz.zeroValue60
 t46 := Tryz.underlying89
 a46 := Tryz.isAgg89
 z46 := Tryz.sizeOf89
 v46 := Tryz.zeroValue89
 t53 := Tryz.underlying93
 a53 := Tryz.isAgg93
 z53 := Tryz.sizeOf93
 v53 := Tryz.zeroValue93
 t75 := Tryz.underlying45
 a75 := Tryz.isAgg45
 z75 := Tryz.sizeOf45
 v75 := Tryz.zeroValue45
 t167 := Tryz.underlying74
 a167 := Tryz.isAgg74
 z167 := Tryz.sizeOf74
 v167 := Tryz.zeroValue74
 t175 := Tryz.underlying94
 a175 := Tryz.isAgg94
 z175 := Tryz.sizeOf94
 v175 := Tryz.zeroValue94 }
open Go.RowKit in
theorem Tryz.internal_strconv_ParseInt_empty (base bits : Int) (w : World) :
  Calls Tryz.prog 52 #[.string ⟨#[]⟩, .int .i64 base, .int .i64 bits] w fun e w' => e = .returned (.tuple #[.int .i64 0, (.iface 74 (.int .i64 2))]) ∧ w' = w := Any.internal_strconv_ParseInt_empty Tryz.lays247 base bits w
open Go.RowKit in
theorem Tryz.internal_strconv_Atoi_empty (w : World) :
  Calls Tryz.prog 38 #[.string ⟨#[]⟩] w fun e w' => e = .returned (.tuple #[.int .i64 0, (.iface 74 (.int .i64 2))]) ∧ w' = w := Any.internal_strconv_Atoi_empty Tryz.lays244 w
open Go.RowKit in
theorem Tryz.internal_strconv_Atoi_fail (s : ByteArray) (hl : s.size ≤ 18) (h : Lib.atoi s.data.toList = none) (w : World) :
  Calls Tryz.prog 38 #[.string s] w fun e w' => e = .returned (.tuple #[.int .i64 0, (.iface 74 (.int .i64 2))]) ∧ (w' = w ∨ ∃ t, w' = Lib.bytesWorld w 5 t) := Any.internal_strconv_Atoi_fail Tryz.lays244 s hl h w
def Tryz.laysM316_ren : Go.Shelf.Ren := ⟨fun | 316 => 75 | n => n, fun | 9 => 9 | 3 => 3 | 4 => 4 | 37 => 60 | 0 => 0 | 127 => 80 | 5 => 5 | n => n, fun | n => n⟩
theorem Tryz.laysM316 : Go.Proofs.LaysM.n316 Tryz.prog Tryz.laysM316_ren := {
 mixed := by kernel_rfl
 f316 := Tryz.func75.trans (congrArg some (by kernel_rfl))
 t0 := Tryz.underlying0
 a0 := Tryz.isAgg0
 z0 := Tryz.sizeOf0
 v0 := Tryz.zeroValue0
 t3 := Tryz.underlying3
 a3 := Tryz.isAgg3
 z3 := Tryz.sizeOf3
 v3 := Tryz.zeroValue3
 t4 := Tryz.underlying4
 a4 := Tryz.isAgg4
 z4 := Tryz.sizeOf4
 v4 := Tryz.zeroValue4
 t9 := Tryz.underlying9
 a9 := Tryz.isAgg9
 z9 := Tryz.sizeOf9
 v9 := Tryz.zeroValue9
 t37 := Tryz.underlying60
 a37 := Tryz.isAgg60
 z37 := Tryz.sizeOf60
 v37 := Tryz.zeroValue60
 t127 := Tryz.underlying80
 a127 := Tryz.isAgg80
 z127 := Tryz.sizeOf80
 v127 := Tryz.zeroValue80
 t5 := Tryz.underlying5
 a5 := Tryz.isAgg5
 z5 := Tryz.sizeOf5
 v5 := Tryz.zeroValue5
 i0 := by kernel_rfl
 i3 := by kernel_rfl
 i4 := by kernel_rfl
 i5 := by kernel_rfl
 i9 := by kernel_rfl
 i37 := by kernel_rfl
 i127 := by kernel_rfl }
open Go.RowKit in
theorem Tryz.stringslite_Clone (s : ByteArray) (w : World) (hlim : s.size ≤ 281474976710656) :
  Calls Tryz.prog 75 #[.string s] w fun e w' => e = .returned (.string s) ∧ Below w.heap.size w w' := Any.stringslite_Clone Tryz.laysM316 s w hlim
def Tryz.laysM279_ren : Go.Shelf.Ren := ⟨fun | 279 => 53 | 316 => 75 | n => n, fun | 9 => 9 | 168 => 77 | 75 => 45 | 210 => 98 | 3 => 3 | 4 => 4 | 37 => 60 | 0 => 0 | 127 => 80 | 80 => 64 | 5 => 5 | n => n, fun | 15 => 1 | n => n⟩
theorem Tryz.laysM279 : Go.Proofs.LaysM.n279 Tryz.prog Tryz.laysM279_ren := {
 mixed := by kernel_rfl
 f279 := Tryz.func53.trans (congrArg some (by kernel_rfl))
 f316 := Tryz.func75.trans (congrArg some (by kernel_rfl))
 t0 := Tryz.underlying0
 a0 := Tryz.isAgg0
 z0 := Tryz.sizeOf0
 v0 := Tryz.zeroValue0
 t3 := Tryz.underlying3
 a3 := Tryz.isAgg3
 z3 := Tryz.sizeOf3
 v3 := Tryz.zeroValue3
 t4 := Tryz.underlying4
 a4 := Tryz.isAgg4
 z4 := Tryz.sizeOf4
 v4 := Tryz.zeroValue4
 t9 := Tryz.underlying9
 a9 := Tryz.isAgg9
 z9 := Tryz.sizeOf9
 v9 := Tryz.zeroValue9
 t37 := Tryz.underlying60
 a37 := Tryz.isAgg60
 z37 := Tryz.sizeOf60
 v37 := Tryz.zeroValue60
 t75 := Tryz.underlying45
 a75 := Tryz.isAgg45
 z75 := Tryz.sizeOf45
 v75 := Tryz.zeroValue45
 t127 := Tryz.underlying80
 a127 := Tryz.isAgg80
 z127 := Tryz.sizeOf80
 v127 := Tryz.zeroValue80
 t168 := Tryz.underlying77
 a168 := Tryz.isAgg77
 z168 := Tryz.sizeOf77
 v168 := Tryz.zeroValue77
 t210 := Tryz.underlying98
 a210 := Tryz.isAgg98
 z210 := Tryz.sizeOf98
 v210 := Tryz.zeroValue98
 g15 := by kernel_rfl
 t5 := Tryz.underlying5
 a5 := Tryz.isAgg5
 z5 := Tryz.sizeOf5
 v5 := Tryz.zeroValue5
 t80 := Tryz.underlying64
 a80 := Tryz.isAgg64
 z80 := Tryz.sizeOf64
 v80 := Tryz.zeroValue64
 i0 := by kernel_rfl
 i3 := by kernel_rfl
 i4 := by kernel_rfl
 i5 := by kernel_rfl
 i9 := by kernel_rfl
 i37 := by kernel_rfl
 i75 := by kernel_rfl
 i80 := by kernel_rfl
 i127 := by kernel_rfl
 i168 := by kernel_rfl
 i210 := by kernel_rfl
 m15 := by kernel_rfl }
open Go.RowKit in
theorem Tryz.strconv_syntaxError (fn s : ByteArray) (ev : Value) (w : World) (hlim : s.size ≤ 281474976710656) (hv : w.cell? ⟨1, 0, none⟩ = some ev) (hev : ev = .nilIface ∨ ∃ te pe, ev = .iface te pe) :
  Calls Tryz.prog 53 #[.string fn, .string s] w fun e w' => ∃ N, e = .returned (.pointer (some ⟨N, 0, none⟩)) ∧ w.heap.size ≤ N ∧ w'.heap[N]? = some (.cells #[.string fn, .string s, ev] 98 (0, 0)) ∧ Below w.heap.size w w' := Any.strconv_syntaxError Tryz.laysM279 fn s ev w hlim hv hev
def Tryz.laysC245_ren : Go.Shelf.Ren := ⟨fun | 245 => 39 | 279 => 53 | 280 => 54 | 281 => 55 | 282 => 56 | 316 => 75 | 171 => 35 | 205 => 76 | 243 => 50 | 246 => 69 | 283 => 85 | 284 => 86 | 285 => 87 | 286 => 88 | 129 => 103 | 317 => 104 | 318 => 105 | 319 => 106 | 320 => 107 | 337 => 114 | 338 => 115 | n => n, fun | 9 => 9 | 3 => 3 | 75 => 45 | 167 => 74 | 4 => 4 | 168 => 77 | 210 => 98 | 37 => 60 | 0 => 0 | 127 => 80 | 145 => 118 | 143 => 116 | 2 => 2 | 171 => 107 | 53 => 93 | 5 => 5 | 173 => 110 | 212 => 132 | 51 => 112 | 20 => 20 | 213 => 133 | 46 => 89 | 232 => 143 | 233 => 144 | 80 => 64 | n => n, fun | 15 => 1 | 16 => 2 | 17 => 5 | 18 => 6 | 19 => 7 | n => n⟩
theorem Tryz.laysC245 : Go.Proofs.LaysC.n245 Tryz.prog Tryz.laysC245_ren := {
 mixed := by kernel_rfl
 f129 := Tryz.func103.trans (congrArg some (by kernel_rfl))
 f171 := Tryz.func35.trans (congrArg some (by kernel_rfl))
 f205 := Tryz.func76.trans (congrArg some (by kernel_rfl))
 f243 := Tryz.func50.trans (congrArg some (by kernel_rfl))
 f245 := Tryz.func39.trans (congrArg some (by kernel_rfl))
 f246 := Tryz.func69.trans (congrArg some (by kernel_rfl))
 f279 := Tryz.func53.trans (congrArg some (by kernel_rfl))
 f280 := Tryz.func54.trans (congrArg some (by kernel_rfl))
 f281 := Tryz.func55.trans (congrArg some (by kernel_rfl))
 f282 := Tryz.func56.trans (congrArg some (by kernel_rfl))
 f283 := Tryz.func85.trans (congrArg some (by kernel_rfl))
 f284 := Tryz.func86.trans (congrArg some (by kernel_rfl))
 f285 := Tryz.func87.trans (congrArg some (by kernel_rfl))
 f286 := Tryz.func88.trans (congrArg some (by kernel_rfl))
 f316 := Tryz.func75.trans (congrArg some (by kernel_rfl))
 f317 := Tryz.func104.trans (congrArg some (by kernel_rfl))
 f318 := Tryz.func105.trans (congrArg some (by kernel_rfl))
 f319 := Tryz.func106.trans (congrArg some (by kernel_rfl))
 f320 := Tryz.func107.trans (congrArg some (by kernel_rfl))
 f337 := Tryz.func114.trans (congrArg some (by kernel_rfl))
 f338 := Tryz.func115.trans (congrArg some (by kernel_rfl))
 t0 := Tryz.underlying0
 a0 := Tryz.isAgg0
 z0 := Tryz.sizeOf0
 v0 := Tryz.zeroValue0
 t2 := Tryz.underlying2
 a2 := Tryz.isAgg2
 z2 := Tryz.sizeOf2
 v2 := Tryz.zeroValue2
 t3 := Tryz.underlying3
 a3 := Tryz.isAgg3
 z3 := Tryz.sizeOf3
 v3 := Tryz.zeroValue3
 t4 := Tryz.underlying4
 a4 := Tryz.isAgg4
 z4 := Tryz.sizeOf4
 v4 := Tryz.zeroValue4
 t5 := Tryz.underlying5
 a5 := Tryz.isAgg5
 z5 := Tryz.sizeOf5
 v5 := Tryz.zeroValue5
 t9 := Tryz.underlying9
 a9 := Tryz.isAgg9
 z9 := Tryz.sizeOf9
 v9 := Tryz.zeroValue9
 t20 := Tryz.underlying20
 a20 := Tryz.isAgg20
 z20 := Tryz.sizeOf20
 v20 := Tryz.zeroValue20
 t37 := Tryz.underlying60
 a37 := Tryz.isAgg60
 z37 := Tryz.sizeOf60
 v37 := Tryz.zeroValue60
 t46 := Tryz.underlying89
 a46 := Tryz.isAgg89
 z46 := Tryz.sizeOf89
 v46 := Tryz.zeroValue89
 t51 := Tryz.underlying112
 a51 := Tryz.isAgg112
 z51 := Tryz.sizeOf112
 v51 := Tryz.zeroValue112
 t53 := Tryz.underlying93
 a53 := Tryz.isAgg93
 z53 := Tryz.sizeOf93
 v53 := Tryz.zeroValue93
 t75 := Tryz.underlying45
 a75 := Tryz.isAgg45
 z75 := Tryz.sizeOf45
 v75 := Tryz.zeroValue45
 t127 := Tryz.underlying80
 a127 := Tryz.isAgg80
 z127 := Tryz.sizeOf80
 v127 := Tryz.zeroValue80
 t143 := Tryz.underlying116
 a143 := Tryz.isAgg116
 z143 := Tryz.sizeOf116
 v143 := Tryz.zeroValue116
 t145 := Tryz.underlying118
 a145 := Tryz.isAgg118
 z145 := Tryz.sizeOf118
 v145 := Tryz.zeroValue118
 t167 := Tryz.underlying74
 a167 := Tryz.isAgg74
 z167 := Tryz.sizeOf74
 v167 := Tryz.zeroValue74
 t168 := Tryz.underlying77
 a168 := Tryz.isAgg77
 z168 := Tryz.sizeOf77
 v168 := Tryz.zeroValue77
 t171 := Tryz.underlying107
 a171 := Tryz.isAgg107
 z171 := Tryz.sizeOf107
 v171 := Tryz.zeroValue107
 t173 := Tryz.underlying110
 a173 := Tryz.isAgg110
 z173 := Tryz.sizeOf110
 v173 := Tryz.zeroValue110
 t210 := Tryz.underlying98
 a210 := Tryz.isAgg98
 z210 := Tryz.sizeOf98
 v210 := Tryz.zeroValue98
 t212 := Tryz.underlying132
 a212 := Tryz.isAgg132
 z212 := Tryz.sizeOf132
 v212 := Tryz.zeroValue132
 t213 := Tryz.underlying133
 a213 := Tryz.isAgg133
 z213 := Tryz.sizeOf133
 t232 := Tryz.underlying143
 a232 := Tryz.isAgg143
 z232 := Tryz.sizeOf143
 v232 := Tryz.zeroValue143
 t233 := Tryz.underlying144
 a233 := Tryz.isAgg144
 z233 := Tryz.sizeOf144
 v233 := Tryz.zeroValue144
 g15 := by kernel_rfl
 g16 := by kernel_rfl
 g17 := by kernel_rfl
 g18 := by kernel_rfl
 g19 := by kernel_rfl
 t80 := Tryz.underlying64
 a80 := Tryz.isAgg64
 z80 := Tryz.sizeOf64
 v80 := Tryz.zeroValue64
 i0 := by kernel_rfl
 i2 := by kernel_rfl
 i3 := by kernel_rfl
 i4 := by kernel_rfl
 i5 := by kernel_rfl
 i9 := by kernel_rfl
 i20 := by kernel_rfl
 i37 := by kernel_rfl
 i46 := by kernel_rfl
 i51 := by kernel_rfl
 i53 := by kernel_rfl
 i75 := by kernel_rfl
 i80 := by kernel_rfl
 i127 := by kernel_rfl
 i143 := by kernel_rfl
 i145 := by kernel_rfl
 i167 := by kernel_rfl
 i168 := by kernel_rfl
 i171 := by kernel_rfl
 i173 := by kernel_rfl
 i210 := by kernel_rfl
 i212 := by kernel_rfl
 i232 := by kernel_rfl
 i233 := by kernel_rfl
 m15 := by kernel_rfl
 m16 := by kernel_rfl
 m17 := by kernel_rfl
 m18 := by kernel_rfl
 m19 := by kernel_rfl
 c0 := by kernel_rfl
 c2 := by kernel_rfl
 c3 := by kernel_rfl
 c4 := by kernel_rfl
 c5 := by kernel_rfl
 c9 := by kernel_rfl
 c20 := by kernel_rfl
 c37 := by kernel_rfl
 c46 := by kernel_rfl
 c51 := by kernel_rfl
 c53 := by kernel_rfl
 c75 := by kernel_rfl
 c80 := by kernel_rfl
 c127 := by kernel_rfl
 c143 := by kernel_rfl
 c145 := by kernel_rfl
 c167 := by kernel_rfl
 c168 := by kernel_rfl
 c171 := by kernel_rfl
 c173 := by kernel_rfl
 c210 := by kernel_rfl
 c212 := by kernel_rfl
 c213 := by kernel_rfl
 c232 := by kernel_rfl
 c233 := by kernel_rfl }
open Go.RowKit in
theorem Tryz.strconv_toError_syntax (fn s : ByteArray) (base bits : Int) (ev : Value) (w : World) (hlim : s.size ≤ 281474976710656) (hv : w.cell? ⟨1, 0, none⟩ = some ev) (hev : ev = .nilIface ∨ ∃ te pe, ev = .iface te pe) :
  Calls Tryz.prog 39 #[.string fn, .string s, .int .i64 base, .int .i64 bits, .iface 74 (.int .i64 2)] w fun e w' => ∃ N, e = .returned (.iface 77 (.pointer (some ⟨N, 0, none⟩))) ∧ w.heap.size ≤ N ∧ w'.heap[N]? = some (.cells #[.string fn, .string s, ev] 98 (0, 0)) ∧ Below w.heap.size w w' := Any.strconv_toError_syntax Tryz.laysC245 fn s base bits ev w hlim hv hev
def Tryz.lays321_ren : Go.Shelf.Ren := ⟨fun | 321 => 91 | n => n, fun | 5 => 5 | n => n, fun | n => n⟩
theorem Tryz.lays321 : Go.Proofs.Lays.n321 Tryz.prog Tryz.lays321_ren := {
 mixed := by kernel_rfl
 f321 := Tryz.func91.trans (congrArg some (by kernel_rfl))
 t5 := Tryz.underlying5
 a5 := Tryz.isAgg5
 z5 := Tryz.sizeOf5
 v5 := Tryz.zeroValue5 }
open Go.RowKit in
theorem Tryz.internal_strconv_lower (c : Int) (w : World) :
  Calls Tryz.prog 91 #[.int .u8 c] w fun e w' => e = .returned (.int .u8 (bits .or .u8 c 32)) ∧ w' = w := Any.internal_strconv_lower Tryz.lays321 c w
def Tryz.lays287_ren : Go.Shelf.Ren := ⟨fun | 287 => 74 | 321 => 91 | 322 => 92 | n => n, fun | 9 => 9 | 3 => 3 | 53 => 93 | 75 => 45 | 4 => 4 | 167 => 74 | 5 => 5 | 46 => 89 | 37 => 60 | 0 => 0 | 21 => 21 | 80 => 64 | n => n, fun | n => n⟩
theorem Tryz.lays287 : Go.Proofs.Lays.n287 Tryz.prog Tryz.lays287_ren := {
 mixed := by kernel_rfl
 f287 := Tryz.func74.trans (congrArg some (by kernel_rfl))
 f321 := Tryz.func91.trans (congrArg some (by kernel_rfl))
 f322 := Tryz.func92.trans (congrArg some (by kernel_rfl))
 t0 := Tryz.underlying0
 a0 := Tryz.isAgg0
 z0 := Tryz.sizeOf0
 v0 := Tryz.zeroValue0
 t3 := Tryz.underlying3
 a3 := Tryz.isAgg3
 z3 := Tryz.sizeOf3
 v3 := Tryz.zeroValue3
 t4 := Tryz.underlying4
 a4 := Tryz.isAgg4
 z4 := Tryz.sizeOf4
 v4 := Tryz.zeroValue4
 t5 := Tryz.underlying5
 a5 := Tryz.isAgg5
 z5 := Tryz.sizeOf5
 v5 := Tryz.zeroValue5
 t9 := Tryz.underlying9
 a9 := Tryz.isAgg9
 z9 := Tryz.sizeOf9
 v9 := Tryz.zeroValue9
 t21 := Tryz.underlying21
 a21 := Tryz.isAgg21
 z21 := Tryz.sizeOf21
 v21 := Tryz.zeroValue21
 t37 := Tryz.underlying60
 a37 := Tryz.isAgg60
 z37 := Tryz.sizeOf60
 v37 := Tryz.zeroValue60
 t46 := Tryz.underlying89
 a46 := Tryz.isAgg89
 z46 := Tryz.sizeOf89
 v46 := Tryz.zeroValue89
 t53 := Tryz.underlying93
 a53 := Tryz.isAgg93
 z53 := Tryz.sizeOf93
 v53 := Tryz.zeroValue93
 t75 := Tryz.underlying45
 a75 := Tryz.isAgg45
 z75 := Tryz.sizeOf45
 v75 := Tryz.zeroValue45
 t167 := Tryz.underlying74
 a167 := Tryz.isAgg74
 z167 := Tryz.sizeOf74
 v167 := Tryz.zeroValue74 }
open Go.RowKit in
theorem Tryz.internal_strconv_ParseUint_10 (t : ByteArray) (hne : t.size ≠ 0) (hmax : t.size ≤ 9223372036854775806) (w : World) :
  Calls Tryz.prog 74 #[.string t, .int .i64 10, .int .i64 0] w fun e w' => e = .returned (Lib.uintTuple 74 (Lib.parseUint10 0 t.data.toList)) ∧ w' = Lib.bytesWorld w 5 t := Any.internal_strconv_ParseUint_10 Tryz.lays287 t hne hmax w
open Go.RowKit in
theorem Tryz.internal_strconv_ParseUint_10_any (t : ByteArray) (hmax : t.size ≤ 9223372036854775806) (w : World) :
  Calls Tryz.prog 74 #[.string t, .int .i64 10, .int .i64 0] w fun e w' => e = .returned (Lib.uintTuple 74 (Lib.parseMag t.data.toList)) ∧ (w' = w ∨ w' = Lib.bytesWorld w 5 t) := Any.internal_strconv_ParseUint_10_any Tryz.lays287 t hmax w
def Tryz.laysC247_ren : Go.Shelf.Ren := ⟨fun | 247 => 52 | 287 => 74 | 321 => 91 | 322 => 92 | n => n, fun | 9 => 9 | 3 => 3 | 2 => 2 | 75 => 45 | 4 => 4 | 167 => 74 | 5 => 5 | 53 => 93 | 175 => 94 | 46 => 89 | 37 => 60 | 0 => 0 | 21 => 21 | 80 => 64 | n => n, fun | n => n⟩
theorem Tryz.laysC247 : Go.Proofs.LaysC.n247 Tryz.prog Tryz.laysC247_ren := {
 mixed := by kernel_rfl
 f247 := Tryz.func52.trans (congrArg some (by kernel_rfl))
 f287 := Tryz.func74.trans (congrArg some (by kernel_rfl))
 f321 := Tryz.func91.trans (congrArg some (by kernel_rfl))
 f322 := Tryz.func92.trans (congrArg some (by kernel_rfl))
 t0 := Tryz.underlying0
 a0 := Tryz.isAgg0
 z0 := Tryz.sizeOf0
 v0 := Tryz.zeroValue0
 t2 := Tryz.underlying2
 a2 := Tryz.isAgg2
 z2 := Tryz.sizeOf2
 v2 := Tryz.zeroValue2
 t3 := Tryz.underlying3
 a3 := Tryz.isAgg3
 z3 := Tryz.sizeOf3
 v3 := Tryz.zeroValue3
 t4 := Tryz.underlying4
 a4 := Tryz.isAgg4
 z4 := Tryz.sizeOf4
 v4 := Tryz.zeroValue4
 t5 := Tryz.underlying5
 a5 := Tryz.isAgg5
 z5 := Tryz.sizeOf5
 v5 := Tryz.zeroValue5
 t9 := Tryz.underlying9
 a9 := Tryz.isAgg9
 z9 := Tryz.sizeOf9
 v9 := Tryz.zeroValue9
 t21 := Tryz.underlying21
 a21 := Tryz.isAgg21
 z21 := Tryz.sizeOf21
 v21 := Tryz.zeroValue21
 t37 := Tryz.underlying60
 a37 := Tryz.isAgg60
 z37 := Tryz.sizeOf60
 v37 := Tryz.zeroValue60
 t46 := Tryz.underlying89
 a46 := Tryz.isAgg89
 z46 := Tryz.sizeOf89
 v46 := Tryz.zeroValue89
 t53 := Tryz.underlying93
 a53 := Tryz.isAgg93
 z53 := Tryz.sizeOf93
 v53 := Tryz.zeroValue93
 t75 := Tryz.underlying45
 a75 := Tryz.isAgg45
 z75 := Tryz.sizeOf45
 v75 := Tryz.zeroValue45
 t167 := Tryz.underlying74
 a167 := Tryz.isAgg74
 z167 := Tryz.sizeOf74
 v167 := Tryz.zeroValue74
 t175 := Tryz.underlying94
 a175 := Tryz.isAgg94
 z175 := Tryz.sizeOf94
 v175 := Tryz.zeroValue94
 t80 := Tryz.underlying64
 a80 := Tryz.isAgg64
 z80 := Tryz.sizeOf64
 v80 := Tryz.zeroValue64
 i0 := by kernel_rfl
 i2 := by kernel_rfl
 i3 := by kernel_rfl
 i4 := by kernel_rfl
 i5 := by kernel_rfl
 i9 := by kernel_rfl
 i21 := by kernel_rfl
 i37 := by kernel_rfl
 i46 := by kernel_rfl
 i53 := by kernel_rfl
 i75 := by kernel_rfl
 i80 := by kernel_rfl
 i167 := by kernel_rfl
 i175 := by kernel_rfl
 c0 := by kernel_rfl
 c2 := by kernel_rfl
 c3 := by kernel_rfl
 c4 := by kernel_rfl
 c5 := by kernel_rfl
 c9 := by kernel_rfl
 c21 := by kernel_rfl
 c37 := by kernel_rfl
 c46 := by kernel_rfl
 c53 := by kernel_rfl
 c75 := by kernel_rfl
 c80 := by kernel_rfl
 c167 := by kernel_rfl
 c175 := by kernel_rfl }
open Go.RowKit in
theorem Tryz.internal_strconv_ParseInt_10 (s : ByteArray) (hne : s.size ≠ 0) (hmax : s.size ≤ 9223372036854775806) (w : World) :
  Calls Tryz.prog 52 #[.string s, .int .i64 10, .int .i64 0] w fun e w' => e = .returned (Lib.intTuple 74 (Lib.atoiSat s.data.toList) (Lib.atoiAll s.data.toList)) ∧ (w' = w ∨ ∃ t, w' = Lib.bytesWorld w 5 t) := Any.internal_strconv_ParseInt_10 Tryz.laysC247 s hne hmax w
def Tryz.laysC244_ren : Go.Shelf.Ren := ⟨fun | 244 => 38 | 247 => 52 | 287 => 74 | 321 => 91 | 322 => 92 | n => n, fun | 9 => 9 | 3 => 3 | 75 => 45 | 4 => 4 | 5 => 5 | 167 => 74 | 37 => 60 | 0 => 0 | 85 => 75 | 2 => 2 | 53 => 93 | 175 => 94 | 46 => 89 | 21 => 21 | 80 => 64 | n => n, fun | n => n⟩
theorem Tryz.laysC244 : Go.Proofs.LaysC.n244 Tryz.prog Tryz.laysC244_ren := {
 mixed := by kernel_rfl
 f244 := Tryz.func38.trans (congrArg some (by kernel_rfl))
 f247 := Tryz.func52.trans (congrArg some (by kernel_rfl))
 f287 := Tryz.func74.trans (congrArg some (by kernel_rfl))
 f321 := Tryz.func91.trans (congrArg some (by kernel_rfl))
 f322 := Tryz.func92.trans (congrArg some (by kernel_rfl))
 t0 := Tryz.underlying0
 a0 := Tryz.isAgg0
 z0 := Tryz.sizeOf0
 v0 := Tryz.zeroValue0
 t2 := Tryz.underlying2
 a2 := Tryz.isAgg2
 z2 := Tryz.sizeOf2
 v2 := Tryz.zeroValue2
 t3 := Tryz.underlying3
 a3 := Tryz.isAgg3
 z3 := Tryz.sizeOf3
 v3 := Tryz.zeroValue3
 t4 := Tryz.underlying4
 a4 := Tryz.isAgg4
 z4 := Tryz.sizeOf4
 v4 := Tryz.zeroValue4
 t5 := Tryz.underlying5
 a5 := Tryz.isAgg5
 z5 := Tryz.sizeOf5
 v5 := Tryz.zeroValue5
 t9 := Tryz.underlying9
 a9 := Tryz.isAgg9
 z9 := Tryz.sizeOf9
 v9 := Tryz.zeroValue9
 t21 := Tryz.underlying21
 a21 := Tryz.isAgg21
 z21 := Tryz.sizeOf21
 v21 := Tryz.zeroValue21
 t37 := Tryz.underlying60
 a37 := Tryz.isAgg60
 z37 := Tryz.sizeOf60
 v37 := Tryz.zeroValue60
 t46 := Tryz.underlying89
 a46 := Tryz.isAgg89
 z46 := Tryz.sizeOf89
 v46 := Tryz.zeroValue89
 t53 := Tryz.underlying93
 a53 := Tryz.isAgg93
 z53 := Tryz.sizeOf93
 v53 := Tryz.zeroValue93
 t75 := Tryz.underlying45
 a75 := Tryz.isAgg45
 z75 := Tryz.sizeOf45
 v75 := Tryz.zeroValue45
 t85 := Tryz.underlying75
 a85 := Tryz.isAgg75
 z85 := Tryz.sizeOf75
 v85 := Tryz.zeroValue75
 t167 := Tryz.underlying74
 a167 := Tryz.isAgg74
 z167 := Tryz.sizeOf74
 v167 := Tryz.zeroValue74
 t175 := Tryz.underlying94
 a175 := Tryz.isAgg94
 z175 := Tryz.sizeOf94
 v175 := Tryz.zeroValue94
 t80 := Tryz.underlying64
 a80 := Tryz.isAgg64
 z80 := Tryz.sizeOf64
 v80 := Tryz.zeroValue64
 i0 := by kernel_rfl
 i2 := by kernel_rfl
 i3 := by kernel_rfl
 i4 := by kernel_rfl
 i5 := by kernel_rfl
 i9 := by kernel_rfl
 i21 := by kernel_rfl
 i37 := by kernel_rfl
 i46 := by kernel_rfl
 i53 := by kernel_rfl
 i75 := by kernel_rfl
 i80 := by kernel_rfl
 i85 := by kernel_rfl
 i167 := by kernel_rfl
 i175 := by kernel_rfl
 c0 := by kernel_rfl
 c2 := by kernel_rfl
 c3 := by kernel_rfl
 c4 := by kernel_rfl
 c5 := by kernel_rfl
 c9 := by kernel_rfl
 c21 := by kernel_rfl
 c37 := by kernel_rfl
 c46 := by kernel_rfl
 c53 := by kernel_rfl
 c75 := by kernel_rfl
 c80 := by kernel_rfl
 c85 := by kernel_rfl
 c167 := by kernel_rfl
 c175 := by kernel_rfl }
open Go.RowKit in
theorem Tryz.internal_strconv_Atoi_long (s : ByteArray) (h19 : 19 ≤ s.size) (hmax : s.size ≤ 9223372036854775806) (w : World) :
  Calls Tryz.prog 38 #[.string s] w fun e w' => e = .returned (Lib.intTuple 74 (Lib.atoiSat s.data.toList) (Lib.atoiAll s.data.toList)) ∧ (w' = w ∨ ∃ t, w' = Lib.bytesWorld w 5 t) := Any.internal_strconv_Atoi_long Tryz.laysC244 s h19 hmax w
open Go.RowKit in
theorem Tryz.internal_strconv_Atoi_all (s : ByteArray) (hmax : s.size ≤ 9223372036854775806) (w : World) :
  Calls Tryz.prog 38 #[.string s] w fun e w' => e = .returned (Lib.intTuple 74 (Lib.atoiSat s.data.toList) (Lib.atoiAll s.data.toList)) ∧ (w' = w ∨ ∃ t, w' = Lib.bytesWorld w 5 t) := Any.internal_strconv_Atoi_all Tryz.laysC244 s hmax w
def Tryz.laysM280_ren : Go.Shelf.Ren := ⟨fun | 280 => 54 | 316 => 75 | n => n, fun | 9 => 9 | 168 => 77 | 75 => 45 | 210 => 98 | 3 => 3 | 4 => 4 | 37 => 60 | 0 => 0 | 127 => 80 | 80 => 64 | 5 => 5 | n => n, fun | 16 => 2 | n => n⟩
theorem Tryz.laysM280 : Go.Proofs.LaysM.n280 Tryz.prog Tryz.laysM280_ren := {
 mixed := by kernel_rfl
 f280 := Tryz.func54.trans (congrArg some (by kernel_rfl))
 f316 := Tryz.func75.trans (congrArg some (by kernel_rfl))
 t0 := Tryz.underlying0
 a0 := Tryz.isAgg0
 z0 := Tryz.sizeOf0
 v0 := Tryz.zeroValue0
 t3 := Tryz.underlying3
 a3 := Tryz.isAgg3
 z3 := Tryz.sizeOf3
 v3 := Tryz.zeroValue3
 t4 := Tryz.underlying4
 a4 := Tryz.isAgg4
 z4 := Tryz.sizeOf4
 v4 := Tryz.zeroValue4
 t9 := Tryz.underlying9
 a9 := Tryz.isAgg9
 z9 := Tryz.sizeOf9
 v9 := Tryz.zeroValue9
 t37 := Tryz.underlying60
 a37 := Tryz.isAgg60
 z37 := Tryz.sizeOf60
 v37 := Tryz.zeroValue60
 t75 := Tryz.underlying45
 a75 := Tryz.isAgg45
 z75 := Tryz.sizeOf45
 v75 := Tryz.zeroValue45
 t127 := Tryz.underlying80
 a127 := Tryz.isAgg80
 z127 := Tryz.sizeOf80
 v127 := Tryz.zeroValue80
 t168 := Tryz.underlying77
 a168 := Tryz.isAgg77
 z168 := Tryz.sizeOf77
 v168 := Tryz.zeroValue77
 t210 := Tryz.underlying98
 a210 := Tryz.isAgg98
 z210 := Tryz.sizeOf98
 v210 := Tryz.zeroValue98
 g16 := by kernel_rfl
 t5 := Tryz.underlying5
 a5 := Tryz.isAgg5
 z5 := Tryz.sizeOf5
 v5 := Tryz.zeroValue5
 t80 := Tryz.underlying64
 a80 := Tryz.isAgg64
 z80 := Tryz.sizeOf64
 v80 := Tryz.zeroValue64
 i0 := by kernel_rfl
 i3 := by kernel_rfl
 i4 := by kernel_rfl
 i5 := by kernel_rfl
 i9 := by kernel_rfl
 i37 := by kernel_rfl
 i75 := by kernel_rfl
 i80 := by kernel_rfl
 i127 := by kernel_rfl
 i168 := by kernel_rfl
 i210 := by kernel_rfl
 m16 := by kernel_rfl }
open Go.RowKit in
theorem Tryz.strconv_rangeError (fn s : ByteArray) (ev : Value) (w : World) (hlim : s.size ≤ 281474976710656) (hv : w.cell? ⟨2, 0, none⟩ = some ev) (hev : ev = .nilIface ∨ ∃ te pe, ev = .iface te pe) :
  Calls Tryz.prog 54 #[.string fn, .string s] w fun e w' => ∃ N, e = .returned (.pointer (some ⟨N, 0, none⟩)) ∧ w.heap.size ≤ N ∧ w'.heap[N]? = some (.cells #[.string fn, .string s, ev] 98 (0, 0)) ∧ Below w.heap.size w w' := Any.strconv_rangeError Tryz.laysM280 fn s ev w hlim hv hev
open Go.RowKit in
theorem Tryz.strconv_toError_range (fn s : ByteArray) (base bits : Int) (ev : Value) (w : World) (hlim : s.size ≤ 281474976710656) (hv : w.cell? ⟨2, 0, none⟩ = some ev) (hev : ev = .nilIface ∨ ∃ te pe, ev = .iface te pe) :
  Calls Tryz.prog 39 #[.string fn, .string s, .int .i64 base, .int .i64 bits, .iface 74 (.int .i64 1)] w fun e w' => ∃ N, e = .returned (.iface 77 (.pointer (some ⟨N, 0, none⟩))) ∧ w.heap.size ≤ N ∧ w'.heap[N]? = some (.cells #[.string fn, .string s, ev] 98 (0, 0)) ∧ Below w.heap.size w w' := Any.strconv_toError_range Tryz.laysC245 fn s base bits ev w hlim hv hev
def Tryz.laysC172_ren : Go.Shelf.Ren := ⟨fun | 172 => 26 | 244 => 38 | 245 => 39 | 247 => 52 | 279 => 53 | 280 => 54 | 281 => 55 | 282 => 56 | 287 => 74 | 316 => 75 | 171 => 35 | 205 => 76 | 321 => 91 | 322 => 92 | 243 => 50 | 246 => 69 | 283 => 85 | 284 => 86 | 285 => 87 | 286 => 88 | 129 => 103 | 317 => 104 | 318 => 105 | 319 => 106 | 320 => 107 | 337 => 114 | 338 => 115 | n => n, fun | 9 => 9 | 3 => 3 | 75 => 45 | 76 => 46 | 4 => 4 | 5 => 5 | 167 => 74 | 37 => 60 | 0 => 0 | 85 => 75 | 2 => 2 | 168 => 77 | 53 => 93 | 175 => 94 | 46 => 89 | 210 => 98 | 127 => 80 | 145 => 118 | 143 => 116 | 21 => 21 | 171 => 107 | 173 => 110 | 212 => 132 | 51 => 112 | 20 => 20 | 213 => 133 | 232 => 143 | 233 => 144 | 80 => 64 | n => n, fun | 15 => 1 | 16 => 2 | 17 => 5 | 18 => 6 | 19 => 7 | n => n⟩
theorem Tryz.laysC172 : Go.Proofs.LaysC.n172 Tryz.prog Tryz.laysC172_ren := {
 mixed := by kernel_rfl
 f129 := Tryz.func103.trans (congrArg some (by kernel_rfl))
 f171 := Tryz.func35.trans (congrArg some (by kernel_rfl))
 f172 := Tryz.func26.trans (congrArg some (by kernel_rfl))
 f205 := Tryz.func76.trans (congrArg some (by kernel_rfl))
 f243 := Tryz.func50.trans (congrArg some (by kernel_rfl))
 f244 := Tryz.func38.trans (congrArg some (by kernel_rfl))
 f245 := Tryz.func39.trans (congrArg some (by kernel_rfl))
 f246 := Tryz.func69.trans (congrArg some (by kernel_rfl))
 f247 := Tryz.func52.trans (congrArg some (by kernel_rfl))
 f279 := Tryz.func53.trans (congrArg some (by kernel_rfl))
 f280 := Tryz.func54.trans (congrArg some (by kernel_rfl))
 f281 := Tryz.func55.trans (congrArg some (by kernel_rfl))
 f282 := Tryz.func56.trans (congrArg some (by kernel_rfl))
 f283 := Tryz.func85.trans (congrArg some (by kernel_rfl))
 f284 := Tryz.func86.trans (congrArg some (by kernel_rfl))
 f285 := Tryz.func87.trans (congrArg some (by kernel_rfl))
 f286 := Tryz.func88.trans (congrArg some (by kernel_rfl))
 f287 := Tryz.func74.trans (congrArg some (by kernel_rfl))
 f316 := Tryz.func75.trans (congrArg some (by kernel_rfl))
 f317 := Tryz.func104.trans (congrArg some (by kernel_rfl))
 f318 := Tryz.func105.trans (congrArg some (by kernel_rfl))
 f319 := Tryz.func106.trans (congrArg some (by kernel_rfl))
 f320 := Tryz.func107.trans (congrArg some (by kernel_rfl))
 f321 := Tryz.func91.trans (congrArg some (by kernel_rfl))
 f322 := Tryz.func92.trans (congrArg some (by kernel_rfl))
 f337 := Tryz.func114.trans (congrArg some (by kernel_rfl))
 f338 := Tryz.func115.trans (congrArg some (by kernel_rfl))
 t0 := Tryz.underlying0
 a0 := Tryz.isAgg0
 z0 := Tryz.sizeOf0
 v0 := Tryz.zeroValue0
 t2 := Tryz.underlying2
 a2 := Tryz.isAgg2
 z2 := Tryz.sizeOf2
 v2 := Tryz.zeroValue2
 t3 := Tryz.underlying3
 a3 := Tryz.isAgg3
 z3 := Tryz.sizeOf3
 v3 := Tryz.zeroValue3
 t4 := Tryz.underlying4
 a4 := Tryz.isAgg4
 z4 := Tryz.sizeOf4
 v4 := Tryz.zeroValue4
 t5 := Tryz.underlying5
 a5 := Tryz.isAgg5
 z5 := Tryz.sizeOf5
 v5 := Tryz.zeroValue5
 t9 := Tryz.underlying9
 a9 := Tryz.isAgg9
 z9 := Tryz.sizeOf9
 v9 := Tryz.zeroValue9
 t20 := Tryz.underlying20
 a20 := Tryz.isAgg20
 z20 := Tryz.sizeOf20
 v20 := Tryz.zeroValue20
 t21 := Tryz.underlying21
 a21 := Tryz.isAgg21
 z21 := Tryz.sizeOf21
 v21 := Tryz.zeroValue21
 t37 := Tryz.underlying60
 a37 := Tryz.isAgg60
 z37 := Tryz.sizeOf60
 v37 := Tryz.zeroValue60
 t46 := Tryz.underlying89
 a46 := Tryz.isAgg89
 z46 := Tryz.sizeOf89
 v46 := Tryz.zeroValue89
 t51 := Tryz.underlying112
 a51 := Tryz.isAgg112
 z51 := Tryz.sizeOf112
 v51 := Tryz.zeroValue112
 t53 := Tryz.underlying93
 a53 := Tryz.isAgg93
 z53 := Tryz.sizeOf93
 v53 := Tryz.zeroValue93
 t75 := Tryz.underlying45
 a75 := Tryz.isAgg45
 z75 := Tryz.sizeOf45
 v75 := Tryz.zeroValue45
 t76 := Tryz.underlying46
 a76 := Tryz.isAgg46
 z76 := Tryz.sizeOf46
 v76 := Tryz.zeroValue46
 t85 := Tryz.underlying75
 a85 := Tryz.isAgg75
 z85 := Tryz.sizeOf75
 v85 := Tryz.zeroValue75
 t127 := Tryz.underlying80
 a127 := Tryz.isAgg80
 z127 := Tryz.sizeOf80
 v127 := Tryz.zeroValue80
 t143 := Tryz.underlying116
 a143 := Tryz.isAgg116
 z143 := Tryz.sizeOf116
 v143 := Tryz.zeroValue116
 t145 := Tryz.underlying118
 a145 := Tryz.isAgg118
 z145 := Tryz.sizeOf118
 v145 := Tryz.zeroValue118
 t167 := Tryz.underlying74
 a167 := Tryz.isAgg74
 z167 := Tryz.sizeOf74
 v167 := Tryz.zeroValue74
 t168 := Tryz.underlying77
 a168 := Tryz.isAgg77
 z168 := Tryz.sizeOf77
 v168 := Tryz.zeroValue77
 t171 := Tryz.underlying107
 a171 := Tryz.isAgg107
 z171 := Tryz.sizeOf107
 v171 := Tryz.zeroValue107
 t173 := Tryz.underlying110
 a173 := Tryz.isAgg110
 z173 := Tryz.sizeOf110
 v173 := Tryz.zeroValue110
 t175 := Tryz.underlying94
 a175 := Tryz.isAgg94
 z175 := Tryz.sizeOf94
 v175 := Tryz.zeroValue94
 t210 := Tryz.underlying98
 a210 := Tryz.isAgg98
 z210 := Tryz.sizeOf98
 v210 := Tryz.zeroValue98
 t212 := Tryz.underlying132
 a212 := Tryz.isAgg132
 z212 := Tryz.sizeOf132
 v212 := Tryz.zeroValue132
 t213 := Tryz.underlying133
 a213 := Tryz.isAgg133
 z213 := Tryz.sizeOf133
 t232 := Tryz.underlying143
 a232 := Tryz.isAgg143
 z232 := Tryz.sizeOf143
 v232 := Tryz.zeroValue143
 t233 := Tryz.underlying144
 a233 := Tryz.isAgg144
 z233 := Tryz.sizeOf144
 v233 := Tryz.zeroValue144
 g15 := by kernel_rfl
 g16 := by kernel_rfl
 g17 := by kernel_rfl
 g18 := by kernel_rfl
 g19 := by kernel_rfl
 t80 := Tryz.underlying64
 a80 := Tryz.isAgg64
 z80 := Tryz.sizeOf64
 v80 := Tryz.zeroValue64
 i0 := by kernel_rfl
 i2 := by kernel_rfl
 i3 := by kernel_rfl
 i4 := by kernel_rfl
 i5 := by kernel_rfl
 i9 := by kernel_rfl
 i20 := by kernel_rfl
 i21 := by kernel_rfl
 i37 := by kernel_rfl
 i46 := by kernel_rfl
 i51 := by kernel_rfl
 i53 := by kernel_rfl
 i75 := by kernel_rfl
 i76 := by kernel_rfl
 i80 := by kernel_rfl
 i85 := by kernel_rfl
 i127 := by kernel_rfl
 i143 := by kernel_rfl
 i145 := by kernel_rfl
 i167 := by kernel_rfl
 i168 := by kernel_rfl
 i171 := by kernel_rfl
 i173 := by kernel_rfl
 i175 := by kernel_rfl
 i210 := by kernel_rfl
 i212 := by kernel_rfl
 i232 := by kernel_rfl
 i233 := by kernel_rfl
 m15 := by kernel_rfl
 m16 := by kernel_rfl
 m17 := by kernel_rfl
 m18 := by kernel_rfl
 m19 := by kernel_rfl
 c0 := by kernel_rfl
 c2 := by kernel_rfl
 c3 := by kernel_rfl
 c4 := by kernel_rfl
 c5 := by kernel_rfl
 c9 := by kernel_rfl
 c20 := by kernel_rfl
 c21 := by kernel_rfl
 c37 := by kernel_rfl
 c46 := by kernel_rfl
 c51 := by kernel_rfl
 c53 := by kernel_rfl
 c75 := by kernel_rfl
 c76 := by kernel_rfl
 c80 := by kernel_rfl
 c85 := by kernel_rfl
 c127 := by kernel_rfl
 c143 := by kernel_rfl
 c145 := by kernel_rfl
 c167 := by kernel_rfl
 c168 := by kernel_rfl
 c171 := by kernel_rfl
 c173 := by kernel_rfl
 c175 := by kernel_rfl
 c210 := by kernel_rfl
 c212 := by kernel_rfl
 c213 := by kernel_rfl
 c232 := by kernel_rfl
 c233 := by kernel_rfl }
open Go.RowKit in
theorem Tryz.strconv_Atoi_ok (s : ByteArray) (hmax : s.size ≤ 9223372036854775806) (v : Int) (h : Lib.atoiAll s.data.toList = .ok v) (w : World) :
  Calls Tryz.prog 26 #[.string s] w fun e w' => e = .returned (.tuple #[.int .i64 v, .nilIface]) ∧ (w' = w ∨ ∃ t, w' = Lib.bytesWorld w 5 t) := Any.strconv_Atoi_ok Tryz.laysC172 s hmax v h w
open Go.RowKit in
theorem Tryz.strconv_Atoi_range (s : ByteArray) (hlim : s.size ≤ 281474976710656) (h : Lib.atoiAll s.data.toList = .range) (ev : Value) (w : World) (hv : w.cell? ⟨2, 0, none⟩ = some ev) (hev : ev = .nilIface ∨ ∃ te pe, ev = .iface te pe) :
  Calls Tryz.prog 26 #[.string s] w fun e w' => ∃ N, e = .returned (.tuple #[.int .i64 (Lib.atoiSat s.data.toList), .iface 77 (.pointer (some ⟨N, 0, none⟩))]) ∧ w.heap.size ≤ N ∧ w'.heap[N]? = some (.cells #[.string ⟨#[65, 116, 111, 105]⟩, .string s, ev] 98 (0, 0)) ∧ Below w.heap.size w w' := Any.strconv_Atoi_range Tryz.laysC172 s hlim h ev w hv hev
open Go.RowKit in
theorem Tryz.strconv_Atoi_range_var (s : ByteArray) (hlim : s.size ≤ 281474976710656) (h : Lib.atoiAll s.data.toList = .range) (tp : TypeId) (p : Value) (w : World) (hvar : w.var? Tryz.prog "strconv.ErrRange" = some #[.iface tp p]) :
  Calls Tryz.prog 26 #[.string s] w fun e w' => ∃ N, e = .returned (.tuple #[.int .i64 (Lib.atoiSat s.data.toList), .iface 77 (.pointer (some ⟨N, 0, none⟩))]) ∧ w.heap.size ≤ N ∧ w'.heap[N]? = some (.cells #[.string ⟨#[65, 116, 111, 105]⟩, .string s, .iface tp p] 98 (0, 0)) ∧ Below w.heap.size w w' := Any.strconv_Atoi_range_var Tryz.laysC172 s hlim h tp p w hvar
open Go.RowKit in
theorem Tryz.internal_strconv_ParseUint_empty (base bits : Int) (w : World) :
  Calls Tryz.prog 74 #[.string ⟨#[]⟩, .int .i64 base, .int .i64 bits] w fun e w' => e = .returned (.tuple #[.int .u64 0, .iface 74 (.int .i64 2)]) ∧ w' = w := Any.internal_strconv_ParseUint_empty Tryz.lays287 base bits w
open Go.RowKit in
theorem Tryz.internal_strconv_ParseUint_10_b64 (t : ByteArray) (hne : t.size ≠ 0) (hmax : t.size ≤ 9223372036854775806) (w : World) :
  Calls Tryz.prog 74 #[.string t, .int .i64 10, .int .i64 64] w fun e w' => e = .returned (Lib.uintTuple 74 (Lib.parseUint10 0 t.data.toList)) ∧ w' = Lib.bytesWorld w 5 t := Any.internal_strconv_ParseUint_10_b64 Tryz.lays287 t hne hmax w
open Go.RowKit in
theorem Tryz.internal_strconv_ParseUint_10_b32 (t : ByteArray) (hne : t.size ≠ 0) (hmax : t.size ≤ 9223372036854775806) (w : World) :
  Calls Tryz.prog 74 #[.string t, .int .i64 10, .int .i64 32] w fun e w' => e = .returned (Lib.uintTupleM 74 4294967295 (Lib.parseUintM 4294967295 0 t.data.toList)) ∧ w' = Lib.bytesWorld w 5 t := Any.internal_strconv_ParseUint_10_b32 Tryz.lays287 t hne hmax w
open Go.RowKit in
theorem Tryz.internal_strconv_ParseUint_10_b16 (t : ByteArray) (hne : t.size ≠ 0) (hmax : t.size ≤ 9223372036854775806) (w : World) :
  Calls Tryz.prog 74 #[.string t, .int .i64 10, .int .i64 16] w fun e w' => e = .returned (Lib.uintTupleM 74 65535 (Lib.parseUintM 65535 0 t.data.toList)) ∧ w' = Lib.bytesWorld w 5 t := Any.internal_strconv_ParseUint_10_b16 Tryz.lays287 t hne hmax w
open Go.RowKit in
theorem Tryz.internal_strconv_ParseUint_10_b8 (t : ByteArray) (hne : t.size ≠ 0) (hmax : t.size ≤ 9223372036854775806) (w : World) :
  Calls Tryz.prog 74 #[.string t, .int .i64 10, .int .i64 8] w fun e w' => e = .returned (Lib.uintTupleM 74 255 (Lib.parseUintM 255 0 t.data.toList)) ∧ w' = Lib.bytesWorld w 5 t := Any.internal_strconv_ParseUint_10_b8 Tryz.lays287 t hne hmax w
def Tryz.lays217_ren : Go.Shelf.Ren := ⟨fun | 217 => 70 | 266 => 89 | n => n, fun | 9 => 9 | 5 => 5 | 3 => 3 | n => n, fun | n => n⟩
theorem Tryz.lays217 : Go.Proofs.Lays.n217 Tryz.prog Tryz.lays217_ren := {
 mixed := by kernel_rfl
 f217 := Tryz.func70.trans (congrArg some (by kernel_rfl))
 f266 := Tryz.func89.trans (congrArg some (by kernel_rfl))
 t3 := Tryz.underlying3
 a3 := Tryz.isAgg3
 z3 := Tryz.sizeOf3
 v3 := Tryz.zeroValue3
 t5 := Tryz.underlying5
 a5 := Tryz.isAgg5
 z5 := Tryz.sizeOf5
 v5 := Tryz.zeroValue5
 t9 := Tryz.underlying9
 a9 := Tryz.isAgg9
 z9 := Tryz.sizeOf9
 v9 := Tryz.zeroValue9 }
open Go.RowKit Go.Lib in
theorem Tryz.stringslite_IndexByte (s : ByteArray) (c : Int) (w : World) :
  Calls Tryz.prog 70 #[.string s, .int .u8 c] w fun e w' => e = .returned (.int .i64 (Lib.indexByte s.data.toList c.toNat.toUInt8)) ∧ w' = w := Any.stringslite_IndexByte Tryz.lays217 s c w
def Tryz.lays224_ren : Go.Shelf.Ren := ⟨fun | 224 => 72 | n => n, fun | 3 => 3 | n => n, fun | n => n⟩
theorem Tryz.lays224 : Go.Proofs.Lays.n224 Tryz.prog Tryz.lays224_ren := {
 mixed := by kernel_rfl
 f224 := Tryz.func72.trans (congrArg some (by kernel_rfl))
 t3 := Tryz.underlying3
 a3 := Tryz.isAgg3
 z3 := Tryz.sizeOf3
 v3 := Tryz.zeroValue3 }
open Go.RowKit Go.Lib in
theorem Tryz.bytealg_Cutover (n : Int) (h0 : 0 ≤ n) (h1 : n < 4611686018427387904) (w : World) :
  Calls Tryz.prog 72 #[.int .i64 n] w fun e w' => e = .returned (.int .i64 ((n + 16) / 8)) ∧ w' = w := Any.bytealg_Cutover Tryz.lays224 n h0 h1 w
def Tryz.lays314_ren : Go.Shelf.Ren := ⟨fun | 314 => 90 | n => n, fun | 9 => 9 | 51 => 112 | 3 => 3 | 4 => 4 | 5 => 5 | 46 => 89 | n => n, fun | n => n⟩
theorem Tryz.lays314 : Go.Proofs.Lays.n314 Tryz.prog Tryz.lays314_ren := {
 mixed := by kernel_rfl
 f314 := Tryz.func90.trans (congrArg some (by kernel_rfl))
 t3 := Tryz.underlying3
 a3 := Tryz.isAgg3
 z3 := Tryz.sizeOf3
 v3 := Tryz.zeroValue3
 t4 := Tryz.underlying4
 a4 := Tryz.isAgg4
 z4 := Tryz.sizeOf4
 v4 := Tryz.zeroValue4
 t5 := Tryz.underlying5
 a5 := Tryz.isAgg5
 z5 := Tryz.sizeOf5
 v5 := Tryz.zeroValue5
 t9 := Tryz.underlying9
 a9 := Tryz.isAgg9
 z9 := Tryz.sizeOf9
 v9 := Tryz.zeroValue9
 t46 := Tryz.underlying89
 a46 := Tryz.isAgg89
 z46 := Tryz.sizeOf89
 v46 := Tryz.zeroValue89
 t51 := Tryz.underlying112
 a51 := Tryz.isAgg112
 z51 := Tryz.sizeOf112
 v51 := Tryz.zeroValue112 }
open Go.RowKit Go.Lib in
theorem Tryz.bytealg_hashStr (sep : ByteArray) (hs : sep.size < 4294967281) (w : World) :
  Calls Tryz.prog 90 #[.string sep] w fun e w' => e = .returned (.tuple #[.int .u32 (RK.H sep.data.toList % 4294967296), .int .u32 (16777619 ^ sep.size % 4294967296)]) ∧ w' = w := Any.bytealg_hashStr Tryz.lays314 sep hs w
def Tryz.lays267_ren : Go.Shelf.Ren := ⟨fun | 267 => 73 | 314 => 90 | n => n, fun | 9 => 9 | 3 => 3 | 146 => 113 | 51 => 112 | 4 => 4 | 5 => 5 | 46 => 89 | n => n, fun | n => n⟩
theorem Tryz.lays267 : Go.Proofs.Lays.n267 Tryz.prog Tryz.lays267_ren := {
 mixed := by kernel_rfl
 f267 := Tryz.func73.trans (congrArg some (by kernel_rfl))
 f314 := Tryz.func90.trans (congrArg some (by kernel_rfl))
 t3 := Tryz.underlying3
 a3 := Tryz.isAgg3
 z3 := Tryz.sizeOf3
 v3 := Tryz.zeroValue3
 t4 := Tryz.underlying4
 a4 := Tryz.isAgg4
 z4 := Tryz.sizeOf4
 v4 := Tryz.zeroValue4
 t5 := Tryz.underlying5
 a5 := Tryz.isAgg5
 z5 := Tryz.sizeOf5
 v5 := Tryz.zeroValue5
 t9 := Tryz.underlying9
 a9 := Tryz.isAgg9
 z9 := Tryz.sizeOf9
 v9 := Tryz.zeroValue9
 t46 := Tryz.underlying89
 a46 := Tryz.isAgg89
 z46 := Tryz.sizeOf89
 v46 := Tryz.zeroValue89
 t51 := Tryz.underlying112
 a51 := Tryz.isAgg112
 z51 := Tryz.sizeOf112
 v51 := Tryz.zeroValue112
 t146 := Tryz.underlying113
 a146 := Tryz.isAgg113
 z146 := Tryz.sizeOf113
 v146 := Tryz.zeroValue113 }
open Go.RowKit Go.Lib in
theorem Tryz.bytealg_IndexRabinKarp (s sep : ByteArray) (h1 : 1 ≤ sep.size) (h2 : sep.size ≤ s.size) (hs : s.size < 4294967281) (w : World) :
  Calls Tryz.prog 73 #[.string s, .string sep] w fun e w' => e = .returned (.int .i64 (Lib.index s.data.toList sep.data.toList)) ∧ w' = w := Any.bytealg_IndexRabinKarp Tryz.lays267 s sep h1 h2 hs w
def Tryz.lays219_ren : Go.Shelf.Ren := ⟨fun | 219 => 51 | 217 => 70 | 225 => 71 | 224 => 72 | 267 => 73 | 266 => 89 | 314 => 90 | n => n, fun | 9 => 9 | 3 => 3 | 4 => 4 | 5 => 5 | 46 => 89 | 146 => 113 | 51 => 112 | n => n, fun | 1 => 0 | n => n⟩
theorem Tryz.lays219 : Go.Proofs.Lays.n219 Tryz.prog Tryz.lays219_ren := {
 mixed := by kernel_rfl
 f217 := Tryz.func70.trans (congrArg some (by kernel_rfl))
 f219 := Tryz.func51.trans (congrArg some (by kernel_rfl))
 f224 := Tryz.func72.trans (congrArg some (by kernel_rfl))
 f225 := Tryz.func71.trans (congrArg some (by kernel_rfl))
 f266 := Tryz.func89.trans (congrArg some (by kernel_rfl))
 f267 := Tryz.func73.trans (congrArg some (by kernel_rfl))
 f314 := Tryz.func90.trans (congrArg some (by kernel_rfl))
 t3 := Tryz.underlying3
 a3 := Tryz.isAgg3
 z3 := Tryz.sizeOf3
 v3 := Tryz.zeroValue3
 t4 := Tryz.underlying4
 a4 := Tryz.isAgg4
 z4 := Tryz.sizeOf4
 v4 := Tryz.zeroValue4
 t5 := Tryz.underlying5
 a5 := Tryz.isAgg5
 z5 := Tryz.sizeOf5
 v5 := Tryz.zeroValue5
 t9 := Tryz.underlying9
 a9 := Tryz.isAgg9
 z9 := Tryz.sizeOf9
 v9 := Tryz.zeroValue9
 t46 := Tryz.underlying89
 a46 := Tryz.isAgg89
 z46 := Tryz.sizeOf89
 v46 := Tryz.zeroValue89
 t51 := Tryz.underlying112
 a51 := Tryz.isAgg112
 z51 := Tryz.sizeOf112
 v51 := Tryz.zeroValue112
 t146 := Tryz.underlying113
 a146 := Tryz.isAgg113
 z146 := Tryz.sizeOf113
 v146 := Tryz.zeroValue113
 g1 := by kernel_rfl }
open Go.RowKit Go.Lib in
theorem Tryz.stringslite_Index_one (s : ByteArray) (c : UInt8) (w : World) :
  Calls Tryz.prog 51 #[.string s, .string ⟨#[c]⟩] w fun e w' => e = .returned (.int .i64 (Lib.indexByte s.data.toList c)) ∧ w' = w := Any.stringslite_Index_one Tryz.lays219 s c w
open Go.RowKit Go.Lib in
theorem Tryz.stringslite_Index (s sub : ByteArray) (m : Int) (w : World) (hs : s.size < 4294967281) (hm : w.cell? ⟨0, 0, none⟩ = some (.int .i64 m)) :
  Calls Tryz.prog 51 #[.string s, .string sub] w fun e w' => e = .returned (.int .i64 (Lib.index s.data.toList sub.data.toList)) ∧ w' = w := Any.stringslite_Index Tryz.lays219 s sub m w hs hm
def Tryz.lays143_ren : Go.Shelf.Ren := ⟨fun | 143 => 61 | 219 => 51 | 217 => 70 | 225 => 71 | 224 => 72 | 267 => 73 | 266 => 89 | 314 => 90 | n => n, fun | 9 => 9 | 3 => 3 | 4 => 4 | 5 => 5 | 46 => 89 | 146 => 113 | 51 => 112 | n => n, fun | 1 => 0 | n => n⟩
theorem Tryz.lays143 : Go.Proofs.Lays.n143 Tryz.prog Tryz.lays143_ren := {
 mixed := by kernel_rfl
 f143 := Tryz.func61.trans (congrArg some (by kernel_rfl))
 f217 := Tryz.func70.trans (congrArg some (by kernel_rfl))
 f219 := Tryz.func51.trans (congrArg some (by kernel_rfl))
 f224 := Tryz.func72.trans (congrArg some (by kernel_rfl))
 f225 := Tryz.func71.trans (congrArg some (by kernel_rfl))
 f266 := Tryz.func89.trans (congrArg some (by kernel_rfl))
 f267 := Tryz.func73.trans (congrArg some (by kernel_rfl))
 f314 := Tryz.func90.trans (congrArg some (by kernel_rfl))
 t3 := Tryz.underlying3
 a3 := Tryz.isAgg3
 z3 := Tryz.sizeOf3
 v3 := Tryz.zeroValue3
 t4 := Tryz.underlying4
 a4 := Tryz.isAgg4
 z4 := Tryz.sizeOf4
 v4 := Tryz.zeroValue4
 t5 := Tryz.underlying5
 a5 := Tryz.isAgg5
 z5 := Tryz.sizeOf5
 v5 := Tryz.zeroValue5
 t9 := Tryz.underlying9
 a9 := Tryz.isAgg9
 z9 := Tryz.sizeOf9
 v9 := Tryz.zeroValue9
 t46 := Tryz.underlying89
 a46 := Tryz.isAgg89
 z46 := Tryz.sizeOf89
 v46 := Tryz.zeroValue89
 t51 := Tryz.underlying112
 a51 := Tryz.isAgg112
 z51 := Tryz.sizeOf112
 v51 := Tryz.zeroValue112
 t146 := Tryz.underlying113
 a146 := Tryz.isAgg113
 z146 := Tryz.sizeOf113
 v146 := Tryz.zeroValue113
 g1 := by kernel_rfl }
open Go.RowKit Go.Lib in
theorem Tryz.strings_Index_one (s : ByteArray) (c : UInt8) (w : World) :
  Calls Tryz.prog 61 #[.string s, .string ⟨#[c]⟩] w fun e w' => e = .returned (.int .i64 (Lib.indexByte s.data.toList c)) ∧ w' = w := Any.strings_Index_one Tryz.lays143 s c w
open Go.RowKit Go.Lib in
theorem Tryz.strings_Index (s sub : ByteArray) (m : Int) (w : World) (hs : s.size < 4294967281) (hm : w.cell? ⟨0, 0, none⟩ = some (.int .i64 m)) :
  Calls Tryz.prog 61 #[.string s, .string sub] w fun e w' => e = .returned (.int .i64 (Lib.index s.data.toList sub.data.toList)) ∧ w' = w := Any.strings_Index Tryz.lays143 s sub m w hs hm
def Tryz.lays220_ren : Go.Shelf.Ren := ⟨fun | 220 => 37 | 219 => 51 | 217 => 70 | 225 => 71 | 224 => 72 | 267 => 73 | 266 => 89 | 314 => 90 | n => n, fun | 9 => 9 | 4 => 4 | 3 => 3 | 5 => 5 | 46 => 89 | 146 => 113 | 51 => 112 | n => n, fun | 1 => 0 | n => n⟩
theorem Tryz.lays220 : Go.Proofs.Lays.n220 Tryz.prog Tryz.lays220_ren := {
 mixed := by kernel_rfl
 f217 := Tryz.func70.trans (congrArg some (by kernel_rfl))
 f219 := Tryz.func51.trans (congrArg some (by kernel_rfl))
 f220 := Tryz.func37.trans (congrArg some (by kernel_rfl))
 f224 := Tryz.func72.trans (congrArg some (by kernel_rfl))
 f225 := Tryz.func71.trans (congrArg some (by kernel_rfl))
 f266 := Tryz.func89.trans (congrArg some (by kernel_rfl))
 f267 := Tryz.func73.trans (congrArg some (by kernel_rfl))
 f314 := Tryz.func90.trans (congrArg some (by kernel_rfl))
 t3 := Tryz.underlying3
 a3 := Tryz.isAgg3
 z3 := Tryz.sizeOf3
 v3 := Tryz.zeroValue3
 t4 := Tryz.underlying4
 a4 := Tryz.isAgg4
 z4 := Tryz.sizeOf4
 v4 := Tryz.zeroValue4
 t5 := Tryz.underlying5
 a5 := Tryz.isAgg5
 z5 := Tryz.sizeOf5
 v5 := Tryz.zeroValue5
 t9 := Tryz.underlying9
 a9 := Tryz.isAgg9
 z9 := Tryz.sizeOf9
 v9 := Tryz.zeroValue9
 t46 := Tryz.underlying89
 a46 := Tryz.isAgg89
 z46 := Tryz.sizeOf89
 v46 := Tryz.zeroValue89
 t51 := Tryz.underlying112
 a51 := Tryz.isAgg112
 z51 := Tryz.sizeOf112
 v51 := Tryz.zeroValue112
 t146 := Tryz.underlying113
 a146 := Tryz.isAgg113
 z146 := Tryz.sizeOf113
 v146 := Tryz.zeroValue113
 g1 := by kernel_rfl }
open Go.RowKit Go.Lib in
theorem Tryz.stringslite_Cut (s sep : ByteArray) (m : Int) (w : World) (hs : s.size < 4294967281) (hm : w.cell? ⟨0, 0, none⟩ = some (.int .i64 m)) :
  Calls Tryz.prog 37 #[.string s, .string sep] w fun e w' => e = .returned (.tuple #[.string ⟨(Lib.cut s.data.toList sep.data.toList).1.toArray⟩, .string ⟨(Lib.cut s.data.toList sep.data.toList).2.1.toArray⟩, .bool (Lib.cut s.data.toList sep.data.toList).2.2]) ∧ ∃ n, w' = w.drewN n := Any.stringslite_Cut Tryz.lays220 s sep m w hs hm
def Tryz.lays145_ren : Go.Shelf.Ren := ⟨fun | 145 => 25 | 220 => 37 | 219 => 51 | 217 => 70 | 225 => 71 | 224 => 72 | 267 => 73 | 266 => 89 | 314 => 90 | n => n, fun | 9 => 9 | 4 => 4 | 59 => 42 | 3 => 3 | 5 => 5 | 46 => 89 | 146 => 113 | 51 => 112 | n => n, fun | 1 => 0 | n => n⟩
theorem Tryz.lays145 : Go.Proofs.Lays.n145 Tryz.prog Tryz.lays145_ren := {
 mixed := by kernel_rfl
 f145 := Tryz.func25.trans (congrArg some (by kernel_rfl))
 f217 := Tryz.func70.trans (congrArg some (by kernel_rfl))
 f219 := Tryz.func51.trans (congrArg some (by kernel_rfl))
 f220 := Tryz.func37.trans (congrArg some (by kernel_rfl))
 f224 := Tryz.func72.trans (congrArg some (by kernel_rfl))
 f225 := Tryz.func71.trans (congrArg some (by kernel_rfl))
 f266 := Tryz.func89.trans (congrArg some (by kernel_rfl))
 f267 := Tryz.func73.trans (congrArg some (by kernel_rfl))
 f314 := Tryz.func90.trans (congrArg some (by kernel_rfl))
 t3 := Tryz.underlying3
 a3 := Tryz.isAgg3
 z3 := Tryz.sizeOf3
 v3 := Tryz.zeroValue3
 t4 := Tryz.underlying4
 a4 := Tryz.isAgg4
 z4 := Tryz.sizeOf4
 v4 := Tryz.zeroValue4
 t5 := Tryz.underlying5
 a5 := Tryz.isAgg5
 z5 := Tryz.sizeOf5
 v5 := Tryz.zeroValue5
 t9 := Tryz.underlying9
 a9 := Tryz.isAgg9
 z9 := Tryz.sizeOf9
 v9 := Tryz.zeroValue9
 t46 := Tryz.underlying89
 a46 := Tryz.isAgg89
 z46 := Tryz.sizeOf89
 v46 := Tryz.zeroValue89
 t51 := Tryz.underlying112
 a51 := Tryz.isAgg112
 z51 := Tryz.sizeOf112
 v51 := Tryz.zeroValue112
 t59 := Tryz.underlying42
 a59 := Tryz.isAgg42
 z59 := Tryz.sizeOf42
 v59 := Tryz.zeroValue42
 t146 := Tryz.underlying113
 a146 := Tryz.isAgg113
 z146 := Tryz.sizeOf113
 v146 := Tryz.zeroValue113
 g1 := by kernel_rfl }
open Go.RowKit Go.Lib in
theorem Tryz.strings_Cut (s sep : ByteArray) (m : Int) (w : World) (hs : s.size < 4294967281) (hm : w.cell? ⟨0, 0, none⟩ = some (.int .i64 m)) :
  Calls Tryz.prog 25 #[.string s, .string sep] w fun e w' => e = .returned (.tuple #[.string ⟨(Lib.cut s.data.toList sep.data.toList).1.toArray⟩, .string ⟨(Lib.cut s.data.toList sep.data.toList).2.1.toArray⟩, .bool (Lib.cut s.data.toList sep.data.toList).2.2]) ∧ ∃ n, w' = w.drewN n := Any.strings_Cut Tryz.lays145 s sep m w hs hm
def Tryz.laysM219_ren : Go.Shelf.Ren := ⟨fun | 219 => 51 | 217 => 70 | 225 => 71 | 224 => 72 | 267 => 73 | 266 => 89 | 314 => 90 | n => n, fun | 9 => 9 | 3 => 3 | 4 => 4 | 5 => 5 | 46 => 89 | 146 => 113 | 51 => 112 | n => n, fun | 1 => 0 | n => n⟩
theorem Tryz.laysM219 : Go.Proofs.LaysM.n219 Tryz.prog Tryz.laysM219_ren := {
 mixed := by kernel_rfl
 f217 := Tryz.func70.trans (congrArg some (by kernel_rfl))
 f219 := Tryz.func51.trans (congrArg some (by kernel_rfl))
 f224 := Tryz.func72.trans (congrArg some (by kernel_rfl))
 f225 := Tryz.func71.trans (congrArg some (by kernel_rfl))
 f266 := Tryz.func89.trans (congrArg some (by kernel_rfl))
 f267 := Tryz.func73.trans (congrArg some (by kernel_rfl))
 f314 := Tryz.func90.trans (congrArg some (by kernel_rfl))
 t3 := Tryz.underlying3
 a3 := Tryz.isAgg3
 z3 := Tryz.sizeOf3
 v3 := Tryz.zeroValue3
 t4 := Tryz.underlying4
 a4 := Tryz.isAgg4
 z4 := Tryz.sizeOf4
 v4 := Tryz.zeroValue4
 t5 := Tryz.underlying5
 a5 := Tryz.isAgg5
 z5 := Tryz.sizeOf5
 v5 := Tryz.zeroValue5
 t9 := Tryz.underlying9
 a9 := Tryz.isAgg9
 z9 := Tryz.sizeOf9
 v9 := Tryz.zeroValue9
 t46 := Tryz.underlying89
 a46 := Tryz.isAgg89
 z46 := Tryz.sizeOf89
 v46 := Tryz.zeroValue89
 t51 := Tryz.underlying112
 a51 := Tryz.isAgg112
 z51 := Tryz.sizeOf112
 v51 := Tryz.zeroValue112
 t146 := Tryz.underlying113
 a146 := Tryz.isAgg113
 z146 := Tryz.sizeOf113
 v146 := Tryz.zeroValue113
 g1 := by kernel_rfl
 i3 := by kernel_rfl
 i4 := by kernel_rfl
 i5 := by kernel_rfl
 i9 := by kernel_rfl
 i46 := by kernel_rfl
 i51 := by kernel_rfl
 i146 := by kernel_rfl
 m1 := by kernel_rfl
 s1_3 := fun w h => Go.Proofs.cell_of_shapedOpen_int (zero := #[.int .i64 0]) (t := 3) h (of_decide_eq_true (by kernel_rfl)) (by kernel_rfl) rfl (by kernel_rfl) (by kernel_rfl) Tryz.underlying3 }
open Go.RowKit Go.Lib in
theorem Tryz.stringslite_Index_shaped (s sub : ByteArray) (w : World) (h : w.ShapedOpen Tryz.prog) (hs : s.size < 4294967281) :
  Calls Tryz.prog 51 #[.string s, .string sub] w fun e w' => e = .returned (.int .i64 (Lib.index s.data.toList sub.data.toList)) ∧ w' = w := Any.stringslite_Index_shaped Tryz.laysM219 s sub w h hs
def Tryz.laysM143_ren : Go.Shelf.Ren := ⟨fun | 143 => 61 | 219 => 51 | 217 => 70 | 225 => 71 | 224 => 72 | 267 => 73 | 266 => 89 | 314 => 90 | n => n, fun | 9 => 9 | 3 => 3 | 4 => 4 | 5 => 5 | 46 => 89 | 146 => 113 | 51 => 112 | n => n, fun | 1 => 0 | n => n⟩
theorem Tryz.laysM143 : Go.Proofs.LaysM.n143 Tryz.prog Tryz.laysM143_ren := {
 mixed := by kernel_rfl
 f143 := Tryz.func61.trans (congrArg some (by kernel_rfl))
 f217 := Tryz.func70.trans (congrArg some (by kernel_rfl))
 f219 := Tryz.func51.trans (congrArg some (by kernel_rfl))
 f224 := Tryz.func72.trans (congrArg some (by kernel_rfl))
 f225 := Tryz.func71.trans (congrArg some (by kernel_rfl))
 f266 := Tryz.func89.trans (congrArg some (by kernel_rfl))
 f267 := Tryz.func73.trans (congrArg some (by kernel_rfl))
 f314 := Tryz.func90.trans (congrArg some (by kernel_rfl))
 t3 := Tryz.underlying3
 a3 := Tryz.isAgg3
 z3 := Tryz.sizeOf3
 v3 := Tryz.zeroValue3
 t4 := Tryz.underlying4
 a4 := Tryz.isAgg4
 z4 := Tryz.sizeOf4
 v4 := Tryz.zeroValue4
 t5 := Tryz.underlying5
 a5 := Tryz.isAgg5
 z5 := Tryz.sizeOf5
 v5 := Tryz.zeroValue5
 t9 := Tryz.underlying9
 a9 := Tryz.isAgg9
 z9 := Tryz.sizeOf9
 v9 := Tryz.zeroValue9
 t46 := Tryz.underlying89
 a46 := Tryz.isAgg89
 z46 := Tryz.sizeOf89
 v46 := Tryz.zeroValue89
 t51 := Tryz.underlying112
 a51 := Tryz.isAgg112
 z51 := Tryz.sizeOf112
 v51 := Tryz.zeroValue112
 t146 := Tryz.underlying113
 a146 := Tryz.isAgg113
 z146 := Tryz.sizeOf113
 v146 := Tryz.zeroValue113
 g1 := by kernel_rfl
 i3 := by kernel_rfl
 i4 := by kernel_rfl
 i5 := by kernel_rfl
 i9 := by kernel_rfl
 i46 := by kernel_rfl
 i51 := by kernel_rfl
 i146 := by kernel_rfl
 m1 := by kernel_rfl
 s1_3 := fun w h => Go.Proofs.cell_of_shapedOpen_int (zero := #[.int .i64 0]) (t := 3) h (of_decide_eq_true (by kernel_rfl)) (by kernel_rfl) rfl (by kernel_rfl) (by kernel_rfl) Tryz.underlying3 }
open Go.RowKit Go.Lib in
theorem Tryz.strings_Index_shaped (s sub : ByteArray) (w : World) (h : w.ShapedOpen Tryz.prog) (hs : s.size < 4294967281) :
  Calls Tryz.prog 61 #[.string s, .string sub] w fun e w' => e = .returned (.int .i64 (Lib.index s.data.toList sub.data.toList)) ∧ w' = w := Any.strings_Index_shaped Tryz.laysM143 s sub w h hs
def Tryz.laysM220_ren : Go.Shelf.Ren := ⟨fun | 220 => 37 | 219 => 51 | 217 => 70 | 225 => 71 | 224 => 72 | 267 => 73 | 266 => 89 | 314 => 90 | n => n, fun | 9 => 9 | 4 => 4 | 3 => 3 | 5 => 5 | 46 => 89 | 146 => 113 | 51 => 112 | n => n, fun | 1 => 0 | n => n⟩
theorem Tryz.laysM220 : Go.Proofs.LaysM.n220 Tryz.prog Tryz.laysM220_ren := {
 mixed := by kernel_rfl
 f217 := Tryz.func70.trans (congrArg some (by kernel_rfl))
 f219 := Tryz.func51.trans (congrArg some (by kernel_rfl))
 f220 := Tryz.func37.trans (congrArg some (by kernel_rfl))
 f224 := Tryz.func72.trans (congrArg some (by kernel_rfl))
 f225 := Tryz.func71.trans (congrArg some (by kernel_rfl))
 f266 := Tryz.func89.trans (congrArg some (by kernel_rfl))
 f267 := Tryz.func73.trans (congrArg some (by kernel_rfl))
 f314 := Tryz.func90.trans (congrArg some (by kernel_rfl))
 t3 := Tryz.underlying3
 a3 := Tryz.isAgg3
 z3 := Tryz.sizeOf3
 v3 := Tryz.zeroValue3
 t4 := Tryz.underlying4
 a4 := Tryz.isAgg4
 z4 := Tryz.sizeOf4
 v4 := Tryz.zeroValue4
 t5 := Tryz.underlying5
 a5 := Tryz.isAgg5
 z5 := Tryz.sizeOf5
 v5 := Tryz.zeroValue5
 t9 := Tryz.underlying9
 a9 := Tryz.isAgg9
 z9 := Tryz.sizeOf9
 v9 := Tryz.zeroValue9
 t46 := Tryz.underlying89
 a46 := Tryz.isAgg89
 z46 := Tryz.sizeOf89
 v46 := Tryz.zeroValue89
 t51 := Tryz.underlying112
 a51 := Tryz.isAgg112
 z51 := Tryz.sizeOf112
 v51 := Tryz.zeroValue112
 t146 := Tryz.underlying113
 a146 := Tryz.isAgg113
 z146 := Tryz.sizeOf113
 v146 := Tryz.zeroValue113
 g1 := by kernel_rfl
 i3 := by kernel_rfl
 i4 := by kernel_rfl
 i5 := by kernel_rfl
 i9 := by kernel_rfl
 i46 := by kernel_rfl
 i51 := by kernel_rfl
 i146 := by kernel_rfl
 m1 := by kernel_rfl
 s1_3 := fun w h => Go.Proofs.cell_of_shapedOpen_int (zero := #[.int .i64 0]) (t := 3) h (of_decide_eq_true (by kernel_rfl)) (by kernel_rfl) rfl (by kernel_rfl) (by kernel_rfl) Tryz.underlying3 }
open Go.RowKit Go.Lib in
theorem Tryz.stringslite_Cut_shaped (s sep : ByteArray) (w : World) (h : w.ShapedOpen Tryz.prog) (hs : s.size < 4294967281) :
  Calls Tryz.prog 37 #[.string s, .string sep] w fun e w' => e = .returned (.tuple #[.string ⟨(Lib.cut s.data.toList sep.data.toList).1.toArray⟩, .string ⟨(Lib.cut s.data.toList sep.data.toList).2.1.toArray⟩, .bool (Lib.cut s.data.toList sep.data.toList).2.2]) ∧ ∃ n, w' = w.drewN n := Any.stringslite_Cut_shaped Tryz.laysM220 s sep w h hs
def Tryz.laysM145_ren : Go.Shelf.Ren := ⟨fun | 145 => 25 | 220 => 37 | 219 => 51 | 217 => 70 | 225 => 71 | 224 => 72 | 267 => 73 | 266 => 89 | 314 => 90 | n => n, fun | 9 => 9 | 4 => 4 | 59 => 42 | 3 => 3 | 5 => 5 | 46 => 89 | 146 => 113 | 51 => 112 | n => n, fun | 1 => 0 | n => n⟩
theorem Tryz.laysM145 : Go.Proofs.LaysM.n145 Tryz.prog Tryz.laysM145_ren := {
 mixed := by kernel_rfl
 f145 := Tryz.func25.trans (congrArg some (by kernel_rfl))
 f217 := Tryz.func70.trans (congrArg some (by kernel_rfl))
 f219 := Tryz.func51.trans (congrArg some (by kernel_rfl))
 f220 := Tryz.func37.trans (congrArg some (by kernel_rfl))
 f224 := Tryz.func72.trans (congrArg some (by kernel_rfl))
 f225 := Tryz.func71.trans (congrArg some (by kernel_rfl))
 f266 := Tryz.func89.trans (congrArg some (by kernel_rfl))
 f267 := Tryz.func73.trans (congrArg some (by kernel_rfl))
 f314 := Tryz.func90.trans (congrArg some (by kernel_rfl))
 t3 := Tryz.underlying3
 a3 := Tryz.isAgg3
 z3 := Tryz.sizeOf3
 v3 := Tryz.zeroValue3
 t4 := Tryz.underlying4
 a4 := Tryz.isAgg4
 z4 := Tryz.sizeOf4
 v4 := Tryz.zeroValue4
 t5 := Tryz.underlying5
 a5 := Tryz.isAgg5
 z5 := Tryz.sizeOf5
 v5 := Tryz.zeroValue5
 t9 := Tryz.underlying9
 a9 := Tryz.isAgg9
 z9 := Tryz.sizeOf9
 v9 := Tryz.zeroValue9
 t46 := Tryz.underlying89
 a46 := Tryz.isAgg89
 z46 := Tryz.sizeOf89
 v46 := Tryz.zeroValue89
 t51 := Tryz.underlying112
 a51 := Tryz.isAgg112
 z51 := Tryz.sizeOf112
 v51 := Tryz.zeroValue112
 t59 := Tryz.underlying42
 a59 := Tryz.isAgg42
 z59 := Tryz.sizeOf42
 v59 := Tryz.zeroValue42
 t146 := Tryz.underlying113
 a146 := Tryz.isAgg113
 z146 := Tryz.sizeOf113
 v146 := Tryz.zeroValue113
 g1 := by kernel_rfl
 i3 := by kernel_rfl
 i4 := by kernel_rfl
 i5 := by kernel_rfl
 i9 := by kernel_rfl
 i46 := by kernel_rfl
 i51 := by kernel_rfl
 i59 := by kernel_rfl
 i146 := by kernel_rfl
 m1 := by kernel_rfl
 s1_3 := fun w h => Go.Proofs.cell_of_shapedOpen_int (zero := #[.int .i64 0]) (t := 3) h (of_decide_eq_true (by kernel_rfl)) (by kernel_rfl) rfl (by kernel_rfl) (by kernel_rfl) Tryz.underlying3 }
open Go.RowKit Go.Lib in
theorem Tryz.strings_Cut_shaped (s sep : ByteArray) (w : World) (h : w.ShapedOpen Tryz.prog) (hs : s.size < 4294967281) :
  Calls Tryz.prog 25 #[.string s, .string sep] w fun e w' => e = .returned (.tuple #[.string ⟨(Lib.cut s.data.toList sep.data.toList).1.toArray⟩, .string ⟨(Lib.cut s.data.toList sep.data.toList).2.1.toArray⟩, .bool (Lib.cut s.data.toList sep.data.toList).2.2]) ∧ ∃ n, w' = w.drewN n := Any.strings_Cut_shaped Tryz.laysM145 s sep w h hs
def Tryz.lays197_ren : Go.Shelf.Ren := ⟨fun | 197 => 60 | 260 => 79 | n => n, fun | 9 => 9 | 21 => 21 | 3 => 3 | 4 => 4 | 5 => 5 | 105 => 81 | 119 => 119 | 0 => 0 | 46 => 89 | 139 => 122 | 138 => 121 | n => n, fun | 3 => 3 | 4 => 4 | n => n⟩
theorem Tryz.lays197 : Go.Proofs.Lays.n197 Tryz.prog Tryz.lays197_ren := {
 mixed := by kernel_rfl
 f197 := Tryz.func60.trans (congrArg some (by kernel_rfl))
 f260 := Tryz.func79.trans (congrArg some (by kernel_rfl))
 t0 := Tryz.underlying0
 a0 := Tryz.isAgg0
 z0 := Tryz.sizeOf0
 v0 := Tryz.zeroValue0
 t3 := Tryz.underlying3
 a3 := Tryz.isAgg3
 z3 := Tryz.sizeOf3
 v3 := Tryz.zeroValue3
 t4 := Tryz.underlying4
 a4 := Tryz.isAgg4
 z4 := Tryz.sizeOf4
 v4 := Tryz.zeroValue4
 t5 := Tryz.underlying5
 a5 := Tryz.isAgg5
 z5 := Tryz.sizeOf5
 v5 := Tryz.zeroValue5
 t9 := Tryz.underlying9
 a9 := Tryz.isAgg9
 z9 := Tryz.sizeOf9
 v9 := Tryz.zeroValue9
 t21 := Tryz.underlying21
 a21 := Tryz.isAgg21
 z21 := Tryz.sizeOf21
 v21 := Tryz.zeroValue21
 t46 := Tryz.underlying89
 a46 := Tryz.isAgg89
 z46 := Tryz.sizeOf89
 v46 := Tryz.zeroValue89
 t105 := Tryz.underlying81
 a105 := Tryz.isAgg81
 z105 := Tryz.sizeOf81
 v105 := Tryz.zeroValue81
 t119 := Tryz.underlying119
 a119 := Tryz.isAgg119
 z119 := Tryz.sizeOf119
 t138 := Tryz.underlying121
 a138 := Tryz.isAgg121
 z138 := Tryz.sizeOf121
 v138 := Tryz.zeroValue121
 t139 := Tryz.underlying122
 a139 := Tryz.isAgg122
 z139 := Tryz.sizeOf122
 v139 := Tryz.zeroValue122
 g3 := by kernel_rfl
 g4 := by kernel_rfl }
open Go.RowKit Go.Lib in
theorem Tryz.utf8_DecodeRuneInString_ascii (s : ByteArray) (x : UInt8) (w : World) (h0 : s.data.toList[0]? = some x) (hx : x.toNat < 128) :
  Calls Tryz.prog 60 #[.string s] w fun e w' => e = .returned (.tuple #[.int .i32 x.toNat, .int .i64 1]) ∧ w' = w := Any.utf8_DecodeRuneInString_ascii Tryz.lays197 s x w h0 hx
def Tryz.lays260_ren : Go.Shelf.Ren := ⟨fun | 260 => 79 | n => n, fun | 9 => 9 | 21 => 21 | 3 => 3 | 4 => 4 | 5 => 5 | 119 => 119 | 0 => 0 | 46 => 89 | 139 => 122 | 138 => 121 | n => n, fun | 3 => 3 | 4 => 4 | n => n⟩
theorem Tryz.lays260 : Go.Proofs.Lays.n260 Tryz.prog Tryz.lays260_ren := {
 mixed := by kernel_rfl
 f260 := Tryz.func79.trans (congrArg some (by kernel_rfl))
 t0 := Tryz.underlying0
 a0 := Tryz.isAgg0
 z0 := Tryz.sizeOf0
 v0 := Tryz.zeroValue0
 t3 := Tryz.underlying3
 a3 := Tryz.isAgg3
 z3 := Tryz.sizeOf3
 v3 := Tryz.zeroValue3
 t4 := Tryz.underlying4
 a4 := Tryz.isAgg4
 z4 := Tryz.sizeOf4
 v4 := Tryz.zeroValue4
 t5 := Tryz.underlying5
 a5 := Tryz.isAgg5
 z5 := Tryz.sizeOf5
 v5 := Tryz.zeroValue5
 t9 := Tryz.underlying9
 a9 := Tryz.isAgg9
 z9 := Tryz.sizeOf9
 v9 := Tryz.zeroValue9
 t21 := Tryz.underlying21
 a21 := Tryz.isAgg21
 z21 := Tryz.sizeOf21
 v21 := Tryz.zeroValue21
 t46 := Tryz.underlying89
 a46 := Tryz.isAgg89
 z46 := Tryz.sizeOf89
 v46 := Tryz.zeroValue89
 t119 := Tryz.underlying119
 a119 := Tryz.isAgg119
 z119 := Tryz.sizeOf119
 t138 := Tryz.underlying121
 a138 := Tryz.isAgg121
 z138 := Tryz.sizeOf121
 v138 := Tryz.zeroValue121
 t139 := Tryz.underlying122
 a139 := Tryz.isAgg122
 z139 := Tryz.sizeOf122
 v139 := Tryz.zeroValue122
 g3 := by kernel_rfl
 g4 := by kernel_rfl }
open Go.RowKit Go.Lib in
theorem Tryz.utf8_decodeRuneInStringSlow (s : ByteArray) (w : World) (hT : Lib.Utf8Tabs 3 4 w) :
  Calls Tryz.prog 79 #[.string s] w fun e w' => e = .returned (.tuple #[.int .i32 (Lib.decodeGo s).1, .int .i64 (Lib.decodeGo s).2]) ∧ Below w.heap.size w w' := Any.utf8_decodeRuneInStringSlow Tryz.lays260 s w hT
open Go.RowKit Go.Lib in
theorem Tryz.utf8_DecodeRuneInString (s : ByteArray) (w : World) (hT : Lib.Utf8Tabs 3 4 w) :
  Calls Tryz.prog 60 #[.string s] w fun e w' => e = .returned (.tuple #[.int .i32 (Lib.decodeGo s).1, .int .i64 (Lib.decodeGo s).2]) ∧ Below w.heap.size w w' := Any.utf8_DecodeRuneInString Tryz.lays197 s w hT
def Tryz.laysNm237_ren : Go.Shelf.Ren := ⟨fun | 37 => 82 | n => n, fun | 3 => 3 | 4 => 4 | n => n, fun | n => n⟩
theorem Tryz.laysNm237 : Go.Proofs.Lays2.n37 Tryz.prog Tryz.laysNm237_ren := {
 mixed := by kernel_rfl
 f37 := Tryz.func82.trans (congrArg some (by kernel_rfl))
 t3 := Tryz.underlying3
 a3 := Tryz.isAgg3
 z3 := Tryz.sizeOf3
 v3 := Tryz.zeroValue3
 t4 := Tryz.underlying4
 a4 := Tryz.isAgg4
 z4 := Tryz.sizeOf4
 v4 := Tryz.zeroValue4 }
open Go.RowKit Go.Lib in
theorem Tryz.cmp_isNaN_int2 (x : Int) (w : World) :
  Calls Tryz.prog 82 #[.int .i64 x] w fun e w' => e = .returned (.bool false) ∧ w' = w := Any.cmp_isNaN_int2 Tryz.laysNm237 x w
end Go.Proofs

namespace Go.Proofs.YtcmdcgghpkcchaaGreatDoor.Idx
def idxFrom {α : Type} (p : α → Bool) (l : List α) : Int := if l.any p then (l.findIdx p : Int) else -1
theorem idxFrom_at {α : Type} {p : α → Bool} {l : List α} {i : Nat} (hi : i < l.length) (hp : p l[i] = true) (hb : ∀ j (h : j < l.length), j < i → p l[j] = false) : idxFrom p l = i := by
 have ha : l.any p = true := List.any_eq_true.2 ⟨l[i], List.getElem_mem hi, hp⟩
 have hf : l.findIdx p = i := by
  rw [List.findIdx_eq hi]
  exact ⟨hp, fun j hj => hb j _ hj⟩
 simp [idxFrom, ha, hf]
theorem idxFrom_none {α : Type} {p : α → Bool} {l : List α} (hb : ∀ j (h : j < l.length), j < l.length → p l[j] = false) : idxFrom p l = -1 := by
 have ha : l.any p = false := by
  rw [List.any_eq_false]
  intro x hx
  obtain ⟨j, hj, rfl⟩ := List.mem_iff_getElem.1 hx
  simp [hb j hj hj]
 simp [idxFrom, ha]
theorem idx_ge {α : Type} (p : α → Bool) (l : List α) : decide (0 ≤ idxFrom p l) = l.any p := by
 unfold idxFrom
 by_cases h : l.any p = true
 ·
  simp [h]
 ·
  have h2 : l.any p = false := by simpa using h
  simp [h2]
end Go.Proofs.YtcmdcgghpkcchaaGreatDoor.Idx


/- The library's table of the powers of ten, its bound for searches and its two errors of numbers are in the world. -/
namespace Go.Proofs.YtcmdcgghpkcchaaGreatDoor.Tab
set_option linter.unusedVariables false
set_option linter.unusedSimpArgs false
open Go.RowKit Go.Proofs.YtcmdcgghpkcchaaGreatDoorW.PrintWords Go.Proofs.YtcmdcgghpkcchaaGreatDoorW.PrintLast Go.Proofs.YtcmdcgghpkcchaaGreatDoorW.PrintMore
theorem gpow : Tryz.prog.globalNamed "internal/strconv.uint64pow10" = some 5 := by kernel_rfl
theorem gmax : Tryz.prog.globalNamed "internal/bytealg.MaxLen" = some 0 := by kernel_rfl
theorem gsyn : Tryz.prog.globalNamed "strconv.ErrSyntax" = some 1 := by kernel_rfl
theorem grng : Tryz.prog.globalNamed "strconv.ErrRange" = some 2 := by kernel_rfl
def Tabs (w : World) : Prop := Lib.TabIs Tryz.prog w "internal/strconv.uint64pow10" .u64 Lib.pow10Tab ∧ (∃ m, w.cell? ⟨0, 0, none⟩ = some (.int .i64 m)) ∧ (∃ t p, w.cell? ⟨1, 0, none⟩ = some (.iface t p)) ∧ ∃ t p, w.cell? ⟨2, 0, none⟩ = some (.iface t p)
theorem pow {w : World} (h : Tabs w) : Lib.TabIs Tryz.prog w "internal/strconv.uint64pow10" .u64 Lib.pow10Tab := h.1
theorem stays {w w' : World} {a : Addr} {v : Value} (hb : Below w.heap.size w w') (h : w.cell? a = some v) : w'.cell? a = some v := (hb.cell (World.block_lt_of_cell? w _ h)).trans h
theorem Tabs.below {w w' : World} (h : Tabs w) (hb : Below w.heap.size w w') : Tabs w' :=
 ⟨Go.Joins.tab_stays gpow h.1 hb (Nat.le_refl _), h.2.1.imp fun _ e => stays hb e, h.2.2.1.imp fun _ e => e.imp fun _ e => stays hb e, h.2.2.2.imp fun _ e => e.imp fun _ e => stays hb e⟩
theorem Tabs.alloc {w : World} (h : Tabs w) (o : Obj) : Tabs (w.alloc o) := h.below (below_alloc (Below.refl _ _) o)
theorem Tabs.drewN {w : World} (h : Tabs w) (n : Nat) : Tabs (w.drewN n) := h.below (pw_below_drewN (Below.refl _ _) n)
theorem Tabs.drew {w : World} (h : Tabs w) : Tabs w.drew := h.below (pw_below_drewN (Below.refl _ _) 1)
end Go.Proofs.YtcmdcgghpkcchaaGreatDoor.Tab

/- Short words for what the printed walks prove again and again: each bears its own proof as a default, found where it is used. -/
namespace Go.Proofs.YtcmdcgghpkcchaaGreatDoorW.PrintMore
open Go.RowKit Go.Proofs.YtcmdcgghpkcchaaGreatDoorW.PrintWords Go.Proofs.YtcmdcgghpkcchaaGreatDoorW.PrintLast
set_option linter.unusedVariables false

theorem bel {n : Nat} {w W : World} (h : Below n w W := by repeat (first | (with_reducible first | exact HB.out | apply below_alloc | apply pw_below_drewN | apply below_drew1 | refine below_set ?_ (Aside0.out (by assumption))) | exact HB.out)) : Below n w W := h
theorem blkz {W : World} {g : Nat} {o : Obj} (h : W.heap[g]? = some o := by (with_reducible repeat (first | refine blk_drewN ?_ _ | refine blk_drew ?_ | refine blk_alloc ?_ _)); exact Aside0.out (by assumption)) : W.heap[g]? = some o := h
theorem blkc {W : World} {g : Nat} {cs : Array Value} {t : TypeId} (h : W.heap[g]? = some (.cells cs t (0, 0))) (i : Nat) (v : Value) (e : cs[i]? = some v) : W.cell? ⟨g, i, none⟩ = some v := (blk_cell h i).trans e
theorem cbz {α : Type} {d : Kd α} {w W : World} {A : Option Addr} {n : Nat} {xs : List α} (K : Aside0 (d.C w A n xs)) (h : Below w.heap.size w W := by repeat (first | (with_reducible first | exact HB.out | apply below_alloc | apply pw_below_drewN | apply below_drew1 | refine below_set ?_ (Aside0.out (by assumption))) | exact HB.out)) : d.C W A n xs := Kd.C_below K.out h
theorem mapz {α : Type} {a b : α} (h : a = b := by (try simp only [List.map_toArray, List.map_cons, List.map_nil]); first | done | rfl | (simp only [List.length_drop, List.length_take]; rfl)) : a = b := h
theorem asz {p : Prop} (h : p := by first | (with_reducible assumption) | assumption) : p := h
theorem rsz {α : Sort _} {a b : α} (h : a = b := by first | rfl | (simp; done) | (simp [*]; done)) : a = b := h
theorem drz {w W : World} (h : Drawn0 w W := by repeat (first | exact Drawn0.refl _ | apply Drawn0.step)) : Drawn0 w W := h
theorem ownx {α : Type} {d : Kd α} {e : Nat} {W0 W : World} {base : Nat} {ok : Nat → Prop} {v : Value} {xs : List α} (K : Aside0 (d.R e W0 base ok v xs)) (h : d.R e W base ok v xs := by (with_reducible repeat (first | apply Kd.R_alloc | apply Kd.R_drewN | apply Kd.R_drew)); exact Aside0.out (by assumption)) : d.R e W base ok v xs := h
theorem ezz {α : Sort _} {a b : α} (h : a = b := by first | rfl | (simp [errW_none, errW_some] <;> rfl) | (simp [*, errW_none, errW_some] <;> rfl)) : a = b := h
theorem bsz {w W : World} {g : Nat} (hg : g = W.heap.size) (h : Below w.heap.size w W := by repeat (first | (with_reducible first | exact HB.out | apply below_alloc | apply pw_below_drewN | apply below_drew1 | refine below_set ?_ (Aside0.out (by assumption))) | exact HB.out)) : Aside0 (w.heap.size ≤ g) := ⟨by rw [hg]; exact below_size h⟩
theorem neL {W : World} {g g' : Nat} {o : Obj} (hg : g' = W.heap.size) (h : W.heap[g]? = some o := by (with_reducible repeat (first | refine blk_drewN ?_ _ | refine blk_drew ?_ | refine blk_alloc ?_ _)); exact Aside0.out (by assumption)) : Aside0 (g ≠ g') := ⟨by rw [hg]; exact Nat.ne_of_lt (blk_lt h)⟩
theorem neR {W : World} {g g' : Nat} {o : Obj} (hg : g' = W.heap.size) (h : W.heap[g]? = some o := by (with_reducible repeat (first | refine blk_drewN ?_ _ | refine blk_drew ?_ | refine blk_alloc ?_ _)); exact Aside0.out (by assumption)) : Aside0 (g' ≠ g) := ⟨by rw [hg]; exact Nat.ne_of_gt (blk_lt h)⟩
def bz (n m : Nat) : Array Bool := ((List.range n).map m.testBit).toArray
section
variable {P : Program} {md : Region.Mode} {ops : Array Oper} {Q : Exit → Act → World → Prop} {S : World → Prop} {ds : List Nat}
theorem pst {i : Nat} {N : Option Tmp} {oi : Oper} {v : Value} {fuel : Nat} {l : Array Bool} {a a' : Act} {w : World} (l' : Array Bool) (hc : anyB md ops l l' i = true) (h : wpAnyLast P md ops Q S ds fuel l' a' w)
  (hi : ops[i]? = some oi := by rfl) (hN : oi.dst = N := by rfl) (hy : Yields P ops oi v a := by exact Or.inl ⟨by rfl, by (intro w'; go_simp; with_reducible rfl)⟩) (ha : a.put N v = a' := by (simp only [Act.put, List.setIfInBounds_toArray, List.set_cons_zero, List.set_cons_succ, i64_w, i32_w]; rfl)) (hQ : ∀ c a w, Q (.panic c) (a.put oi.dst v) w → Q (.panic c) a w := by exact (fun _ _ _ h => h)) :
  wpAnyLast P md ops Q S ds (fuel + 1) l a w := pure_ l' hi hN hc hQ hy ha h
theorem psn {i : Nat} {N : Option Tmp} {oi : Oper} {v : Value} {fuel : Nat} {l : Array Bool} {a a' : Act} {w : World} (l' : Array Bool) (hc : anyB md ops l l' i = true) (h : wpAnyLast P md ops Q S ds fuel l' a' w)
  (hi : ops[i]? = some oi := by rfl) (hN : oi.dst = N := by rfl) (hy : Yields P ops oi v a := by exact Or.inl ⟨by rfl, by (intro w'; go_simp; with_reducible rfl)⟩) (ha : a.put N v = a' := by (rfl)) (hQ : ∀ c a w, Q (.panic c) (a.put oi.dst v) w → Q (.panic c) a w := by exact (fun _ _ _ h => h)) :
  wpAnyLast P md ops Q S ds (fuel + 1) l a w := pure_ l' hi hN hc hQ hy ha h
theorem pso {i : Nat} {N : Option Tmp} {oi : Oper} {fuel : Nat} {l : Array Bool} {a a' : Act} {w : World} (l' : Array Bool) (hc : anyB md ops l l' i = true) (h : wpAnyLast P md ops Q S ds fuel l' a' w)
  (hi : ops[i]? = some oi := by rfl) (hN : oi.dst = N := by rfl) (hy : Yields P ops oi undef a := by exact Or.inr ⟨by rfl, rfl⟩) (ha : a.put N undef = a' := by (simp only [Act.put, List.setIfInBounds_toArray, List.set_cons_zero, List.set_cons_succ, i64_w, i32_w]; rfl)) (hQ : ∀ c a w, Q (.panic c) (a.put oi.dst undef) w → Q (.panic c) a w := by exact (fun _ _ _ h => h)) :
  wpAnyLast P md ops Q S ds (fuel + 1) l a w := pure_ l' hi hN hc hQ hy ha h
theorem tst1 {i : Nat} {N : Option Tmp} {oi : Oper} {v : Value} {fuel : Nat} {l : Array Bool} {a a' : Act} {w : World} (l' : Array Bool) (hc : takeB md ops ds l l' i = true) (hS : S w) (h : wpAnyLast P md ops Q S ds fuel l' a' w)
  (hi : ops[i]? = some oi := by rfl) (hN : oi.dst = N := by rfl) (hy : YieldsIf P ops S oi v a := by exact Or.inl ⟨by rfl, by (rintro w' s0; go_simp; with_reducible rfl)⟩) (ha : a.put N v = a' := by (simp only [Act.put, List.setIfInBounds_toArray, List.set_cons_zero, List.set_cons_succ, i64_w, i32_w]; rfl)) (hQ : ∀ c a w, Q (.panic c) (a.put oi.dst v) w → Q (.panic c) a w := by exact (fun _ _ _ h => h)) :
  wpAnyLast P md ops Q S ds (fuel + 1) l a w := take_ l' hi hN hc hQ hy hS ha h
theorem tst2 {i : Nat} {N : Option Tmp} {oi : Oper} {v : Value} {fuel : Nat} {l : Array Bool} {a a' : Act} {w : World} (l' : Array Bool) (hc : takeB md ops ds l l' i = true) (hS : S w) (h : wpAnyLast P md ops Q S ds fuel l' a' w)
  (hi : ops[i]? = some oi := by rfl) (hN : oi.dst = N := by rfl) (hy : YieldsIf P ops S oi v a := by exact Or.inl ⟨by rfl, by (rintro w' ⟨s0, s1⟩; go_simp; with_reducible rfl)⟩) (ha : a.put N v = a' := by (simp only [Act.put, List.setIfInBounds_toArray, List.set_cons_zero, List.set_cons_succ, i64_w, i32_w]; rfl)) (hQ : ∀ c a w, Q (.panic c) (a.put oi.dst v) w → Q (.panic c) a w := by exact (fun _ _ _ h => h)) :
  wpAnyLast P md ops Q S ds (fuel + 1) l a w := take_ l' hi hN hc hQ hy hS ha h
theorem tst3 {i : Nat} {N : Option Tmp} {oi : Oper} {v : Value} {fuel : Nat} {l : Array Bool} {a a' : Act} {w : World} (l' : Array Bool) (hc : takeB md ops ds l l' i = true) (hS : S w) (h : wpAnyLast P md ops Q S ds fuel l' a' w)
  (hi : ops[i]? = some oi := by rfl) (hN : oi.dst = N := by rfl) (hy : YieldsIf P ops S oi v a := by exact Or.inl ⟨by rfl, by (rintro w' ⟨s0, s1, s2⟩; go_simp; with_reducible rfl)⟩) (ha : a.put N v = a' := by (simp only [Act.put, List.setIfInBounds_toArray, List.set_cons_zero, List.set_cons_succ, i64_w, i32_w]; rfl)) (hQ : ∀ c a w, Q (.panic c) (a.put oi.dst v) w → Q (.panic c) a w := by exact (fun _ _ _ h => h)) :
  wpAnyLast P md ops Q S ds (fuel + 1) l a w := take_ l' hi hN hc hQ hy hS ha h
theorem tst4 {i : Nat} {N : Option Tmp} {oi : Oper} {v : Value} {fuel : Nat} {l : Array Bool} {a a' : Act} {w : World} (l' : Array Bool) (hc : takeB md ops ds l l' i = true) (hS : S w) (h : wpAnyLast P md ops Q S ds fuel l' a' w)
  (hi : ops[i]? = some oi := by rfl) (hN : oi.dst = N := by rfl) (hy : YieldsIf P ops S oi v a := by exact Or.inl ⟨by rfl, by (rintro w' ⟨s0, s1, s2, s3⟩; go_simp; with_reducible rfl)⟩) (ha : a.put N v = a' := by (simp only [Act.put, List.setIfInBounds_toArray, List.set_cons_zero, List.set_cons_succ, i64_w, i32_w]; rfl)) (hQ : ∀ c a w, Q (.panic c) (a.put oi.dst v) w → Q (.panic c) a w := by exact (fun _ _ _ h => h)) :
  wpAnyLast P md ops Q S ds (fuel + 1) l a w := take_ l' hi hN hc hQ hy hS ha h
theorem tst5 {i : Nat} {N : Option Tmp} {oi : Oper} {v : Value} {fuel : Nat} {l : Array Bool} {a a' : Act} {w : World} (l' : Array Bool) (hc : takeB md ops ds l l' i = true) (hS : S w) (h : wpAnyLast P md ops Q S ds fuel l' a' w)
  (hi : ops[i]? = some oi := by rfl) (hN : oi.dst = N := by rfl) (hy : YieldsIf P ops S oi v a := by exact Or.inl ⟨by rfl, by (rintro w' ⟨s0, s1, s2, s3, s4⟩; go_simp; with_reducible rfl)⟩) (ha : a.put N v = a' := by (simp only [Act.put, List.setIfInBounds_toArray, List.set_cons_zero, List.set_cons_succ, i64_w, i32_w]; rfl)) (hQ : ∀ c a w, Q (.panic c) (a.put oi.dst v) w → Q (.panic c) a w := by exact (fun _ _ _ h => h)) :
  wpAnyLast P md ops Q S ds (fuel + 1) l a w := take_ l' hi hN hc hQ hy hS ha h
theorem tst6 {i : Nat} {N : Option Tmp} {oi : Oper} {v : Value} {fuel : Nat} {l : Array Bool} {a a' : Act} {w : World} (l' : Array Bool) (hc : takeB md ops ds l l' i = true) (hS : S w) (h : wpAnyLast P md ops Q S ds fuel l' a' w)
  (hi : ops[i]? = some oi := by rfl) (hN : oi.dst = N := by rfl) (hy : YieldsIf P ops S oi v a := by exact Or.inl ⟨by rfl, by (rintro w' ⟨s0, s1, s2, s3, s4, s5⟩; go_simp; with_reducible rfl)⟩) (ha : a.put N v = a' := by (simp only [Act.put, List.setIfInBounds_toArray, List.set_cons_zero, List.set_cons_succ, i64_w, i32_w]; rfl)) (hQ : ∀ c a w, Q (.panic c) (a.put oi.dst v) w → Q (.panic c) a w := by exact (fun _ _ _ h => h)) :
  wpAnyLast P md ops Q S ds (fuel + 1) l a w := take_ l' hi hN hc hQ hy hS ha h
theorem tst7 {i : Nat} {N : Option Tmp} {oi : Oper} {v : Value} {fuel : Nat} {l : Array Bool} {a a' : Act} {w : World} (l' : Array Bool) (hc : takeB md ops ds l l' i = true) (hS : S w) (h : wpAnyLast P md ops Q S ds fuel l' a' w)
  (hi : ops[i]? = some oi := by rfl) (hN : oi.dst = N := by rfl) (hy : YieldsIf P ops S oi v a := by exact Or.inl ⟨by rfl, by (rintro w' ⟨s0, s1, s2, s3, s4, s5, s6⟩; go_simp; with_reducible rfl)⟩) (ha : a.put N v = a' := by (simp only [Act.put, List.setIfInBounds_toArray, List.set_cons_zero, List.set_cons_succ, i64_w, i32_w]; rfl)) (hQ : ∀ c a w, Q (.panic c) (a.put oi.dst v) w → Q (.panic c) a w := by exact (fun _ _ _ h => h)) :
  wpAnyLast P md ops Q S ds (fuel + 1) l a w := take_ l' hi hN hc hQ hy hS ha h
theorem tst8 {i : Nat} {N : Option Tmp} {oi : Oper} {v : Value} {fuel : Nat} {l : Array Bool} {a a' : Act} {w : World} (l' : Array Bool) (hc : takeB md ops ds l l' i = true) (hS : S w) (h : wpAnyLast P md ops Q S ds fuel l' a' w)
  (hi : ops[i]? = some oi := by rfl) (hN : oi.dst = N := by rfl) (hy : YieldsIf P ops S oi v a := by exact Or.inl ⟨by rfl, by (rintro w' ⟨s0, s1, s2, s3, s4, s5, s6, s7⟩; go_simp; with_reducible rfl)⟩) (ha : a.put N v = a' := by (simp only [Act.put, List.setIfInBounds_toArray, List.set_cons_zero, List.set_cons_succ, i64_w, i32_w]; rfl)) (hQ : ∀ c a w, Q (.panic c) (a.put oi.dst v) w → Q (.panic c) a w := by exact (fun _ _ _ h => h)) :
  wpAnyLast P md ops Q S ds (fuel + 1) l a w := take_ l' hi hN hc hQ hy hS ha h
theorem tst9 {i : Nat} {N : Option Tmp} {oi : Oper} {v : Value} {fuel : Nat} {l : Array Bool} {a a' : Act} {w : World} (l' : Array Bool) (hc : takeB md ops ds l l' i = true) (hS : S w) (h : wpAnyLast P md ops Q S ds fuel l' a' w)
  (hi : ops[i]? = some oi := by rfl) (hN : oi.dst = N := by rfl) (hy : YieldsIf P ops S oi v a := by exact Or.inl ⟨by rfl, by (rintro w' ⟨s0, s1, s2, s3, s4, s5, s6, s7, s8⟩; go_simp; with_reducible rfl)⟩) (ha : a.put N v = a' := by (simp only [Act.put, List.setIfInBounds_toArray, List.set_cons_zero, List.set_cons_succ, i64_w, i32_w]; rfl)) (hQ : ∀ c a w, Q (.panic c) (a.put oi.dst v) w → Q (.panic c) a w := by exact (fun _ _ _ h => h)) :
  wpAnyLast P md ops Q S ds (fuel + 1) l a w := take_ l' hi hN hc hQ hy hS ha h
theorem tst10 {i : Nat} {N : Option Tmp} {oi : Oper} {v : Value} {fuel : Nat} {l : Array Bool} {a a' : Act} {w : World} (l' : Array Bool) (hc : takeB md ops ds l l' i = true) (hS : S w) (h : wpAnyLast P md ops Q S ds fuel l' a' w)
  (hi : ops[i]? = some oi := by rfl) (hN : oi.dst = N := by rfl) (hy : YieldsIf P ops S oi v a := by exact Or.inl ⟨by rfl, by (rintro w' ⟨s0, s1, s2, s3, s4, s5, s6, s7, s8, s9⟩; go_simp; with_reducible rfl)⟩) (ha : a.put N v = a' := by (simp only [Act.put, List.setIfInBounds_toArray, List.set_cons_zero, List.set_cons_succ, i64_w, i32_w]; rfl)) (hQ : ∀ c a w, Q (.panic c) (a.put oi.dst v) w → Q (.panic c) a w := by exact (fun _ _ _ h => h)) :
  wpAnyLast P md ops Q S ds (fuel + 1) l a w := take_ l' hi hN hc hQ hy hS ha h
theorem tst11 {i : Nat} {N : Option Tmp} {oi : Oper} {v : Value} {fuel : Nat} {l : Array Bool} {a a' : Act} {w : World} (l' : Array Bool) (hc : takeB md ops ds l l' i = true) (hS : S w) (h : wpAnyLast P md ops Q S ds fuel l' a' w)
  (hi : ops[i]? = some oi := by rfl) (hN : oi.dst = N := by rfl) (hy : YieldsIf P ops S oi v a := by exact Or.inl ⟨by rfl, by (rintro w' ⟨s0, s1, s2, s3, s4, s5, s6, s7, s8, s9, s10⟩; go_simp; with_reducible rfl)⟩) (ha : a.put N v = a' := by (simp only [Act.put, List.setIfInBounds_toArray, List.set_cons_zero, List.set_cons_succ, i64_w, i32_w]; rfl)) (hQ : ∀ c a w, Q (.panic c) (a.put oi.dst v) w → Q (.panic c) a w := by exact (fun _ _ _ h => h)) :
  wpAnyLast P md ops Q S ds (fuel + 1) l a w := take_ l' hi hN hc hQ hy hS ha h
theorem tst12 {i : Nat} {N : Option Tmp} {oi : Oper} {v : Value} {fuel : Nat} {l : Array Bool} {a a' : Act} {w : World} (l' : Array Bool) (hc : takeB md ops ds l l' i = true) (hS : S w) (h : wpAnyLast P md ops Q S ds fuel l' a' w)
  (hi : ops[i]? = some oi := by rfl) (hN : oi.dst = N := by rfl) (hy : YieldsIf P ops S oi v a := by exact Or.inl ⟨by rfl, by (rintro w' ⟨s0, s1, s2, s3, s4, s5, s6, s7, s8, s9, s10, s11⟩; go_simp; with_reducible rfl)⟩) (ha : a.put N v = a' := by (simp only [Act.put, List.setIfInBounds_toArray, List.set_cons_zero, List.set_cons_succ, i64_w, i32_w]; rfl)) (hQ : ∀ c a w, Q (.panic c) (a.put oi.dst v) w → Q (.panic c) a w := by exact (fun _ _ _ h => h)) :
  wpAnyLast P md ops Q S ds (fuel + 1) l a w := take_ l' hi hN hc hQ hy hS ha h
theorem tst13 {i : Nat} {N : Option Tmp} {oi : Oper} {v : Value} {fuel : Nat} {l : Array Bool} {a a' : Act} {w : World} (l' : Array Bool) (hc : takeB md ops ds l l' i = true) (hS : S w) (h : wpAnyLast P md ops Q S ds fuel l' a' w)
  (hi : ops[i]? = some oi := by rfl) (hN : oi.dst = N := by rfl) (hy : YieldsIf P ops S oi v a := by exact Or.inl ⟨by rfl, by (rintro w' ⟨s0, s1, s2, s3, s4, s5, s6, s7, s8, s9, s10, s11, s12⟩; go_simp; with_reducible rfl)⟩) (ha : a.put N v = a' := by (simp only [Act.put, List.setIfInBounds_toArray, List.set_cons_zero, List.set_cons_succ, i64_w, i32_w]; rfl)) (hQ : ∀ c a w, Q (.panic c) (a.put oi.dst v) w → Q (.panic c) a w := by exact (fun _ _ _ h => h)) :
  wpAnyLast P md ops Q S ds (fuel + 1) l a w := take_ l' hi hN hc hQ hy hS ha h
theorem tst14 {i : Nat} {N : Option Tmp} {oi : Oper} {v : Value} {fuel : Nat} {l : Array Bool} {a a' : Act} {w : World} (l' : Array Bool) (hc : takeB md ops ds l l' i = true) (hS : S w) (h : wpAnyLast P md ops Q S ds fuel l' a' w)
  (hi : ops[i]? = some oi := by rfl) (hN : oi.dst = N := by rfl) (hy : YieldsIf P ops S oi v a := by exact Or.inl ⟨by rfl, by (rintro w' ⟨s0, s1, s2, s3, s4, s5, s6, s7, s8, s9, s10, s11, s12, s13⟩; go_simp; with_reducible rfl)⟩) (ha : a.put N v = a' := by (simp only [Act.put, List.setIfInBounds_toArray, List.set_cons_zero, List.set_cons_succ, i64_w, i32_w]; rfl)) (hQ : ∀ c a w, Q (.panic c) (a.put oi.dst v) w → Q (.panic c) a w := by exact (fun _ _ _ h => h)) :
  wpAnyLast P md ops Q S ds (fuel + 1) l a w := take_ l' hi hN hc hQ hy hS ha h
theorem tst15 {i : Nat} {N : Option Tmp} {oi : Oper} {v : Value} {fuel : Nat} {l : Array Bool} {a a' : Act} {w : World} (l' : Array Bool) (hc : takeB md ops ds l l' i = true) (hS : S w) (h : wpAnyLast P md ops Q S ds fuel l' a' w)
  (hi : ops[i]? = some oi := by rfl) (hN : oi.dst = N := by rfl) (hy : YieldsIf P ops S oi v a := by exact Or.inl ⟨by rfl, by (rintro w' ⟨s0, s1, s2, s3, s4, s5, s6, s7, s8, s9, s10, s11, s12, s13, s14⟩; go_simp; with_reducible rfl)⟩) (ha : a.put N v = a' := by (simp only [Act.put, List.setIfInBounds_toArray, List.set_cons_zero, List.set_cons_succ, i64_w, i32_w]; rfl)) (hQ : ∀ c a w, Q (.panic c) (a.put oi.dst v) w → Q (.panic c) a w := by exact (fun _ _ _ h => h)) :
  wpAnyLast P md ops Q S ds (fuel + 1) l a w := take_ l' hi hN hc hQ hy hS ha h
theorem tst16 {i : Nat} {N : Option Tmp} {oi : Oper} {v : Value} {fuel : Nat} {l : Array Bool} {a a' : Act} {w : World} (l' : Array Bool) (hc : takeB md ops ds l l' i = true) (hS : S w) (h : wpAnyLast P md ops Q S ds fuel l' a' w)
  (hi : ops[i]? = some oi := by rfl) (hN : oi.dst = N := by rfl) (hy : YieldsIf P ops S oi v a := by exact Or.inl ⟨by rfl, by (rintro w' ⟨s0, s1, s2, s3, s4, s5, s6, s7, s8, s9, s10, s11, s12, s13, s14, s15⟩; go_simp; with_reducible rfl)⟩) (ha : a.put N v = a' := by (simp only [Act.put, List.setIfInBounds_toArray, List.set_cons_zero, List.set_cons_succ, i64_w, i32_w]; rfl)) (hQ : ∀ c a w, Q (.panic c) (a.put oi.dst v) w → Q (.panic c) a w := by exact (fun _ _ _ h => h)) :
  wpAnyLast P md ops Q S ds (fuel + 1) l a w := take_ l' hi hN hc hQ hy hS ha h
end
end Go.Proofs.YtcmdcgghpkcchaaGreatDoorW.PrintMore

/- More short words: all cells of a box at once; a table that is as it was. -/
namespace Go.Proofs.YtcmdcgghpkcchaaGreatDoorW.PrintMore
open Go.RowKit Go.Proofs.YtcmdcgghpkcchaaGreatDoorW.PrintWords Go.Proofs.YtcmdcgghpkcchaaGreatDoorW.PrintLast
set_option linter.unusedVariables false
section
variable {W : World} {g : Nat} {t : TypeId} {a b c d e f : Value}
theorem bc1 (h : W.heap[g]? = some (.cells #[a] t (0, 0))) : W.cell? ⟨g, 0, none⟩ = some a := (blk_cell h 0).trans rfl
theorem bc2 (h : W.heap[g]? = some (.cells #[a, b] t (0, 0))) : W.cell? ⟨g, 0, none⟩ = some a ∧ W.cell? ⟨g, 1, none⟩ = some b := ⟨(blk_cell h 0).trans rfl, (blk_cell h 1).trans rfl⟩
theorem bc3 (h : W.heap[g]? = some (.cells #[a, b, c] t (0, 0))) : W.cell? ⟨g, 0, none⟩ = some a ∧ W.cell? ⟨g, 1, none⟩ = some b ∧ W.cell? ⟨g, 2, none⟩ = some c := ⟨(blk_cell h 0).trans rfl, (blk_cell h 1).trans rfl, (blk_cell h 2).trans rfl⟩
theorem bc4 (h : W.heap[g]? = some (.cells #[a, b, c, d] t (0, 0))) : W.cell? ⟨g, 0, none⟩ = some a ∧ W.cell? ⟨g, 1, none⟩ = some b ∧ W.cell? ⟨g, 2, none⟩ = some c ∧ W.cell? ⟨g, 3, none⟩ = some d := ⟨(blk_cell h 0).trans rfl, (blk_cell h 1).trans rfl, (blk_cell h 2).trans rfl, (blk_cell h 3).trans rfl⟩
theorem bc5 (h : W.heap[g]? = some (.cells #[a, b, c, d, e] t (0, 0))) : W.cell? ⟨g, 0, none⟩ = some a ∧ W.cell? ⟨g, 1, none⟩ = some b ∧ W.cell? ⟨g, 2, none⟩ = some c ∧ W.cell? ⟨g, 3, none⟩ = some d ∧ W.cell? ⟨g, 4, none⟩ = some e := ⟨(blk_cell h 0).trans rfl, (blk_cell h 1).trans rfl, (blk_cell h 2).trans rfl, (blk_cell h 3).trans rfl, (blk_cell h 4).trans rfl⟩
theorem bc6 (h : W.heap[g]? = some (.cells #[a, b, c, d, e, f] t (0, 0))) : W.cell? ⟨g, 0, none⟩ = some a ∧ W.cell? ⟨g, 1, none⟩ = some b ∧ W.cell? ⟨g, 2, none⟩ = some c ∧ W.cell? ⟨g, 3, none⟩ = some d ∧ W.cell? ⟨g, 4, none⟩ = some e ∧ W.cell? ⟨g, 5, none⟩ = some f := ⟨(blk_cell h 0).trans rfl, (blk_cell h 1).trans rfl, (blk_cell h 2).trans rfl, (blk_cell h 3).trans rfl, (blk_cell h 4).trans rfl, (blk_cell h 5).trans rfl⟩
variable {cs : Array Value}
theorem bf1 (h : W.heap[g]? = some (.cells cs t (0, 0))) : W.frozen? ⟨g, 0, none⟩ = false := blk_frozen h 0
theorem bf2 (h : W.heap[g]? = some (.cells cs t (0, 0))) : W.frozen? ⟨g, 0, none⟩ = false ∧ W.frozen? ⟨g, 1, none⟩ = false := ⟨blk_frozen h 0, blk_frozen h 1⟩
theorem bf3 (h : W.heap[g]? = some (.cells cs t (0, 0))) : W.frozen? ⟨g, 0, none⟩ = false ∧ W.frozen? ⟨g, 1, none⟩ = false ∧ W.frozen? ⟨g, 2, none⟩ = false := ⟨blk_frozen h 0, blk_frozen h 1, blk_frozen h 2⟩
theorem bf4 (h : W.heap[g]? = some (.cells cs t (0, 0))) : W.frozen? ⟨g, 0, none⟩ = false ∧ W.frozen? ⟨g, 1, none⟩ = false ∧ W.frozen? ⟨g, 2, none⟩ = false ∧ W.frozen? ⟨g, 3, none⟩ = false := ⟨blk_frozen h 0, blk_frozen h 1, blk_frozen h 2, blk_frozen h 3⟩
theorem bf5 (h : W.heap[g]? = some (.cells cs t (0, 0))) : W.frozen? ⟨g, 0, none⟩ = false ∧ W.frozen? ⟨g, 1, none⟩ = false ∧ W.frozen? ⟨g, 2, none⟩ = false ∧ W.frozen? ⟨g, 3, none⟩ = false ∧ W.frozen? ⟨g, 4, none⟩ = false := ⟨blk_frozen h 0, blk_frozen h 1, blk_frozen h 2, blk_frozen h 3, blk_frozen h 4⟩
theorem bf6 (h : W.heap[g]? = some (.cells cs t (0, 0))) : W.frozen? ⟨g, 0, none⟩ = false ∧ W.frozen? ⟨g, 1, none⟩ = false ∧ W.frozen? ⟨g, 2, none⟩ = false ∧ W.frozen? ⟨g, 3, none⟩ = false ∧ W.frozen? ⟨g, 4, none⟩ = false ∧ W.frozen? ⟨g, 5, none⟩ = false := ⟨blk_frozen h 0, blk_frozen h 1, blk_frozen h 2, blk_frozen h 3, blk_frozen h 4, blk_frozen h 5⟩
end
end Go.Proofs.YtcmdcgghpkcchaaGreatDoorW.PrintMore
namespace Go.Proofs.YtcmdcgghpkcchaaGreatDoor
open Go.RowKit Go.Proofs.YtcmdcgghpkcchaaGreatDoorW.PrintWords Go.Proofs.YtcmdcgghpkcchaaGreatDoorW.PrintLast Go.Proofs.YtcmdcgghpkcchaaGreatDoorW.PrintMore
theorem tbz {w W : World} (T : Aside0 (Tab.Tabs w)) (h : Below w.heap.size w W := by repeat (first | (with_reducible first | exact HB.out | apply below_alloc | apply pw_below_drewN | apply below_drew1 | refine below_set ?_ (Aside0.out (by assumption))) | exact HB.out | exact Below.refl _ _)) : Tab.Tabs W := Tab.Tabs.below T.out h
end Go.Proofs.YtcmdcgghpkcchaaGreatDoor

-- Written by wip/xprint.py of this repo, over the kit's print.py: out of the translation; the oracles in it are by hand. Not trusted: Lean checks it.
namespace Go.Proofs.YtcmdcgghpkcchaaGreatDoor.XMast
open Go.RowKit Go.Proofs.YtcmdcgghpkcchaaGreatDoorW.PrintWords Go.Proofs.YtcmdcgghpkcchaaGreatDoorW.PrintLast Go.Proofs.YtcmdcgghpkcchaaGreatDoorW.PrintMore
attribute [local go_sem] max2_int min2_int max_two min_two max_three min_three max_four min_four   -- for this text's walks alone
set_option linter.unusedVariables false
set_option linter.unusedSimpArgs false



def errW : Option Int → Value
 | none => .nilIface
 | some c => .iface 0 (.int .i64 c)
theorem errW_none : errW none = .nilIface := rfl
theorem errW_some (c : Int) : errW (some c) = .iface 0 (.int .i64 c) := rfl

theorem info9 : (Tryz.prog.info? 9).map (fun i => (i.zero, i.size, i.bytes)) = some (some (.string ⟨#[]⟩), 1, 16) := by kernel_rfl
theorem info38 : (Tryz.prog.info? 38).map (fun i => (i.zero, i.size, i.bytes)) = some (some (.agg #[(.int .i64 0), (.int .i64 0)]), 2, 16) := by kernel_rfl
-- the values' own types
/-! #### struct type 38 -/
structure S38 where
 f0 : Int
 f1 : Int
def z38 : S38 := ⟨(0 : Int), (0 : Int)⟩
def k38 : Kd S38 := Kd.iso (Kd.pair (Kd.int .i64) (Kd.int .i64)) (fun x : S38 => (x.f0, x.f1))
theorem k38_open {w : World} {x : S38} {cs : List Value} (h : k38.K w x cs) : cs = [.int .i64 x.f0, .int .i64 x.f1] := by
 obtain ⟨_, _, rfl, rfl, rfl⟩ := h
 exact rfl
theorem k38_mkM (w : World) (base : Nat) (ok : Nat → Prop) (x : S38)  : k38.M w base ok x [.int .i64 x.f0, .int .i64 x.f1] := ⟨[.int .i64 x.f0], [.int .i64 x.f1], rfl, rfl, rfl⟩
def rd_T38 (xs : List S38) (i : Int) : S38 := xs.getD i.toNat z38
theorem at_T38 {w : World} {A : Option Addr} {n : Nat} {xs : List S38} (h : Kd.C k38 w A n xs) (i : Int) (h0 : 0 ≤ i) (h1 : i < n) : ∃ ad , A = some ad ∧ w.cell? (ad.add (i.toNat * 2)) = some (.int .i64 (rd_T38 xs i).f0) ∧ w.cell? ⟨(ad.add (i.toNat * 2)).block, (ad.add (i.toNat * 2)).off + 1, none⟩ = some (.int .i64 (rd_T38 xs i).f1) := by
 obtain ⟨ad, c, e, _, hK, hc0⟩ := Kd.C_get h z38 i h0 h1
 have hc : ∀ j u, c[j]? = some u → w.cell? (ad.add (i.toNat * 2 + j)) = some u := hc0
 obtain rfl := k38_open hK
 exact ⟨ad, e, hc 0 _ rfl, by rw [← add_field _ _ 1 (by omega)]; exact hc 1 _ rfl⟩

end Go.Proofs.YtcmdcgghpkcchaaGreatDoor.XMast

namespace Go.Proofs.YtcmdcgghpkcchaaGreatDoor.XMast
open Go.RowKit Go.Proofs.YtcmdcgghpkcchaaGreatDoorW.PrintWords Go.Proofs.YtcmdcgghpkcchaaGreatDoorW.PrintLast Go.Proofs.YtcmdcgghpkcchaaGreatDoorW.PrintMore
attribute [local go_sem] max2_int min2_int max_two min_two max_three min_three max_four min_four   -- for this text's walks alone
set_option linter.unusedVariables false
set_option linter.unusedSimpArgs false
/-! ### mast_isAt: function 21 -/
def mast_isAt.f (a0 : Int) : Option (Bool) := if a0 ≥ 0 then (some (decide (a0 ≤ 100000))) else (some false)
set_option maxHeartbeats 8000000 in
set_option maxRecDepth 100000 in
theorem mast_isAt.calls (a0 : Int) (r : Bool) (w : World) (h : mast_isAt.f a0 = some r) :
  Calls Tryz.prog 21 #[.int .i64 a0] w fun e w' => e = .returned (.bool r) ∧ Drawn0 w w' := by
 have H : (if a0 ≥ 0 then (some (decide (a0 ≤ 100000))) else (some false)) = some r := h
 clear h
 by_cases c2 : a0 ≥ 0
 ·
  rw [if_pos c2] at H
  have c2b0 : decide (0 ≤ a0) = true := decide_eq_true c2
  clear c2
  obtain rfl := Option.some.inj H
  go_enter Tryz.func21, Tryz.ntmps21
  go_wp2
  go_ret
  exact ⟨by first | rfl | (simp; done) | (simp [*]; done), drz⟩
 ·
  rw [if_neg c2] at H
  have c2b0 : decide (0 ≤ a0) = false := decide_eq_false c2
  clear c2
  obtain rfl := Option.some.inj H
  go_enter Tryz.func21, Tryz.ntmps21
  go_wp2
  go_ret
  exact ⟨by first | rfl | (simp; done) | (simp [*]; done), drz⟩

/-! ### mast_isStretch: function 29 -/
def mast_isStretch.f (a0_0 : Int) (a0_1 : Int) : Option (Bool) := (mast_isAt.f a0_0).bind fun t104 => (if t104 = true then ((mast_isAt.f a0_1).bind fun t105 => (if t105 = true then (some (decide (a0_0 < a0_1))) else (some false))) else (some false))
set_option maxHeartbeats 8000000 in
set_option maxRecDepth 100000 in
theorem mast_isStretch.calls (a0_0 : Int) (a0_1 : Int) (r : Bool) (w : World) (h : mast_isStretch.f a0_0 a0_1 = some r) :
  Calls Tryz.prog 29 #[.agg #[.int .i64 a0_0, .int .i64 a0_1]] w fun e w' => e = .returned (.bool r) ∧ Below w.heap.size w w' := by
 have hu38 := Tryz.underlying38
 have HB := Aside0.mk (Below.refl w.heap.size w)
 have H : ((mast_isAt.f a0_0).bind fun t104 => (if t104 = true then ((mast_isAt.f a0_1).bind fun t105 => (if t105 = true then (some (decide (a0_0 < a0_1))) else (some false))) else (some false))) = some r := h
 clear h
 replace H := Option.bind_eq_some_iff.mp H
 obtain ⟨t104, A20, H⟩ := H
 try dsimp only at H
 have A2 := Aside0.mk A20
 clear A20
 by_cases c3 : t104 = true
 ·
  subst c3
  rw [if_pos rfl] at H
  replace H := Option.bind_eq_some_iff.mp H
  obtain ⟨t105, A40, H⟩ := H
  try dsimp only at H
  have A4 := Aside0.mk A40
  clear A40
  by_cases c5 : t105 = true
  ·
   subst c5
   rw [if_pos rfl] at H
   obtain rfl := Option.some.inj H
   go_enter Tryz.func29, Tryz.ntmps29
   go_wp2_with (first | ((with_reducible refine gate_dst (N := 1) rfl ?_); refine box_event ?hg (N := 1) ?hd (cs := #[.int .i64 a0_0, .int .i64 a0_1]) (t := 38) ?hr ?_; (case hd => rfl); (case hg => rfl); (case hr => first | (go_simp; done) | (go_simp; rfl)); intro gb103 hg w6 hbox hb; have BK103 := Aside0.mk (hbox); have GW103 := bsz (w := w) hg; have GE103 := GW103; replace HB := Aside0.mk (below_step bel hb); clear hb hbox hg; obtain ⟨hcz7_0, hcz7_1⟩ := bc2 BK103.out) | ((with_reducible refine gate_callee (f := 21) rfl ?_); refine goesL_ (some 5) rfl rfl Tryz.func21 (by kernel_rfl) rfl #[.int .i64 a0_0] rfl mapz ?_; (with_reducible refine (mast_isAt.calls a0_0 true _ A2.out).mono ?_); rintro e w' ⟨rfl, ⟨nd, rfl⟩⟩; refine ⟨_, rfl, ?_⟩) | (go_at_call 21; (with_reducible refine (mast_isAt.calls a0_1 true _ A4.out).mono ?_); rintro e w' ⟨rfl, ⟨nd, rfl⟩⟩))
   go_ret
   exact ⟨ezz, bel⟩
  ·
   replace c5 := Bool.eq_false_iff.mpr c5
   subst c5
   rw [if_neg (show ¬ (false = true) by decide)] at H
   obtain rfl := Option.some.inj H
   go_enter Tryz.func29, Tryz.ntmps29
   go_wp2_with (first | ((with_reducible refine gate_dst (N := 1) rfl ?_); refine box_event ?hg (N := 1) ?hd (cs := #[.int .i64 a0_0, .int .i64 a0_1]) (t := 38) ?hr ?_; (case hd => rfl); (case hg => rfl); (case hr => first | (go_simp; done) | (go_simp; rfl)); intro gb103 hg w8 hbox hb; have BK103 := Aside0.mk (hbox); have GW103 := bsz (w := w) hg; have GE103 := GW103; replace HB := Aside0.mk (below_step bel hb); clear hb hbox hg; obtain ⟨hcz9_0, hcz9_1⟩ := bc2 BK103.out) | ((with_reducible refine gate_callee (f := 21) rfl ?_); refine goesL_ (some 5) rfl rfl Tryz.func21 (by kernel_rfl) rfl #[.int .i64 a0_0] rfl mapz ?_; (with_reducible refine (mast_isAt.calls a0_0 true _ A2.out).mono ?_); rintro e w' ⟨rfl, ⟨nd, rfl⟩⟩; refine ⟨_, rfl, ?_⟩) | (go_at_call 21; (with_reducible refine (mast_isAt.calls a0_1 false _ A4.out).mono ?_); rintro e w' ⟨rfl, ⟨nd, rfl⟩⟩))
   go_ret
   exact ⟨ezz, bel⟩
 ·
  replace c3 := Bool.eq_false_iff.mpr c3
  subst c3
  rw [if_neg (show ¬ (false = true) by decide)] at H
  obtain rfl := Option.some.inj H
  go_enter Tryz.func29, Tryz.ntmps29
  go_wp2_with (first | ((with_reducible refine gate_dst (N := 1) rfl ?_); refine box_event ?hg (N := 1) ?hd (cs := #[.int .i64 a0_0, .int .i64 a0_1]) (t := 38) ?hr ?_; (case hd => rfl); (case hg => rfl); (case hr => first | (go_simp; done) | (go_simp; rfl)); intro gb103 hg w10 hbox hb; have BK103 := Aside0.mk (hbox); have GW103 := bsz (w := w) hg; have GE103 := GW103; replace HB := Aside0.mk (below_step bel hb); clear hb hbox hg; obtain ⟨hcz11_0, hcz11_1⟩ := bc2 BK103.out) | ((with_reducible refine gate_callee (f := 21) rfl ?_); refine goesL_ (some 5) rfl rfl Tryz.func21 (by kernel_rfl) rfl #[.int .i64 a0_0] rfl mapz ?_; (with_reducible refine (mast_isAt.calls a0_0 false _ A2.out).mono ?_); rintro e w' ⟨rfl, ⟨nd, rfl⟩⟩; refine ⟨_, rfl, ?_⟩))
  go_ret
  exact ⟨ezz, bel⟩

/-! ### mast_Valid: function 14 -/
def mast_Valid.l0 : Nat → List (S38) → List (S38) → Int → Int → Option (Bool)
 | 0, _, _, _, _ => none
 | k + 1, x0, x5, x6, x7 => if x7 < x6 then (if 0 ≤ x7 then (if x7 < (x5.length : Int) then ((mast_isStretch.f ((rd_T38 x5 x7).f0) ((rd_T38 x5 x7).f1)).bind fun t108 => (if t108 = true then (if x7 > 0 then (if 0 ≤ (wrap64 (x7 - 1)) then (if (wrap64 (x7 - 1)) < (x0.length : Int) then (if ((rd_T38 x5 x7).f0) ≤ ((rd_T38 x0 (wrap64 (x7 - 1))).f1) then (some false) else (mast_Valid.l0 k x0 x5 x6 (wrap64 (x7 + 1)))) else (none)) else (none)) else (mast_Valid.l0 k x0 x5 x6 (wrap64 (x7 + 1)))) else (some false))) else (none)) else (none)) else (some (decide ((x0.length : Int) ≤ 60)))
def mast_Valid.f (k : Nat) (l0 : List (S38)) : Option (Bool) := mast_Valid.l0 k l0 l0 (l0.length : Int) 0
theorem mast_Valid.mono_l : ∀ k, (∀ y0 y1 y2 y3, LeO (mast_Valid.l0 k y0 y1 y2 y3) (mast_Valid.l0 (k + 1) y0 y1 y2 y3))
 | 0 => fun _ _ _ _ r h => by simp [mast_Valid.l0] at h
 | k + 1 => by
  have ih0 := mast_Valid.mono_l k
  ·
   intro y0 y1 y2 y3
   unfold mast_Valid.l0
   repeat' first
   | (with_reducible exact ih0 _ _ _ _)
   | (with_reducible exact LeO.refl _)
   | (with_reducible exact LeO.none _)
   | (with_reducible refine LeO.ite ?_ ?_)
   | (with_reducible refine LeO.bind ?_ (fun _ => ?_))
   | exact ih0 _ _ _ _
   | exact LeO.none _
   | refine LeO.ite ?_ ?_
   | refine LeO.bind ?_ (fun _ => ?_)
theorem mast_Valid.mono : ∀ a0 k, LeO (mast_Valid.f k a0) (mast_Valid.f (k + 1) a0) := by
 intro a0 k
 have ih0 := mast_Valid.mono_l k
 unfold mast_Valid.f
 repeat' first
   | (with_reducible exact ih0 _ _ _ _)
   | (with_reducible exact LeO.refl _)
   | (with_reducible exact LeO.none _)
   | (with_reducible refine LeO.ite ?_ ?_)
   | (with_reducible refine LeO.bind ?_ (fun _ => ?_))
   | exact ih0 _ _ _ _
   | exact LeO.none _
   | refine LeO.ite ?_ ?_
   | refine LeO.bind ?_ (fun _ => ?_)
def mast_Valid.T4 : Bool × List (List Nat × List Nat) := (true, [([], []), ([0], [0]), ([1], [1]), ([2, 1], [2]), ([3], [3]), ([4, 3], [3, 4]), ([5, 3, 3], [3, 5]), ([6], [6]), ([7, 6], [6, 7]), ([6], [6]), ([6], [6]), ([10, 6], [6, 10]), ([9, 11, 6], [6, 9, 11]), ([12, 6], [6, 12]), ([13, 6], [6, 13]), ([8, 14, 6], [6, 8, 14]), ([6, 15, 3], [3, 6, 15]), ([3, 16], [3, 16])])
def mast_Valid.B4 : List Nat := [0, 1, 3, 7, 15, 31, 63, 127, 255, 127, 127, 1151, 3711, 7807, 15999, 32767, 65535, 131071]
theorem mast_Valid.tab4 : rtab .any (opsOf Tryz.f14 4) = mast_Valid.T4 := by kernel_rfl
theorem mast_Valid.bits4 : waitsOk mast_Valid.T4.2 mast_Valid.B4 = true := by kernel_rfl
set_option maxHeartbeats 8000000 in
set_option maxRecDepth 100000 in
theorem mast_Valid.calls (k : Nat) (A0 : Option Addr) (c0 : Nat) (l0 : List (S38)) (r : Bool) (w : World) (hr0 : Kd.C k38 w A0 l0.length l0) (hc0 : l0.length ≤ c0) (h : mast_Valid.f k l0 = some r) :
  Calls Tryz.prog 14 #[.slice A0 l0.length c0] w fun e w' => e = .returned (.bool r) ∧ Below w.heap.size w w' := by
 have hu38 := Tryz.underlying38
 have HR0 := Aside0.mk hr0
 have HC0 := Aside0.mk hc0
 clear hr0 hc0
 have HB := Aside0.mk (Below.refl w.heap.size w)
 have H : (mast_Valid.l0 k l0 l0 (l0.length : Int) 0) = some r := h
 clear h
 have H' := Aside0.mk H
 clear H
 go_enter Tryz.func14, Tryz.ntmps14
 go_wp2
 go_loopg [7] k (fun kq v7 w' => ∃ (x7_1 : Int), v7 = .int .i64 x7_1 ∧ Aside0 (mast_Valid.l0 kq l0 l0 (l0.length : Int) x7_1 = some r) ∧ Aside0 (kq ≤ k) ∧ Aside0 (Below w.heap.size w w'))
 case atStart => exact ⟨(0), rsz, H', ⟨Nat.le_refl _⟩, ⟨bel⟩⟩
 case round =>
  clear H'
  try clear c1
  obtain ⟨x7_1, rfl, HA, HK1, HB⟩ := hrel
  cases gk with
  | zero => exact absurd HA.out (by simp [mast_Valid.l0])
  | succ k1 =>
   have H := HA.out
   clear HA
   simp only [mast_Valid.l0] at H
   by_cases c2 : x7_1 < (l0.length : Int)
   ·
    rw [if_pos c2] at H
    have c2b0 : decide (x7_1 < (l0.length : Int)) = true := decide_eq_true c2
    clear c2
    by_cases c3 : 0 ≤ x7_1
    ·
     rw [if_pos c3] at H
     have c3b0 : decide (0 ≤ x7_1) = true := decide_eq_true c3
     clear c3
     by_cases c4 : x7_1 < (l0.length : Int)
     ·
      rw [if_pos c4] at H
      have c4b0 : decide (x7_1 < (l0.length : Int)) = true := decide_eq_true c4
      clear c4
      replace H := Option.bind_eq_some_iff.mp H
      obtain ⟨t108, A50, H⟩ := H
      try dsimp only at H
      have A5 := Aside0.mk A50
      clear A50
      by_cases c6 : t108 = true
      ·
       subst c6
       rw [if_pos rfl] at H
       by_cases c7 : x7_1 > 0
       ·
        rw [if_pos c7] at H
        have c7b0 : decide (0 < x7_1) = true := decide_eq_true c7
        clear c7
        obtain ⟨ji8, hji8⟩ : ∃ j_ : Int, (wrap64 (x7_1 - 1)) = j_ := ⟨_, rfl⟩
        replace H : (if 0 ≤ (ji8) then (if (ji8) < (l0.length : Int) then (if ((rd_T38 l0 x7_1).f0) ≤ ((rd_T38 l0 (ji8)).f1) then (some false) else (mast_Valid.l0 k1 l0 l0 (l0.length : Int) (wrap64 (x7_1 + 1)))) else (none)) else (none)) = some r := by first | (rw [hji8] at H; exact H) | (simp only [hji8] at H ⊢; exact H)
        (try rw [hji8] at A5)
        have hji8w : (IntKind.i64.wrap (x7_1 - 1)) = ji8 := (i64_w _).trans hji8
        by_cases c9 : 0 ≤ (ji8)
        ·
         rw [if_pos c9] at H
         have c9b0 : decide (0 ≤ (ji8)) = true := decide_eq_true c9
         clear c9
         by_cases c10 : (ji8) < (l0.length : Int)
         ·
          rw [if_pos c10] at H
          have c10b0 : decide ((ji8) < (l0.length : Int)) = true := decide_eq_true c10
          clear c10
          by_cases c11 : ((rd_T38 l0 x7_1).f0) ≤ ((rd_T38 l0 (ji8)).f1)
          ·
           rw [if_pos c11] at H
           have c11b0 : decide (((rd_T38 l0 x7_1).f0) ≤ ((rd_T38 l0 (ji8)).f1)) = true := decide_eq_true c11
           clear c11
           obtain rfl := Option.some.inj H
           have p106 : 0 ≤ (x7_1 : Int) := of_decide_eq_true asz
           have q106 : x7_1 < (l0.length : Int) := of_decide_eq_true asz
           obtain ⟨ad106, e106, hx106_0, hx106_1⟩ := at_T38 HR0.out x7_1 p106 q106
           cases e106
           replace hx106_0 := (HB.out.cell (World.block_lt_of_cell? w _ hx106_0)).trans hx106_0
           replace hx106_1 := (HB.out.cell (World.block_lt_of_cell? w _ hx106_1)).trans hx106_1
           replace p106 := eq_true p106
           replace q106 := eq_true q106
           try go_wp2_with (first | ((with_reducible refine gate_dst (N := 4) rfl ?_); refine box_event ?hg (N := 4) ?hd (cs := #[.int .i64 0, .int .i64 0]) (t := 38) ?hr ?_; (case hd => rfl); (case hg => rfl); (case hr => first | (go_simp; done) | (go_simp; rfl)); intro gb107 hg w12 hbox hb; have BK107 := Aside0.mk (hbox); have GW107 := bsz (w := w) hg; have GE107 := GW107; replace HB := Aside0.mk (below_step bel hb); clear hb hbox hg; obtain ⟨hcz13_0, hcz13_1⟩ := bc2 BK107.out; obtain ⟨hfz13_0, hfz13_1⟩ := bf2 BK107.out))
           have n0_ : Aside0 (((w12.setCell ⟨gb107, 0, none⟩ (.int .i64 ((rd_T38 l0 x7_1).f0))).setCell ⟨gb107, 1, none⟩ (.int .i64 ((rd_T38 l0 x7_1).f1))).heap[gb107]? = some (.cells #[.int .i64 ((rd_T38 l0 x7_1).f0), .int .i64 ((rd_T38 l0 x7_1).f1)] 38 (0, 0))) := ⟨by (with_reducible repeat (first | refine blk_drewN ?_ _ | refine blk_drew ?_ | refine blk_alloc ?_ _)); refine blk_put (cs := #[.int .i64 ((rd_T38 l0 x7_1).f0), .int .i64 0]) ?_ 1 _ rfl; (with_reducible repeat (first | refine blk_drewN ?_ _ | refine blk_drew ?_ | refine blk_alloc ?_ _)); refine blk_put (cs := #[.int .i64 0, .int .i64 0]) ?_ 0 _ rfl; (with_reducible repeat (first | refine blk_drewN ?_ _ | refine blk_drew ?_ | refine blk_alloc ?_ _)); exact BK107.out⟩
           have n1_ : Aside0 (Below w.heap.size w ((w12.setCell ⟨gb107, 0, none⟩ (.int .i64 ((rd_T38 l0 x7_1).f0))).setCell ⟨gb107, 1, none⟩ (.int .i64 ((rd_T38 l0 x7_1).f1)))) := ⟨bel⟩
           (try clear BK107)
           (try clear HB)
           generalize ((w12.setCell ⟨gb107, 0, none⟩ (.int .i64 ((rd_T38 l0 x7_1).f0))).setCell ⟨gb107, 1, none⟩ (.int .i64 ((rd_T38 l0 x7_1).f1))) = w14 at n0_ n1_ ⊢
           have BK107 := n0_
           have HB := n1_
           clear n0_ n1_
           have n0_ := Aside0.mk (blk_drew BK107.out)
           have n1_ := Aside0.mk (below_drew1 HB.out)
           clear BK107
           clear HB
           have BK107 := n0_
           have HB := n1_
           clear n0_ n1_
           have p109 : 0 ≤ ((ji8) : Int) := of_decide_eq_true asz
           have q109 : (ji8) < (l0.length : Int) := of_decide_eq_true asz
           obtain ⟨ad109, e109, hx109_0, hx109_1⟩ := at_T38 HR0.out (ji8) p109 q109
           have hw109_1 := hx109_1
           have hw109_0 := hx109_0
           obtain rfl : ad106 = ad109 := (by injection e109)
           replace hx109_0 := (HB.out.cell (World.block_lt_of_cell? w _ hx109_0)).trans hx109_0
           replace hx109_1 := (HB.out.cell (World.block_lt_of_cell? w _ hx109_1)).trans hx109_1
           replace p109 := eq_true p109
           replace q109 := eq_true q109
           refine start_ (n := 18) (S := fun w' => w'.cell? ⟨gb107, 0, none⟩ = some (.int .i64 ((rd_T38 l0 x7_1).f0)) ∧ w'.cell? ⟨gb107, 1, none⟩ = some (.int .i64 ((rd_T38 l0 x7_1).f1)) ∧ w'.cell? (ad106.add (((ji8)).toNat * 2)) = some (.int .i64 ((rd_T38 l0 (ji8)).f0)) ∧ w'.cell? ⟨(ad106.add (((ji8)).toNat * 2)).block, (ad106.add (((ji8)).toNat * 2)).off + 1, none⟩ = some (.int .i64 ((rd_T38 l0 (ji8)).f1))) (ds := []) #[false, false, false, false, false, false, false, false, false, false, false, false, false, false, false, false, false, false] (by kernel_rfl) rfl rfl ⟨(blk_cell BK107.out 0).trans rfl, (blk_cell BK107.out 1).trans rfl, ((HB.out.cell (World.block_lt_of_cell? w _ hw109_0)).trans hw109_0), ((HB.out.cell (World.block_lt_of_cell? w _ hw109_1)).trans hw109_1)⟩ (fun hHeld => ?_); refine with_tabW mast_Valid.tab4 mast_Valid.bits4 (fun HT_ HW_ => ?_)
           generalize w14.drew = w15 at BK107 HB hx109_0 hx109_1 hHeld ⊢
           refine tst4 (i := 0) (N := some 12) (bz 18 1) (take_ofW HT_.out HW_.out (by kernel_rfl)) hHeld ?_
           refine one_ (i := 1) (N := some 13) #[true, true, false, false, false, false, false, false, false, false, false, false, false, false, false, false, false, false] rfl rfl (one_of HT_.out (by kernel_rfl)) (by decide) (fun K hK => ?_)
           refine goes_ Tryz.func29 (by kernel_rfl) rfl #[.agg #[.int .i64 ((rd_T38 l0 x7_1).f0), .int .i64 ((rd_T38 l0 x7_1).f1)]] (by rfl) rfl rfl mapz ?_
           with_reducible refine (mast_isStretch.calls ((rd_T38 l0 x7_1).f0) ((rd_T38 l0 x7_1).f1) true _ A5.out).mono ?_
           rintro e w16 ⟨rfl, hb⟩
           refine ⟨_, rfl, ?_⟩
           have n0_ := Aside0.mk (blk_below (g := gb107) blkz hb)
           have n1_ := Aside0.mk (below_step bel hb)
           clear BK107
           clear HB
           have BK107 := n0_
           have HB := n1_
           clear n0_ n1_
           (try clear hb)
           (try clear hb2)
           (try clear hk)
           (try clear hi)
           refine hK.out _ _ ⟨(blk_cell BK107.out 0).trans rfl, (blk_cell BK107.out 1).trans rfl, ((HB.out.cell (World.block_lt_of_cell? w _ hw109_0)).trans hw109_0), ((HB.out.cell (World.block_lt_of_cell? w _ hw109_1)).trans hw109_1)⟩ (fun hHeld => ?_)
           clear hK K
           refine norm_ (a' := ?_) ?_ ?_
           rotate_left
           ·
            show Act.put _ (some 13) _ = _
            simp only [Act.put, List.setIfInBounds_toArray, List.set_cons_zero, List.set_cons_succ, i64_w, i32_w]
            rfl
           refine pst (i := 2) (N := some 14) (bz 18 7) (any_of HT_.out (by kernel_rfl)) ?_
           refine pst (i := 3) (N := some 15) (bz 18 15) (any_of HT_.out (by kernel_rfl)) ?_
           refine pst (i := 4) (N := some 16) (bz 18 31) (any_of HT_.out (by kernel_rfl)) ?_
           refine pst (i := 5) (N := some 17) (bz 18 63) (any_of HT_.out (by kernel_rfl)) ?_
           refine pst (i := 6) (N := some 18) (bz 18 127) (any_of HT_.out (by kernel_rfl)) ?_
           refine pst (i := 7) (N := some 19) (bz 18 255) (any_of HT_.out (by kernel_rfl)) ?_
           refine pst (i := 9) (N := some 21) (bz 18 767) (any_of HT_.out (by kernel_rfl)) ?_
           refine pst (i := 10) (N := some 22) (bz 18 1791) (any_of HT_.out (by kernel_rfl)) ?_
           refine pst (i := 11) (N := some 23) (bz 18 3839) (any_of HT_.out (by kernel_rfl)) ?_
           refine pst (i := 12) (N := some 24) (bz 18 7935) (any_of HT_.out (by kernel_rfl)) ?_
           refine pst (i := 13) (N := some 25) (bz 18 16127) (any_of HT_.out (by kernel_rfl)) ?_
           refine tst4 (i := 8) (N := some 20) (bz 18 16383) (take_ofW HT_.out HW_.out (by kernel_rfl)) hHeld ?_
           refine tst4 (i := 14) (N := some 26) (bz 18 32767) (take_ofW HT_.out HW_.out (by kernel_rfl)) hHeld ?_
           refine pst (i := 15) (N := some 27) (bz 18 65535) (any_of HT_.out (by kernel_rfl)) ?_
           refine pst (i := 16) (N := some 28) (bz 18 131071) (any_of HT_.out (by kernel_rfl)) ?_
           refine pst (i := 17) (N := some 29) (bz 18 262143) (any_of HT_.out (by kernel_rfl)) ?_
           refine done_ (done_of HT_.out (by kernel_rfl)) ?_
           try go_wp2
           go_ret
           exact ⟨by first | rfl | (simp [errW_none, errW_some] <;> rfl) | (simp only [← hji8]; first | rfl | (simp [errW_none, errW_some] <;> rfl)) | (simp [*, errW_none, errW_some] <;> rfl), bel⟩
          ·
           rw [if_neg c11] at H
           have c11b0 : decide (((rd_T38 l0 x7_1).f0) ≤ ((rd_T38 l0 (ji8)).f1)) = false := decide_eq_false c11
           clear c11
           have H' := Aside0.mk H
           clear H
           have p106 : 0 ≤ (x7_1 : Int) := of_decide_eq_true asz
           have q106 : x7_1 < (l0.length : Int) := of_decide_eq_true asz
           obtain ⟨ad106, e106, hx106_0, hx106_1⟩ := at_T38 HR0.out x7_1 p106 q106
           cases e106
           replace hx106_0 := (HB.out.cell (World.block_lt_of_cell? w _ hx106_0)).trans hx106_0
           replace hx106_1 := (HB.out.cell (World.block_lt_of_cell? w _ hx106_1)).trans hx106_1
           replace p106 := eq_true p106
           replace q106 := eq_true q106
           try go_wp2_with (first | ((with_reducible refine gate_dst (N := 4) rfl ?_); refine box_event ?hg (N := 4) ?hd (cs := #[.int .i64 0, .int .i64 0]) (t := 38) ?hr ?_; (case hd => rfl); (case hg => rfl); (case hr => first | (go_simp; done) | (go_simp; rfl)); intro gb107 hg w17 hbox hb; have BK107 := Aside0.mk (hbox); have GW107 := bsz (w := w) hg; have GE107 := GW107; replace HB := Aside0.mk (below_step bel hb); clear hb hbox hg; obtain ⟨hcz18_0, hcz18_1⟩ := bc2 BK107.out; obtain ⟨hfz18_0, hfz18_1⟩ := bf2 BK107.out))
           have n0_ : Aside0 (((w17.setCell ⟨gb107, 0, none⟩ (.int .i64 ((rd_T38 l0 x7_1).f0))).setCell ⟨gb107, 1, none⟩ (.int .i64 ((rd_T38 l0 x7_1).f1))).heap[gb107]? = some (.cells #[.int .i64 ((rd_T38 l0 x7_1).f0), .int .i64 ((rd_T38 l0 x7_1).f1)] 38 (0, 0))) := ⟨by (with_reducible repeat (first | refine blk_drewN ?_ _ | refine blk_drew ?_ | refine blk_alloc ?_ _)); refine blk_put (cs := #[.int .i64 ((rd_T38 l0 x7_1).f0), .int .i64 0]) ?_ 1 _ rfl; (with_reducible repeat (first | refine blk_drewN ?_ _ | refine blk_drew ?_ | refine blk_alloc ?_ _)); refine blk_put (cs := #[.int .i64 0, .int .i64 0]) ?_ 0 _ rfl; (with_reducible repeat (first | refine blk_drewN ?_ _ | refine blk_drew ?_ | refine blk_alloc ?_ _)); exact BK107.out⟩
           have n1_ : Aside0 (Below w.heap.size w ((w17.setCell ⟨gb107, 0, none⟩ (.int .i64 ((rd_T38 l0 x7_1).f0))).setCell ⟨gb107, 1, none⟩ (.int .i64 ((rd_T38 l0 x7_1).f1)))) := ⟨bel⟩
           (try clear BK107)
           (try clear HB)
           generalize ((w17.setCell ⟨gb107, 0, none⟩ (.int .i64 ((rd_T38 l0 x7_1).f0))).setCell ⟨gb107, 1, none⟩ (.int .i64 ((rd_T38 l0 x7_1).f1))) = w19 at n0_ n1_ ⊢
           have BK107 := n0_
           have HB := n1_
           clear n0_ n1_
           have n0_ := Aside0.mk (blk_drew BK107.out)
           have n1_ := Aside0.mk (below_drew1 HB.out)
           clear BK107
           clear HB
           have BK107 := n0_
           have HB := n1_
           clear n0_ n1_
           have p109 : 0 ≤ ((ji8) : Int) := of_decide_eq_true asz
           have q109 : (ji8) < (l0.length : Int) := of_decide_eq_true asz
           obtain ⟨ad109, e109, hx109_0, hx109_1⟩ := at_T38 HR0.out (ji8) p109 q109
           have hw109_1 := hx109_1
           have hw109_0 := hx109_0
           obtain rfl : ad106 = ad109 := (by injection e109)
           replace hx109_0 := (HB.out.cell (World.block_lt_of_cell? w _ hx109_0)).trans hx109_0
           replace hx109_1 := (HB.out.cell (World.block_lt_of_cell? w _ hx109_1)).trans hx109_1
           replace p109 := eq_true p109
           replace q109 := eq_true q109
           refine start_ (n := 18) (S := fun w' => w'.cell? ⟨gb107, 0, none⟩ = some (.int .i64 ((rd_T38 l0 x7_1).f0)) ∧ w'.cell? ⟨gb107, 1, none⟩ = some (.int .i64 ((rd_T38 l0 x7_1).f1)) ∧ w'.cell? (ad106.add (((ji8)).toNat * 2)) = some (.int .i64 ((rd_T38 l0 (ji8)).f0)) ∧ w'.cell? ⟨(ad106.add (((ji8)).toNat * 2)).block, (ad106.add (((ji8)).toNat * 2)).off + 1, none⟩ = some (.int .i64 ((rd_T38 l0 (ji8)).f1))) (ds := []) #[false, false, false, false, false, false, false, false, false, false, false, false, false, false, false, false, false, false] (by kernel_rfl) rfl rfl ⟨(blk_cell BK107.out 0).trans rfl, (blk_cell BK107.out 1).trans rfl, ((HB.out.cell (World.block_lt_of_cell? w _ hw109_0)).trans hw109_0), ((HB.out.cell (World.block_lt_of_cell? w _ hw109_1)).trans hw109_1)⟩ (fun hHeld => ?_); refine with_tabW mast_Valid.tab4 mast_Valid.bits4 (fun HT_ HW_ => ?_)
           generalize w19.drew = w20 at BK107 HB hx109_0 hx109_1 hHeld ⊢
           refine tst4 (i := 0) (N := some 12) (bz 18 1) (take_ofW HT_.out HW_.out (by kernel_rfl)) hHeld ?_
           refine one_ (i := 1) (N := some 13) #[true, true, false, false, false, false, false, false, false, false, false, false, false, false, false, false, false, false] rfl rfl (one_of HT_.out (by kernel_rfl)) (by decide) (fun K hK => ?_)
           refine goes_ Tryz.func29 (by kernel_rfl) rfl #[.agg #[.int .i64 ((rd_T38 l0 x7_1).f0), .int .i64 ((rd_T38 l0 x7_1).f1)]] (by rfl) rfl rfl mapz ?_
           with_reducible refine (mast_isStretch.calls ((rd_T38 l0 x7_1).f0) ((rd_T38 l0 x7_1).f1) true _ A5.out).mono ?_
           rintro e w21 ⟨rfl, hb⟩
           refine ⟨_, rfl, ?_⟩
           have n0_ := Aside0.mk (blk_below (g := gb107) blkz hb)
           have n1_ := Aside0.mk (below_step bel hb)
           clear BK107
           clear HB
           have BK107 := n0_
           have HB := n1_
           clear n0_ n1_
           (try clear hb)
           (try clear hb2)
           (try clear hk)
           (try clear hi)
           refine hK.out _ _ ⟨(blk_cell BK107.out 0).trans rfl, (blk_cell BK107.out 1).trans rfl, ((HB.out.cell (World.block_lt_of_cell? w _ hw109_0)).trans hw109_0), ((HB.out.cell (World.block_lt_of_cell? w _ hw109_1)).trans hw109_1)⟩ (fun hHeld => ?_)
           clear hK K
           refine norm_ (a' := ?_) ?_ ?_
           rotate_left
           ·
            show Act.put _ (some 13) _ = _
            simp only [Act.put, List.setIfInBounds_toArray, List.set_cons_zero, List.set_cons_succ, i64_w, i32_w]
            rfl
           refine pst (i := 2) (N := some 14) (bz 18 7) (any_of HT_.out (by kernel_rfl)) ?_
           refine pst (i := 3) (N := some 15) (bz 18 15) (any_of HT_.out (by kernel_rfl)) ?_
           refine pst (i := 4) (N := some 16) (bz 18 31) (any_of HT_.out (by kernel_rfl)) ?_
           refine pst (i := 5) (N := some 17) (bz 18 63) (any_of HT_.out (by kernel_rfl)) ?_
           refine pst (i := 6) (N := some 18) (bz 18 127) (any_of HT_.out (by kernel_rfl)) ?_
           refine pst (i := 7) (N := some 19) (bz 18 255) (any_of HT_.out (by kernel_rfl)) ?_
           refine pst (i := 9) (N := some 21) (bz 18 767) (any_of HT_.out (by kernel_rfl)) ?_
           refine pst (i := 10) (N := some 22) (bz 18 1791) (any_of HT_.out (by kernel_rfl)) ?_
           refine pst (i := 11) (N := some 23) (bz 18 3839) (any_of HT_.out (by kernel_rfl)) ?_
           refine pst (i := 12) (N := some 24) (bz 18 7935) (any_of HT_.out (by kernel_rfl)) ?_
           refine pst (i := 13) (N := some 25) (bz 18 16127) (any_of HT_.out (by kernel_rfl)) ?_
           refine tst4 (i := 8) (N := some 20) (bz 18 16383) (take_ofW HT_.out HW_.out (by kernel_rfl)) hHeld ?_
           refine tst4 (i := 14) (N := some 26) (bz 18 32767) (take_ofW HT_.out HW_.out (by kernel_rfl)) hHeld ?_
           refine pst (i := 15) (N := some 27) (bz 18 65535) (any_of HT_.out (by kernel_rfl)) ?_
           refine pst (i := 16) (N := some 28) (bz 18 131071) (any_of HT_.out (by kernel_rfl)) ?_
           refine pst (i := 17) (N := some 29) (bz 18 262143) (any_of HT_.out (by kernel_rfl)) ?_
           refine done_ (done_of HT_.out (by kernel_rfl)) ?_
           try go_wp2
           go_roundg k1
           case measure => have := HK1.out; omega
           case rel => exact ⟨(wrap64 (x7_1 + 1)), rsz, H', ⟨by have := HK1.out; omega⟩, ⟨bel⟩⟩
         ·
          rw [if_neg c10] at H
          exact absurd H (by simp)
        ·
         rw [if_neg c9] at H
         exact absurd H (by simp)
       ·
        rw [if_neg c7] at H
        have c7b0 : decide (0 < x7_1) = false := decide_eq_false c7
        clear c7
        have H' := Aside0.mk H
        clear H
        have p106 : 0 ≤ (x7_1 : Int) := of_decide_eq_true asz
        have q106 : x7_1 < (l0.length : Int) := of_decide_eq_true asz
        obtain ⟨ad106, e106, hx106_0, hx106_1⟩ := at_T38 HR0.out x7_1 p106 q106
        cases e106
        replace hx106_0 := (HB.out.cell (World.block_lt_of_cell? w _ hx106_0)).trans hx106_0
        replace hx106_1 := (HB.out.cell (World.block_lt_of_cell? w _ hx106_1)).trans hx106_1
        replace p106 := eq_true p106
        replace q106 := eq_true q106
        try go_wp2_with (first | ((with_reducible refine gate_dst (N := 4) rfl ?_); refine box_event ?hg (N := 4) ?hd (cs := #[.int .i64 0, .int .i64 0]) (t := 38) ?hr ?_; (case hd => rfl); (case hg => rfl); (case hr => first | (go_simp; done) | (go_simp; rfl)); intro gb107 hg w22 hbox hb; have BK107 := Aside0.mk (hbox); have GW107 := bsz (w := w) hg; have GE107 := GW107; replace HB := Aside0.mk (below_step bel hb); clear hb hbox hg; obtain ⟨hcz23_0, hcz23_1⟩ := bc2 BK107.out; obtain ⟨hfz23_0, hfz23_1⟩ := bf2 BK107.out))
        have n0_ : Aside0 (((w22.setCell ⟨gb107, 0, none⟩ (.int .i64 ((rd_T38 l0 x7_1).f0))).setCell ⟨gb107, 1, none⟩ (.int .i64 ((rd_T38 l0 x7_1).f1))).heap[gb107]? = some (.cells #[.int .i64 ((rd_T38 l0 x7_1).f0), .int .i64 ((rd_T38 l0 x7_1).f1)] 38 (0, 0))) := ⟨by (with_reducible repeat (first | refine blk_drewN ?_ _ | refine blk_drew ?_ | refine blk_alloc ?_ _)); refine blk_put (cs := #[.int .i64 ((rd_T38 l0 x7_1).f0), .int .i64 0]) ?_ 1 _ rfl; (with_reducible repeat (first | refine blk_drewN ?_ _ | refine blk_drew ?_ | refine blk_alloc ?_ _)); refine blk_put (cs := #[.int .i64 0, .int .i64 0]) ?_ 0 _ rfl; (with_reducible repeat (first | refine blk_drewN ?_ _ | refine blk_drew ?_ | refine blk_alloc ?_ _)); exact BK107.out⟩
        have n1_ : Aside0 (Below w.heap.size w ((w22.setCell ⟨gb107, 0, none⟩ (.int .i64 ((rd_T38 l0 x7_1).f0))).setCell ⟨gb107, 1, none⟩ (.int .i64 ((rd_T38 l0 x7_1).f1)))) := ⟨bel⟩
        (try clear BK107)
        (try clear HB)
        generalize ((w22.setCell ⟨gb107, 0, none⟩ (.int .i64 ((rd_T38 l0 x7_1).f0))).setCell ⟨gb107, 1, none⟩ (.int .i64 ((rd_T38 l0 x7_1).f1))) = w24 at n0_ n1_ ⊢
        have BK107 := n0_
        have HB := n1_
        clear n0_ n1_
        have n0_ := Aside0.mk (blk_drew BK107.out)
        have n1_ := Aside0.mk (below_drew1 HB.out)
        clear BK107
        clear HB
        have BK107 := n0_
        have HB := n1_
        clear n0_ n1_
        refine start_ (n := 18) (S := fun w' => w'.cell? ⟨gb107, 0, none⟩ = some (.int .i64 ((rd_T38 l0 x7_1).f0)) ∧ w'.cell? ⟨gb107, 1, none⟩ = some (.int .i64 ((rd_T38 l0 x7_1).f1))) (ds := []) #[false, false, false, false, false, false, false, false, false, false, false, false, false, false, false, false, false, false] (by kernel_rfl) rfl rfl ⟨(blk_cell BK107.out 0).trans rfl, (blk_cell BK107.out 1).trans rfl⟩ (fun hHeld => ?_); refine with_tabW mast_Valid.tab4 mast_Valid.bits4 (fun HT_ HW_ => ?_)
        generalize w24.drew = w25 at BK107 HB hHeld ⊢
        refine tst2 (i := 0) (N := some 12) (bz 18 1) (take_ofW HT_.out HW_.out (by kernel_rfl)) hHeld ?_
        refine one_ (i := 1) (N := some 13) #[true, true, false, false, false, false, false, false, false, false, false, false, false, false, false, false, false, false] rfl rfl (one_of HT_.out (by kernel_rfl)) (by decide) (fun K hK => ?_)
        refine goes_ Tryz.func29 (by kernel_rfl) rfl #[.agg #[.int .i64 ((rd_T38 l0 x7_1).f0), .int .i64 ((rd_T38 l0 x7_1).f1)]] (by rfl) rfl rfl mapz ?_
        with_reducible refine (mast_isStretch.calls ((rd_T38 l0 x7_1).f0) ((rd_T38 l0 x7_1).f1) true _ A5.out).mono ?_
        rintro e w26 ⟨rfl, hb⟩
        refine ⟨_, rfl, ?_⟩
        have n0_ := Aside0.mk (blk_below (g := gb107) blkz hb)
        have n1_ := Aside0.mk (below_step bel hb)
        clear BK107
        clear HB
        have BK107 := n0_
        have HB := n1_
        clear n0_ n1_
        (try clear hb)
        (try clear hb2)
        (try clear hk)
        (try clear hi)
        refine hK.out _ _ ⟨(blk_cell BK107.out 0).trans rfl, (blk_cell BK107.out 1).trans rfl⟩ (fun hHeld => ?_)
        clear hK K
        refine norm_ (a' := ?_) ?_ ?_
        rotate_left
        ·
         show Act.put _ (some 13) _ = _
         simp only [Act.put, List.setIfInBounds_toArray, List.set_cons_zero, List.set_cons_succ, i64_w, i32_w]
         rfl
        refine pst (i := 2) (N := some 14) (bz 18 7) (any_of HT_.out (by kernel_rfl)) ?_
        refine pst (i := 3) (N := some 15) (bz 18 15) (any_of HT_.out (by kernel_rfl)) ?_
        refine pst (i := 4) (N := some 16) (bz 18 31) (any_of HT_.out (by kernel_rfl)) ?_
        refine pst (i := 5) (N := some 17) (bz 18 63) (any_of HT_.out (by kernel_rfl)) ?_
        refine pst (i := 6) (N := some 18) (bz 18 127) (any_of HT_.out (by kernel_rfl)) ?_
        refine pso (i := 7) (N := some 19) (bz 18 255) (any_of HT_.out (by kernel_rfl)) ?_
        refine pso (i := 8) (N := some 20) (bz 18 511) (any_of HT_.out (by kernel_rfl)) ?_
        refine pso (i := 9) (N := some 21) (bz 18 1023) (any_of HT_.out (by kernel_rfl)) ?_
        refine pso (i := 10) (N := some 22) (bz 18 2047) (any_of HT_.out (by kernel_rfl)) ?_
        refine pso (i := 11) (N := some 23) (bz 18 4095) (any_of HT_.out (by kernel_rfl)) ?_
        refine pso (i := 12) (N := some 24) (bz 18 8191) (any_of HT_.out (by kernel_rfl)) ?_
        refine pso (i := 13) (N := some 25) (bz 18 16383) (any_of HT_.out (by kernel_rfl)) ?_
        refine pso (i := 14) (N := some 26) (bz 18 32767) (any_of HT_.out (by kernel_rfl)) ?_
        refine pso (i := 15) (N := some 27) (bz 18 65535) (any_of HT_.out (by kernel_rfl)) ?_
        refine pst (i := 16) (N := some 28) (bz 18 131071) (any_of HT_.out (by kernel_rfl)) ?_
        refine pst (i := 17) (N := some 29) (bz 18 262143) (any_of HT_.out (by kernel_rfl)) ?_
        refine done_ (done_of HT_.out (by kernel_rfl)) ?_
        try go_wp2
        go_roundg k1
        case measure => have := HK1.out; omega
        case rel => exact ⟨(wrap64 (x7_1 + 1)), rsz, H', ⟨by have := HK1.out; omega⟩, ⟨bel⟩⟩
      ·
       replace c6 := Bool.eq_false_iff.mpr c6
       subst c6
       rw [if_neg (show ¬ (false = true) by decide)] at H
       obtain rfl := Option.some.inj H
       have p106 : 0 ≤ (x7_1 : Int) := of_decide_eq_true asz
       have q106 : x7_1 < (l0.length : Int) := of_decide_eq_true asz
       obtain ⟨ad106, e106, hx106_0, hx106_1⟩ := at_T38 HR0.out x7_1 p106 q106
       cases e106
       replace hx106_0 := (HB.out.cell (World.block_lt_of_cell? w _ hx106_0)).trans hx106_0
       replace hx106_1 := (HB.out.cell (World.block_lt_of_cell? w _ hx106_1)).trans hx106_1
       replace p106 := eq_true p106
       replace q106 := eq_true q106
       try go_wp2_with (first | ((with_reducible refine gate_dst (N := 4) rfl ?_); refine box_event ?hg (N := 4) ?hd (cs := #[.int .i64 0, .int .i64 0]) (t := 38) ?hr ?_; (case hd => rfl); (case hg => rfl); (case hr => first | (go_simp; done) | (go_simp; rfl)); intro gb107 hg w27 hbox hb; have BK107 := Aside0.mk (hbox); have GW107 := bsz (w := w) hg; have GE107 := GW107; replace HB := Aside0.mk (below_step bel hb); clear hb hbox hg; obtain ⟨hcz28_0, hcz28_1⟩ := bc2 BK107.out; obtain ⟨hfz28_0, hfz28_1⟩ := bf2 BK107.out))
       have n0_ : Aside0 (((w27.setCell ⟨gb107, 0, none⟩ (.int .i64 ((rd_T38 l0 x7_1).f0))).setCell ⟨gb107, 1, none⟩ (.int .i64 ((rd_T38 l0 x7_1).f1))).heap[gb107]? = some (.cells #[.int .i64 ((rd_T38 l0 x7_1).f0), .int .i64 ((rd_T38 l0 x7_1).f1)] 38 (0, 0))) := ⟨by (with_reducible repeat (first | refine blk_drewN ?_ _ | refine blk_drew ?_ | refine blk_alloc ?_ _)); refine blk_put (cs := #[.int .i64 ((rd_T38 l0 x7_1).f0), .int .i64 0]) ?_ 1 _ rfl; (with_reducible repeat (first | refine blk_drewN ?_ _ | refine blk_drew ?_ | refine blk_alloc ?_ _)); refine blk_put (cs := #[.int .i64 0, .int .i64 0]) ?_ 0 _ rfl; (with_reducible repeat (first | refine blk_drewN ?_ _ | refine blk_drew ?_ | refine blk_alloc ?_ _)); exact BK107.out⟩
       have n1_ : Aside0 (Below w.heap.size w ((w27.setCell ⟨gb107, 0, none⟩ (.int .i64 ((rd_T38 l0 x7_1).f0))).setCell ⟨gb107, 1, none⟩ (.int .i64 ((rd_T38 l0 x7_1).f1)))) := ⟨bel⟩
       (try clear BK107)
       (try clear HB)
       generalize ((w27.setCell ⟨gb107, 0, none⟩ (.int .i64 ((rd_T38 l0 x7_1).f0))).setCell ⟨gb107, 1, none⟩ (.int .i64 ((rd_T38 l0 x7_1).f1))) = w29 at n0_ n1_ ⊢
       have BK107 := n0_
       have HB := n1_
       clear n0_ n1_
       have n0_ := Aside0.mk (blk_drew BK107.out)
       have n1_ := Aside0.mk (below_drew1 HB.out)
       clear BK107
       clear HB
       have BK107 := n0_
       have HB := n1_
       clear n0_ n1_
       refine start_ (n := 18) (S := fun w' => w'.cell? ⟨gb107, 0, none⟩ = some (.int .i64 ((rd_T38 l0 x7_1).f0)) ∧ w'.cell? ⟨gb107, 1, none⟩ = some (.int .i64 ((rd_T38 l0 x7_1).f1))) (ds := []) #[false, false, false, false, false, false, false, false, false, false, false, false, false, false, false, false, false, false] (by kernel_rfl) rfl rfl ⟨(blk_cell BK107.out 0).trans rfl, (blk_cell BK107.out 1).trans rfl⟩ (fun hHeld => ?_); refine with_tabW mast_Valid.tab4 mast_Valid.bits4 (fun HT_ HW_ => ?_)
       generalize w29.drew = w30 at BK107 HB hHeld ⊢
       refine tst2 (i := 0) (N := some 12) (bz 18 1) (take_ofW HT_.out HW_.out (by kernel_rfl)) hHeld ?_
       refine one_ (i := 1) (N := some 13) #[true, true, false, false, false, false, false, false, false, false, false, false, false, false, false, false, false, false] rfl rfl (one_of HT_.out (by kernel_rfl)) (by decide) (fun K hK => ?_)
       refine goes_ Tryz.func29 (by kernel_rfl) rfl #[.agg #[.int .i64 ((rd_T38 l0 x7_1).f0), .int .i64 ((rd_T38 l0 x7_1).f1)]] (by rfl) rfl rfl mapz ?_
       with_reducible refine (mast_isStretch.calls ((rd_T38 l0 x7_1).f0) ((rd_T38 l0 x7_1).f1) false _ A5.out).mono ?_
       rintro e w31 ⟨rfl, hb⟩
       refine ⟨_, rfl, ?_⟩
       have n0_ := Aside0.mk (blk_below (g := gb107) blkz hb)
       have n1_ := Aside0.mk (below_step bel hb)
       clear BK107
       clear HB
       have BK107 := n0_
       have HB := n1_
       clear n0_ n1_
       (try clear hb)
       (try clear hb2)
       (try clear hk)
       (try clear hi)
       refine hK.out _ _ ⟨(blk_cell BK107.out 0).trans rfl, (blk_cell BK107.out 1).trans rfl⟩ (fun hHeld => ?_)
       clear hK K
       refine norm_ (a' := ?_) ?_ ?_
       rotate_left
       ·
        show Act.put _ (some 13) _ = _
        simp only [Act.put, List.setIfInBounds_toArray, List.set_cons_zero, List.set_cons_succ, i64_w, i32_w]
        rfl
       refine pst (i := 2) (N := some 14) (bz 18 7) (any_of HT_.out (by kernel_rfl)) ?_
       refine pst (i := 3) (N := some 15) (bz 18 15) (any_of HT_.out (by kernel_rfl)) ?_
       refine pso (i := 4) (N := some 16) (bz 18 31) (any_of HT_.out (by kernel_rfl)) ?_
       refine pso (i := 5) (N := some 17) (bz 18 63) (any_of HT_.out (by kernel_rfl)) ?_
       refine pso (i := 6) (N := some 18) (bz 18 127) (any_of HT_.out (by kernel_rfl)) ?_
       refine pso (i := 7) (N := some 19) (bz 18 255) (any_of HT_.out (by kernel_rfl)) ?_
       refine pso (i := 8) (N := some 20) (bz 18 511) (any_of HT_.out (by kernel_rfl)) ?_
       refine pso (i := 9) (N := some 21) (bz 18 1023) (any_of HT_.out (by kernel_rfl)) ?_
       refine pso (i := 10) (N := some 22) (bz 18 2047) (any_of HT_.out (by kernel_rfl)) ?_
       refine pso (i := 11) (N := some 23) (bz 18 4095) (any_of HT_.out (by kernel_rfl)) ?_
       refine pso (i := 12) (N := some 24) (bz 18 8191) (any_of HT_.out (by kernel_rfl)) ?_
       refine pso (i := 13) (N := some 25) (bz 18 16383) (any_of HT_.out (by kernel_rfl)) ?_
       refine pso (i := 14) (N := some 26) (bz 18 32767) (any_of HT_.out (by kernel_rfl)) ?_
       refine pso (i := 15) (N := some 27) (bz 18 65535) (any_of HT_.out (by kernel_rfl)) ?_
       refine pso (i := 16) (N := some 28) (bz 18 131071) (any_of HT_.out (by kernel_rfl)) ?_
       refine pst (i := 17) (N := some 29) (bz 18 262143) (any_of HT_.out (by kernel_rfl)) ?_
       refine done_ (done_of HT_.out (by kernel_rfl)) ?_
       try go_wp2
       go_ret
       exact ⟨ezz, bel⟩
     ·
      rw [if_neg c4] at H
      exact absurd H (by simp)
    ·
     rw [if_neg c3] at H
     exact absurd H (by simp)
   ·
    rw [if_neg c2] at H
    have c2b0 : decide (x7_1 < (l0.length : Int)) = false := decide_eq_false c2
    clear c2
    obtain rfl := Option.some.inj H
    go_wp2
    go_ret
    exact ⟨ezz, bel⟩

/-! ### mast_at: function 22 -/
def mast_at.txt (n : Int) : ByteArray := ⟨(Lib.itoa n).toArray⟩
def mast_at.f (a0 : Int) : Option ByteArray := if 0 ≤ a0 ∧ a0 ≤ 1000000 ∧ (mast_at.txt (a0 / 1000)).size ≤ 1000 ∧ 1 ≤ (mast_at.txt (1000 + a0 % 1000)).size ∧ (mast_at.txt (1000 + a0 % 1000)).size ≤ 1000 then some (mast_at.txt (a0 / 1000) ++ ⟨#[43]⟩ ++ (mast_at.txt (1000 + a0 % 1000)).extract 1 (mast_at.txt (1000 + a0 % 1000)).size) else none
theorem mast_at.below (w : World) (k : Nat) (os : Array Obj) : Below w.heap.size w (Sort.grow (w.drewN k) os) := by
 have h := pw_below_drewN (Below.refl w.heap.size w) k
 exact ⟨h.os, h.tape, h.output, by show w.heap.size ≤ (w.heap ++ os).size; rw [Array.size_append]; omega, fun j hj => by show (w.heap ++ os)[j]? = _; rw [Array.getElem?_append_left hj]⟩
theorem mast_at.itoa (n : Int) (h0 : -9223372036854775808 ≤ n) (h1 : n ≤ 9223372036854775807) (w : World) (hT : Tab.Tabs w) :
  Calls Tryz.prog 35 #[.int .i64 n] w fun e w' => e = .returned (.string (mast_at.txt n)) ∧ Below w.heap.size w w' := by
 refine (Tryz.strconv_Itoa n h0 h1 w (Tab.pow hT)).mono ?_
 rintro e w1 ⟨rfl, k, os, rfl⟩
 exact ⟨rfl, mast_at.below w k os⟩
set_option maxHeartbeats 2000000 in
set_option maxRecDepth 100000 in
theorem mast_at.calls (a0 : Int) (r : ByteArray) (w : World) (hT : Tab.Tabs w) (h : mast_at.f a0 = some r) :
  Calls Tryz.prog 22 #[.int .i64 a0] w fun e w' => e = .returned (.string r) ∧ Below w.heap.size w w' := by
 have HT := Aside0.mk hT
 clear hT
 unfold mast_at.f at h
 by_cases hc : ¬ (0 ≤ a0 ∧ a0 ≤ 1000000 ∧ (mast_at.txt (a0 / 1000)).size ≤ 1000 ∧ 1 ≤ (mast_at.txt (1000 + a0 % 1000)).size ∧ (mast_at.txt (1000 + a0 % 1000)).size ≤ 1000)
 ·
  rw [if_neg hc] at h; cases h
 replace hc := Decidable.not_not.1 hc
 rw [if_pos hc] at h
 have H := Aside0.mk (Option.some.inj h)
 have HC := Aside0.mk hc
 have e1 : wrap64 (a0.tdiv 1000) = a0 / 1000 := by rw [Int.tdiv_eq_ediv_of_nonneg hc.1]; unfold wrap64; omega
 have e2 : a0.tmod 1000 = a0 % 1000 := Int.tmod_eq_emod_of_nonneg hc.1
 have e3 : wrap64 (1000 + a0 % 1000) = 1000 + a0 % 1000 := by unfold wrap64; omega
 have l1 : (9223372036854775807 < (mast_at.txt (a0 / 1000)).size + 1) = False := eq_false (by omega)
 have l2 : (1 ≤ (mast_at.txt (1000 + a0 % 1000)).size) = True := eq_true hc.2.2.2.1
 have l3 : ((1 : Int) ≤ ((mast_at.txt (1000 + a0 % 1000)).size : Int)) = True := eq_true (by omega)
 have l4 : (9223372036854775807 < (mast_at.txt (a0 / 1000)).size + 1 + ((mast_at.txt (1000 + a0 % 1000)).size - 1)) = False := eq_false (by omega)
 clear h hc
 go_enter Tryz.func22, Tryz.ntmps22
 go_wp2_with (first | (go_at_call 35; first | ((with_reducible refine (mast_at.itoa (a0 / 1000) (by have := HC.out; omega) (by have := HC.out; omega) w HT.out).mono ?_); rintro e w1 ⟨rfl, hb⟩; have HB1 := Aside0.mk hb; clear hb) | ((with_reducible refine (mast_at.itoa (1000 + a0 % 1000) (by have := HC.out; omega) (by have := HC.out; omega) w1 (Tab.Tabs.below HT.out HB1.out)).mono ?_); rintro e w2 ⟨rfl, hb⟩; have HB2 := Aside0.mk hb; clear hb)))
 go_ret
 refine ⟨by rw [H.out]; rfl, below_step HB1.out HB2.out⟩

/-! ### strings_Join: function 27 -/
def strings_Join.txt (l0 : List ByteArray) (a1 : ByteArray) : List UInt8 := Lib.join (l0.map (·.data.toList)) a1.data.toList
def strings_Join.f (l0 : List ByteArray) (a1 : ByteArray) : Option ByteArray := if l0.length ≤ 100000 ∧ (strings_Join.txt l0 a1).length ≤ 1000000 then some ⟨(strings_Join.txt l0 a1).toArray⟩ else none
theorem strings_Join.calls (A0 : Option Addr) (c0 : Nat) (l0 : List ByteArray) (a1 : ByteArray) (r : ByteArray) (w : World) (hr0 : Kd.C Kd.string w A0 l0.length l0) (hc0 : l0.length ≤ c0) (h : strings_Join.f l0 a1 = some r) :
  Calls Tryz.prog 27 #[.slice A0 l0.length c0, .string a1] w fun e w' => e = .returned (.string r) ∧ Below w.heap.size w w' := by
 unfold strings_Join.f at h
 by_cases hl : ¬ (l0.length ≤ 100000 ∧ (strings_Join.txt l0 a1).length ≤ 1000000)
 ·
  rw [if_neg hl] at h; cases h
 replace hl := Decidable.not_not.1 hl
 rw [if_pos hl] at h
 obtain rfl := Option.some.inj h
 cases l0 with
 | nil =>
  refine (Tryz.strings_Join_none A0 c0 a1 w).mono ?_
  rintro e w' ⟨rfl, rfl⟩
  exact ⟨rfl, Below.refl _ _⟩
 | cons x l =>
  have hcell : ∀ j, j < (x :: l).length → ∃ ad, A0 = some ad ∧ w.cell? (ad.add j) = some (.string ((x :: l).getD j ByteArray.empty)) := by
   intro j hj
   obtain ⟨ad, e1, hx⟩ := Kd.at_string hr0 (j : Int) (by omega) (by omega)
   refine ⟨ad, e1, ?_⟩
   rw [Int.toNat_natCast] at hx
   rw [hx]; simp [rdOf]
  obtain ⟨ad, rfl, h0⟩ := hcell 0 (by simp)
  have hsp : ad.spot = none := by
   have e : ad.add 0 = ad := by simp [Addr.add]
   rw [e] at h0
   unfold World.cell? at h0
   split at h0
   ·
    split at h0
    ·
     cases h0
    ·
     rename_i hs; simpa using hs
   ·
    cases h0
  obtain ⟨b, off, sp⟩ := ad
  simp only at hsp
  subst hsp
  refine (Tryz.strings_Join b off c0 (x :: l) a1 w (fun j y hj => ?_) ?_ (by omega) hc0 (by have := hl.2; unfold strings_Join.txt at this; omega)).mono ?_
  ·
   have hjl : j < (x :: l).length := (List.getElem?_eq_some_iff.1 hj).1
   obtain ⟨ad, e1, hx⟩ := hcell j hjl
   cases e1
   have e : (⟨b, off, none⟩ : Addr).add j = ⟨b, off + j, none⟩ := by unfold Addr.add; split <;> simp_all
   rw [e, List.getD_eq_getElem?_getD, hj] at hx
   exact hx
  ·
   have := World.block_lt_of_cell? _ _ h0
   unfold Addr.add at this
   split at this <;> simpa using this
  ·
   rintro e w' ⟨rfl, hb⟩
   exact ⟨rfl, hb⟩

/-! ### mast_Format: function 12 -/
def mast_Format.l0 : Nat → List ByteArray → List (S38) → Int → Int → Option (ByteArray × Int)
 | 0, _, _, _, _ => none
 | k + 1, x4, x10, x11, x12 => if x12 < x11 then (if 0 ≤ x12 then (if x12 < (x10.length : Int) then ((mast_at.f ((rd_T38 x10 x12).f0)).bind fun t113 => (if t113.size + 1 ≤ 9223372036854775807 then ((mast_at.f ((rd_T38 x10 x12).f1)).bind fun t114 => (if (t113 ++ (⟨#[45]⟩ : ByteArray)).size + t114.size ≤ 9223372036854775807 then (if x4.length < 8796093022208 then (mast_Format.l0 k (x4 ++ [(t113 ++ (⟨#[45]⟩ : ByteArray)) ++ t114]) x10 x11 (wrap64 (x12 + 1))) else (none)) else (none))) else (none))) else (none)) else (none)) else ((strings_Join.f x4 (⟨#[32]⟩ : ByteArray)).bind fun t118 => (some (t118, 0)))
def mast_Format.f (k : Nat) (l0 : List (S38)) : Option (ByteArray × Int) := (mast_Valid.f k l0).bind fun t110 => (if t110 = true then (mast_Format.l0 k ([] : List ByteArray) l0 (l0.length : Int) 0) else (some ((⟨#[]⟩ : ByteArray), 10)))
theorem mast_Format.mono_l : ∀ k, (∀ y0 y1 y2 y3, LeO (mast_Format.l0 k y0 y1 y2 y3) (mast_Format.l0 (k + 1) y0 y1 y2 y3))
 | 0 => fun _ _ _ _ r h => by simp [mast_Format.l0] at h
 | k + 1 => by
  have ih0 := mast_Format.mono_l k
  ·
   intro y0 y1 y2 y3
   unfold mast_Format.l0
   repeat' first
   | (with_reducible exact ih0 _ _ _ _)
   | (with_reducible exact mast_Valid.mono _ _)
   | (with_reducible exact LeO.refl _)
   | (with_reducible exact LeO.none _)
   | (with_reducible refine LeO.ite ?_ ?_)
   | (with_reducible refine LeO.bind ?_ (fun _ => ?_))
   | exact ih0 _ _ _ _
   | exact mast_Valid.mono _ _
   | exact LeO.none _
   | refine LeO.ite ?_ ?_
   | refine LeO.bind ?_ (fun _ => ?_)
theorem mast_Format.mono : ∀ a0 k, LeO (mast_Format.f k a0) (mast_Format.f (k + 1) a0) := by
 intro a0 k
 have ih0 := mast_Format.mono_l k
 unfold mast_Format.f
 repeat' first
   | (with_reducible exact ih0 _ _ _ _)
   | (with_reducible exact mast_Valid.mono _ _)
   | (with_reducible exact LeO.refl _)
   | (with_reducible exact LeO.none _)
   | (with_reducible refine LeO.ite ?_ ?_)
   | (with_reducible refine LeO.bind ?_ (fun _ => ?_))
   | exact ih0 _ _ _ _
   | exact mast_Valid.mono _ _
   | exact LeO.none _
   | refine LeO.ite ?_ ?_
   | refine LeO.bind ?_ (fun _ => ?_)
def mast_Format.T7 : Bool × List (List Nat × List Nat) := (true, [([], []), ([], []), ([1], [1]), ([2], [2]), ([3], [3]), ([], []), ([5], [5]), ([6, 3], [6]), ([4, 7], [4, 7]), ([8], [8]), ([0, 9, 7], [0, 9]), ([10, 10, 0, 1, 2, 3, 4, 5, 6, 7, 8, 9, 10], [0, 10])])
def mast_Format.B7 : List Nat := [0, 0, 2, 6, 14, 0, 32, 110, 254, 510, 1023, 2047]
theorem mast_Format.tab7 : rtab .any (opsOf Tryz.f12 7) = mast_Format.T7 := by kernel_rfl
theorem mast_Format.bits7 : waitsOk mast_Format.T7.2 mast_Format.B7 = true := by kernel_rfl
set_option maxHeartbeats 8000000 in
set_option maxRecDepth 100000 in
theorem mast_Format.calls (k : Nat) (A0 : Option Addr) (c0 : Nat) (l0 : List (S38)) (r1 : ByteArray) (r2 : Int) (w : World) (hr0 : Kd.C k38 w A0 l0.length l0) (hc0 : l0.length ≤ c0) (hT : Tab.Tabs w) (h : mast_Format.f k l0 = some (r1, r2)) :
  Calls Tryz.prog 12 #[.slice A0 l0.length c0] w fun e w' => e = .returned (.tuple #[.string r1, .int .i64 r2]) ∧ Below w.heap.size w w' := by
 have HT := Aside0.mk hT
 clear hT
 have hu38 := Tryz.underlying38
 have HR0 := Aside0.mk hr0
 have HC0 := Aside0.mk hc0
 clear hr0 hc0
 have HB := Aside0.mk (Below.refl w.heap.size w)
 have H : ((mast_Valid.f k l0).bind fun t110 => (if t110 = true then (mast_Format.l0 k ([] : List ByteArray) l0 (l0.length : Int) 0) else (some ((⟨#[]⟩ : ByteArray), 10)))) = some (r1, r2) := h
 clear h
 replace H := Option.bind_eq_some_iff.mp H
 obtain ⟨t110, A20, H⟩ := H
 try dsimp only at H
 have A2 := Aside0.mk A20
 clear A20
 by_cases c3 : t110 = true
 ·
  subst c3
  rw [if_pos rfl] at H
  have H' := Aside0.mk H
  clear H
  go_enter Tryz.func12, Tryz.ntmps12
  go_wp2_with (first | ((with_reducible refine gate_callee (f := 14) rfl ?_); refine goesL_ (some 8) rfl rfl Tryz.func14 (by kernel_rfl) rfl #[.slice A0 l0.length c0] rfl mapz ?_; (with_reducible refine (mast_Valid.calls k _ _ l0 true _ ?side1 HC0.out A2.out).mono ?_); (case side1 => repeat (first | exact HR0.out | (with_reducible refine Kd.C_alloc ?_ _) | (with_reducible refine Kd.C_drewN ?_ _) | (with_reducible refine Kd.C_drew ?_))); rintro e w4 ⟨rfl, hb⟩; refine ⟨_, rfl, ?_⟩; replace HB := Aside0.mk (below_step bel hb); clear hb))
  go_loopg [4, 12] k (fun kq v4 v12 w' => ∃ (x4_1 : List ByteArray) (x12_1 : Int), v12 = .int .i64 x12_1 ∧ Aside0 (mast_Format.l0 kq x4_1 l0 (l0.length : Int) x12_1 = some (r1, r2)) ∧ Aside0 (kq ≤ k) ∧ Aside0 (Kd.R Kd.string 9 w' w.heap.size (fun _ => True) v4 x4_1) ∧ Aside0 (Below w.heap.size w w'))
  case atStart => exact ⟨(([] : List ByteArray)), (0), rsz, H', ⟨Nat.le_refl _⟩, ⟨by first | exact Kd.R_nil _ _ _ _ _ | exact Kd.N_nil _ _ _ _ _ | exact Kd.V_nil _ _ _ _ _ | exact Kd.Q_nil _ _ _ _ _ | exact Kd.S_nil _ _ _ _ _⟩, ⟨bel⟩⟩
  case round =>
   clear H'
   (try clear c1); (try clear p2); (try clear c3)
   obtain ⟨x4_1, x12_1, rfl, HA, HK1, HO_4, HB⟩ := hrel
   cases gk with
   | zero => exact absurd HA.out (by simp [mast_Format.l0])
   | succ k1 =>
    have H := HA.out
    clear HA
    simp only [mast_Format.l0] at H
    by_cases c5 : x12_1 < (l0.length : Int)
    ·
     rw [if_pos c5] at H
     have c5b0 : decide (x12_1 < (l0.length : Int)) = true := decide_eq_true c5
     clear c5
     by_cases c6 : 0 ≤ x12_1
     ·
      rw [if_pos c6] at H
      have c6b0 : decide (0 ≤ x12_1) = true := decide_eq_true c6
      clear c6
      by_cases c7 : x12_1 < (l0.length : Int)
      ·
       rw [if_pos c7] at H
       have c7b0 : decide (x12_1 < (l0.length : Int)) = true := decide_eq_true c7
       clear c7
       replace H := Option.bind_eq_some_iff.mp H
       obtain ⟨t113, A80, H⟩ := H
       try dsimp only at H
       have A8 := Aside0.mk A80
       clear A80
       by_cases c9 : t113.size + 1 ≤ 9223372036854775807
       ·
        rw [if_pos c9] at H
        have c9b0 := eq_true c9
        have c9b1 : decide (t113.size + 1 ≤ 9223372036854775807) = true := decide_eq_true c9
        try have c9b2 : (9223372036854775807 < t113.size + 1) = False := eq_false (Nat.not_lt.2 c9)
        replace H := Option.bind_eq_some_iff.mp H
        obtain ⟨t114, A100, H⟩ := H
        try dsimp only at H
        have A10 := Aside0.mk A100
        clear A100
        by_cases c11 : (t113 ++ (⟨#[45]⟩ : ByteArray)).size + t114.size ≤ 9223372036854775807
        ·
         rw [if_pos c11] at H
         have c11b0 := eq_true c11
         have c11b1 : decide ((t113 ++ (⟨#[45]⟩ : ByteArray)).size + t114.size ≤ 9223372036854775807) = true := decide_eq_true c11
         try have c11b2 : (9223372036854775807 < (t113 ++ (⟨#[45]⟩ : ByteArray)).size + t114.size) = False := eq_false (Nat.not_lt.2 c11)
         have c11b4 := c11b2
         try simp only [ByteArray.size_append, show (⟨#[45]⟩ : ByteArray).size = 1 from rfl] at c11b4
         by_cases c12 : x4_1.length < 8796093022208
         ·
          rw [if_pos c12] at H
          have LMc12 := Aside0.mk c12
          clear c12
          obtain ⟨y115, hy115⟩ : ∃ y_ : List ByteArray, y_ = (x4_1 ++ [(t113 ++ (⟨#[45]⟩ : ByteArray)) ++ t114]) := ⟨_, rfl⟩
          replace H : (mast_Format.l0 k1 y115 l0 (l0.length : Int) (wrap64 (x12_1 + 1))) = some (r1, r2) := by first | (rw [hy115]; with_reducible exact H) | (have H2_ := (Option.bind_some _ _).symm.trans H; rw [hy115]; with_reducible exact H2_) | (have H2_ := (Option.bind_some _ _).symm.trans H; with_reducible exact H2_) | with_reducible exact H | (rw [hy115]; exact H) | exact H
          have Ny115 := Aside0.mk hy115
          clear hy115
          have H' := Aside0.mk H
          clear H
          have p111 : 0 ≤ (x12_1 : Int) := of_decide_eq_true asz
          have q111 : x12_1 < (l0.length : Int) := of_decide_eq_true asz
          obtain ⟨ad111, e111, hx111_0, hx111_1⟩ := at_T38 HR0.out x12_1 p111 q111
          cases e111
          replace hx111_0 := (HB.out.cell (World.block_lt_of_cell? w _ hx111_0)).trans hx111_0
          replace hx111_1 := (HB.out.cell (World.block_lt_of_cell? w _ hx111_1)).trans hx111_1
          replace p111 := eq_true p111
          replace q111 := eq_true q111
          try go_wp2_with (first | ((with_reducible refine gate_dst (N := 6) rfl ?_); refine box_event ?hg (N := 6) ?hd (cs := #[.int .i64 0, .int .i64 0]) (t := 38) ?hr ?_; (case hd => rfl); (case hg => rfl); (case hr => first | (go_simp; done) | (go_simp; rfl)); intro gb112 hg w13 hbox hb; have BK112 := Aside0.mk (hbox); have GW112 := bsz (w := w) hg; have GE112 := GW112; replace HO_4 := Aside0.mk (Kd.R_below (ownx HO_4) hb); replace HB := Aside0.mk (below_step bel hb); clear hb hbox hg; obtain ⟨hcz14_0, hcz14_1⟩ := bc2 BK112.out; obtain ⟨hfz14_0, hfz14_1⟩ := bf2 BK112.out))
          have n0_ : Aside0 (Kd.R Kd.string 9 ((w13.setCell ⟨gb112, 0, none⟩ (.int .i64 ((rd_T38 l0 x12_1).f0))).setCell ⟨gb112, 1, none⟩ (.int .i64 ((rd_T38 l0 x12_1).f1))) w.heap.size (fun _ => True) u4 x4_1) := ⟨by (with_reducible repeat (first | apply Kd.R_alloc | apply Kd.R_drewN | apply Kd.R_drew)); exact Kd.R_mono (Kd.R_far (p := ⟨gb112, 1, none⟩) (Kd.R_far (p := ⟨gb112, 0, none⟩) (Kd.R_types HO_4.out BK112.out (by decide)) (fun _ hk => hk.2) (.int .i64 ((rd_T38 l0 x12_1).f0))) (fun _ hk => hk.2) (.int .i64 ((rd_T38 l0 x12_1).f1))) (fun _ hk => trivial)⟩
          have n1_ : Aside0 (((w13.setCell ⟨gb112, 0, none⟩ (.int .i64 ((rd_T38 l0 x12_1).f0))).setCell ⟨gb112, 1, none⟩ (.int .i64 ((rd_T38 l0 x12_1).f1))).heap[gb112]? = some (.cells #[.int .i64 ((rd_T38 l0 x12_1).f0), .int .i64 ((rd_T38 l0 x12_1).f1)] 38 (0, 0))) := ⟨by (with_reducible repeat (first | refine blk_drewN ?_ _ | refine blk_drew ?_ | refine blk_alloc ?_ _)); refine blk_put (cs := #[.int .i64 ((rd_T38 l0 x12_1).f0), .int .i64 0]) ?_ 1 _ rfl; (with_reducible repeat (first | refine blk_drewN ?_ _ | refine blk_drew ?_ | refine blk_alloc ?_ _)); refine blk_put (cs := #[.int .i64 0, .int .i64 0]) ?_ 0 _ rfl; (with_reducible repeat (first | refine blk_drewN ?_ _ | refine blk_drew ?_ | refine blk_alloc ?_ _)); exact BK112.out⟩
          have n2_ : Aside0 (Below w.heap.size w ((w13.setCell ⟨gb112, 0, none⟩ (.int .i64 ((rd_T38 l0 x12_1).f0))).setCell ⟨gb112, 1, none⟩ (.int .i64 ((rd_T38 l0 x12_1).f1)))) := ⟨bel⟩
          (try clear HO_4)
          (try clear BK112)
          (try clear HB)
          generalize ((w13.setCell ⟨gb112, 0, none⟩ (.int .i64 ((rd_T38 l0 x12_1).f0))).setCell ⟨gb112, 1, none⟩ (.int .i64 ((rd_T38 l0 x12_1).f1))) = w15 at n0_ n1_ n2_ ⊢
          have HO_4 := n0_
          have BK112 := n1_
          have HB := n2_
          clear n0_ n1_ n2_
          have n0_ := Aside0.mk (Kd.R_drew HO_4.out)
          have n1_ := Aside0.mk (blk_drew BK112.out)
          have n2_ := Aside0.mk (below_drew1 HB.out)
          clear HO_4
          clear BK112
          clear HB
          have HO_4 := n0_
          have BK112 := n1_
          have HB := n2_
          clear n0_ n1_ n2_
          refine start_ (n := 12) (S := fun w' => w'.cell? ⟨gb112, 0, none⟩ = some (.int .i64 ((rd_T38 l0 x12_1).f0)) ∧ w'.cell? ⟨gb112, 1, none⟩ = some (.int .i64 ((rd_T38 l0 x12_1).f1))) (ds := []) #[false, false, false, false, false, false, false, false, false, false, false, false] (by kernel_rfl) rfl rfl ⟨(blk_cell BK112.out 0).trans rfl, (blk_cell BK112.out 1).trans rfl⟩ (fun hHeld => ?_); refine with_tabW mast_Format.tab7 mast_Format.bits7 (fun HT_ HW_ => ?_)
          generalize w15.drew = w16 at HO_4 BK112 HB hHeld ⊢
          refine pst (i := 0) (N := some 16) (bz 12 1) (any_of HT_.out (by kernel_rfl)) ?_
          refine pst (i := 1) (N := some 17) (bz 12 3) (any_of HT_.out (by kernel_rfl)) ?_
          refine pst (i := 5) (N := some 21) (bz 12 35) (any_of HT_.out (by kernel_rfl)) ?_
          refine tst2 (i := 2) (N := some 18) (bz 12 39) (take_ofW HT_.out HW_.out (by kernel_rfl)) hHeld ?_
          refine tst2 (i := 6) (N := some 22) (bz 12 103) (take_ofW HT_.out HW_.out (by kernel_rfl)) hHeld ?_
          refine one_ (i := 3) (N := some 19) #[true, true, true, true, false, true, true, false, false, false, false, false] rfl rfl (one_of HT_.out (by kernel_rfl)) (by decide) (fun K hK => ?_)
          refine goes_ Tryz.func22 (by kernel_rfl) rfl #[.int .i64 ((rd_T38 l0 x12_1).f0)] (by rfl) rfl rfl mapz ?_
          with_reducible refine (mast_at.calls ((rd_T38 l0 x12_1).f0) t113 _ ?sideT A8.out).mono ?_
          (case sideT => first | exact HT.out | exact Tab.Tabs.below HT.out bel | (with_reducible repeat (first | exact HT.out | apply Tab.Tabs.alloc | apply Tab.Tabs.drewN | apply Tab.Tabs.drew)))
          rintro e w17 ⟨rfl, hb⟩
          refine ⟨_, rfl, ?_⟩
          have n0_ := Aside0.mk (Kd.R_below (ownx HO_4) hb)
          have n1_ := Aside0.mk (blk_below (g := gb112) blkz hb)
          have n2_ := Aside0.mk (below_step bel hb)
          clear HO_4
          clear BK112
          clear HB
          have HO_4 := n0_
          have BK112 := n1_
          have HB := n2_
          clear n0_ n1_ n2_
          (try clear hb)
          (try clear hb2)
          (try clear hk)
          (try clear hi)
          refine hK.out _ _ ⟨(blk_cell BK112.out 0).trans rfl, (blk_cell BK112.out 1).trans rfl⟩ (fun hHeld => ?_)
          clear hK K
          refine norm_ (a' := ?_) ?_ ?_
          rotate_left
          ·
           show Act.put _ (some 19) _ = _
           simp only [Act.put, List.setIfInBounds_toArray, List.set_cons_zero, List.set_cons_succ, i64_w, i32_w]
           rfl
          refine pst (i := 4) (N := some 20) (bz 12 127) (any_of HT_.out (by kernel_rfl)) ?_
          refine one_ (i := 7) (N := some 23) #[true, true, true, true, true, true, true, true, false, false, false, false] rfl rfl (one_of HT_.out (by kernel_rfl)) (by decide) (fun K hK => ?_)
          refine goes_ Tryz.func22 (by kernel_rfl) rfl #[.int .i64 ((rd_T38 l0 x12_1).f1)] (by rfl) rfl rfl mapz ?_
          with_reducible refine (mast_at.calls ((rd_T38 l0 x12_1).f1) t114 _ ?sideT A10.out).mono ?_
          (case sideT => first | exact HT.out | exact Tab.Tabs.below HT.out bel | (with_reducible repeat (first | exact HT.out | apply Tab.Tabs.alloc | apply Tab.Tabs.drewN | apply Tab.Tabs.drew)))
          rintro e w18 ⟨rfl, hb⟩
          refine ⟨_, rfl, ?_⟩
          have n0_ := Aside0.mk (Kd.R_below (ownx HO_4) hb)
          have n1_ := Aside0.mk (blk_below (g := gb112) blkz hb)
          have n2_ := Aside0.mk (below_step bel hb)
          clear HO_4
          clear BK112
          clear HB
          have HO_4 := n0_
          have BK112 := n1_
          have HB := n2_
          clear n0_ n1_ n2_
          (try clear hb)
          (try clear hb2)
          (try clear hk)
          (try clear hi)
          refine hK.out _ _ ⟨(blk_cell BK112.out 0).trans rfl, (blk_cell BK112.out 1).trans rfl⟩ (fun hHeld => ?_)
          clear hK K
          refine norm_ (a' := ?_) ?_ ?_
          rotate_left
          ·
           show Act.put _ (some 23) _ = _
           simp only [Act.put, List.setIfInBounds_toArray, List.set_cons_zero, List.set_cons_succ, i64_w, i32_w]
           rfl
          refine pst (i := 8) (N := some 24) (bz 12 511) (any_of HT_.out (by kernel_rfl)) ?_
          refine one_ (i := 9) (N := some 25) #[true, true, true, true, true, true, true, true, true, true, false, false] rfl rfl (one_of HT_.out (by kernel_rfl)) (by decide) (fun K hK => ?_)
          refine value_ (w1 := ?_) (v := ?_) (by rfl) rfl ?_ ?_
          rotate_left 2
          ·
           go_simp
           constructor
           ·
            rfl
           ·
            rfl
          refine hK.out _ _ ⟨(blk_cell (blk_alloc BK112.out _) 0).trans rfl, (blk_cell (blk_alloc BK112.out _) 1).trans rfl⟩ (fun hHeld => ?_)
          clear hK K
          refine norm_ (a' := ?_) ?_ ?_
          rotate_left
          ·
           show Act.put _ (some 25) _ = _
           simp only [Act.put, List.setIfInBounds_toArray, List.set_cons_zero, List.set_cons_succ, i64_w, i32_w]
           rfl
          refine one_ (i := 10) (N := some 26) #[true, true, true, true, true, true, true, true, true, true, true, false] rfl rfl (one_of HT_.out (by kernel_rfl)) (by decide) (fun K hK => ?_)
          refine Kd.R_append_step Kd.string (w0 := w) w.heap.size (by rfl) (.tmp 16) (.tmp 25) 48 9 (.string ⟨#[]⟩) 16 rfl Tryz.underlying48 info9 rfl (by decide) (by omega) u4 x4_1 ((t113 ++ (⟨#[45]⟩ : ByteArray)) ++ t114) [.string ((t113 ++ (⟨#[45]⟩ : ByteArray)) ++ t114)] (fun _ => True) (fun _ => False) rfl rfl ?aP (fun _ hk => hk.elim) ?aF ?aO ?aB ?aS ?aL ?_
          (case aP => exact rfl)
          (case aB => exact bel)
          (case aF => exact (fun _ _ => trivial))
          (case aO => exact (ownx HO_4))
          (case aS => exact (below_size bel))
          (case aL => have := LMc12.out; omega)
          intro v116 w19 ho hb hg hat
          rw [← Ny115.out] at ho
          have n0_ := Aside0.mk (blk_grown (g := gb112) (o := .cells #[.int .i64 ((rd_T38 l0 x12_1).f0), .int .i64 ((rd_T38 l0 x12_1).f1)] 38 (0, 0)) blkz hg (Kd.R_ne HO_4.out BK112.out (by decide)))
          have n1_ := Aside0.mk (hb)
          have n2_ := Aside0.mk (ho)
          clear BK112
          clear HB
          clear HO_4
          have BK112 := n0_
          have HB := n1_
          have HO117 := n2_
          clear n0_ n1_ n2_
          clear ho hb hg hat
          refine hK.out _ _ ⟨(blk_cell BK112.out 0).trans rfl, (blk_cell BK112.out 1).trans rfl⟩ (fun hHeld => ?_)
          clear hK K
          refine norm_ (a' := ?_) ?_ ?_
          rotate_left
          ·
           show Act.put _ (some 26) _ = _
           simp only [Act.put, List.setIfInBounds_toArray, List.set_cons_zero, List.set_cons_succ, i64_w, i32_w]
           rfl
          refine pst (i := 11) (N := some 4) (bz 12 4095) (any_of HT_.out (by kernel_rfl)) ?_
          refine done_ (done_of HT_.out (by kernel_rfl)) ?_
          try go_wp2
          go_roundg k1
          case measure => have := HK1.out; omega
          case rel => exact ⟨(y115), (wrap64 (x12_1 + 1)), rsz, H', ⟨by have := HK1.out; omega⟩, ⟨by (with_reducible repeat (first | apply Kd.R_alloc | apply Kd.R_drewN | apply Kd.R_drew)); exact HO117.out⟩, ⟨bel⟩⟩
         ·
          rw [if_neg c12] at H
          exact absurd H (by simp)
        ·
         rw [if_neg c11] at H
         exact absurd H (by simp)
       ·
        rw [if_neg c9] at H
        exact absurd H (by simp)
      ·
       rw [if_neg c7] at H
       exact absurd H (by simp)
     ·
      rw [if_neg c6] at H
      exact absurd H (by simp)
    ·
     rw [if_neg c5] at H
     have c5b0 : decide (x12_1 < (l0.length : Int)) = false := decide_eq_false c5
     clear c5
     replace H := Option.bind_eq_some_iff.mp H
     obtain ⟨t118, A200, H⟩ := H
     try dsimp only at H
     have A20 := Aside0.mk A200
     clear A200
     simp only [Option.some.injEq, Prod.mk.injEq] at H
     obtain ⟨rfl, rfl⟩ := H
     obtain ⟨Ao21, co21, eo21⟩ := Kd.R_slice HO_4.out
     subst eo21
     go_wp2_with (first | ((with_reducible refine gate_callee (f := 27) rfl ?_); refine goesL_ (some 29) rfl rfl Tryz.func27 (by kernel_rfl) rfl #[.slice Ao21 x4_1.length co21, .string (⟨#[32]⟩ : ByteArray)] rfl mapz ?_; (with_reducible refine (strings_Join.calls _ _ x4_1 (⟨#[32]⟩ : ByteArray) t118 _ ?side1 ?side2 A20.out).mono ?_); (case side1 => repeat (first | exact (Kd.R_reads' HO_4.out).2.2 | (with_reducible refine Kd.C_alloc ?_ _) | (with_reducible refine Kd.C_drewN ?_ _) | (with_reducible refine Kd.C_drew ?_))); (case side2 => exact (Kd.R_reads' HO_4.out).2.1); rintro e w22 ⟨rfl, hb⟩; refine ⟨_, rfl, ?_⟩; replace HO_4 := Aside0.mk (Kd.R_below (ownx HO_4) hb); replace HB := Aside0.mk (below_step bel hb); clear hb))
     go_ret2
     exact ⟨ezz, bel⟩
 ·
  replace c3 := Bool.eq_false_iff.mpr c3
  subst c3
  rw [if_neg (show ¬ (false = true) by decide)] at H
  simp only [Option.some.injEq, Prod.mk.injEq] at H
  obtain ⟨rfl, rfl⟩ := H
  go_enter Tryz.func12, Tryz.ntmps12
  go_wp2_with (first | ((with_reducible refine gate_callee (f := 14) rfl ?_); refine goesL_ (some 8) rfl rfl Tryz.func14 (by kernel_rfl) rfl #[.slice A0 l0.length c0] rfl mapz ?_; (with_reducible refine (mast_Valid.calls k _ _ l0 false _ ?side1 HC0.out A2.out).mono ?_); (case side1 => repeat (first | exact HR0.out | (with_reducible refine Kd.C_alloc ?_ _) | (with_reducible refine Kd.C_drewN ?_ _) | (with_reducible refine Kd.C_drew ?_))); rintro e w23 ⟨rfl, hb⟩; refine ⟨_, rfl, ?_⟩; replace HB := Aside0.mk (below_step bel hb); clear hb))
  go_ret2
  exact ⟨ezz, bel⟩

/-! ### mast_FormatAt: function 7 -/
def mast_FormatAt.f (a0 : Int) : Option (ByteArray × Int) := (mast_isAt.f a0).bind fun t101 => (if t101 = true then ((mast_at.f a0).bind fun t102 => (some (t102, 0))) else (some ((⟨#[]⟩ : ByteArray), 2)))
set_option maxHeartbeats 8000000 in
set_option maxRecDepth 100000 in
theorem mast_FormatAt.calls (a0 : Int) (r1 : ByteArray) (r2 : Int) (w : World) (hT : Tab.Tabs w) (h : mast_FormatAt.f a0 = some (r1, r2)) :
  Calls Tryz.prog 7 #[.int .i64 a0] w fun e w' => e = .returned (.tuple #[.string r1, .int .i64 r2]) ∧ Below w.heap.size w w' := by
 have HT := Aside0.mk hT
 clear hT
 have HB := Aside0.mk (Below.refl w.heap.size w)
 have H : ((mast_isAt.f a0).bind fun t101 => (if t101 = true then ((mast_at.f a0).bind fun t102 => (some (t102, 0))) else (some ((⟨#[]⟩ : ByteArray), 2)))) = some (r1, r2) := h
 clear h
 replace H := Option.bind_eq_some_iff.mp H
 obtain ⟨t101, A20, H⟩ := H
 try dsimp only at H
 have A2 := Aside0.mk A20
 clear A20
 by_cases c3 : t101 = true
 ·
  subst c3
  rw [if_pos rfl] at H
  replace H := Option.bind_eq_some_iff.mp H
  obtain ⟨t102, A40, H⟩ := H
  try dsimp only at H
  have A4 := Aside0.mk A40
  clear A40
  simp only [Option.some.injEq, Prod.mk.injEq] at H
  obtain ⟨rfl, rfl⟩ := H
  go_enter Tryz.func7, Tryz.ntmps7
  go_wp2_with (first | ((with_reducible refine gate_callee (f := 21) rfl ?_); refine goesL_ (some 5) rfl rfl Tryz.func21 (by kernel_rfl) rfl #[.int .i64 a0] rfl mapz ?_; (with_reducible refine (mast_isAt.calls a0 true _ A2.out).mono ?_); rintro e w' ⟨rfl, ⟨nd, rfl⟩⟩; refine ⟨_, rfl, ?_⟩) | ((with_reducible refine gate_callee (f := 22) rfl ?_); refine goesL_ (some 8) rfl rfl Tryz.func22 (by kernel_rfl) rfl #[.int .i64 a0] rfl mapz ?_; (with_reducible refine (mast_at.calls a0 t102 _ (tbz HT) A4.out).mono ?_); rintro e w5 ⟨rfl, hb⟩; refine ⟨_, rfl, ?_⟩; replace HB := Aside0.mk (below_step bel hb); clear hb))
  go_ret2
  exact ⟨ezz, bel⟩
 ·
  replace c3 := Bool.eq_false_iff.mpr c3
  subst c3
  rw [if_neg (show ¬ (false = true) by decide)] at H
  simp only [Option.some.injEq, Prod.mk.injEq] at H
  obtain ⟨rfl, rfl⟩ := H
  go_enter Tryz.func7, Tryz.ntmps7
  go_wp2_with (first | ((with_reducible refine gate_callee (f := 21) rfl ?_); refine goesL_ (some 5) rfl rfl Tryz.func21 (by kernel_rfl) rfl #[.int .i64 a0] rfl mapz ?_; (with_reducible refine (mast_isAt.calls a0 false _ A2.out).mono ?_); rintro e w' ⟨rfl, ⟨nd, rfl⟩⟩; refine ⟨_, rfl, ?_⟩))
  go_ret2
  exact ⟨ezz, bel⟩

end Go.Proofs.YtcmdcgghpkcchaaGreatDoor.XMast