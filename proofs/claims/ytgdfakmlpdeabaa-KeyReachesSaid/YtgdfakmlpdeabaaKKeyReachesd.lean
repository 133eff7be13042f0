-- Written by wip/pack.py of this repo: texts of this claim, put together.
import Derived.Deep.RegionLawGrows
import Derived.Test.YtgdfakmlpdeabaaKKeyReachesc
namespace Go.Proofs.Ytgdfakmlpdeabaa.XKey
open Go.RowKit Go.Proofs.YtgdfakmlpdeabaaW.PrintWords Go.Proofs.YtgdfakmlpdeabaaW.PrintLast Go.Proofs.YtgdfakmlpdeabaaW.PrintMore
attribute [local go_sem] max2_int min2_int max_two min_two max_three min_three max_four min_four   -- for this text's walks alone
set_option linter.unusedVariables false
set_option linter.unusedSimpArgs false
/-! ### dropperlaw06_Awake: function 15 -/
def dropperlaw06_Awake.f (k : Nat)  : Option (Bool) := (some (([(⟨(([1, 0] : List Int)), (([0, 1] : List Int))⟩ : S64), (⟨(([0, 1] : List Int)), (([1, 0] : List Int))⟩ : S64)] : List (S64)) : List (S64))).bind fun y160 => ((key_Reach.f k 2 y160 (([1, 0] : List Int))).bind fun bt167 => ((key_Proves.f k 2 y160 (([1, 1] : List Int)) (([1, 0] : List Int)) (([1, 1] : List Int))).bind fun bt180 => ((key_Stuck.f k 1 (([(⟨(([0] : List Int)), (([1] : List Int))⟩ : S64)] : List (S64))) (([0] : List Int))).bind fun bt194 => (if bt167.2 = 0 then (if bt180.2 = 0 then (if bt194.2 = 0 then (if (bt167.1.length : Int) = 2 then (if 0 < (bt167.1.length : Int) then ((dropperlaw06_SameInts.f k (rd_L1 bt167.1 0) (([0, 1] : List Int))).bind fun t202 => (if t202 = true then (if bt180.1 = true then (if (bt194.1.length : Int) = 1 then (if 0 < (bt194.1.length : Int) then ((dropperlaw06_SameInts.f k (rd_L1 bt194.1 0) (([100] : List Int))).bind fun t207 => (some t207)) else (none)) else (none)) else (none)) else (none))) else (none)) else (none)) else (none)) else (none)) else (none)))))
theorem dropperlaw06_Awake.mono : ∀ k, LeO (dropperlaw06_Awake.f k ) (dropperlaw06_Awake.f (k + 1) ) := by
 intro  k
 unfold dropperlaw06_Awake.f
 repeat' first
   | (with_reducible exact dropperlaw06_SameInts.mono _ _ _)
   | (with_reducible exact key_Proves.mono _ _ _ _ _ _)
   | (with_reducible exact key_Reach.mono _ _ _ _)
   | (with_reducible exact key_Stuck.mono _ _ _ _)
   | (with_reducible exact LeO.refl _)
   | (with_reducible exact LeO.none _)
   | (with_reducible refine LeO.ite ?_ ?_)
   | (with_reducible refine LeO.bind ?_ (fun _ => ?_))
   | exact dropperlaw06_SameInts.mono _ _ _
   | exact key_Proves.mono _ _ _ _ _ _
   | exact key_Reach.mono _ _ _ _
   | exact key_Stuck.mono _ _ _ _
   | exact LeO.none _
   | refine LeO.ite ?_ ?_
   | refine LeO.bind ?_ (fun _ => ?_)
set_option maxHeartbeats 8000000 in
set_option maxRecDepth 100000 in
theorem dropperlaw06_Awake.calls (k : Nat)  (r : Bool) (w : World) (h : dropperlaw06_Awake.f k  = some r) :
  Calls Try.prog 15 #[] w fun e w' => e = .returned (.bool r) ∧ Below w.heap.size w w' := by
 have hu64 := Try.underlying64
 have hu24 := Try.underlying24
 have HB := Aside0.mk (Below.refl w.heap.size w)
 have H : ((some (([(⟨(([1, 0] : List Int)), (([0, 1] : List Int))⟩ : S64), (⟨(([0, 1] : List Int)), (([1, 0] : List Int))⟩ : S64)] : List (S64)) : List (S64))).bind fun y160 => ((key_Reach.f k 2 y160 (([1, 0] : List Int))).bind fun bt167 => ((key_Proves.f k 2 y160 (([1, 1] : List Int)) (([1, 0] : List Int)) (([1, 1] : List Int))).bind fun bt180 => ((key_Stuck.f k 1 (([(⟨(([0] : List Int)), (([1] : List Int))⟩ : S64)] : List (S64))) (([0] : List Int))).bind fun bt194 => (if bt167.2 = 0 then (if bt180.2 = 0 then (if bt194.2 = 0 then (if (bt167.1.length : Int) = 2 then (if 0 < (bt167.1.length : Int) then ((dropperlaw06_SameInts.f k (rd_L1 bt167.1 0) (([0, 1] : List Int))).bind fun t202 => (if t202 = true then (if bt180.1 = true then (if (bt194.1.length : Int) = 1 then (if 0 < (bt194.1.length : Int) then ((dropperlaw06_SameInts.f k (rd_L1 bt194.1 0) (([100] : List Int))).bind fun t207 => (some t207)) else (none)) else (none)) else (none)) else (none))) else (none)) else (none)) else (none)) else (none)) else (none)))))) = some r := h
 clear h
 obtain ⟨y148, hy148⟩ : ∃ y_ : List Int, y_ = (([1, 0] : List Int)) := ⟨_, rfl⟩
 replace H : ((some (([(⟨y148, (([0, 1] : List Int))⟩ : S64), (⟨(([0, 1] : List Int)), (([1, 0] : List Int))⟩ : S64)] : List (S64)) : List (S64))).bind fun y160 => ((key_Reach.f k 2 y160 (([1, 0] : List Int))).bind fun bt167 => ((key_Proves.f k 2 y160 (([1, 1] : List Int)) (([1, 0] : List Int)) (([1, 1] : List Int))).bind fun bt180 => ((key_Stuck.f k 1 (([(⟨(([0] : List Int)), (([1] : List Int))⟩ : S64)] : List (S64))) (([0] : List Int))).bind fun bt194 => (if bt167.2 = 0 then (if bt180.2 = 0 then (if bt194.2 = 0 then (if (bt167.1.length : Int) = 2 then (if 0 < (bt167.1.length : Int) then ((dropperlaw06_SameInts.f k (rd_L1 bt167.1 0) (([0, 1] : List Int))).bind fun t202 => (if t202 = true then (if bt180.1 = true then (if (bt194.1.length : Int) = 1 then (if 0 < (bt194.1.length : Int) then ((dropperlaw06_SameInts.f k (rd_L1 bt194.1 0) (([100] : List Int))).bind fun t207 => (some t207)) else (none)) else (none)) else (none)) else (none))) else (none)) else (none)) else (none)) else (none)) else (none)))))) = some r := by first | (rw [hy148]; with_reducible exact H) | (have H2_ := (Option.bind_some _ _).symm.trans H; rw [hy148]; with_reducible exact H2_) | (have H2_ := (Option.bind_some _ _).symm.trans H; with_reducible exact H2_) | with_reducible exact H | (rw [hy148]; exact H) | exact H
 have Ny148 := Aside0.mk hy148
 clear hy148
 obtain ⟨y151, hy151⟩ : ∃ y_ : List Int, y_ = (([0, 1] : List Int)) := ⟨_, rfl⟩
 replace H : ((some (([(⟨y148, y151⟩ : S64), (⟨(([0, 1] : List Int)), (([1, 0] : List Int))⟩ : S64)] : List (S64)) : List (S64))).bind fun y160 => ((key_Reach.f k 2 y160 (([1, 0] : List Int))).bind fun bt167 => ((key_Proves.f k 2 y160 (([1, 1] : List Int)) (([1, 0] : List Int)) (([1, 1] : List Int))).bind fun bt180 => ((key_Stuck.f k 1 (([(⟨(([0] : List Int)), (([1] : List Int))⟩ : S64)] : List (S64))) (([0] : List Int))).bind fun bt194 => (if bt167.2 = 0 then (if bt180.2 = 0 then (if bt194.2 = 0 then (if (bt167.1.length : Int) = 2 then (if 0 < (bt167.1.length : Int) then ((dropperlaw06_SameInts.f k (rd_L1 bt167.1 0) (([0, 1] : List Int))).bind fun t202 => (if t202 = true then (if bt180.1 = true then (if (bt194.1.length : Int) = 1 then (if 0 < (bt194.1.length : Int) then ((dropperlaw06_SameInts.f k (rd_L1 bt194.1 0) (([100] : List Int))).bind fun t207 => (some t207)) else (none)) else (none)) else (none)) else (none))) else (none)) else (none)) else (none)) else (none)) else (none)))))) = some r := by first | (rw [hy151]; with_reducible exact H) | (have H2_ := (Option.bind_some _ _).symm.trans H; rw [hy151]; with_reducible exact H2_) | (have H2_ := (Option.bind_some _ _).symm.trans H; with_reducible exact H2_) | with_reducible exact H | (rw [hy151]; exact H) | exact H
 have Ny151 := Aside0.mk hy151
 clear hy151
 obtain ⟨y154, hy154⟩ : ∃ y_ : List Int, y_ = (([0, 1] : List Int)) := ⟨_, rfl⟩
 replace H : ((some (([(⟨y148, y151⟩ : S64), (⟨y154, (([1, 0] : List Int))⟩ : S64)] : List (S64)) : List (S64))).bind fun y160 => ((key_Reach.f k 2 y160 (([1, 0] : List Int))).bind fun bt167 => ((key_Proves.f k 2 y160 (([1, 1] : List Int)) (([1, 0] : List Int)) (([1, 1] : List Int))).bind fun bt180 => ((key_Stuck.f k 1 (([(⟨(([0] : List Int)), (([1] : List Int))⟩ : S64)] : List (S64))) (([0] : List Int))).bind fun bt194 => (if bt167.2 = 0 then (if bt180.2 = 0 then (if bt194.2 = 0 then (if (bt167.1.length : Int) = 2 then (if 0 < (bt167.1.length : Int) then ((dropperlaw06_SameInts.f k (rd_L1 bt167.1 0) (([0, 1] : List Int))).bind fun t202 => (if t202 = true then (if bt180.1 = true then (if (bt194.1.length : Int) = 1 then (if 0 < (bt194.1.length : Int) then ((dropperlaw06_SameInts.f k (rd_L1 bt194.1 0) (([100] : List Int))).bind fun t207 => (some t207)) else (none)) else (none)) else (none)) else (none))) else (none)) else (none)) else (none)) else (none)) else (none)))))) = some r := by first | (rw [hy154]; with_reducible exact H) | (have H2_ := (Option.bind_some _ _).symm.trans H; rw [hy154]; with_reducible exact H2_) | (have H2_ := (Option.bind_some _ _).symm.trans H; with_reducible exact H2_) | with_reducible exact H | (rw [hy154]; exact H) | exact H
 have Ny154 := Aside0.mk hy154
 clear hy154
 obtain ⟨y157, hy157⟩ : ∃ y_ : List Int, y_ = (([1, 0] : List Int)) := ⟨_, rfl⟩
 replace H : ((some (([(⟨y148, y151⟩ : S64), (⟨y154, y157⟩ : S64)] : List (S64)) : List (S64))).bind fun y160 => ((key_Reach.f k 2 y160 (([1, 0] : List Int))).bind fun bt167 => ((key_Proves.f k 2 y160 (([1, 1] : List Int)) (([1, 0] : List Int)) (([1, 1] : List Int))).bind fun bt180 => ((key_Stuck.f k 1 (([(⟨(([0] : List Int)), (([1] : List Int))⟩ : S64)] : List (S64))) (([0] : List Int))).bind fun bt194 => (if bt167.2 = 0 then (if bt180.2 = 0 then (if bt194.2 = 0 then (if (bt167.1.length : Int) = 2 then (if 0 < (bt167.1.length : Int) then ((dropperlaw06_SameInts.f k (rd_L1 bt167.1 0) (([0, 1] : List Int))).bind fun t202 => (if t202 = true then (if bt180.1 = true then (if (bt194.1.length : Int) = 1 then (if 0 < (bt194.1.length : Int) then ((dropperlaw06_SameInts.f k (rd_L1 bt194.1 0) (([100] : List Int))).bind fun t207 => (some t207)) else (none)) else (none)) else (none)) else (none))) else (none)) else (none)) else (none)) else (none)) else (none)))))) = some r := by first | (rw [hy157]; with_reducible exact H) | (have H2_ := (Option.bind_some _ _).symm.trans H; rw [hy157]; with_reducible exact H2_) | (have H2_ := (Option.bind_some _ _).symm.trans H; with_reducible exact H2_) | with_reducible exact H | (rw [hy157]; exact H) | exact H
 have Ny157 := Aside0.mk hy157
 clear hy157
 obtain ⟨y160, hy160⟩ : ∃ y_ : List (S64), y_ = (([(⟨y148, y151⟩ : S64), (⟨y154, y157⟩ : S64)] : List (S64))) := ⟨_, rfl⟩
 replace H : ((key_Reach.f k 2 y160 (([1, 0] : List Int))).bind fun bt167 => ((key_Proves.f k 2 y160 (([1, 1] : List Int)) (([1, 0] : List Int)) (([1, 1] : List Int))).bind fun bt180 => ((key_Stuck.f k 1 (([(⟨(([0] : List Int)), (([1] : List Int))⟩ : S64)] : List (S64))) (([0] : List Int))).bind fun bt194 => (if bt167.2 = 0 then (if bt180.2 = 0 then (if bt194.2 = 0 then (if (bt167.1.length : Int) = 2 then (if 0 < (bt167.1.length : Int) then ((dropperlaw06_SameInts.f k (rd_L1 bt167.1 0) (([0, 1] : List Int))).bind fun t202 => (if t202 = true then (if bt180.1 = true then (if (bt194.1.length : Int) = 1 then (if 0 < (bt194.1.length : Int) then ((dropperlaw06_SameInts.f k (rd_L1 bt194.1 0) (([100] : List Int))).bind fun t207 => (some t207)) else (none)) else (none)) else (none)) else (none))) else (none)) else (none)) else (none)) else (none)) else (none))))) = some r := by first | (rw [hy160]; with_reducible exact H) | (have H2_ := (Option.bind_some _ _).symm.trans H; rw [hy160]; with_reducible exact H2_) | (have H2_ := (Option.bind_some _ _).symm.trans H; with_reducible exact H2_) | with_reducible exact H | (rw [hy160]; exact H) | exact H
 have Ny160 := Aside0.mk hy160
 clear hy160
 obtain ⟨y164, hy164⟩ : ∃ y_ : List Int, y_ = (([1, 0] : List Int)) := ⟨_, rfl⟩
 replace H : ((key_Reach.f k 2 y160 y164).bind fun bt167 => ((key_Proves.f k 2 y160 (([1, 1] : List Int)) (([1, 0] : List Int)) (([1, 1] : List Int))).bind fun bt180 => ((key_Stuck.f k 1 (([(⟨(([0] : List Int)), (([1] : List Int))⟩ : S64)] : List (S64))) (([0] : List Int))).bind fun bt194 => (if bt167.2 = 0 then (if bt180.2 = 0 then (if bt194.2 = 0 then (if (bt167.1.length : Int) = 2 then (if 0 < (bt167.1.length : Int) then ((dropperlaw06_SameInts.f k (rd_L1 bt167.1 0) (([0, 1] : List Int))).bind fun t202 => (if t202 = true then (if bt180.1 = true then (if (bt194.1.length : Int) = 1 then (if 0 < (bt194.1.length : Int) then ((dropperlaw06_SameInts.f k (rd_L1 bt194.1 0) (([100] : List Int))).bind fun t207 => (some t207)) else (none)) else (none)) else (none)) else (none))) else (none)) else (none)) else (none)) else (none)) else (none))))) = some r := by first | (rw [hy164]; with_reducible exact H) | (have H2_ := (Option.bind_some _ _).symm.trans H; rw [hy164]; with_reducible exact H2_) | (have H2_ := (Option.bind_some _ _).symm.trans H; with_reducible exact H2_) | with_reducible exact H | (rw [hy164]; exact H) | exact H
 have Ny164 := Aside0.mk hy164
 clear hy164
 replace H := Option.bind_eq_some_iff.mp H
 obtain ⟨⟨t167, t170⟩, A10, H⟩ := H
 try dsimp only at H
 have A1 := Aside0.mk A10
 clear A10
 obtain ⟨y171, hy171⟩ : ∃ y_ : List Int, y_ = (([1, 1] : List Int)) := ⟨_, rfl⟩
 replace H : ((key_Proves.f k 2 y160 y171 (([1, 0] : List Int)) (([1, 1] : List Int))).bind fun bt180 => ((key_Stuck.f k 1 (([(⟨(([0] : List Int)), (([1] : List Int))⟩ : S64)] : List (S64))) (([0] : List Int))).bind fun bt194 => (if t170 = 0 then (if bt180.2 = 0 then (if bt194.2 = 0 then (if (t167.length : Int) = 2 then (if 0 < (t167.length : Int) then ((dropperlaw06_SameInts.f k (rd_L1 t167 0) (([0, 1] : List Int))).bind fun t202 => (if t202 = true then (if bt180.1 = true then (if (bt194.1.length : Int) = 1 then (if 0 < (bt194.1.length : Int) then ((dropperlaw06_SameInts.f k (rd_L1 bt194.1 0) (([100] : List Int))).bind fun t207 => (some t207)) else (none)) else (none)) else (none)) else (none))) else (none)) else (none)) else (none)) else (none)) else (none)))) = some r := by first | (rw [hy171]; with_reducible exact H) | (have H2_ := (Option.bind_some _ _).symm.trans H; rw [hy171]; with_reducible exact H2_) | (have H2_ := (Option.bind_some _ _).symm.trans H; with_reducible exact H2_) | with_reducible exact H | (rw [hy171]; exact H) | exact H
 have Ny171 := Aside0.mk hy171
 clear hy171
 obtain ⟨y174, hy174⟩ : ∃ y_ : List Int, y_ = (([1, 0] : List Int)) := ⟨_, rfl⟩
 replace H : ((key_Proves.f k 2 y160 y171 y174 (([1, 1] : List Int))).bind fun bt180 => ((key_Stuck.f k 1 (([(⟨(([0] : List Int)), (([1] : List Int))⟩ : S64)] : List (S64))) (([0] : List Int))).bind fun bt194 => (if t170 = 0 then (if bt180.2 = 0 then (if bt194.2 = 0 then (if (t167.length : Int) = 2 then (if 0 < (t167.length : Int) then ((dropperlaw06_SameInts.f k (rd_L1 t167 0) (([0, 1] : List Int))).bind fun t202 => (if t202 = true then (if bt180.1 = true then (if (bt194.1.length : Int) = 1 then (if 0 < (bt194.1.length : Int) then ((dropperlaw06_SameInts.f k (rd_L1 bt194.1 0) (([100] : List Int))).bind fun t207 => (some t207)) else (none)) else (none)) else (none)) else (none))) else (none)) else (none)) else (none)) else (none)) else (none)))) = some r := by first | (rw [hy174]; with_reducible exact H) | (have H2_ := (Option.bind_some _ _).symm.trans H; rw [hy174]; with_reducible exact H2_) | (have H2_ := (Option.bind_some _ _).symm.trans H; with_reducible exact H2_) | with_reducible exact H | (rw [hy174]; exact H) | exact H
 have Ny174 := Aside0.mk hy174
 clear hy174
 obtain ⟨y177, hy177⟩ : ∃ y_ : List Int, y_ = (([1, 1] : List Int)) := ⟨_, rfl⟩
 replace H : ((key_Proves.f k 2 y160 y171 y174 y177).bind fun bt180 => ((key_Stuck.f k 1 (([(⟨(([0] : List Int)), (([1] : List Int))⟩ : S64)] : List (S64))) (([0] : List Int))).bind fun bt194 => (if t170 = 0 then (if bt180.2 = 0 then (if bt194.2 = 0 then (if (t167.length : Int) = 2 then (if 0 < (t167.length : Int) then ((dropperlaw06_SameInts.f k (rd_L1 t167 0) (([0, 1] : List Int))).bind fun t202 => (if t202 = true then (if bt180.1 = true then (if (bt194.1.length : Int) = 1 then (if 0 < (bt194.1.length : Int) then ((dropperlaw06_SameInts.f k (rd_L1 bt194.1 0) (([100] : List Int))).bind fun t207 => (some t207)) else (none)) else (none)) else (none)) else (none))) else (none)) else (none)) else (none)) else (none)) else (none)))) = some r := by first | (rw [hy177]; with_reducible exact H) | (have H2_ := (Option.bind_some _ _).symm.trans H; rw [hy177]; with_reducible exact H2_) | (have H2_ := (Option.bind_some _ _).symm.trans H; with_reducible exact H2_) | with_reducible exact H | (rw [hy177]; exact H) | exact H
 have Ny177 := Aside0.mk hy177
 clear hy177
 replace H := Option.bind_eq_some_iff.mp H
 obtain ⟨⟨t180, t181⟩, A20, H⟩ := H
 try dsimp only at H
 have A2 := Aside0.mk A20
 clear A20
 obtain ⟨y182, hy182⟩ : ∃ y_ : List Int, y_ = (([0] : List Int)) := ⟨_, rfl⟩
 replace H : ((key_Stuck.f k 1 (([(⟨y182, (([1] : List Int))⟩ : S64)] : List (S64))) (([0] : List Int))).bind fun bt194 => (if t170 = 0 then (if t181 = 0 then (if bt194.2 = 0 then (if (t167.length : Int) = 2 then (if 0 < (t167.length : Int) then ((dropperlaw06_SameInts.f k (rd_L1 t167 0) (([0, 1] : List Int))).bind fun t202 => (if t202 = true then (if t180 = true then (if (bt194.1.length : Int) = 1 then (if 0 < (bt194.1.length : Int) then ((dropperlaw06_SameInts.f k (rd_L1 bt194.1 0) (([100] : List Int))).bind fun t207 => (some t207)) else (none)) else (none)) else (none)) else (none))) else (none)) else (none)) else (none)) else (none)) else (none))) = some r := by first | (rw [hy182]; with_reducible exact H) | (have H2_ := (Option.bind_some _ _).symm.trans H; rw [hy182]; with_reducible exact H2_) | (have H2_ := (Option.bind_some _ _).symm.trans H; with_reducible exact H2_) | with_reducible exact H | (rw [hy182]; exact H) | exact H
 have Ny182 := Aside0.mk hy182
 clear hy182
 obtain ⟨y185, hy185⟩ : ∃ y_ : List Int, y_ = (([1] : List Int)) := ⟨_, rfl⟩
 replace H : ((key_Stuck.f k 1 (([(⟨y182, y185⟩ : S64)] : List (S64))) (([0] : List Int))).bind fun bt194 => (if t170 = 0 then (if t181 = 0 then (if bt194.2 = 0 then (if (t167.length : Int) = 2 then (if 0 < (t167.length : Int) then ((dropperlaw06_SameInts.f k (rd_L1 t167 0) (([0, 1] : List Int))).bind fun t202 => (if t202 = true then (if t180 = true then (if (bt194.1.length : Int) = 1 then (if 0 < (bt194.1.length : Int) then ((dropperlaw06_SameInts.f k (rd_L1 bt194.1 0) (([100] : List Int))).bind fun t207 => (some t207)) else (none)) else (none)) else (none)) else (none))) else (none)) else (none)) else (none)) else (none)) else (none))) = some r := by first | (rw [hy185]; with_reducible exact H) | (have H2_ := (Option.bind_some _ _).symm.trans H; rw [hy185]; with_reducible exact H2_) | (have H2_ := (Option.bind_some _ _).symm.trans H; with_reducible exact H2_) | with_reducible exact H | (rw [hy185]; exact H) | exact H
 have Ny185 := Aside0.mk hy185
 clear hy185
 obtain ⟨y188, hy188⟩ : ∃ y_ : List (S64), y_ = (([(⟨y182, y185⟩ : S64)] : List (S64))) := ⟨_, rfl⟩
 replace H : ((key_Stuck.f k 1 y188 (([0] : List Int))).bind fun bt194 => (if t170 = 0 then (if t181 = 0 then (if bt194.2 = 0 then (if (t167.length : Int) = 2 then (if 0 < (t167.length : Int) then ((dropperlaw06_SameInts.f k (rd_L1 t167 0) (([0, 1] : List Int))).bind fun t202 => (if t202 = true then (if t180 = true then (if (bt194.1.length : Int) = 1 then (if 0 < (bt194.1.length : Int) then ((dropperlaw06_SameInts.f k (rd_L1 bt194.1 0) (([100] : List Int))).bind fun t207 => (some t207)) else (none)) else (none)) else (none)) else (none))) else (none)) else (none)) else (none)) else (none)) else (none))) = some r := by first | (rw [hy188]; with_reducible exact H) | (have H2_ := (Option.bind_some _ _).symm.trans H; rw [hy188]; with_reducible exact H2_) | (have H2_ := (Option.bind_some _ _).symm.trans H; with_reducible exact H2_) | with_reducible exact H | (rw [hy188]; exact H) | exact H
 have Ny188 := Aside0.mk hy188
 clear hy188
 obtain ⟨y191, hy191⟩ : ∃ y_ : List Int, y_ = (([0] : List Int)) := ⟨_, rfl⟩
 replace H : ((key_Stuck.f k 1 y188 y191).bind fun bt194 => (if t170 = 0 then (if t181 = 0 then (if bt194.2 = 0 then (if (t167.length : Int) = 2 then (if 0 < (t167.length : Int) then ((dropperlaw06_SameInts.f k (rd_L1 t167 0) (([0, 1] : List Int))).bind fun t202 => (if t202 = true then (if t180 = true then (if (bt194.1.length : Int) = 1 then (if 0 < (bt194.1.length : Int) then ((dropperlaw06_SameInts.f k (rd_L1 bt194.1 0) (([100] : List Int))).bind fun t207 => (some t207)) else (none)) else (none)) else (none)) else (none))) else (none)) else (none)) else (none)) else (none)) else (none))) = some r := by first | (rw [hy191]; with_reducible exact H) | (have H2_ := (Option.bind_some _ _).symm.trans H; rw [hy191]; with_reducible exact H2_) | (have H2_ := (Option.bind_some _ _).symm.trans H; with_reducible exact H2_) | with_reducible exact H | (rw [hy191]; exact H) | exact H
 have Ny191 := Aside0.mk hy191
 clear hy191
 replace H := Option.bind_eq_some_iff.mp H
 obtain ⟨⟨t194, t197⟩, A30, H⟩ := H
 try dsimp only at H
 have A3 := Aside0.mk A30
 clear A30
 by_cases c4 : t170 = 0
 ·
  rw [if_pos c4] at H
  have c4b0 : (t170 == 0) = true := beq_iff_eq.mpr c4
  have c4b1 : (t170 != 0) = false := bne_eq_false_iff_eq.mpr c4
  clear c4
  by_cases c5 : t181 = 0
  ·
   rw [if_pos c5] at H
   have c5b0 : (t181 == 0) = true := beq_iff_eq.mpr c5
   have c5b1 : (t181 != 0) = false := bne_eq_false_iff_eq.mpr c5
   clear c5
   by_cases c6 : t197 = 0
   ·
    rw [if_pos c6] at H
    have c6b0 : (t197 == 0) = true := beq_iff_eq.mpr c6
    have c6b1 : (t197 != 0) = false := bne_eq_false_iff_eq.mpr c6
    clear c6
    by_cases c7 : (t167.length : Int) = 2
    ·
     rw [if_pos c7] at H
     have c7b0 : ((t167.length : Int) == 2) = true := beq_iff_eq.mpr c7
     have c7b1 : ((t167.length : Int) != 2) = false := bne_eq_false_iff_eq.mpr c7
     clear c7
     by_cases c8 : 0 < (t167.length : Int)
     ·
      rw [if_pos c8] at H
      have c8b0 : decide (0 < (t167.length : Int)) = true := decide_eq_true c8
      have c8b1 : decide (0 < t167.length) = true := decide_eq_true (by omega)
      clear c8
      obtain ⟨y199, hy199⟩ : ∃ y_ : List Int, y_ = (([0, 1] : List Int)) := ⟨_, rfl⟩
      replace H : ((dropperlaw06_SameInts.f k (rd_L1 t167 0) y199).bind fun t202 => (if t202 = true then (if t180 = true then (if (t194.length : Int) = 1 then (if 0 < (t194.length : Int) then ((dropperlaw06_SameInts.f k (rd_L1 t194 0) (([100] : List Int))).bind fun t207 => (some t207)) else (none)) else (none)) else (none)) else (none))) = some r := by first | (rw [hy199]; with_reducible exact H) | (have H2_ := (Option.bind_some _ _).symm.trans H; rw [hy199]; with_reducible exact H2_) | (have H2_ := (Option.bind_some _ _).symm.trans H; with_reducible exact H2_) | with_reducible exact H | (rw [hy199]; exact H) | exact H
      have Ny199 := Aside0.mk hy199
      clear hy199
      replace H := Option.bind_eq_some_iff.mp H
      obtain ⟨t202, A90, H⟩ := H
      try dsimp only at H
      have A9 := Aside0.mk A90
      clear A90
      by_cases c10 : t202 = true
      ·
       subst c10
       rw [if_pos rfl] at H
       by_cases c11 : t180 = true
       ·
        subst c11
        rw [if_pos rfl] at H
        by_cases c12 : (t194.length : Int) = 1
        ·
         rw [if_pos c12] at H
         have c12b0 : ((t194.length : Int) == 1) = true := beq_iff_eq.mpr c12
         have c12b1 : ((t194.length : Int) != 1) = false := bne_eq_false_iff_eq.mpr c12
         clear c12
         by_cases c13 : 0 < (t194.length : Int)
         ·
          rw [if_pos c13] at H
          have c13b0 : decide (0 < (t194.length : Int)) = true := decide_eq_true c13
          have c13b1 : decide (0 < t194.length) = true := decide_eq_true (by omega)
          clear c13
          obtain ⟨y204, hy204⟩ : ∃ y_ : List Int, y_ = (([100] : List Int)) := ⟨_, rfl⟩
          replace H : ((dropperlaw06_SameInts.f k (rd_L1 t194 0) y204).bind fun t207 => (some t207)) = some r := by first | (rw [hy204]; with_reducible exact H) | (have H2_ := (Option.bind_some _ _).symm.trans H; rw [hy204]; with_reducible exact H2_) | (have H2_ := (Option.bind_some _ _).symm.trans H; with_reducible exact H2_) | with_reducible exact H | (rw [hy204]; exact H) | exact H
          have Ny204 := Aside0.mk hy204
          clear hy204
          replace H := Option.bind_eq_some_iff.mp H
          obtain ⟨t207, A140, H⟩ := H
          try dsimp only at H
          have A14 := Aside0.mk A140
          clear A140
          obtain rfl := Option.some.inj H
          go_enter Try.func15, Try.ntmps15
          go_wp2_with (first | ((with_reducible refine gate_dst (N := 8) rfl ?_); (try (refine gate_guard (by rfl) ?_; dsimp only)); refine Kd.R_lit (Kd.int .i64) _ 3 ?hg (N := 8) ?hd (xs := ([1, 0] : List Int)) (inner := [.int .i64 1, .int .i64 0]) (ok := fun _ => True) (okp := fun _ => True) ?hr ?hp (fun _ hk => hk) trivial (Below.refl _ _) (Nat.le_refl _) (by simp) ?_; (case hd => rfl); (case hg => rfl); (case hr => first | (go_simp; done) | (go_simp; rfl)); (case hp => exact (Reps.one (show Kd.M (Kd.int .i64) _ _ _ 1 [.int .i64 1] from rfl) (Reps.one (show Kd.M (Kd.int .i64) _ _ _ 0 [.int .i64 0] from rfl) (Reps.none _ _)))); intro v149 w15 ho16 hb hg_ hnew_; clear hg_ hnew_; (first | rw [← Ny148.out] at ho16 | (simp only [Int.reduceToNat] at ho16; rw [← Ny148.out] at ho16)); have HO150 := Aside0.mk (Kd.R_lower ho16 (below_size bel)); replace HB := Aside0.mk (below_step bel hb); clear hb ho16) | ((with_reducible refine gate_dst (N := 9) rfl ?_); (try (refine gate_guard (by rfl) ?_; dsimp only)); refine Kd.R_lit (Kd.int .i64) _ 3 ?hg (N := 9) ?hd (xs := ([0, 1] : List Int)) (inner := [.int .i64 0, .int .i64 1]) (ok := fun _ => True) (okp := fun _ => True) ?hr ?hp (fun _ hk => hk) trivial (Below.refl _ _) (Nat.le_refl _) (by simp) ?_; (case hd => rfl); (case hg => rfl); (case hr => first | (go_simp; done) | (go_simp; rfl)); (case hp => exact (Reps.one (show Kd.M (Kd.int .i64) _ _ _ 0 [.int .i64 0] from rfl) (Reps.one (show Kd.M (Kd.int .i64) _ _ _ 1 [.int .i64 1] from rfl) (Reps.none _ _)))); intro v152 w17 ho18 hb hg_ hnew_; clear hg_ hnew_; (first | rw [← Ny151.out] at ho18 | (simp only [Int.reduceToNat] at ho18; rw [← Ny151.out] at ho18)); have HO153 := Aside0.mk (Kd.R_lower (Kd.R_new' ho18 (Kd.R_lt (ownx HO150))) (below_size bel)); replace HO150 := Aside0.mk (Kd.R_elder' (ownx HO150) (Kd.R_base ho18) hb); replace HB := Aside0.mk (below_step bel hb); clear hb ho18; obtain ⟨Ao19, co19, eo19⟩ := Kd.R_slice HO153.out; subst eo19; obtain ⟨Ao20, co20, eo20⟩ := Kd.R_slice HO150.out; subst eo20) | ((with_reducible refine gate_dst (N := 11) rfl ?_); (try (refine gate_guard (by rfl) ?_; dsimp only)); refine Kd.R_lit (Kd.int .i64) _ 3 ?hg (N := 11) ?hd (xs := ([0, 1] : List Int)) (inner := [.int .i64 0, .int .i64 1]) (ok := fun _ => True) (okp := fun _ => True) ?hr ?hp (fun _ hk => hk) trivial (Below.refl _ _) (Nat.le_refl _) (by simp) ?_; (case hd => rfl); (case hg => rfl); (case hr => first | (go_simp; done) | (go_simp; rfl)); (case hp => exact (Reps.one (show Kd.M (Kd.int .i64) _ _ _ 0 [.int .i64 0] from rfl) (Reps.one (show Kd.M (Kd.int .i64) _ _ _ 1 [.int .i64 1] from rfl) (Reps.none _ _)))); intro v155 w21 ho22 hb hg_ hnew_; clear hg_ hnew_; (first | rw [← Ny154.out] at ho22 | (simp only [Int.reduceToNat] at ho22; rw [← Ny154.out] at ho22)); have HO156 := Aside0.mk (Kd.R_lower (Kd.R_new' (Kd.R_new' ho22 (Kd.R_lt (ownx HO150))) (Kd.R_lt (ownx HO153))) (below_size bel)); replace HO150 := Aside0.mk (Kd.R_elder' (ownx HO150) (Kd.R_base ho22) hb); replace HO153 := Aside0.mk (Kd.R_elder' (ownx HO153) (Kd.R_base ho22) hb); replace HB := Aside0.mk (below_step bel hb); clear hb ho22) | ((with_reducible refine gate_dst (N := 12) rfl ?_); (try (refine gate_guard (by rfl) ?_; dsimp only)); refine Kd.R_lit (Kd.int .i64) _ 3 ?hg (N := 12) ?hd (xs := ([1, 0] : List Int)) (inner := [.int .i64 1, .int .i64 0]) (ok := fun _ => True) (okp := fun _ => True) ?hr ?hp (fun _ hk => hk) trivial (Below.refl _ _) (Nat.le_refl _) (by simp) ?_; (case hd => rfl); (case hg => rfl); (case hr => first | (go_simp; done) | (go_simp; rfl)); (case hp => exact (Reps.one (show Kd.M (Kd.int .i64) _ _ _ 1 [.int .i64 1] from rfl) (Reps.one (show Kd.M (Kd.int .i64) _ _ _ 0 [.int .i64 0] from rfl) (Reps.none _ _)))); intro v158 w23 ho24 hb hg_ hnew_; clear hg_ hnew_; (first | rw [← Ny157.out] at ho24 | (simp only [Int.reduceToNat] at ho24; rw [← Ny157.out] at ho24)); have HO159 := Aside0.mk (Kd.R_lower (Kd.R_new' (Kd.R_new' (Kd.R_new' ho24 (Kd.R_lt (ownx HO150))) (Kd.R_lt (ownx HO153))) (Kd.R_lt (ownx HO156))) (below_size bel)); replace HO150 := Aside0.mk (Kd.R_elder' (ownx HO150) (Kd.R_base ho24) hb); replace HO153 := Aside0.mk (Kd.R_elder' (ownx HO153) (Kd.R_base ho24) hb); replace HO156 := Aside0.mk (Kd.R_elder' (ownx HO156) (Kd.R_base ho24) hb); replace HB := Aside0.mk (below_step bel hb); clear hb ho24; obtain ⟨Ao25, co25, eo25⟩ := Kd.R_slice HO159.out; subst eo25; obtain ⟨Ao26, co26, eo26⟩ := Kd.R_slice HO156.out; subst eo26) | ((with_reducible refine gate_dst (N := 14) rfl ?_); (try (refine gate_guard (by rfl) ?_; dsimp only)); refine Kd.N_lit k64 _ 64 ?hg (N' := 14) ?hd (xs := ([(⟨y148, y151⟩ : S64), (⟨y154, y157⟩ : S64)] : List (S64))) (inner := [.slice Ao20 y148.length co20, .slice Ao19 y151.length co19, .slice Ao26 y154.length co26, .slice Ao25 y157.length co25]) (ok := (fun _ => True)) (okp := (fun _ => True)) ?hr ?hp (fun _ hk => hk) ((show ∀ k_, w23.heap.size ≤ k_ → (fun _ => True) k_ from fun k_ hk => trivial) _ (Nat.le_refl _)) (Below.refl _ _) (Nat.le_refl _) (by simp) ?_; (case hd => rfl); (case hg => rfl); (case hr => first | (go_simp; done) | (go_simp; rfl)); (case hp => exact (Reps.c2 (show Kd.FK k64 _ _ (⟨y148, y151⟩ : S64) [.slice Ao20 y148.length co20, .slice Ao19 y151.length co19] from (k64_mkF _ _ (⟨y148, y151⟩ : S64) (Kd.R_reads' (Kd.R_mono (ok' := (fun _ => True)) (HO150.out) (fun k_ hk => trivial))).2.1 (Kd.R_F (Kd.R_mono (ok' := (fun _ => True)) (HO150.out) (fun k_ hk => trivial))) (Kd.R_reads' (Kd.R_mono (ok' := (fun _ => True)) (HO153.out) (fun k_ hk => trivial))).2.1 (Kd.R_F (Kd.R_mono (ok' := (fun _ => True)) (HO153.out) (fun k_ hk => trivial))))) (Reps.c2 (show Kd.FK k64 _ _ (⟨y154, y157⟩ : S64) [.slice Ao26 y154.length co26, .slice Ao25 y157.length co25] from (k64_mkF _ _ (⟨y154, y157⟩ : S64) (Kd.R_reads' (Kd.R_mono (ok' := (fun _ => True)) (HO156.out) (fun k_ hk => trivial))).2.1 (Kd.R_F (Kd.R_mono (ok' := (fun _ => True)) (HO156.out) (fun k_ hk => trivial))) (Kd.R_reads' (Kd.R_mono (ok' := (fun _ => True)) (HO159.out) (fun k_ hk => trivial))).2.1 (Kd.R_F (Kd.R_mono (ok' := (fun _ => True)) (HO159.out) (fun k_ hk => trivial))))) (Reps.none _ _)))); intro v161 w27 ho28 hb hg_ hnew_; clear hg_ hnew_; (first | rw [← Ny160.out] at ho28 | (simp only [Int.reduceToNat] at ho28; rw [← Ny160.out] at ho28)); have n0_ := Aside0.mk (Kd.N_lower ho28 (below_size bel)); have n1_ := Aside0.mk (below_step bel hb); clear HB; clear HO150; clear HO153; clear HO156; clear HO159; have HO162 := n0_; have HB := n1_; clear n0_ n1_; clear hb ho28; obtain ⟨Ao29, co29, eo29⟩ := Kd.N_slice HO162.out; subst eo29) | ((with_reducible refine gate_dst (N := 1) rfl ?_); (try (refine gate_guard (by rfl) ?_; dsimp only)); refine box_event ?hg (N := 1) ?hd (cs := #[.int .i64 0, .slice none 0 0]) (t := 24) ?hr ?_; (case hd => rfl); (case hg => rfl); (case hr => first | (go_simp; done) | (go_simp; rfl)); intro gb163 hg w30 hbox hb; have BK163 := Aside0.mk (hbox); have GW163 := bsz (w := w) hg; have GE163 := GW163; replace HO162 := Aside0.mk (Kd.N_below (Kd.N_elderB (by (with_reducible repeat (first | apply Kd.N_alloc | apply Kd.N_drewN | apply Kd.N_drew)); exact HO162.out) gb163 (Nat.le_of_eq hg.symm)) hb); replace HB := Aside0.mk (below_step bel hb); clear hb hbox hg; obtain ⟨hcz31_0, hcz31_1⟩ := bc2 BK163.out; obtain ⟨hfz31_0, hfz31_1⟩ := bf2 BK163.out) | ((with_reducible refine gate_dst (N := 18) rfl ?_); (try (refine gate_guard (by rfl) ?_; dsimp only)); refine Kd.R_lit (Kd.int .i64) _ 3 ?hg (N := 18) ?hd (xs := ([1, 0] : List Int)) (inner := [.int .i64 1, .int .i64 0]) (ok := fun _ => True) (okp := fun _ => True) ?hr ?hp (fun _ hk => hk) trivial (Below.refl _ _) (Nat.le_refl _) (by simp) ?_; (case hd => rfl); (case hg => rfl); (case hr => first | (go_simp; done) | (go_simp; rfl)); (case hp => exact (Reps.one (show Kd.M (Kd.int .i64) _ _ _ 1 [.int .i64 1] from rfl) (Reps.one (show Kd.M (Kd.int .i64) _ _ _ 0 [.int .i64 0] from rfl) (Reps.none _ _)))); intro v165 w32 ho33 hb hg_ hnew_; clear hg_ hnew_; (first | rw [← Ny164.out] at ho33 | (simp only [Int.reduceToNat] at ho33; rw [← Ny164.out] at ho33)); have HO166 := Aside0.mk (Kd.R_lower ho33 (below_size bel)); replace HO162 := Aside0.mk (Kd.N_elder' (by (with_reducible repeat (first | apply Kd.N_alloc | apply Kd.N_drewN | apply Kd.N_drew)); exact (Kd.N_mono (Kd.N_far (p := ⟨gb163, 1, none⟩) (Kd.N_far (p := ⟨gb163, 0, none⟩) (Kd.N_mono HO162.out (fun k_ hk => (⟨hk, hk.2⟩ : _ ∧ k_ ≠ gb163))) (fun _ hk => hk.2) (.int .i64 2)) (fun _ hk => hk.2) (.slice Ao29 y160.length co29)) (fun _ h_ => h_.1))) (Kd.R_base ho33) hb); replace BK163 := Aside0.mk (blk_below (g := gb163) (o := .cells #[.int .i64 2, .slice Ao29 y160.length co29] 24 (0, 0)) (by (with_reducible repeat (first | refine blk_drewN ?_ _ | refine blk_drew ?_ | refine blk_alloc ?_ _)); refine blk_put (cs := #[.int .i64 2, .slice none 0 0]) ?_ 1 _ rfl; (with_reducible repeat (first | refine blk_drewN ?_ _ | refine blk_drew ?_ | refine blk_alloc ?_ _)); refine blk_put (cs := #[.int .i64 0, .slice none 0 0]) ?_ 0 _ rfl; (with_reducible repeat (first | refine blk_drewN ?_ _ | refine blk_drew ?_ | refine blk_alloc ?_ _)); exact BK163.out) hb); replace HB := Aside0.mk (below_step bel hb); clear hb ho33; obtain ⟨Ao34, co34, eo34⟩ := Kd.R_slice HO166.out; subst eo34) | ((with_reducible refine gate_callee (f := 16) rfl ?_); refine goesL_ (some 19) rfl rfl Try.func16 (by kernel_rfl) rfl #[.agg #[.int .i64 2, .slice Ao29 y160.length co29], .slice Ao34 y164.length co34] rfl mapz ?_; (with_reducible refine (key_Reach.calls k 2 _ _ y160 _ _ y164 t167 t170 _ ?side1 ?side2 ?side3 ?side4 A1.out).mono ?_); (case side1 => repeat (first | exact (Kd.N_reads' HO162.out).2.2 | (with_reducible refine Kd.C_alloc ?_ _) | (with_reducible refine Kd.C_drewN ?_ _) | (with_reducible refine Kd.C_drew ?_))); (case side2 => exact (Kd.N_reads' HO162.out).2.1); (case side3 => repeat (first | exact (Kd.R_reads' HO166.out).2.2 | (with_reducible refine Kd.C_alloc ?_ _) | (with_reducible refine Kd.C_drewN ?_ _) | (with_reducible refine Kd.C_drew ?_))); (case side4 => exact (Kd.R_reads' HO166.out).2.1); rintro e w35 ⟨v168, rfl, ho0, hb⟩; refine ⟨_, rfl, ?_⟩; have HO169 := Aside0.mk (Kd.N_lower (Kd.N_mono (ok' := fun k_ => some k_ ≠ (.slice Ao29 y160.length co29 : Value).ownBlock ∧ some k_ ≠ (.slice Ao34 y164.length co34 : Value).ownBlock ∧ k_ ≠ gb163) (Kd.S_N (Kd.S_bound ho0)) (fun k_ hk_ => ⟨(Kd.fresh' (Kd.N_lt (by (with_reducible repeat (first | apply Kd.N_alloc | apply Kd.N_drewN | apply Kd.N_drew)); exact HO162.out)) k_ hk_.2.1), (Kd.fresh' (Kd.R_lt (ownx HO166)) k_ hk_.2.1), (Kd.freshB (g := gb163) (o := .cells #[.int .i64 2, .slice Ao29 y160.length co29] 24 (0, 0)) blkz k_ hk_.2.1)⟩)) (below_size bel)); replace HO162 := Aside0.mk (Kd.N_elder' (by (with_reducible repeat (first | apply Kd.N_alloc | apply Kd.N_drewN | apply Kd.N_drew)); exact HO162.out) (by first | exact Kd.N_base ho0 | exact Kd.S_base ho0) hb); replace HO166 := Aside0.mk (Kd.R_below (ownx HO166) hb); replace BK163 := Aside0.mk (blk_below (g := gb163) blkz hb); replace HB := Aside0.mk (below_step bel hb); (try clear hb); (try clear hb2); (try clear hk); (try clear hi); (try clear ho0); obtain ⟨hcz36_0, hcz36_1⟩ := bc2 BK163.out; obtain ⟨hfz36_0, hfz36_1⟩ := bf2 BK163.out) | ((with_reducible refine gate_dst (N := 24) rfl ?_); (try (refine gate_guard (by rfl) ?_; dsimp only)); refine Kd.R_lit (Kd.int .i64) _ 3 ?hg (N := 24) ?hd (xs := ([1, 1] : List Int)) (inner := [.int .i64 1, .int .i64 1]) (ok := fun _ => True) (okp := fun _ => True) ?hr ?hp (fun _ hk => hk) trivial (Below.refl _ _) (Nat.le_refl _) (by simp) ?_; (case hd => rfl); (case hg => rfl); (case hr => first | (go_simp; done) | (go_simp; rfl)); (case hp => exact (Reps.one (show Kd.M (Kd.int .i64) _ _ _ 1 [.int .i64 1] from rfl) (Reps.one (show Kd.M (Kd.int .i64) _ _ _ 1 [.int .i64 1] from rfl) (Reps.none _ _)))); intro v172 w37 ho38 hb hg_ hnew_; clear hg_ hnew_; (first | rw [← Ny171.out] at ho38 | (simp only [Int.reduceToNat] at ho38; rw [← Ny171.out] at ho38)); have HO173 := Aside0.mk (Kd.R_lower (Kd.R_new' ho38 (Kd.R_lt (ownx HO166))) (below_size bel)); replace HO162 := Aside0.mk (Kd.N_elder' (by (with_reducible repeat (first | apply Kd.N_alloc | apply Kd.N_drewN | apply Kd.N_drew)); exact HO162.out) (Kd.R_base ho38) hb); replace HO166 := Aside0.mk (Kd.R_elder' (ownx HO166) (Kd.R_base ho38) hb); replace HO169 := Aside0.mk (Kd.N_elder' (by (with_reducible repeat (first | apply Kd.N_alloc | apply Kd.N_drewN | apply Kd.N_drew)); exact HO169.out) (Kd.R_base ho38) hb); replace BK163 := Aside0.mk (blk_below (g := gb163) blkz hb); replace HB := Aside0.mk (below_step bel hb); clear hb ho38) | ((with_reducible refine gate_dst (N := 25) rfl ?_); (try (refine gate_guard (by rfl) ?_; dsimp only)); refine Kd.R_lit (Kd.int .i64) _ 3 ?hg (N := 25) ?hd (xs := ([1, 0] : List Int)) (inner := [.int .i64 1, .int .i64 0]) (ok := fun _ => True) (okp := fun _ => True) ?hr ?hp (fun _ hk => hk) trivial (Below.refl _ _) (Nat.le_refl _) (by simp) ?_; (case hd => rfl); (case hg => rfl); (case hr => first | (go_simp; done) | (go_simp; rfl)); (case hp => exact (Reps.one (show Kd.M (Kd.int .i64) _ _ _ 1 [.int .i64 1] from rfl) (Reps.one (show Kd.M (Kd.int .i64) _ _ _ 0 [.int .i64 0] from rfl) (Reps.none _ _)))); intro v175 w39 ho40 hb hg_ hnew_; clear hg_ hnew_; (first | rw [← Ny174.out] at ho40 | (simp only [Int.reduceToNat] at ho40; rw [← Ny174.out] at ho40)); have HO176 := Aside0.mk (Kd.R_lower (Kd.R_new' (Kd.R_new' ho40 (Kd.R_lt (ownx HO166))) (Kd.R_lt (ownx HO173))) (below_size bel)); replace HO162 := Aside0.mk (Kd.N_elder' (by (with_reducible repeat (first | apply Kd.N_alloc | apply Kd.N_drewN | apply Kd.N_drew)); exact HO162.out) (Kd.R_base ho40) hb); replace HO166 := Aside0.mk (Kd.R_elder' (ownx HO166) (Kd.R_base ho40) hb); replace HO169 := Aside0.mk (Kd.N_elder' (by (with_reducible repeat (first | apply Kd.N_alloc | apply Kd.N_drewN | apply Kd.N_drew)); exact HO169.out) (Kd.R_base ho40) hb); replace HO173 := Aside0.mk (Kd.R_elder' (ownx HO173) (Kd.R_base ho40) hb); replace BK163 := Aside0.mk (blk_below (g := gb163) blkz hb); replace HB := Aside0.mk (below_step bel hb); clear hb ho40) | ((with_reducible refine gate_dst (N := 26) rfl ?_); (try (refine gate_guard (by rfl) ?_; dsimp only)); refine Kd.R_lit (Kd.int .i64) _ 3 ?hg (N := 26) ?hd (xs := ([1, 1] : List Int)) (inner := [.int .i64 1, .int .i64 1]) (ok := fun _ => True) (okp := fun _ => True) ?hr ?hp (fun _ hk => hk) trivial (Below.refl _ _) (Nat.le_refl _) (by simp) ?_; (case hd => rfl); (case hg => rfl); (case hr => first | (go_simp; done) | (go_simp; rfl)); (case hp => exact (Reps.one (show Kd.M (Kd.int .i64) _ _ _ 1 [.int .i64 1] from rfl) (Reps.one (show Kd.M (Kd.int .i64) _ _ _ 1 [.int .i64 1] from rfl) (Reps.none _ _)))); intro v178 w41 ho42 hb hg_ hnew_; clear hg_ hnew_; (first | rw [← Ny177.out] at ho42 | (simp only [Int.reduceToNat] at ho42; rw [← Ny177.out] at ho42)); have HO179 := Aside0.mk (Kd.R_lower (Kd.R_new' (Kd.R_new' (Kd.R_new' ho42 (Kd.R_lt (ownx HO166))) (Kd.R_lt (ownx HO173))) (Kd.R_lt (ownx HO176))) (below_size bel)); replace HO162 := Aside0.mk (Kd.N_elder' (by (with_reducible repeat (first | apply Kd.N_alloc | apply Kd.N_drewN | apply Kd.N_drew)); exact HO162.out) (Kd.R_base ho42) hb); replace HO166 := Aside0.mk (Kd.R_elder' (ownx HO166) (Kd.R_base ho42) hb); replace HO169 := Aside0.mk (Kd.N_elder' (by (with_reducible repeat (first | apply Kd.N_alloc | apply Kd.N_drewN | apply Kd.N_drew)); exact HO169.out) (Kd.R_base ho42) hb); replace HO173 := Aside0.mk (Kd.R_elder' (ownx HO173) (Kd.R_base ho42) hb); replace HO176 := Aside0.mk (Kd.R_elder' (ownx HO176) (Kd.R_base ho42) hb); replace BK163 := Aside0.mk (blk_below (g := gb163) blkz hb); replace HB := Aside0.mk (below_step bel hb); clear hb ho42; obtain ⟨Ao43, co43, eo43⟩ := Kd.R_slice HO173.out; subst eo43; obtain ⟨Ao44, co44, eo44⟩ := Kd.R_slice HO176.out; subst eo44; obtain ⟨Ao45, co45, eo45⟩ := Kd.R_slice HO179.out; subst eo45) | ((with_reducible refine gate_callee (f := 23) rfl ?_); refine goesL_ (some 27) rfl rfl Try.func23 (by kernel_rfl) rfl #[.agg #[.int .i64 2, .slice Ao29 y160.length co29], .slice Ao43 y171.length co43, .slice Ao44 y174.length co44, .slice Ao45 y177.length co45] rfl mapz ?_; (with_reducible refine (key_Proves.calls k 2 _ _ y160 _ _ y171 (fun k_ => some k_ = (.slice Ao44 y174.length co44 : Value).ownBlock) _ _ y174 (fun k_ => some k_ = (.slice Ao45 y177.length co45 : Value).ownBlock) _ _ y177 true t181 _ ?side1 ?side2 ?side3 ?side4 ?side5 ?side6 A2.out).mono ?_); (case side1 => repeat (first | exact (Kd.N_reads' HO162.out).2.2 | (with_reducible refine Kd.C_alloc ?_ _) | (with_reducible refine Kd.C_drewN ?_ _) | (with_reducible refine Kd.C_drew ?_))); (case side2 => exact (Kd.N_reads' HO162.out).2.1); (case side3 => repeat (first | exact (Kd.R_reads' HO173.out).2.2 | (with_reducible refine Kd.C_alloc ?_ _) | (with_reducible refine Kd.C_drewN ?_ _) | (with_reducible refine Kd.C_drew ?_))); (case side4 => exact (Kd.R_reads' HO173.out).2.1); (case side5 => exact Kd.R_V (Kd.R_tight rfl (Kd.R_types (Kd.R_apart' (Kd.R_apart' (HO176.out) (Kd.N_typed HO162.out) (by decide)) (Kd.N_typed HO169.out) (by decide)) BK163.out (by decide)))); (case side6 => exact Kd.R_V (Kd.R_tight rfl (Kd.R_types (Kd.R_apart' (Kd.R_apart' (HO179.out) (Kd.N_typed HO162.out) (by decide)) (Kd.N_typed HO169.out) (by decide)) BK163.out (by decide)))); rintro e w46 ⟨rfl, hb⟩; refine ⟨_, rfl, ?_⟩; replace HO162 := Aside0.mk (Kd.N_below (by (with_reducible repeat (first | apply Kd.N_alloc | apply Kd.N_drewN | apply Kd.N_drew)); exact HO162.out) hb); replace HO166 := Aside0.mk (Kd.R_below (ownx HO166) hb); replace HO169 := Aside0.mk (Kd.N_below (by (with_reducible repeat (first | apply Kd.N_alloc | apply Kd.N_drewN | apply Kd.N_drew)); exact HO169.out) hb); replace HO173 := Aside0.mk (Kd.R_below (ownx HO173) hb); replace HO176 := Aside0.mk (Kd.R_below (ownx HO176) hb); replace HO179 := Aside0.mk (Kd.R_below (ownx HO179) hb); replace BK163 := Aside0.mk (blk_below (g := gb163) blkz hb); replace HB := Aside0.mk (below_step bel hb); clear hb) | ((with_reducible refine gate_dst (N := 31) rfl ?_); (try (refine gate_guard (by rfl) ?_; dsimp only)); refine Kd.R_lit (Kd.int .i64) _ 3 ?hg (N := 31) ?hd (xs := ([0] : List Int)) (inner := [.int .i64 0]) (ok := fun _ => True) (okp := fun _ => True) ?hr ?hp (fun _ hk => hk) trivial (Below.refl _ _) (Nat.le_refl _) (by simp) ?_; (case hd => rfl); (case hg => rfl); (case hr => first | (go_simp; done) | (go_simp; rfl)); (case hp => exact (Reps.one (show Kd.M (Kd.int .i64) _ _ _ 0 [.int .i64 0] from rfl) (Reps.none _ _))); intro v183 w47 ho48 hb hg_ hnew_; clear hg_ hnew_; (first | rw [← Ny182.out] at ho48 | (simp only [Int.reduceToNat] at ho48; rw [← Ny182.out] at ho48)); have HO184 := Aside0.mk (Kd.R_lower (Kd.R_new' (Kd.R_new' (Kd.R_new' (Kd.R_new' ho48 (Kd.R_lt (ownx HO166))) (Kd.R_lt (ownx HO173))) (Kd.R_lt (ownx HO176))) (Kd.R_lt (ownx HO179))) (below_size bel)); replace HO162 := Aside0.mk (Kd.N_elder' (by (with_reducible repeat (first | apply Kd.N_alloc | apply Kd.N_drewN | apply Kd.N_drew)); exact HO162.out) (Kd.R_base ho48) hb); replace HO166 := Aside0.mk (Kd.R_elder' (ownx HO166) (Kd.R_base ho48) hb); replace HO169 := Aside0.mk (Kd.N_elder' (by (with_reducible repeat (first | apply Kd.N_alloc | apply Kd.N_drewN | apply Kd.N_drew)); exact HO169.out) (Kd.R_base ho48) hb); replace HO173 := Aside0.mk (Kd.R_elder' (ownx HO173) (Kd.R_base ho48) hb); replace HO176 := Aside0.mk (Kd.R_elder' (ownx HO176) (Kd.R_base ho48) hb); replace HO179 := Aside0.mk (Kd.R_elder' (ownx HO179) (Kd.R_base ho48) hb); replace BK163 := Aside0.mk (blk_below (g := gb163) blkz hb); replace HB := Aside0.mk (below_step bel hb); clear hb ho48) | ((with_reducible refine gate_dst (N := 32) rfl ?_); (try (refine gate_guard (by rfl) ?_; dsimp only)); refine Kd.R_lit (Kd.int .i64) _ 3 ?hg (N := 32) ?hd (xs := ([1] : List Int)) (inner := [.int .i64 1]) (ok := fun _ => True) (okp := fun _ => True) ?hr ?hp (fun _ hk => hk) trivial (Below.refl _ _) (Nat.le_refl _) (by simp) ?_; (case hd => rfl); (case hg => rfl); (case hr => first | (go_simp; done) | (go_simp; rfl)); (case hp => exact (Reps.one (show Kd.M (Kd.int .i64) _ _ _ 1 [.int .i64 1] from rfl) (Reps.none _ _))); intro v186 w49 ho50 hb hg_ hnew_; clear hg_ hnew_; (first | rw [← Ny185.out] at ho50 | (simp only [Int.reduceToNat] at ho50; rw [← Ny185.out] at ho50)); have HO187 := Aside0.mk (Kd.R_lower (Kd.R_new' (Kd.R_new' (Kd.R_new' (Kd.R_new' (Kd.R_new' ho50 (Kd.R_lt (ownx HO166))) (Kd.R_lt (ownx HO173))) (Kd.R_lt (ownx HO176))) (Kd.R_lt (ownx HO179))) (Kd.R_lt (ownx HO184))) (below_size bel)); replace HO162 := Aside0.mk (Kd.N_elder' (by (with_reducible repeat (first | apply Kd.N_alloc | apply Kd.N_drewN | apply Kd.N_drew)); exact HO162.out) (Kd.R_base ho50) hb); replace HO166 := Aside0.mk (Kd.R_elder' (ownx HO166) (Kd.R_base ho50) hb); replace HO169 := Aside0.mk (Kd.N_elder' (by (with_reducible repeat (first | apply Kd.N_alloc | apply Kd.N_drewN | apply Kd.N_drew)); exact HO169.out) (Kd.R_base ho50) hb); replace HO173 := Aside0.mk (Kd.R_elder' (ownx HO173) (Kd.R_base ho50) hb); replace HO176 := Aside0.mk (Kd.R_elder' (ownx HO176) (Kd.R_base ho50) hb); replace HO179 := Aside0.mk (Kd.R_elder' (ownx HO179) (Kd.R_base ho50) hb); replace HO184 := Aside0.mk (Kd.R_elder' (ownx HO184) (Kd.R_base ho50) hb); replace BK163 := Aside0.mk (blk_below (g := gb163) blkz hb); replace HB := Aside0.mk (below_step bel hb); clear hb ho50; obtain ⟨Ao51, co51, eo51⟩ := Kd.R_slice HO187.out; subst eo51; obtain ⟨Ao52, co52, eo52⟩ := Kd.R_slice HO184.out; subst eo52) | ((with_reducible refine gate_dst (N := 34) rfl ?_); (try (refine gate_guard (by rfl) ?_; dsimp only)); refine Kd.N_lit k64 _ 64 ?hg (N' := 34) ?hd (xs := ([(⟨y182, y185⟩ : S64)] : List (S64))) (inner := [.slice Ao52 y182.length co52, .slice Ao51 y185.length co51]) (ok := (fun k_ => some k_ ≠ (.slice Ao29 y160.length co29 : Value).ownBlock ∧ some k_ ≠ (.slice Ao34 y164.length co34 : Value).ownBlock ∧ some k_ ≠ (v168 : Value).ownBlock ∧ some k_ ≠ (.slice Ao43 y171.length co43 : Value).ownBlock ∧ some k_ ≠ (.slice Ao44 y174.length co44 : Value).ownBlock ∧ some k_ ≠ (.slice Ao45 y177.length co45 : Value).ownBlock ∧ k_ ≠ gb163)) (okp := (fun k_ => some k_ ≠ (.slice Ao29 y160.length co29 : Value).ownBlock ∧ some k_ ≠ (.slice Ao34 y164.length co34 : Value).ownBlock ∧ some k_ ≠ (v168 : Value).ownBlock ∧ some k_ ≠ (.slice Ao43 y171.length co43 : Value).ownBlock ∧ some k_ ≠ (.slice Ao44 y174.length co44 : Value).ownBlock ∧ some k_ ≠ (.slice Ao45 y177.length co45 : Value).ownBlock ∧ k_ ≠ gb163)) ?hr ?hp (fun _ hk => hk) ((show ∀ k_, w49.heap.size ≤ k_ → (fun k_ => some k_ ≠ (.slice Ao29 y160.length co29 : Value).ownBlock ∧ some k_ ≠ (.slice Ao34 y164.length co34 : Value).ownBlock ∧ some k_ ≠ (v168 : Value).ownBlock ∧ some k_ ≠ (.slice Ao43 y171.length co43 : Value).ownBlock ∧ some k_ ≠ (.slice Ao44 y174.length co44 : Value).ownBlock ∧ some k_ ≠ (.slice Ao45 y177.length co45 : Value).ownBlock ∧ k_ ≠ gb163) k_ from fun k_ hk => ⟨Kd.fresh' (Kd.N_lt (by (with_reducible repeat (first | apply Kd.N_alloc | apply Kd.N_drewN | apply Kd.N_drew)); exact HO162.out)) k_ hk, Kd.fresh' (Kd.R_lt (ownx HO166)) k_ hk, Kd.fresh' (Kd.N_lt (by (with_reducible repeat (first | apply Kd.N_alloc | apply Kd.N_drewN | apply Kd.N_drew)); exact HO169.out)) k_ hk, Kd.fresh' (Kd.R_lt (ownx HO173)) k_ hk, Kd.fresh' (Kd.R_lt (ownx HO176)) k_ hk, Kd.fresh' (Kd.R_lt (ownx HO179)) k_ hk, Kd.freshB (g := gb163) (o := .cells #[.int .i64 2, .slice Ao29 y160.length co29] 24 (0, 0)) blkz k_ hk⟩) _ (Nat.le_refl _)) (Below.refl _ _) (Nat.le_refl _) (by simp) ?_; (case hd => rfl); (case hg => rfl); (case hr => first | (go_simp; done) | (go_simp; rfl)); (case hp => exact (Reps.c2 (show Kd.FK k64 _ _ (⟨y182, y185⟩ : S64) [.slice Ao52 y182.length co52, .slice Ao51 y185.length co51] from (k64_mkF _ _ (⟨y182, y185⟩ : S64) (Kd.R_reads' (Kd.R_mono (ok' := (fun k_ => some k_ ≠ (.slice Ao29 y160.length co29 : Value).ownBlock ∧ some k_ ≠ (.slice Ao34 y164.length co34 : Value).ownBlock ∧ some k_ ≠ (v168 : Value).ownBlock ∧ some k_ ≠ (.slice Ao43 y171.length co43 : Value).ownBlock ∧ some k_ ≠ (.slice Ao44 y174.length co44 : Value).ownBlock ∧ some k_ ≠ (.slice Ao45 y177.length co45 : Value).ownBlock ∧ k_ ≠ gb163)) (Kd.R_types (Kd.R_apart' (Kd.R_apart' (HO184.out) (Kd.N_typed HO162.out) (by decide)) (Kd.N_typed HO169.out) (by decide)) BK163.out (by decide)) (fun k_ hk => ⟨hk.1.1.2, ⟨hk.1.1.1.1.1.1.1.2, ⟨hk.1.2, ⟨hk.1.1.1.1.1.1.2, ⟨hk.1.1.1.1.1.2, ⟨hk.1.1.1.1.2, hk.2⟩⟩⟩⟩⟩⟩))).2.1 (Kd.R_F (Kd.R_mono (ok' := (fun k_ => some k_ ≠ (.slice Ao29 y160.length co29 : Value).ownBlock ∧ some k_ ≠ (.slice Ao34 y164.length co34 : Value).ownBlock ∧ some k_ ≠ (v168 : Value).ownBlock ∧ some k_ ≠ (.slice Ao43 y171.length co43 : Value).ownBlock ∧ some k_ ≠ (.slice Ao44 y174.length co44 : Value).ownBlock ∧ some k_ ≠ (.slice Ao45 y177.length co45 : Value).ownBlock ∧ k_ ≠ gb163)) (Kd.R_types (Kd.R_apart' (Kd.R_apart' (HO184.out) (Kd.N_typed HO162.out) (by decide)) (Kd.N_typed HO169.out) (by decide)) BK163.out (by decide)) (fun k_ hk => ⟨hk.1.1.2, ⟨hk.1.1.1.1.1.1.1.2, ⟨hk.1.2, ⟨hk.1.1.1.1.1.1.2, ⟨hk.1.1.1.1.1.2, ⟨hk.1.1.1.1.2, hk.2⟩⟩⟩⟩⟩⟩))) (Kd.R_reads' (Kd.R_mono (ok' := (fun k_ => some k_ ≠ (.slice Ao29 y160.length co29 : Value).ownBlock ∧ some k_ ≠ (.slice Ao34 y164.length co34 : Value).ownBlock ∧ some k_ ≠ (v168 : Value).ownBlock ∧ some k_ ≠ (.slice Ao43 y171.length co43 : Value).ownBlock ∧ some k_ ≠ (.slice Ao44 y174.length co44 : Value).ownBlock ∧ some k_ ≠ (.slice Ao45 y177.length co45 : Value).ownBlock ∧ k_ ≠ gb163)) (Kd.R_types (Kd.R_apart' (Kd.R_apart' (HO187.out) (Kd.N_typed HO162.out) (by decide)) (Kd.N_typed HO169.out) (by decide)) BK163.out (by decide)) (fun k_ hk => ⟨hk.1.1.2, ⟨hk.1.1.1.1.1.1.1.2, ⟨hk.1.2, ⟨hk.1.1.1.1.1.1.2, ⟨hk.1.1.1.1.1.2, ⟨hk.1.1.1.1.2, hk.2⟩⟩⟩⟩⟩⟩))).2.1 (Kd.R_F (Kd.R_mono (ok' := (fun k_ => some k_ ≠ (.slice Ao29 y160.length co29 : Value).ownBlock ∧ some k_ ≠ (.slice Ao34 y164.length co34 : Value).ownBlock ∧ some k_ ≠ (v168 : Value).ownBlock ∧ some k_ ≠ (.slice Ao43 y171.length co43 : Value).ownBlock ∧ some k_ ≠ (.slice Ao44 y174.length co44 : Value).ownBlock ∧ some k_ ≠ (.slice Ao45 y177.length co45 : Value).ownBlock ∧ k_ ≠ gb163)) (Kd.R_types (Kd.R_apart' (Kd.R_apart' (HO187.out) (Kd.N_typed HO162.out) (by decide)) (Kd.N_typed HO169.out) (by decide)) BK163.out (by decide)) (fun k_ hk => ⟨hk.1.1.2, ⟨hk.1.1.1.1.1.1.1.2, ⟨hk.1.2, ⟨hk.1.1.1.1.1.1.2, ⟨hk.1.1.1.1.1.2, ⟨hk.1.1.1.1.2, hk.2⟩⟩⟩⟩⟩⟩))))) (Reps.none _ _))); intro v189 w53 ho54 hb hg_ hnew_; clear hg_ hnew_; (first | rw [← Ny188.out] at ho54 | (simp only [Int.reduceToNat] at ho54; rw [← Ny188.out] at ho54)); have n0_ := Aside0.mk (Kd.N_elder' (by (with_reducible repeat (first | apply Kd.N_alloc | apply Kd.N_drewN | apply Kd.N_drew)); exact HO162.out) (by first | exact Kd.N_base ho54 | exact Kd.S_base ho54) hb); have n1_ := Aside0.mk (Kd.R_below (ownx HO166) hb); have n2_ := Aside0.mk (Kd.N_elder' (by (with_reducible repeat (first | apply Kd.N_alloc | apply Kd.N_drewN | apply Kd.N_drew)); exact HO169.out) (by first | exact Kd.N_base ho54 | exact Kd.S_base ho54) hb); have n3_ := Aside0.mk (Kd.R_below (ownx HO173) hb); have n4_ := Aside0.mk (Kd.R_below (ownx HO176) hb); have n5_ := Aside0.mk (Kd.R_below (ownx HO179) hb); have n6_ := Aside0.mk (Kd.N_lower ho54 (below_size bel)); have n7_ := Aside0.mk (blk_below (g := gb163) blkz hb); have n8_ := Aside0.mk (below_step bel hb); clear HO162; clear HO166; clear HO169; clear HO173; clear HO176; clear HO179; clear BK163; clear HB; clear HO184; clear HO187; have HO162 := n0_; have HO166 := n1_; have HO169 := n2_; have HO173 := n3_; have HO176 := n4_; have HO179 := n5_; have HO190 := n6_; have BK163 := n7_; have HB := n8_; clear n0_ n1_ n2_ n3_ n4_ n5_ n6_ n7_ n8_; clear hb ho54; obtain ⟨Ao55, co55, eo55⟩ := Kd.N_slice HO190.out; subst eo55) | ((with_reducible refine gate_dst (N := 36) rfl ?_); (try (refine gate_guard (by rfl) ?_; dsimp only)); refine Kd.R_lit (Kd.int .i64) _ 3 ?hg (N := 36) ?hd (xs := ([0] : List Int)) (inner := [.int .i64 0]) (ok := fun _ => True) (okp := fun _ => True) ?hr ?hp (fun _ hk => hk) trivial (Below.refl _ _) (Nat.le_refl _) (by simp) ?_; (case hd => rfl); (case hg => rfl); (case hr => first | (go_simp; done) | (go_simp; rfl)); (case hp => exact (Reps.one (show Kd.M (Kd.int .i64) _ _ _ 0 [.int .i64 0] from rfl) (Reps.none _ _))); intro v192 w56 ho57 hb hg_ hnew_; clear hg_ hnew_; (first | rw [← Ny191.out] at ho57 | (simp only [Int.reduceToNat] at ho57; rw [← Ny191.out] at ho57)); have HO193 := Aside0.mk (Kd.R_lower (Kd.R_new' (Kd.R_new' (Kd.R_new' (Kd.R_new' ho57 (Kd.R_lt (ownx HO166))) (Kd.R_lt (ownx HO173))) (Kd.R_lt (ownx HO176))) (Kd.R_lt (ownx HO179))) (below_size bel)); replace HO162 := Aside0.mk (Kd.N_elder' (by (with_reducible repeat (first | apply Kd.N_alloc | apply Kd.N_drewN | apply Kd.N_drew)); exact HO162.out) (Kd.R_base ho57) hb); replace HO166 := Aside0.mk (Kd.R_elder' (ownx HO166) (Kd.R_base ho57) hb); replace HO169 := Aside0.mk (Kd.N_elder' (by (with_reducible repeat (first | apply Kd.N_alloc | apply Kd.N_drewN | apply Kd.N_drew)); exact HO169.out) (Kd.R_base ho57) hb); replace HO173 := Aside0.mk (Kd.R_elder' (ownx HO173) (Kd.R_base ho57) hb); replace HO176 := Aside0.mk (Kd.R_elder' (ownx HO176) (Kd.R_base ho57) hb); replace HO179 := Aside0.mk (Kd.R_elder' (ownx HO179) (Kd.R_base ho57) hb); replace HO190 := Aside0.mk (Kd.N_elder' (by (with_reducible repeat (first | apply Kd.N_alloc | apply Kd.N_drewN | apply Kd.N_drew)); exact HO190.out) (Kd.R_base ho57) hb); replace BK163 := Aside0.mk (blk_below (g := gb163) blkz hb); replace HB := Aside0.mk (below_step bel hb); clear hb ho57; obtain ⟨Ao58, co58, eo58⟩ := Kd.R_slice HO193.out; subst eo58) | ((with_reducible refine gate_callee (f := 18) rfl ?_); refine goesL_ (some 37) rfl rfl Try.func18 (by kernel_rfl) rfl #[.agg #[.int .i64 1, .slice Ao55 y188.length co55], .slice Ao58 y191.length co58] rfl mapz ?_; (with_reducible refine (key_Stuck.calls k 1 _ _ y188 _ _ y191 t194 t197 _ ?side1 ?side2 ?side3 ?side4 A3.out).mono ?_); (case side1 => repeat (first | exact (Kd.N_reads' HO190.out).2.2 | (with_reducible refine Kd.C_alloc ?_ _) | (with_reducible refine Kd.C_drewN ?_ _) | (with_reducible refine Kd.C_drew ?_))); (case side2 => exact (Kd.N_reads' HO190.out).2.1); (case side3 => repeat (first | exact (Kd.R_reads' HO193.out).2.2 | (with_reducible refine Kd.C_alloc ?_ _) | (with_reducible refine Kd.C_drewN ?_ _) | (with_reducible refine Kd.C_drew ?_))); (case side4 => exact (Kd.R_reads' HO193.out).2.1); rintro e w59 ⟨v195, rfl, ho0, hb⟩; refine ⟨_, rfl, ?_⟩; have HO196 := Aside0.mk (Kd.N_lower (Kd.N_mono (ok' := fun k_ => some k_ ≠ (.slice Ao29 y160.length co29 : Value).ownBlock ∧ some k_ ≠ (.slice Ao34 y164.length co34 : Value).ownBlock ∧ some k_ ≠ (v168 : Value).ownBlock ∧ some k_ ≠ (.slice Ao43 y171.length co43 : Value).ownBlock ∧ some k_ ≠ (.slice Ao44 y174.length co44 : Value).ownBlock ∧ some k_ ≠ (.slice Ao45 y177.length co45 : Value).ownBlock ∧ some k_ ≠ (.slice Ao55 y188.length co55 : Value).ownBlock ∧ some k_ ≠ (.slice Ao58 y191.length co58 : Value).ownBlock ∧ k_ ≠ gb163) (Kd.S_N (Kd.S_bound ho0)) (fun k_ hk_ => ⟨(Kd.fresh' (Kd.N_lt (by (with_reducible repeat (first | apply Kd.N_alloc | apply Kd.N_drewN | apply Kd.N_drew)); exact HO162.out)) k_ hk_.2.1), (Kd.fresh' (Kd.R_lt (ownx HO166)) k_ hk_.2.1), (Kd.fresh' (Kd.N_lt (by (with_reducible repeat (first | apply Kd.N_alloc | apply Kd.N_drewN | apply Kd.N_drew)); exact HO169.out)) k_ hk_.2.1), (Kd.fresh' (Kd.R_lt (ownx HO173)) k_ hk_.2.1), (Kd.fresh' (Kd.R_lt (ownx HO176)) k_ hk_.2.1), (Kd.fresh' (Kd.R_lt (ownx HO179)) k_ hk_.2.1), (Kd.fresh' (Kd.N_lt (by (with_reducible repeat (first | apply Kd.N_alloc | apply Kd.N_drewN | apply Kd.N_drew)); exact HO190.out)) k_ hk_.2.1), (Kd.fresh' (Kd.R_lt (ownx HO193)) k_ hk_.2.1), (Kd.freshB (g := gb163) (o := .cells #[.int .i64 2, .slice Ao29 y160.length co29] 24 (0, 0)) blkz k_ hk_.2.1)⟩)) (below_size bel)); replace HO162 := Aside0.mk (Kd.N_elder' (by (with_reducible repeat (first | apply Kd.N_alloc | apply Kd.N_drewN | apply Kd.N_drew)); exact HO162.out) (by first | exact Kd.N_base ho0 | exact Kd.S_base ho0) hb); replace HO166 := Aside0.mk (Kd.R_below (ownx HO166) hb); replace HO169 := Aside0.mk (Kd.N_elder' (by (with_reducible repeat (first | apply Kd.N_alloc | apply Kd.N_drewN | apply Kd.N_drew)); exact HO169.out) (by first | exact Kd.N_base ho0 | exact Kd.S_base ho0) hb); replace HO173 := Aside0.mk (Kd.R_below (ownx HO173) hb); replace HO176 := Aside0.mk (Kd.R_below (ownx HO176) hb); replace HO179 := Aside0.mk (Kd.R_below (ownx HO179) hb); replace HO190 := Aside0.mk (Kd.N_elder' (by (with_reducible repeat (first | apply Kd.N_alloc | apply Kd.N_drewN | apply Kd.N_drew)); exact HO190.out) (by first | exact Kd.N_base ho0 | exact Kd.S_base ho0) hb); replace HO193 := Aside0.mk (Kd.R_below (ownx HO193) hb); replace BK163 := Aside0.mk (blk_below (g := gb163) blkz hb); replace HB := Aside0.mk (below_step bel hb); (try clear hb); (try clear hb2); (try clear hk); (try clear hi); (try clear ho0); obtain ⟨Ao60, co60, eo60⟩ := Kd.N_slice HO169.out; subst eo60; have p198 : 0 ≤ (0 : Int) := (by omega); have q198 : 0 < (t167.length : Int) := of_decide_eq_true asz; obtain ⟨ad198, A198_0, c198_0, e198, hx198_0, hl198_0, hi198_0⟩ := at_L1 (Kd.N_reads' HO169.out).2.2 0 p198 q198; cases e198; obtain ⟨ce198, hce198, hMe198, hcc198⟩ := Kd.N_get HO169.out [] 0 p198 (by first | exact q198 | exact of_decide_eq_true asz | (have e_ := (Kd.N_reads' HO169.out).1; omega)); obtain ⟨ua198_0, uc198_0, rfl, ul198_0, ge198_0⟩ := Kd.FK_slice_open hMe198; have hv198_0 := hcc198 0 _ rfl; rw [Nat.add_zero, show ((Kd.slice 3 (Kd.int .i64))).sz = 1 from rfl, Nat.mul_one] at hv198_0; replace hv198_0 := Option.some.inj (hv198_0.symm.trans hx198_0); injection hv198_0 with hva_ hvn_ hvc_; rw [hva_] at ge198_0; rw [hvc_] at ul198_0; have HL198_0 := Aside0.mk (show Kd.V (Kd.int .i64) 3 _ w.heap.size _ _ (rd_L1 t167 0) from Kd.V_mk ul198_0 ge198_0); clear hva_ hvn_ hvc_ ge198_0 ul198_0; clear hcc198 hce198; have qi198 : (0 < t167.length) = True := eq_true (by omega); (try rw [show ((0 : Int)).toNat = 0 from rfl] at hx198_0); (try rw [Addr.add_zero'] at hx198_0); have HR198_0 := Aside0.mk hi198_0; have HC198_0 := Aside0.mk hl198_0; clear hi198_0 hl198_0; replace p198 := eq_true p198; replace q198 := eq_true q198) | ((with_reducible refine gate_dst (N := 59) rfl ?_); (try (refine gate_guard (by rfl) ?_; dsimp only)); refine Kd.R_lit (Kd.int .i64) _ 3 ?hg (N := 59) ?hd (xs := ([0, 1] : List Int)) (inner := [.int .i64 0, .int .i64 1]) (ok := fun _ => True) (okp := fun _ => True) ?hr ?hp (fun _ hk => hk) trivial (Below.refl _ _) (Nat.le_refl _) (by simp) ?_; (case hd => rfl); (case hg => rfl); (case hr => first | (go_simp; done) | (go_simp; rfl)); (case hp => exact (Reps.one (show Kd.M (Kd.int .i64) _ _ _ 0 [.int .i64 0] from rfl) (Reps.one (show Kd.M (Kd.int .i64) _ _ _ 1 [.int .i64 1] from rfl) (Reps.none _ _)))); intro v200 w61 ho62 hb hg_ hnew_; clear hg_ hnew_; (first | rw [← Ny199.out] at ho62 | (simp only [Int.reduceToNat] at ho62; rw [← Ny199.out] at ho62)); have HO201 := Aside0.mk (Kd.R_lower (Kd.R_new' (Kd.R_new' (Kd.R_new' (Kd.R_new' (Kd.R_new' ho62 (Kd.R_lt (ownx HO166))) (Kd.R_lt (ownx HO173))) (Kd.R_lt (ownx HO176))) (Kd.R_lt (ownx HO179))) (Kd.R_lt (ownx HO193))) (below_size bel)); replace HO162 := Aside0.mk (Kd.N_elder' (by (with_reducible repeat (first | apply Kd.N_alloc | apply Kd.N_drewN | apply Kd.N_drew)); exact HO162.out) (Kd.R_base ho62) hb); replace HO166 := Aside0.mk (Kd.R_elder' (ownx HO166) (Kd.R_base ho62) hb); replace HO169 := Aside0.mk (Kd.N_elder' (by (with_reducible repeat (first | apply Kd.N_alloc | apply Kd.N_drewN | apply Kd.N_drew)); exact HO169.out) (Kd.R_base ho62) hb); replace HO173 := Aside0.mk (Kd.R_elder' (ownx HO173) (Kd.R_base ho62) hb); replace HO176 := Aside0.mk (Kd.R_elder' (ownx HO176) (Kd.R_base ho62) hb); replace HO179 := Aside0.mk (Kd.R_elder' (ownx HO179) (Kd.R_base ho62) hb); replace HO190 := Aside0.mk (Kd.N_elder' (by (with_reducible repeat (first | apply Kd.N_alloc | apply Kd.N_drewN | apply Kd.N_drew)); exact HO190.out) (Kd.R_base ho62) hb); replace HO193 := Aside0.mk (Kd.R_elder' (ownx HO193) (Kd.R_base ho62) hb); replace HO196 := Aside0.mk (Kd.N_elder' (by (with_reducible repeat (first | apply Kd.N_alloc | apply Kd.N_drewN | apply Kd.N_drew)); exact HO196.out) (Kd.R_base ho62) hb); replace HL198_0 := Aside0.mk (Kd.V_elder' (by (with_reducible repeat (first | apply Kd.V_alloc | apply Kd.V_drewN | apply Kd.V_drew)); exact HL198_0.out) (Kd.R_base ho62) hb); replace BK163 := Aside0.mk (blk_below (g := gb163) blkz hb); replace HR198_0 := Aside0.mk (Kd.C_below (by repeat (first | (with_reducible exact HR198_0.out) | (with_reducible refine Kd.C_alloc ?_ _) | (with_reducible refine Kd.C_drewN ?_ _) | (with_reducible refine Kd.C_drew ?_) | exact HR198_0.out)) hb); replace HB := Aside0.mk (below_step bel hb); clear hb ho62; obtain ⟨Ao63, co63, eo63⟩ := Kd.R_slice HO201.out; subst eo63) | (go_at_call 27; (with_reducible refine (dropperlaw06_SameInts.calls k _ _ (rd_L1 t167 0) _ _ y199 true _ ?side1 HC198_0.out ?side3 ?side4 A9.out).mono ?_); (case side1 => repeat (first | exact (by repeat (first | (with_reducible exact HR198_0.out) | (with_reducible refine Kd.C_alloc ?_ _) | (with_reducible refine Kd.C_drewN ?_ _) | (with_reducible refine Kd.C_drew ?_) | exact HR198_0.out)) | (with_reducible refine Kd.C_alloc ?_ _) | (with_reducible refine Kd.C_drewN ?_ _) | (with_reducible refine Kd.C_drew ?_))); (case side3 => repeat (first | exact (Kd.R_reads' HO201.out).2.2 | (with_reducible refine Kd.C_alloc ?_ _) | (with_reducible refine Kd.C_drewN ?_ _) | (with_reducible refine Kd.C_drew ?_))); (case side4 => exact (Kd.R_reads' HO201.out).2.1); rintro e w' ⟨rfl, ⟨nd, rfl⟩⟩; obtain ⟨Ao64, co64, eo64⟩ := Kd.N_slice HO196.out; subst eo64; have p203 : 0 ≤ (0 : Int) := (by omega); have q203 : 0 < (t194.length : Int) := of_decide_eq_true asz; obtain ⟨ad203, A203_0, c203_0, e203, hx203_0, hl203_0, hi203_0⟩ := at_L1 (Kd.N_reads' HO196.out).2.2 0 p203 q203; cases e203; obtain ⟨ce203, hce203, hMe203, hcc203⟩ := Kd.N_get HO196.out [] 0 p203 (by first | exact q203 | exact of_decide_eq_true asz | (have e_ := (Kd.N_reads' HO196.out).1; omega)); obtain ⟨ua203_0, uc203_0, rfl, ul203_0, ge203_0⟩ := Kd.FK_slice_open hMe203; have hv203_0 := hcc203 0 _ rfl; rw [Nat.add_zero, show ((Kd.slice 3 (Kd.int .i64))).sz = 1 from rfl, Nat.mul_one] at hv203_0; replace hv203_0 := Option.some.inj (hv203_0.symm.trans hx203_0); injection hv203_0 with hva_ hvn_ hvc_; rw [hva_] at ge203_0; rw [hvc_] at ul203_0; have HL203_0 := Aside0.mk (show Kd.V (Kd.int .i64) 3 _ w.heap.size _ _ (rd_L1 t194 0) from Kd.V_mk ul203_0 ge203_0); clear hva_ hvn_ hvc_ ge203_0 ul203_0; clear hcc203 hce203; have qi203 : (0 < t194.length) = True := eq_true (by omega); (try rw [show ((0 : Int)).toNat = 0 from rfl] at hx203_0); (try rw [Addr.add_zero'] at hx203_0); have HR203_0 := Aside0.mk hi203_0; have HC203_0 := Aside0.mk hl203_0; clear hi203_0 hl203_0; replace p203 := eq_true p203; replace q203 := eq_true q203) | ((with_reducible refine gate_dst (N := 74) rfl ?_); (try (refine gate_guard (by rfl) ?_; dsimp only)); refine Kd.R_lit (Kd.int .i64) _ 3 ?hg (N := 74) ?hd (xs := ([100] : List Int)) (inner := [.int .i64 100]) (ok := fun _ => True) (okp := fun _ => True) ?hr ?hp (fun _ hk => hk) trivial (Below.refl _ _) (Nat.le_refl _) (by simp) ?_; (case hd => rfl); (case hg => rfl); (case hr => first | (go_simp; done) | (go_simp; rfl)); (case hp => exact (Reps.one (show Kd.M (Kd.int .i64) _ _ _ 100 [.int .i64 100] from rfl) (Reps.none _ _))); intro v205 w65 ho66 hb hg_ hnew_; clear hg_ hnew_; (first | rw [← Ny204.out] at ho66 | (simp only [Int.reduceToNat] at ho66; rw [← Ny204.out] at ho66)); have HO206 := Aside0.mk (Kd.R_lower (Kd.R_new' (Kd.R_new' (Kd.R_new' (Kd.R_new' (Kd.R_new' (Kd.R_new' ho66 (Kd.R_lt (ownx HO166))) (Kd.R_lt (ownx HO173))) (Kd.R_lt (ownx HO176))) (Kd.R_lt (ownx HO179))) (Kd.R_lt (ownx HO193))) (Kd.R_lt (ownx HO201))) (below_size bel)); replace HO162 := Aside0.mk (Kd.N_elder' (by (with_reducible repeat (first | apply Kd.N_alloc | apply Kd.N_drewN | apply Kd.N_drew)); exact HO162.out) (Kd.R_base ho66) hb); replace HO166 := Aside0.mk (Kd.R_elder' (ownx HO166) (Kd.R_base ho66) hb); replace HO169 := Aside0.mk (Kd.N_elder' (by (with_reducible repeat (first | apply Kd.N_alloc | apply Kd.N_drewN | apply Kd.N_drew)); exact HO169.out) (Kd.R_base ho66) hb); replace HO173 := Aside0.mk (Kd.R_elder' (ownx HO173) (Kd.R_base ho66) hb); replace HO176 := Aside0.mk (Kd.R_elder' (ownx HO176) (Kd.R_base ho66) hb); replace HO179 := Aside0.mk (Kd.R_elder' (ownx HO179) (Kd.R_base ho66) hb); replace HO190 := Aside0.mk (Kd.N_elder' (by (with_reducible repeat (first | apply Kd.N_alloc | apply Kd.N_drewN | apply Kd.N_drew)); exact HO190.out) (Kd.R_base ho66) hb); replace HO193 := Aside0.mk (Kd.R_elder' (ownx HO193) (Kd.R_base ho66) hb); replace HO196 := Aside0.mk (Kd.N_elder' (by (with_reducible repeat (first | apply Kd.N_alloc | apply Kd.N_drewN | apply Kd.N_drew)); exact HO196.out) (Kd.R_base ho66) hb); replace HL198_0 := Aside0.mk (Kd.V_elder' (by (with_reducible repeat (first | apply Kd.V_alloc | apply Kd.V_drewN | apply Kd.V_drew)); exact HL198_0.out) (Kd.R_base ho66) hb); replace HO201 := Aside0.mk (Kd.R_elder' (ownx HO201) (Kd.R_base ho66) hb); replace HL203_0 := Aside0.mk (Kd.V_elder' (by (with_reducible repeat (first | apply Kd.V_alloc | apply Kd.V_drewN | apply Kd.V_drew)); exact HL203_0.out) (Kd.R_base ho66) hb); replace BK163 := Aside0.mk (blk_below (g := gb163) blkz hb); replace HR198_0 := Aside0.mk (Kd.C_below (by repeat (first | (with_reducible exact HR198_0.out) | (with_reducible refine Kd.C_alloc ?_ _) | (with_reducible refine Kd.C_drewN ?_ _) | (with_reducible refine Kd.C_drew ?_) | exact HR198_0.out)) hb); replace HR203_0 := Aside0.mk (Kd.C_below (by repeat (first | (with_reducible exact HR203_0.out) | (with_reducible refine Kd.C_alloc ?_ _) | (with_reducible refine Kd.C_drewN ?_ _) | (with_reducible refine Kd.C_drew ?_) | exact HR203_0.out)) hb); replace HB := Aside0.mk (below_step bel hb); clear hb ho66; obtain ⟨Ao67, co67, eo67⟩ := Kd.R_slice HO206.out; subst eo67) | (go_at_call 27; (with_reducible refine (dropperlaw06_SameInts.calls k _ _ (rd_L1 t194 0) _ _ y204 t207 _ ?side1 HC203_0.out ?side3 ?side4 A14.out).mono ?_); (case side1 => repeat (first | exact (by repeat (first | (with_reducible exact HR203_0.out) | (with_reducible refine Kd.C_alloc ?_ _) | (with_reducible refine Kd.C_drewN ?_ _) | (with_reducible refine Kd.C_drew ?_) | exact HR203_0.out)) | (with_reducible refine Kd.C_alloc ?_ _) | (with_reducible refine Kd.C_drewN ?_ _) | (with_reducible refine Kd.C_drew ?_))); (case side3 => repeat (first | exact (Kd.R_reads' HO206.out).2.2 | (with_reducible refine Kd.C_alloc ?_ _) | (with_reducible refine Kd.C_drewN ?_ _) | (with_reducible refine Kd.C_drew ?_))); (case side4 => exact (Kd.R_reads' HO206.out).2.1); rintro e w' ⟨rfl, ⟨nd, rfl⟩⟩))
          go_ret
          exact ⟨ezz, bel⟩
         ·
          rw [if_neg c13] at H
          exact absurd H (by simp)
        ·
         rw [if_neg c12] at H
         have c12b0 : ((t194.length : Int) == 1) = false := beq_eq_false_iff_ne.mpr c12
         have c12b1 : ((t194.length : Int) != 1) = true := bne_iff_ne.mpr c12
         exact absurd H (by simp)
       ·
        replace c11 := Bool.eq_false_iff.mpr c11
        subst c11
        rw [if_neg (show ¬ (false = true) by decide)] at H
        exact absurd H (by simp)
      ·
       replace c10 := Bool.eq_false_iff.mpr c10
       subst c10
       rw [if_neg (show ¬ (false = true) by decide)] at H
       exact absurd H (by simp)
     ·
      rw [if_neg c8] at H
      exact absurd H (by simp)
    ·
     rw [if_neg c7] at H
     have c7b0 : ((t167.length : Int) == 2) = false := beq_eq_false_iff_ne.mpr c7
     have c7b1 : ((t167.length : Int) != 2) = true := bne_iff_ne.mpr c7
     exact absurd H (by simp)
   ·
    rw [if_neg c6] at H
    have c6b0 : (t197 == 0) = false := beq_eq_false_iff_ne.mpr c6
    have c6b1 : (t197 != 0) = true := bne_iff_ne.mpr c6
    exact absurd H (by simp)
  ·
   rw [if_neg c5] at H
   have c5b0 : (t181 == 0) = false := beq_eq_false_iff_ne.mpr c5
   have c5b1 : (t181 != 0) = true := bne_iff_ne.mpr c5
   exact absurd H (by simp)
 ·
  rw [if_neg c4] at H
  have c4b0 : (t170 == 0) = false := beq_eq_false_iff_ne.mpr c4
  have c4b1 : (t170 != 0) = true := bne_iff_ne.mpr c4
  exact absurd H (by simp)

/-! ### dropperlaw06_Large: function 29 -/
mutual
def dropperlaw06_Large.l0 : Nat → List (List Int) → Int → Int → List (S64) → Option (Bool)
 | 0, _, _, _, _ => none
 | k + 1, x1, x5, x218000, x218001 => if x5 < (x218001.length : Int) then (if 0 ≤ x5 then (if (((rd_T64 x218001 x5).f0).length : Int) > 20 then (some true) else (if (((rd_T64 x218001 x5).f1).length : Int) > 20 then (some true) else (dropperlaw06_Large.l0 k x1 (wrap64 (x5 + 1)) x218000 x218001))) else (none)) else (dropperlaw06_Large.l1 k x1 0 x218000 x218001)
def dropperlaw06_Large.l1 : Nat → List (List Int) → Int → Int → List (S64) → Option (Bool)
 | 0, _, _, _, _ => none
 | k + 1, x1, x6, x218000, x218001 => if x6 < (x1.length : Int) then (if 0 ≤ x6 then (if ((rd_L1 x1 x6).length : Int) > 20 then (some true) else (dropperlaw06_Large.l1 k x1 (wrap64 (x6 + 1)) x218000 x218001)) else (none)) else (some (decide ((x218001.length : Int) > 20)))
end
def dropperlaw06_Large.f (k : Nat) (a0_0 : Int) (l0_1 : List (S64)) (l1 : List (List Int)) : Option (Bool) := dropperlaw06_Large.l0 k l1 0 a0_0 l0_1
set_option maxHeartbeats 8000000 in
set_option maxRecDepth 100000 in
theorem dropperlaw06_Large.calls (k : Nat) (a0_0 : Int) (A0_1 : Option Addr) (c0_1 : Nat) (l0_1 : List (S64)) (A1 : Option Addr) (c1 : Nat) (l1 : List (List Int)) (r : Bool) (w : World) (hr0_1 : Kd.C k64 w A0_1 l0_1.length l0_1) (hc0_1 : l0_1.length ≤ c0_1) (hr1 : Kd.C (Kd.slice 3 (Kd.int .i64)) w A1 l1.length l1) (hc1 : l1.length ≤ c1) (h : dropperlaw06_Large.f k a0_0 l0_1 l1 = some r) :
  Calls Try.prog 29 #[.agg #[.int .i64 a0_0, .slice A0_1 l0_1.length c0_1], .slice A1 l1.length c1] w fun e w' => e = .returned (.bool r) ∧ Below w.heap.size w w' := by
 have hu24 := Try.underlying24
 have HR0_1 := Aside0.mk hr0_1
 have HC0_1 := Aside0.mk hc0_1
 clear hr0_1 hc0_1
 have HR1 := Aside0.mk hr1
 have HC1 := Aside0.mk hc1
 clear hr1 hc1
 have HB := Aside0.mk (Below.refl w.heap.size w)
 have H : (dropperlaw06_Large.l0 k l1 0 a0_0 l0_1) = some r := h
 clear h
 have H' := Aside0.mk H
 clear H
 go_enter Try.func29, Try.ntmps29
 go_wp2_with (first | ((with_reducible refine gate_dst (N := 2) rfl ?_); (try (refine gate_guard (by rfl) ?_; dsimp only)); refine box_event ?hg (N := 2) ?hd (cs := #[.int .i64 a0_0, .slice A0_1 l0_1.length c0_1]) (t := 24) ?hr ?_; (case hd => rfl); (case hg => rfl); (case hr => first | (go_simp; done) | (go_simp; rfl)); intro gb217 hg w3 hbox hb; have BK217 := Aside0.mk (hbox); have GW217 := bsz (w := w) hg; have GE217 := GW217; replace HB := Aside0.mk (below_step bel hb); clear hb hbox hg))
 go_loopg [5] k (fun kq v5 w' => ∃ (x5_1 : Int), v5 = .int .i64 x5_1 ∧ Aside0 (dropperlaw06_Large.l0 kq l1 x5_1 a0_0 l0_1 = some r) ∧ Aside0 (kq ≤ k) ∧ Aside0 (w'.heap[gb217]? = some (.cells #[.int .i64 a0_0, (.slice A0_1 l0_1.length c0_1)] 24 (0, 0))) ∧ Aside0 (Below w.heap.size w w'))
 case atStart => exact ⟨(0), rsz, H', ⟨Nat.le_refl _⟩, ⟨blkz⟩, ⟨bel⟩⟩
 case round =>
  clear H'
  (try clear c1); (try clear c2); (try clear p2)
  obtain ⟨x5_1, rfl, HA, HK1, BK217, HB⟩ := hrel
  cases gk with
  | zero => exact absurd HA.out (by simp [dropperlaw06_Large.l0])
  | succ k1 =>
   have H := HA.out
   clear HA
   simp only [dropperlaw06_Large.l0] at H
   by_cases c4 : x5_1 < (l0_1.length : Int)
   ·
    rw [if_pos c4] at H
    have c4b0 : decide (x5_1 < (l0_1.length : Int)) = true := decide_eq_true c4
    clear c4
    by_cases c5 : 0 ≤ x5_1
    ·
     rw [if_pos c5] at H
     have c5b0 : decide (0 ≤ x5_1) = true := decide_eq_true c5
     clear c5
     by_cases c6 : (((rd_T64 l0_1 x5_1).f0).length : Int) > 20
     ·
      rw [if_pos c6] at H
      have c6b0 : decide (20 < (((rd_T64 l0_1 x5_1).f0).length : Int)) = true := decide_eq_true c6
      have c6b1 : decide (20 < ((rd_T64 l0_1 x5_1).f0).length) = true := decide_eq_true (by omega)
      clear c6
      obtain rfl := Option.some.inj H
      obtain ⟨hcz7_0, hcz7_1⟩ := bc2 BK217.out
      obtain ⟨hfz7_0, hfz7_1⟩ := bf2 BK217.out
      have p218 : 0 ≤ (x5_1 : Int) := of_decide_eq_true asz
      have q218 : x5_1 < (l0_1.length : Int) := of_decide_eq_true asz
      obtain ⟨ad218, A218_0, c218_0, A218_1, c218_1, e218, hx218_0, hx218_1, hl218_0, hi218_0, hl218_1, hi218_1⟩ := at_T64 HR0_1.out x5_1 p218 q218
      cases e218
      replace hx218_0 := (HB.out.cell (World.block_lt_of_cell? w _ hx218_0)).trans hx218_0
      replace hx218_1 := (HB.out.cell (World.block_lt_of_cell? w _ hx218_1)).trans hx218_1
      have HR218_0 := Aside0.mk hi218_0
      have HC218_0 := Aside0.mk hl218_0
      clear hi218_0 hl218_0
      have HR218_1 := Aside0.mk hi218_1
      have HC218_1 := Aside0.mk hl218_1
      clear hi218_1 hl218_1
      replace p218 := eq_true p218
      replace q218 := eq_true q218
      go_wp2
      go_ret
      exact ⟨ezz, bel⟩
     ·
      rw [if_neg c6] at H
      have c6b0 : decide (20 < (((rd_T64 l0_1 x5_1).f0).length : Int)) = false := decide_eq_false c6
      have c6b1 : decide (20 < ((rd_T64 l0_1 x5_1).f0).length) = false := decide_eq_false (by omega)
      clear c6
      by_cases c8 : (((rd_T64 l0_1 x5_1).f1).length : Int) > 20
      ·
       rw [if_pos c8] at H
       have c8b0 : decide (20 < (((rd_T64 l0_1 x5_1).f1).length : Int)) = true := decide_eq_true c8
       have c8b1 : decide (20 < ((rd_T64 l0_1 x5_1).f1).length) = true := decide_eq_true (by omega)
       clear c8
       obtain rfl := Option.some.inj H
       obtain ⟨hcz9_0, hcz9_1⟩ := bc2 BK217.out
       obtain ⟨hfz9_0, hfz9_1⟩ := bf2 BK217.out
       have p218 : 0 ≤ (x5_1 : Int) := of_decide_eq_true asz
       have q218 : x5_1 < (l0_1.length : Int) := of_decide_eq_true asz
       obtain ⟨ad218, A218_0, c218_0, A218_1, c218_1, e218, hx218_0, hx218_1, hl218_0, hi218_0, hl218_1, hi218_1⟩ := at_T64 HR0_1.out x5_1 p218 q218
       cases e218
       replace hx218_0 := (HB.out.cell (World.block_lt_of_cell? w _ hx218_0)).trans hx218_0
       replace hx218_1 := (HB.out.cell (World.block_lt_of_cell? w _ hx218_1)).trans hx218_1
       have HR218_0 := Aside0.mk hi218_0
       have HC218_0 := Aside0.mk hl218_0
       clear hi218_0 hl218_0
       have HR218_1 := Aside0.mk hi218_1
       have HC218_1 := Aside0.mk hl218_1
       clear hi218_1 hl218_1
       replace p218 := eq_true p218
       replace q218 := eq_true q218
       have p219 : 0 ≤ (x5_1 : Int) := of_decide_eq_true asz
       have q219 : x5_1 < (l0_1.length : Int) := of_decide_eq_true asz
       obtain ⟨ad219, A219_0, c219_0, A219_1, c219_1, e219, hx219_0, hx219_1, hl219_0, hi219_0, hl219_1, hi219_1⟩ := at_T64 HR0_1.out x5_1 p219 q219
       obtain rfl : ad218 = ad219 := (by injection e219)
       replace hx219_0 := (HB.out.cell (World.block_lt_of_cell? w _ hx219_0)).trans hx219_0
       replace hx219_1 := (HB.out.cell (World.block_lt_of_cell? w _ hx219_1)).trans hx219_1
       have HR219_0 := Aside0.mk hi219_0
       have HC219_0 := Aside0.mk hl219_0
       clear hi219_0 hl219_0
       have HR219_1 := Aside0.mk hi219_1
       have HC219_1 := Aside0.mk hl219_1
       clear hi219_1 hl219_1
       replace p219 := eq_true p219
       replace q219 := eq_true q219
       have ea_ := Option.some.inj (hx218_0.symm.trans hx219_0)
       injection ea_ with ea_ en_ ec_
       subst ea_
       subst ec_
       clear en_
       have ea_ := Option.some.inj (hx218_1.symm.trans hx219_1)
       injection ea_ with ea_ en_ ec_
       subst ea_
       subst ec_
       clear en_
       go_wp2
       go_ret
       exact ⟨ezz, bel⟩
      ·
       rw [if_neg c8] at H
       have c8b0 : decide (20 < (((rd_T64 l0_1 x5_1).f1).length : Int)) = false := decide_eq_false c8
       have c8b1 : decide (20 < ((rd_T64 l0_1 x5_1).f1).length) = false := decide_eq_false (by omega)
       clear c8
       have H' := Aside0.mk H
       clear H
       obtain ⟨hcz10_0, hcz10_1⟩ := bc2 BK217.out
       obtain ⟨hfz10_0, hfz10_1⟩ := bf2 BK217.out
       have p218 : 0 ≤ (x5_1 : Int) := of_decide_eq_true asz
       have q218 : x5_1 < (l0_1.length : Int) := of_decide_eq_true asz
       obtain ⟨ad218, A218_0, c218_0, A218_1, c218_1, e218, hx218_0, hx218_1, hl218_0, hi218_0, hl218_1, hi218_1⟩ := at_T64 HR0_1.out x5_1 p218 q218
       cases e218
       replace hx218_0 := (HB.out.cell (World.block_lt_of_cell? w _ hx218_0)).trans hx218_0
       replace hx218_1 := (HB.out.cell (World.block_lt_of_cell? w _ hx218_1)).trans hx218_1
       have HR218_0 := Aside0.mk hi218_0
       have HC218_0 := Aside0.mk hl218_0
       clear hi218_0 hl218_0
       have HR218_1 := Aside0.mk hi218_1
       have HC218_1 := Aside0.mk hl218_1
       clear hi218_1 hl218_1
       replace p218 := eq_true p218
       replace q218 := eq_true q218
       have p219 : 0 ≤ (x5_1 : Int) := of_decide_eq_true asz
       have q219 : x5_1 < (l0_1.length : Int) := of_decide_eq_true asz
       obtain ⟨ad219, A219_0, c219_0, A219_1, c219_1, e219, hx219_0, hx219_1, hl219_0, hi219_0, hl219_1, hi219_1⟩ := at_T64 HR0_1.out x5_1 p219 q219
       obtain rfl : ad218 = ad219 := (by injection e219)
       replace hx219_0 := (HB.out.cell (World.block_lt_of_cell? w _ hx219_0)).trans hx219_0
       replace hx219_1 := (HB.out.cell (World.block_lt_of_cell? w _ hx219_1)).trans hx219_1
       have HR219_0 := Aside0.mk hi219_0
       have HC219_0 := Aside0.mk hl219_0
       clear hi219_0 hl219_0
       have HR219_1 := Aside0.mk hi219_1
       have HC219_1 := Aside0.mk hl219_1
       clear hi219_1 hl219_1
       replace p219 := eq_true p219
       replace q219 := eq_true q219
       have ea_ := Option.some.inj (hx218_0.symm.trans hx219_0)
       injection ea_ with ea_ en_ ec_
       subst ea_
       subst ec_
       clear en_
       have ea_ := Option.some.inj (hx218_1.symm.trans hx219_1)
       injection ea_ with ea_ en_ ec_
       subst ea_
       subst ec_
       clear en_
       go_wp2
       go_roundg k1
       case measure => have := HK1.out; omega
       case rel => exact ⟨(wrap64 (x5_1 + 1)), rsz, H', ⟨by have := HK1.out; omega⟩, ⟨blkz⟩, ⟨bel⟩⟩
    ·
     rw [if_neg c5] at H
     exact absurd H (by simp)
   ·
    rw [if_neg c4] at H
    have c4b0 : decide (x5_1 < (l0_1.length : Int)) = false := decide_eq_false c4
    clear c4
    have H' := Aside0.mk H
    clear H
    obtain ⟨hcz11_0, hcz11_1⟩ := bc2 BK217.out
    obtain ⟨hfz11_0, hfz11_1⟩ := bf2 BK217.out
    go_wp2
    go_loopg [6] k1 (fun kq v6 w' => ∃ (x6_2 : Int), v6 = .int .i64 x6_2 ∧ Aside0 (dropperlaw06_Large.l1 kq l1 x6_2 a0_0 l0_1 = some r) ∧ Aside0 (kq ≤ k1) ∧ Aside0 (w'.heap[gb217]? = some (.cells #[.int .i64 a0_0, (.slice A0_1 l0_1.length c0_1)] 24 (0, 0))) ∧ Aside0 (Below w.heap.size w w'))
    case atStart => exact ⟨(0), rsz, H', ⟨Nat.le_refl _⟩, ⟨blkz⟩, ⟨bel⟩⟩
    case round =>
     clear H'
     (try clear c1); (try clear c2); (try clear p2); (try clear q2); (try clear hx2); (try clear c4); (try clear c4b0); (try clear c5); (try clear c5b0); (try clear c6); (try clear c6b0); (try clear c6b1); (try clear p6); (try clear c8); (try clear c8b0); (try clear c8b1); (try clear hcz10_0); (try clear hcz10_1); (try clear hcz11_0); (try clear hcz11_1); (try clear hcz7_0); (try clear hcz7_1); (try clear hcz9_0); (try clear hcz9_1); (try clear hfz10_0); (try clear hfz10_1); (try clear hfz11_0); (try clear hfz11_1); (try clear hfz7_0); (try clear hfz7_1); (try clear hfz9_0); (try clear hfz9_1); (try clear hx218_0); (try clear hx218_1); (try clear hx219_0); (try clear hx219_1); (try clear p2); (try clear p218); (try clear p219); (try clear q218); (try clear q219)
     obtain ⟨x6_2, rfl, HA, HK2, BK217, HB⟩ := hrel
     cases gk with
     | zero => exact absurd HA.out (by simp [dropperlaw06_Large.l1])
     | succ k2 =>
      have H := HA.out
      clear HA
      simp only [dropperlaw06_Large.l1] at H
      by_cases c12 : x6_2 < (l1.length : Int)
      ·
       rw [if_pos c12] at H
       have c12b0 : decide (x6_2 < (l1.length : Int)) = true := decide_eq_true c12
       clear c12
       by_cases c13 : 0 ≤ x6_2
       ·
        rw [if_pos c13] at H
        have c13b0 : decide (0 ≤ x6_2) = true := decide_eq_true c13
        clear c13
        by_cases c14 : ((rd_L1 l1 x6_2).length : Int) > 20
        ·
         rw [if_pos c14] at H
         have c14b0 : decide (20 < ((rd_L1 l1 x6_2).length : Int)) = true := decide_eq_true c14
         have c14b1 : decide (20 < (rd_L1 l1 x6_2).length) = true := decide_eq_true (by omega)
         clear c14
         obtain rfl := Option.some.inj H
         have p220 : 0 ≤ (x6_2 : Int) := of_decide_eq_true asz
         have q220 : x6_2 < (l1.length : Int) := of_decide_eq_true asz
         obtain ⟨ad220, A220_0, c220_0, e220, hx220_0, hl220_0, hi220_0⟩ := at_L1 HR1.out x6_2 p220 q220
         cases e220
         replace hx220_0 := (HB.out.cell (World.block_lt_of_cell? w _ hx220_0)).trans hx220_0
         have HR220_0 := Aside0.mk hi220_0
         have HC220_0 := Aside0.mk hl220_0
         clear hi220_0 hl220_0
         replace p220 := eq_true p220
         replace q220 := eq_true q220
         go_wp2
         go_ret
         exact ⟨ezz, bel⟩
        ·
         rw [if_neg c14] at H
         have c14b0 : decide (20 < ((rd_L1 l1 x6_2).length : Int)) = false := decide_eq_false c14
         have c14b1 : decide (20 < (rd_L1 l1 x6_2).length) = false := decide_eq_false (by omega)
         clear c14
         have H' := Aside0.mk H
         clear H
         have p220 : 0 ≤ (x6_2 : Int) := of_decide_eq_true asz
         have q220 : x6_2 < (l1.length : Int) := of_decide_eq_true asz
         obtain ⟨ad220, A220_0, c220_0, e220, hx220_0, hl220_0, hi220_0⟩ := at_L1 HR1.out x6_2 p220 q220
         cases e220
         replace hx220_0 := (HB.out.cell (World.block_lt_of_cell? w _ hx220_0)).trans hx220_0
         have HR220_0 := Aside0.mk hi220_0
         have HC220_0 := Aside0.mk hl220_0
         clear hi220_0 hl220_0
         replace p220 := eq_true p220
         replace q220 := eq_true q220
         go_wp2
         go_roundg k2
         case measure => have := HK1.out; have := HK2.out; omega
         case rel => exact ⟨(wrap64 (x6_2 + 1)), rsz, H', ⟨by have := HK1.out; have := HK2.out; omega⟩, ⟨blkz⟩, ⟨bel⟩⟩
       ·
        rw [if_neg c13] at H
        exact absurd H (by simp)
      ·
       rw [if_neg c12] at H
       have c12b0 : decide (x6_2 < (l1.length : Int)) = false := decide_eq_false c12
       clear c12
       obtain rfl := Option.some.inj H
       obtain ⟨hcz15_0, hcz15_1⟩ := bc2 BK217.out
       obtain ⟨hfz15_0, hfz15_1⟩ := bf2 BK217.out
       go_wp2
       go_ret
       exact ⟨ezz, bel⟩

/-! ### key_Greatest: function 17 -/
def key_Greatest.up (s x : List Int) : List Int := List.zipWith max s x
def key_Greatest.f (a0_0 : Int) (l0_1 : List S64) (l1 : List Int) : Option (List Int × Int) := (key_reach.f a0_0 l0_1 l1).bind fun (all, e) => if e = 0 then (if 0 ≤ a0_0 ∧ a0_0 ≤ 6 then some (((all.map key_spread.toL).foldl key_Greatest.up [0, 0, 0, 0, 0, 0]).take a0_0.toNat, 0) else none) else some ([], e)
theorem key_Greatest.drop {l : List S70} {x : Int} (h0 : 0 ≤ x) (h1 : x < (l.length : Int)) : l.drop x.toNat = rd_T70 l x :: l.drop (x + 1).toNat := by
 have h : x.toNat < l.length := by omega
 rw [List.drop_eq_getElem_cons h, show (x + 1).toNat = x.toNat + 1 by omega]
 simp [rd_T70, List.getD_eq_getElem?_getD, h]
def key_Greatest.upFrom (i : Int) (t x : List Int) : List Int := t.take i.toNat ++ List.zipWith max (t.drop i.toNat) (x.drop i.toNat)
theorem key_Greatest.upFrom_step {i : Int} {t x : List Int} (h0 : 0 ≤ i) (h1 : i < 6) (ht : t.length = 6) (hx : x.length = 6) : key_Greatest.upFrom (i + 1) (t.set i.toNat (max (rd t i) (rd x i))) x = key_Greatest.upFrom i t x := by
 obtain ⟨a, b, c, d, e, f, rfl⟩ := six_of ht
 obtain ⟨a', b', c', d', e', f', rfl⟩ := six_of hx
 rcases (by omega : i = 0 ∨ i = 1 ∨ i = 2 ∨ i = 3 ∨ i = 4 ∨ i = 5) with rfl | rfl | rfl | rfl | rfl | rfl <;> rfl
theorem key_Greatest.upFrom_end {t x : List Int} (ht : t.length = 6) (hx : x.length = 6) : key_Greatest.upFrom 6 t x = t := by
 obtain ⟨a, b, c, d, e, f, rfl⟩ := six_of ht
 obtain ⟨a', b', c', d', e', f', rfl⟩ := six_of hx
 rfl
theorem key_Greatest.toL_len (x : S70) : (key_spread.toL x).length = 6 := rfl
set_option maxHeartbeats 8000000 in
set_option maxRecDepth 100000 in
theorem key_Greatest.calls (a0_0 : Int) (A0_1 : Option Addr) (c0_1 : Nat) (l0_1 : List S64) (A1 : Option Addr) (c1 : Nat) (l1 : List Int) (r1 : List Int) (r2 : Int) (w : World) (hr0_1 : Kd.C k64 w A0_1 l0_1.length l0_1) (hc0_1 : l0_1.length ≤ c0_1) (hr1 : Kd.C (Kd.int .i64) w A1 l1.length l1) (hc1 : l1.length ≤ c1) (h : key_Greatest.f a0_0 l0_1 l1 = some (r1, r2)) :
  Calls Try.prog 17 #[.agg #[.int .i64 a0_0, .slice A0_1 l0_1.length c0_1], .slice A1 l1.length c1] w fun e w' => ∃ v0_ : Value, e = .returned (.tuple #[v0_, .int .i64 r2]) ∧ Kd.R (Kd.int .i64) 3 w' w.heap.size (fun _ => True) v0_ r1 ∧ Below w.heap.size w w' := by
 have hu := Try.underlying24
 have HR := Aside0.mk hr0_1
 have HC := Aside0.mk hc0_1
 have HR1 := Aside0.mk hr1
 have HC1 := Aside0.mk hc1
 unfold key_Greatest.f at h
 obtain ⟨⟨all, e⟩, hre, h2⟩ := Option.bind_eq_some_iff.1 h
 clear h
 have h : (if e = 0 then (if 0 ≤ a0_0 ∧ a0_0 ≤ 6 then some (((all.map key_spread.toL).foldl key_Greatest.up [0, 0, 0, 0, 0, 0]).take a0_0.toNat, (0 : Int)) else none) else some ([], e)) = some (r1, r2) := h2
 clear h2
 have HRE := Aside0.mk hre
 have HLEN := Aside0.mk (key_reach.len hre)
 obtain ⟨w1, hw1⟩ : ∃ W, W = w.alloc (.cells #[.int .i64 a0_0, .slice A0_1 l0_1.length c0_1] 24) := ⟨_, rfl⟩
 have HB1 : Aside0 (Below w.heap.size w w1) := ⟨by rw [hw1]; exact below_alloc (Below.refl _ _) _⟩
 have G1 : Aside0 (w1.heap[w.heap.size]? = some (.cells #[.int .i64 a0_0, .slice A0_1 l0_1.length c0_1] 24 (0, 0))) := ⟨by rw [hw1]; exact blk_new w _⟩
 have HW := Aside0.mk hw1
 clear hr0_1 hc0_1 hr1 hc1 hre hw1
 by_cases hz : e = 0
 ·
  subst hz
  rw [if_pos rfl] at h
  by_cases hn : ¬ (0 ≤ a0_0 ∧ a0_0 ≤ 6)
  ·
   rw [if_neg hn] at h; cases h
  replace hn := Decidable.not_not.1 hn
  rw [if_pos hn] at h
  simp only [Option.some.injEq, Prod.mk.injEq] at h
  obtain ⟨h1, rfl⟩ := h
  have HN := Aside0.mk hn
  obtain ⟨F, hF⟩ : ∃ F, F = (all.map key_spread.toL).foldl key_Greatest.up [0, 0, 0, 0, 0, 0] := ⟨_, rfl⟩
  rw [← hF] at h1
  have HRES := Aside0.mk h1
  have HF0 : Aside0 (((all.drop (0 : Int).toNat).map key_spread.toL).foldl key_Greatest.up [0, 0, 0, 0, 0, 0] = F) := ⟨hF.symm⟩
  have hu2 := Aside0.mk Try.underlying70
  clear h1 hn hF
  go_enter Try.func17, Try.ntmps17
  go_wp2_with (first | (go_at_call 53; rw [← HW.out]; refine (key_reach.calls a0_0 A0_1 c0_1 l0_1 A1 c1 l1 all 0 _ (Kd.C_below HR.out HB1.out) HC.out (Kd.C_below HR1.out HB1.out) HC1.out HRE.out).mono ?_; rintro e' w2 ⟨v2, rfl, ho, hb⟩; have HB2 := Aside0.mk (below_step HB1.out hb); have G2 := Aside0.mk (blk_below G1.out hb); obtain ⟨A4, c4, rfl⟩ := Kd.R_slice ho; have HC4 := Aside0.mk (Kd.R_reads' ho).2.2; have HM4 := Aside0.mk (Kd.R_reads' ho).2.1; clear ho hb) | ((with_reducible refine gate_dst (N := 8) rfl ?_); refine box_event ?hg (N := 8) ?hd (cs := #[.int .i64 0, .int .i64 0, .int .i64 0, .int .i64 0, .int .i64 0, .int .i64 0]) (t := 70) ?hr ?_; (case hd => rfl); (case hg => rfl); (case hr => first | (go_simp; done) | (go_simp; rfl)); intro g8 hg w4 hbox hb; have G8 : Aside0 (w4.heap[g8]? = some (.cells (ar [0, 0, 0, 0, 0, 0]) 70 (0, 0))) := ⟨hbox⟩; have HB4 : Aside0 (Below w2.heap.size w2 w4) := ⟨below_step (by repeat (first | (with_reducible exact Below.refl _ _) | apply pw_below_drewN | apply below_drew1)) hb⟩; have HG8 : Aside0 (w2.heap.size ≤ g8) := ⟨by rw [hg]; exact Nat.le_refl _⟩; clear hb hbox hg))
  go_loopg [10, 11, 12, 24, 28, 29] all.length (fun kq v10 v11 v12 v24 v28 v29 w' => ∃ (i : Int) (s : List Int), v24 = .int .i64 i ∧ Aside0 (0 ≤ i ∧ i ≤ all.length) ∧ Aside0 (kq = all.length - i.toNat) ∧ Aside0 (((all.drop i.toNat).map key_spread.toL).foldl key_Greatest.up s = F) ∧ Aside0 (s.length = 6) ∧ Aside0 (w'.heap[g8]? = some (.cells (ar s) 70 (0, 0))) ∧ Aside0 (Below w2.heap.size w2 w'))
  case atStart => exact ⟨0, [0, 0, 0, 0, 0, 0], rfl, ⟨by omega, by omega⟩, ⟨rfl⟩, HF0, ⟨rfl⟩, ⟨by repeat (first | (with_reducible exact G8.out) | (with_reducible refine blk_drewN ?_ _) | (with_reducible refine blk_drew ?_))⟩, ⟨by repeat (first | (with_reducible exact HB4.out) | apply pw_below_drewN | apply below_drew1)⟩⟩
  case round =>
   clear HF0 G8 HB4
   obtain ⟨i, s, rfl, HI, HK, HF, HL, G8, HB⟩ := hrel
   by_cases hlt : i < (all.length : Int)
   ·
    have p1 : 0 ≤ i := HI.out.1
    have hf := HF.out
    rw [key_Greatest.drop p1 hlt, List.map_cons, List.foldl_cons] at hf
    obtain ⟨ad, e1, hx0, hx1, hx2, hx3, hx4, hx5⟩ := at_T70 HC4.out i p1 hlt
    cases e1
    obtain ⟨y, hy⟩ : ∃ y, y = rd_T70 all i := ⟨_, rfl⟩
    rw [← hy] at hx0 hx1 hx2 hx3 hx4 hx5 hf
    have HFY := Aside0.mk hf
    clear hy hf
    replace hx0 := (HB.out.cell (World.block_lt_of_cell? w2 _ hx0)).trans hx0
    replace hx1 := (HB.out.cell (World.block_lt_of_cell? w2 _ hx1)).trans hx1
    replace hx2 := (HB.out.cell (World.block_lt_of_cell? w2 _ hx2)).trans hx2
    replace hx3 := (HB.out.cell (World.block_lt_of_cell? w2 _ hx3)).trans hx3
    replace hx4 := (HB.out.cell (World.block_lt_of_cell? w2 _ hx4)).trans hx4
    replace hx5 := (HB.out.cell (World.block_lt_of_cell? w2 _ hx5)).trans hx5
    have g1 := eq_true p1
    have g2 := eq_true hlt
    clear p1 hlt
    go_wp2_with ((with_reducible refine gate_dst (N := 10) rfl ?_); refine box_event ?hg (N := 10) ?hd (cs := #[.int .i64 0, .int .i64 0, .int .i64 0, .int .i64 0, .int .i64 0, .int .i64 0]) (t := 70) ?hr ?_; (case hd => rfl); (case hg => rfl); (case hr => first | (go_simp; done) | (go_simp; rfl)); intro g10 hg w5 hbox hb; have HG10 : Aside0 (w2.heap.size ≤ g10) := ⟨by rw [hg]; exact HB.out.size⟩; have HNE : Aside0 (g8 ≠ g10) := ⟨by have := blk_lt G8.out; rw [hg]; exact Nat.ne_of_lt this⟩; have G8w : Aside0 (w5.heap[g8]? = some (.cells (ar s) 70 (0, 0))) := ⟨blk_below (by repeat (first | (with_reducible exact G8.out) | (with_reducible refine blk_drewN ?_ _) | (with_reducible refine blk_drew ?_))) hb⟩; have HB5 : Aside0 (Below w2.heap.size w2 w5) := ⟨below_step (by repeat (first | (with_reducible exact HB.out) | apply pw_below_drewN | apply below_drew1)) hb⟩; obtain ⟨hcz0, hcz1, hcz2, hcz3, hcz4, hcz5⟩ := bc6 hbox; obtain ⟨hfz0, hfz1, hfz2, hfz3, hfz4, hfz5⟩ := bf6 hbox; clear hb hbox hg)
    go_loopg [11, 12, 29] 6 (fun kq v11 v12 v29 w' => ∃ (j : Int) (t : List Int), v29 = .int .i64 j ∧ Aside0 (0 ≤ j ∧ j ≤ 6) ∧ Aside0 (kq = 6 - j.toNat) ∧ Aside0 (key_Greatest.upFrom j t (key_spread.toL y) = key_Greatest.up s (key_spread.toL y)) ∧ Aside0 (t.length = 6) ∧ Aside0 (w'.heap[g8]? = some (.cells (ar t) 70 (0, 0))) ∧ Aside0 (Below w2.heap.size w2 w'))
    case atStart => exact ⟨0, s, rfl, ⟨by omega, by omega⟩, ⟨rfl⟩, ⟨rfl⟩, HL, ⟨by repeat (first | (with_reducible exact G8w.out) | (with_reducible refine blk_drewN ?_ _) | (with_reducible refine blk_drew ?_) | refine blk_far ?_ HNE.out _)⟩, ⟨by repeat (first | (with_reducible exact HB5.out) | apply pw_below_drewN | apply below_drew1 | refine below_set ?_ HG10.out)⟩⟩
    case round =>
     clear G8w HB5 hcz0 hcz1 hcz2 hcz3 hcz4 hcz5 hfz0 hfz1 hfz2 hfz3 hfz4 hfz5 hx0 hx1 hx2 hx3 hx4 hx5 G8 HB
     obtain ⟨j, t, rfl, HJ, HKJ, HU, HT, G8, HB⟩ := hrel
     by_cases hj : j < 6
     ·
      have q1 : 0 ≤ j := HJ.out.1
      have c8 := blkc G8.out j.toNat (.int .i64 (rd t j)) (ar_get t j q1 (by rw [HT.out]; omega))
      have f8 := blk_frozen G8.out j.toNat
      have c3 : ∀ W, (Instr.index 70 (.agg #[.int .i64 y.f0, .int .i64 y.f1, .int .i64 y.f2, .int .i64 y.f3, .int .i64 y.f4, .int .i64 y.f5]) (.int .i64 j)).run Try.prog W = .ok (.int .i64 (rd (key_spread.toL y) j)) W := fun W => index_ar hu2.out (fun _ => by kernel_rfl) (fun _ => by kernel_rfl) (key_spread.toL y) j q1 hj rfl W
      have b0 := eq_true q1
      have b1 := eq_true hj
      clear q1 hj
      go_wp2
      all_goals
       go_roundg (6 - (j + 1).toNat)
       case measure => have := of_eq_true b1; have := HKJ.out; have := HJ.out; omega
       case rel =>
        have p1 := of_eq_true b0
        have p2 := of_eq_true b1
        have hw : wrap64 (j + 1) = j + 1 := by unfold wrap64; omega
        refine ⟨j + 1, t.set j.toNat (max (rd t j) (rd (key_spread.toL y) j)), by first | rfl | rw [hw], ⟨by omega, by omega⟩, ⟨rfl⟩, ⟨by rw [key_Greatest.upFrom_step p1 p2 HT.out (key_Greatest.toL_len y)]; exact HU.out⟩, ⟨by rw [List.length_set]; exact HT.out⟩, ⟨?_⟩, ⟨by repeat (first | (with_reducible exact HB.out) | apply pw_below_drewN | apply below_drew1 | refine below_set ?_ HG8.out)⟩⟩
        refine blk_put (by repeat (first | (with_reducible exact G8.out) | (with_reducible refine blk_drewN ?_ _) | (with_reducible refine blk_drew ?_))) j.toNat _ ?_
        first
         | exact ar_set t j.toNat (max (rd t j) (rd (key_spread.toL y) j))
         | (refine (ar_set t j.toNat _).trans ?_; congr 2; unfold mx; rw [Int.max_def]; split <;> split <;> omega)
         | (refine (ar_set t j.toNat _).trans ?_; congr 2; omega)
     ·
      have h1 : decide (j < 6) = false := decide_eq_false hj
      have hj6 : j = 6 := by have := HJ.out; omega
      subst hj6
      have hu6 := HU.out
      rw [key_Greatest.upFrom_end HT.out (key_Greatest.toL_len y)] at hu6
      have HFU : Aside0 (((all.drop (i + 1).toNat).map key_spread.toL).foldl key_Greatest.up t = F) := ⟨by rw [hu6]; exact HFY.out⟩
      clear hu6 hj
      go_wp2
      go_roundg (all.length - (i + 1).toNat)
      case measure => have := of_eq_true g2; have := HK.out; have := HI.out; omega
      case rel =>
       have := of_eq_true g2
       have hw : wrap64 (i + 1) = i + 1 := by unfold wrap64; have := HI.out; have := HLEN.out; omega
       exact ⟨i + 1, t, by first | rfl | rw [hw], ⟨by have := HI.out; omega, by omega⟩, ⟨rfl⟩, HFU, HT, ⟨by repeat (first | (with_reducible exact G8.out) | (with_reducible refine blk_drewN ?_ _) | (with_reducible refine blk_drew ?_))⟩, ⟨by repeat (first | (with_reducible exact HB.out) | apply pw_below_drewN | apply below_drew1)⟩⟩
   ·
    have h1 : decide (i < (all.length : Int)) = false := decide_eq_false hlt
    have hf := HF.out
    rw [List.drop_eq_nil_of_le (by have := HI.out; omega)] at hf
    have hs : s = F := hf
    subst hs
    obtain ⟨y0, y1, y2, y3, y4, y5, rfl⟩ := six_of HL.out
    have hg : wr.heap[g8]? = some (.cells #[.int .i64 y0, .int .i64 y1, .int .i64 y2, .int .i64 y3, .int .i64 y4, .int .i64 y5] 70 (0, 0)) := G8.out
    obtain ⟨hcz0, hcz1, hcz2, hcz3, hcz4, hcz5⟩ := bc6 hg
    obtain ⟨hfz0, hfz1, hfz2, hfz3, hfz4, hfz5⟩ := bf6 hg
    have k0 := blkc (blk_below G2.out HB.out) 0 (.int .i64 a0_0) rfl
    have HLS : Aside0 (key_keys_list.f y0 y1 y2 y3 y4 y5 a0_0 = some r1) := ⟨by unfold key_keys_list.f; rw [if_pos HN.out, HRES.out]⟩
    clear hf hg hlt
    go_wp2_with (go_at_call 55; refine (key_keys_list.calls y0 y1 y2 y3 y4 y5 a0_0 r1 _ HLS.out).mono ?_; rintro e' w9 ⟨v9, rfl, ho, hb⟩; have HO9 := Aside0.mk ho; have HB9 := Aside0.mk hb; clear ho hb)
    go_ret2
    exact ⟨_, rfl, Kd.R_lower HO9.out (Nat.le_trans HB2.out.size HB.out.size), below_step HB2.out (below_step HB.out HB9.out)⟩
 ·
  rw [if_neg hz] at h
  simp only [Option.some.injEq, Prod.mk.injEq] at h
  obtain ⟨rfl, rfl⟩ := h
  have hne : (e != 0) = true := by simpa using hz
  clear hz
  go_enter Try.func17, Try.ntmps17
  go_wp2_with (first | (go_at_call 53; rw [← HW.out]; refine (key_reach.calls a0_0 A0_1 c0_1 l0_1 A1 c1 l1 all e _ (Kd.C_below HR.out HB1.out) HC.out (Kd.C_below HR1.out HB1.out) HC1.out HRE.out).mono ?_; rintro e' w2 ⟨v2, rfl, ho, hb⟩; have HB2 := Aside0.mk (below_step HB1.out hb); clear ho hb))
  go_ret2
  exact ⟨_, rfl, Kd.R_nil _ _ _ _ _, HB2.out⟩

end Go.Proofs.Ytgdfakmlpdeabaa.XKey
/- append(s, x...) where s has no room: a new row, whose elements share (N). -/
namespace Go.Proofs.YtgdfakmlpdeabaaW.PrintWords
open Go.RowKit
namespace Kd
set_option linter.unusedVariables false
theorem raw_cells {W : World} {A : Option Addr} {m : Nat} {rows : List (List Value)} (h : ReadsRow (fun x cs => cs = x ∧ cs.length = 1 ∧ ∀ u ∈ cs, u.oneCell' = true) 1 W A m rows) :
  (∀ (j : Nat) (c : List Value), rows[j]? = some c → c = [c.headD undef] ∧ (c.headD undef).oneCell' = true) ∧ ∀ b, A = some b → ∀ (j : Nat) (u : Value), (rows.map fun c => c.headD undef)[j]? = some u → W.cell? (b.add j) = some u := by
 have key : ∀ (j : Nat) (c : List Value), rows[j]? = some c → ∃ ad, A = some ad ∧ c = [c.headD undef] ∧ (c.headD undef).oneCell' = true ∧ W.cell? (ad.add j) = some (c.headD undef) := by
  intro j c hj
  have hjl := (List.getElem?_eq_some_iff.1 hj).1
  obtain ⟨ad, he, hc⟩ := h.2.2 (by have := h.1; omega)
  obtain ⟨cs, hl, ⟨h1, h2, h3⟩, h4⟩ := hc j c hj
  subst h1
  match cs, h2, h3, h4 with
  | [u], _, h3, h4 => exact ⟨ad, he, rfl, h3 u (by simp), by have := h4 0 u rfl; simpa using this⟩
 refine ⟨fun j c hj => ?_, fun b hb j u hu => ?_⟩
 ·
  obtain ⟨ad, _, h1, h2, _⟩ := key j c hj
  exact ⟨h1, h2⟩
 ·
  rw [List.getElem?_map] at hu
  cases hj : rows[j]? with
  | none => rw [hj] at hu; cases hu
  | some c =>
   rw [hj] at hu
   obtain ⟨ad, he, _, _, h3⟩ := key j c hj
   rw [hb] at he
   injection he with he
   injection hu with hu
   rw [← hu, he]
   exact h3
section
variable {α : Type} {P : Program} {ops : Array Oper} {o : Oper} {a : Act} {W : World} {Kc : Act → World → Prop} {Q : Exit → Act → World → Prop} {E : Prop}
theorem N_head {d : Kd α} {e base n c : Nat} {ok : Nat → Prop} {ad : Addr} {xs : List α} (h : N d e W base ok (.slice (some ad) n c) xs) : ∃ g, ad = ⟨g, 0, none⟩ := by
 obtain ⟨_, rows, _, hR, _⟩ := h
 exact R_head hR
theorem N_nil_of {d : Kd α} {e base n c : Nat} {ok : Nat → Prop} {xs : List α} (h : N d e W base ok (.slice none n c) xs) : xs = [] ∧ c = 0 := by
 obtain ⟨_, rows, hl, hR, _⟩ := h
 obtain ⟨_, inner, ho, _⟩ := hR
 rcases ho.2 with ⟨hv, h0⟩ | ⟨g, cap, cur, hv, _⟩
 ·
  injection hv with _ _ hc
  have h0 : rows.length = 0 := h0
  exact ⟨List.eq_nil_of_length_eq_zero (by omega), hc⟩
 ·
  injection hv with hv _ _
  cases hv
theorem N_keeps_cell {d : Kd α} {e base n c : Nat} {ok : Nat → Prop} {ad : Addr} {xs : List α} {w1 : World} {row : Option Nat} (h : N d e W base ok (.slice (some ad) n c) xs) (hok : ∀ k, ok k → some k ≠ row) (hg : W.grownBy w1 row) {j : Nat} {u : Value} (hc : W.cell? (ad.add j) = some u) : w1.cell? (ad.add j) = some u := by
 obtain ⟨g, rfl⟩ := N_head h
 have hb := hg.block g (N_lt h g rfl) (hok g (h.1 g rfl))
 have h7 : w1.cell? ((⟨g, 0, none⟩ : Addr).add j) = W.cell? ((⟨g, 0, none⟩ : Addr).add j) := by simp [World.cell?, add_block, hb]
 rw [h7]
 exact hc
theorem N_grows_step (d : Kd α) (h1 : d.sz = 1) (hgd : o.guard = none) (s x : Operand) (t e : TypeId) (z : Value) (bytes : Nat)
  (ho : o.op = .call { callee := .builtin .append, args := #[s, x], argTypes := #[t, t] })
  (ht : P.underlying t = some (.slice e)) (hinfo : (P.info? e).map (fun i => (i.zero, i.size, i.bytes)) = some (some z, 1, bytes)) (hz : z.cells.size = 1)
  (A : Option Addr) (k : Nat) (hA : A = none → k = 0) (xs : List α) (ad : Addr) (m c : Nat) (ys : List α) (ok okp : Nat → Prop)
  (hs : a.eval s = .slice A k k) (hx : a.eval x = .slice (some ad) m c) (HX : F d W okp A k xs) (HY : F d W okp (some ad) m ys) (hm : 0 < m)
  (hokp : ∀ k, okp k → ok k) (hfresh : ∀ k, W.heap.size ≤ k → ok k) (hl1 : k + m ≤ maxLen) (hl2 : (k + m) * bytes ≤ 140737488355328)
  (h : ∀ v1 w1, N d e w1 W.heap.size ok v1 (xs ++ ys) → W.grownBy w1 none → Kc (a.put o.dst v1) w1) :
  if Region.wanted o (yielded ops a.tmps) = true then Oper.wp P o a W Kc Q else E := by
 obtain ⟨i0, hi, hzz⟩ := Option.map_eq_some_iff.1 hinfo
 simp only [Prod.mk.injEq] at hzz
 obtain ⟨hz0, hz1, hz2⟩ := hzz
 obtain ⟨rx, hxl, hxr, hxf⟩ := reads_raw (F_rows HX) (fun y c hk => ⟨d.K_len (FK_now hk), d.K_one (FK_now hk)⟩)
 obtain ⟨ry, hyl, hyr, hyf⟩ := reads_raw (F_rows HY) (fun y c hk => ⟨d.K_len (FK_now hk), d.K_one (FK_now hk)⟩)
 rw [h1] at hxr hyr
 obtain ⟨cx1, cx2⟩ := raw_cells hxr
 obtain ⟨cy1, cy2⟩ := raw_cells hyr
 have lx : rx.length = k := hxr.1
 have ly : ry.length = m := hyr.1
 refine step_append_grows hgd s x t ho e i0 z 1 bytes ht hi hz0 hz1 hz2 hz (by omega) A k k (rx.map fun c => c.headD undef) hs (fun hn => ⟨hA hn, hA hn⟩) (by simp [lx]) cx2 ad m c (ry.map fun c => c.headD undef) hx (by simp [ly]) (fun j u hu => cy2 ad rfl j u hu) (fun u hu => ?_) (by omega) hl1 hl2 ?_
 ·
  obtain ⟨c, hc, rfl⟩ := List.mem_map.1 hu
  obtain ⟨j, hj, rfl⟩ := List.getElem_of_mem hc
  exact (cy1 j _ (List.getElem?_eq_getElem hj)).2
 ·
  intro v' w' hown hg
  refine h v' w' ?_ hg
  have hrow : ∀ (j : Nat) (c : List Value), (rx ++ ry)[j]? = some c → c = [c.headD undef] ∧ (c.headD undef).oneCell' = true := by
   intro j c hj
   rcases Nat.lt_or_ge j rx.length with hlt | hge
   ·
    rw [List.getElem?_append_left hlt] at hj; exact cx1 j c hj
   ·
    rw [List.getElem?_append_right hge] at hj; exact cy1 _ c hj
  have hf : ∀ (j : Nat) (x : α) (c : List Value), (xs ++ ys)[j]? = some x → (rx ++ ry)[j]? = some c → FK d W okp x c := by
   intro j x c hx hc
   rcases Nat.lt_or_ge j xs.length with hlt | hge
   ·
    rw [List.getElem?_append_left hlt] at hx
    rw [List.getElem?_append_left (by omega)] at hc
    exact hxf j x c hx hc
   ·
    rw [List.getElem?_append_right hge] at hx
    rw [List.getElem?_append_right (by omega), hxl] at hc
    exact hyf _ x c hx hc
  have hb := own_base hown
  refine ⟨fun k hk => hfresh k (hb k hk), rx ++ ry, by rw [List.length_append, List.length_append, hxl, hyl], ⟨fun k hk => hk.symm, (rx ++ ry).map (fun c => c.headD undef), ?_, ?_⟩, fun j x c hx hc => ?_⟩
  ·
   rw [h1, List.map_append, List.length_append, lx, ly]; exact hown
  ·
   rw [show (raw d.sz).sz = 1 from h1]
   refine ⟨by simp, fun j p hj => ?_⟩
   have hjl := (List.getElem?_eq_some_iff.1 hj).1
   obtain ⟨e1, e2⟩ := hrow j p hj
   have e3 : (((rx ++ ry).map (fun c => c.headD undef)).drop (j * 1)).take 1 = [p.headD undef] := by
    rw [Nat.mul_one, List.drop_eq_getElem_cons (by simpa using hjl)]
    have e4 : (rx ++ ry)[j] = p := (List.getElem?_eq_some_iff.1 hj).2
    simp only [List.getElem_map, e4, List.take_succ_cons, List.take_zero]
   refine ⟨by rw [e3, ← e1], by rw [e3, h1]; rfl, fun u hu => ?_⟩
   rw [e3, List.mem_singleton] at hu
   rw [hu]; exact e2
  ·
   refine FK_mono (FK_step (FK_bound (hf j x c hx hc)) (fun k hk hlt => hg.block k hlt (by simp))) (fun k hk => ⟨hokp k hk.1, fun he => ?_⟩)
   have := hb k he.symm
   have := hk.2
   omega
end
end Kd
end Go.Proofs.YtgdfakmlpdeabaaW.PrintWords

namespace Go.Proofs.Ytgdfakmlpdeabaa.XKey
open Go.RowKit Go.Proofs.YtgdfakmlpdeabaaW.PrintWords Go.Proofs.YtgdfakmlpdeabaaW.PrintLast Go.Proofs.YtgdfakmlpdeabaaW.PrintMore
attribute [local go_sem] max2_int min2_int max_two min_two max_three min_three max_four min_four   -- for this text's walks alone
set_option linter.unusedVariables false
set_option linter.unusedSimpArgs false
/-! ### dropperref06_from: function 51 -/
def dropperref06_from.f (a0 : Int) (a1 : Int) (a2 : Int) : Option (Bool) := if a0 ≤ a1 then (some (decide (a1 ≤ a2))) else (some false)
set_option maxHeartbeats 8000000 in
set_option maxRecDepth 100000 in
theorem dropperref06_from.calls (a0 : Int) (a1 : Int) (a2 : Int) (r : Bool) (w : World) (h : dropperref06_from.f a0 a1 a2 = some r) :
  Calls Try.prog 51 #[.int .i64 a0, .int .i64 a1, .int .i64 a2] w fun e w' => e = .returned (.bool r) ∧ Drawn0 w w' := by
 have H : (if a0 ≤ a1 then (some (decide (a1 ≤ a2))) else (some false)) = some r := h
 clear h
 by_cases c4 : a0 ≤ a1
 ·
  rw [if_pos c4] at H
  have c4b0 : decide (a0 ≤ a1) = true := decide_eq_true c4
  clear c4
  obtain rfl := Option.some.inj H
  go_enter Try.func51, Try.ntmps51
  go_wp2
  go_ret
  exact ⟨by first | rfl | (simp; done) | (simp [*]; done), drz⟩
 ·
  rw [if_neg c4] at H
  have c4b0 : decide (a0 ≤ a1) = false := decide_eq_false c4
  clear c4
  obtain rfl := Option.some.inj H
  go_enter Try.func51, Try.ntmps51
  go_wp2
  go_ret
  exact ⟨by first | rfl | (simp; done) | (simp [*]; done), drz⟩

/-! ### dropperref06_list: function 52 -/
def dropperref06_list.l0 : Nat → List Int → Int → Int → Int → Int → Option (Bool)
 | 0, _, _, _, _, _ => none
 | k + 1, x0, x1, x2, x3, x9 => if x9 < (x0.length : Int) then (if 0 ≤ x9 then ((dropperref06_from.f x2 (rd x0 x9) x3).bind fun t222 => (if t222 = true then (dropperref06_list.l0 k x0 x1 x2 x3 (wrap64 (x9 + 1))) else (some false))) else (none)) else (some ((x0.length : Int) == x1))
def dropperref06_list.f (k : Nat) (l0 : List Int) (a1 : Int) (a2 : Int) (a3 : Int) : Option (Bool) := dropperref06_list.l0 k l0 a1 a2 a3 0
set_option maxHeartbeats 8000000 in
set_option maxRecDepth 100000 in
theorem dropperref06_list.calls (k : Nat) (A0 : Option Addr) (c0 : Nat) (l0 : List Int) (a1 : Int) (a2 : Int) (a3 : Int) (r : Bool) (w : World) (hr0 : Kd.C (Kd.int .i64) w A0 l0.length l0) (hc0 : l0.length ≤ c0) (h : dropperref06_list.f k l0 a1 a2 a3 = some r) :
  Calls Try.prog 52 #[.slice A0 l0.length c0, .int .i64 a1, .int .i64 a2, .int .i64 a3] w fun e w' => e = .returned (.bool r) ∧ Drawn0 w w' := by
 have HR0 := Aside0.mk hr0
 have HC0 := Aside0.mk hc0
 clear hr0 hc0
 have H : (dropperref06_list.l0 k l0 a1 a2 a3 0) = some r := h
 clear h
 have H' := Aside0.mk H
 clear H
 go_enter Try.func52, Try.ntmps52
 go_wp2
 go_loopg [9] k (fun kq v9 w' => ∃ (x9_1 : Int), v9 = .int .i64 x9_1 ∧ Aside0 (dropperref06_list.l0 kq l0 a1 a2 a3 x9_1 = some r) ∧ Aside0 (kq ≤ k) ∧ Drawn0 w w')
 case atStart => exact ⟨(0), rsz, H', ⟨Nat.le_refl _⟩, drz⟩
 case round =>
  clear H'
  try clear p2
  obtain ⟨x9_1, rfl, HA, HK1, ⟨m1, rfl⟩⟩ := hrel
  cases gk with
  | zero => exact absurd HA.out (by simp [dropperref06_list.l0])
  | succ k1 =>
   have H := HA.out
   clear HA
   simp only [dropperref06_list.l0] at H
   by_cases c5 : x9_1 < (l0.length : Int)
   ·
    rw [if_pos c5] at H
    have c5b0 : decide (x9_1 < (l0.length : Int)) = true := decide_eq_true c5
    clear c5
    by_cases c6 : 0 ≤ x9_1
    ·
     rw [if_pos c6] at H
     have c6b0 : decide (0 ≤ x9_1) = true := decide_eq_true c6
     clear c6
     replace H := Option.bind_eq_some_iff.mp H
     obtain ⟨t222, A70, H⟩ := H
     try dsimp only at H
     have A7 := Aside0.mk A70
     clear A70
     by_cases c8 : t222 = true
     ·
      subst c8
      rw [if_pos rfl] at H
      have H' := Aside0.mk H
      clear H
      have p221 : 0 ≤ (x9_1 : Int) := of_decide_eq_true asz
      have q221 : x9_1 < (l0.length : Int) := of_decide_eq_true asz
      obtain ⟨ad221, e221, hx221_0⟩ := Kd.at_int HR0.out x9_1 p221 q221
      cases e221
      replace p221 := eq_true p221
      replace q221 := eq_true q221
      go_wp2_with (first | ((with_reducible refine gate_callee (f := 51) rfl ?_); refine goesL_ (some 22) rfl rfl Try.func51 (by kernel_rfl) rfl #[.int .i64 a2, .int .i64 (rd l0 x9_1), .int .i64 a3] rfl mapz ?_; (with_reducible refine (dropperref06_from.calls a2 (rd l0 x9_1) a3 true _ A7.out).mono ?_); rintro e w' ⟨rfl, ⟨nd, rfl⟩⟩; refine ⟨_, rfl, ?_⟩))
      go_roundg k1
      case measure => have := HK1.out; omega
      case rel => exact ⟨(wrap64 (x9_1 + 1)), rsz, H', ⟨by have := HK1.out; omega⟩, drz⟩
     ·
      replace c8 := Bool.eq_false_iff.mpr c8
      subst c8
      rw [if_neg (show ¬ (false = true) by decide)] at H
      obtain rfl := Option.some.inj H
      have p221 : 0 ≤ (x9_1 : Int) := of_decide_eq_true asz
      have q221 : x9_1 < (l0.length : Int) := of_decide_eq_true asz
      obtain ⟨ad221, e221, hx221_0⟩ := Kd.at_int HR0.out x9_1 p221 q221
      cases e221
      replace p221 := eq_true p221
      replace q221 := eq_true q221
      go_wp2_with (first | ((with_reducible refine gate_callee (f := 51) rfl ?_); refine goesL_ (some 22) rfl rfl Try.func51 (by kernel_rfl) rfl #[.int .i64 a2, .int .i64 (rd l0 x9_1), .int .i64 a3] rfl mapz ?_; (with_reducible refine (dropperref06_from.calls a2 (rd l0 x9_1) a3 false _ A7.out).mono ?_); rintro e w' ⟨rfl, ⟨nd, rfl⟩⟩; refine ⟨_, rfl, ?_⟩))
      go_ret
      exact ⟨by first | rfl | (simp; done) | (simp [*]; done), drz⟩
    ·
     rw [if_neg c6] at H
     exact absurd H (by simp)
   ·
    rw [if_neg c5] at H
    have c5b0 : decide (x9_1 < (l0.length : Int)) = false := decide_eq_false c5
    clear c5
    obtain rfl := Option.some.inj H
    go_wp2
    go_ret
    exact ⟨by first | rfl | (simp; done) | (simp [*]; done), drz⟩

/-! ### dropperref06_Valid: function 12 -/
mutual
def dropperref06_Valid.j0 : Nat → Bool → Int → List (S64) → Option (Bool)
 | 0, _, _, _ => none
 | k + 1, x13, x224000, x224001 => if x13 = true then (some false) else (dropperref06_Valid.l0 k 0 x224000 x224001)
def dropperref06_Valid.l0 : Nat → Int → Int → List (S64) → Option (Bool)
 | 0, _, _, _ => none
 | k + 1, x3, x224000, x224001 => if x3 < (x224001.length : Int) then (if 0 ≤ x3 then ((dropperref06_list.f k ((rd_T64 x224001 x3).f0) x224000 0 3).bind fun t226 => (if t226 = true then ((dropperref06_list.f k ((rd_T64 x224001 x3).f1) x224000 0 3).bind fun t228 => (if t228 = true then (dropperref06_Valid.l0 k (wrap64 (x3 + 1)) x224000 x224001) else (some false))) else (some false))) else (none)) else (some true)
end
def dropperref06_Valid.f (k : Nat) (a0_0 : Int) (l0_1 : List (S64)) : Option (Bool) := (dropperref06_from.f 1 a0_0 6).bind fun t224 => (if t224 = true then (dropperref06_Valid.j0 k (decide ((l0_1.length : Int) > 8)) a0_0 l0_1) else (dropperref06_Valid.j0 k true a0_0 l0_1))
set_option maxHeartbeats 8000000 in
set_option maxRecDepth 100000 in
theorem dropperref06_Valid.calls (k : Nat) (a0_0 : Int) (A0_1 : Option Addr) (c0_1 : Nat) (l0_1 : List (S64)) (r : Bool) (w : World) (hr0_1 : Kd.C k64 w A0_1 l0_1.length l0_1) (hc0_1 : l0_1.length ≤ c0_1) (h : dropperref06_Valid.f k a0_0 l0_1 = some r) :
  Calls Try.prog 12 #[.agg #[.int .i64 a0_0, .slice A0_1 l0_1.length c0_1]] w fun e w' => e = .returned (.bool r) ∧ Below w.heap.size w w' := by
 have hu24 := Try.underlying24
 have HR0_1 := Aside0.mk hr0_1
 have HC0_1 := Aside0.mk hc0_1
 clear hr0_1 hc0_1
 have HB := Aside0.mk (Below.refl w.heap.size w)
 have H : ((dropperref06_from.f 1 a0_0 6).bind fun t224 => (if t224 = true then (dropperref06_Valid.j0 k (decide ((l0_1.length : Int) > 8)) a0_0 l0_1) else (dropperref06_Valid.j0 k true a0_0 l0_1))) = some r := h
 clear h
 have HC2 := Aside0.mk H
 clear H
 go_enter Try.func12, Try.ntmps12
 go_upto_region 1 with (first | ((with_reducible refine gate_dst (N := 1) rfl ?_); (try (refine gate_guard (by rfl) ?_; dsimp only)); refine box_event ?hg (N := 1) ?hd (cs := #[.int .i64 a0_0, .slice A0_1 l0_1.length c0_1]) (t := 24) ?hr ?_; (case hd => rfl); (case hg => rfl); (case hr => first | (go_simp; done) | (go_simp; rfl)); intro gb223 hg w3 hbox hb; have BK223 := Aside0.mk (hbox); have GW223 := bsz (w := w) hg; have GE223 := GW223; replace HB := Aside0.mk (below_step bel hb); clear hb hbox hg))
 repeat (go_quiet (first | ((with_reducible refine gate_dst (N := 1) rfl ?_); (try (refine gate_guard (by rfl) ?_; dsimp only)); refine box_event ?hg (N := 1) ?hd (cs := #[.int .i64 a0_0, .slice A0_1 l0_1.length c0_1]) (t := 24) ?hr ?_; (case hd => rfl); (case hg => rfl); (case hr => first | (go_simp; done) | (go_simp; rfl)); intro gb223 hg w3 hbox hb; have BK223 := Aside0.mk (hbox); have GW223 := bsz (w := w) hg; have GE223 := GW223; replace HB := Aside0.mk (below_step bel hb); clear hb hbox hg)); go_upto_region 1 with (first | ((with_reducible refine gate_dst (N := 1) rfl ?_); (try (refine gate_guard (by rfl) ?_; dsimp only)); refine box_event ?hg (N := 1) ?hd (cs := #[.int .i64 a0_0, .slice A0_1 l0_1.length c0_1]) (t := 24) ?hr ?_; (case hd => rfl); (case hg => rfl); (case hr => first | (go_simp; done) | (go_simp; rfl)); intro gb223 hg w3 hbox hb; have BK223 := Aside0.mk (hbox); have GW223 := bsz (w := w) hg; have GE223 := GW223; replace HB := Aside0.mk (below_step bel hb); clear hb hbox hg)))
 (try simp only [Act.put, List.setIfInBounds_toArray, List.set_cons_zero, List.set_cons_succ])
 go_cut [13] (fun v13 wc => ∃ (kq : Nat) (x13_1 : Bool), v13 = .bool x13_1 ∧ Aside0 (dropperref06_Valid.j0 kq x13_1 a0_0 l0_1 = some r) ∧ Aside0 (kq ≤ k) ∧ Aside0 (wc.heap[gb223]? = some (.cells #[.int .i64 a0_0, (.slice A0_1 l0_1.length c0_1)] 24 (0, 0))) ∧ Aside0 (Below w.heap.size w wc))
 case first =>
  have H := HC2.out
  clear HC2
  replace H := Option.bind_eq_some_iff.mp H
  obtain ⟨t224, A40, H⟩ := H
  try dsimp only at H
  have A4 := Aside0.mk A40
  clear A40
  by_cases c5 : t224 = true
  ·
   subst c5
   rw [if_pos rfl] at H
   have H' := Aside0.mk H
   clear H
   obtain ⟨hcz6_0, hcz6_1⟩ := bc2 BK223.out
   obtain ⟨hfz6_0, hfz6_1⟩ := bf2 BK223.out
   go_wp2_with (first | (go_at_call 51; (with_reducible refine (dropperref06_from.calls 1 a0_0 6 true _ A4.out).mono ?_); rintro e w' ⟨rfl, ⟨nd, rfl⟩⟩; (try first | exact ⟨rfl, _, World.drewN_drewN _ _ _⟩ | exact ⟨rfl, _, Eq.trans (World.drewN_drewN _ _ _) (congrArg (World.drewN _) (Nat.add_assoc _ _ _))⟩)))
   repeat (go_quiet (first | (go_at_call 51; (with_reducible refine (dropperref06_from.calls 1 a0_0 6 true _ A4.out).mono ?_); rintro e w' ⟨rfl, ⟨nd, rfl⟩⟩; (try first | exact ⟨rfl, _, World.drewN_drewN _ _ _⟩ | exact ⟨rfl, _, Eq.trans (World.drewN_drewN _ _ _) (congrArg (World.drewN _) (Nat.add_assoc _ _ _))⟩))); try go_wp2_with (first | (go_at_call 51; (with_reducible refine (dropperref06_from.calls 1 a0_0 6 true _ A4.out).mono ?_); rintro e w' ⟨rfl, ⟨nd, rfl⟩⟩; (try first | exact ⟨rfl, _, World.drewN_drewN _ _ _⟩ | exact ⟨rfl, _, Eq.trans (World.drewN_drewN _ _ _) (congrArg (World.drewN _) (Nat.add_assoc _ _ _))⟩))))
   go_meet
   case rel => exact ⟨_, (decide ((l0_1.length : Int) > 8)), rsz, H', ⟨by first | omega | exact Nat.le_refl _⟩, ⟨blkz⟩, ⟨bel⟩⟩
  ·
   replace c5 := Bool.eq_false_iff.mpr c5
   subst c5
   rw [if_neg (show ¬ (false = true) by decide)] at H
   have H' := Aside0.mk H
   clear H
   obtain ⟨hcz7_0, hcz7_1⟩ := bc2 BK223.out
   obtain ⟨hfz7_0, hfz7_1⟩ := bf2 BK223.out
   go_wp2_with (first | (go_at_call 51; (with_reducible refine (dropperref06_from.calls 1 a0_0 6 false _ A4.out).mono ?_); rintro e w' ⟨rfl, ⟨nd, rfl⟩⟩; (try first | exact ⟨rfl, _, World.drewN_drewN _ _ _⟩ | exact ⟨rfl, _, Eq.trans (World.drewN_drewN _ _ _) (congrArg (World.drewN _) (Nat.add_assoc _ _ _))⟩)))
   repeat (go_quiet (first | (go_at_call 51; (with_reducible refine (dropperref06_from.calls 1 a0_0 6 false _ A4.out).mono ?_); rintro e w' ⟨rfl, ⟨nd, rfl⟩⟩; (try first | exact ⟨rfl, _, World.drewN_drewN _ _ _⟩ | exact ⟨rfl, _, Eq.trans (World.drewN_drewN _ _ _) (congrArg (World.drewN _) (Nat.add_assoc _ _ _))⟩))); try go_wp2_with (first | (go_at_call 51; (with_reducible refine (dropperref06_from.calls 1 a0_0 6 false _ A4.out).mono ?_); rintro e w' ⟨rfl, ⟨nd, rfl⟩⟩; (try first | exact ⟨rfl, _, World.drewN_drewN _ _ _⟩ | exact ⟨rfl, _, Eq.trans (World.drewN_drewN _ _ _) (congrArg (World.drewN _) (Nat.add_assoc _ _ _))⟩))))
   go_meet
   case rel => exact ⟨_, (true), rsz, H', ⟨by first | omega | exact Nat.le_refl _⟩, ⟨blkz⟩, ⟨bel⟩⟩
 case rest =>
  clear HC2
  (try clear c1); (try clear p2); (try clear c5); (try clear hcz6_0); (try clear hcz6_1); (try clear hcz7_0); (try clear hcz7_1); (try clear hfz6_0); (try clear hfz6_1); (try clear hfz7_0); (try clear hfz7_1)
  obtain ⟨kq, x13_1, rfl, HA, HJ1, BK223, HB⟩ := hcut
  cases kq with
  | zero => exact absurd HA.out (by simp [dropperref06_Valid.j0])
  | succ kj1 =>
   have H := HA.out
   clear HA
   simp only [dropperref06_Valid.j0] at H
   by_cases c8 : x13_1 = true
   ·
    subst c8
    rw [if_pos rfl] at H
    obtain rfl := Option.some.inj H
    go_wp2
    repeat (go_quiet (fail); try go_wp2)
    go_ret
    exact ⟨ezz, bel⟩
   ·
    replace c8 := Bool.eq_false_iff.mpr c8
    subst c8
    rw [if_neg (show ¬ (false = true) by decide)] at H
    have H' := Aside0.mk H
    clear H
    go_wp2
    repeat (go_quiet (fail); try go_wp2)
    go_loopg [3] kj1 (fun kq v3 w' => ∃ (x3_2 : Int), v3 = .int .i64 x3_2 ∧ Aside0 (dropperref06_Valid.l0 kq x3_2 a0_0 l0_1 = some r) ∧ Aside0 (kq ≤ kj1) ∧ Aside0 (w'.heap[gb223]? = some (.cells #[.int .i64 a0_0, (.slice A0_1 l0_1.length c0_1)] 24 (0, 0))) ∧ Aside0 (Below w.heap.size w w'))
    case atStart => exact ⟨(0), rsz, H', ⟨Nat.le_refl _⟩, ⟨blkz⟩, ⟨bel⟩⟩
    case round =>
     clear H'
     (try clear c1); (try clear p2); (try clear c5); (try clear c8); (try clear hcz6_0); (try clear hcz6_1); (try clear hcz7_0); (try clear hcz7_1); (try clear hfz6_0); (try clear hfz6_1); (try clear hfz7_0); (try clear hfz7_1); (try clear p2)
     obtain ⟨x3_2, rfl, HA, HK2, BK223, HB⟩ := hrel
     cases gk with
     | zero => exact absurd HA.out (by simp [dropperref06_Valid.l0])
     | succ k2 =>
      have H := HA.out
      clear HA
      simp only [dropperref06_Valid.l0] at H
      by_cases c9 : x3_2 < (l0_1.length : Int)
      ·
       rw [if_pos c9] at H
       have c9b0 : decide (x3_2 < (l0_1.length : Int)) = true := decide_eq_true c9
       clear c9
       by_cases c10 : 0 ≤ x3_2
       ·
        rw [if_pos c10] at H
        have c10b0 : decide (0 ≤ x3_2) = true := decide_eq_true c10
        clear c10
        replace H := Option.bind_eq_some_iff.mp H
        obtain ⟨t226, A110, H⟩ := H
        try dsimp only at H
        have A11 := Aside0.mk A110
        clear A110
        by_cases c12 : t226 = true
        ·
         subst c12
         rw [if_pos rfl] at H
         replace H := Option.bind_eq_some_iff.mp H
         obtain ⟨t228, A130, H⟩ := H
         try dsimp only at H
         have A13 := Aside0.mk A130
         clear A130
         by_cases c14 : t228 = true
         ·
          subst c14
          rw [if_pos rfl] at H
          have H' := Aside0.mk H
          clear H
          obtain ⟨hcz15_0, hcz15_1⟩ := bc2 BK223.out
          obtain ⟨hfz15_0, hfz15_1⟩ := bf2 BK223.out
          have p225 : 0 ≤ (x3_2 : Int) := of_decide_eq_true asz
          have q225 : x3_2 < (l0_1.length : Int) := of_decide_eq_true asz
          obtain ⟨ad225, A225_0, c225_0, A225_1, c225_1, e225, hx225_0, hx225_1, hl225_0, hi225_0, hl225_1, hi225_1⟩ := at_T64 HR0_1.out x3_2 p225 q225
          cases e225
          replace hx225_0 := (HB.out.cell (World.block_lt_of_cell? w _ hx225_0)).trans hx225_0
          replace hx225_1 := (HB.out.cell (World.block_lt_of_cell? w _ hx225_1)).trans hx225_1
          have HR225_0 := Aside0.mk hi225_0
          have HC225_0 := Aside0.mk hl225_0
          clear hi225_0 hl225_0
          have HR225_1 := Aside0.mk hi225_1
          have HC225_1 := Aside0.mk hl225_1
          clear hi225_1 hl225_1
          replace p225 := eq_true p225
          replace q225 := eq_true q225
          go_wp2_with (first | (go_at_call 52; (with_reducible refine (dropperref06_list.calls k2 _ _ ((rd_T64 l0_1 x3_2).f0) a0_0 0 3 true _ (cbz HR225_0) HC225_0.out A11.out).mono ?_); rintro e w' ⟨rfl, ⟨nd, rfl⟩⟩; (try first | exact ⟨rfl, _, World.drewN_drewN _ _ _⟩ | exact ⟨rfl, _, Eq.trans (World.drewN_drewN _ _ _) (congrArg (World.drewN _) (Nat.add_assoc _ _ _))⟩); have p227 : 0 ≤ (x3_2 : Int) := of_decide_eq_true asz; have q227 : x3_2 < (l0_1.length : Int) := of_decide_eq_true asz; obtain ⟨ad227, A227_0, c227_0, A227_1, c227_1, e227, hx227_0, hx227_1, hl227_0, hi227_0, hl227_1, hi227_1⟩ := at_T64 HR0_1.out x3_2 p227 q227; obtain rfl : ad225 = ad227 := (by injection e227); replace hx227_0 := (HB.out.cell (World.block_lt_of_cell? w _ hx227_0)).trans hx227_0; replace hx227_1 := (HB.out.cell (World.block_lt_of_cell? w _ hx227_1)).trans hx227_1; have HR227_0 := Aside0.mk hi227_0; have HC227_0 := Aside0.mk hl227_0; clear hi227_0 hl227_0; have HR227_1 := Aside0.mk hi227_1; have HC227_1 := Aside0.mk hl227_1; clear hi227_1 hl227_1; replace p227 := eq_true p227; replace q227 := eq_true q227; have ea_ := Option.some.inj (hx225_0.symm.trans hx227_0); injection ea_ with ea_ en_ ec_; subst ea_; subst ec_; clear en_; have ea_ := Option.some.inj (hx225_1.symm.trans hx227_1); injection ea_ with ea_ en_ ec_; subst ea_; subst ec_; clear en_) | (go_at_call 52; (with_reducible refine (dropperref06_list.calls k2 _ _ ((rd_T64 l0_1 x3_2).f1) a0_0 0 3 true _ ?side1 HC227_1.out A13.out).mono ?_); (case side1 => repeat (first | exact (Kd.C_below HR227_1.out bel) | (with_reducible refine Kd.C_alloc ?_ _) | (with_reducible refine Kd.C_drewN ?_ _) | (with_reducible refine Kd.C_drew ?_))); rintro e w' ⟨rfl, ⟨nd, rfl⟩⟩; (try first | exact ⟨rfl, _, World.drewN_drewN _ _ _⟩ | exact ⟨rfl, _, Eq.trans (World.drewN_drewN _ _ _) (congrArg (World.drewN _) (Nat.add_assoc _ _ _))⟩)))
          repeat (go_quiet (first | (go_at_call 52; (with_reducible refine (dropperref06_list.calls k2 _ _ ((rd_T64 l0_1 x3_2).f0) a0_0 0 3 true _ (cbz HR225_0) HC225_0.out A11.out).mono ?_); rintro e w' ⟨rfl, ⟨nd, rfl⟩⟩; (try first | exact ⟨rfl, _, World.drewN_drewN _ _ _⟩ | exact ⟨rfl, _, Eq.trans (World.drewN_drewN _ _ _) (congrArg (World.drewN _) (Nat.add_assoc _ _ _))⟩); have p227 : 0 ≤ (x3_2 : Int) := of_decide_eq_true asz; have q227 : x3_2 < (l0_1.length : Int) := of_decide_eq_true asz; obtain ⟨ad227, A227_0, c227_0, A227_1, c227_1, e227, hx227_0, hx227_1, hl227_0, hi227_0, hl227_1, hi227_1⟩ := at_T64 HR0_1.out x3_2 p227 q227; obtain rfl : ad225 = ad227 := (by injection e227); replace hx227_0 := (HB.out.cell (World.block_lt_of_cell? w _ hx227_0)).trans hx227_0; replace hx227_1 := (HB.out.cell (World.block_lt_of_cell? w _ hx227_1)).trans hx227_1; have HR227_0 := Aside0.mk hi227_0; have HC227_0 := Aside0.mk hl227_0; clear hi227_0 hl227_0; have HR227_1 := Aside0.mk hi227_1; have HC227_1 := Aside0.mk hl227_1; clear hi227_1 hl227_1; replace p227 := eq_true p227; replace q227 := eq_true q227; have ea_ := Option.some.inj (hx225_0.symm.trans hx227_0); injection ea_ with ea_ en_ ec_; subst ea_; subst ec_; clear en_; have ea_ := Option.some.inj (hx225_1.symm.trans hx227_1); injection ea_ with ea_ en_ ec_; subst ea_; subst ec_; clear en_) | (go_at_call 52; (with_reducible refine (dropperref06_list.calls k2 _ _ ((rd_T64 l0_1 x3_2).f1) a0_0 0 3 true _ ?side1 HC227_1.out A13.out).mono ?_); (case side1 => repeat (first | exact (Kd.C_below HR227_1.out bel) | (with_reducible refine Kd.C_alloc ?_ _) | (with_reducible refine Kd.C_drewN ?_ _) | (with_reducible refine Kd.C_drew ?_))); rintro e w' ⟨rfl, ⟨nd, rfl⟩⟩; (try first | exact ⟨rfl, _, World.drewN_drewN _ _ _⟩ | exact ⟨rfl, _, Eq.trans (World.drewN_drewN _ _ _) (congrArg (World.drewN _) (Nat.add_assoc _ _ _))⟩))); try go_wp2_with (first | (go_at_call 52; (with_reducible refine (dropperref06_list.calls k2 _ _ ((rd_T64 l0_1 x3_2).f0) a0_0 0 3 true _ (cbz HR225_0) HC225_0.out A11.out).mono ?_); rintro e w' ⟨rfl, ⟨nd, rfl⟩⟩; (try first | exact ⟨rfl, _, World.drewN_drewN _ _ _⟩ | exact ⟨rfl, _, Eq.trans (World.drewN_drewN _ _ _) (congrArg (World.drewN _) (Nat.add_assoc _ _ _))⟩); have p227 : 0 ≤ (x3_2 : Int) := of_decide_eq_true asz; have q227 : x3_2 < (l0_1.length : Int) := of_decide_eq_true asz; obtain ⟨ad227, A227_0, c227_0, A227_1, c227_1, e227, hx227_0, hx227_1, hl227_0, hi227_0, hl227_1, hi227_1⟩ := at_T64 HR0_1.out x3_2 p227 q227; obtain rfl : ad225 = ad227 := (by injection e227); replace hx227_0 := (HB.out.cell (World.block_lt_of_cell? w _ hx227_0)).trans hx227_0; replace hx227_1 := (HB.out.cell (World.block_lt_of_cell? w _ hx227_1)).trans hx227_1; have HR227_0 := Aside0.mk hi227_0; have HC227_0 := Aside0.mk hl227_0; clear hi227_0 hl227_0; have HR227_1 := Aside0.mk hi227_1; have HC227_1 := Aside0.mk hl227_1; clear hi227_1 hl227_1; replace p227 := eq_true p227; replace q227 := eq_true q227; have ea_ := Option.some.inj (hx225_0.symm.trans hx227_0); injection ea_ with ea_ en_ ec_; subst ea_; subst ec_; clear en_; have ea_ := Option.some.inj (hx225_1.symm.trans hx227_1); injection ea_ with ea_ en_ ec_; subst ea_; subst ec_; clear en_) | (go_at_call 52; (with_reducible refine (dropperref06_list.calls k2 _ _ ((rd_T64 l0_1 x3_2).f1) a0_0 0 3 true _ ?side1 HC227_1.out A13.out).mono ?_); (case side1 => repeat (first | exact (Kd.C_below HR227_1.out bel) | (with_reducible refine Kd.C_alloc ?_ _) | (with_reducible refine Kd.C_drewN ?_ _) | (with_reducible refine Kd.C_drew ?_))); rintro e w' ⟨rfl, ⟨nd, rfl⟩⟩; (try first | exact ⟨rfl, _, World.drewN_drewN _ _ _⟩ | exact ⟨rfl, _, Eq.trans (World.drewN_drewN _ _ _) (congrArg (World.drewN _) (Nat.add_assoc _ _ _))⟩))))
          go_roundg k2
          case measure => have := HJ1.out; have := HK2.out; omega
          case rel => exact ⟨(wrap64 (x3_2 + 1)), rsz, H', ⟨by have := HJ1.out; have := HK2.out; omega⟩, ⟨blkz⟩, ⟨bel⟩⟩
         ·
          replace c14 := Bool.eq_false_iff.mpr c14
          subst c14
          rw [if_neg (show ¬ (false = true) by decide)] at H
          obtain rfl := Option.some.inj H
          obtain ⟨hcz16_0, hcz16_1⟩ := bc2 BK223.out
          obtain ⟨hfz16_0, hfz16_1⟩ := bf2 BK223.out
          have p225 : 0 ≤ (x3_2 : Int) := of_decide_eq_true asz
          have q225 : x3_2 < (l0_1.length : Int) := of_decide_eq_true asz
          obtain ⟨ad225, A225_0, c225_0, A225_1, c225_1, e225, hx225_0, hx225_1, hl225_0, hi225_0, hl225_1, hi225_1⟩ := at_T64 HR0_1.out x3_2 p225 q225
          cases e225
          replace hx225_0 := (HB.out.cell (World.block_lt_of_cell? w _ hx225_0)).trans hx225_0
          replace hx225_1 := (HB.out.cell (World.block_lt_of_cell? w _ hx225_1)).trans hx225_1
          have HR225_0 := Aside0.mk hi225_0
          have HC225_0 := Aside0.mk hl225_0
          clear hi225_0 hl225_0
          have HR225_1 := Aside0.mk hi225_1
          have HC225_1 := Aside0.mk hl225_1
          clear hi225_1 hl225_1
          replace p225 := eq_true p225
          replace q225 := eq_true q225
          go_wp2_with (first | (go_at_call 52; (with_reducible refine (dropperref06_list.calls k2 _ _ ((rd_T64 l0_1 x3_2).f0) a0_0 0 3 true _ (cbz HR225_0) HC225_0.out A11.out).mono ?_); rintro e w' ⟨rfl, ⟨nd, rfl⟩⟩; (try first | exact ⟨rfl, _, World.drewN_drewN _ _ _⟩ | exact ⟨rfl, _, Eq.trans (World.drewN_drewN _ _ _) (congrArg (World.drewN _) (Nat.add_assoc _ _ _))⟩); have p227 : 0 ≤ (x3_2 : Int) := of_decide_eq_true asz; have q227 : x3_2 < (l0_1.length : Int) := of_decide_eq_true asz; obtain ⟨ad227, A227_0, c227_0, A227_1, c227_1, e227, hx227_0, hx227_1, hl227_0, hi227_0, hl227_1, hi227_1⟩ := at_T64 HR0_1.out x3_2 p227 q227; obtain rfl : ad225 = ad227 := (by injection e227); replace hx227_0 := (HB.out.cell (World.block_lt_of_cell? w _ hx227_0)).trans hx227_0; replace hx227_1 := (HB.out.cell (World.block_lt_of_cell? w _ hx227_1)).trans hx227_1; have HR227_0 := Aside0.mk hi227_0; have HC227_0 := Aside0.mk hl227_0; clear hi227_0 hl227_0; have HR227_1 := Aside0.mk hi227_1; have HC227_1 := Aside0.mk hl227_1; clear hi227_1 hl227_1; replace p227 := eq_true p227; replace q227 := eq_true q227; have ea_ := Option.some.inj (hx225_0.symm.trans hx227_0); injection ea_ with ea_ en_ ec_; subst ea_; subst ec_; clear en_; have ea_ := Option.some.inj (hx225_1.symm.trans hx227_1); injection ea_ with ea_ en_ ec_; subst ea_; subst ec_; clear en_) | (go_at_call 52; (with_reducible refine (dropperref06_list.calls k2 _ _ ((rd_T64 l0_1 x3_2).f1) a0_0 0 3 false _ ?side1 HC227_1.out A13.out).mono ?_); (case side1 => repeat (first | exact (Kd.C_below HR227_1.out bel) | (with_reducible refine Kd.C_alloc ?_ _) | (with_reducible refine Kd.C_drewN ?_ _) | (with_reducible refine Kd.C_drew ?_))); rintro e w' ⟨rfl, ⟨nd, rfl⟩⟩; (try first | exact ⟨rfl, _, World.drewN_drewN _ _ _⟩ | exact ⟨rfl, _, Eq.trans (World.drewN_drewN _ _ _) (congrArg (World.drewN _) (Nat.add_assoc _ _ _))⟩)))
          repeat (go_quiet (first | (go_at_call 52; (with_reducible refine (dropperref06_list.calls k2 _ _ ((rd_T64 l0_1 x3_2).f0) a0_0 0 3 true _ (cbz HR225_0) HC225_0.out A11.out).mono ?_); rintro e w' ⟨rfl, ⟨nd, rfl⟩⟩; (try first | exact ⟨rfl, _, World.drewN_drewN _ _ _⟩ | exact ⟨rfl, _, Eq.trans (World.drewN_drewN _ _ _) (congrArg (World.drewN _) (Nat.add_assoc _ _ _))⟩); have p227 : 0 ≤ (x3_2 : Int) := of_decide_eq_true asz; have q227 : x3_2 < (l0_1.length : Int) := of_decide_eq_true asz; obtain ⟨ad227, A227_0, c227_0, A227_1, c227_1, e227, hx227_0, hx227_1, hl227_0, hi227_0, hl227_1, hi227_1⟩ := at_T64 HR0_1.out x3_2 p227 q227; obtain rfl : ad225 = ad227 := (by injection e227); replace hx227_0 := (HB.out.cell (World.block_lt_of_cell? w _ hx227_0)).trans hx227_0; replace hx227_1 := (HB.out.cell (World.block_lt_of_cell? w _ hx227_1)).trans hx227_1; have HR227_0 := Aside0.mk hi227_0; have HC227_0 := Aside0.mk hl227_0; clear hi227_0 hl227_0; have HR227_1 := Aside0.mk hi227_1; have HC227_1 := Aside0.mk hl227_1; clear hi227_1 hl227_1; replace p227 := eq_true p227; replace q227 := eq_true q227; have ea_ := Option.some.inj (hx225_0.symm.trans hx227_0); injection ea_ with ea_ en_ ec_; subst ea_; subst ec_; clear en_; have ea_ := Option.some.inj (hx225_1.symm.trans hx227_1); injection ea_ with ea_ en_ ec_; subst ea_; subst ec_; clear en_) | (go_at_call 52; (with_reducible refine (dropperref06_list.calls k2 _ _ ((rd_T64 l0_1 x3_2).f1) a0_0 0 3 false _ ?side1 HC227_1.out A13.out).mono ?_); (case side1 => repeat (first | exact (Kd.C_below HR227_1.out bel) | (with_reducible refine Kd.C_alloc ?_ _) | (with_reducible refine Kd.C_drewN ?_ _) | (with_reducible refine Kd.C_drew ?_))); rintro e w' ⟨rfl, ⟨nd, rfl⟩⟩; (try first | exact ⟨rfl, _, World.drewN_drewN _ _ _⟩ | exact ⟨rfl, _, Eq.trans (World.drewN_drewN _ _ _) (congrArg (World.drewN _) (Nat.add_assoc _ _ _))⟩))); try go_wp2_with (first | (go_at_call 52; (with_reducible refine (dropperref06_list.calls k2 _ _ ((rd_T64 l0_1 x3_2).f0) a0_0 0 3 true _ (cbz HR225_0) HC225_0.out A11.out).mono ?_); rintro e w' ⟨rfl, ⟨nd, rfl⟩⟩; (try first | exact ⟨rfl, _, World.drewN_drewN _ _ _⟩ | exact ⟨rfl, _, Eq.trans (World.drewN_drewN _ _ _) (congrArg (World.drewN _) (Nat.add_assoc _ _ _))⟩); have p227 : 0 ≤ (x3_2 : Int) := of_decide_eq_true asz; have q227 : x3_2 < (l0_1.length : Int) := of_decide_eq_true asz; obtain ⟨ad227, A227_0, c227_0, A227_1, c227_1, e227, hx227_0, hx227_1, hl227_0, hi227_0, hl227_1, hi227_1⟩ := at_T64 HR0_1.out x3_2 p227 q227; obtain rfl : ad225 = ad227 := (by injection e227); replace hx227_0 := (HB.out.cell (World.block_lt_of_cell? w _ hx227_0)).trans hx227_0; replace hx227_1 := (HB.out.cell (World.block_lt_of_cell? w _ hx227_1)).trans hx227_1; have HR227_0 := Aside0.mk hi227_0; have HC227_0 := Aside0.mk hl227_0; clear hi227_0 hl227_0; have HR227_1 := Aside0.mk hi227_1; have HC227_1 := Aside0.mk hl227_1; clear hi227_1 hl227_1; replace p227 := eq_true p227; replace q227 := eq_true q227; have ea_ := Option.some.inj (hx225_0.symm.trans hx227_0); injection ea_ with ea_ en_ ec_; subst ea_; subst ec_; clear en_; have ea_ := Option.some.inj (hx225_1.symm.trans hx227_1); injection ea_ with ea_ en_ ec_; subst ea_; subst ec_; clear en_) | (go_at_call 52; (with_reducible refine (dropperref06_list.calls k2 _ _ ((rd_T64 l0_1 x3_2).f1) a0_0 0 3 false _ ?side1 HC227_1.out A13.out).mono ?_); (case side1 => repeat (first | exact (Kd.C_below HR227_1.out bel) | (with_reducible refine Kd.C_alloc ?_ _) | (with_reducible refine Kd.C_drewN ?_ _) | (with_reducible refine Kd.C_drew ?_))); rintro e w' ⟨rfl, ⟨nd, rfl⟩⟩; (try first | exact ⟨rfl, _, World.drewN_drewN _ _ _⟩ | exact ⟨rfl, _, Eq.trans (World.drewN_drewN _ _ _) (congrArg (World.drewN _) (Nat.add_assoc _ _ _))⟩))))
          go_ret
          exact ⟨ezz, bel⟩
        ·
         replace c12 := Bool.eq_false_iff.mpr c12
         subst c12
         rw [if_neg (show ¬ (false = true) by decide)] at H
         obtain rfl := Option.some.inj H
         obtain ⟨hcz17_0, hcz17_1⟩ := bc2 BK223.out
         obtain ⟨hfz17_0, hfz17_1⟩ := bf2 BK223.out
         have p225 : 0 ≤ (x3_2 : Int) := of_decide_eq_true asz
         have q225 : x3_2 < (l0_1.length : Int) := of_decide_eq_true asz
         obtain ⟨ad225, A225_0, c225_0, A225_1, c225_1, e225, hx225_0, hx225_1, hl225_0, hi225_0, hl225_1, hi225_1⟩ := at_T64 HR0_1.out x3_2 p225 q225
         cases e225
         replace hx225_0 := (HB.out.cell (World.block_lt_of_cell? w _ hx225_0)).trans hx225_0
         replace hx225_1 := (HB.out.cell (World.block_lt_of_cell? w _ hx225_1)).trans hx225_1
         have HR225_0 := Aside0.mk hi225_0
         have HC225_0 := Aside0.mk hl225_0
         clear hi225_0 hl225_0
         have HR225_1 := Aside0.mk hi225_1
         have HC225_1 := Aside0.mk hl225_1
         clear hi225_1 hl225_1
         replace p225 := eq_true p225
         replace q225 := eq_true q225
         go_wp2_with (first | (go_at_call 52; (with_reducible refine (dropperref06_list.calls k2 _ _ ((rd_T64 l0_1 x3_2).f0) a0_0 0 3 false _ (cbz HR225_0) HC225_0.out A11.out).mono ?_); rintro e w' ⟨rfl, ⟨nd, rfl⟩⟩; (try first | exact ⟨rfl, _, World.drewN_drewN _ _ _⟩ | exact ⟨rfl, _, Eq.trans (World.drewN_drewN _ _ _) (congrArg (World.drewN _) (Nat.add_assoc _ _ _))⟩)))
         repeat (go_quiet (first | (go_at_call 52; (with_reducible refine (dropperref06_list.calls k2 _ _ ((rd_T64 l0_1 x3_2).f0) a0_0 0 3 false _ (cbz HR225_0) HC225_0.out A11.out).mono ?_); rintro e w' ⟨rfl, ⟨nd, rfl⟩⟩; (try first | exact ⟨rfl, _, World.drewN_drewN _ _ _⟩ | exact ⟨rfl, _, Eq.trans (World.drewN_drewN _ _ _) (congrArg (World.drewN _) (Nat.add_assoc _ _ _))⟩))); try go_wp2_with (first | (go_at_call 52; (with_reducible refine (dropperref06_list.calls k2 _ _ ((rd_T64 l0_1 x3_2).f0) a0_0 0 3 false _ (cbz HR225_0) HC225_0.out A11.out).mono ?_); rintro e w' ⟨rfl, ⟨nd, rfl⟩⟩; (try first | exact ⟨rfl, _, World.drewN_drewN _ _ _⟩ | exact ⟨rfl, _, Eq.trans (World.drewN_drewN _ _ _) (congrArg (World.drewN _) (Nat.add_assoc _ _ _))⟩))))
         go_ret
         exact ⟨ezz, bel⟩
       ·
        rw [if_neg c10] at H
        exact absurd H (by simp)
      ·
       rw [if_neg c9] at H
       have c9b0 : decide (x3_2 < (l0_1.length : Int)) = false := decide_eq_false c9
       clear c9
       obtain rfl := Option.some.inj H
       obtain ⟨hcz18_0, hcz18_1⟩ := bc2 BK223.out
       obtain ⟨hfz18_0, hfz18_1⟩ := bf2 BK223.out
       go_wp2
       repeat (go_quiet (fail); try go_wp2)
       go_ret
       exact ⟨ezz, bel⟩

/-! ### dropperref06_Keys: function 13 -/
def dropperref06_Keys.f (k : Nat) (a0_0 : Int) (l0_1 : List (S64)) (l1 : List Int) : Option (Bool) := (dropperref06_list.f k l1 a0_0 0 100).bind fun t243 => (some t243)
set_option maxHeartbeats 8000000 in
set_option maxRecDepth 100000 in
theorem dropperref06_Keys.calls (k : Nat) (a0_0 : Int) (A0_1 : Option Addr) (c0_1 : Nat) (l0_1 : List (S64)) (A1 : Option Addr) (c1 : Nat) (l1 : List Int) (r : Bool) (w : World) (hr0_1 : Kd.C k64 w A0_1 l0_1.length l0_1) (hc0_1 : l0_1.length ≤ c0_1) (hr1 : Kd.C (Kd.int .i64) w A1 l1.length l1) (hc1 : l1.length ≤ c1) (h : dropperref06_Keys.f k a0_0 l0_1 l1 = some r) :
  Calls Try.prog 13 #[.agg #[.int .i64 a0_0, .slice A0_1 l0_1.length c0_1], .slice A1 l1.length c1] w fun e w' => e = .returned (.bool r) ∧ Below w.heap.size w w' := by
 have hu24 := Try.underlying24
 have HR0_1 := Aside0.mk hr0_1
 have HC0_1 := Aside0.mk hc0_1
 clear hr0_1 hc0_1
 have HR1 := Aside0.mk hr1
 have HC1 := Aside0.mk hc1
 clear hr1 hc1
 have HB := Aside0.mk (Below.refl w.heap.size w)
 have H : ((dropperref06_list.f k l1 a0_0 0 100).bind fun t243 => (some t243)) = some r := h
 clear h
 replace H := Option.bind_eq_some_iff.mp H
 obtain ⟨t243, A30, H⟩ := H
 try dsimp only at H
 have A3 := Aside0.mk A30
 clear A30
 obtain rfl := Option.some.inj H
 go_enter Try.func13, Try.ntmps13
 go_wp2_with (first | ((with_reducible refine gate_dst (N := 2) rfl ?_); refine box_event ?hg (N := 2) ?hd (cs := #[.int .i64 a0_0, .slice A0_1 l0_1.length c0_1]) (t := 24) ?hr ?_; (case hd => rfl); (case hg => rfl); (case hr => first | (go_simp; done) | (go_simp; rfl)); intro gb242 hg w4 hbox hb; have BK242 := Aside0.mk (hbox); have GW242 := bsz (w := w) hg; have GE242 := GW242; replace HB := Aside0.mk (below_step bel hb); clear hb hbox hg; obtain ⟨hcz5_0, hcz5_1⟩ := bc2 BK242.out) | ((with_reducible refine gate_callee (f := 52) rfl ?_); refine goesL_ (some 8) rfl rfl Try.func52 (by kernel_rfl) rfl #[.slice A1 l1.length c1, .int .i64 a0_0, .int .i64 0, .int .i64 100] rfl mapz ?_; (with_reducible refine (dropperref06_list.calls k _ _ l1 a0_0 0 100 t243 _ (cbz HR1) HC1.out A3.out).mono ?_); rintro e w' ⟨rfl, ⟨nd, rfl⟩⟩; refine ⟨_, rfl, ?_⟩))
 go_ret
 exact ⟨ezz, bel⟩

/-! ### dropperref06_asked: function 72 -/
def dropperref06_asked.l0 : Nat → List (List Int) → Int → Int → List (S64) → Option (Int)
 | 0, _, _, _, _ => none
 | k + 1, x1, x5, x245000, x245001 => if x5 < (x1.length : Int) then (if 0 ≤ x5 then ((dropperref06_Keys.f k x245000 x245001 (rd_L1 x1 x5)).bind fun t247 => (if t247 = true then (dropperref06_asked.l0 k x1 (wrap64 (x5 + 1)) x245000 x245001) else (some 61))) else (none)) else (some 0)
def dropperref06_asked.f (k : Nat) (a0_0 : Int) (l0_1 : List (S64)) (l1 : List (List Int)) : Option (Int) := (dropperref06_Valid.f k a0_0 l0_1).bind fun t245 => (if t245 = true then (dropperref06_asked.l0 k l1 0 a0_0 l0_1) else (some 60))
set_option maxHeartbeats 8000000 in
set_option maxRecDepth 100000 in
theorem dropperref06_asked.calls (k : Nat) (a0_0 : Int) (A0_1 : Option Addr) (c0_1 : Nat) (l0_1 : List (S64)) (A1 : Option Addr) (c1 : Nat) (l1 : List (List Int)) (r : Int) (w : World) (hr0_1 : Kd.C k64 w A0_1 l0_1.length l0_1) (hc0_1 : l0_1.length ≤ c0_1) (hr1 : Kd.C (Kd.slice 3 (Kd.int .i64)) w A1 l1.length l1) (hc1 : l1.length ≤ c1) (h : dropperref06_asked.f k a0_0 l0_1 l1 = some r) :
  Calls Try.prog 72 #[.agg #[.int .i64 a0_0, .slice A0_1 l0_1.length c0_1], .slice A1 l1.length c1] w fun e w' => e = .returned (.int .i64 r) ∧ Below w.heap.size w w' := by
 have hu24 := Try.underlying24
 have HR0_1 := Aside0.mk hr0_1
 have HC0_1 := Aside0.mk hc0_1
 clear hr0_1 hc0_1
 have HR1 := Aside0.mk hr1
 have HC1 := Aside0.mk hc1
 clear hr1 hc1
 have HB := Aside0.mk (Below.refl w.heap.size w)
 have H : ((dropperref06_Valid.f k a0_0 l0_1).bind fun t245 => (if t245 = true then (dropperref06_asked.l0 k l1 0 a0_0 l0_1) else (some 60))) = some r := h
 clear h
 replace H := Option.bind_eq_some_iff.mp H
 obtain ⟨t245, A30, H⟩ := H
 try dsimp only at H
 have A3 := Aside0.mk A30
 clear A30
 by_cases c4 : t245 = true
 ·
  subst c4
  rw [if_pos rfl] at H
  have H' := Aside0.mk H
  clear H
  go_enter Try.func72, Try.ntmps72
  go_wp2_with (first | ((with_reducible refine gate_dst (N := 2) rfl ?_); refine box_event ?hg (N := 2) ?hd (cs := #[.int .i64 a0_0, .slice A0_1 l0_1.length c0_1]) (t := 24) ?hr ?_; (case hd => rfl); (case hg => rfl); (case hr => first | (go_simp; done) | (go_simp; rfl)); intro gb244 hg w5 hbox hb; have BK244 := Aside0.mk (hbox); have GW244 := bsz (w := w) hg; have GE244 := GW244; replace HB := Aside0.mk (below_step bel hb); clear hb hbox hg; obtain ⟨hcz6_0, hcz6_1⟩ := bc2 BK244.out) | ((with_reducible refine gate_callee (f := 12) rfl ?_); refine goesL_ (some 7) rfl rfl Try.func12 (by kernel_rfl) rfl #[.agg #[.int .i64 a0_0, .slice A0_1 l0_1.length c0_1]] rfl mapz ?_; (with_reducible refine (dropperref06_Valid.calls k a0_0 _ _ l0_1 true _ (cbz HR0_1) HC0_1.out A3.out).mono ?_); rintro e w7 ⟨rfl, hb⟩; refine ⟨_, rfl, ?_⟩; replace BK244 := Aside0.mk (blk_below (g := gb244) blkz hb); replace HB := Aside0.mk (below_step bel hb); clear hb))
  go_loopg [5] k (fun kq v5 w' => ∃ (x5_1 : Int), v5 = .int .i64 x5_1 ∧ Aside0 (dropperref06_asked.l0 kq l1 x5_1 a0_0 l0_1 = some r) ∧ Aside0 (kq ≤ k) ∧ Aside0 (w'.heap[gb244]? = some (.cells #[.int .i64 a0_0, (.slice A0_1 l0_1.length c0_1)] 24 (0, 0))) ∧ Aside0 (Below w.heap.size w w'))
  case atStart => exact ⟨(0), rsz, H', ⟨Nat.le_refl _⟩, ⟨blkz⟩, ⟨bel⟩⟩
  case round =>
   clear H'
   (try clear c1); (try clear p2); (try clear c4); (try clear c7); (try clear hcz6_0); (try clear hcz6_1); (try clear hfz6_0); (try clear hfz6_1)
   obtain ⟨x5_1, rfl, HA, HK1, BK244, HB⟩ := hrel
   cases gk with
   | zero => exact absurd HA.out (by simp [dropperref06_asked.l0])
   | succ k1 =>
    have H := HA.out
    clear HA
    simp only [dropperref06_asked.l0] at H
    by_cases c8 : x5_1 < (l1.length : Int)
    ·
     rw [if_pos c8] at H
     have c8b0 : decide (x5_1 < (l1.length : Int)) = true := decide_eq_true c8
     clear c8
     by_cases c9 : 0 ≤ x5_1
     ·
      rw [if_pos c9] at H
      have c9b0 : decide (0 ≤ x5_1) = true := decide_eq_true c9
      clear c9
      replace H := Option.bind_eq_some_iff.mp H
      obtain ⟨t247, A100, H⟩ := H
      try dsimp only at H
      have A10 := Aside0.mk A100
      clear A100
      by_cases c11 : t247 = true
      ·
       subst c11
       rw [if_pos rfl] at H
       have H' := Aside0.mk H
       clear H
       try go_wp2
       have n0_ := Aside0.mk (blk_drew BK244.out)
       have n1_ := Aside0.mk (below_drew1 HB.out)
       clear BK244
       clear HB
       have BK244 := n0_
       have HB := n1_
       clear n0_ n1_
       have p246 : 0 ≤ (x5_1 : Int) := of_decide_eq_true asz
       have q246 : x5_1 < (l1.length : Int) := of_decide_eq_true asz
       obtain ⟨ad246, A246_0, c246_0, e246, hx246_0, hl246_0, hi246_0⟩ := at_L1 HR1.out x5_1 p246 q246
       have hw246_0 := hx246_0
       cases e246
       replace hx246_0 := (HB.out.cell (World.block_lt_of_cell? w _ hx246_0)).trans hx246_0
       have HR246_0 := Aside0.mk hi246_0
       have HC246_0 := Aside0.mk hl246_0
       clear hi246_0 hl246_0
       replace p246 := eq_true p246
       replace q246 := eq_true q246
       refine start_ (n := 7) (S := fun w' => w'.cell? ⟨gb244, 0, none⟩ = some (.int .i64 a0_0) ∧ w'.cell? ⟨gb244, 1, none⟩ = some (.slice A0_1 l0_1.length c0_1) ∧ w'.cell? (ad246.add (x5_1).toNat) = some (.slice A246_0 (rd_L1 l1 x5_1).length c246_0)) (ds := []) #[false, false, false, false, false, false, false] (by kernel_rfl) rfl rfl ⟨(blk_cell BK244.out 0).trans rfl, (blk_cell BK244.out 1).trans rfl, ((HB.out.cell (World.block_lt_of_cell? w _ hw246_0)).trans hw246_0)⟩ (fun hHeld => ?_)
       generalize wr.drew = w12 at BK244 HB HR246_0 hx246_0 hHeld ⊢
       refine pst (i := 1) (N := some 16) (bz 7 2) (by kernel_rfl) ?_
       refine pst (i := 2) (N := some 17) (bz 7 6) (by kernel_rfl) ?_
       refine pst (i := 3) (N := some 18) (bz 7 14) (by kernel_rfl) ?_
       refine tst3 (i := 0) (N := some 15) (bz 7 15) (by kernel_rfl) hHeld ?_
       refine tst3 (i := 4) (N := some 19) (bz 7 31) (by kernel_rfl) hHeld ?_
       refine one_ (i := 5) (N := some 20) #[true, true, true, true, true, true, false] rfl rfl (by kernel_rfl) (by decide) (fun K hK => ?_)
       refine goes_ Try.func13 (by kernel_rfl) rfl #[.agg #[.int .i64 a0_0, .slice A0_1 l0_1.length c0_1], .slice A246_0 (rd_L1 l1 x5_1).length c246_0] (by rfl) rfl rfl mapz ?_
       with_reducible refine (dropperref06_Keys.calls k1 a0_0 _ _ l0_1 _ _ (rd_L1 l1 x5_1) true _ ?side1 ?side2 ?side3 ?side4 A10.out).mono ?_
       (case side1 => exact cbz HR0_1)
       (case side2 => exact HC0_1.out)
       (case side3 => exact cbz HR246_0)
       (case side4 => exact HC246_0.out)
       rintro e w13 ⟨rfl, hb⟩
       refine ⟨_, rfl, ?_⟩
       have n0_ := Aside0.mk (blk_below (g := gb244) blkz hb)
       have n1_ := Aside0.mk (below_step bel hb)
       clear BK244
       clear HB
       have BK244 := n0_
       have HB := n1_
       clear n0_ n1_
       (try clear hb)
       (try clear hb2)
       (try clear hk)
       (try clear hi)
       refine hK.out _ _ ⟨(blk_cell BK244.out 0).trans rfl, (blk_cell BK244.out 1).trans rfl, ((HB.out.cell (World.block_lt_of_cell? w _ hw246_0)).trans hw246_0)⟩ (fun hHeld => ?_)
       clear hK K
       refine norm_ (a' := ?_) ?_ ?_
       rotate_left
       ·
        show Act.put _ (some 20) _ = _
        simp only [Act.put, List.setIfInBounds_toArray, List.set_cons_zero, List.set_cons_succ, i64_w, i32_w]
        rfl
       refine pst (i := 6) (N := some 21) (bz 7 127) (by kernel_rfl) ?_
       refine done_ (by kernel_rfl) ?_
       try go_wp2
       go_roundg k1
       case measure => have := HK1.out; omega
       case rel => exact ⟨(wrap64 (x5_1 + 1)), rsz, H', ⟨by have := HK1.out; omega⟩, ⟨blkz⟩, ⟨bel⟩⟩
      ·
       replace c11 := Bool.eq_false_iff.mpr c11
       subst c11
       rw [if_neg (show ¬ (false = true) by decide)] at H
       obtain rfl := Option.some.inj H
       try go_wp2
       have n0_ := Aside0.mk (blk_drew BK244.out)
       have n1_ := Aside0.mk (below_drew1 HB.out)
       clear BK244
       clear HB
       have BK244 := n0_
       have HB := n1_
       clear n0_ n1_
       have p246 : 0 ≤ (x5_1 : Int) := of_decide_eq_true asz
       have q246 : x5_1 < (l1.length : Int) := of_decide_eq_true asz
       obtain ⟨ad246, A246_0, c246_0, e246, hx246_0, hl246_0, hi246_0⟩ := at_L1 HR1.out x5_1 p246 q246
       have hw246_0 := hx246_0
       cases e246
       replace hx246_0 := (HB.out.cell (World.block_lt_of_cell? w _ hx246_0)).trans hx246_0
       have HR246_0 := Aside0.mk hi246_0
       have HC246_0 := Aside0.mk hl246_0
       clear hi246_0 hl246_0
       replace p246 := eq_true p246
       replace q246 := eq_true q246
       refine start_ (n := 7) (S := fun w' => w'.cell? ⟨gb244, 0, none⟩ = some (.int .i64 a0_0) ∧ w'.cell? ⟨gb244, 1, none⟩ = some (.slice A0_1 l0_1.length c0_1) ∧ w'.cell? (ad246.add (x5_1).toNat) = some (.slice A246_0 (rd_L1 l1 x5_1).length c246_0)) (ds := []) #[false, false, false, false, false, false, false] (by kernel_rfl) rfl rfl ⟨(blk_cell BK244.out 0).trans rfl, (blk_cell BK244.out 1).trans rfl, ((HB.out.cell (World.block_lt_of_cell? w _ hw246_0)).trans hw246_0)⟩ (fun hHeld => ?_)
       generalize wr.drew = w14 at BK244 HB HR246_0 hx246_0 hHeld ⊢
       refine pst (i := 1) (N := some 16) (bz 7 2) (by kernel_rfl) ?_
       refine pst (i := 2) (N := some 17) (bz 7 6) (by kernel_rfl) ?_
       refine pst (i := 3) (N := some 18) (bz 7 14) (by kernel_rfl) ?_
       refine tst3 (i := 0) (N := some 15) (bz 7 15) (by kernel_rfl) hHeld ?_
       refine tst3 (i := 4) (N := some 19) (bz 7 31) (by kernel_rfl) hHeld ?_
       refine one_ (i := 5) (N := some 20) #[true, true, true, true, true, true, false] rfl rfl (by kernel_rfl) (by decide) (fun K hK => ?_)
       refine goes_ Try.func13 (by kernel_rfl) rfl #[.agg #[.int .i64 a0_0, .slice A0_1 l0_1.length c0_1], .slice A246_0 (rd_L1 l1 x5_1).length c246_0] (by rfl) rfl rfl mapz ?_
       with_reducible refine (dropperref06_Keys.calls k1 a0_0 _ _ l0_1 _ _ (rd_L1 l1 x5_1) false _ ?side1 ?side2 ?side3 ?side4 A10.out).mono ?_
       (case side1 => exact cbz HR0_1)
       (case side2 => exact HC0_1.out)
       (case side3 => exact cbz HR246_0)
       (case side4 => exact HC246_0.out)
       rintro e w15 ⟨rfl, hb⟩
       refine ⟨_, rfl, ?_⟩
       have n0_ := Aside0.mk (blk_below (g := gb244) blkz hb)
       have n1_ := Aside0.mk (below_step bel hb)
       clear BK244
       clear HB
       have BK244 := n0_
       have HB := n1_
       clear n0_ n1_
       (try clear hb)
       (try clear hb2)
       (try clear hk)
       (try clear hi)
       refine hK.out _ _ ⟨(blk_cell BK244.out 0).trans rfl, (blk_cell BK244.out 1).trans rfl, ((HB.out.cell (World.block_lt_of_cell? w _ hw246_0)).trans hw246_0)⟩ (fun hHeld => ?_)
       clear hK K
       refine norm_ (a' := ?_) ?_ ?_
       rotate_left
       ·
        show Act.put _ (some 20) _ = _
        simp only [Act.put, List.setIfInBounds_toArray, List.set_cons_zero, List.set_cons_succ, i64_w, i32_w]
        rfl
       refine pst (i := 6) (N := some 21) (bz 7 127) (by kernel_rfl) ?_
       refine done_ (by kernel_rfl) ?_
       try go_wp2
       go_ret
       exact ⟨ezz, bel⟩
     ·
      rw [if_neg c9] at H
      exact absurd H (by simp)
    ·
     rw [if_neg c8] at H
     have c8b0 : decide (x5_1 < (l1.length : Int)) = false := decide_eq_false c8
     clear c8
     obtain rfl := Option.some.inj H
     go_wp2
     go_ret
     exact ⟨ezz, bel⟩
 ·
  replace c4 := Bool.eq_false_iff.mpr c4
  subst c4
  rw [if_neg (show ¬ (false = true) by decide)] at H
  obtain rfl := Option.some.inj H
  go_enter Try.func72, Try.ntmps72
  go_wp2_with (first | ((with_reducible refine gate_dst (N := 2) rfl ?_); refine box_event ?hg (N := 2) ?hd (cs := #[.int .i64 a0_0, .slice A0_1 l0_1.length c0_1]) (t := 24) ?hr ?_; (case hd => rfl); (case hg => rfl); (case hr => first | (go_simp; done) | (go_simp; rfl)); intro gb244 hg w16 hbox hb; have BK244 := Aside0.mk (hbox); have GW244 := bsz (w := w) hg; have GE244 := GW244; replace HB := Aside0.mk (below_step bel hb); clear hb hbox hg; obtain ⟨hcz17_0, hcz17_1⟩ := bc2 BK244.out) | ((with_reducible refine gate_callee (f := 12) rfl ?_); refine goesL_ (some 7) rfl rfl Try.func12 (by kernel_rfl) rfl #[.agg #[.int .i64 a0_0, .slice A0_1 l0_1.length c0_1]] rfl mapz ?_; (with_reducible refine (dropperref06_Valid.calls k a0_0 _ _ l0_1 false _ (cbz HR0_1) HC0_1.out A3.out).mono ?_); rintro e w18 ⟨rfl, hb⟩; refine ⟨_, rfl, ?_⟩; replace BK244 := Aside0.mk (blk_below (g := gb244) blkz hb); replace HB := Aside0.mk (below_step bel hb); clear hb))
  go_ret
  exact ⟨ezz, bel⟩

/-! ### dropperref06_less: function 75 -/
def dropperref06_less.l0 : Nat → List Int → List Int → Int → Option (Bool)
 | 0, _, _, _ => none
 | k + 1, x0, x1, x5 => if x5 < (x0.length : Int) then (if 0 ≤ x5 then (if x5 < (x1.length : Int) then (if (rd x0 x5) = (rd x1 x5) then (dropperref06_less.l0 k x0 x1 (wrap64 (x5 + 1))) else (some (decide ((rd x0 x5) < (rd x1 x5))))) else (none)) else (none)) else (some false)
def dropperref06_less.f (k : Nat) (l0 : List Int) (l1 : List Int) : Option (Bool) := dropperref06_less.l0 k l0 l1 0
set_option maxHeartbeats 8000000 in
set_option maxRecDepth 100000 in
theorem dropperref06_less.calls (k : Nat) (A0 : Option Addr) (c0 : Nat) (l0 : List Int) (A1 : Option Addr) (c1 : Nat) (l1 : List Int) (r : Bool) (w : World) (hr0 : Kd.C (Kd.int .i64) w A0 l0.length l0) (hc0 : l0.length ≤ c0) (hr1 : Kd.C (Kd.int .i64) w A1 l1.length l1) (hc1 : l1.length ≤ c1) (h : dropperref06_less.f k l0 l1 = some r) :
  Calls Try.prog 75 #[.slice A0 l0.length c0, .slice A1 l1.length c1] w fun e w' => e = .returned (.bool r) ∧ Drawn0 w w' := by
 have HR0 := Aside0.mk hr0
 have HC0 := Aside0.mk hc0
 clear hr0 hc0
 have HR1 := Aside0.mk hr1
 have HC1 := Aside0.mk hc1
 clear hr1 hc1
 have H : (dropperref06_less.l0 k l0 l1 0) = some r := h
 clear h
 have H' := Aside0.mk H
 clear H
 go_enter Try.func75, Try.ntmps75
 go_wp2
 repeat (go_quiet (fail); try go_wp2)
 go_loopg [5] k (fun kq v5 w' => ∃ (x5_1 : Int), v5 = .int .i64 x5_1 ∧ Aside0 (dropperref06_less.l0 kq l0 l1 x5_1 = some r) ∧ Aside0 (kq ≤ k) ∧ Drawn0 w w')
 case atStart => exact ⟨(0), rsz, H', ⟨Nat.le_refl _⟩, drz⟩
 case round =>
  clear H'
  (try clear c1); (try clear p2)
  obtain ⟨x5_1, rfl, HA, HK1, ⟨m1, rfl⟩⟩ := hrel
  cases gk with
  | zero => exact absurd HA.out (by simp [dropperref06_less.l0])
  | succ k1 =>
   have H := HA.out
   clear HA
   simp only [dropperref06_less.l0] at H
   by_cases c3 : x5_1 < (l0.length : Int)
   ·
    rw [if_pos c3] at H
    have c3b0 : decide (x5_1 < (l0.length : Int)) = true := decide_eq_true c3
    clear c3
    by_cases c4 : 0 ≤ x5_1
    ·
     rw [if_pos c4] at H
     have c4b0 : decide (0 ≤ x5_1) = true := decide_eq_true c4
     clear c4
     by_cases c5 : x5_1 < (l1.length : Int)
     ·
      rw [if_pos c5] at H
      have c5b0 : decide (x5_1 < (l1.length : Int)) = true := decide_eq_true c5
      clear c5
      by_cases c6 : (rd l0 x5_1) = (rd l1 x5_1)
      ·
       rw [if_pos c6] at H
       have c6b0 : ((rd l0 x5_1) == (rd l1 x5_1)) = true := beq_iff_eq.mpr c6
       have c6b1 : ((rd l0 x5_1) != (rd l1 x5_1)) = false := bne_eq_false_iff_eq.mpr c6
       clear c6
       have H' := Aside0.mk H
       clear H
       have p285 : 0 ≤ (x5_1 : Int) := of_decide_eq_true asz
       have q285 : x5_1 < (l0.length : Int) := of_decide_eq_true asz
       obtain ⟨ad285, e285, hx285_0⟩ := Kd.at_int HR0.out x5_1 p285 q285
       cases e285
       replace p285 := eq_true p285
       replace q285 := eq_true q285
       have p286 : 0 ≤ (x5_1 : Int) := of_decide_eq_true asz
       have q286 : x5_1 < (l1.length : Int) := of_decide_eq_true asz
       obtain ⟨ad286, e286, hx286_0⟩ := Kd.at_int HR1.out x5_1 p286 q286
       cases e286
       replace p286 := eq_true p286
       replace q286 := eq_true q286
       go_wp2
       repeat (go_quiet (fail); try go_wp2)
       go_roundg k1
       case measure => have := HK1.out; omega
       case rel => exact ⟨(wrap64 (x5_1 + 1)), rsz, H', ⟨by have := HK1.out; omega⟩, drz⟩
      ·
       rw [if_neg c6] at H
       have c6b0 : ((rd l0 x5_1) == (rd l1 x5_1)) = false := beq_eq_false_iff_ne.mpr c6
       have c6b1 : ((rd l0 x5_1) != (rd l1 x5_1)) = true := bne_iff_ne.mpr c6
       obtain rfl := Option.some.inj H
       have p285 : 0 ≤ (x5_1 : Int) := of_decide_eq_true asz
       have q285 : x5_1 < (l0.length : Int) := of_decide_eq_true asz
       obtain ⟨ad285, e285, hx285_0⟩ := Kd.at_int HR0.out x5_1 p285 q285
       cases e285
       replace p285 := eq_true p285
       replace q285 := eq_true q285
       have p286 : 0 ≤ (x5_1 : Int) := of_decide_eq_true asz
       have q286 : x5_1 < (l1.length : Int) := of_decide_eq_true asz
       obtain ⟨ad286, e286, hx286_0⟩ := Kd.at_int HR1.out x5_1 p286 q286
       cases e286
       replace p286 := eq_true p286
       replace q286 := eq_true q286
       have p287 : 0 ≤ (x5_1 : Int) := of_decide_eq_true asz
       have q287 : x5_1 < (l0.length : Int) := of_decide_eq_true asz
       obtain ⟨ad287, e287, hx287_0⟩ := Kd.at_int HR0.out x5_1 p287 q287
       obtain rfl : ad285 = ad287 := (by injection e287)
       replace p287 := eq_true p287
       replace q287 := eq_true q287
       have p288 : 0 ≤ (x5_1 : Int) := of_decide_eq_true asz
       have q288 : x5_1 < (l1.length : Int) := of_decide_eq_true asz
       obtain ⟨ad288, e288, hx288_0⟩ := Kd.at_int HR1.out x5_1 p288 q288
       obtain rfl : ad286 = ad288 := (by injection e288)
       replace p288 := eq_true p288
       replace q288 := eq_true q288
       go_wp2
       repeat (go_quiet (fail); try go_wp2)
       go_ret
       exact ⟨by first | rfl | (simp; done) | (simp [*]; done), drz⟩
     ·
      rw [if_neg c5] at H
      exact absurd H (by simp)
    ·
     rw [if_neg c4] at H
     exact absurd H (by simp)
   ·
    rw [if_neg c3] at H
    have c3b0 : decide (x5_1 < (l0.length : Int)) = false := decide_eq_false c3
    clear c3
    obtain rfl := Option.some.inj H
    go_wp2
    repeat (go_quiet (fail); try go_wp2)
    go_ret
    exact ⟨by first | rfl | (simp; done) | (simp [*]; done), drz⟩

/-! ### dropperref06_after: function 77 -/
def dropperref06_after.l0 : Nat → List Int → List Int → Int → List Int → List Int → Option (List Int × Bool)
 | 0, _, _, _, _, _ => none
 | k + 1, x1, x6, x7, x290000, x290001 => if x7 < (x1.length : Int) then (if 0 ≤ x7 then (if x7 < (x290000.length : Int) then (if (wrap64 ((rd x1 x7) - (rd x290000 x7))) < 0 then (some (([] : List Int), false)) else (if x7 < (x290001.length : Int) then (if (wrap64 ((wrap64 ((rd x1 x7) - (rd x290000 x7))) + (rd x290001 x7))) > 100 then (some (([] : List Int), false)) else (if x6.length < 17592186044416 then (dropperref06_after.l0 k x1 (x6 ++ [wrap64 ((wrap64 ((rd x1 x7) - (rd x290000 x7))) + (rd x290001 x7))]) (wrap64 (x7 + 1)) x290000 x290001) else (none))) else (none))) else (none)) else (none)) else (some (x6, true))
def dropperref06_after.f (k : Nat) (l0_0 : List Int) (l0_1 : List Int) (l1 : List Int) : Option (List Int × Bool) := dropperref06_after.l0 k l1 ([] : List Int) 0 l0_0 l0_1
set_option maxHeartbeats 8000000 in
set_option maxRecDepth 100000 in
theorem dropperref06_after.calls (k : Nat) (A0_0 : Option Addr) (c0_0 : Nat) (l0_0 : List Int) (A0_1 : Option Addr) (c0_1 : Nat) (l0_1 : List Int) (A1 : Option Addr) (c1 : Nat) (l1 : List Int) (r1 : List Int) (r2 : Bool) (w : World) (hr0_0 : Kd.C (Kd.int .i64) w A0_0 l0_0.length l0_0) (hc0_0 : l0_0.length ≤ c0_0) (hr0_1 : Kd.C (Kd.int .i64) w A0_1 l0_1.length l0_1) (hc0_1 : l0_1.length ≤ c0_1) (hr1 : Kd.C (Kd.int .i64) w A1 l1.length l1) (hc1 : l1.length ≤ c1) (h : dropperref06_after.f k l0_0 l0_1 l1 = some (r1, r2)) :
  Calls Try.prog 77 #[.agg #[.slice A0_0 l0_0.length c0_0, .slice A0_1 l0_1.length c0_1], .slice A1 l1.length c1] w fun e w' => ∃ v0_ : Value, e = .returned (.tuple #[v0_, .bool r2]) ∧ Kd.R (Kd.int .i64) 3 w' w.heap.size (fun _ => True) v0_ r1 ∧ Below w.heap.size w w' := by
 have hu64 := Try.underlying64
 have HR0_0 := Aside0.mk hr0_0
 have HC0_0 := Aside0.mk hc0_0
 clear hr0_0 hc0_0
 have HR0_1 := Aside0.mk hr0_1
 have HC0_1 := Aside0.mk hc0_1
 clear hr0_1 hc0_1
 have HR1 := Aside0.mk hr1
 have HC1 := Aside0.mk hc1
 clear hr1 hc1
 have HB := Aside0.mk (Below.refl w.heap.size w)
 have H : (dropperref06_after.l0 k l1 ([] : List Int) 0 l0_0 l0_1) = some (r1, r2) := h
 clear h
 have H' := Aside0.mk H
 clear H
 go_enter Try.func77, Try.ntmps77
 go_wp2_with (first | ((with_reducible refine gate_dst (N := 2) rfl ?_); refine box_event ?hg (N := 2) ?hd (cs := #[.slice A0_0 l0_0.length c0_0, .slice A0_1 l0_1.length c0_1]) (t := 64) ?hr ?_; (case hd => rfl); (case hg => rfl); (case hr => first | (go_simp; done) | (go_simp; rfl)); intro gb289 hg w3 hbox hb; have BK289 := Aside0.mk (hbox); have GW289 := bsz (w := w) hg; have GE289 := GW289; replace HB := Aside0.mk (below_step bel hb); clear hb hbox hg))
 repeat (go_quiet (first | ((with_reducible refine gate_dst (N := 2) rfl ?_); refine box_event ?hg (N := 2) ?hd (cs := #[.slice A0_0 l0_0.length c0_0, .slice A0_1 l0_1.length c0_1]) (t := 64) ?hr ?_; (case hd => rfl); (case hg => rfl); (case hr => first | (go_simp; done) | (go_simp; rfl)); intro gb289 hg w3 hbox hb; have BK289 := Aside0.mk (hbox); have GW289 := bsz (w := w) hg; have GE289 := GW289; replace HB := Aside0.mk (below_step bel hb); clear hb hbox hg)); try go_wp2_with (first | ((with_reducible refine gate_dst (N := 2) rfl ?_); refine box_event ?hg (N := 2) ?hd (cs := #[.slice A0_0 l0_0.length c0_0, .slice A0_1 l0_1.length c0_1]) (t := 64) ?hr ?_; (case hd => rfl); (case hg => rfl); (case hr => first | (go_simp; done) | (go_simp; rfl)); intro gb289 hg w3 hbox hb; have BK289 := Aside0.mk (hbox); have GW289 := bsz (w := w) hg; have GE289 := GW289; replace HB := Aside0.mk (below_step bel hb); clear hb hbox hg)))
 go_loopg [6, 7] k (fun kq v6 v7 w' => ∃ (x6_1 : List Int) (x7_1 : Int), v7 = .int .i64 x7_1 ∧ Aside0 (dropperref06_after.l0 kq l1 x6_1 x7_1 l0_0 l0_1 = some (r1, r2)) ∧ Aside0 (kq ≤ k) ∧ Aside0 (Kd.R (Kd.int .i64) 3 w' w.heap.size (fun _ => True) v6 x6_1) ∧ Aside0 (w'.heap[gb289]? = some (.cells #[(.slice A0_0 l0_0.length c0_0), (.slice A0_1 l0_1.length c0_1)] 64 (0, 0))) ∧ Aside0 (Below w.heap.size w w'))
 case atStart => exact ⟨(([] : List Int)), (0), rsz, H', ⟨Nat.le_refl _⟩, ⟨by first | exact Kd.R_nil _ _ _ _ _ | exact Kd.N_nil _ _ _ _ _ | exact Kd.V_nil _ _ _ _ _ | exact Kd.Q_nil _ _ _ _ _ | exact Kd.S_nil _ _ _ _ _⟩, ⟨blkz⟩, ⟨bel⟩⟩
 case round =>
  clear H'
  (try clear c1); (try clear p2)
  obtain ⟨x6_1, x7_1, rfl, HA, HK1, HO_6, BK289, HB⟩ := hrel
  cases gk with
  | zero => exact absurd HA.out (by simp [dropperref06_after.l0])
  | succ k1 =>
   have H := HA.out
   clear HA
   simp only [dropperref06_after.l0] at H
   by_cases c4 : x7_1 < (l1.length : Int)
   ·
    rw [if_pos c4] at H
    have c4b0 : decide (x7_1 < (l1.length : Int)) = true := decide_eq_true c4
    clear c4
    by_cases c5 : 0 ≤ x7_1
    ·
     rw [if_pos c5] at H
     have c5b0 : decide (0 ≤ x7_1) = true := decide_eq_true c5
     clear c5
     by_cases c6 : x7_1 < (l0_0.length : Int)
     ·
      rw [if_pos c6] at H
      have c6b0 : decide (x7_1 < (l0_0.length : Int)) = true := decide_eq_true c6
      clear c6
      by_cases c7 : (wrap64 ((rd l1 x7_1) - (rd l0_0 x7_1))) < 0
      ·
       rw [if_pos c7] at H
       have c7b0 : decide ((wrap64 ((rd l1 x7_1) - (rd l0_0 x7_1))) < 0) = true := decide_eq_true c7
       clear c7
       simp only [Option.some.injEq, Prod.mk.injEq] at H
       obtain ⟨rfl, rfl⟩ := H
       have p290 : 0 ≤ (x7_1 : Int) := of_decide_eq_true asz
       have q290 : x7_1 < (l1.length : Int) := of_decide_eq_true asz
       obtain ⟨ad290, e290, hx290_0⟩ := Kd.at_int HR1.out x7_1 p290 q290
       cases e290
       replace hx290_0 := (HB.out.cell (World.block_lt_of_cell? w _ hx290_0)).trans hx290_0
       replace p290 := eq_true p290
       replace q290 := eq_true q290
       obtain ⟨hcz8_0, hcz8_1⟩ := bc2 BK289.out
       obtain ⟨hfz8_0, hfz8_1⟩ := bf2 BK289.out
       have p291 : 0 ≤ (x7_1 : Int) := of_decide_eq_true asz
       have q291 : x7_1 < (l0_0.length : Int) := of_decide_eq_true asz
       obtain ⟨ad291, e291, hx291_0⟩ := Kd.at_int HR0_0.out x7_1 p291 q291
       cases e291
       replace hx291_0 := (HB.out.cell (World.block_lt_of_cell? w _ hx291_0)).trans hx291_0
       replace p291 := eq_true p291
       replace q291 := eq_true q291
       go_wp2
       repeat (go_quiet (fail); try go_wp2)
       go_ret2
       exact ⟨_, ezz, by first | exact Kd.R_nil _ _ _ _ _ | exact Kd.N_nil _ _ _ _ _ | exact Kd.V_nil _ _ _ _ _ | exact Kd.Q_nil _ _ _ _ _ | exact Kd.S_nil _ _ _ _ _, bel⟩
      ·
       rw [if_neg c7] at H
       have c7b0 : decide ((wrap64 ((rd l1 x7_1) - (rd l0_0 x7_1))) < 0) = false := decide_eq_false c7
       clear c7
       by_cases c9 : x7_1 < (l0_1.length : Int)
       ·
        rw [if_pos c9] at H
        have c9b0 : decide (x7_1 < (l0_1.length : Int)) = true := decide_eq_true c9
        clear c9
        by_cases c10 : (wrap64 ((wrap64 ((rd l1 x7_1) - (rd l0_0 x7_1))) + (rd l0_1 x7_1))) > 100
        ·
         rw [if_pos c10] at H
         have c10b0 : decide (100 < (wrap64 ((wrap64 ((rd l1 x7_1) - (rd l0_0 x7_1))) + (rd l0_1 x7_1)))) = true := decide_eq_true c10
         clear c10
         simp only [Option.some.injEq, Prod.mk.injEq] at H
         obtain ⟨rfl, rfl⟩ := H
         have p290 : 0 ≤ (x7_1 : Int) := of_decide_eq_true asz
         have q290 : x7_1 < (l1.length : Int) := of_decide_eq_true asz
         obtain ⟨ad290, e290, hx290_0⟩ := Kd.at_int HR1.out x7_1 p290 q290
         cases e290
         replace hx290_0 := (HB.out.cell (World.block_lt_of_cell? w _ hx290_0)).trans hx290_0
         replace p290 := eq_true p290
         replace q290 := eq_true q290
         obtain ⟨hcz11_0, hcz11_1⟩ := bc2 BK289.out
         obtain ⟨hfz11_0, hfz11_1⟩ := bf2 BK289.out
         have p291 : 0 ≤ (x7_1 : Int) := of_decide_eq_true asz
         have q291 : x7_1 < (l0_0.length : Int) := of_decide_eq_true asz
         obtain ⟨ad291, e291, hx291_0⟩ := Kd.at_int HR0_0.out x7_1 p291 q291
         cases e291
         replace hx291_0 := (HB.out.cell (World.block_lt_of_cell? w _ hx291_0)).trans hx291_0
         replace p291 := eq_true p291
         replace q291 := eq_true q291
         have p292 : 0 ≤ (x7_1 : Int) := of_decide_eq_true asz
         have q292 : x7_1 < (l0_1.length : Int) := of_decide_eq_true asz
         obtain ⟨ad292, e292, hx292_0⟩ := Kd.at_int HR0_1.out x7_1 p292 q292
         cases e292
         replace hx292_0 := (HB.out.cell (World.block_lt_of_cell? w _ hx292_0)).trans hx292_0
         replace p292 := eq_true p292
         replace q292 := eq_true q292
         go_wp2
         repeat (go_quiet (fail); try go_wp2)
         go_ret2
         exact ⟨_, ezz, by first | exact Kd.R_nil _ _ _ _ _ | exact Kd.N_nil _ _ _ _ _ | exact Kd.V_nil _ _ _ _ _ | exact Kd.Q_nil _ _ _ _ _ | exact Kd.S_nil _ _ _ _ _, bel⟩
        ·
         rw [if_neg c10] at H
         have c10b0 : decide (100 < (wrap64 ((wrap64 ((rd l1 x7_1) - (rd l0_0 x7_1))) + (rd l0_1 x7_1)))) = false := decide_eq_false c10
         clear c10
         by_cases c12 : x6_1.length < 17592186044416
         ·
          rw [if_pos c12] at H
          have LMc12 := Aside0.mk c12
          clear c12
          obtain ⟨y294, hy294⟩ : ∃ y_ : List Int, y_ = (x6_1 ++ [wrap64 ((wrap64 ((rd l1 x7_1) - (rd l0_0 x7_1))) + (rd l0_1 x7_1))]) := ⟨_, rfl⟩
          replace H : (dropperref06_after.l0 k1 l1 y294 (wrap64 (x7_1 + 1)) l0_0 l0_1) = some (r1, r2) := by first | (rw [hy294]; with_reducible exact H) | (have H2_ := (Option.bind_some _ _).symm.trans H; rw [hy294]; with_reducible exact H2_) | (have H2_ := (Option.bind_some _ _).symm.trans H; with_reducible exact H2_) | with_reducible exact H | (rw [hy294]; exact H) | exact H
          have Ny294 := Aside0.mk hy294
          clear hy294
          have H' := Aside0.mk H
          clear H
          have p290 : 0 ≤ (x7_1 : Int) := of_decide_eq_true asz
          have q290 : x7_1 < (l1.length : Int) := of_decide_eq_true asz
          obtain ⟨ad290, e290, hx290_0⟩ := Kd.at_int HR1.out x7_1 p290 q290
          cases e290
          replace hx290_0 := (HB.out.cell (World.block_lt_of_cell? w _ hx290_0)).trans hx290_0
          replace p290 := eq_true p290
          replace q290 := eq_true q290
          obtain ⟨hcz13_0, hcz13_1⟩ := bc2 BK289.out
          obtain ⟨hfz13_0, hfz13_1⟩ := bf2 BK289.out
          have p291 : 0 ≤ (x7_1 : Int) := of_decide_eq_true asz
          have q291 : x7_1 < (l0_0.length : Int) := of_decide_eq_true asz
          obtain ⟨ad291, e291, hx291_0⟩ := Kd.at_int HR0_0.out x7_1 p291 q291
          cases e291
          replace hx291_0 := (HB.out.cell (World.block_lt_of_cell? w _ hx291_0)).trans hx291_0
          replace p291 := eq_true p291
          replace q291 := eq_true q291
          have p292 : 0 ≤ (x7_1 : Int) := of_decide_eq_true asz
          have q292 : x7_1 < (l0_1.length : Int) := of_decide_eq_true asz
          obtain ⟨ad292, e292, hx292_0⟩ := Kd.at_int HR0_1.out x7_1 p292 q292
          cases e292
          replace hx292_0 := (HB.out.cell (World.block_lt_of_cell? w _ hx292_0)).trans hx292_0
          replace p292 := eq_true p292
          replace q292 := eq_true q292
          have p293 : 0 ≤ (x7_1 : Int) := of_decide_eq_true asz
          have q293 : x7_1 < (l0_1.length : Int) := of_decide_eq_true asz
          obtain ⟨ad293, e293, hx293_0⟩ := Kd.at_int HR0_1.out x7_1 p293 q293
          obtain rfl : ad292 = ad293 := (by injection e293)
          replace hx293_0 := (HB.out.cell (World.block_lt_of_cell? w _ hx293_0)).trans hx293_0
          replace p293 := eq_true p293
          replace q293 := eq_true q293
          go_wp2_with (first | ((with_reducible refine gate_builtin (b := .append) (xs := #[.tmp 37, .tmp 45]) rfl ?_); at_builtin; refine Kd.R_append (Kd.int .i64) (w0 := w) w.heap.size rfl (.tmp 37) (.tmp 45) 25 3 (.int .i64 0) 8 rfl Try.underlying25 info3 rfl (by decide) (by omega) u6 x6_1 (wrap64 ((wrap64 ((rd l1 x7_1) - (rd l0_0 x7_1))) + (rd l0_1 x7_1))) [.int .i64 (wrap64 ((wrap64 ((rd l1 x7_1) - (rd l0_0 x7_1))) + (rd l0_1 x7_1)))] (fun _ => True) (fun _ => False) rfl rfl ?aP (fun _ hk => hk.elim) ?aF ?aO ?aB ?aS ?aL ?_; (case aP => exact rfl); (case aB => exact bel); (case aF => exact (fun _ _ => trivial)); (case aO => exact (ownx HO_6)); (case aS => exact (below_size bel)); (case aL => have := LMc12.out; omega); intro v295 w14 ho hb hg hat; rw [← Ny294.out] at ho; have n0_ := Aside0.mk (blk_grown (g := gb289) (o := .cells #[.slice (some ad291) l0_0.length c0_0, .slice (some ad292) l0_1.length c0_1] 64 (0, 0)) blkz hg (Kd.R_ne HO_6.out BK289.out (by decide))); have n1_ := Aside0.mk (hb); have n2_ := Aside0.mk (ho); clear BK289; clear HB; clear HO_6; have BK289 := n0_; have HB := n1_; have HO296 := n2_; clear n0_ n1_ n2_; clear ho hb hg hat))
          repeat (go_quiet (first | ((with_reducible refine gate_builtin (b := .append) (xs := #[.tmp 37, .tmp 45]) rfl ?_); at_builtin; refine Kd.R_append (Kd.int .i64) (w0 := w) w.heap.size rfl (.tmp 37) (.tmp 45) 25 3 (.int .i64 0) 8 rfl Try.underlying25 info3 rfl (by decide) (by omega) u6 x6_1 (wrap64 ((wrap64 ((rd l1 x7_1) - (rd l0_0 x7_1))) + (rd l0_1 x7_1))) [.int .i64 (wrap64 ((wrap64 ((rd l1 x7_1) - (rd l0_0 x7_1))) + (rd l0_1 x7_1)))] (fun _ => True) (fun _ => False) rfl rfl ?aP (fun _ hk => hk.elim) ?aF ?aO ?aB ?aS ?aL ?_; (case aP => exact rfl); (case aB => exact bel); (case aF => exact (fun _ _ => trivial)); (case aO => exact (ownx HO_6)); (case aS => exact (below_size bel)); (case aL => have := LMc12.out; omega); intro v295 w14 ho hb hg hat; rw [← Ny294.out] at ho; have n0_ := Aside0.mk (blk_grown (g := gb289) (o := .cells #[.slice (some ad291) l0_0.length c0_0, .slice (some ad292) l0_1.length c0_1] 64 (0, 0)) blkz hg (Kd.R_ne HO_6.out BK289.out (by decide))); have n1_ := Aside0.mk (hb); have n2_ := Aside0.mk (ho); clear BK289; clear HB; clear HO_6; have BK289 := n0_; have HB := n1_; have HO296 := n2_; clear n0_ n1_ n2_; clear ho hb hg hat)); try go_wp2_with (first | ((with_reducible refine gate_builtin (b := .append) (xs := #[.tmp 37, .tmp 45]) rfl ?_); at_builtin; refine Kd.R_append (Kd.int .i64) (w0 := w) w.heap.size rfl (.tmp 37) (.tmp 45) 25 3 (.int .i64 0) 8 rfl Try.underlying25 info3 rfl (by decide) (by omega) u6 x6_1 (wrap64 ((wrap64 ((rd l1 x7_1) - (rd l0_0 x7_1))) + (rd l0_1 x7_1))) [.int .i64 (wrap64 ((wrap64 ((rd l1 x7_1) - (rd l0_0 x7_1))) + (rd l0_1 x7_1)))] (fun _ => True) (fun _ => False) rfl rfl ?aP (fun _ hk => hk.elim) ?aF ?aO ?aB ?aS ?aL ?_; (case aP => exact rfl); (case aB => exact bel); (case aF => exact (fun _ _ => trivial)); (case aO => exact (ownx HO_6)); (case aS => exact (below_size bel)); (case aL => have := LMc12.out; omega); intro v295 w14 ho hb hg hat; rw [← Ny294.out] at ho; have n0_ := Aside0.mk (blk_grown (g := gb289) (o := .cells #[.slice (some ad291) l0_0.length c0_0, .slice (some ad292) l0_1.length c0_1] 64 (0, 0)) blkz hg (Kd.R_ne HO_6.out BK289.out (by decide))); have n1_ := Aside0.mk (hb); have n2_ := Aside0.mk (ho); clear BK289; clear HB; clear HO_6; have BK289 := n0_; have HB := n1_; have HO296 := n2_; clear n0_ n1_ n2_; clear ho hb hg hat)))
          go_roundg k1
          case measure => have := HK1.out; omega
          case rel => exact ⟨(y294), (wrap64 (x7_1 + 1)), rsz, H', ⟨by have := HK1.out; omega⟩, ⟨by (with_reducible repeat (first | apply Kd.R_alloc | apply Kd.R_drewN | apply Kd.R_drew)); exact HO296.out⟩, ⟨blkz⟩, ⟨bel⟩⟩
         ·
          rw [if_neg c12] at H
          exact absurd H (by simp)
       ·
        rw [if_neg c9] at H
        exact absurd H (by simp)
     ·
      rw [if_neg c6] at H
      exact absurd H (by simp)
    ·
     rw [if_neg c5] at H
     exact absurd H (by simp)
   ·
    rw [if_neg c4] at H
    have c4b0 : decide (x7_1 < (l1.length : Int)) = false := decide_eq_false c4
    clear c4
    simp only [Option.some.injEq, Prod.mk.injEq] at H
    obtain ⟨rfl, rfl⟩ := H
    go_wp2
    repeat (go_quiet (fail); try go_wp2)
    go_ret2
    exact ⟨_, ezz, by (with_reducible repeat (first | apply Kd.R_alloc | apply Kd.R_drewN | apply Kd.R_drew)); exact HO_6.out, bel⟩

/-! ### dropperref06_text: function 98 -/
def dropperref06_text.l0 : Nat → List Int → ByteArray → Int → Option (ByteArray)
 | 0, _, _, _ => none
 | k + 1, x0, x3, x4 => if x4 < (x0.length : Int) then (if 0 ≤ x4 then (if x3.size + (Utf8.encode (wrap32 (wrap64 (65 + (rd x0 x4))))).size ≤ 9223372036854775807 then (dropperref06_text.l0 k x0 (x3 ++ (Utf8.encode (wrap32 (wrap64 (65 + (rd x0 x4)))))) (wrap64 (x4 + 1))) else (none)) else (none)) else (some x3)
def dropperref06_text.f (k : Nat) (l0 : List Int) : Option (ByteArray) := dropperref06_text.l0 k l0 (⟨#[]⟩ : ByteArray) 0
set_option maxHeartbeats 8000000 in
set_option maxRecDepth 100000 in
theorem dropperref06_text.calls (k : Nat) (A0 : Option Addr) (c0 : Nat) (l0 : List Int) (r : ByteArray) (w : World) (hr0 : Kd.C (Kd.int .i64) w A0 l0.length l0) (hc0 : l0.length ≤ c0) (h : dropperref06_text.f k l0 = some r) :
  Calls Try.prog 98 #[.slice A0 l0.length c0] w fun e w' => e = .returned (.string r) ∧ Drawn0 w w' := by
 have HR0 := Aside0.mk hr0
 have HC0 := Aside0.mk hc0
 clear hr0 hc0
 have H : (dropperref06_text.l0 k l0 (⟨#[]⟩ : ByteArray) 0) = some r := h
 clear h
 have H' := Aside0.mk H
 clear H
 go_enter Try.func98, Try.ntmps98
 go_wp2
 go_loopg [3, 4] k (fun kq v3 v4 w' => ∃ (x3_1 : ByteArray) (x4_1 : Int), v3 = .string x3_1 ∧ v4 = .int .i64 x4_1 ∧ Aside0 (dropperref06_text.l0 kq l0 x3_1 x4_1 = some r) ∧ Aside0 (kq ≤ k) ∧ Drawn0 w w')
 case atStart => exact ⟨((⟨#[]⟩ : ByteArray)), (0), rsz, rsz, H', ⟨Nat.le_refl _⟩, drz⟩
 case round =>
  clear H'
  obtain ⟨x3_1, x4_1, rfl, rfl, HA, HK1, ⟨m1, rfl⟩⟩ := hrel
  cases gk with
  | zero => exact absurd HA.out (by simp [dropperref06_text.l0])
  | succ k1 =>
   have H := HA.out
   clear HA
   simp only [dropperref06_text.l0] at H
   by_cases c2 : x4_1 < (l0.length : Int)
   ·
    rw [if_pos c2] at H
    have c2b0 : decide (x4_1 < (l0.length : Int)) = true := decide_eq_true c2
    clear c2
    by_cases c3 : 0 ≤ x4_1
    ·
     rw [if_pos c3] at H
     have c3b0 : decide (0 ≤ x4_1) = true := decide_eq_true c3
     clear c3
     by_cases c4 : x3_1.size + (Utf8.encode (wrap32 (wrap64 (65 + (rd l0 x4_1))))).size ≤ 9223372036854775807
     ·
      rw [if_pos c4] at H
      have c4b0 := eq_true c4
      have c4b1 : decide (x3_1.size + (Utf8.encode (wrap32 (wrap64 (65 + (rd l0 x4_1))))).size ≤ 9223372036854775807) = true := decide_eq_true c4
      try have c4b2 : (9223372036854775807 < x3_1.size + (Utf8.encode (wrap32 (wrap64 (65 + (rd l0 x4_1))))).size) = False := eq_false (Nat.not_lt.2 c4)
      have H' := Aside0.mk H
      clear H
      have p297 : 0 ≤ (x4_1 : Int) := of_decide_eq_true asz
      have q297 : x4_1 < (l0.length : Int) := of_decide_eq_true asz
      obtain ⟨ad297, e297, hx297_0⟩ := Kd.at_int HR0.out x4_1 p297 q297
      cases e297
      replace p297 := eq_true p297
      replace q297 := eq_true q297
      go_wp2
      go_roundg k1
      case measure => have := HK1.out; omega
      case rel => exact ⟨(x3_1 ++ (Utf8.encode (wrap32 (wrap64 (65 + (rd l0 x4_1)))))), (wrap64 (x4_1 + 1)), rsz, rsz, H', ⟨by have := HK1.out; omega⟩, drz⟩
     ·
      rw [if_neg c4] at H
      exact absurd H (by simp)
    ·
     rw [if_neg c3] at H
     exact absurd H (by simp)
   ·
    rw [if_neg c2] at H
    have c2b0 : decide (x4_1 < (l0.length : Int)) = false := decide_eq_false c2
    clear c2
    obtain rfl := Option.some.inj H
    go_wp2
    go_ret
    exact ⟨by first | rfl | (simp; done) | (simp [*]; done), drz⟩

end Go.Proofs.Ytgdfakmlpdeabaa.XKey