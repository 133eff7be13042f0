-- Written by wip/pack.py of this repo: texts of this claim, put together.
import Derived.Test.YtoilhnmdemnknaaDoorKFeedReachf
namespace Go.Proofs.YtoilhnmdemnknaaDoor.XFeed
open Go.RowKit Go.Proofs.YtoilhnmdemnknaaDoorW.PrintWords Go.Proofs.YtoilhnmdemnknaaDoorW.PrintLast Go.Proofs.YtoilhnmdemnknaaDoorW.PrintMore
attribute [local go_sem] max2_int min2_int max_two min_two max_three min_three max_four min_four   -- for this text's walks alone
set_option linter.unusedVariables false
set_option linter.unusedSimpArgs false
/-! ### dropperref05_IsShut: function 45 -/
mutual
def dropperref05_IsShut.l0 : Nat → List Int → List Int → List Bool → Int → Int → List (S69) → List (S71) → Option (Bool × Int)
 | 0, _, _, _, _, _, _, _ => none
 | k + 1, x1, x2, x8, x9, x759000, x759001, x759002 => if x9 < (x2.length : Int) then (if 0 ≤ x9 then ((dropperref05_Good.f k x759000 x759001 x759002 (rd x2 x9) x1).bind fun t765 => (if t765 = true then (if x9 > 0 then (if 0 ≤ (wrap64 (x9 - 1)) then (if (wrap64 (x9 - 1)) < (x2.length : Int) then (if (rd x2 x9) ≤ (rd x2 (wrap64 (x9 - 1))) then (some (false, 0)) else (if 0 ≤ (rd x2 x9) then (if (rd x2 x9) < (x8.length : Int) then (dropperref05_IsShut.l0 k x1 x2 (x8.set ((rd x2 x9) : Int).toNat true) (wrap64 (x9 + 1)) x759000 x759001 x759002) else (none)) else (none))) else (none)) else (none)) else (if 0 ≤ (rd x2 x9) then (if (rd x2 x9) < (x8.length : Int) then (dropperref05_IsShut.l0 k x1 x2 (x8.set ((rd x2 x9) : Int).toNat true) (wrap64 (x9 + 1)) x759000 x759001 x759002) else (none)) else (none))) else (some (false, 0)))) else (none)) else (dropperref05_IsShut.l1 k x1 x2 x8 0 x759000 x759001 x759002)
def dropperref05_IsShut.l1 : Nat → List Int → List Int → List Bool → Int → Int → List (S69) → List (S71) → Option (Bool × Int)
 | 0, _, _, _, _, _, _, _ => none
 | k + 1, x1, x2, x8, x10, x759000, x759001, x759002 => if x10 < (x2.length : Int) then (dropperref05_IsShut.l2 k x1 x2 x8 x10 0 x759000 x759001 x759002) else (some (true, 0))
def dropperref05_IsShut.l2 : Nat → List Int → List Int → List Bool → Int → Int → Int → List (S69) → List (S71) → Option (Bool × Int)
 | 0, _, _, _, _, _, _, _, _ => none
 | k + 1, x1, x2, x8, x10, x11, x759000, x759001, x759002 => if x11 < (x759001.length : Int) then (if 0 ≤ x10 then (if x10 < (x2.length : Int) then (if 0 ≤ x11 then (if 0 ≤ (Go.bits .xor .i64 (rd x2 x10) (shl .i64 1 x11)) then (if (Go.bits .xor .i64 (rd x2 x10) (shl .i64 1 x11)) < (x8.length : Int) then (if (rdOf false x8 (Go.bits .xor .i64 (rd x2 x10) (shl .i64 1 x11)) = true) then (dropperref05_IsShut.l2 k x1 x2 x8 x10 (wrap64 (x11 + 1)) x759000 x759001 x759002) else ((dropperref05_Good.f k x759000 x759001 x759002 (Go.bits .xor .i64 (rd x2 x10) (shl .i64 1 x11)) x1).bind fun t774 => (if t774 = true then (some (false, 0)) else (dropperref05_IsShut.l2 k x1 x2 x8 x10 (wrap64 (x11 + 1)) x759000 x759001 x759002)))) else (none)) else (none)) else (none)) else (none)) else (none)) else (dropperref05_IsShut.l1 k x1 x2 x8 (wrap64 (x10 + 1)) x759000 x759001 x759002)
end
def dropperref05_IsShut.f (k : Nat) (a0_0 : Int) (l0_1 : List (S69)) (l0_2 : List (S71)) (l1 : List Int) (l2 : List Int) : Option (Bool × Int) := (dropperref05_Valid.f k a0_0 l0_1 l0_2).bind fun t759 => (if t759 = true then ((dropperref05_IsKeep.f k a0_0 l0_1 l0_2 l1).bind fun t760 => (if t760 = true then (if 0 ≤ (shl .i64 1 (l0_1.length : Int)) then (if (shl .i64 1 (l0_1.length : Int) : Int).toNat ≤ 281474976710656 then (dropperref05_IsShut.l0 k l1 l2 (List.replicate (shl .i64 1 (l0_1.length : Int) : Int).toNat false) 0 a0_0 l0_1 l0_2) else (none)) else (none)) else (some (false, 2)))) else (some (false, 50)))
theorem dropperref05_IsShut.mono_l : ∀ k, (∀ y0 y1 y2 y3 y4 y5 y6, LeO (dropperref05_IsShut.l0 k y0 y1 y2 y3 y4 y5 y6) (dropperref05_IsShut.l0 (k + 1) y0 y1 y2 y3 y4 y5 y6)) ∧ (∀ y0 y1 y2 y3 y4 y5 y6, LeO (dropperref05_IsShut.l1 k y0 y1 y2 y3 y4 y5 y6) (dropperref05_IsShut.l1 (k + 1) y0 y1 y2 y3 y4 y5 y6)) ∧ (∀ y0 y1 y2 y3 y4 y5 y6 y7, LeO (dropperref05_IsShut.l2 k y0 y1 y2 y3 y4 y5 y6 y7) (dropperref05_IsShut.l2 (k + 1) y0 y1 y2 y3 y4 y5 y6 y7))
 | 0 => ⟨fun _ _ _ _ _ _ _ r h => by simp [dropperref05_IsShut.l0] at h, fun _ _ _ _ _ _ _ r h => by simp [dropperref05_IsShut.l1] at h, fun _ _ _ _ _ _ _ _ r h => by simp [dropperref05_IsShut.l2] at h⟩
 | k + 1 => by
  obtain ⟨ih0, ih1, ih2⟩ := dropperref05_IsShut.mono_l k
  refine ⟨?_, ?_, ?_⟩
  ·
   intro y0 y1 y2 y3 y4 y5 y6
   unfold dropperref05_IsShut.l0
   repeat' first
   | (with_reducible exact ih0 _ _ _ _ _ _ _)
   | (with_reducible exact ih1 _ _ _ _ _ _ _)
   | (with_reducible exact ih2 _ _ _ _ _ _ _ _)
   | (with_reducible exact dropperref05_Good.mono _ _ _ _ _ _)
   | (with_reducible exact dropperref05_IsKeep.mono _ _ _ _ _)
   | (with_reducible exact dropperref05_Valid.mono _ _ _ _)
   | (with_reducible exact LeO.refl _)
   | (with_reducible exact LeO.none _)
   | (with_reducible refine LeO.ite ?_ ?_)
   | (with_reducible refine LeO.bind ?_ (fun _ => ?_))
   | exact ih0 _ _ _ _ _ _ _
   | exact ih1 _ _ _ _ _ _ _
   | exact ih2 _ _ _ _ _ _ _ _
   | exact dropperref05_Good.mono _ _ _ _ _ _
   | exact dropperref05_IsKeep.mono _ _ _ _ _
   | exact dropperref05_Valid.mono _ _ _ _
   | exact LeO.none _
   | refine LeO.ite ?_ ?_
   | refine LeO.bind ?_ (fun _ => ?_)
  ·
   intro y0 y1 y2 y3 y4 y5 y6
   unfold dropperref05_IsShut.l1
   repeat' first
   | (with_reducible exact ih0 _ _ _ _ _ _ _)
   | (with_reducible exact ih1 _ _ _ _ _ _ _)
   | (with_reducible exact ih2 _ _ _ _ _ _ _ _)
   | (with_reducible exact dropperref05_Good.mono _ _ _ _ _ _)
   | (with_reducible exact dropperref05_IsKeep.mono _ _ _ _ _)
   | (with_reducible exact dropperref05_Valid.mono _ _ _ _)
   | (with_reducible exact LeO.refl _)
   | (with_reducible exact LeO.none _)
   | (with_reducible refine LeO.ite ?_ ?_)
   | (with_reducible refine LeO.bind ?_ (fun _ => ?_))
   | exact ih0 _ _ _ _ _ _ _
   | exact ih1 _ _ _ _ _ _ _
   | exact ih2 _ _ _ _ _ _ _ _
   | exact dropperref05_Good.mono _ _ _ _ _ _
   | exact dropperref05_IsKeep.mono _ _ _ _ _
   | exact dropperref05_Valid.mono _ _ _ _
   | exact LeO.none _
   | refine LeO.ite ?_ ?_
   | refine LeO.bind ?_ (fun _ => ?_)
  ·
   intro y0 y1 y2 y3 y4 y5 y6 y7
   unfold dropperref05_IsShut.l2
   repeat' first
   | (with_reducible exact ih0 _ _ _ _ _ _ _)
   | (with_reducible exact ih1 _ _ _ _ _ _ _)
   | (with_reducible exact ih2 _ _ _ _ _ _ _ _)
   | (with_reducible exact dropperref05_Good.mono _ _ _ _ _ _)
   | (with_reducible exact dropperref05_IsKeep.mono _ _ _ _ _)
   | (with_reducible exact dropperref05_Valid.mono _ _ _ _)
   | (with_reducible exact LeO.refl _)
   | (with_reducible exact LeO.none _)
   | (with_reducible refine LeO.ite ?_ ?_)
   | (with_reducible refine LeO.bind ?_ (fun _ => ?_))
   | exact ih0 _ _ _ _ _ _ _
   | exact ih1 _ _ _ _ _ _ _
   | exact ih2 _ _ _ _ _ _ _ _
   | exact dropperref05_Good.mono _ _ _ _ _ _
   | exact dropperref05_IsKeep.mono _ _ _ _ _
   | exact dropperref05_Valid.mono _ _ _ _
   | exact LeO.none _
   | refine LeO.ite ?_ ?_
   | refine LeO.bind ?_ (fun _ => ?_)
theorem dropperref05_IsShut.mono : ∀ a0 a1 a2 a3 a4 k, LeO (dropperref05_IsShut.f k a0 a1 a2 a3 a4) (dropperref05_IsShut.f (k + 1) a0 a1 a2 a3 a4) := by
 intro a0 a1 a2 a3 a4 k
 obtain ⟨ih0, ih1, ih2⟩ := dropperref05_IsShut.mono_l k
 unfold dropperref05_IsShut.f
 repeat' first
   | (with_reducible exact ih0 _ _ _ _ _ _ _)
   | (with_reducible exact ih1 _ _ _ _ _ _ _)
   | (with_reducible exact ih2 _ _ _ _ _ _ _ _)
   | (with_reducible exact dropperref05_Good.mono _ _ _ _ _ _)
   | (with_reducible exact dropperref05_IsKeep.mono _ _ _ _ _)
   | (with_reducible exact dropperref05_Valid.mono _ _ _ _)
   | (with_reducible exact LeO.refl _)
   | (with_reducible exact LeO.none _)
   | (with_reducible refine LeO.ite ?_ ?_)
   | (with_reducible refine LeO.bind ?_ (fun _ => ?_))
   | exact ih0 _ _ _ _ _ _ _
   | exact ih1 _ _ _ _ _ _ _
   | exact ih2 _ _ _ _ _ _ _ _
   | exact dropperref05_Good.mono _ _ _ _ _ _
   | exact dropperref05_IsKeep.mono _ _ _ _ _
   | exact dropperref05_Valid.mono _ _ _ _
   | exact LeO.none _
   | refine LeO.ite ?_ ?_
   | refine LeO.bind ?_ (fun _ => ?_)
def dropperref05_IsShut.T9 : Bool × List (List Nat × List Nat) := (true, [([], []), ([], []), ([], []), ([1, 2], [1, 2]), ([3], [3]), ([], []), ([0, 4, 5], [0, 4, 5]), ([6], [6]), ([7, 6], [7]), ([8], [8]), ([9, 8], [8, 9]), ([10, 8, 8], [8, 10]), ([11], [11]), ([11], [11]), ([12, 13, 11], [11, 12, 13]), ([14, 11], [11, 14]), ([11], [11]), ([11], [11]), ([17, 11], [11, 17]), ([16, 18, 11], [11, 16, 18]), ([19, 11], [11, 19]), ([15, 20, 11], [11, 15, 20]), ([11, 21, 8], [8, 11, 21]), ([8, 22], [8, 22])])
def dropperref05_IsShut.B9 : List Nat := [0, 0, 0, 6, 14, 0, 63, 127, 255, 511, 1023, 2047, 4095, 4095, 16383, 32767, 4095, 4095, 135167, 462847, 987135, 2097151, 4194303, 8388607]
theorem dropperref05_IsShut.tab9 : rtab .any (opsOf Tryd.f45 9) = dropperref05_IsShut.T9 := by kernel_rfl
theorem dropperref05_IsShut.bits9 : waitsOk dropperref05_IsShut.T9.2 dropperref05_IsShut.B9 = true := by kernel_rfl
def dropperref05_IsShut.T18 : Bool × List (List Nat × List Nat) := (true, [([], []), ([], []), ([0, 1], [0, 1]), ([2], [2]), ([], []), ([4], [4]), ([3, 5], [3, 5]), ([6, 0, 1, 2, 3, 4, 5, 6], [6])])
def dropperref05_IsShut.B18 : List Nat := [0, 0, 3, 7, 0, 16, 63, 127]
theorem dropperref05_IsShut.tab18 : rtab .any (opsOf Tryd.f45 18) = dropperref05_IsShut.T18 := by kernel_rfl
theorem dropperref05_IsShut.bits18 : waitsOk dropperref05_IsShut.T18.2 dropperref05_IsShut.B18 = true := by kernel_rfl
set_option maxHeartbeats 8000000 in
set_option maxRecDepth 100000 in
theorem dropperref05_IsShut.calls (k : Nat) (a0_0 : Int) (A0_1 : Option Addr) (c0_1 : Nat) (l0_1 : List (S69)) (A0_2 : Option Addr) (c0_2 : Nat) (l0_2 : List (S71)) (A1 : Option Addr) (c1 : Nat) (l1 : List Int) (A2 : Option Addr) (c2 : Nat) (l2 : List Int) (r1 : Bool) (r2 : Int) (w : World) (hr0_1 : Kd.C k69 w A0_1 l0_1.length l0_1) (hc0_1 : l0_1.length ≤ c0_1) (hr0_2 : Kd.C k71 w A0_2 l0_2.length l0_2) (hc0_2 : l0_2.length ≤ c0_2) (hr1 : Kd.C (Kd.int .i64) w A1 l1.length l1) (hc1 : l1.length ≤ c1) (hr2 : Kd.C (Kd.int .i64) w A2 l2.length l2) (hc2 : l2.length ≤ c2) (h : dropperref05_IsShut.f k a0_0 l0_1 l0_2 l1 l2 = some (r1, r2)) :
  Calls Tryd.prog 45 #[.agg #[.int .i64 a0_0, .slice A0_1 l0_1.length c0_1, .slice A0_2 l0_2.length c0_2], .slice A1 l1.length c1, .slice A2 l2.length c2] w fun e w' => e = .returned (.tuple #[.bool r1, .int .i64 r2]) ∧ Below w.heap.size w w' := by
 have hu25 := Tryd.underlying25
 have HR0_1 := Aside0.mk hr0_1
 have HC0_1 := Aside0.mk hc0_1
 clear hr0_1 hc0_1
 have HR0_2 := Aside0.mk hr0_2
 have HC0_2 := Aside0.mk hc0_2
 clear hr0_2 hc0_2
 have HR1 := Aside0.mk hr1
 have HC1 := Aside0.mk hc1
 clear hr1 hc1
 have HR2 := Aside0.mk hr2
 have HC2 := Aside0.mk hc2
 clear hr2 hc2
 have HB := Aside0.mk (Below.refl w.heap.size w)
 have H : ((dropperref05_Valid.f k a0_0 l0_1 l0_2).bind fun t759 => (if t759 = true then ((dropperref05_IsKeep.f k a0_0 l0_1 l0_2 l1).bind fun t760 => (if t760 = true then (if 0 ≤ (shl .i64 1 (l0_1.length : Int)) then (if (shl .i64 1 (l0_1.length : Int) : Int).toNat ≤ 281474976710656 then (dropperref05_IsShut.l0 k l1 l2 (List.replicate (shl .i64 1 (l0_1.length : Int) : Int).toNat false) 0 a0_0 l0_1 l0_2) else (none)) else (none)) else (some (false, 2)))) else (some (false, 50)))) = some (r1, r2) := h
 clear h
 replace H := Option.bind_eq_some_iff.mp H
 obtain ⟨t759, A40, H⟩ := H
 replace H : (if t759 = true then ((dropperref05_IsKeep.f k a0_0 l0_1 l0_2 l1).bind fun t760 => (if t760 = true then (if 0 ≤ (shl .i64 1 (l0_1.length : Int)) then (if (shl .i64 1 (l0_1.length : Int) : Int).toNat ≤ 281474976710656 then (dropperref05_IsShut.l0 k l1 l2 (List.replicate (shl .i64 1 (l0_1.length : Int) : Int).toNat false) 0 a0_0 l0_1 l0_2) else (none)) else (none)) else (some (false, 2)))) else (some (false, 50))) = some (r1, r2) := H
 have A4 := Aside0.mk A40
 clear A40
 by_cases c5 : t759 = true
 ·
  subst c5
  have H1 : ((dropperref05_IsKeep.f k a0_0 l0_1 l0_2 l1).bind fun t760 => (if t760 = true then (if 0 ≤ (shl .i64 1 (l0_1.length : Int)) then (if (shl .i64 1 (l0_1.length : Int) : Int).toNat ≤ 281474976710656 then (dropperref05_IsShut.l0 k l1 l2 (List.replicate (shl .i64 1 (l0_1.length : Int) : Int).toNat false) 0 a0_0 l0_1 l0_2) else (none)) else (none)) else (some (false, 2)))) = some (r1, r2) := by rw [if_pos rfl] at H; exact H
  clear H
  have H := H1
  clear H1
  replace H := Option.bind_eq_some_iff.mp H
  obtain ⟨t760, A60, H⟩ := H
  replace H : (if t760 = true then (if 0 ≤ (shl .i64 1 (l0_1.length : Int)) then (if (shl .i64 1 (l0_1.length : Int) : Int).toNat ≤ 281474976710656 then (dropperref05_IsShut.l0 k l1 l2 (List.replicate (shl .i64 1 (l0_1.length : Int) : Int).toNat false) 0 a0_0 l0_1 l0_2) else (none)) else (none)) else (some (false, 2))) = some (r1, r2) := H
  have A6 := Aside0.mk A60
  clear A60
  by_cases c7 : t760 = true
  ·
   subst c7
   have H1 : (if 0 ≤ (shl .i64 1 (l0_1.length : Int)) then (if (shl .i64 1 (l0_1.length : Int) : Int).toNat ≤ 281474976710656 then (dropperref05_IsShut.l0 k l1 l2 (List.replicate (shl .i64 1 (l0_1.length : Int) : Int).toNat false) 0 a0_0 l0_1 l0_2) else (none)) else (none)) = some (r1, r2) := by rw [if_pos rfl] at H; exact H
   clear H
   have H := H1
   clear H1
   obtain ⟨ji8, hji8⟩ : ∃ j_ : Int, (shl .i64 1 (l0_1.length : Int)) = j_ := ⟨_, rfl⟩
   replace H : (if 0 ≤ (ji8) then (if (ji8 : Int).toNat ≤ 281474976710656 then (dropperref05_IsShut.l0 k l1 l2 (List.replicate (ji8 : Int).toNat false) 0 a0_0 l0_1 l0_2) else (none)) else (none)) = some (r1, r2) := by first | (rw [hji8] at H; exact H) | (simp only [hji8] at H ⊢; exact H)
   (try rw [hji8] at A4)
   (try rw [hji8] at A6)
   have hji8_ : (IntKind.i64.wrap (1 * 2 ^ min (l0_1.length : Int).toNat 64)) = ji8 := hji8
   have hji8z : (l0_1.length : Int) ≤ 64 → (IntKind.i64.wrap (1 * 2 ^ (l0_1.length : Int).toNat)) = ji8 := shl_small hji8
   have hji8p : (IntKind.i64.wrap (1 * 2 ^ min l0_1.length 64)) = ji8 := hji8_
   have hji8q : (l0_1.length : Int) ≤ 64 → (IntKind.i64.wrap (1 * 2 ^ l0_1.length)) = ji8 := hji8z
   have hji8r : (IntKind.i64.wrap (2 ^ min l0_1.length 64)) = ji8 := by have h_ := hji8p; rw [Int.one_mul] at h_; exact h_
   have hji8s : (l0_1.length : Int) ≤ 64 → (IntKind.i64.wrap (2 ^ l0_1.length)) = ji8 := fun hle_ => by have h_ := hji8q hle_; rw [Int.one_mul] at h_; exact h_
   have hji8u : (IntKind.i64.wrap (2 ^ min (l0_1.length : Int).toNat 64)) = ji8 := by have h_ := hji8_; rw [Int.one_mul] at h_; exact h_
   have hji8v : (l0_1.length : Int) ≤ 64 → (IntKind.i64.wrap (2 ^ (l0_1.length : Int).toNat)) = ji8 := fun hle_ => by have h_ := hji8z hle_; rw [Int.one_mul] at h_; exact h_
   have hji8y : (wrap64 (1 * 2 ^ min (l0_1.length : Int).toNat 64)) = ji8 := (i64_w _).symm.trans hji8_
   have hji8x : (l0_1.length : Int) ≤ 64 → (wrap64 (1 * 2 ^ (l0_1.length : Int).toNat)) = ji8 := fun h_ => (i64_w _).symm.trans (hji8z h_)
   by_cases c9 : 0 ≤ (ji8)
   ·
    rw [if_pos c9] at H
    have c9b0 := eq_true c9
    have c9b1 : decide (0 ≤ (ji8)) = true := decide_eq_true c9
    clear c9
    by_cases c10 : (ji8 : Int).toNat ≤ 281474976710656
    ·
     rw [if_pos c10] at H
     have c10b0 := eq_true c10
     have c10b1 : decide ((ji8 : Int).toNat ≤ 281474976710656) = true := decide_eq_true c10
     clear c10
     obtain ⟨y761, hy761⟩ : ∃ y_ : List Bool, y_ = (List.replicate (ji8 : Int).toNat false) := ⟨_, rfl⟩
     replace H : (dropperref05_IsShut.l0 k l1 l2 y761 0 a0_0 l0_1 l0_2) = some (r1, r2) := by first | (rw [hy761]; with_reducible exact H) | (have H2_ := (Option.bind_some _ _).symm.trans H; rw [hy761]; with_reducible exact H2_) | (have H2_ := (Option.bind_some _ _).symm.trans H; with_reducible exact H2_) | with_reducible exact H | (rw [hy761]; exact H) | exact H
     have Ny761 := Aside0.mk hy761
     clear hy761
     have H' := Aside0.mk H
     clear H
     go_enter Tryd.func45, Tryd.ntmps45
     go_wp2_with (first | ((with_reducible refine gate_dst (N := 3) rfl ?_); refine box_event ?hg (N := 3) ?hd (cs := #[.int .i64 a0_0, .slice A0_1 l0_1.length c0_1, .slice A0_2 l0_2.length c0_2]) (t := 25) ?hr ?_; (case hd => rfl); (case hg => rfl); (case hr => first | (go_simp; done) | (go_simp; rfl)); intro gb758 hg w11 hbox hb; have BK758 := Aside0.mk (hbox); have GW758 := bsz (w := w) hg; have GE758 := GW758; replace HB := Aside0.mk (below_step bel hb); clear hb hbox hg; have hcz12_0 := blkc BK758.out 0 (.int .i64 a0_0) rfl; have hcz12_1 := blkc BK758.out 1 (.slice A0_1 l0_1.length c0_1) rfl; have hcz12_2 := blkc BK758.out 2 (.slice A0_2 l0_2.length c0_2) rfl) | ((with_reducible refine gate_callee (f := 20) rfl ?_); refine goesL_ (some 15) rfl rfl Tryd.func20 (by kernel_rfl) rfl #[.agg #[.int .i64 a0_0, .slice A0_1 l0_1.length c0_1, .slice A0_2 l0_2.length c0_2]] rfl mapz ?_; (with_reducible refine (dropperref05_Valid.calls k a0_0 _ _ l0_1 _ _ l0_2 true _ ?side1 ?side2 ?side3 ?side4 A4.out).mono ?_); (case side1 => exact cbz HR0_1); (case side2 => exact HC0_1.out); (case side3 => exact cbz HR0_2); (case side4 => exact HC0_2.out); rintro e w13 ⟨rfl, hb⟩; refine ⟨_, rfl, ?_⟩; replace BK758 := Aside0.mk (blk_below (g := gb758) blkz hb); replace HB := Aside0.mk (below_step bel hb); (try clear hb); (try clear hb2); (try clear hk); (try clear hi); have hcz14_0 := blkc BK758.out 0 (.int .i64 a0_0) rfl; have hcz14_1 := blkc BK758.out 1 (.slice A0_1 l0_1.length c0_1) rfl; have hcz14_2 := blkc BK758.out 2 (.slice A0_2 l0_2.length c0_2) rfl) | ((with_reducible refine gate_callee (f := 88) rfl ?_); refine goesL_ (some 20) rfl rfl Tryd.func88 (by kernel_rfl) rfl #[.agg #[.int .i64 a0_0, .slice A0_1 l0_1.length c0_1, .slice A0_2 l0_2.length c0_2], .slice A1 l1.length c1] rfl mapz ?_; (with_reducible refine (dropperref05_IsKeep.calls k a0_0 _ _ l0_1 _ _ l0_2 _ _ l1 true _ ?side1 ?side2 ?side3 ?side4 ?side5 ?side6 A6.out).mono ?_); (case side1 => exact cbz HR0_1); (case side2 => exact HC0_1.out); (case side3 => exact cbz HR0_2); (case side4 => exact HC0_2.out); (case side5 => exact cbz HR1); (case side6 => exact HC1.out); rintro e w15 ⟨rfl, hb⟩; refine ⟨_, rfl, ?_⟩; replace BK758 := Aside0.mk (blk_below (g := gb758) blkz hb); replace HB := Aside0.mk (below_step bel hb); (try clear hb); (try clear hb2); (try clear hk); (try clear hi); have hcz16_0 := blkc BK758.out 0 (.int .i64 a0_0) rfl; have hcz16_1 := blkc BK758.out 1 (.slice A0_1 l0_1.length c0_1) rfl; have hcz16_2 := blkc BK758.out 2 (.slice A0_2 l0_2.length c0_2) rfl) | ((with_reducible refine gate_dst (N := 26) rfl ?_); refine Kd.R_make Kd.bool _ 4 rfl (N := 26) rfl 92 _ _ rfl ji8 rfl rfl Tryd.underlying92 (.bool false) 1 info4 rfl (by decide) (by omega) false (ok := fun _ => True) (okp := fun _ => True) rfl (fun _ hk => hk) trivial (of_decide_eq_true asz) (Nat.le_trans (Nat.mul_le_mul_right _ (of_decide_eq_true asz : ji8.toNat ≤ 281474976710656)) (by omega)) (Below.refl _ _) (Nat.le_refl _) ?_; intro v762 w17 ho18 hb hg_ hnew_; clear hg_ hnew_; (first | rw [← Ny761.out] at ho18 | (simp only [Int.reduceToNat] at ho18; rw [← Ny761.out] at ho18)); have HO763 := Aside0.mk (Kd.R_lower ho18 (below_size bel)); replace BK758 := Aside0.mk (blk_below (g := gb758) blkz hb); replace HB := Aside0.mk (below_step bel hb); clear hb ho18))
     go_loopg [9] k (fun kq v9 w' => ∃ (x8_1 : List Bool) (x9_1 : Int), v9 = .int .i64 x9_1 ∧ Aside0 (dropperref05_IsShut.l0 kq l1 l2 x8_1 x9_1 a0_0 l0_1 l0_2 = some (r1, r2)) ∧ Aside0 (kq ≤ k) ∧ Aside0 (Kd.R Kd.bool 4 w' w.heap.size (fun _ => True) v762 x8_1) ∧ Aside0 (w'.heap[gb758]? = some (.cells #[.int .i64 a0_0, (.slice A0_1 l0_1.length c0_1), (.slice A0_2 l0_2.length c0_2)] 25 (0, 0))) ∧ Aside0 (Below w.heap.size w w'))
     case atStart => exact ⟨(y761), (0), rsz, H', ⟨Nat.le_refl _⟩, ⟨by (with_reducible repeat (first | apply Kd.R_alloc | apply Kd.R_drewN | apply Kd.R_drew)); exact HO763.out⟩, ⟨blkz⟩, ⟨bel⟩⟩
     case round =>
      clear H'
      try clear c1
      try clear c2
      try clear p2
      try clear c4
      try clear c5
      try clear p6
      try clear c7
      try clear c8
      try clear c9
      try clear c9b0
      try clear c9b1
      try clear c10
      try clear c10b0
      try clear c10b1
      try clear hcz12_0
      try clear hcz12_1
      try clear hcz12_2
      try clear hcz14_0
      try clear hcz14_1
      try clear hcz14_2
      try clear hcz16_0
      try clear hcz16_1
      try clear hcz16_2
      try clear hfz12_0
      try clear hfz12_1
      try clear hfz12_2
      try clear hfz14_0
      try clear hfz14_1
      try clear hfz14_2
      try clear hfz16_0
      try clear hfz16_1
      try clear hfz16_2
      obtain ⟨x8_1, x9_1, rfl, HA, HK1, HO_8, BK758, HB⟩ := hrel
      cases gk with
      | zero => exact absurd HA.out (by simp [dropperref05_IsShut.l0])
      | succ k1 =>
       have H := HA.out
       clear HA
       simp only [dropperref05_IsShut.l0] at H
       by_cases c19 : x9_1 < (l2.length : Int)
       ·
        rw [if_pos c19] at H
        have c19b0 : decide (x9_1 < (l2.length : Int)) = true := decide_eq_true c19
        clear c19
        by_cases c20 : 0 ≤ x9_1
        ·
         rw [if_pos c20] at H
         have c20b0 : decide (0 ≤ x9_1) = true := decide_eq_true c20
         clear c20
         replace H := Option.bind_eq_some_iff.mp H
         obtain ⟨t765, A210, H⟩ := H
         replace H : (if t765 = true then (if x9_1 > 0 then (if 0 ≤ (wrap64 (x9_1 - 1)) then (if (wrap64 (x9_1 - 1)) < (l2.length : Int) then (if (rd l2 x9_1) ≤ (rd l2 (wrap64 (x9_1 - 1))) then (some (false, 0)) else (if 0 ≤ (rd l2 x9_1) then (if (rd l2 x9_1) < (x8_1.length : Int) then (dropperref05_IsShut.l0 k1 l1 l2 (x8_1.set ((rd l2 x9_1) : Int).toNat true) (wrap64 (x9_1 + 1)) a0_0 l0_1 l0_2) else (none)) else (none))) else (none)) else (none)) else (if 0 ≤ (rd l2 x9_1) then (if (rd l2 x9_1) < (x8_1.length : Int) then (dropperref05_IsShut.l0 k1 l1 l2 (x8_1.set ((rd l2 x9_1) : Int).toNat true) (wrap64 (x9_1 + 1)) a0_0 l0_1 l0_2) else (none)) else (none))) else (some (false, 0))) = some (r1, r2) := H
         have A21 := Aside0.mk A210
         clear A210
         by_cases c22 : t765 = true
         ·
          subst c22
          have H1 : (if x9_1 > 0 then (if 0 ≤ (wrap64 (x9_1 - 1)) then (if (wrap64 (x9_1 - 1)) < (l2.length : Int) then (if (rd l2 x9_1) ≤ (rd l2 (wrap64 (x9_1 - 1))) then (some (false, 0)) else (if 0 ≤ (rd l2 x9_1) then (if (rd l2 x9_1) < (x8_1.length : Int) then (dropperref05_IsShut.l0 k1 l1 l2 (x8_1.set ((rd l2 x9_1) : Int).toNat true) (wrap64 (x9_1 + 1)) a0_0 l0_1 l0_2) else (none)) else (none))) else (none)) else (none)) else (if 0 ≤ (rd l2 x9_1) then (if (rd l2 x9_1) < (x8_1.length : Int) then (dropperref05_IsShut.l0 k1 l1 l2 (x8_1.set ((rd l2 x9_1) : Int).toNat true) (wrap64 (x9_1 + 1)) a0_0 l0_1 l0_2) else (none)) else (none))) = some (r1, r2) := by rw [if_pos rfl] at H; exact H
          clear H
          have H := H1
          clear H1
          by_cases c23 : x9_1 > 0
          ·
           rw [if_pos c23] at H
           have c23b0 : decide (0 < x9_1) = true := decide_eq_true c23
           clear c23
           obtain ⟨ji24, hji24⟩ : ∃ j_ : Int, (wrap64 (x9_1 - 1)) = j_ := ⟨_, rfl⟩
           replace H : (if 0 ≤ (ji24) then (if (ji24) < (l2.length : Int) then (if (rd l2 x9_1) ≤ (rd l2 (ji24)) then (some (false, 0)) else (if 0 ≤ (rd l2 x9_1) then (if (rd l2 x9_1) < (x8_1.length : Int) then (dropperref05_IsShut.l0 k1 l1 l2 (x8_1.set ((rd l2 x9_1) : Int).toNat true) (wrap64 (x9_1 + 1)) a0_0 l0_1 l0_2) else (none)) else (none))) else (none)) else (none)) = some (r1, r2) := by first | (rw [hji24] at H; exact H) | (simp only [hji24] at H ⊢; exact H)
           (try rw [hji24] at A21)
           have hji24w : (IntKind.i64.wrap (x9_1 - 1)) = ji24 := (i64_w _).trans hji24
           by_cases c25 : 0 ≤ (ji24)
           ·
            rw [if_pos c25] at H
            have c25b0 : decide (0 ≤ (ji24)) = true := decide_eq_true c25
            clear c25
            by_cases c26 : (ji24) < (l2.length : Int)
            ·
             rw [if_pos c26] at H
             have c26b0 : decide ((ji24) < (l2.length : Int)) = true := decide_eq_true c26
             clear c26
             by_cases c27 : (rd l2 x9_1) ≤ (rd l2 (ji24))
             ·
              rw [if_pos c27] at H
              have c27b0 : decide ((rd l2 x9_1) ≤ (rd l2 (ji24))) = true := decide_eq_true c27
              clear c27
              simp only [Option.some.injEq, Prod.mk.injEq] at H
              obtain ⟨rfl, rfl⟩ := H
              try go_wp2
              have n0_ := Aside0.mk (Kd.R_drew HO_8.out)
              have n1_ := Aside0.mk (blk_drew BK758.out)
              have n2_ := Aside0.mk (below_drew1 HB.out)
              clear HO_8
              clear BK758
              clear HB
              have HO_8 := n0_
              have BK758 := n1_
              have HB := n2_
              clear n0_ n1_ n2_
              have p764 : 0 ≤ (x9_1 : Int) := of_decide_eq_true asz
              have q764 : x9_1 < (l2.length : Int) := of_decide_eq_true asz
              obtain ⟨ad764, e764, hx764_0⟩ := Kd.at_int HR2.out x9_1 p764 q764
              have hw764_0 := hx764_0
              cases e764
              replace hx764_0 := (HB.out.cell (World.block_lt_of_cell? w _ hx764_0)).trans hx764_0
              replace p764 := eq_true p764
              replace q764 := eq_true q764
              have p766 : 0 ≤ (x9_1 : Int) := of_decide_eq_true asz
              have q766 : x9_1 < (l2.length : Int) := of_decide_eq_true asz
              obtain ⟨ad766, e766, hx766_0⟩ := Kd.at_int HR2.out x9_1 p766 q766
              have hw766_0 := hx766_0
              obtain rfl : ad764 = ad766 := (by injection e766)
              replace hx766_0 := (HB.out.cell (World.block_lt_of_cell? w _ hx766_0)).trans hx766_0
              replace p766 := eq_true p766
              replace q766 := eq_true q766
              have p767 : 0 ≤ ((ji24) : Int) := of_decide_eq_true asz
              have q767 : (ji24) < (l2.length : Int) := of_decide_eq_true asz
              obtain ⟨ad767, e767, hx767_0⟩ := Kd.at_int HR2.out (ji24) p767 q767
              have hw767_0 := hx767_0
              obtain rfl : ad764 = ad767 := (by injection e767)
              replace hx767_0 := (HB.out.cell (World.block_lt_of_cell? w _ hx767_0)).trans hx767_0
              replace p767 := eq_true p767
              replace q767 := eq_true q767
              refine start_ (n := 24) (S := fun w' => w'.cell? ⟨gb758, 0, none⟩ = some (.int .i64 a0_0) ∧ w'.cell? ⟨gb758, 1, none⟩ = some (.slice A0_1 l0_1.length c0_1) ∧ w'.cell? ⟨gb758, 2, none⟩ = some (.slice A0_2 l0_2.length c0_2) ∧ w'.cell? (ad764.add (x9_1).toNat) = some (.int .i64 (rd l2 x9_1)) ∧ w'.cell? (ad764.add (x9_1).toNat) = some (.int .i64 (rd l2 x9_1)) ∧ w'.cell? (ad764.add ((ji24)).toNat) = some (.int .i64 (rd l2 (ji24)))) (ds := []) #[false, false, false, false, false, false, false, false, false, false, false, false, false, false, false, false, false, false, false, false, false, false, false, false] (by kernel_rfl) rfl rfl ⟨(blk_cell BK758.out 0).trans rfl, (blk_cell BK758.out 1).trans rfl, (blk_cell BK758.out 2).trans rfl, ((HB.out.cell (World.block_lt_of_cell? w _ hw764_0)).trans hw764_0), ((HB.out.cell (World.block_lt_of_cell? w _ hw766_0)).trans hw766_0), ((HB.out.cell (World.block_lt_of_cell? w _ hw767_0)).trans hw767_0)⟩ (fun hHeld => ?_); refine with_tabW dropperref05_IsShut.tab9 dropperref05_IsShut.bits9 (fun HT_ HW_ => ?_)
              generalize wr.drew = w28 at HO_8 BK758 HB hx764_0 hx766_0 hx767_0 hHeld ⊢
              refine pst (i := 1) (N := some 34) (bz 24 2) (any_of HT_.out (by kernel_rfl)) ?_
              refine pst (i := 2) (N := some 35) (bz 24 6) (any_of HT_.out (by kernel_rfl)) ?_
              refine pst (i := 3) (N := some 36) (bz 24 14) (any_of HT_.out (by kernel_rfl)) ?_
              refine pst (i := 5) (N := some 38) (bz 24 46) (any_of HT_.out (by kernel_rfl)) ?_
              refine tst6 (i := 0) (N := some 33) (bz 24 47) (take_ofW HT_.out HW_.out (by kernel_rfl)) hHeld ?_
              refine tst6 (i := 4) (N := some 37) (bz 24 63) (take_ofW HT_.out HW_.out (by kernel_rfl)) hHeld ?_
              refine one_ (i := 6) (N := some 39) #[true, true, true, true, true, true, true, false, false, false, false, false, false, false, false, false, false, false, false, false, false, false, false, false] rfl rfl (one_of HT_.out (by kernel_rfl)) (by decide) (fun K hK => ?_)
              refine goes_ Tryd.func74 (by kernel_rfl) rfl #[.agg #[.int .i64 a0_0, .slice A0_1 l0_1.length c0_1, .slice A0_2 l0_2.length c0_2], .int .i64 (rd l2 x9_1), .slice A1 l1.length c1] (by rfl) rfl rfl mapz ?_
              with_reducible refine (dropperref05_Good.calls k1 a0_0 _ _ l0_1 _ _ l0_2 (rd l2 x9_1) _ _ l1 true _ ?side1 ?side2 ?side3 ?side4 ?side5 ?side6 A21.out).mono ?_
              (case side1 => exact cbz HR0_1)
              (case side2 => exact HC0_1.out)
              (case side3 => exact cbz HR0_2)
              (case side4 => exact HC0_2.out)
              (case side5 => exact cbz HR1)
              (case side6 => exact HC1.out)
              rintro e w29 ⟨rfl, hb⟩
              refine ⟨_, rfl, ?_⟩
              have n0_ := Aside0.mk (Kd.R_below (ownx HO_8) hb)
              have n1_ := Aside0.mk (blk_below (g := gb758) blkz hb)
              have n2_ := Aside0.mk (below_step bel hb)
              clear HO_8
              clear BK758
              clear HB
              have HO_8 := n0_
              have BK758 := n1_
              have HB := n2_
              clear n0_ n1_ n2_
              (try clear hb)
              (try clear hb2)
              (try clear hk)
              (try clear hi)
              refine hK.out _ _ ⟨(blk_cell BK758.out 0).trans rfl, (blk_cell BK758.out 1).trans rfl, (blk_cell BK758.out 2).trans rfl, ((HB.out.cell (World.block_lt_of_cell? w _ hw764_0)).trans hw764_0), ((HB.out.cell (World.block_lt_of_cell? w _ hw766_0)).trans hw766_0), ((HB.out.cell (World.block_lt_of_cell? w _ hw767_0)).trans hw767_0)⟩ (fun hHeld => ?_)
              clear hK K
              refine norm_ (a' := ?_) ?_ ?_
              rotate_left
              ·
               show Act.put _ (some 39) _ = _
               simp only [Act.put, List.setIfInBounds_toArray, List.set_cons_zero, List.set_cons_succ, i64_w, i32_w]
               rfl
              refine pst (i := 7) (N := some 40) (bz 24 255) (any_of HT_.out (by kernel_rfl)) ?_
              refine pst (i := 8) (N := some 41) (bz 24 511) (any_of HT_.out (by kernel_rfl)) ?_
              refine pst (i := 9) (N := some 42) (bz 24 1023) (any_of HT_.out (by kernel_rfl)) ?_
              refine pst (i := 10) (N := some 43) (bz 24 2047) (any_of HT_.out (by kernel_rfl)) ?_
              refine pst (i := 11) (N := some 44) (bz 24 4095) (any_of HT_.out (by kernel_rfl)) ?_
              refine pst (i := 12) (N := some 45) (bz 24 8191) (any_of HT_.out (by kernel_rfl)) ?_
              refine pst (i := 13) (N := some 46) (bz 24 16383) (any_of HT_.out (by kernel_rfl)) ?_
              refine pst (i := 14) (N := some 47) (bz 24 32767) (any_of HT_.out (by kernel_rfl)) ?_
              refine pst (i := 16) (N := some 49) (bz 24 98303) (any_of HT_.out (by kernel_rfl)) ?_
              refine pst (i := 17) (N := some 50) (bz 24 229375) (any_of HT_.out (by kernel_rfl)) ?_
              refine pst (i := 18) (N := some 51) (bz 24 491519) (any_of HT_.out (by kernel_rfl)) ?_
              refine pst (i := 19) (N := some 52) (bz 24 1015807) (any_of HT_.out (by kernel_rfl)) ?_
              refine tst6 (i := 15) (N := some 48) (bz 24 1048575) (take_ofW HT_.out HW_.out (by kernel_rfl)) hHeld ?_
              refine tst6 (i := 20) (N := some 53) (bz 24 2097151) (take_ofW HT_.out HW_.out (by kernel_rfl)) hHeld ?_
              refine pst (i := 21) (N := some 54) (bz 24 4194303) (any_of HT_.out (by kernel_rfl)) ?_
              refine pst (i := 22) (N := some 55) (bz 24 8388607) (any_of HT_.out (by kernel_rfl)) ?_
              refine pst (i := 23) (N := some 56) (bz 24 16777215) (any_of HT_.out (by kernel_rfl)) ?_
              refine done_ (done_of HT_.out (by kernel_rfl)) ?_
              try go_wp2
              go_ret2
              exact ⟨by first | rfl | (simp [errW_none, errW_some] <;> rfl) | (simp only [← hji8, ← hji24]; first | rfl | (simp [errW_none, errW_some] <;> rfl)) | (simp [*, errW_none, errW_some] <;> rfl), bel⟩
             ·
              rw [if_neg c27] at H
              have c27b0 : decide ((rd l2 x9_1) ≤ (rd l2 (ji24))) = false := decide_eq_false c27
              clear c27
              by_cases c30 : 0 ≤ (rd l2 x9_1)
              ·
               rw [if_pos c30] at H
               have c30b0 : decide (0 ≤ (rd l2 x9_1)) = true := decide_eq_true c30
               clear c30
               by_cases c31 : (rd l2 x9_1) < (x8_1.length : Int)
               ·
                rw [if_pos c31] at H
                have c31b0 : decide ((rd l2 x9_1) < (x8_1.length : Int)) = true := decide_eq_true c31
                clear c31
                obtain ⟨y769, hy769⟩ : ∃ y_ : List Bool, y_ = (x8_1.set ((rd l2 x9_1) : Int).toNat true) := ⟨_, rfl⟩
                replace H : (dropperref05_IsShut.l0 k1 l1 l2 y769 (wrap64 (x9_1 + 1)) a0_0 l0_1 l0_2) = some (r1, r2) := by first | (rw [hy769]; with_reducible exact H) | (have H2_ := (Option.bind_some _ _).symm.trans H; rw [hy769]; with_reducible exact H2_) | (have H2_ := (Option.bind_some _ _).symm.trans H; with_reducible exact H2_) | with_reducible exact H | (rw [hy769]; exact H) | exact H
                have Ny769 := Aside0.mk hy769
                clear hy769
                have H' := Aside0.mk H
                clear H
                try go_wp2
                have n0_ := Aside0.mk (Kd.R_drew HO_8.out)
                have n1_ := Aside0.mk (blk_drew BK758.out)
                have n2_ := Aside0.mk (below_drew1 HB.out)
                clear HO_8
                clear BK758
                clear HB
                have HO_8 := n0_
                have BK758 := n1_
                have HB := n2_
                clear n0_ n1_ n2_
                have p764 : 0 ≤ (x9_1 : Int) := of_decide_eq_true asz
                have q764 : x9_1 < (l2.length : Int) := of_decide_eq_true asz
                obtain ⟨ad764, e764, hx764_0⟩ := Kd.at_int HR2.out x9_1 p764 q764
                have hw764_0 := hx764_0
                cases e764
                replace hx764_0 := (HB.out.cell (World.block_lt_of_cell? w _ hx764_0)).trans hx764_0
                replace p764 := eq_true p764
                replace q764 := eq_true q764
                have p766 : 0 ≤ (x9_1 : Int) := of_decide_eq_true asz
                have q766 : x9_1 < (l2.length : Int) := of_decide_eq_true asz
                obtain ⟨ad766, e766, hx766_0⟩ := Kd.at_int HR2.out x9_1 p766 q766
                have hw766_0 := hx766_0
                obtain rfl : ad764 = ad766 := (by injection e766)
                replace hx766_0 := (HB.out.cell (World.block_lt_of_cell? w _ hx766_0)).trans hx766_0
                replace p766 := eq_true p766
                replace q766 := eq_true q766
                have p767 : 0 ≤ ((ji24) : Int) := of_decide_eq_true asz
                have q767 : (ji24) < (l2.length : Int) := of_decide_eq_true asz
                obtain ⟨ad767, e767, hx767_0⟩ := Kd.at_int HR2.out (ji24) p767 q767
                have hw767_0 := hx767_0
                obtain rfl : ad764 = ad767 := (by injection e767)
                replace hx767_0 := (HB.out.cell (World.block_lt_of_cell? w _ hx767_0)).trans hx767_0
                replace p767 := eq_true p767
                replace q767 := eq_true q767
                refine start_ (n := 24) (S := fun w' => w'.cell? ⟨gb758, 0, none⟩ = some (.int .i64 a0_0) ∧ w'.cell? ⟨gb758, 1, none⟩ = some (.slice A0_1 l0_1.length c0_1) ∧ w'.cell? ⟨gb758, 2, none⟩ = some (.slice A0_2 l0_2.length c0_2) ∧ w'.cell? (ad764.add (x9_1).toNat) = some (.int .i64 (rd l2 x9_1)) ∧ w'.cell? (ad764.add (x9_1).toNat) = some (.int .i64 (rd l2 x9_1)) ∧ w'.cell? (ad764.add ((ji24)).toNat) = some (.int .i64 (rd l2 (ji24)))) (ds := []) #[false, false, false, false, false, false, false, false, false, false, false, false, false, false, false, false, false, false, false, false, false, false, false, false] (by kernel_rfl) rfl rfl ⟨(blk_cell BK758.out 0).trans rfl, (blk_cell BK758.out 1).trans rfl, (blk_cell BK758.out 2).trans rfl, ((HB.out.cell (World.block_lt_of_cell? w _ hw764_0)).trans hw764_0), ((HB.out.cell (World.block_lt_of_cell? w _ hw766_0)).trans hw766_0), ((HB.out.cell (World.block_lt_of_cell? w _ hw767_0)).trans hw767_0)⟩ (fun hHeld => ?_); refine with_tabW dropperref05_IsShut.tab9 dropperref05_IsShut.bits9 (fun HT_ HW_ => ?_)
                generalize wr.drew = w33 at HO_8 BK758 HB hx764_0 hx766_0 hx767_0 hHeld ⊢
                refine pst (i := 1) (N := some 34) (bz 24 2) (any_of HT_.out (by kernel_rfl)) ?_
                refine pst (i := 2) (N := some 35) (bz 24 6) (any_of HT_.out (by kernel_rfl)) ?_
                refine pst (i := 3) (N := some 36) (bz 24 14) (any_of HT_.out (by kernel_rfl)) ?_
                refine pst (i := 5) (N := some 38) (bz 24 46) (any_of HT_.out (by kernel_rfl)) ?_
                refine tst6 (i := 0) (N := some 33) (bz 24 47) (take_ofW HT_.out HW_.out (by kernel_rfl)) hHeld ?_
                refine tst6 (i := 4) (N := some 37) (bz 24 63) (take_ofW HT_.out HW_.out (by kernel_rfl)) hHeld ?_
                refine one_ (i := 6) (N := some 39) #[true, true, true, true, true, true, true, false, false, false, false, false, false, false, false, false, false, false, false, false, false, false, false, false] rfl rfl (one_of HT_.out (by kernel_rfl)) (by decide) (fun K hK => ?_)
                refine goes_ Tryd.func74 (by kernel_rfl) rfl #[.agg #[.int .i64 a0_0, .slice A0_1 l0_1.length c0_1, .slice A0_2 l0_2.length c0_2], .int .i64 (rd l2 x9_1), .slice A1 l1.length c1] (by rfl) rfl rfl mapz ?_
                with_reducible refine (dropperref05_Good.calls k1 a0_0 _ _ l0_1 _ _ l0_2 (rd l2 x9_1) _ _ l1 true _ ?side1 ?side2 ?side3 ?side4 ?side5 ?side6 A21.out).mono ?_
                (case side1 => exact cbz HR0_1)
                (case side2 => exact HC0_1.out)
                (case side3 => exact cbz HR0_2)
                (case side4 => exact HC0_2.out)
                (case side5 => exact cbz HR1)
                (case side6 => exact HC1.out)
                rintro e w34 ⟨rfl, hb⟩
                refine ⟨_, rfl, ?_⟩
                have n0_ := Aside0.mk (Kd.R_below (ownx HO_8) hb)
                have n1_ := Aside0.mk (blk_below (g := gb758) blkz hb)
                have n2_ := Aside0.mk (below_step bel hb)
                clear HO_8
                clear BK758
                clear HB
                have HO_8 := n0_
                have BK758 := n1_
                have HB := n2_
                clear n0_ n1_ n2_
                (try clear hb)
                (try clear hb2)
                (try clear hk)
                (try clear hi)
                refine hK.out _ _ ⟨(blk_cell BK758.out 0).trans rfl, (blk_cell BK758.out 1).trans rfl, (blk_cell BK758.out 2).trans rfl, ((HB.out.cell (World.block_lt_of_cell? w _ hw764_0)).trans hw764_0), ((HB.out.cell (World.block_lt_of_cell? w _ hw766_0)).trans hw766_0), ((HB.out.cell (World.block_lt_of_cell? w _ hw767_0)).trans hw767_0)⟩ (fun hHeld => ?_)
                clear hK K
                refine norm_ (a' := ?_) ?_ ?_
                rotate_left
                ·
                 show Act.put _ (some 39) _ = _
                 simp only [Act.put, List.setIfInBounds_toArray, List.set_cons_zero, List.set_cons_succ, i64_w, i32_w]
                 rfl
                refine pst (i := 7) (N := some 40) (bz 24 255) (any_of HT_.out (by kernel_rfl)) ?_
                refine pst (i := 8) (N := some 41) (bz 24 511) (any_of HT_.out (by kernel_rfl)) ?_
                refine pst (i := 9) (N := some 42) (bz 24 1023) (any_of HT_.out (by kernel_rfl)) ?_
                refine pst (i := 10) (N := some 43) (bz 24 2047) (any_of HT_.out (by kernel_rfl)) ?_
                refine pst (i := 11) (N := some 44) (bz 24 4095) (any_of HT_.out (by kernel_rfl)) ?_
                refine pst (i := 12) (N := some 45) (bz 24 8191) (any_of HT_.out (by kernel_rfl)) ?_
                refine pst (i := 13) (N := some 46) (bz 24 16383) (any_of HT_.out (by kernel_rfl)) ?_
                refine pst (i := 14) (N := some 47) (bz 24 32767) (any_of HT_.out (by kernel_rfl)) ?_
                refine pst (i := 16) (N := some 49) (bz 24 98303) (any_of HT_.out (by kernel_rfl)) ?_
                refine pst (i := 17) (N := some 50) (bz 24 229375) (any_of HT_.out (by kernel_rfl)) ?_
                refine pst (i := 18) (N := some 51) (bz 24 491519) (any_of HT_.out (by kernel_rfl)) ?_
                refine pst (i := 19) (N := some 52) (bz 24 1015807) (any_of HT_.out (by kernel_rfl)) ?_
                refine tst6 (i := 15) (N := some 48) (bz 24 1048575) (take_ofW HT_.out HW_.out (by kernel_rfl)) hHeld ?_
                refine tst6 (i := 20) (N := some 53) (bz 24 2097151) (take_ofW HT_.out HW_.out (by kernel_rfl)) hHeld ?_
                refine pst (i := 21) (N := some 54) (bz 24 4194303) (any_of HT_.out (by kernel_rfl)) ?_
                refine pst (i := 22) (N := some 55) (bz 24 8388607) (any_of HT_.out (by kernel_rfl)) ?_
                refine pst (i := 23) (N := some 56) (bz 24 16777215) (any_of HT_.out (by kernel_rfl)) ?_
                refine done_ (done_of HT_.out (by kernel_rfl)) ?_
                have p768 : 0 ≤ (x9_1 : Int) := of_decide_eq_true asz
                have q768 : x9_1 < (l2.length : Int) := of_decide_eq_true asz
                obtain ⟨ad768, e768, hx768_0⟩ := Kd.at_int HR2.out x9_1 p768 q768
                obtain rfl : ad764 = ad768 := (by injection e768)
                replace hx768_0 := (HB.out.cell (World.block_lt_of_cell? w _ hx768_0)).trans hx768_0
                replace p768 := eq_true p768
                replace q768 := eq_true q768
                have p32 : 0 ≤ ((rd l2 x9_1) : Int) := of_decide_eq_true asz
                have q32 : ((rd l2 x9_1) : Int) < ((x8_1.length : Int) : Int) := of_decide_eq_true asz
                obtain ⟨go32, co32, eo32, gb32, gl32, cl32, HG32⟩ := Kd.R_form HO_8.out (by omega)
                (first | cases eo32 | (injection eo32 with ea_ en_ ec_; (first | subst ea_ | (injection ea_ with ea_; subst ea_)); subst ec_; clear en_))
                have GB32 := Aside0.mk gb32
                have GG32 := Aside0.mk HG32
                clear gb32 gl32 HG32
                obtain ⟨hx32_0, hf32_0⟩ := Kd.R_celln false HO_8.out ((rd l2 x9_1) : Int) p32 q32
                replace p32 := eq_true p32
                replace q32 := eq_true q32
                obtain ⟨hy35_, hz35_⟩ := Kd.R_celln false HO_8.out ((rd l2 x9_1) : Int) (of_decide_eq_true asz) (of_decide_eq_true asz)
                have HP35 := Kd.R_putg HO_8.out ((rd l2 x9_1) : Int) true
                try go_wp2_with (first | ((with_reducible refine gate_store (t := 4) (p := 62) rfl ?_); refine store_event (t := 4) (p := 62) (v := ?vo_w36) (w1 := (w34.setCell ⟨go32, ((rd l2 x9_1) : Int).toNat, none⟩ (.bool true))) ?hg ?ho ?hn ?hr ?_; (case ho => rfl); (case hg => rfl); (case hn => rfl); (case hr => first | (go_simp; done) | (go_simp; rfl)); intro w36 hw; have hg : w34.grownBy w36 (some go32) := (by rw [hw]; exact HP35.2); have hp_ : Kd.R Kd.bool 4 w36 w.heap.size (fun _ => True) (.slice (some ⟨go32, 0, none⟩) x8_1.length co32) y769 := (by rw [hw, Ny769.out]; exact HP35.1); clear HP35; replace BK758 := Aside0.mk (blk_grown (g := gb758) (o := .cells #[.int .i64 a0_0, .slice A0_1 l0_1.length c0_1, .slice A0_2 l0_2.length c0_2] 25 (0, 0)) blkz hg (Kd.R_ne HO_8.out BK758.out (by decide))); replace HO_8 := Aside0.mk (hp_); replace HB := Aside0.mk ((by rw [hw]; exact below_set (HB.out) GB32.out : Below w.heap.size w w36)); clear hg hw hp_))
                go_roundg k1
                case measure => have := HK1.out; omega
                case rel => exact ⟨(y769), (wrap64 (x9_1 + 1)), rsz, H', ⟨by have := HK1.out; omega⟩, ⟨by (with_reducible repeat (first | apply Kd.R_alloc | apply Kd.R_drewN | apply Kd.R_drew)); exact HO_8.out⟩, ⟨blkz⟩, ⟨bel⟩⟩
               ·
                rw [if_neg c31] at H
                exact absurd H (by simp)
              ·
               rw [if_neg c30] at H
               exact absurd H (by simp)
            ·
             rw [if_neg c26] at H
             exact absurd H (by simp)
           ·
            rw [if_neg c25] at H
            exact absurd H (by simp)
          ·
           rw [if_neg c23] at H
           have c23b0 : decide (0 < x9_1) = false := decide_eq_false c23
           clear c23
           by_cases c37 : 0 ≤ (rd l2 x9_1)
           ·
            rw [if_pos c37] at H
            have c37b0 : decide (0 ≤ (rd l2 x9_1)) = true := decide_eq_true c37
            clear c37
            by_cases c38 : (rd l2 x9_1) < (x8_1.length : Int)
            ·
             rw [if_pos c38] at H
             have c38b0 : decide ((rd l2 x9_1) < (x8_1.length : Int)) = true := decide_eq_true c38
             clear c38
             obtain ⟨y771, hy771⟩ : ∃ y_ : List Bool, y_ = (x8_1.set ((rd l2 x9_1) : Int).toNat true) := ⟨_, rfl⟩
             replace H : (dropperref05_IsShut.l0 k1 l1 l2 y771 (wrap64 (x9_1 + 1)) a0_0 l0_1 l0_2) = some (r1, r2) := by first | (rw [hy771]; with_reducible exact H) | (have H2_ := (Option.bind_some _ _).symm.trans H; rw [hy771]; with_reducible exact H2_) | (have H2_ := (Option.bind_some _ _).symm.trans H; with_reducible exact H2_) | with_reducible exact H | (rw [hy771]; exact H) | exact H
             have Ny771 := Aside0.mk hy771
             clear hy771
             have H' := Aside0.mk H
             clear H
             try go_wp2
             have n0_ := Aside0.mk (Kd.R_drew HO_8.out)
             have n1_ := Aside0.mk (blk_drew BK758.out)
             have n2_ := Aside0.mk (below_drew1 HB.out)
             clear HO_8
             clear BK758
             clear HB
             have HO_8 := n0_
             have BK758 := n1_
             have HB := n2_
             clear n0_ n1_ n2_
             have p764 : 0 ≤ (x9_1 : Int) := of_decide_eq_true asz
             have q764 : x9_1 < (l2.length : Int) := of_decide_eq_true asz
             obtain ⟨ad764, e764, hx764_0⟩ := Kd.at_int HR2.out x9_1 p764 q764
             have hw764_0 := hx764_0
             cases e764
             replace hx764_0 := (HB.out.cell (World.block_lt_of_cell? w _ hx764_0)).trans hx764_0
             replace p764 := eq_true p764
             replace q764 := eq_true q764
             refine start_ (n := 24) (S := fun w' => w'.cell? ⟨gb758, 0, none⟩ = some (.int .i64 a0_0) ∧ w'.cell? ⟨gb758, 1, none⟩ = some (.slice A0_1 l0_1.length c0_1) ∧ w'.cell? ⟨gb758, 2, none⟩ = some (.slice A0_2 l0_2.length c0_2) ∧ w'.cell? (ad764.add (x9_1).toNat) = some (.int .i64 (rd l2 x9_1))) (ds := []) #[false, false, false, false, false, false, false, false, false, false, false, false, false, false, false, false, false, false, false, false, false, false, false, false] (by kernel_rfl) rfl rfl ⟨(blk_cell BK758.out 0).trans rfl, (blk_cell BK758.out 1).trans rfl, (blk_cell BK758.out 2).trans rfl, ((HB.out.cell (World.block_lt_of_cell? w _ hw764_0)).trans hw764_0)⟩ (fun hHeld => ?_); refine with_tabW dropperref05_IsShut.tab9 dropperref05_IsShut.bits9 (fun HT_ HW_ => ?_)
             generalize wr.drew = w40 at HO_8 BK758 HB hx764_0 hHeld ⊢
             refine pst (i := 1) (N := some 34) (bz 24 2) (any_of HT_.out (by kernel_rfl)) ?_
             refine pst (i := 2) (N := some 35) (bz 24 6) (any_of HT_.out (by kernel_rfl)) ?_
             refine pst (i := 3) (N := some 36) (bz 24 14) (any_of HT_.out (by kernel_rfl)) ?_
             refine pst (i := 5) (N := some 38) (bz 24 46) (any_of HT_.out (by kernel_rfl)) ?_
             refine tst4 (i := 0) (N := some 33) (bz 24 47) (take_ofW HT_.out HW_.out (by kernel_rfl)) hHeld ?_
             refine tst4 (i := 4) (N := some 37) (bz 24 63) (take_ofW HT_.out HW_.out (by kernel_rfl)) hHeld ?_
             refine one_ (i := 6) (N := some 39) #[true, true, true, true, true, true, true, false, false, false, false, false, false, false, false, false, false, false, false, false, false, false, false, false] rfl rfl (one_of HT_.out (by kernel_rfl)) (by decide) (fun K hK => ?_)
             refine goes_ Tryd.func74 (by kernel_rfl) rfl #[.agg #[.int .i64 a0_0, .slice A0_1 l0_1.length c0_1, .slice A0_2 l0_2.length c0_2], .int .i64 (rd l2 x9_1), .slice A1 l1.length c1] (by rfl) rfl rfl mapz ?_
             with_reducible refine (dropperref05_Good.calls k1 a0_0 _ _ l0_1 _ _ l0_2 (rd l2 x9_1) _ _ l1 true _ ?side1 ?side2 ?side3 ?side4 ?side5 ?side6 A21.out).mono ?_
             (case side1 => exact cbz HR0_1)
             (case side2 => exact HC0_1.out)
             (case side3 => exact cbz HR0_2)
             (case side4 => exact HC0_2.out)
             (case side5 => exact cbz HR1)
             (case side6 => exact HC1.out)
             rintro e w41 ⟨rfl, hb⟩
             refine ⟨_, rfl, ?_⟩
             have n0_ := Aside0.mk (Kd.R_below (ownx HO_8) hb)
             have n1_ := Aside0.mk (blk_below (g := gb758) blkz hb)
             have n2_ := Aside0.mk (below_step bel hb)
             clear HO_8
             clear BK758
             clear HB
             have HO_8 := n0_
             have BK758 := n1_
             have HB := n2_
             clear n0_ n1_ n2_
             (try clear hb)
             (try clear hb2)
             (try clear hk)
             (try clear hi)
             refine hK.out _ _ ⟨(blk_cell BK758.out 0).trans rfl, (blk_cell BK758.out 1).trans rfl, (blk_cell BK758.out 2).trans rfl, ((HB.out.cell (World.block_lt_of_cell? w _ hw764_0)).trans hw764_0)⟩ (fun hHeld => ?_)
             clear hK K
             refine norm_ (a' := ?_) ?_ ?_
             rotate_left
             ·
              show Act.put _ (some 39) _ = _
              simp only [Act.put, List.setIfInBounds_toArray, List.set_cons_zero, List.set_cons_succ, i64_w, i32_w]
              rfl
             refine pst (i := 7) (N := some 40) (bz 24 255) (any_of HT_.out (by kernel_rfl)) ?_
             refine pst (i := 8) (N := some 41) (bz 24 511) (any_of HT_.out (by kernel_rfl)) ?_
             refine pst (i := 9) (N := some 42) (bz 24 1023) (any_of HT_.out (by kernel_rfl)) ?_
             refine pst (i := 10) (N := some 43) (bz 24 2047) (any_of HT_.out (by kernel_rfl)) ?_
             refine pst (i := 11) (N := some 44) (bz 24 4095) (any_of HT_.out (by kernel_rfl)) ?_
             refine pso (i := 12) (N := some 45) (bz 24 8191) (any_of HT_.out (by kernel_rfl)) ?_
             refine pso (i := 13) (N := some 46) (bz 24 16383) (any_of HT_.out (by kernel_rfl)) ?_
             refine pso (i := 14) (N := some 47) (bz 24 32767) (any_of HT_.out (by kernel_rfl)) ?_
             refine pso (i := 15) (N := some 48) (bz 24 65535) (any_of HT_.out (by kernel_rfl)) ?_
             refine pso (i := 16) (N := some 49) (bz 24 131071) (any_of HT_.out (by kernel_rfl)) ?_
             refine pso (i := 17) (N := some 50) (bz 24 262143) (any_of HT_.out (by kernel_rfl)) ?_
             refine pso (i := 18) (N := some 51) (bz 24 524287) (any_of HT_.out (by kernel_rfl)) ?_
             refine pso (i := 19) (N := some 52) (bz 24 1048575) (any_of HT_.out (by kernel_rfl)) ?_
             refine pso (i := 20) (N := some 53) (bz 24 2097151) (any_of HT_.out (by kernel_rfl)) ?_
             refine pso (i := 21) (N := some 54) (bz 24 4194303) (any_of HT_.out (by kernel_rfl)) ?_
             refine pst (i := 22) (N := some 55) (bz 24 8388607) (any_of HT_.out (by kernel_rfl)) ?_
             refine pst (i := 23) (N := some 56) (bz 24 16777215) (any_of HT_.out (by kernel_rfl)) ?_
             refine done_ (done_of HT_.out (by kernel_rfl)) ?_
             have p770 : 0 ≤ (x9_1 : Int) := of_decide_eq_true asz
             have q770 : x9_1 < (l2.length : Int) := of_decide_eq_true asz
             obtain ⟨ad770, e770, hx770_0⟩ := Kd.at_int HR2.out x9_1 p770 q770
             obtain rfl : ad764 = ad770 := (by injection e770)
             replace hx770_0 := (HB.out.cell (World.block_lt_of_cell? w _ hx770_0)).trans hx770_0
             replace p770 := eq_true p770
             replace q770 := eq_true q770
             have p39 : 0 ≤ ((rd l2 x9_1) : Int) := of_decide_eq_true asz
             have q39 : ((rd l2 x9_1) : Int) < ((x8_1.length : Int) : Int) := of_decide_eq_true asz
             obtain ⟨go39, co39, eo39, gb39, gl39, cl39, HG39⟩ := Kd.R_form HO_8.out (by omega)
             (first | cases eo39 | (injection eo39 with ea_ en_ ec_; (first | subst ea_ | (injection ea_ with ea_; subst ea_)); subst ec_; clear en_))
             have GB39 := Aside0.mk gb39
             have GG39 := Aside0.mk HG39
             clear gb39 gl39 HG39
             obtain ⟨hx39_0, hf39_0⟩ := Kd.R_celln false HO_8.out ((rd l2 x9_1) : Int) p39 q39
             replace p39 := eq_true p39
             replace q39 := eq_true q39
             obtain ⟨hy42_, hz42_⟩ := Kd.R_celln false HO_8.out ((rd l2 x9_1) : Int) (of_decide_eq_true asz) (of_decide_eq_true asz)
             have HP42 := Kd.R_putg HO_8.out ((rd l2 x9_1) : Int) true
             try go_wp2_with (first | ((with_reducible refine gate_store (t := 4) (p := 62) rfl ?_); refine store_event (t := 4) (p := 62) (v := ?vo_w43) (w1 := (w41.setCell ⟨go39, ((rd l2 x9_1) : Int).toNat, none⟩ (.bool true))) ?hg ?ho ?hn ?hr ?_; (case ho => rfl); (case hg => rfl); (case hn => rfl); (case hr => first | (go_simp; done) | (go_simp; rfl)); intro w43 hw; have hg : w41.grownBy w43 (some go39) := (by rw [hw]; exact HP42.2); have hp_ : Kd.R Kd.bool 4 w43 w.heap.size (fun _ => True) (.slice (some ⟨go39, 0, none⟩) x8_1.length co39) y771 := (by rw [hw, Ny771.out]; exact HP42.1); clear HP42; replace BK758 := Aside0.mk (blk_grown (g := gb758) (o := .cells #[.int .i64 a0_0, .slice A0_1 l0_1.length c0_1, .slice A0_2 l0_2.length c0_2] 25 (0, 0)) blkz hg (Kd.R_ne HO_8.out BK758.out (by decide))); replace HO_8 := Aside0.mk (hp_); replace HB := Aside0.mk ((by rw [hw]; exact below_set (HB.out) GB39.out : Below w.heap.size w w43)); clear hg hw hp_))
             go_roundg k1
             case measure => have := HK1.out; omega
             case rel => exact ⟨(y771), (wrap64 (x9_1 + 1)), rsz, H', ⟨by have := HK1.out; omega⟩, ⟨by (with_reducible repeat (first | apply Kd.R_alloc | apply Kd.R_drewN | apply Kd.R_drew)); exact HO_8.out⟩, ⟨blkz⟩, ⟨bel⟩⟩
            ·
             rw [if_neg c38] at H
             exact absurd H (by simp)
           ·
            rw [if_neg c37] at H
            exact absurd H (by simp)
         ·
          replace c22 := Bool.eq_false_iff.mpr c22
          subst c22
          have H1 : (some (false, 0)) = some (r1, r2) := by rw [if_neg (show ¬ (false = true) by decide)] at H; exact H
          clear H
          have H := H1
          clear H1
          simp only [Option.some.injEq, Prod.mk.injEq] at H
          obtain ⟨rfl, rfl⟩ := H
          try go_wp2
          have n0_ := Aside0.mk (Kd.R_drew HO_8.out)
          have n1_ := Aside0.mk (blk_drew BK758.out)
          have n2_ := Aside0.mk (below_drew1 HB.out)
          clear HO_8
          clear BK758
          clear HB
          have HO_8 := n0_
          have BK758 := n1_
          have HB := n2_
          clear n0_ n1_ n2_
          have p764 : 0 ≤ (x9_1 : Int) := of_decide_eq_true asz
          have q764 : x9_1 < (l2.length : Int) := of_decide_eq_true asz
          obtain ⟨ad764, e764, hx764_0⟩ := Kd.at_int HR2.out x9_1 p764 q764
          have hw764_0 := hx764_0
          cases e764
          replace hx764_0 := (HB.out.cell (World.block_lt_of_cell? w _ hx764_0)).trans hx764_0
          replace p764 := eq_true p764
          replace q764 := eq_true q764
          refine start_ (n := 24) (S := fun w' => w'.cell? ⟨gb758, 0, none⟩ = some (.int .i64 a0_0) ∧ w'.cell? ⟨gb758, 1, none⟩ = some (.slice A0_1 l0_1.length c0_1) ∧ w'.cell? ⟨gb758, 2, none⟩ = some (.slice A0_2 l0_2.length c0_2) ∧ w'.cell? (ad764.add (x9_1).toNat) = some (.int .i64 (rd l2 x9_1))) (ds := []) #[false, false, false, false, false, false, false, false, false, false, false, false, false, false, false, false, false, false, false, false, false, false, false, false] (by kernel_rfl) rfl rfl ⟨(blk_cell BK758.out 0).trans rfl, (blk_cell BK758.out 1).trans rfl, (blk_cell BK758.out 2).trans rfl, ((HB.out.cell (World.block_lt_of_cell? w _ hw764_0)).trans hw764_0)⟩ (fun hHeld => ?_); refine with_tabW dropperref05_IsShut.tab9 dropperref05_IsShut.bits9 (fun HT_ HW_ => ?_)
          generalize wr.drew = w44 at HO_8 BK758 HB hx764_0 hHeld ⊢
          refine pst (i := 1) (N := some 34) (bz 24 2) (any_of HT_.out (by kernel_rfl)) ?_
          refine pst (i := 2) (N := some 35) (bz 24 6) (any_of HT_.out (by kernel_rfl)) ?_
          refine pst (i := 3) (N := some 36) (bz 24 14) (any_of HT_.out (by kernel_rfl)) ?_
          refine pst (i := 5) (N := some 38) (bz 24 46) (any_of HT_.out (by kernel_rfl)) ?_
          refine tst4 (i := 0) (N := some 33) (bz 24 47) (take_ofW HT_.out HW_.out (by kernel_rfl)) hHeld ?_
          refine tst4 (i := 4) (N := some 37) (bz 24 63) (take_ofW HT_.out HW_.out (by kernel_rfl)) hHeld ?_
          refine one_ (i := 6) (N := some 39) #[true, true, true, true, true, true, true, false, false, false, false, false, false, false, false, false, false, false, false, false, false, false, false, false] rfl rfl (one_of HT_.out (by kernel_rfl)) (by decide) (fun K hK => ?_)
          refine goes_ Tryd.func74 (by kernel_rfl) rfl #[.agg #[.int .i64 a0_0, .slice A0_1 l0_1.length c0_1, .slice A0_2 l0_2.length c0_2], .int .i64 (rd l2 x9_1), .slice A1 l1.length c1] (by rfl) rfl rfl mapz ?_
          with_reducible refine (dropperref05_Good.calls k1 a0_0 _ _ l0_1 _ _ l0_2 (rd l2 x9_1) _ _ l1 false _ ?side1 ?side2 ?side3 ?side4 ?side5 ?side6 A21.out).mono ?_
          (case side1 => exact cbz HR0_1)
          (case side2 => exact HC0_1.out)
          (case side3 => exact cbz HR0_2)
          (case side4 => exact HC0_2.out)
          (case side5 => exact cbz HR1)
          (case side6 => exact HC1.out)
          rintro e w45 ⟨rfl, hb⟩
          refine ⟨_, rfl, ?_⟩
          have n0_ := Aside0.mk (Kd.R_below (ownx HO_8) hb)
          have n1_ := Aside0.mk (blk_below (g := gb758) blkz hb)
          have n2_ := Aside0.mk (below_step bel hb)
          clear HO_8
          clear BK758
          clear HB
          have HO_8 := n0_
          have BK758 := n1_
          have HB := n2_
          clear n0_ n1_ n2_
          (try clear hb)
          (try clear hb2)
          (try clear hk)
          (try clear hi)
          refine hK.out _ _ ⟨(blk_cell BK758.out 0).trans rfl, (blk_cell BK758.out 1).trans rfl, (blk_cell BK758.out 2).trans rfl, ((HB.out.cell (World.block_lt_of_cell? w _ hw764_0)).trans hw764_0)⟩ (fun hHeld => ?_)
          clear hK K
          refine norm_ (a' := ?_) ?_ ?_
          rotate_left
          ·
           show Act.put _ (some 39) _ = _
           simp only [Act.put, List.setIfInBounds_toArray, List.set_cons_zero, List.set_cons_succ, i64_w, i32_w]
           rfl
          refine pst (i := 7) (N := some 40) (bz 24 255) (any_of HT_.out (by kernel_rfl)) ?_
          refine pst (i := 8) (N := some 41) (bz 24 511) (any_of HT_.out (by kernel_rfl)) ?_
          refine pso (i := 9) (N := some 42) (bz 24 1023) (any_of HT_.out (by kernel_rfl)) ?_
          refine pso (i := 10) (N := some 43) (bz 24 2047) (any_of HT_.out (by kernel_rfl)) ?_
          refine pso (i := 11) (N := some 44) (bz 24 4095) (any_of HT_.out (by kernel_rfl)) ?_
          refine pso (i := 12) (N := some 45) (bz 24 8191) (any_of HT_.out (by kernel_rfl)) ?_
          refine pso (i := 13) (N := some 46) (bz 24 16383) (any_of HT_.out (by kernel_rfl)) ?_
          refine pso (i := 14) (N := some 47) (bz 24 32767) (any_of HT_.out (by kernel_rfl)) ?_
          refine pso (i := 15) (N := some 48) (bz 24 65535) (any_of HT_.out (by kernel_rfl)) ?_
          refine pso (i := 16) (N := some 49) (bz 24 131071) (any_of HT_.out (by kernel_rfl)) ?_
          refine pso (i := 17) (N := some 50) (bz 24 262143) (any_of HT_.out (by kernel_rfl)) ?_
          refine pso (i := 18) (N := some 51) (bz 24 524287) (any_of HT_.out (by kernel_rfl)) ?_
          refine pso (i := 19) (N := some 52) (bz 24 1048575) (any_of HT_.out (by kernel_rfl)) ?_
          refine pso (i := 20) (N := some 53) (bz 24 2097151) (any_of HT_.out (by kernel_rfl)) ?_
          refine pso (i := 21) (N := some 54) (bz 24 4194303) (any_of HT_.out (by kernel_rfl)) ?_
          refine pso (i := 22) (N := some 55) (bz 24 8388607) (any_of HT_.out (by kernel_rfl)) ?_
          refine pst (i := 23) (N := some 56) (bz 24 16777215) (any_of HT_.out (by kernel_rfl)) ?_
          refine done_ (done_of HT_.out (by kernel_rfl)) ?_
          try go_wp2
          go_ret2
          exact ⟨by first | rfl | (simp [errW_none, errW_some] <;> rfl) | (simp only [← hji8]; first | rfl | (simp [errW_none, errW_some] <;> rfl)) | (simp [*, errW_none, errW_some] <;> rfl), bel⟩
        ·
         rw [if_neg c20] at H
         exact absurd H (by simp)
       ·
        rw [if_neg c19] at H
        have c19b0 : decide (x9_1 < (l2.length : Int)) = false := decide_eq_false c19
        clear c19
        have H' := Aside0.mk H
        clear H
        go_wp2
        go_loopg [10] k1 (fun kq v10 w' => ∃ (x10_2 : Int), v10 = .int .i64 x10_2 ∧ Aside0 (dropperref05_IsShut.l1 kq l1 l2 x8_1 x10_2 a0_0 l0_1 l0_2 = some (r1, r2)) ∧ Aside0 (kq ≤ k1) ∧ Aside0 (Kd.R Kd.bool 4 w' w.heap.size (fun _ => True) v762 x8_1) ∧ Aside0 (w'.heap[gb758]? = some (.cells #[.int .i64 a0_0, (.slice A0_1 l0_1.length c0_1), (.slice A0_2 l0_2.length c0_2)] 25 (0, 0))) ∧ Aside0 (Below w.heap.size w w'))
        case atStart => exact ⟨(0), rsz, H', ⟨Nat.le_refl _⟩, ⟨by (with_reducible repeat (first | apply Kd.R_alloc | apply Kd.R_drewN | apply Kd.R_drew)); exact HO_8.out⟩, ⟨blkz⟩, ⟨bel⟩⟩
        case round =>
         clear H'
         try clear c1
         try clear c2
         try clear p2
         try clear c3
         try clear p3
         try clear q3
         try clear hx3
         try clear hf3
         try clear p6
         try clear c7
         try clear p7
         try clear q7
         try clear hx7
         try clear c19
         try clear c19b0
         try clear c20
         try clear c22
         try clear c23
         try clear c23b0
         try clear c25
         try clear c26
         try clear c30
         try clear c31
         try clear p32
         try clear q32
         try clear hx32
         try clear hf32
         try clear c37
         try clear c37b0
         try clear c38
         try clear c38b0
         try clear p39
         try clear q39
         try clear hx39
         try clear hf39
         try clear hx32_0
         try clear hx39_0
         try clear hx764_0
         try clear hx768_0
         try clear hx770_0
         try clear p32
         try clear p39
         try clear p764
         try clear p768
         try clear p770
         try clear q32
         try clear q39
         try clear q764
         try clear q768
         try clear q770
         obtain ⟨x10_2, rfl, HA, HK2, HO_8, BK758, HB⟩ := hrel
         cases gk with
         | zero => exact absurd HA.out (by simp [dropperref05_IsShut.l1])
         | succ k2 =>
          have H := HA.out
          clear HA
          simp only [dropperref05_IsShut.l1] at H
          by_cases c46 : x10_2 < (l2.length : Int)
          ·
           rw [if_pos c46] at H
           have c46b0 : decide (x10_2 < (l2.length : Int)) = true := decide_eq_true c46
           clear c46
           have H' := Aside0.mk H
           clear H
           go_wp2
           go_loopg [11] k2 (fun kq v11 w' => ∃ (x11_3 : Int), v11 = .int .i64 x11_3 ∧ Aside0 (dropperref05_IsShut.l2 kq l1 l2 x8_1 x10_2 x11_3 a0_0 l0_1 l0_2 = some (r1, r2)) ∧ Aside0 (kq ≤ k2) ∧ Aside0 (Kd.R Kd.bool 4 w' w.heap.size (fun _ => True) v762 x8_1) ∧ Aside0 (w'.heap[gb758]? = some (.cells #[.int .i64 a0_0, (.slice A0_1 l0_1.length c0_1), (.slice A0_2 l0_2.length c0_2)] 25 (0, 0))) ∧ Aside0 (Below w.heap.size w w'))
           case atStart => exact ⟨(0), rsz, H', ⟨Nat.le_refl _⟩, ⟨by (with_reducible repeat (first | apply Kd.R_alloc | apply Kd.R_drewN | apply Kd.R_drew)); exact HO_8.out⟩, ⟨blkz⟩, ⟨bel⟩⟩
           case round =>
            clear H'
            try clear c1
            try clear c2
            try clear p2
            try clear c3
            try clear p3
            try clear q3
            try clear hx3
            try clear hf3
            try clear c4
            try clear p6
            try clear c7
            try clear p7
            try clear q7
            try clear hx7
            try clear c19
            try clear c19b0
            try clear c20
            try clear c22
            try clear c23
            try clear c23b0
            try clear c25
            try clear c26
            try clear c30
            try clear c31
            try clear p32
            try clear q32
            try clear hx32
            try clear hf32
            try clear c37
            try clear c37b0
            try clear c38
            try clear c38b0
            try clear p39
            try clear q39
            try clear hx39
            try clear hf39
            try clear c46
            try clear c46b0
            try clear hx32_0
            try clear hx39_0
            try clear hx764_0
            try clear hx768_0
            try clear hx770_0
            try clear p2
            try clear p3
            try clear p32
            try clear p39
            try clear p6
            try clear p7
            try clear p764
            try clear p768
            try clear p770
            try clear q3
            try clear q32
            try clear q39
            try clear q7
            try clear q764
            try clear q768
            try clear q770
            obtain ⟨x11_3, rfl, HA, HK3, HO_8, BK758, HB⟩ := hrel
            cases gk with
            | zero => exact absurd HA.out (by simp [dropperref05_IsShut.l2])
            | succ k3 =>
             have H := HA.out
             clear HA
             simp only [dropperref05_IsShut.l2] at H
             by_cases c47 : x11_3 < (l0_1.length : Int)
             ·
              rw [if_pos c47] at H
              have c47b0 : decide (x11_3 < (l0_1.length : Int)) = true := decide_eq_true c47
              clear c47
              by_cases c48 : 0 ≤ x10_2
              ·
               rw [if_pos c48] at H
               have c48b0 : decide (0 ≤ x10_2) = true := decide_eq_true c48
               clear c48
               by_cases c49 : x10_2 < (l2.length : Int)
               ·
                rw [if_pos c49] at H
                have c49b0 : decide (x10_2 < (l2.length : Int)) = true := decide_eq_true c49
                clear c49
                by_cases c50 : 0 ≤ x11_3
                ·
                 rw [if_pos c50] at H
                 have c50b0 := eq_true c50
                 have c50b1 : decide (0 ≤ x11_3) = true := decide_eq_true c50
                 clear c50
                 obtain ⟨ji51, hji51⟩ : ∃ j_ : Int, (shl .i64 1 x11_3) = j_ := ⟨_, rfl⟩
                 replace H : (if 0 ≤ (Go.bits .xor .i64 (rd l2 x10_2) (ji51)) then (if (Go.bits .xor .i64 (rd l2 x10_2) (ji51)) < (x8_1.length : Int) then (if (rdOf false x8_1 (Go.bits .xor .i64 (rd l2 x10_2) (ji51)) = true) then (dropperref05_IsShut.l2 k3 l1 l2 x8_1 x10_2 (wrap64 (x11_3 + 1)) a0_0 l0_1 l0_2) else ((dropperref05_Good.f k3 a0_0 l0_1 l0_2 (Go.bits .xor .i64 (rd l2 x10_2) (ji51)) l1).bind fun t774 => (if t774 = true then (some (false, 0)) else (dropperref05_IsShut.l2 k3 l1 l2 x8_1 x10_2 (wrap64 (x11_3 + 1)) a0_0 l0_1 l0_2)))) else (none)) else (none)) = some (r1, r2) := by first | (rw [hji51] at H; exact H) | (simp only [hji51] at H ⊢; exact H)
                 have hji51_ : (IntKind.i64.wrap (1 * 2 ^ min x11_3.toNat 64)) = ji51 := hji51
                 have hji51z : x11_3 ≤ 64 → (IntKind.i64.wrap (1 * 2 ^ x11_3.toNat)) = ji51 := shl_small hji51
                 have hji51u : (IntKind.i64.wrap (2 ^ min x11_3.toNat 64)) = ji51 := by have h_ := hji51_; rw [Int.one_mul] at h_; exact h_
                 have hji51v : x11_3 ≤ 64 → (IntKind.i64.wrap (2 ^ x11_3.toNat)) = ji51 := fun hle_ => by have h_ := hji51z hle_; rw [Int.one_mul] at h_; exact h_
                 have hji51y : (wrap64 (1 * 2 ^ min x11_3.toNat 64)) = ji51 := (i64_w _).symm.trans hji51_
                 have hji51x : x11_3 ≤ 64 → (wrap64 (1 * 2 ^ x11_3.toNat)) = ji51 := fun h_ => (i64_w _).symm.trans (hji51z h_)
                 by_cases c52 : 0 ≤ (Go.bits .xor .i64 (rd l2 x10_2) (ji51))
                 ·
                  rw [if_pos c52] at H
                  have c52b0 : decide (0 ≤ (Go.bits .xor .i64 (rd l2 x10_2) (ji51))) = true := decide_eq_true c52
                  clear c52
                  by_cases c53 : (Go.bits .xor .i64 (rd l2 x10_2) (ji51)) < (x8_1.length : Int)
                  ·
                   rw [if_pos c53] at H
                   have c53b0 : decide ((Go.bits .xor .i64 (rd l2 x10_2) (ji51)) < (x8_1.length : Int)) = true := decide_eq_true c53
                   clear c53
                   obtain ⟨bq54, hbq54⟩ : ∃ b_ : Bool, b_ = (rdOf false x8_1 (Go.bits .xor .i64 (rd l2 x10_2) (ji51))) := ⟨_, rfl⟩
                   replace H : (if (bq54 = true) then (dropperref05_IsShut.l2 k3 l1 l2 x8_1 x10_2 (wrap64 (x11_3 + 1)) a0_0 l0_1 l0_2) else ((dropperref05_Good.f k3 a0_0 l0_1 l0_2 (Go.bits .xor .i64 (rd l2 x10_2) (ji51)) l1).bind fun t774 => (if t774 = true then (some (false, 0)) else (dropperref05_IsShut.l2 k3 l1 l2 x8_1 x10_2 (wrap64 (x11_3 + 1)) a0_0 l0_1 l0_2)))) = some (r1, r2) := by rw [← hbq54] at H; exact H
                   have Nbq54 := Aside0.mk hbq54
                   clear hbq54
                   by_cases c55 : (bq54 = true)
                   ·
                    subst c55
                    have H1 : (dropperref05_IsShut.l2 k3 l1 l2 x8_1 x10_2 (wrap64 (x11_3 + 1)) a0_0 l0_1 l0_2) = some (r1, r2) := by rw [if_pos rfl] at H; exact H
                    clear H
                    have H := H1
                    clear H1
                    have H' := Aside0.mk H
                    clear H
                    have hcz56_0 := blkc BK758.out 0 (.int .i64 a0_0) rfl
                    have hcz56_1 := blkc BK758.out 1 (.slice A0_1 l0_1.length c0_1) rfl
                    have hcz56_2 := blkc BK758.out 2 (.slice A0_2 l0_2.length c0_2) rfl
                    have hfz56_0 := blk_frozen BK758.out 0
                    have hfz56_1 := blk_frozen BK758.out 1
                    have hfz56_2 := blk_frozen BK758.out 2
                    try go_wp2
                    have n0_ := Aside0.mk (Kd.R_drew HO_8.out)
                    have n1_ := Aside0.mk (blk_drew BK758.out)
                    have n2_ := Aside0.mk (below_drew1 HB.out)
                    clear HO_8
                    clear BK758
                    clear HB
                    have HO_8 := n0_
                    have BK758 := n1_
                    have HB := n2_
                    clear n0_ n1_ n2_
                    have p772 : 0 ≤ (x10_2 : Int) := of_decide_eq_true asz
                    have q772 : x10_2 < (l2.length : Int) := of_decide_eq_true asz
                    obtain ⟨ad772, e772, hx772_0⟩ := Kd.at_int HR2.out x10_2 p772 q772
                    have hw772_0 := hx772_0
                    cases e772
                    replace hx772_0 := (HB.out.cell (World.block_lt_of_cell? w _ hx772_0)).trans hx772_0
                    replace p772 := eq_true p772
                    replace q772 := eq_true q772
                    refine start_ (n := 8) (S := fun w' => w'.cell? (ad772.add (x10_2).toNat) = some (.int .i64 (rd l2 x10_2))) (ds := []) #[false, false, false, false, false, false, false, false] (by kernel_rfl) rfl rfl (((HB.out.cell (World.block_lt_of_cell? w _ hw772_0)).trans hw772_0)) (fun hHeld => ?_); refine with_tabW dropperref05_IsShut.tab18 dropperref05_IsShut.bits18 (fun HT_ HW_ => ?_)
                    generalize wr.drew = w57 at HO_8 BK758 HB hx772_0 hHeld ⊢
                    refine pst (i := 0) (N := some 76) (bz 8 1) (any_of HT_.out (by kernel_rfl)) ?_
                    refine pst (i := 1) (N := some 77) (bz 8 3) (any_of HT_.out (by kernel_rfl)) ?_
                    refine pst (i := 2) (N := some 78) (bz 8 7) (any_of HT_.out (by kernel_rfl)) ?_
                    refine pst (i := 4) (N := some 80) (bz 8 23) (any_of HT_.out (by kernel_rfl)) ?_
                    refine pst (i := 5) (N := some 81) (bz 8 55) (any_of HT_.out (by kernel_rfl)) ?_
                    refine tst1 (i := 3) (N := some 79) (bz 8 63) (take_ofW HT_.out HW_.out (by kernel_rfl)) hHeld ?_
                    refine pst (i := 6) (N := some 82) (bz 8 127) (any_of HT_.out (by kernel_rfl)) ?_
                    refine pst (i := 7) (N := some 12) (bz 8 255) (any_of HT_.out (by kernel_rfl)) ?_
                    refine done_ (done_of HT_.out (by kernel_rfl)) ?_
                    obtain ⟨Ao58, co58, eo58⟩ := Kd.R_slice HO_8.out
                    subst eo58
                    have p773 : 0 ≤ ((Go.bits .xor .i64 (rd l2 x10_2) (ji51)) : Int) := of_decide_eq_true asz
                    have q773 : (Go.bits .xor .i64 (rd l2 x10_2) (ji51)) < (x8_1.length : Int) := of_decide_eq_true asz
                    obtain ⟨ad773, e773, hx773_0⟩ := Kd.at_bool (Kd.R_reads' HO_8.out).2.2 (Go.bits .xor .i64 (rd l2 x10_2) (ji51)) p773 q773
                    (try rw [← Nbq54.out] at hx773_0)
                    cases e773
                    replace p773 := eq_true p773
                    replace q773 := eq_true q773
                    try go_wp2
                    go_roundg k3
                    case measure => have := HK1.out; have := HK2.out; have := HK3.out; omega
                    case rel => exact ⟨(wrap64 (x11_3 + 1)), rsz, H', ⟨by have := HK1.out; have := HK2.out; have := HK3.out; omega⟩, ⟨by (with_reducible repeat (first | apply Kd.R_alloc | apply Kd.R_drewN | apply Kd.R_drew)); exact HO_8.out⟩, ⟨blkz⟩, ⟨bel⟩⟩
                   ·
                    replace c55 := Bool.eq_false_iff.mpr c55
                    subst c55
                    have H1 : ((dropperref05_Good.f k3 a0_0 l0_1 l0_2 (Go.bits .xor .i64 (rd l2 x10_2) (ji51)) l1).bind fun t774 => (if t774 = true then (some (false, 0)) else (dropperref05_IsShut.l2 k3 l1 l2 x8_1 x10_2 (wrap64 (x11_3 + 1)) a0_0 l0_1 l0_2))) = some (r1, r2) := by rw [if_neg (show ¬ (false = true) by decide)] at H; exact H
                    clear H
                    have H := H1
                    clear H1
                    replace H := Option.bind_eq_some_iff.mp H
                    obtain ⟨t774, A590, H⟩ := H
                    replace H : (if t774 = true then (some (false, 0)) else (dropperref05_IsShut.l2 k3 l1 l2 x8_1 x10_2 (wrap64 (x11_3 + 1)) a0_0 l0_1 l0_2)) = some (r1, r2) := H
                    have A59 := Aside0.mk A590
                    clear A590
                    by_cases c60 : t774 = true
                    ·
                     subst c60
                     have H1 : (some (false, 0)) = some (r1, r2) := by rw [if_pos rfl] at H; exact H
                     clear H
                     have H := H1
                     clear H1
                     simp only [Option.some.injEq, Prod.mk.injEq] at H
                     obtain ⟨rfl, rfl⟩ := H
                     have hcz61_0 := blkc BK758.out 0 (.int .i64 a0_0) rfl
                     have hcz61_1 := blkc BK758.out 1 (.slice A0_1 l0_1.length c0_1) rfl
                     have hcz61_2 := blkc BK758.out 2 (.slice A0_2 l0_2.length c0_2) rfl
                     have hfz61_0 := blk_frozen BK758.out 0
                     have hfz61_1 := blk_frozen BK758.out 1
                     have hfz61_2 := blk_frozen BK758.out 2
                     try go_wp2
                     have n0_ := Aside0.mk (Kd.R_drew HO_8.out)
                     have n1_ := Aside0.mk (blk_drew BK758.out)
                     have n2_ := Aside0.mk (below_drew1 HB.out)
                     clear HO_8
                     clear BK758
                     clear HB
                     have HO_8 := n0_
                     have BK758 := n1_
                     have HB := n2_
                     clear n0_ n1_ n2_
                     have p772 : 0 ≤ (x10_2 : Int) := of_decide_eq_true asz
                     have q772 : x10_2 < (l2.length : Int) := of_decide_eq_true asz
                     obtain ⟨ad772, e772, hx772_0⟩ := Kd.at_int HR2.out x10_2 p772 q772
                     have hw772_0 := hx772_0
                     cases e772
                     replace hx772_0 := (HB.out.cell (World.block_lt_of_cell? w _ hx772_0)).trans hx772_0
                     replace p772 := eq_true p772
                     replace q772 := eq_true q772
                     refine start_ (n := 8) (S := fun w' => w'.cell? (ad772.add (x10_2).toNat) = some (.int .i64 (rd l2 x10_2))) (ds := []) #[false, false, false, false, false, false, false, false] (by kernel_rfl) rfl rfl (((HB.out.cell (World.block_lt_of_cell? w _ hw772_0)).trans hw772_0)) (fun hHeld => ?_); refine with_tabW dropperref05_IsShut.tab18 dropperref05_IsShut.bits18 (fun HT_ HW_ => ?_)
                     generalize wr.drew = w62 at HO_8 BK758 HB hx772_0 hHeld ⊢
                     refine pst (i := 0) (N := some 76) (bz 8 1) (any_of HT_.out (by kernel_rfl)) ?_
                     refine pst (i := 1) (N := some 77) (bz 8 3) (any_of HT_.out (by kernel_rfl)) ?_
                     refine pst (i := 2) (N := some 78) (bz 8 7) (any_of HT_.out (by kernel_rfl)) ?_
                     refine pst (i := 4) (N := some 80) (bz 8 23) (any_of HT_.out (by kernel_rfl)) ?_
                     refine pst (i := 5) (N := some 81) (bz 8 55) (any_of HT_.out (by kernel_rfl)) ?_
                     refine tst1 (i := 3) (N := some 79) (bz 8 63) (take_ofW HT_.out HW_.out (by kernel_rfl)) hHeld ?_
                     refine pst (i := 6) (N := some 82) (bz 8 127) (any_of HT_.out (by kernel_rfl)) ?_
                     refine pst (i := 7) (N := some 12) (bz 8 255) (any_of HT_.out (by kernel_rfl)) ?_
                     refine done_ (done_of HT_.out (by kernel_rfl)) ?_
                     obtain ⟨Ao63, co63, eo63⟩ := Kd.R_slice HO_8.out
                     subst eo63
                     have p773 : 0 ≤ ((Go.bits .xor .i64 (rd l2 x10_2) (ji51)) : Int) := of_decide_eq_true asz
                     have q773 : (Go.bits .xor .i64 (rd l2 x10_2) (ji51)) < (x8_1.length : Int) := of_decide_eq_true asz
                     obtain ⟨ad773, e773, hx773_0⟩ := Kd.at_bool (Kd.R_reads' HO_8.out).2.2 (Go.bits .xor .i64 (rd l2 x10_2) (ji51)) p773 q773
                     (try rw [← Nbq54.out] at hx773_0)
                     cases e773
                     replace p773 := eq_true p773
                     replace q773 := eq_true q773
                     have hcz64_0 := blkc BK758.out 0 (.int .i64 a0_0) rfl
                     have hcz64_1 := blkc BK758.out 1 (.slice A0_1 l0_1.length c0_1) rfl
                     have hcz64_2 := blkc BK758.out 2 (.slice A0_2 l0_2.length c0_2) rfl
                     have hfz64_0 := blk_frozen BK758.out 0
                     have hfz64_1 := blk_frozen BK758.out 1
                     have hfz64_2 := blk_frozen BK758.out 2
                     try go_wp2_with (first | (go_at_call 74; (with_reducible refine (dropperref05_Good.calls k3 a0_0 _ _ l0_1 _ _ l0_2 (Go.bits .xor .i64 (rd l2 x10_2) (ji51)) _ _ l1 true _ ?side1 ?side2 ?side3 ?side4 ?side5 ?side6 A59.out).mono ?_); (case side1 => exact cbz HR0_1); (case side2 => exact HC0_1.out); (case side3 => exact cbz HR0_2); (case side4 => exact HC0_2.out); (case side5 => exact cbz HR1); (case side6 => exact HC1.out); rintro e w65 ⟨rfl, hb⟩; replace HO_8 := Aside0.mk (Kd.R_below (ownx HO_8) hb); replace BK758 := Aside0.mk (blk_below (g := gb758) blkz hb); replace HB := Aside0.mk (below_step bel hb); (try clear hb); (try clear hb2); (try clear hk); (try clear hi)))
                     go_ret2
                     exact ⟨by first | rfl | (simp [errW_none, errW_some] <;> rfl) | (simp only [← hji8, ← hji51]; first | rfl | (simp [errW_none, errW_some] <;> rfl)) | (simp [*, errW_none, errW_some] <;> rfl), bel⟩
                    ·
                     replace c60 := Bool.eq_false_iff.mpr c60
                     subst c60
                     have H1 : (dropperref05_IsShut.l2 k3 l1 l2 x8_1 x10_2 (wrap64 (x11_3 + 1)) a0_0 l0_1 l0_2) = some (r1, r2) := by rw [if_neg (show ¬ (false = true) by decide)] at H; exact H
                     clear H
                     have H := H1
                     clear H1
                     have H' := Aside0.mk H
                     clear H
                     have hcz66_0 := blkc BK758.out 0 (.int .i64 a0_0) rfl
                     have hcz66_1 := blkc BK758.out 1 (.slice A0_1 l0_1.length c0_1) rfl
                     have hcz66_2 := blkc BK758.out 2 (.slice A0_2 l0_2.length c0_2) rfl
                     have hfz66_0 := blk_frozen BK758.out 0
                     have hfz66_1 := blk_frozen BK758.out 1
                     have hfz66_2 := blk_frozen BK758.out 2
                     try go_wp2
                     have n0_ := Aside0.mk (Kd.R_drew HO_8.out)
                     have n1_ := Aside0.mk (blk_drew BK758.out)
                     have n2_ := Aside0.mk (below_drew1 HB.out)
                     clear HO_8
                     clear BK758
                     clear HB
                     have HO_8 := n0_
                     have BK758 := n1_
                     have HB := n2_
                     clear n0_ n1_ n2_
                     have p772 : 0 ≤ (x10_2 : Int) := of_decide_eq_true asz
                     have q772 : x10_2 < (l2.length : Int) := of_decide_eq_true asz
                     obtain ⟨ad772, e772, hx772_0⟩ := Kd.at_int HR2.out x10_2 p772 q772
                     have hw772_0 := hx772_0
                     cases e772
                     replace hx772_0 := (HB.out.cell (World.block_lt_of_cell? w _ hx772_0)).trans hx772_0
                     replace p772 := eq_true p772
                     replace q772 := eq_true q772
                     refine start_ (n := 8) (S := fun w' => w'.cell? (ad772.add (x10_2).toNat) = some (.int .i64 (rd l2 x10_2))) (ds := []) #[false, false, false, false, false, false, false, false] (by kernel_rfl) rfl rfl (((HB.out.cell (World.block_lt_of_cell? w _ hw772_0)).trans hw772_0)) (fun hHeld => ?_); refine with_tabW dropperref05_IsShut.tab18 dropperref05_IsShut.bits18 (fun HT_ HW_ => ?_)
                     generalize wr.drew = w67 at HO_8 BK758 HB hx772_0 hHeld ⊢
                     refine pst (i := 0) (N := some 76) (bz 8 1) (any_of HT_.out (by kernel_rfl)) ?_
                     refine pst (i := 1) (N := some 77) (bz 8 3) (any_of HT_.out (by kernel_rfl)) ?_
                     refine pst (i := 2) (N := some 78) (bz 8 7) (any_of HT_.out (by kernel_rfl)) ?_
                     refine pst (i := 4) (N := some 80) (bz 8 23) (any_of HT_.out (by kernel_rfl)) ?_
                     refine pst (i := 5) (N := some 81) (bz 8 55) (any_of HT_.out (by kernel_rfl)) ?_
                     refine tst1 (i := 3) (N := some 79) (bz 8 63) (take_ofW HT_.out HW_.out (by kernel_rfl)) hHeld ?_
                     refine pst (i := 6) (N := some 82) (bz 8 127) (any_of HT_.out (by kernel_rfl)) ?_
                     refine pst (i := 7) (N := some 12) (bz 8 255) (any_of HT_.out (by kernel_rfl)) ?_
                     refine done_ (done_of HT_.out (by kernel_rfl)) ?_
                     obtain ⟨Ao68, co68, eo68⟩ := Kd.R_slice HO_8.out
                     subst eo68
                     have p773 : 0 ≤ ((Go.bits .xor .i64 (rd l2 x10_2) (ji51)) : Int) := of_decide_eq_true asz
                     have q773 : (Go.bits .xor .i64 (rd l2 x10_2) (ji51)) < (x8_1.length : Int) := of_decide_eq_true asz
                     obtain ⟨ad773, e773, hx773_0⟩ := Kd.at_bool (Kd.R_reads' HO_8.out).2.2 (Go.bits .xor .i64 (rd l2 x10_2) (ji51)) p773 q773
                     (try rw [← Nbq54.out] at hx773_0)
                     cases e773
                     replace p773 := eq_true p773
                     replace q773 := eq_true q773
                     have hcz69_0 := blkc BK758.out 0 (.int .i64 a0_0) rfl
                     have hcz69_1 := blkc BK758.out 1 (.slice A0_1 l0_1.length c0_1) rfl
                     have hcz69_2 := blkc BK758.out 2 (.slice A0_2 l0_2.length c0_2) rfl
                     have hfz69_0 := blk_frozen BK758.out 0
                     have hfz69_1 := blk_frozen BK758.out 1
                     have hfz69_2 := blk_frozen BK758.out 2
                     try go_wp2_with (first | (go_at_call 74; (with_reducible refine (dropperref05_Good.calls k3 a0_0 _ _ l0_1 _ _ l0_2 (Go.bits .xor .i64 (rd l2 x10_2) (ji51)) _ _ l1 false _ ?side1 ?side2 ?side3 ?side4 ?side5 ?side6 A59.out).mono ?_); (case side1 => exact cbz HR0_1); (case side2 => exact HC0_1.out); (case side3 => exact cbz HR0_2); (case side4 => exact HC0_2.out); (case side5 => exact cbz HR1); (case side6 => exact HC1.out); rintro e w70 ⟨rfl, hb⟩; replace HO_8 := Aside0.mk (Kd.R_below (ownx HO_8) hb); replace BK758 := Aside0.mk (blk_below (g := gb758) blkz hb); replace HB := Aside0.mk (below_step bel hb); (try clear hb); (try clear hb2); (try clear hk); (try clear hi)))
                     go_roundg k3
                     case measure => have := HK1.out; have := HK2.out; have := HK3.out; omega
                     case rel => exact ⟨(wrap64 (x11_3 + 1)), rsz, H', ⟨by have := HK1.out; have := HK2.out; have := HK3.out; omega⟩, ⟨by (with_reducible repeat (first | apply Kd.R_alloc | apply Kd.R_drewN | apply Kd.R_drew)); exact HO_8.out⟩, ⟨blkz⟩, ⟨bel⟩⟩
                  ·
                   rw [if_neg c53] at H
                   exact absurd H (by simp)
                 ·
                  rw [if_neg c52] at H
                  exact absurd H (by simp)
                ·
                 rw [if_neg c50] at H
                 exact absurd H (by simp)
               ·
                rw [if_neg c49] at H
                exact absurd H (by simp)
              ·
               rw [if_neg c48] at H
               exact absurd H (by simp)
             ·
              rw [if_neg c47] at H
              have c47b0 : decide (x11_3 < (l0_1.length : Int)) = false := decide_eq_false c47
              clear c47
              have H' := Aside0.mk H
              clear H
              have hcz71_0 := blkc BK758.out 0 (.int .i64 a0_0) rfl
              have hcz71_1 := blkc BK758.out 1 (.slice A0_1 l0_1.length c0_1) rfl
              have hcz71_2 := blkc BK758.out 2 (.slice A0_2 l0_2.length c0_2) rfl
              have hfz71_0 := blk_frozen BK758.out 0
              have hfz71_1 := blk_frozen BK758.out 1
              have hfz71_2 := blk_frozen BK758.out 2
              go_wp2
              go_roundg k3
              case measure => have := HK1.out; have := HK2.out; have := HK3.out; omega
              case rel => exact ⟨(wrap64 (x10_2 + 1)), rsz, H', ⟨by have := HK1.out; have := HK2.out; have := HK3.out; omega⟩, ⟨by (with_reducible repeat (first | apply Kd.R_alloc | apply Kd.R_drewN | apply Kd.R_drew)); exact HO_8.out⟩, ⟨blkz⟩, ⟨bel⟩⟩
          ·
           rw [if_neg c46] at H
           have c46b0 : decide (x10_2 < (l2.length : Int)) = false := decide_eq_false c46
           clear c46
           simp only [Option.some.injEq, Prod.mk.injEq] at H
           obtain ⟨rfl, rfl⟩ := H
           go_wp2
           go_ret2
           exact ⟨by first | rfl | (simp [errW_none, errW_some] <;> rfl) | (simp only [← hji8]; first | rfl | (simp [errW_none, errW_some] <;> rfl)) | (simp [*, errW_none, errW_some] <;> rfl), bel⟩
    ·
     rw [if_neg c10] at H
     exact absurd H (by simp)
   ·
    rw [if_neg c9] at H
    exact absurd H (by simp)
  ·
   replace c7 := Bool.eq_false_iff.mpr c7
   subst c7
   have H1 : (some (false, 2)) = some (r1, r2) := by rw [if_neg (show ¬ (false = true) by decide)] at H; exact H
   clear H
   have H := H1
   clear H1
   simp only [Option.some.injEq, Prod.mk.injEq] at H
   obtain ⟨rfl, rfl⟩ := H
   go_enter Tryd.func45, Tryd.ntmps45
   go_wp2_with (first | ((with_reducible refine gate_dst (N := 3) rfl ?_); refine box_event ?hg (N := 3) ?hd (cs := #[.int .i64 a0_0, .slice A0_1 l0_1.length c0_1, .slice A0_2 l0_2.length c0_2]) (t := 25) ?hr ?_; (case hd => rfl); (case hg => rfl); (case hr => first | (go_simp; done) | (go_simp; rfl)); intro gb758 hg w72 hbox hb; have BK758 := Aside0.mk (hbox); have GW758 := bsz (w := w) hg; have GE758 := GW758; replace HB := Aside0.mk (below_step bel hb); clear hb hbox hg; have hcz73_0 := blkc BK758.out 0 (.int .i64 a0_0) rfl; have hcz73_1 := blkc BK758.out 1 (.slice A0_1 l0_1.length c0_1) rfl; have hcz73_2 := blkc BK758.out 2 (.slice A0_2 l0_2.length c0_2) rfl) | ((with_reducible refine gate_callee (f := 20) rfl ?_); refine goesL_ (some 15) rfl rfl Tryd.func20 (by kernel_rfl) rfl #[.agg #[.int .i64 a0_0, .slice A0_1 l0_1.length c0_1, .slice A0_2 l0_2.length c0_2]] rfl mapz ?_; (with_reducible refine (dropperref05_Valid.calls k a0_0 _ _ l0_1 _ _ l0_2 true _ ?side1 ?side2 ?side3 ?side4 A4.out).mono ?_); (case side1 => exact cbz HR0_1); (case side2 => exact HC0_1.out); (case side3 => exact cbz HR0_2); (case side4 => exact HC0_2.out); rintro e w74 ⟨rfl, hb⟩; refine ⟨_, rfl, ?_⟩; replace BK758 := Aside0.mk (blk_below (g := gb758) blkz hb); replace HB := Aside0.mk (below_step bel hb); (try clear hb); (try clear hb2); (try clear hk); (try clear hi); have hcz75_0 := blkc BK758.out 0 (.int .i64 a0_0) rfl; have hcz75_1 := blkc BK758.out 1 (.slice A0_1 l0_1.length c0_1) rfl; have hcz75_2 := blkc BK758.out 2 (.slice A0_2 l0_2.length c0_2) rfl) | ((with_reducible refine gate_callee (f := 88) rfl ?_); refine goesL_ (some 20) rfl rfl Tryd.func88 (by kernel_rfl) rfl #[.agg #[.int .i64 a0_0, .slice A0_1 l0_1.length c0_1, .slice A0_2 l0_2.length c0_2], .slice A1 l1.length c1] rfl mapz ?_; (with_reducible refine (dropperref05_IsKeep.calls k a0_0 _ _ l0_1 _ _ l0_2 _ _ l1 false _ ?side1 ?side2 ?side3 ?side4 ?side5 ?side6 A6.out).mono ?_); (case side1 => exact cbz HR0_1); (case side2 => exact HC0_1.out); (case side3 => exact cbz HR0_2); (case side4 => exact HC0_2.out); (case side5 => exact cbz HR1); (case side6 => exact HC1.out); rintro e w76 ⟨rfl, hb⟩; refine ⟨_, rfl, ?_⟩; replace BK758 := Aside0.mk (blk_below (g := gb758) blkz hb); replace HB := Aside0.mk (below_step bel hb); (try clear hb); (try clear hb2); (try clear hk); (try clear hi)))
   go_ret2
   exact ⟨ezz, bel⟩
 ·
  replace c5 := Bool.eq_false_iff.mpr c5
  subst c5
  have H1 : (some (false, 50)) = some (r1, r2) := by rw [if_neg (show ¬ (false = true) by decide)] at H; exact H
  clear H
  have H := H1
  clear H1
  simp only [Option.some.injEq, Prod.mk.injEq] at H
  obtain ⟨rfl, rfl⟩ := H
  go_enter Tryd.func45, Tryd.ntmps45
  go_wp2_with (first | ((with_reducible refine gate_dst (N := 3) rfl ?_); refine box_event ?hg (N := 3) ?hd (cs := #[.int .i64 a0_0, .slice A0_1 l0_1.length c0_1, .slice A0_2 l0_2.length c0_2]) (t := 25) ?hr ?_; (case hd => rfl); (case hg => rfl); (case hr => first | (go_simp; done) | (go_simp; rfl)); intro gb758 hg w77 hbox hb; have BK758 := Aside0.mk (hbox); have GW758 := bsz (w := w) hg; have GE758 := GW758; replace HB := Aside0.mk (below_step bel hb); clear hb hbox hg; have hcz78_0 := blkc BK758.out 0 (.int .i64 a0_0) rfl; have hcz78_1 := blkc BK758.out 1 (.slice A0_1 l0_1.length c0_1) rfl; have hcz78_2 := blkc BK758.out 2 (.slice A0_2 l0_2.length c0_2) rfl) | ((with_reducible refine gate_callee (f := 20) rfl ?_); refine goesL_ (some 15) rfl rfl Tryd.func20 (by kernel_rfl) rfl #[.agg #[.int .i64 a0_0, .slice A0_1 l0_1.length c0_1, .slice A0_2 l0_2.length c0_2]] rfl mapz ?_; (with_reducible refine (dropperref05_Valid.calls k a0_0 _ _ l0_1 _ _ l0_2 false _ ?side1 ?side2 ?side3 ?side4 A4.out).mono ?_); (case side1 => exact cbz HR0_1); (case side2 => exact HC0_1.out); (case side3 => exact cbz HR0_2); (case side4 => exact HC0_2.out); rintro e w79 ⟨rfl, hb⟩; refine ⟨_, rfl, ?_⟩; replace BK758 := Aside0.mk (blk_below (g := gb758) blkz hb); replace HB := Aside0.mk (below_step bel hb); (try clear hb); (try clear hb2); (try clear hk); (try clear hi)))
  go_ret2
  exact ⟨ezz, bel⟩

/-! ### dropperlaw05_FeedReach: function 10 -/
def dropperlaw05_FeedReach.j0 : Nat → Int → Bool → Int → List (S69) → List (S71) → List Int → List Int → Option (Bool)
 | 0, _, _, _, _, _, _, _ => none
 | k + 1, x1, x24, x776000, x776001, x776002, x777000, x777001 => if x24 = true then ((dropperlaw05_First.f k).bind fun t778 => (some t778)) else ((feed_Reach.f k x776000 x776001 x776002 x1 x777000).bind fun bt779 => ((dropperref05_Reach.f k x776000 x776001 x776002 x1 x777000).bind fun bt783 => ((feed_IsShut.f k x776000 x776001 x776002 x777000 x777001).bind fun bt787 => ((dropperref05_IsShut.f k x776000 x776001 x776002 x777000 x777001).bind fun bt789 => ((dropperlaw05_SameInts.f k bt779.1 bt783.1).bind fun t791 => (if t791 = true then (if bt779.2 = bt783.2 then (if (bt787.1 == bt789.1) = true then (if bt787.2 = bt789.2 then ((dropperlaw05_First.f k).bind fun t792 => (some t792)) else (none)) else (none)) else (none)) else (none)))))))
def dropperlaw05_FeedReach.f (k : Nat) (a0_0 : Int) (l0_1 : List (S69)) (l0_2 : List (S71)) (a1 : Int) (l2_0 : List Int) (l2_1 : List Int) : Option (Bool) := (dropperlaw05_Large.f a0_0 l0_1 l0_2 l2_0).bind fun t777 => (if t777 = true then (dropperlaw05_FeedReach.j0 k a1 true a0_0 l0_1 l0_2 l2_0 l2_1) else (dropperlaw05_FeedReach.j0 k a1 (decide ((l2_1.length : Int) > 1100)) a0_0 l0_1 l0_2 l2_0 l2_1))
theorem dropperlaw05_FeedReach.mono_l : ∀ k, (∀ y0 y1 y2 y3 y4 y5 y6, LeO (dropperlaw05_FeedReach.j0 k y0 y1 y2 y3 y4 y5 y6) (dropperlaw05_FeedReach.j0 (k + 1) y0 y1 y2 y3 y4 y5 y6))
 | 0 => fun _ _ _ _ _ _ _ r h => by simp [dropperlaw05_FeedReach.j0] at h
 | k + 1 => by
  have ih0 := dropperlaw05_FeedReach.mono_l k
  ·
   intro y0 y1 y2 y3 y4 y5 y6
   unfold dropperlaw05_FeedReach.j0
   repeat' first
   | (with_reducible exact ih0 _ _ _ _ _ _ _)
   | (with_reducible exact dropperlaw05_First.mono _)
   | (with_reducible exact dropperlaw05_SameInts.mono _ _ _)
   | (with_reducible exact dropperref05_IsShut.mono _ _ _ _ _ _)
   | (with_reducible exact dropperref05_Reach.mono _ _ _ _ _ _)
   | (with_reducible exact feed_IsShut.mono _ _ _ _ _ _)
   | (with_reducible exact feed_Reach.mono _ _ _ _ _ _)
   | (with_reducible exact LeO.refl _)
   | (with_reducible exact LeO.none _)
   | (with_reducible refine LeO.ite ?_ ?_)
   | (with_reducible refine LeO.bind ?_ (fun _ => ?_))
   | exact ih0 _ _ _ _ _ _ _
   | exact dropperlaw05_First.mono _
   | exact dropperlaw05_SameInts.mono _ _ _
   | exact dropperref05_IsShut.mono _ _ _ _ _ _
   | exact dropperref05_Reach.mono _ _ _ _ _ _
   | exact feed_IsShut.mono _ _ _ _ _ _
   | exact feed_Reach.mono _ _ _ _ _ _
   | exact LeO.none _
   | refine LeO.ite ?_ ?_
   | refine LeO.bind ?_ (fun _ => ?_)
theorem dropperlaw05_FeedReach.mono : ∀ a0 a1 a2 a3 a4 a5 k, LeO (dropperlaw05_FeedReach.f k a0 a1 a2 a3 a4 a5) (dropperlaw05_FeedReach.f (k + 1) a0 a1 a2 a3 a4 a5) := by
 intro a0 a1 a2 a3 a4 a5 k
 have ih0 := dropperlaw05_FeedReach.mono_l k
 unfold dropperlaw05_FeedReach.f
 repeat' first
   | (with_reducible exact ih0 _ _ _ _ _ _ _)
   | (with_reducible exact dropperlaw05_First.mono _)
   | (with_reducible exact dropperlaw05_SameInts.mono _ _ _)
   | (with_reducible exact dropperref05_IsShut.mono _ _ _ _ _ _)
   | (with_reducible exact dropperref05_Reach.mono _ _ _ _ _ _)
   | (with_reducible exact feed_IsShut.mono _ _ _ _ _ _)
   | (with_reducible exact feed_Reach.mono _ _ _ _ _ _)
   | (with_reducible exact LeO.refl _)
   | (with_reducible exact LeO.none _)
   | (with_reducible refine LeO.ite ?_ ?_)
   | (with_reducible refine LeO.bind ?_ (fun _ => ?_))
   | exact ih0 _ _ _ _ _ _ _
   | exact dropperlaw05_First.mono _
   | exact dropperlaw05_SameInts.mono _ _ _
   | exact dropperref05_IsShut.mono _ _ _ _ _ _
   | exact dropperref05_Reach.mono _ _ _ _ _ _
   | exact feed_IsShut.mono _ _ _ _ _ _
   | exact feed_Reach.mono _ _ _ _ _ _
   | exact LeO.none _
   | refine LeO.ite ?_ ?_
   | refine LeO.bind ?_ (fun _ => ?_)
set_option maxHeartbeats 8000000 in
set_option maxRecDepth 100000 in
theorem dropperlaw05_FeedReach.calls (k : Nat) (a0_0 : Int) (A0_1 : Option Addr) (c0_1 : Nat) (l0_1 : List (S69)) (A0_2 : Option Addr) (c0_2 : Nat) (l0_2 : List (S71)) (a1 : Int) (A2_0 : Option Addr) (c2_0 : Nat) (l2_0 : List Int) (A2_1 : Option Addr) (c2_1 : Nat) (l2_1 : List Int) (r : Bool) (w : World) (hr0_1 : Kd.C k69 w A0_1 l0_1.length l0_1) (hc0_1 : l0_1.length ≤ c0_1) (hr0_2 : Kd.C k71 w A0_2 l0_2.length l0_2) (hc0_2 : l0_2.length ≤ c0_2) (hr2_0 : Kd.C (Kd.int .i64) w A2_0 l2_0.length l2_0) (hc2_0 : l2_0.length ≤ c2_0) (hr2_1 : Kd.C (Kd.int .i64) w A2_1 l2_1.length l2_1) (hc2_1 : l2_1.length ≤ c2_1) (hT : Tab.Tabs w) (h : dropperlaw05_FeedReach.f k a0_0 l0_1 l0_2 a1 l2_0 l2_1 = some r) :
  Calls Tryd.prog 10 #[.agg #[.int .i64 a0_0, .slice A0_1 l0_1.length c0_1, .slice A0_2 l0_2.length c0_2], .int .i64 a1, .agg #[.slice A2_0 l2_0.length c2_0, .slice A2_1 l2_1.length c2_1]] w fun e w' => e = .returned (.bool r) ∧ Below w.heap.size w w' := by
 have HT := Aside0.mk hT
 clear hT
 have hu25 := Tryd.underlying25
 have hu54 := Tryd.underlying54
 have HR0_1 := Aside0.mk hr0_1
 have HC0_1 := Aside0.mk hc0_1
 clear hr0_1 hc0_1
 have HR0_2 := Aside0.mk hr0_2
 have HC0_2 := Aside0.mk hc0_2
 clear hr0_2 hc0_2
 have HR2_0 := Aside0.mk hr2_0
 have HC2_0 := Aside0.mk hc2_0
 clear hr2_0 hc2_0
 have HR2_1 := Aside0.mk hr2_1
 have HC2_1 := Aside0.mk hc2_1
 clear hr2_1 hc2_1
 have HB := Aside0.mk (Below.refl w.heap.size w)
 have H : ((dropperlaw05_Large.f a0_0 l0_1 l0_2 l2_0).bind fun t777 => (if t777 = true then (dropperlaw05_FeedReach.j0 k a1 true a0_0 l0_1 l0_2 l2_0 l2_1) else (dropperlaw05_FeedReach.j0 k a1 (decide ((l2_1.length : Int) > 1100)) a0_0 l0_1 l0_2 l2_0 l2_1))) = some r := h
 clear h
 have HC4 := Aside0.mk H
 clear H
 go_enter Tryd.func10, Tryd.ntmps10
 go_upto_region 1 with (first | ((with_reducible refine gate_dst (N := 3) rfl ?_); (try (refine gate_guard (by rfl) ?_; dsimp only)); refine box_event ?hg (N := 3) ?hd (cs := #[.int .i64 a0_0, .slice A0_1 l0_1.length c0_1, .slice A0_2 l0_2.length c0_2]) (t := 25) ?hr ?_; (case hd => rfl); (case hg => rfl); (case hr => first | (go_simp; done) | (go_simp; rfl)); intro gb775 hg w5 hbox hb; have BK775 := Aside0.mk (hbox); have GW775 := bsz (w := w) hg; have GE775 := GW775; replace HB := Aside0.mk (below_step bel hb); clear hb hbox hg) | ((with_reducible refine gate_dst (N := 5) rfl ?_); (try (refine gate_guard (by rfl) ?_; dsimp only)); refine box_event ?hg (N := 5) ?hd (cs := #[.slice A2_0 l2_0.length c2_0, .slice A2_1 l2_1.length c2_1]) (t := 54) ?hr ?_; (case hd => rfl); (case hg => rfl); (case hr => first | (go_simp; done) | (go_simp; rfl)); intro gb776 hg w6 hbox hb; have BK776 := Aside0.mk (hbox); have GW776 := bsz (w := w) hg; have GE776 := GW776; have NB775_776 := neL (g := gb775) hg; have NB776_775 := neR (g := gb775) hg; replace BK775 := Aside0.mk (blk_below (g := gb775) blkz hb); replace HB := Aside0.mk (below_step bel hb); clear hb hbox hg))
 (try simp only [Act.put, List.setIfInBounds_toArray, List.set_cons_zero, List.set_cons_succ])
 go_cut [24] (fun v24 wc => ∃ (kq : Nat) (x24_3 : Bool), v24 = .bool x24_3 ∧ Aside0 (dropperlaw05_FeedReach.j0 kq a1 x24_3 a0_0 l0_1 l0_2 l2_0 l2_1 = some r) ∧ Aside0 (kq ≤ k) ∧ Aside0 (wc.heap[gb775]? = some (.cells #[.int .i64 a0_0, (.slice A0_1 l0_1.length c0_1), (.slice A0_2 l0_2.length c0_2)] 25 (0, 0))) ∧ Aside0 (wc.heap[gb776]? = some (.cells #[(.slice A2_0 l2_0.length c2_0), (.slice A2_1 l2_1.length c2_1)] 54 (0, 0))) ∧ Aside0 (Below w.heap.size w wc))
 case first =>
  have H := HC4.out
  clear HC4
  replace H := Option.bind_eq_some_iff.mp H
  obtain ⟨t777, A70, H⟩ := H
  replace H : (if t777 = true then (dropperlaw05_FeedReach.j0 k a1 true a0_0 l0_1 l0_2 l2_0 l2_1) else (dropperlaw05_FeedReach.j0 k a1 (decide ((l2_1.length : Int) > 1100)) a0_0 l0_1 l0_2 l2_0 l2_1)) = some r := H
  have A7 := Aside0.mk A70
  clear A70
  by_cases c8 : t777 = true
  ·
   subst c8
   have H1 : (dropperlaw05_FeedReach.j0 k a1 true a0_0 l0_1 l0_2 l2_0 l2_1) = some r := by rw [if_pos rfl] at H; exact H
   clear H
   have H := H1
   clear H1
   have H' := Aside0.mk H
   clear H
   have hnb9 := NB775_776.out
   have hnc9 := NB776_775.out
   have hcz10_0 := blkc BK775.out 0 (.int .i64 a0_0) rfl
   have hcz10_1 := blkc BK775.out 1 (.slice A0_1 l0_1.length c0_1) rfl
   have hcz10_2 := blkc BK775.out 2 (.slice A0_2 l0_2.length c0_2) rfl
   have hfz10_0 := blk_frozen BK775.out 0
   have hfz10_1 := blk_frozen BK775.out 1
   have hfz10_2 := blk_frozen BK775.out 2
   have hcz11_0 := blkc BK776.out 0 (.slice A2_0 l2_0.length c2_0) rfl
   have hcz11_1 := blkc BK776.out 1 (.slice A2_1 l2_1.length c2_1) rfl
   have hfz11_0 := blk_frozen BK776.out 0
   have hfz11_1 := blk_frozen BK776.out 1
   go_wp2_with (first | ((with_reducible refine gate_callee (f := 11) rfl ?_); refine goesL_ (some 18) rfl rfl Tryd.func11 (by kernel_rfl) rfl #[.agg #[.int .i64 a0_0, .slice A0_1 l0_1.length c0_1, .slice A0_2 l0_2.length c0_2], .slice A2_0 l2_0.length c2_0] rfl mapz ?_; (with_reducible refine (dropperlaw05_Large.calls a0_0 _ _ l0_1 _ _ l0_2 _ _ l2_0 true _ ?side1 ?side2 ?side3 ?side4 ?side5 ?side6 A7.out).mono ?_); (case side1 => exact cbz HR0_1); (case side2 => exact HC0_1.out); (case side3 => exact cbz HR0_2); (case side4 => exact HC0_2.out); (case side5 => exact cbz HR2_0); (case side6 => exact HC2_0.out); rintro e w12 ⟨rfl, hb⟩; refine ⟨_, rfl, ?_⟩; replace BK775 := Aside0.mk (blk_below (g := gb775) blkz hb); replace BK776 := Aside0.mk (blk_below (g := gb776) blkz hb); replace HB := Aside0.mk (below_step bel hb); (try clear hb); (try clear hb2); (try clear hk); (try clear hi)))
   go_meet
   case rel => exact ⟨_, (true), rsz, H', ⟨by first | omega | exact Nat.le_refl _⟩, ⟨blkz⟩, ⟨blkz⟩, ⟨bel⟩⟩
  ·
   replace c8 := Bool.eq_false_iff.mpr c8
   subst c8
   have H1 : (dropperlaw05_FeedReach.j0 k a1 (decide ((l2_1.length : Int) > 1100)) a0_0 l0_1 l0_2 l2_0 l2_1) = some r := by rw [if_neg (show ¬ (false = true) by decide)] at H; exact H
   clear H
   have H := H1
   clear H1
   have H' := Aside0.mk H
   clear H
   have hnb13 := NB775_776.out
   have hnc13 := NB776_775.out
   have hcz14_0 := blkc BK775.out 0 (.int .i64 a0_0) rfl
   have hcz14_1 := blkc BK775.out 1 (.slice A0_1 l0_1.length c0_1) rfl
   have hcz14_2 := blkc BK775.out 2 (.slice A0_2 l0_2.length c0_2) rfl
   have hfz14_0 := blk_frozen BK775.out 0
   have hfz14_1 := blk_frozen BK775.out 1
   have hfz14_2 := blk_frozen BK775.out 2
   have hcz15_0 := blkc BK776.out 0 (.slice A2_0 l2_0.length c2_0) rfl
   have hcz15_1 := blkc BK776.out 1 (.slice A2_1 l2_1.length c2_1) rfl
   have hfz15_0 := blk_frozen BK776.out 0
   have hfz15_1 := blk_frozen BK776.out 1
   go_wp2_with (first | ((with_reducible refine gate_callee (f := 11) rfl ?_); refine goesL_ (some 18) rfl rfl Tryd.func11 (by kernel_rfl) rfl #[.agg #[.int .i64 a0_0, .slice A0_1 l0_1.length c0_1, .slice A0_2 l0_2.length c0_2], .slice A2_0 l2_0.length c2_0] rfl mapz ?_; (with_reducible refine (dropperlaw05_Large.calls a0_0 _ _ l0_1 _ _ l0_2 _ _ l2_0 false _ ?side1 ?side2 ?side3 ?side4 ?side5 ?side6 A7.out).mono ?_); (case side1 => exact cbz HR0_1); (case side2 => exact HC0_1.out); (case side3 => exact cbz HR0_2); (case side4 => exact HC0_2.out); (case side5 => exact cbz HR2_0); (case side6 => exact HC2_0.out); rintro e w16 ⟨rfl, hb⟩; refine ⟨_, rfl, ?_⟩; replace BK775 := Aside0.mk (blk_below (g := gb775) blkz hb); replace BK776 := Aside0.mk (blk_below (g := gb776) blkz hb); replace HB := Aside0.mk (below_step bel hb); (try clear hb); (try clear hb2); (try clear hk); (try clear hi); have hcz17_0 := blkc BK776.out 0 (.slice A2_0 l2_0.length c2_0) rfl; have hcz17_1 := blkc BK776.out 1 (.slice A2_1 l2_1.length c2_1) rfl))
   go_meet
   case rel => exact ⟨_, (decide ((l2_1.length : Int) > 1100)), rsz, H', ⟨by first | omega | exact Nat.le_refl _⟩, ⟨blkz⟩, ⟨blkz⟩, ⟨bel⟩⟩
 case rest =>
  clear HC4
  try clear c1
  try clear c2
  try clear p2
  try clear c8
  try clear c9
  try clear c10
  try clear c11
  try clear c13
  try clear hcz10_0
  try clear hcz10_1
  try clear hcz10_2
  try clear hcz11_0
  try clear hcz11_1
  try clear hcz14_0
  try clear hcz14_1
  try clear hcz14_2
  try clear hcz15_0
  try clear hcz15_1
  try clear hcz17_0
  try clear hcz17_1
  try clear hfz10_0
  try clear hfz10_1
  try clear hfz10_2
  try clear hfz11_0
  try clear hfz11_1
  try clear hfz14_0
  try clear hfz14_1
  try clear hfz14_2
  try clear hfz15_0
  try clear hfz15_1
  try clear hfz17_0
  try clear hfz17_1
  obtain ⟨kq, x24_3, rfl, HA, HJ3, BK775, BK776, HB⟩ := hcut
  cases kq with
  | zero => exact absurd HA.out (by simp [dropperlaw05_FeedReach.j0])
  | succ kj3 =>
   have H := HA.out
   clear HA
   simp only [dropperlaw05_FeedReach.j0] at H
   by_cases c18 : x24_3 = true
   ·
    subst c18
    have H1 : ((dropperlaw05_First.f kj3).bind fun t778 => (some t778)) = some r := by rw [if_pos rfl] at H; exact H
    clear H
    have H := H1
    clear H1
    replace H := Option.bind_eq_some_iff.mp H
    obtain ⟨t778, A190, H⟩ := H
    replace H : (some t778) = some r := H
    have A19 := Aside0.mk A190
    clear A190
    obtain rfl := Option.some.inj H
    go_wp2_with (first | ((with_reducible refine gate_callee (f := 12) rfl ?_); refine goesL_ (some 25) rfl rfl Tryd.func12 (by kernel_rfl) rfl #[] rfl mapz ?_; (with_reducible refine (dropperlaw05_First.calls kj3  t778 _ ?sideT A19.out).mono ?_); (case sideT => first | exact HT.out | exact Tab.Tabs.below HT.out bel | (with_reducible repeat (first | exact HT.out | apply Tab.Tabs.alloc | apply Tab.Tabs.drewN | apply Tab.Tabs.drew))); rintro e w20 ⟨rfl, hb⟩; refine ⟨_, rfl, ?_⟩; replace BK775 := Aside0.mk (blk_below (g := gb775) blkz hb); replace BK776 := Aside0.mk (blk_below (g := gb776) blkz hb); replace HB := Aside0.mk (below_step bel hb); (try clear hb); (try clear hb2); (try clear hk); (try clear hi)))
    go_ret
    exact ⟨ezz, bel⟩
   ·
    replace c18 := Bool.eq_false_iff.mpr c18
    subst c18
    have H1 : ((feed_Reach.f kj3 a0_0 l0_1 l0_2 a1 l2_0).bind fun bt779 => ((dropperref05_Reach.f kj3 a0_0 l0_1 l0_2 a1 l2_0).bind fun bt783 => ((feed_IsShut.f kj3 a0_0 l0_1 l0_2 l2_0 l2_1).bind fun bt787 => ((dropperref05_IsShut.f kj3 a0_0 l0_1 l0_2 l2_0 l2_1).bind fun bt789 => ((dropperlaw05_SameInts.f kj3 bt779.1 bt783.1).bind fun t791 => (if t791 = true then (if bt779.2 = bt783.2 then (if (bt787.1 == bt789.1) = true then (if bt787.2 = bt789.2 then ((dropperlaw05_First.f kj3).bind fun t792 => (some t792)) else (none)) else (none)) else (none)) else (none))))))) = some r := by rw [if_neg (show ¬ (false = true) by decide)] at H; exact H
    clear H
    have H := H1
    clear H1
    replace H := Option.bind_eq_some_iff.mp H
    obtain ⟨⟨t779, t782⟩, A210, H⟩ := H
    replace H : ((dropperref05_Reach.f kj3 a0_0 l0_1 l0_2 a1 l2_0).bind fun bt783 => ((feed_IsShut.f kj3 a0_0 l0_1 l0_2 l2_0 l2_1).bind fun bt787 => ((dropperref05_IsShut.f kj3 a0_0 l0_1 l0_2 l2_0 l2_1).bind fun bt789 => ((dropperlaw05_SameInts.f kj3 t779 bt783.1).bind fun t791 => (if t791 = true then (if t782 = bt783.2 then (if (bt787.1 == bt789.1) = true then (if bt787.2 = bt789.2 then ((dropperlaw05_First.f kj3).bind fun t792 => (some t792)) else (none)) else (none)) else (none)) else (none)))))) = some r := H
    have A21 := Aside0.mk A210
    clear A210
    replace H := Option.bind_eq_some_iff.mp H
    obtain ⟨⟨t783, t786⟩, A220, H⟩ := H
    replace H : ((feed_IsShut.f kj3 a0_0 l0_1 l0_2 l2_0 l2_1).bind fun bt787 => ((dropperref05_IsShut.f kj3 a0_0 l0_1 l0_2 l2_0 l2_1).bind fun bt789 => ((dropperlaw05_SameInts.f kj3 t779 t783).bind fun t791 => (if t791 = true then (if t782 = t786 then (if (bt787.1 == bt789.1) = true then (if bt787.2 = bt789.2 then ((dropperlaw05_First.f kj3).bind fun t792 => (some t792)) else (none)) else (none)) else (none)) else (none))))) = some r := H
    have A22 := Aside0.mk A220
    clear A220
    replace H := Option.bind_eq_some_iff.mp H
    obtain ⟨⟨t787, t788⟩, A230, H⟩ := H
    replace H : ((dropperref05_IsShut.f kj3 a0_0 l0_1 l0_2 l2_0 l2_1).bind fun bt789 => ((dropperlaw05_SameInts.f kj3 t779 t783).bind fun t791 => (if t791 = true then (if t782 = t786 then (if (t787 == bt789.1) = true then (if t788 = bt789.2 then ((dropperlaw05_First.f kj3).bind fun t792 => (some t792)) else (none)) else (none)) else (none)) else (none)))) = some r := H
    have A23 := Aside0.mk A230
    clear A230
    replace H := Option.bind_eq_some_iff.mp H
    obtain ⟨⟨t789, t790⟩, A240, H⟩ := H
    replace H : ((dropperlaw05_SameInts.f kj3 t779 t783).bind fun t791 => (if t791 = true then (if t782 = t786 then (if (t787 == t789) = true then (if t788 = t790 then ((dropperlaw05_First.f kj3).bind fun t792 => (some t792)) else (none)) else (none)) else (none)) else (none))) = some r := H
    have A24 := Aside0.mk A240
    clear A240
    replace H := Option.bind_eq_some_iff.mp H
    obtain ⟨t791, A250, H⟩ := H
    replace H : (if t791 = true then (if t782 = t786 then (if (t787 == t789) = true then (if t788 = t790 then ((dropperlaw05_First.f kj3).bind fun t792 => (some t792)) else (none)) else (none)) else (none)) else (none)) = some r := H
    have A25 := Aside0.mk A250
    clear A250
    by_cases c26 : t791 = true
    ·
     subst c26
     have H1 : (if t782 = t786 then (if (t787 == t789) = true then (if t788 = t790 then ((dropperlaw05_First.f kj3).bind fun t792 => (some t792)) else (none)) else (none)) else (none)) = some r := by rw [if_pos rfl] at H; exact H
     clear H
     have H := H1
     clear H1
     by_cases c27 : t782 = t786
     ·
      rw [if_pos c27] at H
      have c27b0 : (t782 == t786) = true := beq_iff_eq.mpr c27
      have c27b1 : (t782 != t786) = false := bne_eq_false_iff_eq.mpr c27
      clear c27
      by_cases c28 : (t787 == t789) = true
      ·
       rw [if_pos c28] at H
       have c28b0 : (t787 == t789) = true := c28
       (try (have c28b1 : decide (t787 = t789) = true := by simpa using c28))
       (try (have c28b2 : (t787 == t789) = true := by simpa using c28))
       clear c28
       by_cases c29 : t788 = t790
       ·
        rw [if_pos c29] at H
        have c29b0 : (t788 == t790) = true := beq_iff_eq.mpr c29
        have c29b1 : (t788 != t790) = false := bne_eq_false_iff_eq.mpr c29
        clear c29
        replace H := Option.bind_eq_some_iff.mp H
        obtain ⟨t792, A300, H⟩ := H
        replace H : (some t792) = some r := H
        have A30 := Aside0.mk A300
        clear A300
        obtain rfl := Option.some.inj H
        have hnb31 := NB775_776.out
        have hnc31 := NB776_775.out
        have hcz32_0 := blkc BK775.out 0 (.int .i64 a0_0) rfl
        have hcz32_1 := blkc BK775.out 1 (.slice A0_1 l0_1.length c0_1) rfl
        have hcz32_2 := blkc BK775.out 2 (.slice A0_2 l0_2.length c0_2) rfl
        have hfz32_0 := blk_frozen BK775.out 0
        have hfz32_1 := blk_frozen BK775.out 1
        have hfz32_2 := blk_frozen BK775.out 2
        have hcz33_0 := blkc BK776.out 0 (.slice A2_0 l2_0.length c2_0) rfl
        have hcz33_1 := blkc BK776.out 1 (.slice A2_1 l2_1.length c2_1) rfl
        have hfz33_0 := blk_frozen BK776.out 0
        have hfz33_1 := blk_frozen BK776.out 1
        go_wp2_with (first | ((with_reducible refine gate_callee (f := 42) rfl ?_); refine goesL_ (some 31) rfl rfl Tryd.func42 (by kernel_rfl) rfl #[.agg #[.int .i64 a0_0, .slice A0_1 l0_1.length c0_1, .slice A0_2 l0_2.length c0_2], .int .i64 a1, .slice A2_0 l2_0.length c2_0] rfl mapz ?_; (with_reducible refine (feed_Reach.calls kj3 a0_0 _ _ l0_1 _ _ l0_2 a1 _ _ l2_0 t779 t782 _ ?side1 ?side2 ?side3 ?side4 ?side5 ?side6 ?sideT A21.out).mono ?_); (case sideT => first | exact HT.out | exact Tab.Tabs.below HT.out bel | (with_reducible repeat (first | exact HT.out | apply Tab.Tabs.alloc | apply Tab.Tabs.drewN | apply Tab.Tabs.drew))); (case side1 => exact cbz HR0_1); (case side2 => exact HC0_1.out); (case side3 => exact cbz HR0_2); (case side4 => exact HC0_2.out); (case side5 => exact cbz HR2_0); (case side6 => exact HC2_0.out); rintro e w34 ⟨v780, rfl, ho0, hb⟩; refine ⟨_, rfl, ?_⟩; have HO781 := Aside0.mk (Kd.R_lower ho0 (below_size bel)); replace BK775 := Aside0.mk (blk_below (g := gb775) blkz hb); replace BK776 := Aside0.mk (blk_below (g := gb776) blkz hb); replace HB := Aside0.mk (below_step bel hb); (try clear hb); (try clear hb2); (try clear hk); (try clear hi); (try clear ho0); have hcz35_0 := blkc BK775.out 0 (.int .i64 a0_0) rfl; have hcz35_1 := blkc BK775.out 1 (.slice A0_1 l0_1.length c0_1) rfl; have hcz35_2 := blkc BK775.out 2 (.slice A0_2 l0_2.length c0_2) rfl; have hcz36_0 := blkc BK776.out 0 (.slice A2_0 l2_0.length c2_0) rfl; have hcz36_1 := blkc BK776.out 1 (.slice A2_1 l2_1.length c2_1) rfl) | ((with_reducible refine gate_callee (f := 43) rfl ?_); refine goesL_ (some 39) rfl rfl Tryd.func43 (by kernel_rfl) rfl #[.agg #[.int .i64 a0_0, .slice A0_1 l0_1.length c0_1, .slice A0_2 l0_2.length c0_2], .int .i64 a1, .slice A2_0 l2_0.length c2_0] rfl mapz ?_; (with_reducible refine (dropperref05_Reach.calls kj3 a0_0 _ _ l0_1 _ _ l0_2 a1 _ _ l2_0 t783 t786 _ ?side1 ?side2 ?side3 ?side4 ?side5 ?side6 A22.out).mono ?_); (case side1 => exact cbz HR0_1); (case side2 => exact HC0_1.out); (case side3 => exact cbz HR0_2); (case side4 => exact HC0_2.out); (case side5 => exact cbz HR2_0); (case side6 => exact HC2_0.out); rintro e w37 ⟨v784, rfl, ho0, hb⟩; refine ⟨_, rfl, ?_⟩; have HO785 := Aside0.mk (Kd.R_lower (Kd.R_new' ho0 (Kd.R_lt (ownx HO781))) (below_size bel)); replace HO781 := Aside0.mk (Kd.R_elder' (ownx HO781) (Kd.R_base ho0) hb); replace BK775 := Aside0.mk (blk_below (g := gb775) blkz hb); replace BK776 := Aside0.mk (blk_below (g := gb776) blkz hb); replace HB := Aside0.mk (below_step bel hb); (try clear hb); (try clear hb2); (try clear hk); (try clear hi); (try clear ho0); have hcz38_0 := blkc BK775.out 0 (.int .i64 a0_0) rfl; have hcz38_1 := blkc BK775.out 1 (.slice A0_1 l0_1.length c0_1) rfl; have hcz38_2 := blkc BK775.out 2 (.slice A0_2 l0_2.length c0_2) rfl; have hcz39_0 := blkc BK776.out 0 (.slice A2_0 l2_0.length c2_0) rfl; have hcz39_1 := blkc BK776.out 1 (.slice A2_1 l2_1.length c2_1) rfl) | ((with_reducible refine gate_callee (f := 44) rfl ?_); refine goesL_ (some 48) rfl rfl Tryd.func44 (by kernel_rfl) rfl #[.agg #[.int .i64 a0_0, .slice A0_1 l0_1.length c0_1, .slice A0_2 l0_2.length c0_2], .slice A2_0 l2_0.length c2_0, .slice A2_1 l2_1.length c2_1] rfl mapz ?_; (with_reducible refine (feed_IsShut.calls kj3 a0_0 _ _ l0_1 _ _ l0_2 _ _ l2_0 _ _ l2_1 t787 t788 _ ?side1 ?side2 ?side3 ?side4 ?side5 ?side6 ?side7 ?side8 ?sideT A23.out).mono ?_); (case sideT => first | exact HT.out | exact Tab.Tabs.below HT.out bel | (with_reducible repeat (first | exact HT.out | apply Tab.Tabs.alloc | apply Tab.Tabs.drewN | apply Tab.Tabs.drew))); (case side1 => exact cbz HR0_1); (case side2 => exact HC0_1.out); (case side3 => exact cbz HR0_2); (case side4 => exact HC0_2.out); (case side5 => exact cbz HR2_0); (case side6 => exact HC2_0.out); (case side7 => exact cbz HR2_1); (case side8 => exact HC2_1.out); rintro e w40 ⟨rfl, hb⟩; refine ⟨_, rfl, ?_⟩; replace HO781 := Aside0.mk (Kd.R_below (ownx HO781) hb); replace HO785 := Aside0.mk (Kd.R_below (ownx HO785) hb); replace BK775 := Aside0.mk (blk_below (g := gb775) blkz hb); replace BK776 := Aside0.mk (blk_below (g := gb776) blkz hb); replace HB := Aside0.mk (below_step bel hb); (try clear hb); (try clear hb2); (try clear hk); (try clear hi); have hcz41_0 := blkc BK775.out 0 (.int .i64 a0_0) rfl; have hcz41_1 := blkc BK775.out 1 (.slice A0_1 l0_1.length c0_1) rfl; have hcz41_2 := blkc BK775.out 2 (.slice A0_2 l0_2.length c0_2) rfl; have hcz42_0 := blkc BK776.out 0 (.slice A2_0 l2_0.length c2_0) rfl; have hcz42_1 := blkc BK776.out 1 (.slice A2_1 l2_1.length c2_1) rfl) | ((with_reducible refine gate_callee (f := 45) rfl ?_); refine goesL_ (some 57) rfl rfl Tryd.func45 (by kernel_rfl) rfl #[.agg #[.int .i64 a0_0, .slice A0_1 l0_1.length c0_1, .slice A0_2 l0_2.length c0_2], .slice A2_0 l2_0.length c2_0, .slice A2_1 l2_1.length c2_1] rfl mapz ?_; (with_reducible refine (dropperref05_IsShut.calls kj3 a0_0 _ _ l0_1 _ _ l0_2 _ _ l2_0 _ _ l2_1 t789 t790 _ ?side1 ?side2 ?side3 ?side4 ?side5 ?side6 ?side7 ?side8 A24.out).mono ?_); (case side1 => exact cbz HR0_1); (case side2 => exact HC0_1.out); (case side3 => exact cbz HR0_2); (case side4 => exact HC0_2.out); (case side5 => exact cbz HR2_0); (case side6 => exact HC2_0.out); (case side7 => exact cbz HR2_1); (case side8 => exact HC2_1.out); rintro e w43 ⟨rfl, hb⟩; refine ⟨_, rfl, ?_⟩; replace HO781 := Aside0.mk (Kd.R_below (ownx HO781) hb); replace HO785 := Aside0.mk (Kd.R_below (ownx HO785) hb); replace BK775 := Aside0.mk (blk_below (g := gb775) blkz hb); replace BK776 := Aside0.mk (blk_below (g := gb776) blkz hb); replace HB := Aside0.mk (below_step bel hb); (try clear hb); (try clear hb2); (try clear hk); (try clear hi); obtain ⟨Ao44, co44, eo44⟩ := Kd.R_slice HO781.out; subst eo44; obtain ⟨Ao45, co45, eo45⟩ := Kd.R_slice HO785.out; subst eo45) | ((with_reducible refine gate_callee (f := 21) rfl ?_); refine goesL_ (some 62) rfl rfl Tryd.func21 (by kernel_rfl) rfl #[.slice Ao44 t779.length co44, .slice Ao45 t783.length co45] rfl mapz ?_; (with_reducible refine (dropperlaw05_SameInts.calls kj3 _ _ t779 _ _ t783 true _ ?side1 ?side2 ?side3 ?side4 A25.out).mono ?_); (case side1 => repeat (first | exact (Kd.R_reads' HO781.out).2.2 | (with_reducible refine Kd.C_alloc ?_ _) | (with_reducible refine Kd.C_drewN ?_ _) | (with_reducible refine Kd.C_drew ?_))); (case side2 => exact (Kd.R_reads' HO781.out).2.1); (case side3 => repeat (first | exact (Kd.R_reads' HO785.out).2.2 | (with_reducible refine Kd.C_alloc ?_ _) | (with_reducible refine Kd.C_drewN ?_ _) | (with_reducible refine Kd.C_drew ?_))); (case side4 => exact (Kd.R_reads' HO785.out).2.1); rintro e w' ⟨rfl, ⟨nd, rfl⟩⟩; refine ⟨_, rfl, ?_⟩) | (go_at_call 12; (with_reducible refine (dropperlaw05_First.calls kj3  t792 _ ?sideT A30.out).mono ?_); (case sideT => first | exact HT.out | exact Tab.Tabs.below HT.out bel | (with_reducible repeat (first | exact HT.out | apply Tab.Tabs.alloc | apply Tab.Tabs.drewN | apply Tab.Tabs.drew))); rintro e w46 ⟨rfl, hb⟩; replace HO781 := Aside0.mk (Kd.R_below (ownx HO781) hb); replace HO785 := Aside0.mk (Kd.R_below (ownx HO785) hb); replace BK775 := Aside0.mk (blk_below (g := gb775) blkz hb); replace BK776 := Aside0.mk (blk_below (g := gb776) blkz hb); replace HB := Aside0.mk (below_step bel hb); (try clear hb); (try clear hb2); (try clear hk); (try clear hi)))
        go_ret
        exact ⟨ezz, bel⟩
       ·
        rw [if_neg c29] at H
        exact absurd H (by simp)
      ·
       rw [if_neg c28] at H
       exact absurd H (by simp)
     ·
      rw [if_neg c27] at H
      exact absurd H (by simp)
    ·
     replace c26 := Bool.eq_false_iff.mpr c26
     subst c26
     have H1 : (none) = some r := by rw [if_neg (show ¬ (false = true) by decide)] at H; exact H
     clear H
     have H := H1
     clear H1
     exact absurd H (by simp)

end Go.Proofs.YtoilhnmdemnknaaDoor.XFeed
-- Written by wip/xprint.py of this repo, over the kit's print.py: out of the translation; the oracles in it are by hand. Not trusted: Lean checks it.
namespace Go.Proofs.YtoilhnmdemnknaaDoor.XFeed
open Go.RowKit Go.Proofs.YtoilhnmdemnknaaDoor.XFeed Go.Proofs.YtoilhnmdemnknaaDoorW.PrintWords Go.Proofs.YtoilhnmdemnknaaDoorW.PrintLast Go.Proofs.YtoilhnmdemnknaaDoorW.PrintMore
def dropperlaw05_FeedReach.Pure : Prop := ∀ (a0_0 : Int) (l0_1 : List (S69)) (l0_2 : List (S71)) (a1 : Int) (l2_0 : List Int) (l2_1 : List Int), ((Lit.int .i64 a0_0).wf = true) → (l0_1.length ≤ 9223372036854775807 ∧ ∀ y0 ∈ l0_1, ((Lit.int .i64 y0.f0).wf = true) ∧ ((Lit.int .i64 y0.f1).wf = true)) → (l0_2.length ≤ 9223372036854775807 ∧ ∀ y0 ∈ l0_2, ((Lit.int .i64 y0.f0).wf = true) ∧ ((Lit.int .i64 y0.f1).wf = true)) → ((Lit.int .i64 a1).wf = true) → (l2_0.length ≤ 9223372036854775807 ∧ ∀ y0 ∈ l2_0, (Lit.int .i64 y0).wf = true) → (l2_1.length ≤ 9223372036854775807 ∧ ∀ y0 ∈ l2_1, (Lit.int .i64 y0).wf = true) → ∃ k, dropperlaw05_FeedReach.f k a0_0 l0_1 l0_2 a1 l2_0 l2_1 = some true
end Go.Proofs.YtoilhnmdemnknaaDoor.XFeed

namespace Go.Proofs.YtoilhnmdemnknaaDoor.XFeed
open Go.RowKit Go.Proofs.YtoilhnmdemnknaaDoorW.PrintWords Go.Proofs.YtoilhnmdemnknaaDoorW.PrintLast Go.Proofs.YtoilhnmdemnknaaDoorW.PrintMore
attribute [local go_sem] max2_int min2_int max_two min_two max_three min_three max_four min_four   -- for this text's walks alone
set_option linter.unusedVariables false
set_option linter.unusedSimpArgs false
/-! ### feed_grid_switches: function 70 -/
theorem feed_grid_switches.within_calls (a b c : Int) (w : World) :
  Calls Tryd.prog 53 #[.int .i64 a, .int .i64 b, .int .i64 c] w fun e w' => e = .returned (.bool (decide (a ≤ b) && decide (b ≤ c))) ∧ Drawn0 w w' := by
 by_cases h1 : a ≤ b
 ·
  have h1' : decide (a ≤ b) = true := decide_eq_true h1
  go_enter Tryd.func53, Tryd.ntmps53
  go_wp2
  go_ret
  exact ⟨by simp [h1], Drawn0.refl _⟩
 ·
  have h1' : decide (a ≤ b) = false := decide_eq_false h1
  go_enter Tryd.func53, Tryd.ntmps53
  go_wp2
  go_ret
  exact ⟨by simp [h1], Drawn0.refl _⟩
def feed_grid_switches.bad (n : Int) (x : Int) : Bool := !(decide (0 ≤ x) && decide (x ≤ wrap64 (n - 1)))
set_option maxHeartbeats 2000000 in
set_option maxRecDepth 100000 in
theorem feed_grid_switches.clos (n : Int) (g : Nat) (A : Option Addr) (len c : Nat) (x : Int) (w : World) (hn : n = (len : Int)) (hcap : w.cell? ⟨g, 1, none⟩ = some (.slice A len c)) :
  Calls Tryd.prog 96 #[.int .i64 x, .pointer (some ⟨g, 0, none⟩)] w fun e w' => e = .returned (.bool (feed_grid_switches.bad n x)) ∧ Below w.heap.size w w' := by
 subst hn
 have hu0 := Tryd.underlying73
 have hu1 := Tryd.underlying25
 by_cases h0 : (decide (0 ≤ x) && decide (x ≤ wrap64 ((len : Int) - 1))) = true
 ·
  skip
  have hE : Aside0 ((feed_grid_switches.bad (len : Int) x) = false) := ⟨by simp only [feed_grid_switches.bad, h0, Bool.not_true, Bool.false_or]⟩
  have H0 := Aside0.mk h0
  clear h0
  go_enter Tryd.func96, Tryd.ntmps96
  go_wp2_with (first | (go_at_call 53; (with_reducible refine (feed_grid_switches.within_calls 0 x (wrap64 ((len : Int) - 1)) _).mono ?_); rintro e w' ⟨rfl, ⟨nd_, rfl⟩⟩; rw [H0.out]))
  go_ret
  exact ⟨by rw [hE.out]; rfl, by repeat (first | exact Below.refl _ _ | apply pw_below_drewN)⟩
 ·
  replace h0 := Bool.eq_false_iff.mpr h0
  have hE : Aside0 ((feed_grid_switches.bad (len : Int) x) = true) := ⟨by simp only [feed_grid_switches.bad, h0, Bool.not_true, Bool.not_false, Bool.false_or, Bool.true_or]⟩
  have H0 := Aside0.mk h0
  clear h0
  go_enter Tryd.func96, Tryd.ntmps96
  go_wp2_with (first | (go_at_call 53; (with_reducible refine (feed_grid_switches.within_calls 0 x (wrap64 ((len : Int) - 1)) _).mono ?_); rintro e w' ⟨rfl, ⟨nd_, rfl⟩⟩; rw [H0.out]))
  go_ret
  exact ⟨by rw [hE.out]; rfl, by repeat (first | exact Below.refl _ _ | apply pw_below_drewN)⟩
theorem feed_grid_switches.enter (vs : Array Value) (W : World) : (callFunc 96 vs).run Tryd.prog W = .ok (.enter 96 vs) W := enters_ Tryd.func96 (by kernel_rfl) (by kernel_rfl) vs W
def feed_grid_switches.f (a0_0 : Int) (l0_1 : List S69) (l0_2 : List S71) (l1 : List Int) : Option Bool := some (decide ((l1.length : Int) ≤ 1000) && !(l1.any (feed_grid_switches.bad (l0_1.length : Int))))
/-! ### feed_IsOrder: function 32 -/
mutual
def feed_IsOrder.j0 : Nat → Int → List Int → Int → Bool → Int → List (S69) → List (S71) → List Int → Option (Bool × Int)
 | 0, _, _, _, _, _, _, _, _ => none
 | k + 1, x1, x3, x11, x21, x504000, x504001, x504002, x504003 => if x21 = true then (some (false, 2)) else (if x11 = 0 then (feed_IsOrder.l0 k x1 x3 (x3.length : Int) 0 x504000 x504001 x504002 x504003) else (some (false, x11)))
def feed_IsOrder.l0 : Nat → Int → List Int → Int → Int → Int → List (S69) → List (S71) → List Int → Option (Bool × Int)
 | 0, _, _, _, _, _, _, _, _ => none
 | k + 1, x1, x35, x36, x37, x504000, x504001, x504002, x504003 => if x37 < x36 then (if 0 ≤ x37 then (if x37 < (x35.length : Int) then ((feed_rule_steps.f k x504000 x504001 x504002 x504003 x1).bind fun t506 => (if 0 ≤ (rd x35 x37) then (if (rd x35 x37) < (t506.length : Int) then (if (rd t506 (rd x35 x37)) < 0 then (some (false, 0)) else (feed_IsOrder.l0 k (rd t506 (rd x35 x37)) x35 x36 (wrap64 (x37 + 1)) x504000 x504001 x504002 x504003)) else (none)) else (none))) else (none)) else (none)) else (some (true, 0))
end
def feed_IsOrder.f (k : Nat) (a0_0 : Int) (l0_1 : List (S69)) (l0_2 : List (S71)) (a1 : Int) (l2 : List Int) (l3 : List Int) : Option (Bool × Int) := (feed_ruled.f k a0_0 l0_1 l0_2 a1 l2).bind fun bt492 => (if bt492.2 = 0 then ((feed_grid_switches.f bt492.1 l0_1 l0_2 l3).bind fun t504 => (feed_IsOrder.j0 k a1 l3 bt492.2 (!t504) bt492.1 l0_1 l0_2 l2)) else (feed_IsOrder.j0 k a1 l3 bt492.2 false bt492.1 l0_1 l0_2 l2))
/-! ### feed_After: function 34 -/
def feed_After.l0 : Nat → Int → List Int → Int → Int → Option (Int × Int)
 | 0, _, _, _, _ => none
 | k + 1, x1, x27, x28, x29 => if x29 < x28 then (if 0 ≤ x29 then (if x29 < (x27.length : Int) then (if 0 ≤ (rd x27 x29) then (feed_After.l0 k (Go.bits .xor .i64 x1 (shl .i64 1 (rd x27 x29))) x27 x28 (wrap64 (x29 + 1))) else (none)) else (none)) else (none)) else (some (x1, 0))
/-! ### dropperref05_isList: function 73 -/
def dropperref05_isList.l0 : Nat → List Int → Int → Int → List (S69) → List (S71) → Option (Bool)
 | 0, _, _, _, _, _ => none
 | k + 1, x1, x5, x528000, x528001, x528002 => if x5 < (x1.length : Int) then (if 0 ≤ x5 then (if (rd x1 x5) < 0 then (some false) else (if (rd x1 x5) ≥ (x528001.length : Int) then (some false) else (dropperref05_isList.l0 k x1 (wrap64 (x5 + 1)) x528000 x528001 x528002))) else (none)) else (some (decide ((x1.length : Int) ≤ 1000)))
def dropperref05_isList.f (k : Nat) (a0_0 : Int) (l0_1 : List (S69)) (l0_2 : List (S71)) (l1 : List Int) : Option (Bool) := dropperref05_isList.l0 k l1 0 a0_0 l0_1 l0_2
/-! ### dropperref05_IsOrder: function 33 -/
def dropperref05_IsOrder.l0 : Nat → Int → List Int → List Int → Int → Int → List (S69) → List (S71) → Option (Bool × Int)
 | 0, _, _, _, _, _, _, _ => none
 | k + 1, x1, x2, x3, x11, x531000, x531001, x531002 => if x11 < (x3.length : Int) then (if 0 ≤ x11 then (if 0 ≤ (rd x3 x11) then ((dropperref05_Good.f k x531000 x531001 x531002 (Go.bits .xor .i64 x1 (shl .i64 1 (rd x3 x11))) x2).bind fun t534 => (if t534 = true then (dropperref05_IsOrder.l0 k (Go.bits .xor .i64 x1 (shl .i64 1 (rd x3 x11))) x2 x3 (wrap64 (x11 + 1)) x531000 x531001 x531002) else (some (false, 0)))) else (none)) else (none)) else (some (true, 0))
def dropperref05_IsOrder.f (k : Nat) (a0_0 : Int) (l0_1 : List (S69)) (l0_2 : List (S71)) (a1 : Int) (l2 : List Int) (l3 : List Int) : Option (Bool × Int) := (dropperref05_begun.f k a0_0 l0_1 l0_2 a1 l2).bind fun t531 => (if t531 = 0 then ((dropperref05_isList.f k a0_0 l0_1 l0_2 l3).bind fun t532 => (if t532 = true then (dropperref05_IsOrder.l0 k a1 l2 l3 0 a0_0 l0_1 l0_2) else (some (false, 2)))) else (some (false, t531)))
/-! ### dropperref05_asked: function 48 -/
def dropperref05_asked.f (k : Nat) (a0_0 : Int) (l0_1 : List (S69)) (l0_2 : List (S71)) (a1 : Int) : Option (Int) := (dropperref05_Valid.f k a0_0 l0_1 l0_2).bind fun t245 => (if t245 = true then ((dropperref05_IsState.f a0_0 l0_1 l0_2 a1).bind fun t246 => (if t246 = true then (some 0) else (some 51))) else (some 50))
/-! ### dropperref05_After: function 35 -/
def dropperref05_After.l0 : Nat → Int → List Int → Int → Option (Int × Int)
 | 0, _, _, _ => none
 | k + 1, x1, x2, x9 => if x9 < (x2.length : Int) then (if 0 ≤ x9 then (if 0 ≤ (rd x2 x9) then (dropperref05_After.l0 k (Go.bits .xor .i64 x1 (shl .i64 1 (rd x2 x9))) x2 (wrap64 (x9 + 1))) else (none)) else (none)) else (some (x1, 0))
/-! ### dropperref05_Why: function 25 -/
def dropperref05_Why.f (k : Nat) (a0_0 : Int) (l0_1 : List (S69)) (l0_2 : List (S71)) (a1 : Int) (a2 : Int) : Option (Int) := (dropperref05_asked.f k a0_0 l0_1 l0_2 a1).bind fun t362 => (if t362 = 0 then ((dropperref05_section.f a0_0 l0_1 l0_2 a2).bind fun t363 => (if t363 = true then (some 0) else (some 2))) else (some t362))
/-! ### dropperref05_At: function 26 -/
def dropperref05_At.l0 : Nat → Int → Int → Int → List (S69) → List (S71) → Option (Bool)
 | 0, _, _, _, _, _ => none
 | k + 1, x1, x5, x378000, x378001, x378002 => if x5 < (x378002.length : Int) then (if 0 ≤ x5 then (if ((rd_T71 x378002 x5).f0) = x1 then (some true) else (dropperref05_At.l0 k x1 (wrap64 (x5 + 1)) x378000 x378001 x378002)) else (none)) else (some false)
/-! ### dropperref05_Fewest: function 27 -/
mutual
def dropperref05_Fewest.l0 : Nat → Int → Int → Int → Int → Int → List (S69) → List (S71) → Option (Int)
 | 0, _, _, _, _, _, _, _ => none
 | k + 1, x1, x2, x7, x8, x380000, x380001, x380002 => if x8 < (shl .i64 1 (x380001.length : Int)) then (if (Go.bits .and .i64 x8 x1) = x8 then ((dropperref05_live.f k x380000 x380001 x380002 (wrap64 (x1 - x8))).bind fun t380 => (if 0 ≤ x2 then (if x2 < (t380.length : Int) then (dropperref05_Fewest.j1 k x1 x2 x7 x8 ((rd t380 x2) != 0) x380000 x380001 x380002) else (none)) else (none))) else (dropperref05_Fewest.j1 k x1 x2 x7 x8 true x380000 x380001 x380002)) else (some x7)
def dropperref05_Fewest.j1 : Nat → Int → Int → Int → Int → Bool → Int → List (S69) → List (S71) → Option (Int)
 | 0, _, _, _, _, _, _, _, _ => none
 | k + 1, x1, x2, x7, x8, x37, x380000, x380001, x380002 => if x37 = true then (dropperref05_Fewest.l0 k x1 x2 x7 (wrap64 (x8 + 1)) x380000 x380001 x380002) else (dropperref05_Fewest.l1 k x1 x2 x7 x8 0 0 x380000 x380001 x380002)
def dropperref05_Fewest.l1 : Nat → Int → Int → Int → Int → Int → Int → Int → List (S69) → List (S71) → Option (Int)
 | 0, _, _, _, _, _, _, _, _, _ => none
 | k + 1, x1, x2, x7, x8, x9, x10, x380000, x380001, x380002 => if x10 < (x380001.length : Int) then ((dropperref05_closed.f x8 x10).bind fun t384 => (if t384 = true then (dropperref05_Fewest.l1 k x1 x2 x7 x8 (wrap64 (x9 + 1)) (wrap64 (x10 + 1)) x380000 x380001 x380002) else (dropperref05_Fewest.l1 k x1 x2 x7 x8 x9 (wrap64 (x10 + 1)) x380000 x380001 x380002))) else (dropperref05_Fewest.l0 k x1 x2 (mn x7 x9) (wrap64 (x8 + 1)) x380000 x380001 x380002)
end
def dropperref05_Fewest.f (k : Nat) (a0_0 : Int) (l0_1 : List (S69)) (l0_2 : List (S71)) (a1 : Int) (a2 : Int) : Option (Int) := dropperref05_Fewest.l0 k a1 a2 (l0_1.length : Int) 0 a0_0 l0_1 l0_2
/-! ### dropperref05_Isolates: function 23 -/
mutual
def dropperref05_Isolates.l0 : Nat → Int → Int → List Int → Int → Int → List (S69) → List (S71) → Option (Bool × Int)
 | 0, _, _, _, _, _, _, _ => none
 | k + 1, x1, x2, x3, x11, x365000, x365001, x365002 => if x11 < (x3.length : Int) then (if 0 ≤ x11 then (if (rd x3 x11) < 0 then (some (false, 0)) else (if (rd x3 x11) ≥ (x365001.length : Int) then (some (false, 0)) else ((dropperref05_closed.f x1 (rd x3 x11)).bind fun t369 => (if t369 = true then (if x11 > 0 then (if 0 ≤ (wrap64 (x11 - 1)) then (if (wrap64 (x11 - 1)) < (x3.length : Int) then (if (rd x3 x11) ≤ (rd x3 (wrap64 (x11 - 1))) then (some (false, 0)) else (dropperref05_Isolates.l0 k x1 x2 x3 (wrap64 (x11 + 1)) x365000 x365001 x365002)) else (none)) else (none)) else (dropperref05_Isolates.l0 k x1 x2 x3 (wrap64 (x11 + 1)) x365000 x365001 x365002)) else (some (false, 0)))))) else (none)) else (dropperref05_Isolates.l1 k x1 x2 x3 0 x365000 x365001 x365002)
def dropperref05_Isolates.l1 : Nat → Int → Int → List Int → Int → Int → List (S69) → List (S71) → Option (Bool × Int)
 | 0, _, _, _, _, _, _, _ => none
 | k + 1, x1, x2, x3, x12, x365000, x365001, x365002 => if x12 < (x3.length : Int) then (if 0 ≤ x12 then (if 0 ≤ (rd x3 x12) then (dropperref05_Isolates.l1 k (wrap64 (x1 - (shl .i64 1 (rd x3 x12)))) x2 x3 (wrap64 (x12 + 1)) x365000 x365001 x365002) else (none)) else (none)) else ((dropperref05_live.f k x365000 x365001 x365002 x1).bind fun t373 => (if 0 ≤ x2 then (if x2 < (t373.length : Int) then (some (((rd t373 x2) == 0), 0)) else (none)) else (none)))
end
def dropperref05_Isolates.f (k : Nat) (a0_0 : Int) (l0_1 : List (S69)) (l0_2 : List (S71)) (a1 : Int) (a2 : Int) (l3 : List Int) : Option (Bool × Int) := (dropperref05_Why.f k a0_0 l0_1 l0_2 a1 a2).bind fun t365 => (if t365 = 0 then (dropperref05_Isolates.l0 k a1 a2 l3 0 a0_0 l0_1 l0_2) else (some (false, t365)))
/-! ### feed_Isolates: function 22 -/
def feed_Isolates.l0 : Nat → Int → Int → List Int → Int → List Int → Int → Int → Int → List (S69) → List (S71) → Int → List (S69) → List (S71) → Option (Bool × Int)
 | 0, _, _, _, _, _, _, _, _, _, _, _, _, _ => none
 | k + 1, x1, x2, x3, x12, x26, x27, x28, x348000, x348001, x348002, x357000, x357001, x357002 => if x28 < x27 then (if 0 ≤ x28 then (if x28 < (x26.length : Int) then ((feed_within.f 0 (rd x26 x28) (wrap64 ((x348001.length : Int) - 1))).bind fun t358 => (if t358 = true then (if 0 ≤ (rd x26 x28) then (if (Go.bits .and .i64 (shr .i64 x1 (rd x26 x28)) 1) = 0 then (some (false, 0)) else (if x28 > 0 then (if 0 ≤ (wrap64 (x28 - 1)) then (if (wrap64 (x28 - 1)) < (x3.length : Int) then (if (rd x26 x28) ≤ (rd x3 (wrap64 (x28 - 1))) then (some (false, 0)) else (feed_Isolates.l0 k x1 x2 x3 (Go.bits .andNot .i64 x12 (shl .i64 1 (rd x26 x28))) x26 x27 (wrap64 (x28 + 1)) x348000 x348001 x348002 x357000 x357001 x357002)) else (none)) else (none)) else (feed_Isolates.l0 k x1 x2 x3 (Go.bits .andNot .i64 x12 (shl .i64 1 (rd x26 x28))) x26 x27 (wrap64 (x28 + 1)) x348000 x348001 x348002 x357000 x357001 x357002))) else (none)) else (some (false, 0)))) else (none)) else (none)) else ((feed_grid_dead.f k x357000 x357001 x357002 x12 x2).bind fun t360 => (some (t360, 0)))
def feed_Isolates.f (k : Nat) (a0_0 : Int) (l0_1 : List (S69)) (l0_2 : List (S71)) (a1 : Int) (a2 : Int) (l3 : List Int) : Option (Bool × Int) := (feed_asked.f a0_0 l0_1 l0_2 a1 a2).bind fun bt348 => (if bt348.2 = 0 then (feed_Isolates.l0 k a1 a2 l3 a1 l3 (l3.length : Int) 0 a0_0 l0_1 l0_2 bt348.1 l0_1 l0_2) else (some (false, bt348.2)))
/-! ### dropperref05_States: function 18 -/
def dropperref05_States.l0 : Nat → Int → Int → Int → List (S69) → List (S71) → Option (Int × Int)
 | 0, _, _, _, _, _ => none
 | k + 1, x4, x5, x298000, x298001, x298002 => if x5 < (shl .i64 1 (x298001.length : Int)) then ((dropperref05_right.f k x298000 x298001 x298002 x5).bind fun t299 => (if t299 = true then (dropperref05_States.l0 k (wrap64 (x4 + 1)) (wrap64 (x5 + 1)) x298000 x298001 x298002) else (dropperref05_States.l0 k x4 (wrap64 (x5 + 1)) x298000 x298001 x298002))) else (some (x4, 0))
def dropperref05_States.f (k : Nat) (a0_0 : Int) (l0_1 : List (S69)) (l0_2 : List (S71)) : Option (Int × Int) := (dropperref05_Valid.f k a0_0 l0_1 l0_2).bind fun t298 => (if t298 = true then (dropperref05_States.l0 k 0 0 a0_0 l0_1 l0_2) else (some (0, 50)))
/-! ### dropperref05_Live: function 14 -/
/-! ### dropperref05_Right: function 16 -/
/-! ### feed_Live: function 13 -/
/-! ### feed_Right: function 15 -/
end Go.Proofs.YtoilhnmdemnknaaDoor.XFeed
/- Go's bit operations on small numbers, as those of Nat. -/
namespace Go.Proofs.YtoilhnmdemnknaaDoor.Plain
open Go.RowKit Go.Proofs.YtoilhnmdemnknaaDoorW.PrintWords Go.Proofs.YtoilhnmdemnknaaDoorW.PrintLast Go.Proofs.YtoilhnmdemnknaaDoorW.PrintMore

theorem wrapU {n : Nat} (h : n < 2 ^ 62) : IntKind.u64.wrap (n : Int) = (n : Int) := by
 have e : IntKind.u64.wrap (n : Int) = (n : Int) % 18446744073709551616 := by simp [IntKind.wrap, IntKind.bits, IntKind.signed]
 rw [e]; omega
theorem wrapI {n : Nat} (h : n < 2 ^ 62) : IntKind.i64.wrap (n : Int) = (n : Int) := by
 rw [IntKind.wrap_i64]; omega
theorem ofInt_nat {w n : Nat} : BitVec.ofInt w (n : Int) = BitVec.ofNat w n := by simp
theorem and_u {x y : Nat} (hx : x < 2 ^ 62) (hy : y < 2 ^ 62) : Go.bits .and .u64 (x : Int) (y : Int) = ((x &&& y : Nat) : Int) := by
 have h : x &&& y < 2 ^ 62 := Nat.and_lt_two_pow x hy
 simp only [Go.bits, ofInt_nat, BitVec.toNat_and, BitVec.toNat_ofNat]
 rw [show IntKind.u64.bits = 64 from rfl, Nat.mod_eq_of_lt (show x < 2 ^ 64 by omega), Nat.mod_eq_of_lt (show y < 2 ^ 64 by omega)]
 exact wrapU h
theorem or_u {x y : Nat} (hx : x < 2 ^ 62) (hy : y < 2 ^ 62) : Go.bits .or .u64 (x : Int) (y : Int) = ((x ||| y : Nat) : Int) := by
 have h : x ||| y < 2 ^ 62 := Nat.or_lt_two_pow hx hy
 simp only [Go.bits, ofInt_nat, BitVec.toNat_or, BitVec.toNat_ofNat]
 rw [show IntKind.u64.bits = 64 from rfl, Nat.mod_eq_of_lt (show x < 2 ^ 64 by omega), Nat.mod_eq_of_lt (show y < 2 ^ 64 by omega)]
 exact wrapU h
theorem and_i {x y : Nat} (hx : x < 2 ^ 62) (hy : y < 2 ^ 62) : Go.bits .and .i64 (x : Int) (y : Int) = ((x &&& y : Nat) : Int) := by
 have h : x &&& y < 2 ^ 62 := Nat.and_lt_two_pow x hy
 simp only [Go.bits, ofInt_nat, BitVec.toNat_and, BitVec.toNat_ofNat]
 rw [show IntKind.i64.bits = 64 from rfl, Nat.mod_eq_of_lt (show x < 2 ^ 64 by omega), Nat.mod_eq_of_lt (show y < 2 ^ 64 by omega)]
 exact wrapI h
theorem xor_i {x y : Nat} (hx : x < 2 ^ 62) (hy : y < 2 ^ 62) : Go.bits .xor .i64 (x : Int) (y : Int) = ((x ^^^ y : Nat) : Int) := by
 have h : x ^^^ y < 2 ^ 62 := Nat.xor_lt_two_pow hx hy
 simp only [Go.bits, ofInt_nat, BitVec.toNat_xor, BitVec.toNat_ofNat]
 rw [show IntKind.i64.bits = 64 from rfl, Nat.mod_eq_of_lt (show x < 2 ^ 64 by omega), Nat.mod_eq_of_lt (show y < 2 ^ 64 by omega)]
 exact wrapI h
theorem shr_k {k : IntKind} (hk : k.bits = 64) {x i : Nat} (hi : i ≤ 64) : shr k (x : Int) (i : Int) = ((x >>> i : Nat) : Int) := by
 unfold shr
 rw [hk, Int.toNat_natCast, Nat.min_eq_left hi, Nat.shiftRight_eq_div_pow]
 simp
theorem shl_u {x i : Nat} (h : x * 2 ^ i < 2 ^ 62) (hi : i ≤ 64) : shl .u64 (x : Int) (i : Int) = ((x <<< i : Nat) : Int) := by
 unfold shl
 rw [show IntKind.u64.bits = 64 from rfl, Int.toNat_natCast, Nat.min_eq_left hi, Nat.shiftLeft_eq]
 have e : (x : Int) * 2 ^ i = ((x * 2 ^ i : Nat) : Int) := by simp
 rw [e]; exact wrapU h
theorem shl_i {x i : Nat} (h : x * 2 ^ i < 2 ^ 62) (hi : i ≤ 64) : shl .i64 (x : Int) (i : Int) = ((x <<< i : Nat) : Int) := by
 unfold shl
 rw [show IntKind.i64.bits = 64 from rfl, Int.toNat_natCast, Nat.min_eq_left hi, Nat.shiftLeft_eq]
 have e : (x : Int) * 2 ^ i = ((x * 2 ^ i : Nat) : Int) := by simp
 rw [e]; exact wrapI h
theorem bit_u {x i : Nat} (hx : x < 2 ^ 62) (hi : i ≤ 64) : Go.bits .and .u64 (shr .u64 (x : Int) (i : Int)) 1 = (if x.testBit i then 1 else 0 : Int) := by
 have h : x >>> i < 2 ^ 62 := Nat.lt_of_le_of_lt (by rw [Nat.shiftRight_eq_div_pow]; exact Nat.div_le_self _ _) hx
 rw [shr_k rfl hi, show (1 : Int) = ((1 : Nat) : Int) from rfl, and_u h (by omega), Nat.testBit, Nat.and_comm]
 have : 1 &&& x >>> i = (x >>> i) % 2 := by rw [Nat.and_comm, Nat.and_one_is_mod]
 rw [this]
 rcases Nat.mod_two_eq_zero_or_one (x >>> i) with h | h <;> simp [h]
theorem bit_i {x i : Nat} (hx : x < 2 ^ 62) (hi : i ≤ 64) : Go.bits .and .i64 (shr .i64 (x : Int) (i : Int)) 1 = (if x.testBit i then 1 else 0 : Int) := by
 have h : x >>> i < 2 ^ 62 := Nat.lt_of_le_of_lt (by rw [Nat.shiftRight_eq_div_pow]; exact Nat.div_le_self _ _) hx
 rw [shr_k rfl hi, show (1 : Int) = ((1 : Nat) : Int) from rfl, and_i h (by omega), Nat.testBit, Nat.and_comm]
 have : 1 &&& x >>> i = (x >>> i) % 2 := by rw [Nat.and_comm, Nat.and_one_is_mod]
 rw [this]
 rcases Nat.mod_two_eq_zero_or_one (x >>> i) with h | h <;> simp [h]
end Go.Proofs.YtoilhnmdemnknaaDoor.Plain

/- The sections to which one comes over closed switches, as the program reckons them. -/
namespace Go.Proofs.YtoilhnmdemnknaaDoor.Plain
set_option linter.unusedVariables false
set_option linter.unusedSimpArgs false
open Go.RowKit Go.Proofs.YtoilhnmdemnknaaDoor.XFeed Go.Proofs.YtoilhnmdemnknaaDoorW.PrintWords Go.Proofs.YtoilhnmdemnknaaDoorW.PrintLast Go.Proofs.YtoilhnmdemnknaaDoorW.PrintMore

theorem ev_const {α : Type} {o : Option α} {r : α} (h : o = some r) : Ev (fun _ => o) r := ⟨0, fun _ _ => h⟩
theorem ev_pos {α : Type} {c : Prop} [Decidable c] {a b : Nat → Option α} {r : α} (hc : c) (h : Ev a r) : Ev (fun k => if c then a k else b k) r :=
 Ev.congr (fun k => if_pos hc) h
theorem ev_neg {α : Type} {c : Prop} [Decidable c] {a b : Nat → Option α} {r : α} (hc : ¬ c) (h : Ev b r) : Ev (fun k => if c then a k else b k) r :=
 Ev.congr (fun k => if_neg hc) h
theorem ev_some {α β : Type} {a : α} {f : Nat → α → Option β} {r : β} (h : Ev (fun k => f k a) r) : Ev (fun k => (some a).bind (f k)) r := h
theorem wrap_id {x : Int} (h0 : -9223372036854775808 ≤ x) (h1 : x ≤ 9223372036854775807) : wrap64 x = x := by unfold wrap64; omega
theorem wrap_succ (n : Nat) (h : n ≤ 4000000000000000000) : wrap64 ((n : Int) + 1) = ((n + 1 : Nat) : Int) := by rw [wrap_id] <;> omega

def SwOk (n : Nat) (sw : List S69) : Prop := ∀ s ∈ sw, 0 ≤ s.f0 ∧ s.f0 < n ∧ 0 ≤ s.f1 ∧ s.f1 < n ∧ s.f0 ≠ s.f1
def Edge (sw : List S69) (st a b : Nat) : Prop := ∃ i, ∃ h : i < sw.length, st.testBit i = true ∧ ((sw[i].f0 = a ∧ sw[i].f1 = b) ∨ (sw[i].f0 = b ∧ sw[i].f1 = a))
inductive Conn (sw : List S69) (st : Nat) (a : Nat) : Nat → Prop
 | refl : Conn sw st a a
 | step {b c : Nat} : Conn sw st a b → Edge sw st b c → Conn sw st a c
theorem rd_S69 (xs : List S69) (i : Nat) (h : i < xs.length) : rd_T69 xs (i : Int) = xs[i] := by simp [rd_T69, List.getD_eq_getElem?_getD, h]

def two (a b : Nat) : Nat := 1 <<< a ||| 1 <<< b
theorem two_bit (a b j : Nat) : (two a b).testBit j = (decide (j = a) || decide (j = b)) := by
 simp only [two, Nat.testBit_or, Nat.one_shiftLeft, Nat.testBit_two_pow]
 rw [show decide (a = j) = decide (j = a) from decide_eq_decide.2 eq_comm, show decide (b = j) = decide (j = b) from decide_eq_decide.2 eq_comm]
theorem two_lt {a b : Nat} (ha : a < 8) (hb : b < 8) : two a b < 256 := by
 have h1 : 1 <<< a < 2 ^ 8 := by rw [Nat.one_shiftLeft]; exact Nat.pow_lt_pow_right (by decide) ha
 have h2 : 1 <<< b < 2 ^ 8 := by rw [Nat.one_shiftLeft]; exact Nat.pow_lt_pow_right (by decide) hb
 exact Nat.or_lt_two_pow h1 h2
theorem and_two_zero {m a b : Nat} : m &&& two a b = 0 ↔ m.testBit a = false ∧ m.testBit b = false := by
 constructor
 ·
  intro h
  have h2 := fun j => congrArg (fun x => x.testBit j) h
  simp only [Nat.testBit_and, two_bit, Nat.zero_testBit] at h2
  exact ⟨by simpa using h2 a, by simpa using h2 b⟩
 ·
  rintro ⟨h1, h2⟩
  apply Nat.eq_of_testBit_eq
  intro j
  simp only [Nat.testBit_and, two_bit, Nat.zero_testBit]
  by_cases ha : j = a
  ·
   subst ha; simp [h1]
  ·
   by_cases hb : j = b
   ·
    subst hb; simp [h2]
   ·
    simp [ha, hb]
theorem and_two_all {m a b : Nat} : m &&& two a b = two a b ↔ m.testBit a = true ∧ m.testBit b = true := by
 constructor
 ·
  intro h
  have h2 := fun j => congrArg (fun x => x.testBit j) h
  simp only [Nat.testBit_and, two_bit] at h2
  exact ⟨by simpa using h2 a, by simpa using h2 b⟩
 ·
  rintro ⟨h1, h2⟩
  apply Nat.eq_of_testBit_eq
  intro j
  simp only [Nat.testBit_and, two_bit]
  by_cases ha : j = a
  ·
   subst ha; simp [h1]
  ·
   by_cases hb : j = b
   ·
    subst hb; simp [h2]
   ·
    simp [ha, hb]
def Sound (sw : List S69) (st a m : Nat) : Prop := m < 256 ∧ m.testBit a = true ∧ ∀ j, m.testBit j = true → Conn sw st a j
def Even (sw : List S69) (st m i : Nat) : Prop := ∀ j, ∀ h : j < sw.length, j < i → st.testBit j = true → m.testBit (sw[j].f0).toNat = m.testBit (sw[j].f1).toNat
theorem conn_of_even {sw : List S69} {st a m : Nat} (hs : Sound sw st a m) (he : Even sw st m sw.length) {j : Nat} (h : Conn sw st a j) : m.testBit j = true := by
 induction h with
 | refl => exact hs.2.1
 | step _ e ih =>
  obtain ⟨i, hi, hb, h | h⟩ := e
  ·
   have := he i hi hi hb
   rw [h.1, h.2, Int.toNat_natCast, Int.toNat_natCast] at this
   rw [← this]; exact ih
  ·
   have := he i hi hi hb
   rw [h.1, h.2, Int.toNat_natCast, Int.toNat_natCast] at this
   rw [this]; exact ih
theorem or_two_sound {sw : List S69} {st a m : Nat} (hs : Sound sw st a m) {i : Nat} (hi : i < sw.length) (hb : st.testBit i = true) {x y : Nat} (hx : sw[i].f0 = x) (hy : sw[i].f1 = y) (hx8 : x < 8) (hy8 : y < 8)
  (h : m.testBit x = true ∨ m.testBit y = true) : Sound sw st a (m ||| two x y) := by
 have hlt8 : m ||| two x y < 2 ^ 8 := Nat.or_lt_two_pow hs.1 (two_lt hx8 hy8)
 refine ⟨hlt8, by rw [Nat.testBit_or, hs.2.1]; rfl, fun j hj => ?_⟩
 rw [Nat.testBit_or, two_bit] at hj
 have e1 : Edge sw st x y := ⟨i, hi, hb, .inl ⟨hx, hy⟩⟩
 have e2 : Edge sw st y x := ⟨i, hi, hb, .inr ⟨hx, hy⟩⟩
 by_cases hm : m.testBit j = true
 ·
  exact hs.2.2 j hm
 ·
  have hm2 : m.testBit j = false := by simpa using hm
  rw [hm2, Bool.false_or] at hj
  have hj2 : j = x ∨ j = y := by simpa using hj
  rcases hj2 with rfl | rfl
  ·
   rcases h with h | h
   ·
    exact hs.2.2 _ h
   ·
    exact Conn.step (hs.2.2 _ h) e2
  ·
   rcases h with h | h
   ·
    exact Conn.step (hs.2.2 _ h) e1
   ·
    exact hs.2.2 _ h
theorem or_gt {m t : Nat} (h : m &&& t ≠ t) : m < m ||| t := by
 refine Nat.lt_of_le_of_ne Nat.left_le_or (fun e => h ?_)
 have : (m ||| t) &&& t = t := by
  apply Nat.eq_of_testBit_eq
  intro j
  rw [Nat.testBit_and, Nat.testBit_or]
  cases m.testBit j <;> cases t.testBit j <;> rfl
 rw [← e] at this
 exact this
def Group (sw : List S69) (st a m : Nat) : Prop := Sound sw st a m ∧ Even sw st m sw.length
theorem group_l1 (n : Int) (sw : List S69) (fe : List S71) (hsw : SwOk 8 sw) (hlen : sw.length ≤ 20) (st a : Nat) (hst : st < 2 ^ 20) (m0 : Nat)
  (IH : ∀ m, m0 < m → Sound sw st a m → ∃ r, Ev (fun k => feed_grid_group.l0 k (st : Int) (m : Int) true n sw fe) ((r : Nat) : Int) ∧ Group sw st a r) :
  ∀ (d i m : Nat) (b : Bool), i + d = sw.length → Sound sw st a m → (b = false → m = m0 ∧ Even sw st m0 i) → (b = true → m0 < m) →
  ∃ r, Ev (fun k => feed_grid_group.l1 k (st : Int) (m : Int) b sw (sw.length : Int) (i : Int) n sw fe) ((r : Nat) : Int) ∧ Group sw st a r := by
 intro d
 induction d with
 | zero =>
  intro i m b hi hs hf ht
  obtain rfl : i = sw.length := by omega
  cases b with
  | true =>
   obtain ⟨r, h1, h2⟩ := IH m (ht rfl) hs
   refine ⟨r, ?_, h2⟩
   refine Ev.step (fun k => by rw [feed_grid_group.l1]) ?_
   exact ev_neg (by omega) h1
  | false =>
   obtain ⟨rfl, he⟩ := hf rfl
   refine ⟨m, ?_, hs, he⟩
   refine Ev.step (fun k => by rw [feed_grid_group.l1]) (ev_neg (by omega) ?_)
   refine Ev.step (fun k => by rw [feed_grid_group.l0]) ?_
   exact ev_neg (by simp) (Ev.now _)
 | succ d ih =>
  intro i m b hi hs hf ht
  have hlt : i < sw.length := by omega
  have hm := hs.1
  obtain ⟨x0, x1, y0, y1, hxy⟩ := hsw sw[i] (List.getElem_mem hlt)
  obtain ⟨x, hx⟩ := Int.eq_ofNat_of_zero_le x0
  obtain ⟨y, hy⟩ := Int.eq_ofNat_of_zero_le y0
  have hx8 : x < 8 := by omega
  have hy8 : y < 8 := by omega
  have ht2 := two_lt hx8 hy8
  have start : ∀ r : Nat, Ev (fun k => if (Go.bits .and .i64 (shr .i64 (st : Int) (i : Int)) 1) = 0 then feed_grid_group.l1 k (st : Int) (m : Int) b sw (sw.length : Int) (wrap64 ((i : Int) + 1)) n sw fe else (if 0 ≤ ((rd_T69 sw (i : Int)).f0) then (if 0 ≤ ((rd_T69 sw (i : Int)).f1) then (if (Go.bits .and .u64 (m : Int) (Go.bits .or .u64 (shl .u64 1 ((rd_T69 sw (i : Int)).f0)) (shl .u64 1 ((rd_T69 sw (i : Int)).f1)))) = 0 then (feed_grid_group.l1 k (st : Int) (m : Int) b sw (sw.length : Int) (wrap64 ((i : Int) + 1)) n sw fe) else (if (Go.bits .and .u64 (m : Int) (Go.bits .or .u64 (shl .u64 1 ((rd_T69 sw (i : Int)).f0)) (shl .u64 1 ((rd_T69 sw (i : Int)).f1)))) = (Go.bits .or .u64 (shl .u64 1 ((rd_T69 sw (i : Int)).f0)) (shl .u64 1 ((rd_T69 sw (i : Int)).f1))) then (feed_grid_group.l1 k (st : Int) (m : Int) b sw (sw.length : Int) (wrap64 ((i : Int) + 1)) n sw fe) else (feed_grid_group.l1 k (st : Int) (Go.bits .or .u64 (m : Int) (Go.bits .or .u64 (shl .u64 1 ((rd_T69 sw (i : Int)).f0)) (shl .u64 1 ((rd_T69 sw (i : Int)).f1)))) true sw (sw.length : Int) (wrap64 ((i : Int) + 1)) n sw fe))) else (none)) else (none))) (r : Int) →
    Ev (fun k => feed_grid_group.l1 k (st : Int) (m : Int) b sw (sw.length : Int) (i : Int) n sw fe) (r : Int) := by
   intro r h
   refine Ev.step (fun k => by rw [feed_grid_group.l1]) ?_
   exact ev_pos (by omega) (ev_pos (by omega) (ev_pos (by omega) h))
  rw [rd_S69 sw i hlt, hx, hy] at start
  have e1 : shl .u64 1 ((x : Nat) : Int) = ((1 <<< x : Nat) : Int) := shl_u (x := 1) (by rw [Nat.one_mul]; exact Nat.lt_of_lt_of_le (Nat.pow_lt_pow_right (by decide) hx8) (by decide)) (by omega)
  have e2 : shl .u64 1 ((y : Nat) : Int) = ((1 <<< y : Nat) : Int) := shl_u (x := 1) (by rw [Nat.one_mul]; exact Nat.lt_of_lt_of_le (Nat.pow_lt_pow_right (by decide) hy8) (by decide)) (by omega)
  have s1 : 1 <<< x < 2 ^ 62 := by rw [Nat.one_shiftLeft]; exact Nat.lt_of_lt_of_le (Nat.pow_lt_pow_right (by decide) hx8) (by decide)
  have s2 : 1 <<< y < 2 ^ 62 := by rw [Nat.one_shiftLeft]; exact Nat.lt_of_lt_of_le (Nat.pow_lt_pow_right (by decide) hy8) (by decide)
  have e3 : Go.bits .or .u64 ((1 <<< x : Nat) : Int) ((1 <<< y : Nat) : Int) = ((two x y : Nat) : Int) := or_u s1 s2
  have e4 : Go.bits .and .u64 (m : Int) ((two x y : Nat) : Int) = ((m &&& two x y : Nat) : Int) := and_u (by omega) (by omega)
  have e5 : Go.bits .or .u64 (m : Int) ((two x y : Nat) : Int) = ((m ||| two x y : Nat) : Int) := or_u (by omega) (by omega)
  rw [e1, e2, e3, e4, e5, bit_i (by omega) (by omega), wrap_succ i (by omega)] at start
  have keep : ∀ (hE : st.testBit i = true → m.testBit x = m.testBit y), b = false → m = m0 ∧ Even sw st m0 (i + 1) := by
   intro hE hb
   obtain ⟨rfl, he⟩ := hf hb
   refine ⟨rfl, fun j hj hji hjb => ?_⟩
   by_cases h : j < i
   ·
    exact he j hj h hjb
   ·
    obtain rfl : j = i := by omega
    rw [hx, hy, Int.toNat_natCast, Int.toNat_natCast]
    exact hE hjb
  by_cases hbit : st.testBit i = true
  ·
   rw [if_pos hbit] at start
   by_cases hz : m &&& two x y = 0
   ·
    have hz2 := and_two_zero.1 hz
    obtain ⟨r, h1, h2⟩ := ih (i + 1) m b (by omega) hs (keep fun _ => by rw [hz2.1, hz2.2]) ht
    exact ⟨r, start r (ev_neg (by decide) (ev_pos (by omega) (ev_pos (by omega) (ev_pos (by omega) h1)))), h2⟩
   ·
    by_cases ha : m &&& two x y = two x y
    ·
     have ha2 := and_two_all.1 ha
     obtain ⟨r, h1, h2⟩ := ih (i + 1) m b (by omega) hs (keep fun _ => by rw [ha2.1, ha2.2]) ht
     exact ⟨r, start r (ev_neg (by decide) (ev_pos (by omega) (ev_pos (by omega) (ev_neg (by omega) (ev_pos (by omega) h1))))), h2⟩
    ·
     have hor : m.testBit x = true ∨ m.testBit y = true := by
      by_cases h1 : m.testBit x = true
      ·
       exact .inl h1
      ·
       by_cases h2 : m.testBit y = true
       ·
        exact .inr h2
       ·
        exact absurd (and_two_zero.2 ⟨by simpa using h1, by simpa using h2⟩) hz
     have hgt := or_gt ha
     have hm0 : m0 < m ||| two x y := by
      cases b with
      | true => have := ht rfl; omega
      | false => have := (hf rfl).1; omega
     obtain ⟨r, h1, h2⟩ := ih (i + 1) (m ||| two x y) true (by omega) (or_two_sound hs hlt hbit hx hy hx8 hy8 hor) (fun h => by cases h) (fun _ => hm0)
     exact ⟨r, start r (ev_neg (by decide) (ev_pos (by omega) (ev_pos (by omega) (ev_neg (by omega) (ev_neg (by omega) h1))))), h2⟩
  ·
   rw [if_neg hbit] at start
   obtain ⟨r, h1, h2⟩ := ih (i + 1) m b (by omega) hs (keep fun h => absurd h hbit) ht
   exact ⟨r, start r (ev_pos rfl h1), h2⟩
theorem group_l0 (n : Int) (sw : List S69) (fe : List S71) (hsw : SwOk 8 sw) (hlen : sw.length ≤ 20) (st a : Nat) (hst : st < 2 ^ 20) :
  ∀ (q m : Nat), 256 - m ≤ q → Sound sw st a m → ∃ r, Ev (fun k => feed_grid_group.l0 k (st : Int) (m : Int) true n sw fe) ((r : Nat) : Int) ∧ Group sw st a r := by
 intro q
 induction q with
 | zero => intro m hq hs; have := hs.1; omega
 | succ q ih =>
  intro m hq hs
  have hm := hs.1
  obtain ⟨r, h1, h2⟩ := group_l1 n sw fe hsw hlen st a hst m (fun m' hm' hs' => ih m' (by omega) hs') sw.length 0 m false (by omega) hs (fun _ => ⟨rfl, fun j hj hji => by omega⟩) (fun h => by cases h)
  refine ⟨r, ?_, h2⟩
  refine Ev.step (fun k => by rw [feed_grid_group.l0]) ?_
  exact ev_pos rfl h1
theorem group_ev (n : Int) (sw : List S69) (fe : List S71) (hsw : SwOk 8 sw) (hlen : sw.length ≤ 20) (st a : Nat) (hst : st < 2 ^ 20) (ha : a < 8) :
  ∃ r : Nat, Ev (fun k => feed_grid_group.f k n sw fe (st : Int) (a : Int)) ((r : Nat) : Int) ∧ r < 256 ∧ ∀ j, r.testBit j = true ↔ Conn sw st a j := by
 have e1 : shl .u64 1 ((a : Nat) : Int) = ((1 <<< a : Nat) : Int) := shl_u (x := 1) (by rw [Nat.one_mul]; exact Nat.lt_of_lt_of_le (Nat.pow_lt_pow_right (by decide) ha) (by decide)) (by omega)
 have hs : Sound sw st a (1 <<< a) := by
  refine ⟨by rw [Nat.one_shiftLeft]; exact Nat.lt_of_lt_of_le (Nat.pow_lt_pow_right (by decide) ha) (by decide), by rw [Nat.one_shiftLeft, Nat.testBit_two_pow]; simp, fun j hj => ?_⟩
  rw [Nat.one_shiftLeft, Nat.testBit_two_pow] at hj
  obtain rfl : a = j := by simpa using hj
  exact Conn.refl
 obtain ⟨r, h1, h2⟩ := group_l0 n sw fe hsw hlen st a hst 256 (1 <<< a) (Nat.sub_le _ _) hs
 refine ⟨r, ?_, h2.1.1, fun j => ⟨h2.1.2.2 j, fun h => conn_of_even h2.1 h2.2 h⟩⟩
 unfold feed_grid_group.f
 rw [e1]
 exact ev_pos (by omega) h1
end Go.Proofs.YtoilhnmdemnknaaDoor.Plain

/- With which phases the sections are fed, as the program reckons them. -/
namespace Go.Proofs.YtoilhnmdemnknaaDoor.Plain
set_option linter.unusedVariables false
set_option linter.unusedSimpArgs false
open Go.RowKit Go.Proofs.YtoilhnmdemnknaaDoor.XFeed Go.Proofs.YtoilhnmdemnknaaDoorW.PrintWords Go.Proofs.YtoilhnmdemnknaaDoorW.PrintLast Go.Proofs.YtoilhnmdemnknaaDoorW.PrintMore

def FeOk (n : Nat) (fe : List S71) : Prop := ∀ f ∈ fe, 0 ≤ f.f0 ∧ f.f0 < n ∧ 1 ≤ f.f1 ∧ f.f1 ≤ 3
def Mask (sw : List S69) (st : Nat) (fs : List S71) (i m : Nat) : Prop :=
 m < 16 ∧ ∀ p, m.testBit p = true ↔ ∃ f ∈ fs, f.f1 = (p : Int) ∧ Conn sw st f.f0.toNat i
theorem rd_S71 (xs : List S71) (i : Nat) (h : i < xs.length) : rd_T71 xs (i : Int) = xs[i] := by simp [rd_T71, List.getD_eq_getElem?_getD, h]
theorem rd_set (l : List Int) (i j : Nat) (v : Int) (hi : i < l.length) : rd (l.set i v) (j : Int) = if j = i then v else rd l (j : Int) := by
 simp only [rd, Int.toNat_natCast, List.getD_eq_getElem?_getD, List.getElem?_set]
 by_cases h : i = j
 ·
  subst h; simp [hi]
 ·
  rw [if_neg h, if_neg (fun e => h e.symm)]
theorem mask_no {sw : List S69} {st : Nat} {fs : List S71} {f : S71} {i m : Nat} (h : Mask sw st fs i m) (hn : ¬ Conn sw st f.f0.toNat i) : Mask sw st (fs ++ [f]) i m := by
 refine ⟨h.1, fun p => ?_⟩
 rw [h.2 p]
 constructor
 ·
  rintro ⟨x, hx, h1, h2⟩; exact ⟨x, List.mem_append_left _ hx, h1, h2⟩
 ·
  rintro ⟨x, hx, h1, h2⟩
  rcases List.mem_append.1 hx with hx | hx
  ·
   exact ⟨x, hx, h1, h2⟩
  ·
   obtain rfl : x = f := by simpa using hx
   exact absurd h2 hn
theorem mask_yes {sw : List S69} {st : Nat} {fs : List S71} {f : S71} {i m q : Nat} (h : Mask sw st fs i m) (hc : Conn sw st f.f0.toNat i) (hq : f.f1 = (q : Int)) (hq4 : q < 4) : Mask sw st (fs ++ [f]) i (m ||| 1 <<< q) := by
 have hlt : m ||| 1 <<< q < 2 ^ 4 := Nat.or_lt_two_pow h.1 (by rw [Nat.one_shiftLeft]; exact Nat.pow_lt_pow_right (by decide) hq4)
 refine ⟨hlt, fun p => ?_⟩
 rw [Nat.testBit_or, Bool.or_eq_true, h.2 p, Nat.one_shiftLeft, Nat.testBit_two_pow, decide_eq_true_eq]
 constructor
 ·
  rintro (⟨x, hx, h1, h2⟩ | rfl)
  ·
   exact ⟨x, List.mem_append_left _ hx, h1, h2⟩
  ·
   exact ⟨f, by simp, hq, hc⟩
 ·
  rintro ⟨x, hx, h1, h2⟩
  rcases List.mem_append.1 hx with hx | hx
  ·
   exact .inl ⟨x, hx, h1, h2⟩
  ·
   obtain rfl : x = f := by simpa using hx
   right; omega
def Fed (sw : List S69) (st n : Nat) (fs : List S71) (l : List Int) : Prop := l.length = n ∧ ∀ i, i < n → ∃ m, rd l (i : Int) = ((m : Nat) : Int) ∧ Mask sw st fs i m
theorem fed_l1 (n : Nat) (hn : n ≤ 8) (sw : List S69) (fe : List S71) (st : Nat) (f : S71) (hf : 1 ≤ f.f1 ∧ f.f1 ≤ 3) (fs : List S71) (q : Nat) (g : Nat) (hg : g < 256) (hgc : ∀ j, g.testBit j = true ↔ Conn sw st f.f0.toNat j)
  (hend : ∀ l', Fed sw st n (fs ++ [f]) l' → ∃ r, Ev (fun k => feed_grid_fed.l0 k (st : Int) l' fe (fe.length : Int) (wrap64 ((q : Int) + 1)) (n : Int) sw fe) r ∧ Fed sw st n fe r) :
  ∀ (d i : Nat) (l : List Int), i + d = n → l.length = n → (∀ j, j < n → ∃ m, rd l (j : Int) = ((m : Nat) : Int) ∧ Mask sw st (if j < i then fs ++ [f] else fs) j m) →
  ∃ r, Ev (fun k => feed_grid_fed.l1 k (st : Int) l (g : Int) fe (fe.length : Int) (q : Int) (n : Int) (i : Int) (n : Int) sw fe f.f0 f.f1) r ∧ Fed sw st n fe r := by
 intro d
 induction d with
 | zero =>
  intro i l hi hl hm
  obtain rfl : i = n := by omega
  obtain ⟨r, h1, h2⟩ := hend l ⟨hl, fun j hj => by
   obtain ⟨m, e, h⟩ := hm j hj
   rw [if_pos hj] at h
   exact ⟨m, e, h⟩⟩
  refine ⟨r, ?_, h2⟩
  refine Ev.step (fun k => by rw [feed_grid_fed.l1]) ?_
  exact ev_neg (by omega) h1
 | succ d ih =>
  intro i l hi hl hm
  obtain ⟨m, e, h⟩ := hm i (by omega)
  rw [if_neg (by omega)] at h
  have hm16 := h.1
  have hb := bit_u (x := g) (i := i) (by omega) (by omega)
  by_cases hc : g.testBit i = true
  ·
   have hcc := (hgc i).1 hc
   rw [if_pos hc] at hb
   obtain ⟨p, hp⟩ := Int.eq_ofNat_of_zero_le (show 0 ≤ f.f1 by omega)
   have s1 : 1 <<< p < 2 ^ 62 := by rw [Nat.one_shiftLeft]; exact Nat.lt_of_lt_of_le (Nat.pow_lt_pow_right (by decide) (show p < 4 by omega)) (by decide)
   have e1 : shl .u64 1 ((p : Nat) : Int) = ((1 <<< p : Nat) : Int) := shl_u (x := 1) (by rw [Nat.one_mul]; exact Nat.lt_of_lt_of_le (Nat.pow_lt_pow_right (by decide) (show p < 4 by omega)) (by decide)) (by omega)
   have e2 : Go.bits .or .u64 (m : Int) ((1 <<< p : Nat) : Int) = ((m ||| 1 <<< p : Nat) : Int) := or_u (by omega) s1
   obtain ⟨r, h1, h2⟩ := ih (i + 1) (l.set i ((m ||| 1 <<< p : Nat) : Int)) (by omega) (by rw [List.length_set]; exact hl) (fun j hj => by
    rw [rd_set _ _ _ _ (by omega)]
    by_cases hji : j = i
    ·
     subst hji
     rw [if_pos rfl, if_pos (by omega)]
     exact ⟨_, rfl, mask_yes h hcc hp (by omega)⟩
    ·
     rw [if_neg hji]
     obtain ⟨m', e', h'⟩ := hm j hj
     refine ⟨m', e', ?_⟩
     by_cases hlt : j < i
     ·
      rw [if_pos hlt] at h'; rw [if_pos (by omega)]; exact h'
     ·
      rw [if_neg hlt] at h'; rw [if_neg (by omega)]; exact h')
   refine ⟨r, ?_, h2⟩
   refine Ev.step (fun k => by rw [feed_grid_fed.l1]) ?_
   rw [hb, e, hp, e1, e2, wrap_succ i (by omega), Int.toNat_natCast]
   rw [hp] at h1
   exact ev_pos (by omega) (ev_pos (by omega) (ev_pos rfl (ev_pos (by omega) (ev_pos (by omega) h1))))
  ·
   rw [if_neg hc] at hb
   obtain ⟨r, h1, h2⟩ := ih (i + 1) l (by omega) hl (fun j hj => by
    obtain ⟨m', e', h'⟩ := hm j hj
    refine ⟨m', e', ?_⟩
    by_cases hji : j = i
    ·
     subst hji
     rw [if_neg (by omega)] at h'
     rw [if_pos (by omega)]
     exact mask_no h' (fun hx => hc ((hgc j).2 hx))
    ·
     by_cases hlt : j < i
     ·
      rw [if_pos hlt] at h'; rw [if_pos (by omega)]; exact h'
     ·
      rw [if_neg hlt] at h'; rw [if_neg (by omega)]; exact h')
   refine ⟨r, ?_, h2⟩
   refine Ev.step (fun k => by rw [feed_grid_fed.l1]) ?_
   rw [hb, wrap_succ i (by omega)]
   exact ev_pos (by omega) (ev_pos (by omega) (ev_neg (by decide) h1))
theorem fed_l0 (n : Nat) (hn : n ≤ 8) (sw : List S69) (hsw : SwOk 8 sw) (hlen : sw.length ≤ 20) (fe : List S71) (hfe : FeOk n fe) (hfl : fe.length ≤ 20) (st : Nat) (hst : st < 2 ^ 20) :
  ∀ (d q : Nat) (l : List Int), q + d = fe.length → Fed sw st n (fe.take q) l → ∃ r, Ev (fun k => feed_grid_fed.l0 k (st : Int) l fe (fe.length : Int) (q : Int) (n : Int) sw fe) r ∧ Fed sw st n fe r := by
 intro d
 induction d with
 | zero =>
  intro q l hq hl
  obtain rfl : q = fe.length := by omega
  rw [List.take_length] at hl
  refine ⟨l, ?_, hl⟩
  refine Ev.step (fun k => by rw [feed_grid_fed.l0]) ?_
  exact ev_neg (by omega) (Ev.now _)
 | succ d ih =>
  intro q l hq hl
  have hlt : q < fe.length := by omega
  obtain ⟨f0, f1, f2, f3⟩ := hfe fe[q] (List.getElem_mem hlt)
  have htk : fe.take (q + 1) = fe.take q ++ [fe[q]] := List.take_succ_eq_append_getElem hlt
  obtain ⟨g, hg1, hg2, hg3⟩ := group_ev (n : Int) sw fe hsw hlen st fe[q].f0.toNat hst (by omega)
  rw [Int.toNat_of_nonneg f0] at hg1
  obtain ⟨r, h1, h2⟩ := fed_l1 n hn sw fe st fe[q] ⟨f2, f3⟩ (fe.take q) q g hg2 hg3 (fun l' hl' => by
   rw [wrap_succ q (by omega)]
   rw [← htk] at hl'
   exact ih (q + 1) l' (by omega) hl') n 0 l (by omega) hl.1 (fun j hj => by rw [if_neg (by omega)]; exact hl.2 j hj)
  refine ⟨r, ?_, h2⟩
  refine Ev.step (fun k => by rw [feed_grid_fed.l0]) ?_
  rw [rd_S71 fe q hlt]
  refine ev_pos (by omega) (ev_pos (by omega) (ev_pos (by omega) (Ev.bind hg1 ?_)))
  rw [hl.1]
  exact h1
theorem fed_ev (n : Nat) (hn : n ≤ 8) (sw : List S69) (hsw : SwOk 8 sw) (hlen : sw.length ≤ 20) (fe : List S71) (hfe : FeOk n fe) (hfl : fe.length ≤ 20) (st : Nat) (hst : st < 2 ^ 20) :
  ∃ r, Ev (fun k => feed_grid_fed.f k (n : Int) sw fe (st : Int)) r ∧ Fed sw st n fe r := by
 obtain ⟨r, h1, h2⟩ := fed_l0 n hn sw hsw hlen fe hfe hfl st hst fe.length 0 (List.replicate n 0) (by omega) ⟨List.length_replicate, fun i hi => ⟨0, by simp [rd, hi], by decide, fun p => by simp⟩⟩
 refine ⟨r, ?_, h2⟩
 unfold feed_grid_fed.f
 rw [Int.toNat_natCast]
 exact ev_pos (by omega) (ev_pos (by omega) h1)
end Go.Proofs.YtoilhnmdemnknaaDoor.Plain

/- Which grids are as described: program and document say the same. -/
namespace Go.Proofs.YtoilhnmdemnknaaDoor.Plain
set_option linter.unusedVariables false
set_option linter.unusedSimpArgs false
open Go.RowKit Go.Proofs.YtoilhnmdemnknaaDoor.XFeed Go.Proofs.YtoilhnmdemnknaaDoorW.PrintWords Go.Proofs.YtoilhnmdemnknaaDoorW.PrintLast Go.Proofs.YtoilhnmdemnknaaDoorW.PrintMore

def SwIs (N : Int) (s : S69) : Prop := 0 ≤ s.f0 ∧ s.f0 < N ∧ 0 ≤ s.f1 ∧ s.f1 < N ∧ s.f0 ≠ s.f1
def FeIs (N : Int) (f : S71) : Prop := 0 ≤ f.f0 ∧ f.f0 < N ∧ 1 ≤ f.f1 ∧ f.f1 ≤ 3
def GridOk (N : Int) (sw : List S69) (fe : List S71) : Prop :=
 1 ≤ N ∧ N ≤ 8 ∧ sw.length ≤ 10 ∧ fe.length ≤ 6 ∧ (∀ s ∈ sw, SwIs N s) ∧ ∀ f ∈ fe, FeIs N f
theorem bad1_iff {N : Int} (h1 : 1 ≤ N) (h2 : N ≤ 8) (s : S69) : feed_Valid.bad1 N s = true ↔ ¬ SwIs N s := by
 unfold feed_Valid.bad1 SwIs
 rw [wrap_id (x := N - 1) (by omega) (by omega)]
 simp only [Bool.or_eq_true, Bool.not_eq_true', Bool.and_eq_false_iff, decide_eq_false_iff_not, beq_iff_eq]
 omega
theorem bad2_iff {N : Int} (h1 : 1 ≤ N) (h2 : N ≤ 8) (f : S71) : feed_Valid.bad2 N f = true ↔ ¬ FeIs N f := by
 unfold feed_Valid.bad2 FeIs
 rw [wrap_id (x := N - 1) (by omega) (by omega)]
 simp only [Bool.or_eq_true, Bool.not_eq_true', Bool.and_eq_false_iff, decide_eq_false_iff_not]
 omega
open Classical in
theorem valid_f (N : Int) (sw : List S69) (fe : List S71) : feed_Valid.f N sw fe = some (decide (GridOk N sw fe)) := by
 unfold feed_Valid.f
 congr 1
 rw [Bool.eq_iff_iff, decide_eq_true_eq]
 simp only [Bool.and_eq_true, decide_eq_true_eq, Bool.not_eq_true', List.any_eq_false]
 unfold GridOk
 constructor
 ·
  rintro ⟨⟨h1, h2⟩, h3, h4, h5, h6⟩
  refine ⟨h1, h2, by omega, by omega, fun s hs => ?_, fun f hf => ?_⟩
  ·
   have := h5 s hs
   rw [bad1_iff h1 h2] at this
   exact Classical.not_not.1 this
  ·
   have := h6 f hf
   rw [bad2_iff h1 h2] at this
   exact Classical.not_not.1 this
 ·
  rintro ⟨h1, h2, h3, h4, h5, h6⟩
  refine ⟨⟨h1, h2⟩, by omega, by omega, fun s hs => ?_, fun f hf => ?_⟩
  ·
   rw [bad1_iff h1 h2]; exact fun h => h (h5 s hs)
  ·
   rw [bad2_iff h1 h2]; exact fun h => h (h6 f hf)
theorem section_f (N : Int) (sw : List S69) (fe : List S71) (x : Int) : dropperref05_section.f N sw fe x = some (decide (0 ≤ x ∧ x < N)) := by
 unfold dropperref05_section.f
 by_cases h : x ≥ 0
 ·
  rw [if_pos h]; congr 1; rw [decide_eq_decide]; omega
 ·
  rw [if_neg h]; congr 1; symm; rw [decide_eq_false_iff_not]; omega
open Classical in
theorem rvalid_l1 (N : Int) (sw : List S69) (fe : List S71) (hl : fe.length ≤ 6) : ∀ (d i : Nat), i + d = fe.length → (∀ j (h : j < fe.length), j < i → FeIs N fe[j]) →
  Ev (fun k => dropperref05_Valid.l1 k (i : Int) N sw fe) (decide (∀ f ∈ fe, FeIs N f)) := by
 intro d
 induction d with
 | zero =>
  intro i hi hb
  refine Ev.step (fun k => by rw [dropperref05_Valid.l1]) ?_
  refine ev_neg (by omega) (ev_const ?_)
  rw [decide_eq_true]
  intro f hf
  obtain ⟨j, hj, rfl⟩ := List.mem_iff_getElem.1 hf
  exact hb j hj (by omega)
 | succ d ih =>
  intro i hi hb
  have hlt : i < fe.length := by omega
  have no : ¬ FeIs N fe[i] → (false : Bool) = decide (∀ f ∈ fe, FeIs N f) := fun h => by
   symm; rw [decide_eq_false_iff_not]; exact fun h2 => h (h2 _ (List.getElem_mem hlt))
  refine Ev.step (fun k => by rw [dropperref05_Valid.l1]) ?_
  rw [rd_S71 fe i hlt, section_f, wrap_succ i (by omega)]
  refine ev_pos (by omega) (ev_pos (by omega) (ev_some ?_))
  by_cases h0 : 0 ≤ fe[i].f0 ∧ fe[i].f0 < N
  ·
   refine ev_pos (decide_eq_true h0) ?_
   by_cases h1 : fe[i].f1 < 1
   ·
    exact ev_pos h1 (ev_const (congrArg some (no (fun h => by unfold FeIs at h; omega))))
   refine ev_neg h1 ?_
   by_cases h2 : fe[i].f1 > 3
   ·
    exact ev_pos h2 (ev_const (congrArg some (no (fun h => by unfold FeIs at h; omega))))
   refine ev_neg h2 (ih (i + 1) (by omega) (fun j hj hji => ?_))
   by_cases h : j < i
   ·
    exact hb j hj h
   ·
    obtain rfl : j = i := by omega
    unfold FeIs; omega
  ·
   exact ev_neg (by simpa using h0) (ev_const (congrArg some (no (fun h => h0 ⟨h.1, h.2.1⟩))))
open Classical in
theorem rvalid_l0 (N : Int) (sw : List S69) (fe : List S71) (hl : fe.length ≤ 6) (hs : sw.length ≤ 10) : ∀ (d i : Nat), i + d = sw.length → (∀ j (h : j < sw.length), j < i → SwIs N sw[j]) →
  Ev (fun k => dropperref05_Valid.l0 k (i : Int) N sw fe) (decide ((∀ s ∈ sw, SwIs N s) ∧ ∀ f ∈ fe, FeIs N f)) := by
 intro d
 induction d with
 | zero =>
  intro i hi hb
  have hall : ∀ s ∈ sw, SwIs N s := by
   intro f hf
   obtain ⟨j, hj, rfl⟩ := List.mem_iff_getElem.1 hf
   exact hb j hj (by omega)
  have e : decide ((∀ s ∈ sw, SwIs N s) ∧ ∀ f ∈ fe, FeIs N f) = decide (∀ f ∈ fe, FeIs N f) := by
   rw [decide_eq_decide]; exact ⟨fun h => h.2, fun h => ⟨hall, h⟩⟩
  rw [e]
  refine Ev.step (fun k => by rw [dropperref05_Valid.l0]) ?_
  exact ev_neg (by omega) (rvalid_l1 N sw fe hl fe.length 0 (by omega) (fun j h hj => by omega))
 | succ d ih =>
  intro i hi hb
  have hlt : i < sw.length := by omega
  have no : ¬ SwIs N sw[i] → (false : Bool) = decide ((∀ s ∈ sw, SwIs N s) ∧ ∀ f ∈ fe, FeIs N f) := fun h => by
   symm; rw [decide_eq_false_iff_not]; exact fun h2 => h (h2.1 _ (List.getElem_mem hlt))
  refine Ev.step (fun k => by rw [dropperref05_Valid.l0]) ?_
  rw [rd_S69 sw i hlt, section_f, section_f, wrap_succ i (by omega)]
  refine ev_pos (by omega) (ev_pos (by omega) (ev_some ?_))
  by_cases h0 : 0 ≤ sw[i].f0 ∧ sw[i].f0 < N
  ·
   refine ev_pos (decide_eq_true h0) (ev_some ?_)
   by_cases h1 : 0 ≤ sw[i].f1 ∧ sw[i].f1 < N
   ·
    refine ev_pos (decide_eq_true h1) ?_
    by_cases h2 : sw[i].f0 = sw[i].f1
    ·
     exact ev_pos h2 (ev_const (congrArg some (no (fun h => h.2.2.2.2 h2))))
    refine ev_neg h2 (ih (i + 1) (by omega) (fun j hj hji => ?_))
    by_cases h : j < i
    ·
     exact hb j hj h
    ·
     obtain rfl : j = i := by omega
     exact ⟨h0.1, h0.2, h1.1, h1.2, h2⟩
   ·
    exact ev_neg (by simpa using h1) (ev_const (congrArg some (no (fun h => h1 ⟨h.2.2.1, h.2.2.2.1⟩))))
  ·
   exact ev_neg (by simpa using h0) (ev_const (congrArg some (no (fun h => h0 ⟨h.1, h.2.1⟩))))
open Classical in
theorem rvalid_ev (N : Int) (sw : List S69) (fe : List S71) : Ev (fun k => dropperref05_Valid.f k N sw fe) (decide (GridOk N sw fe)) := by
 have no : ¬ GridOk N sw fe → Ev (fun k => dropperref05_Valid.j0 k true N sw fe) (decide (GridOk N sw fe)) := fun h => by
  rw [decide_eq_false h]
  refine Ev.step (fun k => by rw [dropperref05_Valid.j0]) ?_
  exact ev_pos rfl (Ev.now _)
 unfold dropperref05_Valid.f
 by_cases h1 : N < 1
 ·
  exact ev_pos h1 (no (fun h => by have := h.1; omega))
 refine ev_neg h1 ?_
 by_cases h2 : N > 8
 ·
  exact ev_pos h2 (no (fun h => by have := h.2.1; omega))
 refine ev_neg h2 ?_
 by_cases h3 : (sw.length : Int) > 10
 ·
  exact ev_pos h3 (no (fun h => by have := h.2.2.1; omega))
 refine ev_neg h3 ?_
 by_cases h4 : (fe.length : Int) > 6
 ·
  rw [decide_eq_true h4]
  exact no (fun h => by have := h.2.2.2.1; omega)
 rw [decide_eq_false h4]
 refine Ev.step (fun k => by rw [dropperref05_Valid.j0]) (ev_neg (by simp) ?_)
 have e : decide (GridOk N sw fe) = decide ((∀ s ∈ sw, SwIs N s) ∧ ∀ f ∈ fe, FeIs N f) := by
  rw [decide_eq_decide]
  exact ⟨fun h => h.2.2.2.2, fun h => ⟨by omega, by omega, by omega, by omega, h⟩⟩
 rw [e]
 exact rvalid_l0 N sw fe (by omega) (by omega) sw.length 0 (by omega) (fun j h hj => by omega)
end Go.Proofs.YtoilhnmdemnknaaDoor.Plain

/- What is live, and which states are right, as the program reckons them. -/
namespace Go.Proofs.YtoilhnmdemnknaaDoor.Plain
set_option linter.unusedVariables false
set_option linter.unusedSimpArgs false
open Go.RowKit Go.Proofs.YtoilhnmdemnknaaDoor.XFeed Go.Proofs.YtoilhnmdemnknaaDoorW.PrintWords Go.Proofs.YtoilhnmdemnknaaDoorW.PrintLast Go.Proofs.YtoilhnmdemnknaaDoorW.PrintMore

def cn (m : Nat) : Nat := ((List.range 4).filter m.testBit).length
def lv (m : Nat) : Int := if cn m = 0 then 0 else if cn m = 1 then (if m = 1 then 0 else if m = 2 then 1 else if m = 4 then 2 else 3) else -1
theorem ones16 : ∀ m : Nat, m < 16 → bits_OnesCount.f (m : Int) = some (cn m : Int) := by decide +kernel
theorem tz16 : ∀ m : Nat, m < 16 → cn m = 1 → bits_TrailingZeros.f (m : Int) = some (lv m) := by decide +kernel
def Mark (sw : List S69) (st n : Nat) (fe : List S71) (l : List Int) : Prop := l.length = n ∧ ∀ i, i < n → ∃ m, rd l (i : Int) = lv m ∧ Mask sw st fe i m
theorem live_l0 (n : Nat) (hn : n ≤ 8) (sw : List S69) (fe : List S71) (st : Nat) (t : List Int) (ht : Fed sw st n fe t) :
  ∀ (d i : Nat) (acc : List Int), i + d = n → acc.length = i → (∀ j, j < i → ∃ m, rd acc (j : Int) = lv m ∧ Mask sw st fe j m) →
  ∃ r, Ev (fun k => feed_grid_live.l0 k acc t (t.length : Int) (i : Int)) r ∧ Mark sw st n fe r := by
 intro d
 induction d with
 | zero =>
  intro i acc hi ha hm
  obtain rfl : i = n := by omega
  have := ht.1
  refine ⟨acc, ?_, ha, hm⟩
  refine Ev.step (fun k => by rw [feed_grid_live.l0]) ?_
  exact ev_neg (by omega) (Ev.now _)
 | succ d ih =>
  intro i acc hi ha hm
  have hl := ht.1
  obtain ⟨m, e, hM⟩ := ht.2 i (by omega)
  have hm16 := hM.1
  have next : ∃ r, Ev (fun k => feed_grid_live.l0 k (acc ++ [lv m]) t (t.length : Int) ((i + 1 : Nat) : Int)) r ∧ Mark sw st n fe r := by
   refine ih (i + 1) (acc ++ [lv m]) (by omega) (by simp [ha]) (fun j hj => ?_)
   by_cases h : j < i
   ·
    obtain ⟨m', e', h'⟩ := hm j h
    refine ⟨m', ?_, h'⟩
    rw [← e']
    simp [rd, List.getD_eq_getElem?_getD, List.getElem?_append_left (show j < acc.length by omega)]
   ·
    obtain rfl : j = i := by omega
    refine ⟨m, ?_, hM⟩
    simp [rd, List.getD_eq_getElem?_getD, ← ha]
  obtain ⟨r, h1, h2⟩ := next
  refine ⟨r, ?_, h2⟩
  refine Ev.step (fun k => by rw [feed_grid_live.l0]) ?_
  rw [e, ones16 m hm16, wrap_succ i (by omega)]
  refine ev_pos (by omega) (ev_pos (by omega) (ev_pos (by omega) (ev_some ?_)))
  by_cases c0 : cn m = 0
  ·
   have e0 : lv m = 0 := by unfold lv; rw [if_pos c0]
   rw [e0] at h1
   exact ev_pos (by omega) (ev_pos (by omega) h1)
  ·
   refine ev_neg (by omega) ?_
   by_cases c1 : cn m = 1
   ·
    rw [tz16 m hm16 c1]
    exact ev_pos (by omega) (ev_some (ev_pos (by omega) h1))
   ·
    have e1 : lv m = -1 := by unfold lv; rw [if_neg c0, if_neg c1]
    rw [e1] at h1
    exact ev_neg (by omega) (ev_pos (by omega) h1)
theorem live_ev (n : Nat) (hn : n ≤ 8) (sw : List S69) (hsw : SwOk 8 sw) (hlen : sw.length ≤ 20) (fe : List S71) (hfe : FeOk n fe) (hfl : fe.length ≤ 20) (st : Nat) (hst : st < 2 ^ 20) :
  ∃ r, Ev (fun k => feed_grid_live.f k (n : Int) sw fe (st : Int)) r ∧ Mark sw st n fe r := by
 obtain ⟨t, h1, h2⟩ := fed_ev n hn sw hsw hlen fe hfe hfl st hst
 obtain ⟨r, h3, h4⟩ := live_l0 n hn sw fe st t h2 n 0 [] (by omega) rfl (fun j hj => by omega)
 refine ⟨r, ?_, h4⟩
 unfold feed_grid_live.f
 exact Ev.bind h1 h3
theorem index_l0 (l : List Int) (hl : l.length ≤ 100) (v : Int) : ∀ (d i : Nat), i + d = l.length → (∀ j (h : j < l.length), j < i → l[j] ≠ v) →
  ∃ r : Int, Ev (fun k => slices_Index_int_int.l0 k l v (l.length : Int) (i : Int)) r ∧ (0 ≤ r ↔ v ∈ l) := by
 intro d
 induction d with
 | zero =>
  intro i hi hb
  refine ⟨-1, ?_, ?_⟩
  ·
   refine Ev.step (fun k => by rw [slices_Index_int_int.l0]) ?_
   exact ev_neg (by omega) (Ev.now _)
  ·
   constructor
   ·
    intro h; omega
   ·
    intro h
    obtain ⟨j, hj, e⟩ := List.mem_iff_getElem.1 h
    exact absurd e (hb j hj (by omega))
 | succ d ih =>
  intro i hi hb
  have hlt : i < l.length := by omega
  have hr : rd l (i : Int) = l[i] := by simp [rd, List.getD_eq_getElem?_getD, hlt]
  by_cases he : v = l[i]
  ·
   refine ⟨i, ?_, ?_⟩
   ·
    refine Ev.step (fun k => by rw [slices_Index_int_int.l0]) ?_
    rw [hr]
    exact ev_pos (by omega) (ev_pos (by omega) (ev_pos (by omega) (ev_pos he (Ev.now _))))
   ·
    exact ⟨fun _ => he ▸ List.getElem_mem hlt, fun _ => by omega⟩
  ·
   obtain ⟨r, h1, h2⟩ := ih (i + 1) (by omega) (fun j hj hji => by
    by_cases h : j < i
    ·
     exact hb j hj h
    ·
     obtain rfl : j = i := by omega
     exact fun e => he e.symm)
   refine ⟨r, ?_, h2⟩
   refine Ev.step (fun k => by rw [slices_Index_int_int.l0]) ?_
   rw [hr, wrap_succ i (by omega)]
   exact ev_pos (by omega) (ev_pos (by omega) (ev_pos (by omega) (ev_neg he h1)))
theorem contains_ev (l : List Int) (hl : l.length ≤ 100) (v : Int) : Ev (fun k => slices_Contains_int_int.f k l v) (decide (v ∈ l)) := by
 obtain ⟨r, h1, h2⟩ := index_l0 l hl v l.length 0 (by omega) (fun j h hj => by omega)
 unfold slices_Contains_int_int.f slices_Index_int_int.f
 refine Ev.bind h1 (ev_const ?_)
 congr 1
 rw [decide_eq_decide]
 exact h2
theorem mask_unique {sw : List S69} {st : Nat} {fe : List S71} {i m m' : Nat} (h : Mask sw st fe i m) (h' : Mask sw st fe i m') : m = m' := by
 apply Nat.eq_of_testBit_eq
 intro p
 rw [Bool.eq_iff_iff, h.2, h'.2]
end Go.Proofs.YtoilhnmdemnknaaDoor.Plain

/- Live, Right, States of a grid as described. -/
namespace Go.Proofs.YtoilhnmdemnknaaDoor.Plain
set_option linter.unusedVariables false
set_option linter.unusedSimpArgs false
open Go.RowKit Go.Proofs.YtoilhnmdemnknaaDoor.XFeed Go.Proofs.YtoilhnmdemnknaaDoorW.PrintWords Go.Proofs.YtoilhnmdemnknaaDoorW.PrintLast Go.Proofs.YtoilhnmdemnknaaDoorW.PrintMore

theorem GridOk.sw8 {n : Nat} {sw : List S69} {fe : List S71} (h : GridOk (n : Int) sw fe) : SwOk 8 sw := fun s hs => by
 have := h.2.2.2.2.1 s hs
 have := h.2.1
 unfold SwIs at *
 omega
theorem GridOk.fe {n : Nat} {sw : List S69} {fe : List S71} (h : GridOk (n : Int) sw fe) : FeOk n fe := fun f hf => h.2.2.2.2.2 f hf
theorem all_f (N : Int) (sw : List S69) (fe : List S71) (h : sw.length ≤ 10) : feed_grid_all.f N sw fe = some ((2 ^ sw.length : Nat) : Int) := by
 unfold feed_grid_all.f
 have hp : 2 ^ sw.length ≤ 2 ^ 10 := Nat.pow_le_pow_right (by decide) h
 rw [show (1 : Int) = ((1 : Nat) : Int) from rfl, shl_i (by omega) (by omega), Nat.one_shiftLeft]
theorem within_f (a b c : Int) : feed_within.f a b c = some (decide (a ≤ b ∧ b ≤ c)) := by
 unfold feed_within.f
 by_cases h : a ≤ b
 ·
  rw [if_pos h]; congr 1; rw [decide_eq_decide]; omega
 ·
  rw [if_neg h]; congr 1; symm; rw [decide_eq_false_iff_not]; omega
end Go.Proofs.YtoilhnmdemnknaaDoor.Plain

/- One more closed switch never takes anything away. -/
namespace Go.Proofs.YtoilhnmdemnknaaDoor.Plain
set_option linter.unusedVariables false
set_option linter.unusedSimpArgs false
open Go.RowKit Go.Proofs.YtoilhnmdemnknaaDoor.XFeed Go.Proofs.YtoilhnmdemnknaaDoorW.PrintWords Go.Proofs.YtoilhnmdemnknaaDoorW.PrintLast Go.Proofs.YtoilhnmdemnknaaDoorW.PrintMore

theorem mask_zero {sw : List S69} {st n : Nat} {fe : List S71} (hfe : FeOk n fe) {i m : Nat} (h : Mask sw st fe i m) : m.testBit 0 = false := by
 rw [Bool.eq_false_iff]
 intro hb
 obtain ⟨f, hf, e, _⟩ := (h.2 0).1 hb
 have := hfe f hf
 omega
end Go.Proofs.YtoilhnmdemnknaaDoor.Plain

/- What the document's answer reckons: from, live, right, States; and that it is what the program reckons. -/
namespace Go.Proofs.YtoilhnmdemnknaaDoor.Plain
set_option linter.unusedVariables false
set_option linter.unusedSimpArgs false
open Go.RowKit Go.Proofs.YtoilhnmdemnknaaDoor.XFeed Go.Proofs.YtoilhnmdemnknaaDoorW.PrintWords Go.Proofs.YtoilhnmdemnknaaDoorW.PrintLast Go.Proofs.YtoilhnmdemnknaaDoorW.PrintMore

def bl (n m : Nat) : List Bool := (List.range n).map m.testBit
theorem bl_len (n m : Nat) : (bl n m).length = n := by simp [bl]
theorem rd_bl {n m i : Nat} (h : i < n) : rdOf false (bl n m) (i : Int) = m.testBit i := by simp [rdOf, bl, List.getD_eq_getElem?_getD, h]
theorem bl_set2 {n m x y : Nat} (hx : x < n) (hy : y < n) : ((bl n m).set x true).set y true = bl n (m ||| two x y) := by
 apply List.ext_getElem
 ·
  simp [bl]
 ·
  intro i h1 h2
  simp only [bl, List.getElem_set, List.getElem_map, List.getElem_range, Nat.testBit_or, two_bit]
  by_cases a : y = i
  ·
   subst a; simp
  ·
   by_cases b : x = i
   ·
    subst b; simp [a]
   ·
    rw [if_neg a, if_neg b, decide_eq_false (fun e => b e.symm), decide_eq_false (fun e => a e.symm)]; simp
theorem closed_f {st i : Nat} (hs : st < 2 ^ 62) (hi : i ≤ 64) : dropperref05_closed.f (st : Int) (i : Int) = some (st.testBit i) := by
 unfold dropperref05_closed.f
 rw [bit_i hs hi, if_pos (by omega)]
 cases st.testBit i <;> rfl
theorem from_l1 (n : Nat) (hn : n ≤ 8) (sw : List S69) (fe : List S71) (hsw : SwOk n sw) (hlen : sw.length ≤ 20) (st a : Nat) (hst : st < 2 ^ 20) (m0 : Nat)
  (IH : ∀ m, m0 < m → Sound sw st a m → ∃ r, Ev (fun k => dropperref05_from.l0 k (st : Int) (bl n m) true (n : Int) sw fe) (bl n r) ∧ Group sw st a r) :
  ∀ (d i m : Nat) (b : Bool), i + d = sw.length → Sound sw st a m → (b = false → m = m0 ∧ Even sw st m0 i) → (b = true → m0 < m) →
  ∃ r, Ev (fun k => dropperref05_from.l1 k (st : Int) (bl n m) b (i : Int) (n : Int) sw fe) (bl n r) ∧ Group sw st a r := by
 intro d
 induction d with
 | zero =>
  intro i m b hi hs hf ht
  obtain rfl : i = sw.length := by omega
  cases b with
  | true =>
   obtain ⟨r, h1, h2⟩ := IH m (ht rfl) hs
   refine ⟨r, ?_, h2⟩
   refine Ev.step (fun k => by rw [dropperref05_from.l1]) ?_
   exact ev_neg (by omega) h1
  | false =>
   obtain ⟨rfl, he⟩ := hf rfl
   refine ⟨m, ?_, hs, he⟩
   refine Ev.step (fun k => by rw [dropperref05_from.l1]) (ev_neg (by omega) ?_)
   refine Ev.step (fun k => by rw [dropperref05_from.l0]) ?_
   exact ev_neg (by simp) (Ev.now _)
 | succ d ih =>
  intro i m b hi hs hf ht
  have hlt : i < sw.length := by omega
  have hm := hs.1
  obtain ⟨x0, x1, y0, y1, hxy⟩ := hsw sw[i] (List.getElem_mem hlt)
  obtain ⟨x, hx⟩ := Int.eq_ofNat_of_zero_le x0
  obtain ⟨y, hy⟩ := Int.eq_ofNat_of_zero_le y0
  have hxn : x < n := by omega
  have hyn : y < n := by omega
  have hL := bl_len n m
  have keep : ∀ (hE : st.testBit i = true → m.testBit x = m.testBit y), b = false → m = m0 ∧ Even sw st m0 (i + 1) := by
   intro hE hb
   obtain ⟨rfl, he⟩ := hf hb
   refine ⟨rfl, fun j hj hji hjb => ?_⟩
   by_cases h : j < i
   ·
    exact he j hj h hjb
   ·
    obtain rfl : j = i := by omega
    rw [hx, hy, Int.toNat_natCast, Int.toNat_natCast]
    exact hE hjb
  have rx := rd_bl (m := m) hxn
  have ry := rd_bl (m := m) hyn
  by_cases hbit : st.testBit i = true
  ·
   by_cases hxy2 : m.testBit x = m.testBit y
   ·
    obtain ⟨r, h1, h2⟩ := ih (i + 1) m b (by omega) hs (keep fun _ => hxy2) ht
    refine ⟨r, ?_, h2⟩
    refine Ev.step (fun k => by rw [dropperref05_from.l1]) ?_
    rw [rd_S69 sw i hlt, hx, hy, closed_f (by omega) (by omega), hbit, rx, ry, wrap_succ i (by omega), hL]
    exact ev_pos (by omega) (ev_pos (by omega) (ev_some (ev_pos rfl (ev_pos (by omega) (ev_pos (by omega) (ev_pos (by omega) (ev_pos (by omega) (ev_neg (by simp [hxy2]) h1))))))))
   ·
    have hor : m.testBit x = true ∨ m.testBit y = true := by
     cases hq1 : m.testBit x <;> cases hq2 : m.testBit y <;> simp [hq1, hq2] at hxy2 ⊢
    have ha : m &&& two x y ≠ two x y := fun e => by
     have := and_two_all.1 e
     exact hxy2 (this.1.trans this.2.symm)
    have hgt := or_gt ha
    have hm0 : m0 < m ||| two x y := by
     cases b with
     | true => have := ht rfl; omega
     | false => have := (hf rfl).1; omega
    obtain ⟨r, h1, h2⟩ := ih (i + 1) (m ||| two x y) true (by omega) (or_two_sound hs hlt hbit hx hy (by omega) (by omega) hor) (fun h => by cases h) (fun _ => hm0)
    refine ⟨r, ?_, h2⟩
    refine Ev.step (fun k => by rw [dropperref05_from.l1]) ?_
    rw [rd_S69 sw i hlt, hx, hy, closed_f (by omega) (by omega), hbit, rx, ry, wrap_succ i (by omega), hL, Int.toNat_natCast, Int.toNat_natCast, bl_set2 hxn hyn]
    exact ev_pos (by omega) (ev_pos (by omega) (ev_some (ev_pos rfl (ev_pos (by omega) (ev_pos (by omega) (ev_pos (by omega) (ev_pos (by omega) (ev_pos (by simpa using hxy2) h1))))))))
  ·
   obtain ⟨r, h1, h2⟩ := ih (i + 1) m b (by omega) hs (keep fun h => absurd h hbit) ht
   refine ⟨r, ?_, h2⟩
   refine Ev.step (fun k => by rw [dropperref05_from.l1]) ?_
   rw [closed_f (by omega) (by omega), wrap_succ i (by omega)]
   exact ev_pos (by omega) (ev_pos (by omega) (ev_some (ev_neg hbit h1)))
theorem from_l0 (n : Nat) (hn : n ≤ 8) (sw : List S69) (fe : List S71) (hsw : SwOk n sw) (hlen : sw.length ≤ 20) (st a : Nat) (hst : st < 2 ^ 20) :
  ∀ (q m : Nat), 256 - m ≤ q → Sound sw st a m → ∃ r, Ev (fun k => dropperref05_from.l0 k (st : Int) (bl n m) true (n : Int) sw fe) (bl n r) ∧ Group sw st a r := by
 intro q
 induction q with
 | zero => intro m hq hs; have := hs.1; omega
 | succ q ih =>
  intro m hq hs
  have hm := hs.1
  obtain ⟨r, h1, h2⟩ := from_l1 n hn sw fe hsw hlen st a hst m (fun m' hm' hs' => ih m' (by omega) hs') sw.length 0 m false (by omega) hs (fun _ => ⟨rfl, fun j hj hji => by omega⟩) (fun h => by cases h)
  refine ⟨r, ?_, h2⟩
  refine Ev.step (fun k => by rw [dropperref05_from.l0]) ?_
  exact ev_pos rfl h1
theorem from_ev (n : Nat) (hn : n ≤ 8) (sw : List S69) (fe : List S71) (hsw : SwOk n sw) (hlen : sw.length ≤ 20) (st a : Nat) (hst : st < 2 ^ 20) (ha : a < n) :
  ∃ r : Nat, Ev (fun k => dropperref05_from.f k (n : Int) sw fe (st : Int) (a : Int)) (bl n r) ∧ r < 256 ∧ ∀ j, r.testBit j = true ↔ Conn sw st a j := by
 have hs : Sound sw st a (1 <<< a) := by
  refine ⟨by rw [Nat.one_shiftLeft]; exact Nat.lt_of_lt_of_le (Nat.pow_lt_pow_right (by decide) (show a < 8 by omega)) (by decide), by rw [Nat.one_shiftLeft, Nat.testBit_two_pow]; simp, fun j hj => ?_⟩
  rw [Nat.one_shiftLeft, Nat.testBit_two_pow] at hj
  obtain rfl : a = j := by simpa using hj
  exact Conn.refl
 obtain ⟨r, h1, h2⟩ := from_l0 n hn sw fe hsw hlen st a hst 256 (1 <<< a) (Nat.sub_le _ _) hs
 refine ⟨r, ?_, h2.1.1, fun j => ⟨h2.1.2.2 j, fun h => conn_of_even h2.1 h2.2 h⟩⟩
 unfold dropperref05_from.f
 have e : (List.replicate n false).set a true = bl n (1 <<< a) := by
  apply List.ext_getElem
  ·
   simp [bl]
  ·
   intro i h1 h2
   simp only [bl, List.getElem_set, List.getElem_map, List.getElem_range, List.getElem_replicate, Nat.one_shiftLeft, Nat.testBit_two_pow]
   by_cases h : a = i <;> simp [h]
 have hL : (List.replicate n false).length = n := List.length_replicate
 rw [Int.toNat_natCast, Int.toNat_natCast]
 refine ev_pos (by omega) (ev_pos (by omega) (ev_some ?_))
 refine ev_pos (by omega) (ev_pos (by rw [hL]; omega) ?_)
 rw [e]
 exact h1

theorem mask_new {sw : List S69} {st : Nat} {i : Nat} : Mask sw st [] i 0 := ⟨by decide, fun p => by simp⟩
theorem lv_or : ∀ m : Nat, m < 16 → ∀ q : Nat, q < 4 → m.testBit 0 = false → 1 ≤ q → lv (m ||| 1 <<< q) = if lv m = 0 then (q : Int) else if lv m = q then lv m else -1 := by decide +kernel
theorem FeOk.take {n : Nat} {fe : List S71} (h : FeOk n fe) (q : Nat) : FeOk n (fe.take q) := fun f hf => h f (List.mem_of_mem_take hf)
def MarkAt (sw : List S69) (st : Nat) (fs : List S71) (i : Nat) (v : Int) : Prop := ∃ m, v = lv m ∧ Mask sw st fs i m
theorem rlive_l1 (n : Nat) (hn : n ≤ 8) (sw : List S69) (fe : List S71) (hfe : FeOk n fe) (hfl : fe.length ≤ 20) (st : Nat) (q : Nat) (hq : q < fe.length) (g : Nat) (hg : g < 256) (hgc : ∀ j, g.testBit j = true ↔ Conn sw st fe[q].f0.toNat j)
  (hend : ∀ l', Mark sw st n (fe.take (q + 1)) l' → ∃ r, Ev (fun k => dropperref05_live.l0 k (st : Int) l' ((q + 1 : Nat) : Int) (n : Int) sw fe) r ∧ Mark sw st n fe r) :
  ∀ (d i : Nat) (l : List Int), i + d = n → l.length = n → (∀ j, j < n → MarkAt sw st (if j < i then fe.take (q + 1) else fe.take q) j (rd l (j : Int))) →
  ∃ r, Ev (fun k => dropperref05_live.l1 k (st : Int) l (q : Int) (bl n g) (i : Int) (n : Int) sw fe) r ∧ Mark sw st n fe r := by
 have htk : fe.take (q + 1) = fe.take q ++ [fe[q]] := List.take_succ_eq_append_getElem hq
 obtain ⟨f0, f1, f2, f3⟩ := hfe fe[q] (List.getElem_mem hq)
 obtain ⟨p, hp⟩ := Int.eq_ofNat_of_zero_le (show 0 ≤ fe[q].f1 by omega)
 have hL := bl_len n g
 intro d
 induction d with
 | zero =>
  intro i l hi hl hm
  obtain rfl : i = n := by omega
  obtain ⟨r, h1, h2⟩ := hend l ⟨hl, fun j hj => by
   have h := hm j hj
   rw [if_pos hj] at h
   exact h⟩
  refine ⟨r, ?_, h2⟩
  refine Ev.step (fun k => by rw [dropperref05_live.l1]) ?_
  rw [wrap_succ q (by omega)]
  exact ev_neg (by omega) h1
 | succ d ih =>
  intro i l hi hl hm
  obtain ⟨m, e, h⟩ := hm i (by omega)
  rw [if_neg (by omega)] at h
  have hm16 := h.1
  have hm0 := mask_zero (n := n) (hfe.take q) h
  have rg := rd_bl (m := g) (show i < n by omega)
  have next : ∀ l' : List Int, l'.length = n → (∀ j, j < n → j ≠ i → rd l' (j : Int) = rd l (j : Int)) → MarkAt sw st (fe.take (q + 1)) i (rd l' (i : Int)) →
    ∃ r, Ev (fun k => dropperref05_live.l1 k (st : Int) l' (q : Int) (bl n g) ((i + 1 : Nat) : Int) (n : Int) sw fe) r ∧ Mark sw st n fe r := by
   intro l' hl' hne hat
   refine ih (i + 1) l' (by omega) hl' (fun j hj => ?_)
   by_cases hji : j = i
   ·
    subst hji; rw [if_pos (by omega)]; exact hat
   ·
    rw [hne j hj hji]
    have h' := hm j hj
    by_cases hlt : j < i
    ·
     rw [if_pos hlt] at h'; rw [if_pos (by omega)]; exact h'
    ·
     rw [if_neg hlt] at h'; rw [if_neg (by omega)]; exact h'
  by_cases hc : g.testBit i = true
  ·
   have hcc := (hgc i).1 hc
   have hmy := mask_yes h hcc hp (by omega)
   rw [← htk] at hmy
   have hlo := lv_or m hm16 p (by omega) hm0 (by omega)
   by_cases h0 : rd l (i : Int) = 0
   ·
    obtain ⟨r, h1, h2⟩ := next (l.set i (p : Int)) (by rw [List.length_set]; exact hl) (fun j hj hji => by rw [rd_set _ _ _ _ (by omega), if_neg hji]) ⟨m ||| 1 <<< p, by rw [rd_set _ _ _ _ (by omega), if_pos rfl, hlo, if_pos (by rw [← e]; exact h0)], hmy⟩
    refine ⟨r, ?_, h2⟩
    refine Ev.step (fun k => by rw [dropperref05_live.l1]) ?_
    rw [rd_S71 fe q hq, hp, rg, hc, wrap_succ i (by omega), hL, hl, Int.toNat_natCast]
    exact ev_pos (by omega) (ev_pos (by omega) (ev_pos (by omega) (ev_pos (by omega) (ev_pos (by omega) (ev_pos rfl (ev_pos (by omega) (ev_pos h0 h1)))))))
   ·
    by_cases h1p : rd l (i : Int) = (p : Int)
    ·
     obtain ⟨r, h1, h2⟩ := next l hl (fun j hj hji => rfl) ⟨m ||| 1 <<< p, by rw [hlo, ← e, if_neg h0, if_pos h1p], hmy⟩
     refine ⟨r, ?_, h2⟩
     refine Ev.step (fun k => by rw [dropperref05_live.l1]) ?_
     rw [rd_S71 fe q hq, hp, rg, hc, wrap_succ i (by omega), hL, hl]
     exact ev_pos (by omega) (ev_pos (by omega) (ev_pos (by omega) (ev_pos (by omega) (ev_pos (by omega) (ev_pos rfl (ev_pos (by omega) (ev_neg h0 (ev_pos h1p h1))))))))
    ·
     obtain ⟨r, h1, h2⟩ := next (l.set i (-1)) (by rw [List.length_set]; exact hl) (fun j hj hji => by rw [rd_set _ _ _ _ (by omega), if_neg hji]) ⟨m ||| 1 <<< p, by rw [rd_set _ _ _ _ (by omega), if_pos rfl, hlo, ← e, if_neg h0, if_neg h1p], hmy⟩
     refine ⟨r, ?_, h2⟩
     refine Ev.step (fun k => by rw [dropperref05_live.l1]) ?_
     rw [rd_S71 fe q hq, hp, rg, hc, wrap_succ i (by omega), hL, hl, Int.toNat_natCast]
     exact ev_pos (by omega) (ev_pos (by omega) (ev_pos (by omega) (ev_pos (by omega) (ev_pos (by omega) (ev_pos rfl (ev_pos (by omega) (ev_neg h0 (ev_neg h1p h1))))))))
  ·
   have hmn := mask_no h (fun hx => hc ((hgc i).2 hx))
   rw [← htk] at hmn
   obtain ⟨r, h1, h2⟩ := next l hl (fun j hj hji => rfl) ⟨m, e, hmn⟩
   refine ⟨r, ?_, h2⟩
   refine Ev.step (fun k => by rw [dropperref05_live.l1]) ?_
   rw [rg, wrap_succ i (by omega), hL, hl]
   exact ev_pos (by omega) (ev_pos (by omega) (ev_pos (by omega) (ev_pos (by omega) (ev_pos (by omega) (ev_neg hc h1)))))
theorem rlive_l0 (n : Nat) (hn : n ≤ 8) (sw : List S69) (hsw : SwOk n sw) (hlen : sw.length ≤ 20) (fe : List S71) (hfe : FeOk n fe) (hfl : fe.length ≤ 20) (st : Nat) (hst : st < 2 ^ 20) :
  ∀ (d q : Nat) (l : List Int), q + d = fe.length → Mark sw st n (fe.take q) l → ∃ r, Ev (fun k => dropperref05_live.l0 k (st : Int) l (q : Int) (n : Int) sw fe) r ∧ Mark sw st n fe r := by
 intro d
 induction d with
 | zero =>
  intro q l hq hl
  obtain rfl : q = fe.length := by omega
  rw [List.take_length] at hl
  refine ⟨l, ?_, hl⟩
  refine Ev.step (fun k => by rw [dropperref05_live.l0]) ?_
  exact ev_neg (by omega) (Ev.now _)
 | succ d ih =>
  intro q l hq hl
  have hlt : q < fe.length := by omega
  obtain ⟨f0, f1, f2, f3⟩ := hfe fe[q] (List.getElem_mem hlt)
  obtain ⟨g, hg1, hg2, hg3⟩ := from_ev n hn sw fe hsw hlen st fe[q].f0.toNat hst (by omega)
  rw [Int.toNat_of_nonneg f0] at hg1
  obtain ⟨r, h1, h2⟩ := rlive_l1 n hn sw fe hfe hfl st q hlt g hg2 hg3 (fun l' hl' => ih (q + 1) l' (by omega) hl') n 0 l (by omega) hl.1 (fun j hj => by rw [if_neg (by omega)]; exact hl.2 j hj)
  refine ⟨r, ?_, h2⟩
  refine Ev.step (fun k => by rw [dropperref05_live.l0]) ?_
  rw [rd_S71 fe q hlt]
  exact ev_pos (by omega) (ev_pos (by omega) (Ev.bind hg1 h1))
theorem rlive_ev (n : Nat) (hn : n ≤ 8) (sw : List S69) (hsw : SwOk n sw) (hlen : sw.length ≤ 20) (fe : List S71) (hfe : FeOk n fe) (hfl : fe.length ≤ 20) (st : Nat) (hst : st < 2 ^ 20) :
  ∃ r, Ev (fun k => dropperref05_live.f k (n : Int) sw fe (st : Int)) r ∧ Mark sw st n fe r := by
 obtain ⟨r, h1, h2⟩ := rlive_l0 n hn sw hsw hlen fe hfe hfl st hst fe.length 0 (List.replicate n 0) (by omega) ⟨List.length_replicate, fun i hi => ⟨0, by simp [rd, hi, lv, cn], mask_new⟩⟩
 refine ⟨r, ?_, h2⟩
 unfold dropperref05_live.f
 rw [Int.toNat_natCast]
 exact ev_pos (by omega) (ev_pos (by omega) h1)
theorem mark_unique {sw : List S69} {st n : Nat} {fe : List S71} {l l' : List Int} (h : Mark sw st n fe l) (h' : Mark sw st n fe l') : l = l' := by
 apply List.ext_getElem (h.1.trans h'.1.symm)
 intro i h1 h2
 obtain ⟨m, e, k⟩ := h.2 i (by have := h.1; omega)
 obtain ⟨m', e', k'⟩ := h'.2 i (by have := h.1; omega)
 obtain rfl := mask_unique k k'
 have e1 : rd l (i : Int) = l[i] := by simp [rd, List.getD_eq_getElem?_getD, h1]
 have e2 : rd l' (i : Int) = l'[i] := by simp [rd, List.getD_eq_getElem?_getD, h2]
 rw [← e1, ← e2, e, e']
theorem GridOk.swn {n : Nat} {sw : List S69} {fe : List S71} (h : GridOk (n : Int) sw fe) : SwOk n sw := fun s hs => by
 have := h.2.2.2.2.1 s hs
 unfold SwIs at *
 omega
theorem pow_le10 {n : Nat} {sw : List S69} {fe : List S71} (h : GridOk (n : Int) sw fe) : 2 ^ sw.length ≤ 2 ^ 10 := Nat.pow_le_pow_right (by decide) h.2.2.1
noncomputable def marks (sw : List S69) (st n : Nat) (fe : List S71) : List Int := open Classical in if h : ∃ l, Mark sw st n fe l then Classical.choose h else []
theorem marks_of {sw : List S69} {st n : Nat} {fe : List S71} {l : List Int} (h : Mark sw st n fe l) : marks sw st n fe = l := by
 have hx : ∃ l, Mark sw st n fe l := ⟨l, h⟩
 unfold marks
 rw [dif_pos hx]
 exact mark_unique (Classical.choose_spec hx) h
section
variable {n : Nat} {sw : List S69} {fe : List S71} (h : GridOk (n : Int) sw fe) {st : Nat} (hst : st < 2 ^ sw.length)
include h hst
theorem marks_mark : Mark sw st n fe (marks sw st n fe) := by
 have hp := pow_le10 h
 obtain ⟨r, h1, h2⟩ := rlive_ev n (by have := h.2.1; omega) sw h.swn (by have := h.2.2.1; omega) fe h.fe (by have := h.2.2.2.1; omega) st (by omega)
 rw [marks_of h2]; exact h2
theorem rlive_val : Ev (fun k => dropperref05_live.f k (n : Int) sw fe (st : Int)) (marks sw st n fe) := by
 have hp := pow_le10 h
 obtain ⟨r, h1, h2⟩ := rlive_ev n (by have := h.2.1; omega) sw h.swn (by have := h.2.2.1; omega) fe h.fe (by have := h.2.2.2.1; omega) st (by omega)
 rw [marks_of h2]; exact h1
theorem live_val : Ev (fun k => feed_grid_live.f k (n : Int) sw fe (st : Int)) (marks sw st n fe) := by
 have hp := pow_le10 h
 obtain ⟨r, h1, h2⟩ := live_ev n (by have := h.2.1; omega) sw h.sw8 (by have := h.2.2.1; omega) fe h.fe (by have := h.2.2.2.1; omega) st (by omega)
 rw [marks_of h2]; exact h1
theorem marks_len : (marks sw st n fe).length = n := (marks_mark h hst).1
theorem marks_ge : ∀ v ∈ marks sw st n fe, -1 ≤ v ∧ v ≤ 3 := by
 intro v hv
 obtain ⟨i, hi, rfl⟩ := List.mem_iff_getElem.1 hv
 obtain ⟨m, e, k⟩ := (marks_mark h hst).2 i (by have := marks_len h hst; omega)
 have e1 : rd (marks sw st n fe) (i : Int) = (marks sw st n fe)[i] := by simp [rd, List.getD_eq_getElem?_getD, hi]
 rw [← e1, e]
 have : ∀ m : Nat, m < 16 → -1 ≤ lv m ∧ lv m ≤ 3 := by decide +kernel
 exact this m k.1
open Classical in
theorem right_val : Ev (fun k => feed_grid_right.f k (n : Int) sw fe (st : Int)) (!decide ((-1 : Int) ∈ marks sw st n fe)) := by
 unfold feed_grid_right.f
 have hl := marks_len h hst
 have hn := h.2.1
 refine Ev.bind (live_val h hst) ?_
 refine Ev.bind (contains_ev _ (by omega) (-1)) ?_
 exact ev_const (by first | rfl | (congr 1; rw [Bool.eq_iff_iff]; simp))
end
end Go.Proofs.YtoilhnmdemnknaaDoor.Plain

/- The exported functions of the program and of the document's answer, by the marks of the sections. -/
namespace Go.Proofs.YtoilhnmdemnknaaDoor.Plain
set_option linter.unusedVariables false
set_option linter.unusedSimpArgs false
open Go.RowKit Go.Proofs.YtoilhnmdemnknaaDoor.XFeed Go.Proofs.YtoilhnmdemnknaaDoorW.PrintWords Go.Proofs.YtoilhnmdemnknaaDoorW.PrintLast Go.Proofs.YtoilhnmdemnknaaDoorW.PrintMore
open Classical

theorem shl_one (n : Nat) (h : n ≤ 20) : shl .i64 1 (n : Int) = ((2 ^ n : Nat) : Int) := by
 have : 2 ^ n ≤ 2 ^ 20 := Nat.pow_le_pow_right (by decide) h
 rw [show (1 : Int) = ((1 : Nat) : Int) from rfl, shl_i (by omega) (by omega), Nat.one_shiftLeft]
theorem large_f (N : Int) (sw : List S69) (fe : List S71) (l : List Int) :
  dropperlaw05_Large.f N sw fe l = some (decide (20 < sw.length ∨ 20 < fe.length ∨ 1100 < l.length)) := by
 unfold dropperlaw05_Large.f
 by_cases h1 : (sw.length : Int) > 20
 ·
  rw [if_pos h1, decide_eq_true (by omega)]
 rw [if_neg h1]
 by_cases h2 : (fe.length : Int) > 20
 ·
  rw [if_pos h2, decide_eq_true (by omega)]
 rw [if_neg h2]
 congr 1
 rw [decide_eq_decide]
 omega
theorem same_l0 (l : List Int) (hl : l.length ≤ 4000000000000000000) : ∀ (d i : Nat), i + d = l.length → Ev (fun k => dropperlaw05_SameInts.l0 k l l (i : Int)) true := by
 intro d
 induction d with
 | zero =>
  intro i hi
  refine Ev.step (fun k => by rw [dropperlaw05_SameInts.l0]) ?_
  exact ev_neg (by omega) (Ev.now _)
 | succ d ih =>
  intro i hi
  refine Ev.step (fun k => by rw [dropperlaw05_SameInts.l0]) ?_
  rw [wrap_succ i (by omega)]
  exact ev_pos (by omega) (ev_pos (by omega) (ev_pos (by omega) (ev_pos rfl (ih (i + 1) (by omega)))))
theorem same_ev (l : List Int) (hl : l.length ≤ 4000000000000000000) : Ev (fun k => dropperlaw05_SameInts.f k l l) true := by
 unfold dropperlaw05_SameInts.f
 exact ev_pos rfl (same_l0 l hl l.length 0 (by omega))
noncomputable def rightB (sw : List S69) (st n : Nat) (fe : List S71) : Bool := !decide ((-1 : Int) ∈ marks sw st n fe)
theorem rd_get {l : List Int} {i : Nat} (h : i < l.length) : rd l (i : Int) = l[i] := by simp [rd, List.getD_eq_getElem?_getD, h]
theorem rright_l0 (n : Nat) (sw : List S69) (fe : List S71) (l : List Int) (hl : l.length = n) (hn : n ≤ 8) (hb : ∀ v ∈ l, -1 ≤ v) : ∀ (d i : Nat), i + d = n → (∀ j (h : j < l.length), j < i → l[j] ≠ -1) →
  Ev (fun k => dropperref05_right.l0 k l (i : Int) (n : Int) sw fe) (!decide ((-1 : Int) ∈ l)) := by
 intro d
 induction d with
 | zero =>
  intro i hi h
  refine Ev.step (fun k => by rw [dropperref05_right.l0]) ?_
  refine ev_neg (by omega) (ev_const (congrArg some ?_))
  rw [decide_eq_false]; rfl
  intro hm
  obtain ⟨j, hj, e⟩ := List.mem_iff_getElem.1 hm
  exact h j hj (by omega) e
 | succ d ih =>
  intro i hi h
  have hlt : i < l.length := by omega
  refine Ev.step (fun k => by rw [dropperref05_right.l0]) ?_
  rw [rd_get hlt, wrap_succ i (by omega), hl]
  refine ev_pos (by omega) (ev_pos (by omega) (ev_pos (by omega) ?_))
  have hv := hb _ (List.getElem_mem hlt)
  by_cases h0 : l[i] < 0
  ·
   refine ev_pos h0 (ev_const (congrArg some ?_))
   have e : l[i] = -1 := by omega
   rw [decide_eq_true]; rfl
   rw [← e]; exact List.getElem_mem hlt
  ·
   refine ev_neg h0 (ih (i + 1) (by omega) (fun j hj hji => ?_))
   by_cases hji' : j < i
   ·
    exact h j hj hji'
   ·
    obtain rfl : j = i := by omega
    omega
section
variable {n : Nat} {sw : List S69} {fe : List S71} (h : GridOk (n : Int) sw fe) {st : Nat} (hst : st < 2 ^ sw.length)
include h hst
theorem rightB_val : Ev (fun k => feed_grid_right.f k (n : Int) sw fe (st : Int)) (rightB sw st n fe) := right_val h hst
theorem rrightB_val : Ev (fun k => dropperref05_right.f k (n : Int) sw fe (st : Int)) (rightB sw st n fe) := by
 unfold dropperref05_right.f
 have hn := h.2.1
 exact Ev.bind (rlive_val h hst) (rright_l0 n sw fe _ (marks_len h hst) (by omega) (fun v hv => (marks_ge h hst v hv).1) n 0 (by omega) (fun j hj hj0 => by omega))
end
end Go.Proofs.YtoilhnmdemnknaaDoor.Plain

/- Isolations: which lists are some, and the fewest. -/
namespace Go.Proofs.YtoilhnmdemnknaaDoor.Plain
set_option linter.unusedVariables false
set_option linter.unusedSimpArgs false
open Go.RowKit Go.Proofs.YtoilhnmdemnknaaDoor.XFeed Go.Proofs.YtoilhnmdemnknaaDoorW.PrintWords Go.Proofs.YtoilhnmdemnknaaDoorW.PrintLast Go.Proofs.YtoilhnmdemnknaaDoorW.PrintMore
open Classical

/-! what is left of a number without the bits of another one -/
theorem gb {x i : Nat} (hi : i < 64) : (BitVec.ofNat 64 x)[i] = x.testBit i := by
 rw [← BitVec.getLsbD_eq_getElem, BitVec.getLsbD_ofNat]; simp [hi]
/-! a section is dead -/
theorem lv_zero : ∀ m : Nat, m < 16 → m.testBit 0 = false → (lv m = 0 ↔ m = 0) := by decide +kernel
section
variable {n : Nat} {sw : List S69} {fe : List S71} (h : GridOk (n : Int) sw fe) {st : Nat} (hst : st < 2 ^ sw.length)
include h hst
end

/-! the lists -/
def before (l : List Int) (i : Nat) : Int := if i = 0 then -1 else rd l ((i - 1 : Nat) : Int)
section
variable {n : Nat} {sw : List S69} {fe : List S71} (h : GridOk (n : Int) sw fe) {st : Nat} (hst : st < 2 ^ sw.length) {sec : Nat} (hsec : sec < n) (l : List Int) (hl : l.length ≤ 4000000000000000000)
include h hst hsec hl
end
/-! the error of a grid, a state and a section -/
theorem bad_iff {N : Int} (h1 : 1 ≤ N) (h2 : N ≤ 8) (x : Int) : feed_grid_section.bad N x = !decide (0 ≤ x ∧ x < N) := by
 unfold feed_grid_section.bad
 rw [wrap_id (by omega) (by omega), Bool.eq_iff_iff]
 simp; omega
end Go.Proofs.YtoilhnmdemnknaaDoor.Plain
