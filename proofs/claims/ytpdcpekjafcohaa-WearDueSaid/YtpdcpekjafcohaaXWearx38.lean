-- Written by wip/xprint.py of this repo, over the kit's print.py: out of the translation; the oracles in it are by hand. Not trusted: Lean checks it.
import Derived.Test.YtpdcpekjafcohaaXWearx0
import Derived.Test.YtpdcpekjafcohaaXWearx8
import Derived.Test.YtpdcpekjafcohaaXWearx9
import Derived.Test.YtpdcpekjafcohaaXWearx17
import Derived.Test.YtpdcpekjafcohaaXWearx27
namespace Go.Proofs.Ytpdcpekjafcohaa.XWear
open Go.RowKit Go.Proofs.YtpdcpekjafcohaaW.PrintWords Go.Proofs.YtpdcpekjafcohaaW.PrintLast Go.Proofs.YtpdcpekjafcohaaW.PrintMore
attribute [local go_sem] max2_int min2_int max_two min_two max_three min_three max_four min_four   -- for this text's walks alone
set_option linter.unusedVariables false
set_option linter.unusedSimpArgs false

/-! ### dropperlaw07_WearDue: function 8 -/
mutual
def dropperlaw07_WearDue.j0 : Nat → Int → Int → List Int → Bool → Option (Bool)
  | 0, _, _, _, _ => none
  | k + 1, x7, x8, x11, x80 => if x80 = true then (some false) else (if x8 = 0 then (dropperlaw07_WearDue.l0 k x7 x11 false 0) else ((dropperlaw07_First.f k).bind fun t552 => (some t552)))
def dropperlaw07_WearDue.l0 : Nat → Int → List Int → Bool → Int → Option (Bool)
  | 0, _, _, _, _ => none
  | k + 1, x7, x11, x13, x14 => if x14 < (x11.length : Int) then (if x13 = true then (dropperlaw07_WearDue.l0 k x7 x11 true (wrap64 (x14 + 1))) else (if 0 ≤ x14 then (dropperlaw07_WearDue.l0 k x7 x11 ((rd x11 x14) == x7) (wrap64 (x14 + 1))) else (none))) else (if x13 = true then ((dropperlaw07_First.f k).bind fun t554 => (some t554)) else (some false))
end
def dropperlaw07_WearDue.f (k : Nat) (l0 : List Int) (a1_0 : Int) (a1_1 : Int) : Option (Bool) := (dropperref07_Valid.f k l0).bind fun t542 => (if t542 = true then ((wear_Due.f k l0 (mn (Int.tmod (wrap64 (a1_0)) 10001) (Int.tmod (wrap64 (a1_1)) 10001))).bind fun bt544 => ((wear_Due.f k l0 (mx (Int.tmod (wrap64 (a1_0)) 10001) (Int.tmod (wrap64 (a1_1)) 10001))).bind fun bt546 => ((wear_Blocks.f k l0).bind fun bt548 => (if bt544.2 = 0 then (if bt546.2 = 0 then (if bt548.2 = 0 then (dropperlaw07_WearDue.j0 k bt544.1 bt544.2 bt548.1 (decide (bt546.1 < bt544.1))) else (dropperlaw07_WearDue.j0 k bt544.1 bt544.2 bt548.1 true)) else (if bt546.2 = 5 then (if bt548.2 = 0 then (dropperlaw07_WearDue.j0 k bt544.1 bt544.2 bt548.1 false) else (dropperlaw07_WearDue.j0 k bt544.1 bt544.2 bt548.1 true)) else (dropperlaw07_WearDue.j0 k bt544.1 bt544.2 bt548.1 true))) else (if bt544.2 = 5 then (if bt546.2 = 0 then (if bt548.2 = 0 then (dropperlaw07_WearDue.j0 k bt544.1 bt544.2 bt548.1 true) else (dropperlaw07_WearDue.j0 k bt544.1 bt544.2 bt548.1 true)) else (if bt546.2 = 5 then (if bt548.2 = 0 then (dropperlaw07_WearDue.j0 k bt544.1 bt544.2 bt548.1 false) else (dropperlaw07_WearDue.j0 k bt544.1 bt544.2 bt548.1 true)) else (dropperlaw07_WearDue.j0 k bt544.1 bt544.2 bt548.1 true))) else (dropperlaw07_WearDue.j0 k bt544.1 bt544.2 bt548.1 true)))))) else ((dropperlaw07_First.f k).bind fun t543 => (some t543)))
theorem dropperlaw07_WearDue.mono_l : ∀ k, (∀ y0 y1 y2 y3, LeO (dropperlaw07_WearDue.j0 k y0 y1 y2 y3) (dropperlaw07_WearDue.j0 (k + 1) y0 y1 y2 y3)) ∧ (∀ y0 y1 y2 y3, LeO (dropperlaw07_WearDue.l0 k y0 y1 y2 y3) (dropperlaw07_WearDue.l0 (k + 1) y0 y1 y2 y3))
  | 0 => ⟨fun _ _ _ _ r h => by simp [dropperlaw07_WearDue.j0] at h, fun _ _ _ _ r h => by simp [dropperlaw07_WearDue.l0] at h⟩
  | k + 1 => by
    obtain ⟨ih0, ih1⟩ := dropperlaw07_WearDue.mono_l k
    refine ⟨?_, ?_⟩
    · intro y0 y1 y2 y3
      unfold dropperlaw07_WearDue.j0
      repeat' first
      | (with_reducible exact ih0 _ _ _ _)
      | (with_reducible exact ih1 _ _ _ _)
      | (with_reducible exact dropperlaw07_First.mono _)
      | (with_reducible exact dropperref07_Valid.mono _ _)
      | (with_reducible exact wear_Blocks.mono _ _)
      | (with_reducible exact wear_Due.mono _ _ _)
      | (with_reducible exact LeO.refl _)
      | (with_reducible exact LeO.none _)
      | (with_reducible refine LeO.ite ?_ ?_)
      | (with_reducible refine LeO.bind ?_ (fun _ => ?_))
      | exact ih0 _ _ _ _
      | exact ih1 _ _ _ _
      | exact dropperlaw07_First.mono _
      | exact dropperref07_Valid.mono _ _
      | exact wear_Blocks.mono _ _
      | exact wear_Due.mono _ _ _
      | exact LeO.none _
      | refine LeO.ite ?_ ?_
      | refine LeO.bind ?_ (fun _ => ?_)
    · intro y0 y1 y2 y3
      unfold dropperlaw07_WearDue.l0
      repeat' first
      | (with_reducible exact ih0 _ _ _ _)
      | (with_reducible exact ih1 _ _ _ _)
      | (with_reducible exact dropperlaw07_First.mono _)
      | (with_reducible exact dropperref07_Valid.mono _ _)
      | (with_reducible exact wear_Blocks.mono _ _)
      | (with_reducible exact wear_Due.mono _ _ _)
      | (with_reducible exact LeO.refl _)
      | (with_reducible exact LeO.none _)
      | (with_reducible refine LeO.ite ?_ ?_)
      | (with_reducible refine LeO.bind ?_ (fun _ => ?_))
      | exact ih0 _ _ _ _
      | exact ih1 _ _ _ _
      | exact dropperlaw07_First.mono _
      | exact dropperref07_Valid.mono _ _
      | exact wear_Blocks.mono _ _
      | exact wear_Due.mono _ _ _
      | exact LeO.none _
      | refine LeO.ite ?_ ?_
      | refine LeO.bind ?_ (fun _ => ?_)
theorem dropperlaw07_WearDue.mono : ∀ a0 a1 a2 k, LeO (dropperlaw07_WearDue.f k a0 a1 a2) (dropperlaw07_WearDue.f (k + 1) a0 a1 a2) := by
  intro a0 a1 a2 k
  obtain ⟨ih0, ih1⟩ := dropperlaw07_WearDue.mono_l k
  unfold dropperlaw07_WearDue.f
  repeat' first
      | (with_reducible exact ih0 _ _ _ _)
      | (with_reducible exact ih1 _ _ _ _)
      | (with_reducible exact dropperlaw07_First.mono _)
      | (with_reducible exact dropperref07_Valid.mono _ _)
      | (with_reducible exact wear_Blocks.mono _ _)
      | (with_reducible exact wear_Due.mono _ _ _)
      | (with_reducible exact LeO.refl _)
      | (with_reducible exact LeO.none _)
      | (with_reducible refine LeO.ite ?_ ?_)
      | (with_reducible refine LeO.bind ?_ (fun _ => ?_))
      | exact ih0 _ _ _ _
      | exact ih1 _ _ _ _
      | exact dropperlaw07_First.mono _
      | exact dropperref07_Valid.mono _ _
      | exact wear_Blocks.mono _ _
      | exact wear_Due.mono _ _ _
      | exact LeO.none _
      | refine LeO.ite ?_ ?_
      | refine LeO.bind ?_ (fun _ => ?_)
set_option maxHeartbeats 8000000 in
set_option maxRecDepth 100000 in
theorem dropperlaw07_WearDue.calls (k : Nat) (A0 : Option Addr) (c0 : Nat) (l0 : List Int) (a1_0 : Int) (a1_1 : Int) (r : Bool) (w : World) (hr0 : Kd.C (Kd.int .i64) w A0 l0.length l0) (hc0 : l0.length ≤ c0) (h : dropperlaw07_WearDue.f k l0 a1_0 a1_1 = some r) :
    Calls Try.prog 8 #[.slice A0 l0.length c0, .agg #[.int .u16 a1_0, .int .u16 a1_1]] w fun e w' => e = .returned (.bool r) ∧ Below w.heap.size w w' := by
  have hu42 := Try.underlying42
  have HR0 := Aside0.mk hr0
  have HC0 := Aside0.mk hc0
  clear hr0 hc0
  have HB := Aside0.mk (Below.refl w.heap.size w)
  have H : ((dropperref07_Valid.f k l0).bind fun t542 => (if t542 = true then ((wear_Due.f k l0 (mn (Int.tmod (wrap64 (a1_0)) 10001) (Int.tmod (wrap64 (a1_1)) 10001))).bind fun bt544 => ((wear_Due.f k l0 (mx (Int.tmod (wrap64 (a1_0)) 10001) (Int.tmod (wrap64 (a1_1)) 10001))).bind fun bt546 => ((wear_Blocks.f k l0).bind fun bt548 => (if bt544.2 = 0 then (if bt546.2 = 0 then (if bt548.2 = 0 then (dropperlaw07_WearDue.j0 k bt544.1 bt544.2 bt548.1 (decide (bt546.1 < bt544.1))) else (dropperlaw07_WearDue.j0 k bt544.1 bt544.2 bt548.1 true)) else (if bt546.2 = 5 then (if bt548.2 = 0 then (dropperlaw07_WearDue.j0 k bt544.1 bt544.2 bt548.1 false) else (dropperlaw07_WearDue.j0 k bt544.1 bt544.2 bt548.1 true)) else (dropperlaw07_WearDue.j0 k bt544.1 bt544.2 bt548.1 true))) else (if bt544.2 = 5 then (if bt546.2 = 0 then (if bt548.2 = 0 then (dropperlaw07_WearDue.j0 k bt544.1 bt544.2 bt548.1 true) else (dropperlaw07_WearDue.j0 k bt544.1 bt544.2 bt548.1 true)) else (if bt546.2 = 5 then (if bt548.2 = 0 then (dropperlaw07_WearDue.j0 k bt544.1 bt544.2 bt548.1 false) else (dropperlaw07_WearDue.j0 k bt544.1 bt544.2 bt548.1 true)) else (dropperlaw07_WearDue.j0 k bt544.1 bt544.2 bt548.1 true))) else (dropperlaw07_WearDue.j0 k bt544.1 bt544.2 bt548.1 true)))))) else ((dropperlaw07_First.f k).bind fun t543 => (some t543)))) = some r := h
  clear h
  replace H := Option.bind_eq_some_iff.mp H
  obtain ⟨t542, A30, H⟩ := H
  replace H : (if t542 = true then ((wear_Due.f k l0 (mn (Int.tmod (wrap64 (a1_0)) 10001) (Int.tmod (wrap64 (a1_1)) 10001))).bind fun bt544 => ((wear_Due.f k l0 (mx (Int.tmod (wrap64 (a1_0)) 10001) (Int.tmod (wrap64 (a1_1)) 10001))).bind fun bt546 => ((wear_Blocks.f k l0).bind fun bt548 => (if bt544.2 = 0 then (if bt546.2 = 0 then (if bt548.2 = 0 then (dropperlaw07_WearDue.j0 k bt544.1 bt544.2 bt548.1 (decide (bt546.1 < bt544.1))) else (dropperlaw07_WearDue.j0 k bt544.1 bt544.2 bt548.1 true)) else (if bt546.2 = 5 then (if bt548.2 = 0 then (dropperlaw07_WearDue.j0 k bt544.1 bt544.2 bt548.1 false) else (dropperlaw07_WearDue.j0 k bt544.1 bt544.2 bt548.1 true)) else (dropperlaw07_WearDue.j0 k bt544.1 bt544.2 bt548.1 true))) else (if bt544.2 = 5 then (if bt546.2 = 0 then (if bt548.2 = 0 then (dropperlaw07_WearDue.j0 k bt544.1 bt544.2 bt548.1 true) else (dropperlaw07_WearDue.j0 k bt544.1 bt544.2 bt548.1 true)) else (if bt546.2 = 5 then (if bt548.2 = 0 then (dropperlaw07_WearDue.j0 k bt544.1 bt544.2 bt548.1 false) else (dropperlaw07_WearDue.j0 k bt544.1 bt544.2 bt548.1 true)) else (dropperlaw07_WearDue.j0 k bt544.1 bt544.2 bt548.1 true))) else (dropperlaw07_WearDue.j0 k bt544.1 bt544.2 bt548.1 true)))))) else ((dropperlaw07_First.f k).bind fun t543 => (some t543))) = some r := H
  have A3 := Aside0.mk A30
  clear A30
  by_cases c4 : t542 = true
  · subst c4
    have H1 : ((wear_Due.f k l0 (mn (Int.tmod (wrap64 (a1_0)) 10001) (Int.tmod (wrap64 (a1_1)) 10001))).bind fun bt544 => ((wear_Due.f k l0 (mx (Int.tmod (wrap64 (a1_0)) 10001) (Int.tmod (wrap64 (a1_1)) 10001))).bind fun bt546 => ((wear_Blocks.f k l0).bind fun bt548 => (if bt544.2 = 0 then (if bt546.2 = 0 then (if bt548.2 = 0 then (dropperlaw07_WearDue.j0 k bt544.1 bt544.2 bt548.1 (decide (bt546.1 < bt544.1))) else (dropperlaw07_WearDue.j0 k bt544.1 bt544.2 bt548.1 true)) else (if bt546.2 = 5 then (if bt548.2 = 0 then (dropperlaw07_WearDue.j0 k bt544.1 bt544.2 bt548.1 false) else (dropperlaw07_WearDue.j0 k bt544.1 bt544.2 bt548.1 true)) else (dropperlaw07_WearDue.j0 k bt544.1 bt544.2 bt548.1 true))) else (if bt544.2 = 5 then (if bt546.2 = 0 then (if bt548.2 = 0 then (dropperlaw07_WearDue.j0 k bt544.1 bt544.2 bt548.1 true) else (dropperlaw07_WearDue.j0 k bt544.1 bt544.2 bt548.1 true)) else (if bt546.2 = 5 then (if bt548.2 = 0 then (dropperlaw07_WearDue.j0 k bt544.1 bt544.2 bt548.1 false) else (dropperlaw07_WearDue.j0 k bt544.1 bt544.2 bt548.1 true)) else (dropperlaw07_WearDue.j0 k bt544.1 bt544.2 bt548.1 true))) else (dropperlaw07_WearDue.j0 k bt544.1 bt544.2 bt548.1 true)))))) = some r := by rw [if_pos rfl] at H; exact H
    clear H
    have H := H1
    clear H1
    obtain ⟨ji5, hji5⟩ : ∃ j_ : Int, (mn (Int.tmod (wrap64 (a1_0)) 10001) (Int.tmod (wrap64 (a1_1)) 10001)) = j_ := ⟨_, rfl⟩
    replace H : ((wear_Due.f k l0 (ji5)).bind fun bt544 => ((wear_Due.f k l0 (mx (Int.tmod (wrap64 (a1_0)) 10001) (Int.tmod (wrap64 (a1_1)) 10001))).bind fun bt546 => ((wear_Blocks.f k l0).bind fun bt548 => (if bt544.2 = 0 then (if bt546.2 = 0 then (if bt548.2 = 0 then (dropperlaw07_WearDue.j0 k bt544.1 bt544.2 bt548.1 (decide (bt546.1 < bt544.1))) else (dropperlaw07_WearDue.j0 k bt544.1 bt544.2 bt548.1 true)) else (if bt546.2 = 5 then (if bt548.2 = 0 then (dropperlaw07_WearDue.j0 k bt544.1 bt544.2 bt548.1 false) else (dropperlaw07_WearDue.j0 k bt544.1 bt544.2 bt548.1 true)) else (dropperlaw07_WearDue.j0 k bt544.1 bt544.2 bt548.1 true))) else (if bt544.2 = 5 then (if bt546.2 = 0 then (if bt548.2 = 0 then (dropperlaw07_WearDue.j0 k bt544.1 bt544.2 bt548.1 true) else (dropperlaw07_WearDue.j0 k bt544.1 bt544.2 bt548.1 true)) else (if bt546.2 = 5 then (if bt548.2 = 0 then (dropperlaw07_WearDue.j0 k bt544.1 bt544.2 bt548.1 false) else (dropperlaw07_WearDue.j0 k bt544.1 bt544.2 bt548.1 true)) else (dropperlaw07_WearDue.j0 k bt544.1 bt544.2 bt548.1 true))) else (dropperlaw07_WearDue.j0 k bt544.1 bt544.2 bt548.1 true)))))) = some r := by first | (rw [hji5] at H; exact H) | (simp only [hji5] at H ⊢; exact H)
    (try rw [hji5] at A3)
    have hji5_ : (if (Int.tmod (wrap64 (a1_1)) 10001) < (Int.tmod (wrap64 (a1_0)) 10001) then (Int.tmod (wrap64 (a1_1)) 10001) else (Int.tmod (wrap64 (a1_0)) 10001)) = ji5 := hji5
    obtain ⟨ji6, hji6⟩ : ∃ j_ : Int, (mx (Int.tmod (wrap64 (a1_0)) 10001) (Int.tmod (wrap64 (a1_1)) 10001)) = j_ := ⟨_, rfl⟩
    replace H : ((wear_Due.f k l0 (ji5)).bind fun bt544 => ((wear_Due.f k l0 (ji6)).bind fun bt546 => ((wear_Blocks.f k l0).bind fun bt548 => (if bt544.2 = 0 then (if bt546.2 = 0 then (if bt548.2 = 0 then (dropperlaw07_WearDue.j0 k bt544.1 bt544.2 bt548.1 (decide (bt546.1 < bt544.1))) else (dropperlaw07_WearDue.j0 k bt544.1 bt544.2 bt548.1 true)) else (if bt546.2 = 5 then (if bt548.2 = 0 then (dropperlaw07_WearDue.j0 k bt544.1 bt544.2 bt548.1 false) else (dropperlaw07_WearDue.j0 k bt544.1 bt544.2 bt548.1 true)) else (dropperlaw07_WearDue.j0 k bt544.1 bt544.2 bt548.1 true))) else (if bt544.2 = 5 then (if bt546.2 = 0 then (if bt548.2 = 0 then (dropperlaw07_WearDue.j0 k bt544.1 bt544.2 bt548.1 true) else (dropperlaw07_WearDue.j0 k bt544.1 bt544.2 bt548.1 true)) else (if bt546.2 = 5 then (if bt548.2 = 0 then (dropperlaw07_WearDue.j0 k bt544.1 bt544.2 bt548.1 false) else (dropperlaw07_WearDue.j0 k bt544.1 bt544.2 bt548.1 true)) else (dropperlaw07_WearDue.j0 k bt544.1 bt544.2 bt548.1 true))) else (dropperlaw07_WearDue.j0 k bt544.1 bt544.2 bt548.1 true)))))) = some r := by first | (rw [hji6] at H; exact H) | (simp only [hji6] at H ⊢; exact H)
    (try rw [hji6] at A3)
    have hji6_ : (if (Int.tmod (wrap64 (a1_0)) 10001) < (Int.tmod (wrap64 (a1_1)) 10001) then (Int.tmod (wrap64 (a1_1)) 10001) else (Int.tmod (wrap64 (a1_0)) 10001)) = ji6 := hji6
    replace H := Option.bind_eq_some_iff.mp H
    obtain ⟨⟨t544, t545⟩, A70, H⟩ := H
    replace H : ((wear_Due.f k l0 (ji6)).bind fun bt546 => ((wear_Blocks.f k l0).bind fun bt548 => (if t545 = 0 then (if bt546.2 = 0 then (if bt548.2 = 0 then (dropperlaw07_WearDue.j0 k t544 t545 bt548.1 (decide (bt546.1 < t544))) else (dropperlaw07_WearDue.j0 k t544 t545 bt548.1 true)) else (if bt546.2 = 5 then (if bt548.2 = 0 then (dropperlaw07_WearDue.j0 k t544 t545 bt548.1 false) else (dropperlaw07_WearDue.j0 k t544 t545 bt548.1 true)) else (dropperlaw07_WearDue.j0 k t544 t545 bt548.1 true))) else (if t545 = 5 then (if bt546.2 = 0 then (if bt548.2 = 0 then (dropperlaw07_WearDue.j0 k t544 t545 bt548.1 true) else (dropperlaw07_WearDue.j0 k t544 t545 bt548.1 true)) else (if bt546.2 = 5 then (if bt548.2 = 0 then (dropperlaw07_WearDue.j0 k t544 t545 bt548.1 false) else (dropperlaw07_WearDue.j0 k t544 t545 bt548.1 true)) else (dropperlaw07_WearDue.j0 k t544 t545 bt548.1 true))) else (dropperlaw07_WearDue.j0 k t544 t545 bt548.1 true))))) = some r := H
    have A7 := Aside0.mk A70
    clear A70
    replace H := Option.bind_eq_some_iff.mp H
    obtain ⟨⟨t546, t547⟩, A80, H⟩ := H
    replace H : ((wear_Blocks.f k l0).bind fun bt548 => (if t545 = 0 then (if t547 = 0 then (if bt548.2 = 0 then (dropperlaw07_WearDue.j0 k t544 t545 bt548.1 (decide (t546 < t544))) else (dropperlaw07_WearDue.j0 k t544 t545 bt548.1 true)) else (if t547 = 5 then (if bt548.2 = 0 then (dropperlaw07_WearDue.j0 k t544 t545 bt548.1 false) else (dropperlaw07_WearDue.j0 k t544 t545 bt548.1 true)) else (dropperlaw07_WearDue.j0 k t544 t545 bt548.1 true))) else (if t545 = 5 then (if t547 = 0 then (if bt548.2 = 0 then (dropperlaw07_WearDue.j0 k t544 t545 bt548.1 true) else (dropperlaw07_WearDue.j0 k t544 t545 bt548.1 true)) else (if t547 = 5 then (if bt548.2 = 0 then (dropperlaw07_WearDue.j0 k t544 t545 bt548.1 false) else (dropperlaw07_WearDue.j0 k t544 t545 bt548.1 true)) else (dropperlaw07_WearDue.j0 k t544 t545 bt548.1 true))) else (dropperlaw07_WearDue.j0 k t544 t545 bt548.1 true)))) = some r := H
    have A8 := Aside0.mk A80
    clear A80
    replace H := Option.bind_eq_some_iff.mp H
    obtain ⟨⟨t548, t549⟩, A90, H⟩ := H
    replace H : (if t545 = 0 then (if t547 = 0 then (if t549 = 0 then (dropperlaw07_WearDue.j0 k t544 t545 t548 (decide (t546 < t544))) else (dropperlaw07_WearDue.j0 k t544 t545 t548 true)) else (if t547 = 5 then (if t549 = 0 then (dropperlaw07_WearDue.j0 k t544 t545 t548 false) else (dropperlaw07_WearDue.j0 k t544 t545 t548 true)) else (dropperlaw07_WearDue.j0 k t544 t545 t548 true))) else (if t545 = 5 then (if t547 = 0 then (if t549 = 0 then (dropperlaw07_WearDue.j0 k t544 t545 t548 true) else (dropperlaw07_WearDue.j0 k t544 t545 t548 true)) else (if t547 = 5 then (if t549 = 0 then (dropperlaw07_WearDue.j0 k t544 t545 t548 false) else (dropperlaw07_WearDue.j0 k t544 t545 t548 true)) else (dropperlaw07_WearDue.j0 k t544 t545 t548 true))) else (dropperlaw07_WearDue.j0 k t544 t545 t548 true))) = some r := H
    have A9 := Aside0.mk A90
    clear A90
    have HC10 := Aside0.mk H
    clear H
    go_enter Try.func8, Try.ntmps8
    go_upto_region 8 with (first | ((with_reducible refine gate_dst (N := 3) rfl ?_); refine box_event ?hg (N := 3) ?hd (cs := #[.int .u16 a1_0, .int .u16 a1_1]) (t := 42) ?hr ?_; (case hd => rfl); (case hg => rfl); (case hr => first | (go_simp; done) | (go_simp; rfl)); intro gb541 hg w11 hbox hb; have n0_ := Aside0.mk (below_step (by repeat (first | (with_reducible first | exact HB.out | apply below_alloc | apply pw_below_drewN | apply below_drew1) | exact HB.out)) hb); have n1_ := Aside0.mk (hbox); have n2_ := Aside0.mk ((by rw [hg]; exact (below_size (by repeat (first | (with_reducible first | exact HB.out | apply below_alloc | apply pw_below_drewN | apply below_drew1) | exact HB.out))) : w.heap.size ≤ gb541)); have n3_ := Aside0.mk ((by rw [hg]; exact (below_size (by repeat (first | (with_reducible first | exact HB.out | apply below_alloc | apply pw_below_drewN | apply below_drew1) | exact HB.out))) : w.heap.size ≤ gb541)); clear HB; have HB := n0_; have BK541 := n1_; have GW541 := n2_; have GE541 := n3_; clear n0_ n1_ n2_ n3_; clear hb hbox hg) | (go_at_call 19; (with_reducible refine (dropperref07_Valid.calls k _ _ l0 true _ ?side1 ?side2 A3.out).mono ?_); (case side1 => repeat (first | exact (Kd.C_below HR0.out HB.out) | (with_reducible refine Kd.C_alloc ?_ _) | (with_reducible refine Kd.C_drewN ?_ _) | (with_reducible refine Kd.C_drew ?_))); (case side2 => exact HC0.out); rintro e w' ⟨rfl, ⟨nd, rfl⟩⟩; (try first | exact ⟨rfl, _, World.drewN_drewN _ _ _⟩ | exact ⟨rfl, _, Eq.trans (World.drewN_drewN _ _ _) (congrArg (World.drewN _) (Nat.add_assoc _ _ _))⟩); have hcz12_0 : w11.cell? ⟨gb541, 0, none⟩ = some (.int .u16 a1_0) := (blk_cell BK541.out 0).trans rfl; have hcz12_1 : w11.cell? ⟨gb541, 1, none⟩ = some (.int .u16 a1_1) := (blk_cell BK541.out 1).trans rfl; have hfz12_0 := blk_frozen BK541.out 0; have hfz12_1 := blk_frozen BK541.out 1) | (go_at_call 31; (with_reducible refine (wear_Due.calls k _ _ l0 ji5 t544 t545 _ ?side1 ?side2 A7.out).mono ?_); (case side1 => repeat (first | exact (Kd.C_below HR0.out (by repeat (first | (with_reducible first | exact HB.out | apply below_alloc | apply pw_below_drewN | apply below_drew1 | refine below_set ?_ GE541.out) | exact HB.out))) | (with_reducible refine Kd.C_alloc ?_ _) | (with_reducible refine Kd.C_drewN ?_ _) | (with_reducible refine Kd.C_drew ?_))); (case side2 => exact HC0.out); rintro e w13 ⟨rfl, hb⟩; have n0_ := Aside0.mk (blk_below (g := gb541) (o := .cells #[.int .u16 a1_0, .int .u16 a1_1] 42 (0, 0)) (by (with_reducible repeat (first | refine blk_drewN ?_ _ | refine blk_drew ?_ | refine blk_alloc ?_ _)); exact BK541.out) hb); have n1_ := Aside0.mk (below_step (by repeat (first | (with_reducible first | exact HB.out | apply below_alloc | apply pw_below_drewN | apply below_drew1 | refine below_set ?_ GE541.out) | exact HB.out)) hb); clear BK541; clear HB; have BK541 := n0_; have HB := n1_; clear n0_ n1_; (try clear hb); (try clear hb2); (try clear hk); (try clear hi)) | (go_at_call 31; (with_reducible refine (wear_Due.calls k _ _ l0 ji6 t546 t547 _ ?side1 ?side2 A8.out).mono ?_); (case side1 => repeat (first | exact (Kd.C_below HR0.out HB.out) | (with_reducible refine Kd.C_alloc ?_ _) | (with_reducible refine Kd.C_drewN ?_ _) | (with_reducible refine Kd.C_drew ?_))); (case side2 => exact HC0.out); rintro e w14 ⟨rfl, hb⟩; have n0_ := Aside0.mk (blk_below (g := gb541) (o := .cells #[.int .u16 a1_0, .int .u16 a1_1] 42 (0, 0)) (by (with_reducible repeat (first | refine blk_drewN ?_ _ | refine blk_drew ?_ | refine blk_alloc ?_ _)); exact BK541.out) hb); have n1_ := Aside0.mk (below_step (by repeat (first | (with_reducible first | exact HB.out | apply below_alloc | apply pw_below_drewN | apply below_drew1 | refine below_set ?_ GE541.out) | exact HB.out)) hb); clear BK541; clear HB; have BK541 := n0_; have HB := n1_; clear n0_ n1_; (try clear hb); (try clear hb2); (try clear hk); (try clear hi)) | (go_at_call 25; (with_reducible refine (wear_Blocks.calls k _ _ l0 t548 t549 _ ?side1 ?side2 A9.out).mono ?_); (case side1 => repeat (first | exact (Kd.C_below HR0.out HB.out) | (with_reducible refine Kd.C_alloc ?_ _) | (with_reducible refine Kd.C_drewN ?_ _) | (with_reducible refine Kd.C_drew ?_))); (case side2 => exact HC0.out); rintro e w15 ⟨v550, rfl, ho0, hb⟩; have n0_ := Aside0.mk (Kd.R_lower ho0 (below_size (by repeat (first | (with_reducible first | exact HB.out | apply below_alloc | apply pw_below_drewN | apply below_drew1 | refine below_set ?_ GE541.out) | exact HB.out)))); have n1_ := Aside0.mk (blk_below (g := gb541) (o := .cells #[.int .u16 a1_0, .int .u16 a1_1] 42 (0, 0)) (by (with_reducible repeat (first | refine blk_drewN ?_ _ | refine blk_drew ?_ | refine blk_alloc ?_ _)); exact BK541.out) hb); have n2_ := Aside0.mk (below_step (by repeat (first | (with_reducible first | exact HB.out | apply below_alloc | apply pw_below_drewN | apply below_drew1 | refine below_set ?_ GE541.out) | exact HB.out)) hb); clear BK541; clear HB; have HO551 := n0_; have BK541 := n1_; have HB := n2_; clear n0_ n1_ n2_; (try clear hb); (try clear hb2); (try clear hk); (try clear hi); (try clear ho0)))
    repeat (go_quiet (first | ((with_reducible refine gate_dst (N := 3) rfl ?_); refine box_event ?hg (N := 3) ?hd (cs := #[.int .u16 a1_0, .int .u16 a1_1]) (t := 42) ?hr ?_; (case hd => rfl); (case hg => rfl); (case hr => first | (go_simp; done) | (go_simp; rfl)); intro gb541 hg w11 hbox hb; have n0_ := Aside0.mk (below_step (by repeat (first | (with_reducible first | exact HB.out | apply below_alloc | apply pw_below_drewN | apply below_drew1) | exact HB.out)) hb); have n1_ := Aside0.mk (hbox); have n2_ := Aside0.mk ((by rw [hg]; exact (below_size (by repeat (first | (with_reducible first | exact HB.out | apply below_alloc | apply pw_below_drewN | apply below_drew1) | exact HB.out))) : w.heap.size ≤ gb541)); have n3_ := Aside0.mk ((by rw [hg]; exact (below_size (by repeat (first | (with_reducible first | exact HB.out | apply below_alloc | apply pw_below_drewN | apply below_drew1) | exact HB.out))) : w.heap.size ≤ gb541)); clear HB; have HB := n0_; have BK541 := n1_; have GW541 := n2_; have GE541 := n3_; clear n0_ n1_ n2_ n3_; clear hb hbox hg) | (go_at_call 19; (with_reducible refine (dropperref07_Valid.calls k _ _ l0 true _ ?side1 ?side2 A3.out).mono ?_); (case side1 => repeat (first | exact (Kd.C_below HR0.out HB.out) | (with_reducible refine Kd.C_alloc ?_ _) | (with_reducible refine Kd.C_drewN ?_ _) | (with_reducible refine Kd.C_drew ?_))); (case side2 => exact HC0.out); rintro e w' ⟨rfl, ⟨nd, rfl⟩⟩; (try first | exact ⟨rfl, _, World.drewN_drewN _ _ _⟩ | exact ⟨rfl, _, Eq.trans (World.drewN_drewN _ _ _) (congrArg (World.drewN _) (Nat.add_assoc _ _ _))⟩); have hcz12_0 : w11.cell? ⟨gb541, 0, none⟩ = some (.int .u16 a1_0) := (blk_cell BK541.out 0).trans rfl; have hcz12_1 : w11.cell? ⟨gb541, 1, none⟩ = some (.int .u16 a1_1) := (blk_cell BK541.out 1).trans rfl; have hfz12_0 := blk_frozen BK541.out 0; have hfz12_1 := blk_frozen BK541.out 1) | (go_at_call 31; (with_reducible refine (wear_Due.calls k _ _ l0 ji5 t544 t545 _ ?side1 ?side2 A7.out).mono ?_); (case side1 => repeat (first | exact (Kd.C_below HR0.out (by repeat (first | (with_reducible first | exact HB.out | apply below_alloc | apply pw_below_drewN | apply below_drew1 | refine below_set ?_ GE541.out) | exact HB.out))) | (with_reducible refine Kd.C_alloc ?_ _) | (with_reducible refine Kd.C_drewN ?_ _) | (with_reducible refine Kd.C_drew ?_))); (case side2 => exact HC0.out); rintro e w13 ⟨rfl, hb⟩; have n0_ := Aside0.mk (blk_below (g := gb541) (o := .cells #[.int .u16 a1_0, .int .u16 a1_1] 42 (0, 0)) (by (with_reducible repeat (first | refine blk_drewN ?_ _ | refine blk_drew ?_ | refine blk_alloc ?_ _)); exact BK541.out) hb); have n1_ := Aside0.mk (below_step (by repeat (first | (with_reducible first | exact HB.out | apply below_alloc | apply pw_below_drewN | apply below_drew1 | refine below_set ?_ GE541.out) | exact HB.out)) hb); clear BK541; clear HB; have BK541 := n0_; have HB := n1_; clear n0_ n1_; (try clear hb); (try clear hb2); (try clear hk); (try clear hi)) | (go_at_call 31; (with_reducible refine (wear_Due.calls k _ _ l0 ji6 t546 t547 _ ?side1 ?side2 A8.out).mono ?_); (case side1 => repeat (first | exact (Kd.C_below HR0.out HB.out) | (with_reducible refine Kd.C_alloc ?_ _) | (with_reducible refine Kd.C_drewN ?_ _) | (with_reducible refine Kd.C_drew ?_))); (case side2 => exact HC0.out); rintro e w14 ⟨rfl, hb⟩; have n0_ := Aside0.mk (blk_below (g := gb541) (o := .cells #[.int .u16 a1_0, .int .u16 a1_1] 42 (0, 0)) (by (with_reducible repeat (first | refine blk_drewN ?_ _ | refine blk_drew ?_ | refine blk_alloc ?_ _)); exact BK541.out) hb); have n1_ := Aside0.mk (below_step (by repeat (first | (with_reducible first | exact HB.out | apply below_alloc | apply pw_below_drewN | apply below_drew1 | refine below_set ?_ GE541.out) | exact HB.out)) hb); clear BK541; clear HB; have BK541 := n0_; have HB := n1_; clear n0_ n1_; (try clear hb); (try clear hb2); (try clear hk); (try clear hi)) | (go_at_call 25; (with_reducible refine (wear_Blocks.calls k _ _ l0 t548 t549 _ ?side1 ?side2 A9.out).mono ?_); (case side1 => repeat (first | exact (Kd.C_below HR0.out HB.out) | (with_reducible refine Kd.C_alloc ?_ _) | (with_reducible refine Kd.C_drewN ?_ _) | (with_reducible refine Kd.C_drew ?_))); (case side2 => exact HC0.out); rintro e w15 ⟨v550, rfl, ho0, hb⟩; have n0_ := Aside0.mk (Kd.R_lower ho0 (below_size (by repeat (first | (with_reducible first | exact HB.out | apply below_alloc | apply pw_below_drewN | apply below_drew1 | refine below_set ?_ GE541.out) | exact HB.out)))); have n1_ := Aside0.mk (blk_below (g := gb541) (o := .cells #[.int .u16 a1_0, .int .u16 a1_1] 42 (0, 0)) (by (with_reducible repeat (first | refine blk_drewN ?_ _ | refine blk_drew ?_ | refine blk_alloc ?_ _)); exact BK541.out) hb); have n2_ := Aside0.mk (below_step (by repeat (first | (with_reducible first | exact HB.out | apply below_alloc | apply pw_below_drewN | apply below_drew1 | refine below_set ?_ GE541.out) | exact HB.out)) hb); clear BK541; clear HB; have HO551 := n0_; have BK541 := n1_; have HB := n2_; clear n0_ n1_ n2_; (try clear hb); (try clear hb2); (try clear hk); (try clear hi); (try clear ho0))); go_upto_region 8 with (first | ((with_reducible refine gate_dst (N := 3) rfl ?_); refine box_event ?hg (N := 3) ?hd (cs := #[.int .u16 a1_0, .int .u16 a1_1]) (t := 42) ?hr ?_; (case hd => rfl); (case hg => rfl); (case hr => first | (go_simp; done) | (go_simp; rfl)); intro gb541 hg w11 hbox hb; have n0_ := Aside0.mk (below_step (by repeat (first | (with_reducible first | exact HB.out | apply below_alloc | apply pw_below_drewN | apply below_drew1) | exact HB.out)) hb); have n1_ := Aside0.mk (hbox); have n2_ := Aside0.mk ((by rw [hg]; exact (below_size (by repeat (first | (with_reducible first | exact HB.out | apply below_alloc | apply pw_below_drewN | apply below_drew1) | exact HB.out))) : w.heap.size ≤ gb541)); have n3_ := Aside0.mk ((by rw [hg]; exact (below_size (by repeat (first | (with_reducible first | exact HB.out | apply below_alloc | apply pw_below_drewN | apply below_drew1) | exact HB.out))) : w.heap.size ≤ gb541)); clear HB; have HB := n0_; have BK541 := n1_; have GW541 := n2_; have GE541 := n3_; clear n0_ n1_ n2_ n3_; clear hb hbox hg) | (go_at_call 19; (with_reducible refine (dropperref07_Valid.calls k _ _ l0 true _ ?side1 ?side2 A3.out).mono ?_); (case side1 => repeat (first | exact (Kd.C_below HR0.out HB.out) | (with_reducible refine Kd.C_alloc ?_ _) | (with_reducible refine Kd.C_drewN ?_ _) | (with_reducible refine Kd.C_drew ?_))); (case side2 => exact HC0.out); rintro e w' ⟨rfl, ⟨nd, rfl⟩⟩; (try first | exact ⟨rfl, _, World.drewN_drewN _ _ _⟩ | exact ⟨rfl, _, Eq.trans (World.drewN_drewN _ _ _) (congrArg (World.drewN _) (Nat.add_assoc _ _ _))⟩); have hcz12_0 : w11.cell? ⟨gb541, 0, none⟩ = some (.int .u16 a1_0) := (blk_cell BK541.out 0).trans rfl; have hcz12_1 : w11.cell? ⟨gb541, 1, none⟩ = some (.int .u16 a1_1) := (blk_cell BK541.out 1).trans rfl; have hfz12_0 := blk_frozen BK541.out 0; have hfz12_1 := blk_frozen BK541.out 1) | (go_at_call 31; (with_reducible refine (wear_Due.calls k _ _ l0 ji5 t544 t545 _ ?side1 ?side2 A7.out).mono ?_); (case side1 => repeat (first | exact (Kd.C_below HR0.out (by repeat (first | (with_reducible first | exact HB.out | apply below_alloc | apply pw_below_drewN | apply below_drew1 | refine below_set ?_ GE541.out) | exact HB.out))) | (with_reducible refine Kd.C_alloc ?_ _) | (with_reducible refine Kd.C_drewN ?_ _) | (with_reducible refine Kd.C_drew ?_))); (case side2 => exact HC0.out); rintro e w13 ⟨rfl, hb⟩; have n0_ := Aside0.mk (blk_below (g := gb541) (o := .cells #[.int .u16 a1_0, .int .u16 a1_1] 42 (0, 0)) (by (with_reducible repeat (first | refine blk_drewN ?_ _ | refine blk_drew ?_ | refine blk_alloc ?_ _)); exact BK541.out) hb); have n1_ := Aside0.mk (below_step (by repeat (first | (with_reducible first | exact HB.out | apply below_alloc | apply pw_below_drewN | apply below_drew1 | refine below_set ?_ GE541.out) | exact HB.out)) hb); clear BK541; clear HB; have BK541 := n0_; have HB := n1_; clear n0_ n1_; (try clear hb); (try clear hb2); (try clear hk); (try clear hi)) | (go_at_call 31; (with_reducible refine (wear_Due.calls k _ _ l0 ji6 t546 t547 _ ?side1 ?side2 A8.out).mono ?_); (case side1 => repeat (first | exact (Kd.C_below HR0.out HB.out) | (with_reducible refine Kd.C_alloc ?_ _) | (with_reducible refine Kd.C_drewN ?_ _) | (with_reducible refine Kd.C_drew ?_))); (case side2 => exact HC0.out); rintro e w14 ⟨rfl, hb⟩; have n0_ := Aside0.mk (blk_below (g := gb541) (o := .cells #[.int .u16 a1_0, .int .u16 a1_1] 42 (0, 0)) (by (with_reducible repeat (first | refine blk_drewN ?_ _ | refine blk_drew ?_ | refine blk_alloc ?_ _)); exact BK541.out) hb); have n1_ := Aside0.mk (below_step (by repeat (first | (with_reducible first | exact HB.out | apply below_alloc | apply pw_below_drewN | apply below_drew1 | refine below_set ?_ GE541.out) | exact HB.out)) hb); clear BK541; clear HB; have BK541 := n0_; have HB := n1_; clear n0_ n1_; (try clear hb); (try clear hb2); (try clear hk); (try clear hi)) | (go_at_call 25; (with_reducible refine (wear_Blocks.calls k _ _ l0 t548 t549 _ ?side1 ?side2 A9.out).mono ?_); (case side1 => repeat (first | exact (Kd.C_below HR0.out HB.out) | (with_reducible refine Kd.C_alloc ?_ _) | (with_reducible refine Kd.C_drewN ?_ _) | (with_reducible refine Kd.C_drew ?_))); (case side2 => exact HC0.out); rintro e w15 ⟨v550, rfl, ho0, hb⟩; have n0_ := Aside0.mk (Kd.R_lower ho0 (below_size (by repeat (first | (with_reducible first | exact HB.out | apply below_alloc | apply pw_below_drewN | apply below_drew1 | refine below_set ?_ GE541.out) | exact HB.out)))); have n1_ := Aside0.mk (blk_below (g := gb541) (o := .cells #[.int .u16 a1_0, .int .u16 a1_1] 42 (0, 0)) (by (with_reducible repeat (first | refine blk_drewN ?_ _ | refine blk_drew ?_ | refine blk_alloc ?_ _)); exact BK541.out) hb); have n2_ := Aside0.mk (below_step (by repeat (first | (with_reducible first | exact HB.out | apply below_alloc | apply pw_below_drewN | apply below_drew1 | refine below_set ?_ GE541.out) | exact HB.out)) hb); clear BK541; clear HB; have HO551 := n0_; have BK541 := n1_; have HB := n2_; clear n0_ n1_ n2_; (try clear hb); (try clear hb2); (try clear hk); (try clear hi); (try clear ho0))))
    (try simp only [Act.put, List.setIfInBounds_toArray, List.set_cons_zero, List.set_cons_succ])
    go_cut [80] (fun v80 wc => ∃ (kq : Nat) (x80_9 : Bool), v80 = .bool x80_9 ∧ Aside0 (dropperlaw07_WearDue.j0 kq t544 t545 t548 x80_9 = some r) ∧ Aside0 (kq ≤ k) ∧ Aside0 (Kd.R (Kd.int .i64) 3 wc w.heap.size (fun _ => True) v550 t548) ∧ Aside0 (wc.heap[gb541]? = some (.cells #[.int .u16 a1_0, .int .u16 a1_1] 42 (0, 0))) ∧ Aside0 (Below w.heap.size w wc))
    case first =>
      have H := HC10.out
      clear HC10
      by_cases c16 : t545 = 0
      · rw [if_pos c16] at H
        have c16b0 : (t545 == 0) = true := beq_iff_eq.mpr c16
        have c16b1 : (t545 != 0) = false := bne_eq_false_iff_eq.mpr c16
        clear c16
        (first | rw [c16b0] | (simp only [i64_w, i32_w]; rw [c16b0]) | skip)
        by_cases c17 : t547 = 0
        · rw [if_pos c17] at H
          have c17b0 : (t547 == 0) = true := beq_iff_eq.mpr c17
          have c17b1 : (t547 != 0) = false := bne_eq_false_iff_eq.mpr c17
          clear c17
          by_cases c18 : t549 = 0
          · rw [if_pos c18] at H
            have c18b0 : (t549 == 0) = true := beq_iff_eq.mpr c18
            have c18b1 : (t549 != 0) = false := bne_eq_false_iff_eq.mpr c18
            clear c18
            have H' := Aside0.mk H
            clear H
            go_wp2
            repeat (go_quiet (fail); try go_wp2)
            go_meet
            case rel => exact ⟨_, (decide (t546 < t544)), (by first | rfl | (simp; done) | (simp [*]; done)), H', ⟨by first | omega | exact Nat.le_refl _⟩, ⟨by (with_reducible repeat (first | apply Kd.R_alloc | apply Kd.R_drewN | apply Kd.R_drew)); exact HO551.out⟩, ⟨by (with_reducible repeat (first | refine blk_drewN ?_ _ | refine blk_drew ?_ | refine blk_alloc ?_ _)); exact BK541.out⟩, ⟨by repeat (first | (with_reducible first | exact HB.out | apply below_alloc | apply pw_below_drewN | apply below_drew1 | refine below_set ?_ GE541.out) | exact HB.out)⟩⟩
          · rw [if_neg c18] at H
            have c18b0 : (t549 == 0) = false := beq_eq_false_iff_ne.mpr c18
            have c18b1 : (t549 != 0) = true := bne_iff_ne.mpr c18
            have H' := Aside0.mk H
            clear H
            go_wp2
            repeat (go_quiet (fail); try go_wp2)
            go_meet
            case rel => exact ⟨_, (true), (by first | rfl | (simp; done) | (simp [*]; done)), H', ⟨by first | omega | exact Nat.le_refl _⟩, ⟨by (with_reducible repeat (first | apply Kd.R_alloc | apply Kd.R_drewN | apply Kd.R_drew)); exact HO551.out⟩, ⟨by (with_reducible repeat (first | refine blk_drewN ?_ _ | refine blk_drew ?_ | refine blk_alloc ?_ _)); exact BK541.out⟩, ⟨by repeat (first | (with_reducible first | exact HB.out | apply below_alloc | apply pw_below_drewN | apply below_drew1 | refine below_set ?_ GE541.out) | exact HB.out)⟩⟩
        · rw [if_neg c17] at H
          have c17b0 : (t547 == 0) = false := beq_eq_false_iff_ne.mpr c17
          have c17b1 : (t547 != 0) = true := bne_iff_ne.mpr c17
          by_cases c19 : t547 = 5
          · rw [if_pos c19] at H
            have c19b0 : (t547 == 5) = true := beq_iff_eq.mpr c19
            have c19b1 : (t547 != 5) = false := bne_eq_false_iff_eq.mpr c19
            clear c19
            by_cases c20 : t549 = 0
            · rw [if_pos c20] at H
              have c20b0 : (t549 == 0) = true := beq_iff_eq.mpr c20
              have c20b1 : (t549 != 0) = false := bne_eq_false_iff_eq.mpr c20
              clear c20
              have H' := Aside0.mk H
              clear H
              go_wp2
              repeat (go_quiet (fail); try go_wp2)
              go_meet
              case rel => exact ⟨_, (false), (by first | rfl | (simp; done) | (simp [*]; done)), H', ⟨by first | omega | exact Nat.le_refl _⟩, ⟨by (with_reducible repeat (first | apply Kd.R_alloc | apply Kd.R_drewN | apply Kd.R_drew)); exact HO551.out⟩, ⟨by (with_reducible repeat (first | refine blk_drewN ?_ _ | refine blk_drew ?_ | refine blk_alloc ?_ _)); exact BK541.out⟩, ⟨by repeat (first | (with_reducible first | exact HB.out | apply below_alloc | apply pw_below_drewN | apply below_drew1 | refine below_set ?_ GE541.out) | exact HB.out)⟩⟩
            · rw [if_neg c20] at H
              have c20b0 : (t549 == 0) = false := beq_eq_false_iff_ne.mpr c20
              have c20b1 : (t549 != 0) = true := bne_iff_ne.mpr c20
              have H' := Aside0.mk H
              clear H
              go_wp2
              repeat (go_quiet (fail); try go_wp2)
              go_meet
              case rel => exact ⟨_, (true), (by first | rfl | (simp; done) | (simp [*]; done)), H', ⟨by first | omega | exact Nat.le_refl _⟩, ⟨by (with_reducible repeat (first | apply Kd.R_alloc | apply Kd.R_drewN | apply Kd.R_drew)); exact HO551.out⟩, ⟨by (with_reducible repeat (first | refine blk_drewN ?_ _ | refine blk_drew ?_ | refine blk_alloc ?_ _)); exact BK541.out⟩, ⟨by repeat (first | (with_reducible first | exact HB.out | apply below_alloc | apply pw_below_drewN | apply below_drew1 | refine below_set ?_ GE541.out) | exact HB.out)⟩⟩
          · rw [if_neg c19] at H
            have c19b0 : (t547 == 5) = false := beq_eq_false_iff_ne.mpr c19
            have c19b1 : (t547 != 5) = true := bne_iff_ne.mpr c19
            have H' := Aside0.mk H
            clear H
            go_wp2
            repeat (go_quiet (fail); try go_wp2)
            go_meet
            case rel => exact ⟨_, (true), (by first | rfl | (simp; done) | (simp [*]; done)), H', ⟨by first | omega | exact Nat.le_refl _⟩, ⟨by (with_reducible repeat (first | apply Kd.R_alloc | apply Kd.R_drewN | apply Kd.R_drew)); exact HO551.out⟩, ⟨by (with_reducible repeat (first | refine blk_drewN ?_ _ | refine blk_drew ?_ | refine blk_alloc ?_ _)); exact BK541.out⟩, ⟨by repeat (first | (with_reducible first | exact HB.out | apply below_alloc | apply pw_below_drewN | apply below_drew1 | refine below_set ?_ GE541.out) | exact HB.out)⟩⟩
      · rw [if_neg c16] at H
        have c16b0 : (t545 == 0) = false := beq_eq_false_iff_ne.mpr c16
        have c16b1 : (t545 != 0) = true := bne_iff_ne.mpr c16
        (first | rw [c16b0] | (simp only [i64_w, i32_w]; rw [c16b0]) | skip)
        by_cases c21 : t545 = 5
        · rw [if_pos c21] at H
          have c21b0 : (t545 == 5) = true := beq_iff_eq.mpr c21
          have c21b1 : (t545 != 5) = false := bne_eq_false_iff_eq.mpr c21
          clear c21
          by_cases c22 : t547 = 0
          · rw [if_pos c22] at H
            have c22b0 : (t547 == 0) = true := beq_iff_eq.mpr c22
            have c22b1 : (t547 != 0) = false := bne_eq_false_iff_eq.mpr c22
            clear c22
            by_cases c23 : t549 = 0
            · rw [if_pos c23] at H
              have c23b0 : (t549 == 0) = true := beq_iff_eq.mpr c23
              have c23b1 : (t549 != 0) = false := bne_eq_false_iff_eq.mpr c23
              clear c23
              have H' := Aside0.mk H
              clear H
              go_wp2
              repeat (go_quiet (fail); try go_wp2)
              go_meet
              case rel => exact ⟨_, (true), (by first | rfl | (simp; done) | (simp [*]; done)), H', ⟨by first | omega | exact Nat.le_refl _⟩, ⟨by (with_reducible repeat (first | apply Kd.R_alloc | apply Kd.R_drewN | apply Kd.R_drew)); exact HO551.out⟩, ⟨by (with_reducible repeat (first | refine blk_drewN ?_ _ | refine blk_drew ?_ | refine blk_alloc ?_ _)); exact BK541.out⟩, ⟨by repeat (first | (with_reducible first | exact HB.out | apply below_alloc | apply pw_below_drewN | apply below_drew1 | refine below_set ?_ GE541.out) | exact HB.out)⟩⟩
            · rw [if_neg c23] at H
              have c23b0 : (t549 == 0) = false := beq_eq_false_iff_ne.mpr c23
              have c23b1 : (t549 != 0) = true := bne_iff_ne.mpr c23
              have H' := Aside0.mk H
              clear H
              go_wp2
              repeat (go_quiet (fail); try go_wp2)
              go_meet
              case rel => exact ⟨_, (true), (by first | rfl | (simp; done) | (simp [*]; done)), H', ⟨by first | omega | exact Nat.le_refl _⟩, ⟨by (with_reducible repeat (first | apply Kd.R_alloc | apply Kd.R_drewN | apply Kd.R_drew)); exact HO551.out⟩, ⟨by (with_reducible repeat (first | refine blk_drewN ?_ _ | refine blk_drew ?_ | refine blk_alloc ?_ _)); exact BK541.out⟩, ⟨by repeat (first | (with_reducible first | exact HB.out | apply below_alloc | apply pw_below_drewN | apply below_drew1 | refine below_set ?_ GE541.out) | exact HB.out)⟩⟩
          · rw [if_neg c22] at H
            have c22b0 : (t547 == 0) = false := beq_eq_false_iff_ne.mpr c22
            have c22b1 : (t547 != 0) = true := bne_iff_ne.mpr c22
            by_cases c24 : t547 = 5
            · rw [if_pos c24] at H
              have c24b0 : (t547 == 5) = true := beq_iff_eq.mpr c24
              have c24b1 : (t547 != 5) = false := bne_eq_false_iff_eq.mpr c24
              clear c24
              by_cases c25 : t549 = 0
              · rw [if_pos c25] at H
                have c25b0 : (t549 == 0) = true := beq_iff_eq.mpr c25
                have c25b1 : (t549 != 0) = false := bne_eq_false_iff_eq.mpr c25
                clear c25
                have H' := Aside0.mk H
                clear H
                go_wp2
                repeat (go_quiet (fail); try go_wp2)
                go_meet
                case rel => exact ⟨_, (false), (by first | rfl | (simp; done) | (simp [*]; done)), H', ⟨by first | omega | exact Nat.le_refl _⟩, ⟨by (with_reducible repeat (first | apply Kd.R_alloc | apply Kd.R_drewN | apply Kd.R_drew)); exact HO551.out⟩, ⟨by (with_reducible repeat (first | refine blk_drewN ?_ _ | refine blk_drew ?_ | refine blk_alloc ?_ _)); exact BK541.out⟩, ⟨by repeat (first | (with_reducible first | exact HB.out | apply below_alloc | apply pw_below_drewN | apply below_drew1 | refine below_set ?_ GE541.out) | exact HB.out)⟩⟩
              · rw [if_neg c25] at H
                have c25b0 : (t549 == 0) = false := beq_eq_false_iff_ne.mpr c25
                have c25b1 : (t549 != 0) = true := bne_iff_ne.mpr c25
                have H' := Aside0.mk H
                clear H
                go_wp2
                repeat (go_quiet (fail); try go_wp2)
                go_meet
                case rel => exact ⟨_, (true), (by first | rfl | (simp; done) | (simp [*]; done)), H', ⟨by first | omega | exact Nat.le_refl _⟩, ⟨by (with_reducible repeat (first | apply Kd.R_alloc | apply Kd.R_drewN | apply Kd.R_drew)); exact HO551.out⟩, ⟨by (with_reducible repeat (first | refine blk_drewN ?_ _ | refine blk_drew ?_ | refine blk_alloc ?_ _)); exact BK541.out⟩, ⟨by repeat (first | (with_reducible first | exact HB.out | apply below_alloc | apply pw_below_drewN | apply below_drew1 | refine below_set ?_ GE541.out) | exact HB.out)⟩⟩
            · rw [if_neg c24] at H
              have c24b0 : (t547 == 5) = false := beq_eq_false_iff_ne.mpr c24
              have c24b1 : (t547 != 5) = true := bne_iff_ne.mpr c24
              have H' := Aside0.mk H
              clear H
              go_wp2
              repeat (go_quiet (fail); try go_wp2)
              go_meet
              case rel => exact ⟨_, (true), (by first | rfl | (simp; done) | (simp [*]; done)), H', ⟨by first | omega | exact Nat.le_refl _⟩, ⟨by (with_reducible repeat (first | apply Kd.R_alloc | apply Kd.R_drewN | apply Kd.R_drew)); exact HO551.out⟩, ⟨by (with_reducible repeat (first | refine blk_drewN ?_ _ | refine blk_drew ?_ | refine blk_alloc ?_ _)); exact BK541.out⟩, ⟨by repeat (first | (with_reducible first | exact HB.out | apply below_alloc | apply pw_below_drewN | apply below_drew1 | refine below_set ?_ GE541.out) | exact HB.out)⟩⟩
        · rw [if_neg c21] at H
          have c21b0 : (t545 == 5) = false := beq_eq_false_iff_ne.mpr c21
          have c21b1 : (t545 != 5) = true := bne_iff_ne.mpr c21
          have H' := Aside0.mk H
          clear H
          go_wp2
          repeat (go_quiet (fail); try go_wp2)
          go_meet
          case rel => exact ⟨_, (true), (by first | rfl | (simp; done) | (simp [*]; done)), H', ⟨by first | omega | exact Nat.le_refl _⟩, ⟨by (with_reducible repeat (first | apply Kd.R_alloc | apply Kd.R_drewN | apply Kd.R_drew)); exact HO551.out⟩, ⟨by (with_reducible repeat (first | refine blk_drewN ?_ _ | refine blk_drew ?_ | refine blk_alloc ?_ _)); exact BK541.out⟩, ⟨by repeat (first | (with_reducible first | exact HB.out | apply below_alloc | apply pw_below_drewN | apply below_drew1 | refine below_set ?_ GE541.out) | exact HB.out)⟩⟩
    case rest =>
      clear HC10
      try clear c1
      try clear c2
      try clear p2
      try clear c4
      try clear p6
      try clear c8
      try clear c16
      try clear c16b0
      try clear c16b1
      try clear c17
      try clear c17b0
      try clear c17b1
      try clear c18
      try clear c18b0
      try clear c18b1
      try clear c19
      try clear c19b0
      try clear c19b1
      try clear c20
      try clear c20b0
      try clear c20b1
      try clear c21
      try clear c21b0
      try clear c21b1
      try clear c22
      try clear c22b0
      try clear c22b1
      try clear c23
      try clear c23b0
      try clear c23b1
      try clear c24
      try clear c24b0
      try clear c24b1
      try clear c25
      try clear c25b0
      try clear c25b1
      try clear hcz12_0
      try clear hcz12_1
      try clear hfz12_0
      try clear hfz12_1
      obtain ⟨kq, x80_9, rfl, HA, HJ9, HO_11, BK541, HB⟩ := hcut
      cases kq with
      | zero => exact absurd HA.out (by simp [dropperlaw07_WearDue.j0])
      | succ kj9 =>
        have H := HA.out
        clear HA
        simp only [dropperlaw07_WearDue.j0] at H
        by_cases c26 : x80_9 = true
        · subst c26
          have H1 : (some false) = some r := by rw [if_pos rfl] at H; exact H
          clear H
          have H := H1
          clear H1
          obtain rfl := Option.some.inj H
          go_wp2
          repeat (go_quiet (fail); try go_wp2)
          go_ret
          exact ⟨by first | rfl | (simp [errW_none, errW_some] <;> rfl) | (simp only [← hji5, ← hji6]; first | rfl | (simp [errW_none, errW_some] <;> rfl)) | (simp [*, errW_none, errW_some] <;> rfl), by repeat (first | (with_reducible first | exact HB.out | apply below_alloc | apply pw_below_drewN | apply below_drew1 | refine below_set ?_ GE541.out) | exact HB.out)⟩
        · replace c26 := Bool.eq_false_iff.mpr c26
          subst c26
          have H1 : (if t545 = 0 then (dropperlaw07_WearDue.l0 kj9 t544 t548 false 0) else ((dropperlaw07_First.f kj9).bind fun t552 => (some t552))) = some r := by rw [if_neg (show ¬ (false = true) by decide)] at H; exact H
          clear H
          have H := H1
          clear H1
          by_cases c27 : t545 = 0
          · rw [if_pos c27] at H
            have c27b0 : (t545 == 0) = true := beq_iff_eq.mpr c27
            have c27b1 : (t545 != 0) = false := bne_eq_false_iff_eq.mpr c27
            clear c27
            have H' := Aside0.mk H
            clear H
            go_wp2
            repeat (go_quiet (fail); try go_wp2)
            go_loopg [13, 14] kj9 (fun kq v13 v14 w' => ∃ (x13_2 : Bool) (x14_2 : Int), v13 = .bool x13_2 ∧ v14 = .int .i64 x14_2 ∧ Aside0 (dropperlaw07_WearDue.l0 kq t544 t548 x13_2 x14_2 = some r) ∧ Aside0 (kq ≤ kj9) ∧ Aside0 (Kd.R (Kd.int .i64) 3 w' w.heap.size (fun _ => True) v550 t548) ∧ Aside0 (w'.heap[gb541]? = some (.cells #[.int .u16 a1_0, .int .u16 a1_1] 42 (0, 0))) ∧ Aside0 (Below w.heap.size w w'))
            case atStart => exact ⟨(false), (0), (by first | rfl | (simp; done) | (simp [*]; done)), (by first | rfl | (simp; done) | (simp [*]; done)), H', ⟨Nat.le_refl _⟩, ⟨by (with_reducible repeat (first | apply Kd.R_alloc | apply Kd.R_drewN | apply Kd.R_drew)); exact HO_11.out⟩, ⟨by (with_reducible repeat (first | refine blk_drewN ?_ _ | refine blk_drew ?_ | refine blk_alloc ?_ _)); exact BK541.out⟩, ⟨by repeat (first | (with_reducible first | exact HB.out | apply below_alloc | apply pw_below_drewN | apply below_drew1 | refine below_set ?_ GE541.out) | exact HB.out)⟩⟩
            case round =>
              clear H'
              try clear c1
              try clear c2
              try clear p2
              try clear c4
              try clear p6
              try clear c8
              try clear c16
              try clear c16b0
              try clear c16b1
              try clear c17
              try clear c17b0
              try clear c17b1
              try clear c18
              try clear c18b0
              try clear c18b1
              try clear c19
              try clear c19b0
              try clear c19b1
              try clear c20
              try clear c20b0
              try clear c20b1
              try clear c21
              try clear c21b0
              try clear c21b1
              try clear c22
              try clear c22b0
              try clear c22b1
              try clear c23
              try clear c23b0
              try clear c23b1
              try clear c24
              try clear c24b0
              try clear c24b1
              try clear c25
              try clear c25b0
              try clear c25b1
              try clear c26
              try clear c27
              try clear c27b0
              try clear c27b1
              try clear hcz12_0
              try clear hcz12_1
              try clear hfz12_0
              try clear hfz12_1
              try clear p2
              try clear p6
              obtain ⟨x13_2, x14_2, rfl, rfl, HA, HK2, HO_11, BK541, HB⟩ := hrel
              cases gk with
              | zero => exact absurd HA.out (by simp [dropperlaw07_WearDue.l0])
              | succ k2 =>
                have H := HA.out
                clear HA
                simp only [dropperlaw07_WearDue.l0] at H
                by_cases c28 : x14_2 < (t548.length : Int)
                · rw [if_pos c28] at H
                  have c28b0 : decide (x14_2 < (t548.length : Int)) = true := decide_eq_true c28
                  clear c28
                  by_cases c29 : x13_2 = true
                  · subst c29
                    have H1 : (dropperlaw07_WearDue.l0 k2 t544 t548 true (wrap64 (x14_2 + 1))) = some r := by rw [if_pos rfl] at H; exact H
                    clear H
                    have H := H1
                    clear H1
                    have H' := Aside0.mk H
                    clear H
                    obtain ⟨Ao30, co30, eo30⟩ := Kd.R_slice HO_11.out
                    subst eo30
                    go_wp2
                    repeat (go_quiet (fail); try go_wp2)
                    go_roundg k2
                    case measure => have := HJ9.out; have := HK2.out; omega
                    case rel => exact ⟨(true), (wrap64 (x14_2 + 1)), (by first | rfl | (simp; done) | (simp [*]; done)), (by first | rfl | (simp; done) | (simp [*]; done)), H', ⟨by have := HJ9.out; have := HK2.out; omega⟩, ⟨by (with_reducible repeat (first | apply Kd.R_alloc | apply Kd.R_drewN | apply Kd.R_drew)); exact HO_11.out⟩, ⟨by (with_reducible repeat (first | refine blk_drewN ?_ _ | refine blk_drew ?_ | refine blk_alloc ?_ _)); exact BK541.out⟩, ⟨by repeat (first | (with_reducible first | exact HB.out | apply below_alloc | apply pw_below_drewN | apply below_drew1 | refine below_set ?_ GE541.out) | exact HB.out)⟩⟩
                  · replace c29 := Bool.eq_false_iff.mpr c29
                    subst c29
                    have H1 : (if 0 ≤ x14_2 then (dropperlaw07_WearDue.l0 k2 t544 t548 ((rd t548 x14_2) == t544) (wrap64 (x14_2 + 1))) else (none)) = some r := by rw [if_neg (show ¬ (false = true) by decide)] at H; exact H
                    clear H
                    have H := H1
                    clear H1
                    by_cases c31 : 0 ≤ x14_2
                    · rw [if_pos c31] at H
                      have c31b0 : decide (0 ≤ x14_2) = true := decide_eq_true c31
                      clear c31
                      have H' := Aside0.mk H
                      clear H
                      obtain ⟨Ao32, co32, eo32⟩ := Kd.R_slice HO_11.out
                      subst eo32
                      have p553 : 0 ≤ (x14_2 : Int) := of_decide_eq_true (by first | (with_reducible assumption) | assumption)
                      have q553 : x14_2 < (t548.length : Int) := of_decide_eq_true (by first | (with_reducible assumption) | assumption)
                      obtain ⟨ad553, e553, hx553_0⟩ := Kd.at_int (Kd.R_reads' HO_11.out).2.2 x14_2 p553 q553
                      cases e553
                      replace p553 := eq_true p553
                      replace q553 := eq_true q553
                      go_wp2
                      repeat (go_quiet (fail); try go_wp2)
                      go_roundg k2
                      case measure => have := HJ9.out; have := HK2.out; omega
                      case rel => exact ⟨(((rd t548 x14_2) == t544)), (wrap64 (x14_2 + 1)), (by first | rfl | (simp; done) | (simp [*]; done)), (by first | rfl | (simp; done) | (simp [*]; done)), H', ⟨by have := HJ9.out; have := HK2.out; omega⟩, ⟨by (with_reducible repeat (first | apply Kd.R_alloc | apply Kd.R_drewN | apply Kd.R_drew)); exact HO_11.out⟩, ⟨by (with_reducible repeat (first | refine blk_drewN ?_ _ | refine blk_drew ?_ | refine blk_alloc ?_ _)); exact BK541.out⟩, ⟨by repeat (first | (with_reducible first | exact HB.out | apply below_alloc | apply pw_below_drewN | apply below_drew1 | refine below_set ?_ GE541.out) | exact HB.out)⟩⟩
                    · rw [if_neg c31] at H
                      exact absurd H (by simp)
                · rw [if_neg c28] at H
                  have c28b0 : decide (x14_2 < (t548.length : Int)) = false := decide_eq_false c28
                  clear c28
                  by_cases c33 : x13_2 = true
                  · subst c33
                    have H1 : ((dropperlaw07_First.f k2).bind fun t554 => (some t554)) = some r := by rw [if_pos rfl] at H; exact H
                    clear H
                    have H := H1
                    clear H1
                    replace H := Option.bind_eq_some_iff.mp H
                    obtain ⟨t554, A340, H⟩ := H
                    replace H : (some t554) = some r := H
                    have A34 := Aside0.mk A340
                    clear A340
                    obtain rfl := Option.some.inj H
                    obtain ⟨Ao35, co35, eo35⟩ := Kd.R_slice HO_11.out
                    subst eo35
                    go_wp2_with (first | (go_at_call 15; (with_reducible refine (dropperlaw07_First.calls k2  t554 _ A34.out).mono ?_); rintro e w36 ⟨rfl, hb⟩; have n0_ := Aside0.mk (Kd.R_below (by (with_reducible repeat (first | apply Kd.R_alloc | apply Kd.R_drewN | apply Kd.R_drew)); exact HO_11.out) hb); have n1_ := Aside0.mk (blk_below (g := gb541) (o := .cells #[.int .u16 a1_0, .int .u16 a1_1] 42 (0, 0)) (by (with_reducible repeat (first | refine blk_drewN ?_ _ | refine blk_drew ?_ | refine blk_alloc ?_ _)); exact BK541.out) hb); have n2_ := Aside0.mk (below_step (by repeat (first | (with_reducible first | exact HB.out | apply below_alloc | apply pw_below_drewN | apply below_drew1 | refine below_set ?_ GE541.out) | exact HB.out)) hb); clear HO_11; clear BK541; clear HB; have HO_11 := n0_; have BK541 := n1_; have HB := n2_; clear n0_ n1_ n2_; (try clear hb); (try clear hb2); (try clear hk); (try clear hi)))
                    repeat (go_quiet (first | (go_at_call 15; (with_reducible refine (dropperlaw07_First.calls k2  t554 _ A34.out).mono ?_); rintro e w36 ⟨rfl, hb⟩; have n0_ := Aside0.mk (Kd.R_below (by (with_reducible repeat (first | apply Kd.R_alloc | apply Kd.R_drewN | apply Kd.R_drew)); exact HO_11.out) hb); have n1_ := Aside0.mk (blk_below (g := gb541) (o := .cells #[.int .u16 a1_0, .int .u16 a1_1] 42 (0, 0)) (by (with_reducible repeat (first | refine blk_drewN ?_ _ | refine blk_drew ?_ | refine blk_alloc ?_ _)); exact BK541.out) hb); have n2_ := Aside0.mk (below_step (by repeat (first | (with_reducible first | exact HB.out | apply below_alloc | apply pw_below_drewN | apply below_drew1 | refine below_set ?_ GE541.out) | exact HB.out)) hb); clear HO_11; clear BK541; clear HB; have HO_11 := n0_; have BK541 := n1_; have HB := n2_; clear n0_ n1_ n2_; (try clear hb); (try clear hb2); (try clear hk); (try clear hi))); try go_wp2_with (first | (go_at_call 15; (with_reducible refine (dropperlaw07_First.calls k2  t554 _ A34.out).mono ?_); rintro e w36 ⟨rfl, hb⟩; have n0_ := Aside0.mk (Kd.R_below (by (with_reducible repeat (first | apply Kd.R_alloc | apply Kd.R_drewN | apply Kd.R_drew)); exact HO_11.out) hb); have n1_ := Aside0.mk (blk_below (g := gb541) (o := .cells #[.int .u16 a1_0, .int .u16 a1_1] 42 (0, 0)) (by (with_reducible repeat (first | refine blk_drewN ?_ _ | refine blk_drew ?_ | refine blk_alloc ?_ _)); exact BK541.out) hb); have n2_ := Aside0.mk (below_step (by repeat (first | (with_reducible first | exact HB.out | apply below_alloc | apply pw_below_drewN | apply below_drew1 | refine below_set ?_ GE541.out) | exact HB.out)) hb); clear HO_11; clear BK541; clear HB; have HO_11 := n0_; have BK541 := n1_; have HB := n2_; clear n0_ n1_ n2_; (try clear hb); (try clear hb2); (try clear hk); (try clear hi))))
                    go_ret
                    exact ⟨by first | rfl | (simp [errW_none, errW_some] <;> rfl) | (simp only [← hji5, ← hji6]; first | rfl | (simp [errW_none, errW_some] <;> rfl)) | (simp [*, errW_none, errW_some] <;> rfl), by repeat (first | (with_reducible first | exact HB.out | apply below_alloc | apply pw_below_drewN | apply below_drew1 | refine below_set ?_ GE541.out) | exact HB.out)⟩
                  · replace c33 := Bool.eq_false_iff.mpr c33
                    subst c33
                    have H1 : (some false) = some r := by rw [if_neg (show ¬ (false = true) by decide)] at H; exact H
                    clear H
                    have H := H1
                    clear H1
                    obtain rfl := Option.some.inj H
                    obtain ⟨Ao37, co37, eo37⟩ := Kd.R_slice HO_11.out
                    subst eo37
                    go_wp2
                    repeat (go_quiet (fail); try go_wp2)
                    go_ret
                    exact ⟨by first | rfl | (simp [errW_none, errW_some] <;> rfl) | (simp only [← hji5, ← hji6]; first | rfl | (simp [errW_none, errW_some] <;> rfl)) | (simp [*, errW_none, errW_some] <;> rfl), by repeat (first | (with_reducible first | exact HB.out | apply below_alloc | apply pw_below_drewN | apply below_drew1 | refine below_set ?_ GE541.out) | exact HB.out)⟩
          · rw [if_neg c27] at H
            have c27b0 : (t545 == 0) = false := beq_eq_false_iff_ne.mpr c27
            have c27b1 : (t545 != 0) = true := bne_iff_ne.mpr c27
            replace H := Option.bind_eq_some_iff.mp H
            obtain ⟨t552, A380, H⟩ := H
            replace H : (some t552) = some r := H
            have A38 := Aside0.mk A380
            clear A380
            obtain rfl := Option.some.inj H
            go_wp2_with (first | (go_at_call 15; (with_reducible refine (dropperlaw07_First.calls kj9  t552 _ A38.out).mono ?_); rintro e w39 ⟨rfl, hb⟩; have n0_ := Aside0.mk (Kd.R_below (by (with_reducible repeat (first | apply Kd.R_alloc | apply Kd.R_drewN | apply Kd.R_drew)); exact HO_11.out) hb); have n1_ := Aside0.mk (blk_below (g := gb541) (o := .cells #[.int .u16 a1_0, .int .u16 a1_1] 42 (0, 0)) (by (with_reducible repeat (first | refine blk_drewN ?_ _ | refine blk_drew ?_ | refine blk_alloc ?_ _)); exact BK541.out) hb); have n2_ := Aside0.mk (below_step (by repeat (first | (with_reducible first | exact HB.out | apply below_alloc | apply pw_below_drewN | apply below_drew1 | refine below_set ?_ GE541.out) | exact HB.out)) hb); clear HO_11; clear BK541; clear HB; have HO_11 := n0_; have BK541 := n1_; have HB := n2_; clear n0_ n1_ n2_; (try clear hb); (try clear hb2); (try clear hk); (try clear hi)))
            repeat (go_quiet (first | (go_at_call 15; (with_reducible refine (dropperlaw07_First.calls kj9  t552 _ A38.out).mono ?_); rintro e w39 ⟨rfl, hb⟩; have n0_ := Aside0.mk (Kd.R_below (by (with_reducible repeat (first | apply Kd.R_alloc | apply Kd.R_drewN | apply Kd.R_drew)); exact HO_11.out) hb); have n1_ := Aside0.mk (blk_below (g := gb541) (o := .cells #[.int .u16 a1_0, .int .u16 a1_1] 42 (0, 0)) (by (with_reducible repeat (first | refine blk_drewN ?_ _ | refine blk_drew ?_ | refine blk_alloc ?_ _)); exact BK541.out) hb); have n2_ := Aside0.mk (below_step (by repeat (first | (with_reducible first | exact HB.out | apply below_alloc | apply pw_below_drewN | apply below_drew1 | refine below_set ?_ GE541.out) | exact HB.out)) hb); clear HO_11; clear BK541; clear HB; have HO_11 := n0_; have BK541 := n1_; have HB := n2_; clear n0_ n1_ n2_; (try clear hb); (try clear hb2); (try clear hk); (try clear hi))); try go_wp2_with (first | (go_at_call 15; (with_reducible refine (dropperlaw07_First.calls kj9  t552 _ A38.out).mono ?_); rintro e w39 ⟨rfl, hb⟩; have n0_ := Aside0.mk (Kd.R_below (by (with_reducible repeat (first | apply Kd.R_alloc | apply Kd.R_drewN | apply Kd.R_drew)); exact HO_11.out) hb); have n1_ := Aside0.mk (blk_below (g := gb541) (o := .cells #[.int .u16 a1_0, .int .u16 a1_1] 42 (0, 0)) (by (with_reducible repeat (first | refine blk_drewN ?_ _ | refine blk_drew ?_ | refine blk_alloc ?_ _)); exact BK541.out) hb); have n2_ := Aside0.mk (below_step (by repeat (first | (with_reducible first | exact HB.out | apply below_alloc | apply pw_below_drewN | apply below_drew1 | refine below_set ?_ GE541.out) | exact HB.out)) hb); clear HO_11; clear BK541; clear HB; have HO_11 := n0_; have BK541 := n1_; have HB := n2_; clear n0_ n1_ n2_; (try clear hb); (try clear hb2); (try clear hk); (try clear hi))))
            go_ret
            exact ⟨by first | rfl | (simp [errW_none, errW_some] <;> rfl) | (simp only [← hji5, ← hji6]; first | rfl | (simp [errW_none, errW_some] <;> rfl)) | (simp [*, errW_none, errW_some] <;> rfl), by repeat (first | (with_reducible first | exact HB.out | apply below_alloc | apply pw_below_drewN | apply below_drew1 | refine below_set ?_ GE541.out) | exact HB.out)⟩
  · replace c4 := Bool.eq_false_iff.mpr c4
    subst c4
    have H1 : ((dropperlaw07_First.f k).bind fun t543 => (some t543)) = some r := by rw [if_neg (show ¬ (false = true) by decide)] at H; exact H
    clear H
    have H := H1
    clear H1
    replace H := Option.bind_eq_some_iff.mp H
    obtain ⟨t543, A400, H⟩ := H
    replace H : (some t543) = some r := H
    have A40 := Aside0.mk A400
    clear A400
    obtain rfl := Option.some.inj H
    go_enter Try.func8, Try.ntmps8
    go_wp2_with (first | ((with_reducible refine gate_dst (N := 3) rfl ?_); refine box_event ?hg (N := 3) ?hd (cs := #[.int .u16 a1_0, .int .u16 a1_1]) (t := 42) ?hr ?_; (case hd => rfl); (case hg => rfl); (case hr => first | (go_simp; done) | (go_simp; rfl)); intro gb541 hg w41 hbox hb; have n0_ := Aside0.mk (below_step (by repeat (first | (with_reducible first | exact HB.out | apply below_alloc | apply pw_below_drewN | apply below_drew1) | exact HB.out)) hb); have n1_ := Aside0.mk (hbox); have n2_ := Aside0.mk ((by rw [hg]; exact (below_size (by repeat (first | (with_reducible first | exact HB.out | apply below_alloc | apply pw_below_drewN | apply below_drew1) | exact HB.out))) : w.heap.size ≤ gb541)); have n3_ := Aside0.mk ((by rw [hg]; exact (below_size (by repeat (first | (with_reducible first | exact HB.out | apply below_alloc | apply pw_below_drewN | apply below_drew1) | exact HB.out))) : w.heap.size ≤ gb541)); clear HB; have HB := n0_; have BK541 := n1_; have GW541 := n2_; have GE541 := n3_; clear n0_ n1_ n2_ n3_; clear hb hbox hg) | (go_at_call 19; (with_reducible refine (dropperref07_Valid.calls k _ _ l0 false _ ?side1 ?side2 A3.out).mono ?_); (case side1 => repeat (first | exact (Kd.C_below HR0.out HB.out) | (with_reducible refine Kd.C_alloc ?_ _) | (with_reducible refine Kd.C_drewN ?_ _) | (with_reducible refine Kd.C_drew ?_))); (case side2 => exact HC0.out); rintro e w' ⟨rfl, ⟨nd, rfl⟩⟩; (try first | exact ⟨rfl, _, World.drewN_drewN _ _ _⟩ | exact ⟨rfl, _, Eq.trans (World.drewN_drewN _ _ _) (congrArg (World.drewN _) (Nat.add_assoc _ _ _))⟩)) | (go_at_call 15; (with_reducible refine (dropperlaw07_First.calls k  t543 _ A40.out).mono ?_); rintro e w42 ⟨rfl, hb⟩; have n0_ := Aside0.mk (blk_below (g := gb541) (o := .cells #[.int .u16 a1_0, .int .u16 a1_1] 42 (0, 0)) (by (with_reducible repeat (first | refine blk_drewN ?_ _ | refine blk_drew ?_ | refine blk_alloc ?_ _)); exact BK541.out) hb); have n1_ := Aside0.mk (below_step (by repeat (first | (with_reducible first | exact HB.out | apply below_alloc | apply pw_below_drewN | apply below_drew1 | refine below_set ?_ GE541.out) | exact HB.out)) hb); clear BK541; clear HB; have BK541 := n0_; have HB := n1_; clear n0_ n1_; (try clear hb); (try clear hb2); (try clear hk); (try clear hi)))
    repeat (go_quiet (first | ((with_reducible refine gate_dst (N := 3) rfl ?_); refine box_event ?hg (N := 3) ?hd (cs := #[.int .u16 a1_0, .int .u16 a1_1]) (t := 42) ?hr ?_; (case hd => rfl); (case hg => rfl); (case hr => first | (go_simp; done) | (go_simp; rfl)); intro gb541 hg w41 hbox hb; have n0_ := Aside0.mk (below_step (by repeat (first | (with_reducible first | exact HB.out | apply below_alloc | apply pw_below_drewN | apply below_drew1) | exact HB.out)) hb); have n1_ := Aside0.mk (hbox); have n2_ := Aside0.mk ((by rw [hg]; exact (below_size (by repeat (first | (with_reducible first | exact HB.out | apply below_alloc | apply pw_below_drewN | apply below_drew1) | exact HB.out))) : w.heap.size ≤ gb541)); have n3_ := Aside0.mk ((by rw [hg]; exact (below_size (by repeat (first | (with_reducible first | exact HB.out | apply below_alloc | apply pw_below_drewN | apply below_drew1) | exact HB.out))) : w.heap.size ≤ gb541)); clear HB; have HB := n0_; have BK541 := n1_; have GW541 := n2_; have GE541 := n3_; clear n0_ n1_ n2_ n3_; clear hb hbox hg) | (go_at_call 19; (with_reducible refine (dropperref07_Valid.calls k _ _ l0 false _ ?side1 ?side2 A3.out).mono ?_); (case side1 => repeat (first | exact (Kd.C_below HR0.out HB.out) | (with_reducible refine Kd.C_alloc ?_ _) | (with_reducible refine Kd.C_drewN ?_ _) | (with_reducible refine Kd.C_drew ?_))); (case side2 => exact HC0.out); rintro e w' ⟨rfl, ⟨nd, rfl⟩⟩; (try first | exact ⟨rfl, _, World.drewN_drewN _ _ _⟩ | exact ⟨rfl, _, Eq.trans (World.drewN_drewN _ _ _) (congrArg (World.drewN _) (Nat.add_assoc _ _ _))⟩)) | (go_at_call 15; (with_reducible refine (dropperlaw07_First.calls k  t543 _ A40.out).mono ?_); rintro e w42 ⟨rfl, hb⟩; have n0_ := Aside0.mk (blk_below (g := gb541) (o := .cells #[.int .u16 a1_0, .int .u16 a1_1] 42 (0, 0)) (by (with_reducible repeat (first | refine blk_drewN ?_ _ | refine blk_drew ?_ | refine blk_alloc ?_ _)); exact BK541.out) hb); have n1_ := Aside0.mk (below_step (by repeat (first | (with_reducible first | exact HB.out | apply below_alloc | apply pw_below_drewN | apply below_drew1 | refine below_set ?_ GE541.out) | exact HB.out)) hb); clear BK541; clear HB; have BK541 := n0_; have HB := n1_; clear n0_ n1_; (try clear hb); (try clear hb2); (try clear hk); (try clear hi))); try go_wp2_with (first | ((with_reducible refine gate_dst (N := 3) rfl ?_); refine box_event ?hg (N := 3) ?hd (cs := #[.int .u16 a1_0, .int .u16 a1_1]) (t := 42) ?hr ?_; (case hd => rfl); (case hg => rfl); (case hr => first | (go_simp; done) | (go_simp; rfl)); intro gb541 hg w41 hbox hb; have n0_ := Aside0.mk (below_step (by repeat (first | (with_reducible first | exact HB.out | apply below_alloc | apply pw_below_drewN | apply below_drew1) | exact HB.out)) hb); have n1_ := Aside0.mk (hbox); have n2_ := Aside0.mk ((by rw [hg]; exact (below_size (by repeat (first | (with_reducible first | exact HB.out | apply below_alloc | apply pw_below_drewN | apply below_drew1) | exact HB.out))) : w.heap.size ≤ gb541)); have n3_ := Aside0.mk ((by rw [hg]; exact (below_size (by repeat (first | (with_reducible first | exact HB.out | apply below_alloc | apply pw_below_drewN | apply below_drew1) | exact HB.out))) : w.heap.size ≤ gb541)); clear HB; have HB := n0_; have BK541 := n1_; have GW541 := n2_; have GE541 := n3_; clear n0_ n1_ n2_ n3_; clear hb hbox hg) | (go_at_call 19; (with_reducible refine (dropperref07_Valid.calls k _ _ l0 false _ ?side1 ?side2 A3.out).mono ?_); (case side1 => repeat (first | exact (Kd.C_below HR0.out HB.out) | (with_reducible refine Kd.C_alloc ?_ _) | (with_reducible refine Kd.C_drewN ?_ _) | (with_reducible refine Kd.C_drew ?_))); (case side2 => exact HC0.out); rintro e w' ⟨rfl, ⟨nd, rfl⟩⟩; (try first | exact ⟨rfl, _, World.drewN_drewN _ _ _⟩ | exact ⟨rfl, _, Eq.trans (World.drewN_drewN _ _ _) (congrArg (World.drewN _) (Nat.add_assoc _ _ _))⟩)) | (go_at_call 15; (with_reducible refine (dropperlaw07_First.calls k  t543 _ A40.out).mono ?_); rintro e w42 ⟨rfl, hb⟩; have n0_ := Aside0.mk (blk_below (g := gb541) (o := .cells #[.int .u16 a1_0, .int .u16 a1_1] 42 (0, 0)) (by (with_reducible repeat (first | refine blk_drewN ?_ _ | refine blk_drew ?_ | refine blk_alloc ?_ _)); exact BK541.out) hb); have n1_ := Aside0.mk (below_step (by repeat (first | (with_reducible first | exact HB.out | apply below_alloc | apply pw_below_drewN | apply below_drew1 | refine below_set ?_ GE541.out) | exact HB.out)) hb); clear BK541; clear HB; have BK541 := n0_; have HB := n1_; clear n0_ n1_; (try clear hb); (try clear hb2); (try clear hk); (try clear hi))))
    go_ret
    exact ⟨by first | rfl | (simp [errW_none, errW_some] <;> rfl) | (simp [*, errW_none, errW_some] <;> rfl), by repeat (first | (with_reducible first | exact HB.out | apply below_alloc | apply pw_below_drewN | apply below_drew1 | refine below_set ?_ GE541.out) | exact HB.out)⟩

end Go.Proofs.Ytpdcpekjafcohaa.XWear
