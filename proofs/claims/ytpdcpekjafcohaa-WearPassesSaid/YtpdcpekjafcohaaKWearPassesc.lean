-- Written by wip/pack.py of this repo: texts of this claim, put together.
import Derived.Test.YtpdcpekjafcohaaKWearPassesb
namespace Go.Proofs.Ytpdcpekjafcohaa.XWear
open Go.RowKit Go.Proofs.YtpdcpekjafcohaaW.PrintWords Go.Proofs.YtpdcpekjafcohaaW.PrintLast Go.Proofs.YtpdcpekjafcohaaW.PrintMore
attribute [local go_sem] max2_int min2_int max_two min_two max_three min_three max_four min_four   -- for this text's walks alone
set_option linter.unusedVariables false
set_option linter.unusedSimpArgs false
/-! ### dropperlaw07_First: function 15 -/
def dropperlaw07_First.f (k : Nat)  : Option (Bool) := (wear_Nearest.f k (([1, 3, 2, 4] : List Int))).bind fun bt172 => ((wear_Median.f k (([1, 9, 2, 3] : List Int)) 1).bind fun bt179 => (if bt172.2 = 0 then (if bt179.2 = 0 then ((dropperlaw07_SameRatios.f k bt172.1 (([(⟨1, 1⟩ : S35), (⟨5, 2⟩ : S35), (⟨5, 2⟩ : S35), (⟨4, 1⟩ : S35)] : List (S35)))).bind fun t186 => (if t186 = true then ((dropperlaw07_SameInts.f k bt179.1 (([1, 2, 3, 3] : List Int))).bind fun t190 => (some t190)) else (some false))) else (some false)) else (some false)))
theorem dropperlaw07_First.mono : ∀ k, LeO (dropperlaw07_First.f k ) (dropperlaw07_First.f (k + 1) ) := by
 intro  k
 unfold dropperlaw07_First.f
 repeat' first
   | (with_reducible exact dropperlaw07_SameInts.mono _ _ _)
   | (with_reducible exact dropperlaw07_SameRatios.mono _ _ _)
   | (with_reducible exact wear_Median.mono _ _ _)
   | (with_reducible exact wear_Nearest.mono _ _)
   | (with_reducible exact LeO.refl _)
   | (with_reducible exact LeO.none _)
   | (with_reducible refine LeO.ite ?_ ?_)
   | (with_reducible refine LeO.bind ?_ (fun _ => ?_))
   | exact dropperlaw07_SameInts.mono _ _ _
   | exact dropperlaw07_SameRatios.mono _ _ _
   | exact wear_Median.mono _ _ _
   | exact wear_Nearest.mono _ _
   | exact LeO.none _
   | refine LeO.ite ?_ ?_
   | refine LeO.bind ?_ (fun _ => ?_)
set_option maxHeartbeats 8000000 in
set_option maxRecDepth 100000 in
theorem dropperlaw07_First.calls (k : Nat)  (r : Bool) (w : World) (h : dropperlaw07_First.f k  = some r) :
  Calls Try.prog 15 #[] w fun e w' => e = .returned (.bool r) ∧ Below w.heap.size w w' := by
 have hu35 := Try.underlying35
 have HB := Aside0.mk (Below.refl w.heap.size w)
 have H : ((wear_Nearest.f k (([1, 3, 2, 4] : List Int))).bind fun bt172 => ((wear_Median.f k (([1, 9, 2, 3] : List Int)) 1).bind fun bt179 => (if bt172.2 = 0 then (if bt179.2 = 0 then ((dropperlaw07_SameRatios.f k bt172.1 (([(⟨1, 1⟩ : S35), (⟨5, 2⟩ : S35), (⟨5, 2⟩ : S35), (⟨4, 1⟩ : S35)] : List (S35)))).bind fun t186 => (if t186 = true then ((dropperlaw07_SameInts.f k bt179.1 (([1, 2, 3, 3] : List Int))).bind fun t190 => (some t190)) else (some false))) else (some false)) else (some false)))) = some r := h
 clear h
 obtain ⟨y169, hy169⟩ : ∃ y_ : List Int, y_ = (([1, 3, 2, 4] : List Int)) := ⟨_, rfl⟩
 replace H : ((wear_Nearest.f k y169).bind fun bt172 => ((wear_Median.f k (([1, 9, 2, 3] : List Int)) 1).bind fun bt179 => (if bt172.2 = 0 then (if bt179.2 = 0 then ((dropperlaw07_SameRatios.f k bt172.1 (([(⟨1, 1⟩ : S35), (⟨5, 2⟩ : S35), (⟨5, 2⟩ : S35), (⟨4, 1⟩ : S35)] : List (S35)))).bind fun t186 => (if t186 = true then ((dropperlaw07_SameInts.f k bt179.1 (([1, 2, 3, 3] : List Int))).bind fun t190 => (some t190)) else (some false))) else (some false)) else (some false)))) = some r := by first | (rw [hy169]; with_reducible exact H) | (have H2_ := (Option.bind_some _ _).symm.trans H; rw [hy169]; with_reducible exact H2_) | (have H2_ := (Option.bind_some _ _).symm.trans H; with_reducible exact H2_) | with_reducible exact H | (rw [hy169]; exact H) | exact H
 have Ny169 := Aside0.mk hy169
 clear hy169
 replace H := Option.bind_eq_some_iff.mp H
 obtain ⟨⟨t172, t173⟩, A10, H⟩ := H
 replace H : ((wear_Median.f k (([1, 9, 2, 3] : List Int)) 1).bind fun bt179 => (if t173 = 0 then (if bt179.2 = 0 then ((dropperlaw07_SameRatios.f k t172 (([(⟨1, 1⟩ : S35), (⟨5, 2⟩ : S35), (⟨5, 2⟩ : S35), (⟨4, 1⟩ : S35)] : List (S35)))).bind fun t186 => (if t186 = true then ((dropperlaw07_SameInts.f k bt179.1 (([1, 2, 3, 3] : List Int))).bind fun t190 => (some t190)) else (some false))) else (some false)) else (some false))) = some r := H
 have A1 := Aside0.mk A10
 clear A10
 obtain ⟨y176, hy176⟩ : ∃ y_ : List Int, y_ = (([1, 9, 2, 3] : List Int)) := ⟨_, rfl⟩
 replace H : ((wear_Median.f k y176 1).bind fun bt179 => (if t173 = 0 then (if bt179.2 = 0 then ((dropperlaw07_SameRatios.f k t172 (([(⟨1, 1⟩ : S35), (⟨5, 2⟩ : S35), (⟨5, 2⟩ : S35), (⟨4, 1⟩ : S35)] : List (S35)))).bind fun t186 => (if t186 = true then ((dropperlaw07_SameInts.f k bt179.1 (([1, 2, 3, 3] : List Int))).bind fun t190 => (some t190)) else (some false))) else (some false)) else (some false))) = some r := by first | (rw [hy176]; with_reducible exact H) | (have H2_ := (Option.bind_some _ _).symm.trans H; rw [hy176]; with_reducible exact H2_) | (have H2_ := (Option.bind_some _ _).symm.trans H; with_reducible exact H2_) | with_reducible exact H | (rw [hy176]; exact H) | exact H
 have Ny176 := Aside0.mk hy176
 clear hy176
 replace H := Option.bind_eq_some_iff.mp H
 obtain ⟨⟨t179, t180⟩, A20, H⟩ := H
 replace H : (if t173 = 0 then (if t180 = 0 then ((dropperlaw07_SameRatios.f k t172 (([(⟨1, 1⟩ : S35), (⟨5, 2⟩ : S35), (⟨5, 2⟩ : S35), (⟨4, 1⟩ : S35)] : List (S35)))).bind fun t186 => (if t186 = true then ((dropperlaw07_SameInts.f k t179 (([1, 2, 3, 3] : List Int))).bind fun t190 => (some t190)) else (some false))) else (some false)) else (some false)) = some r := H
 have A2 := Aside0.mk A20
 clear A20
 by_cases c3 : t173 = 0
 ·
  rw [if_pos c3] at H
  have c3b0 : (t173 == 0) = true := beq_iff_eq.mpr c3
  have c3b1 : (t173 != 0) = false := bne_eq_false_iff_eq.mpr c3
  clear c3
  by_cases c4 : t180 = 0
  ·
   rw [if_pos c4] at H
   have c4b0 : (t180 == 0) = true := beq_iff_eq.mpr c4
   have c4b1 : (t180 != 0) = false := bne_eq_false_iff_eq.mpr c4
   clear c4
   obtain ⟨y183, hy183⟩ : ∃ y_ : List (S35), y_ = (([(⟨1, 1⟩ : S35), (⟨5, 2⟩ : S35), (⟨5, 2⟩ : S35), (⟨4, 1⟩ : S35)] : List (S35))) := ⟨_, rfl⟩
   replace H : ((dropperlaw07_SameRatios.f k t172 y183).bind fun t186 => (if t186 = true then ((dropperlaw07_SameInts.f k t179 (([1, 2, 3, 3] : List Int))).bind fun t190 => (some t190)) else (some false))) = some r := by first | (rw [hy183]; with_reducible exact H) | (have H2_ := (Option.bind_some _ _).symm.trans H; rw [hy183]; with_reducible exact H2_) | (have H2_ := (Option.bind_some _ _).symm.trans H; with_reducible exact H2_) | with_reducible exact H | (rw [hy183]; exact H) | exact H
   have Ny183 := Aside0.mk hy183
   clear hy183
   replace H := Option.bind_eq_some_iff.mp H
   obtain ⟨t186, A50, H⟩ := H
   replace H : (if t186 = true then ((dropperlaw07_SameInts.f k t179 (([1, 2, 3, 3] : List Int))).bind fun t190 => (some t190)) else (some false)) = some r := H
   have A5 := Aside0.mk A50
   clear A50
   by_cases c6 : t186 = true
   ·
    subst c6
    have H1 : ((dropperlaw07_SameInts.f k t179 (([1, 2, 3, 3] : List Int))).bind fun t190 => (some t190)) = some r := by rw [if_pos rfl] at H; exact H
    clear H
    have H := H1
    clear H1
    obtain ⟨y187, hy187⟩ : ∃ y_ : List Int, y_ = (([1, 2, 3, 3] : List Int)) := ⟨_, rfl⟩
    replace H : ((dropperlaw07_SameInts.f k t179 y187).bind fun t190 => (some t190)) = some r := by first | (rw [hy187]; with_reducible exact H) | (have H2_ := (Option.bind_some _ _).symm.trans H; rw [hy187]; with_reducible exact H2_) | (have H2_ := (Option.bind_some _ _).symm.trans H; with_reducible exact H2_) | with_reducible exact H | (rw [hy187]; exact H) | exact H
    have Ny187 := Aside0.mk hy187
    clear hy187
    replace H := Option.bind_eq_some_iff.mp H
    obtain ⟨t190, A70, H⟩ := H
    replace H : (some t190) = some r := H
    have A7 := Aside0.mk A70
    clear A70
    obtain rfl := Option.some.inj H
    go_enter Try.func15, Try.ntmps15
    go_wp2_with (first | ((with_reducible refine gate_dst (N := 6) rfl ?_); (try (refine gate_guard (by rfl) ?_; dsimp only)); refine Kd.R_lit (Kd.int .i64) _ 3 ?hg (N := 6) ?hd (xs := ([1, 3, 2, 4] : List Int)) (inner := [.int .i64 1, .int .i64 3, .int .i64 2, .int .i64 4]) (ok := fun _ => True) (okp := fun _ => True) ?hr ?hp (fun _ hk => hk) trivial (Below.refl _ _) (Nat.le_refl _) (by simp) ?_; (case hd => rfl); (case hg => rfl); (case hr => first | (go_simp; done) | (go_simp; rfl)); (case hp => exact (Reps.one (show Kd.M (Kd.int .i64) _ _ _ 1 [.int .i64 1] from rfl) (Reps.one (show Kd.M (Kd.int .i64) _ _ _ 3 [.int .i64 3] from rfl) (Reps.one (show Kd.M (Kd.int .i64) _ _ _ 2 [.int .i64 2] from rfl) (Reps.one (show Kd.M (Kd.int .i64) _ _ _ 4 [.int .i64 4] from rfl) (Reps.none _ _)))))); intro v170 w8 ho9 hb hg_ hnew_; clear hg_ hnew_; (first | rw [← Ny169.out] at ho9 | (simp only [Int.reduceToNat] at ho9; rw [← Ny169.out] at ho9)); have HO171 := Aside0.mk (Kd.R_lower ho9 (below_size bel)); replace HB := Aside0.mk (below_step bel hb); clear hb ho9; obtain ⟨Ao10, co10, eo10⟩ := Kd.R_slice HO171.out; subst eo10) | ((with_reducible refine gate_callee (f := 20) rfl ?_); refine goesL_ (some 7) rfl rfl Try.func20 (by kernel_rfl) rfl #[.slice Ao10 y169.length co10] rfl mapz ?_; (with_reducible refine (wear_Nearest.calls k _ _ y169 t172 t173 _ ?side1 ?side2 A1.out).mono ?_); (case side1 => repeat (first | exact (Kd.R_reads' HO171.out).2.2 | (with_reducible refine Kd.C_alloc ?_ _) | (with_reducible refine Kd.C_drewN ?_ _) | (with_reducible refine Kd.C_drew ?_))); (case side2 => exact (Kd.R_reads' HO171.out).2.1); rintro e w11 ⟨v174, rfl, ho0, hb⟩; refine ⟨_, rfl, ?_⟩; have HO175 := Aside0.mk (Kd.R_lower ho0 (below_size bel)); replace HO171 := Aside0.mk (Kd.R_below (ownx HO171) hb); replace HB := Aside0.mk (below_step bel hb); (try clear hb); (try clear hb2); (try clear hk); (try clear hi); (try clear ho0)) | ((with_reducible refine gate_dst (N := 11) rfl ?_); (try (refine gate_guard (by rfl) ?_; dsimp only)); refine Kd.R_lit (Kd.int .i64) _ 3 ?hg (N := 11) ?hd (xs := ([1, 9, 2, 3] : List Int)) (inner := [.int .i64 1, .int .i64 9, .int .i64 2, .int .i64 3]) (ok := fun _ => True) (okp := fun _ => True) ?hr ?hp (fun _ hk => hk) trivial (Below.refl _ _) (Nat.le_refl _) (by simp) ?_; (case hd => rfl); (case hg => rfl); (case hr => first | (go_simp; done) | (go_simp; rfl)); (case hp => exact (Reps.one (show Kd.M (Kd.int .i64) _ _ _ 1 [.int .i64 1] from rfl) (Reps.one (show Kd.M (Kd.int .i64) _ _ _ 9 [.int .i64 9] from rfl) (Reps.one (show Kd.M (Kd.int .i64) _ _ _ 2 [.int .i64 2] from rfl) (Reps.one (show Kd.M (Kd.int .i64) _ _ _ 3 [.int .i64 3] from rfl) (Reps.none _ _)))))); intro v177 w12 ho13 hb hg_ hnew_; clear hg_ hnew_; (first | rw [← Ny176.out] at ho13 | (simp only [Int.reduceToNat] at ho13; rw [← Ny176.out] at ho13)); have HO178 := Aside0.mk (Kd.R_lower (Kd.R_new' ho13 (Kd.R_lt (ownx HO171))) (below_size bel)); replace HO171 := Aside0.mk (Kd.R_elder' (ownx HO171) (Kd.R_base ho13) hb); replace HO175 := Aside0.mk (Kd.R_below (ownx HO175) hb); replace HB := Aside0.mk (below_step bel hb); clear hb ho13; obtain ⟨Ao14, co14, eo14⟩ := Kd.R_slice HO178.out; subst eo14) | ((with_reducible refine gate_callee (f := 16) rfl ?_); refine goesL_ (some 12) rfl rfl Try.func16 (by kernel_rfl) rfl #[.slice Ao14 y176.length co14, .int .i64 1] rfl mapz ?_; (with_reducible refine (wear_Median.calls k _ _ y176 1 t179 t180 _ ?side1 ?side2 A2.out).mono ?_); (case side1 => repeat (first | exact (Kd.R_reads' HO178.out).2.2 | (with_reducible refine Kd.C_alloc ?_ _) | (with_reducible refine Kd.C_drewN ?_ _) | (with_reducible refine Kd.C_drew ?_))); (case side2 => exact (Kd.R_reads' HO178.out).2.1); rintro e w15 ⟨v181, rfl, ho0, hb⟩; refine ⟨_, rfl, ?_⟩; have HO182 := Aside0.mk (Kd.R_lower (Kd.R_new' (Kd.R_new' ho0 (Kd.R_lt (ownx HO171))) (Kd.R_lt (ownx HO178))) (below_size bel)); replace HO171 := Aside0.mk (Kd.R_elder' (ownx HO171) (Kd.R_base ho0) hb); replace HO175 := Aside0.mk (Kd.R_below (ownx HO175) hb); replace HO178 := Aside0.mk (Kd.R_elder' (ownx HO178) (Kd.R_base ho0) hb); replace HB := Aside0.mk (below_step bel hb); (try clear hb); (try clear hb2); (try clear hk); (try clear hi); (try clear ho0)) | ((with_reducible refine gate_dst (N := 27) rfl ?_); (try (refine gate_guard (by rfl) ?_; dsimp only)); refine Kd.R_lit k35 _ 35 ?hg (N := 27) ?hd (xs := ([(⟨1, 1⟩ : S35), (⟨5, 2⟩ : S35), (⟨5, 2⟩ : S35), (⟨4, 1⟩ : S35)] : List (S35))) (inner := [.int .i64 1, .int .i64 1, .int .i64 5, .int .i64 2, .int .i64 5, .int .i64 2, .int .i64 4, .int .i64 1]) (ok := fun _ => True) (okp := fun _ => True) ?hr ?hp (fun _ hk => hk) trivial (Below.refl _ _) (Nat.le_refl _) (by simp) ?_; (case hd => rfl); (case hg => rfl); (case hr => first | (go_simp; done) | (go_simp; rfl)); (case hp => exact (Reps.c2 (show Kd.M k35 _ _ _ (⟨1, 1⟩ : S35) [.int .i64 1, .int .i64 1] from (k35_mkM _ _ _ (⟨1, 1⟩ : S35) )) (Reps.c2 (show Kd.M k35 _ _ _ (⟨5, 2⟩ : S35) [.int .i64 5, .int .i64 2] from (k35_mkM _ _ _ (⟨5, 2⟩ : S35) )) (Reps.c2 (show Kd.M k35 _ _ _ (⟨5, 2⟩ : S35) [.int .i64 5, .int .i64 2] from (k35_mkM _ _ _ (⟨5, 2⟩ : S35) )) (Reps.c2 (show Kd.M k35 _ _ _ (⟨4, 1⟩ : S35) [.int .i64 4, .int .i64 1] from (k35_mkM _ _ _ (⟨4, 1⟩ : S35) )) (Reps.none _ _)))))); intro v184 w16 ho17 hb hg_ hnew_; clear hg_ hnew_; (first | rw [← Ny183.out] at ho17 | (simp only [Int.reduceToNat] at ho17; rw [← Ny183.out] at ho17)); have HO185 := Aside0.mk (Kd.R_lower (Kd.R_new' ho17 (Kd.R_lt (ownx HO175))) (below_size bel)); replace HO171 := Aside0.mk (Kd.R_below (ownx HO171) hb); replace HO175 := Aside0.mk (Kd.R_elder' (ownx HO175) (Kd.R_base ho17) hb); replace HO178 := Aside0.mk (Kd.R_below (ownx HO178) hb); replace HO182 := Aside0.mk (Kd.R_below (ownx HO182) hb); replace HB := Aside0.mk (below_step bel hb); clear hb ho17; obtain ⟨Ao18, co18, eo18⟩ := Kd.R_slice HO175.out; subst eo18; obtain ⟨Ao19, co19, eo19⟩ := Kd.R_slice HO185.out; subst eo19) | (go_at_call 28; (with_reducible refine (dropperlaw07_SameRatios.calls k _ _ t172 _ _ y183 true _ ?side1 ?side2 ?side3 ?side4 A5.out).mono ?_); (case side1 => repeat (first | exact (Kd.R_reads' HO175.out).2.2 | (with_reducible refine Kd.C_alloc ?_ _) | (with_reducible refine Kd.C_drewN ?_ _) | (with_reducible refine Kd.C_drew ?_))); (case side2 => exact (Kd.R_reads' HO175.out).2.1); (case side3 => repeat (first | exact (Kd.R_reads' HO185.out).2.2 | (with_reducible refine Kd.C_alloc ?_ _) | (with_reducible refine Kd.C_drewN ?_ _) | (with_reducible refine Kd.C_drew ?_))); (case side4 => exact (Kd.R_reads' HO185.out).2.1); rintro e w' ⟨rfl, ⟨nd, rfl⟩⟩) | ((with_reducible refine gate_dst (N := 32) rfl ?_); (try (refine gate_guard (by rfl) ?_; dsimp only)); refine Kd.R_lit (Kd.int .i64) _ 3 ?hg (N := 32) ?hd (xs := ([1, 2, 3, 3] : List Int)) (inner := [.int .i64 1, .int .i64 2, .int .i64 3, .int .i64 3]) (ok := fun _ => True) (okp := fun _ => True) ?hr ?hp (fun _ hk => hk) trivial (Below.refl _ _) (Nat.le_refl _) (by simp) ?_; (case hd => rfl); (case hg => rfl); (case hr => first | (go_simp; done) | (go_simp; rfl)); (case hp => exact (Reps.one (show Kd.M (Kd.int .i64) _ _ _ 1 [.int .i64 1] from rfl) (Reps.one (show Kd.M (Kd.int .i64) _ _ _ 2 [.int .i64 2] from rfl) (Reps.one (show Kd.M (Kd.int .i64) _ _ _ 3 [.int .i64 3] from rfl) (Reps.one (show Kd.M (Kd.int .i64) _ _ _ 3 [.int .i64 3] from rfl) (Reps.none _ _)))))); intro v188 w20 ho21 hb hg_ hnew_; clear hg_ hnew_; (first | rw [← Ny187.out] at ho21 | (simp only [Int.reduceToNat] at ho21; rw [← Ny187.out] at ho21)); have HO189 := Aside0.mk (Kd.R_lower (Kd.R_new' (Kd.R_new' (Kd.R_new' ho21 (Kd.R_lt (ownx HO171))) (Kd.R_lt (ownx HO178))) (Kd.R_lt (ownx HO182))) (below_size bel)); replace HO171 := Aside0.mk (Kd.R_elder' (ownx HO171) (Kd.R_base ho21) hb); replace HO175 := Aside0.mk (Kd.R_below (ownx HO175) hb); replace HO178 := Aside0.mk (Kd.R_elder' (ownx HO178) (Kd.R_base ho21) hb); replace HO182 := Aside0.mk (Kd.R_elder' (ownx HO182) (Kd.R_base ho21) hb); replace HO185 := Aside0.mk (Kd.R_below (ownx HO185) hb); replace HB := Aside0.mk (below_step bel hb); clear hb ho21; obtain ⟨Ao22, co22, eo22⟩ := Kd.R_slice HO182.out; subst eo22; obtain ⟨Ao23, co23, eo23⟩ := Kd.R_slice HO189.out; subst eo23) | (go_at_call 18; (with_reducible refine (dropperlaw07_SameInts.calls k _ _ t179 _ _ y187 t190 _ ?side1 ?side2 ?side3 ?side4 A7.out).mono ?_); (case side1 => repeat (first | exact (Kd.R_reads' HO182.out).2.2 | (with_reducible refine Kd.C_alloc ?_ _) | (with_reducible refine Kd.C_drewN ?_ _) | (with_reducible refine Kd.C_drew ?_))); (case side2 => exact (Kd.R_reads' HO182.out).2.1); (case side3 => repeat (first | exact (Kd.R_reads' HO189.out).2.2 | (with_reducible refine Kd.C_alloc ?_ _) | (with_reducible refine Kd.C_drewN ?_ _) | (with_reducible refine Kd.C_drew ?_))); (case side4 => exact (Kd.R_reads' HO189.out).2.1); rintro e w' ⟨rfl, ⟨nd, rfl⟩⟩))
    go_ret
    exact ⟨ezz, bel⟩
   ·
    replace c6 := Bool.eq_false_iff.mpr c6
    subst c6
    have H1 : (some false) = some r := by rw [if_neg (show ¬ (false = true) by decide)] at H; exact H
    clear H
    have H := H1
    clear H1
    obtain rfl := Option.some.inj H
    go_enter Try.func15, Try.ntmps15
    go_wp2_with (first | ((with_reducible refine gate_dst (N := 6) rfl ?_); (try (refine gate_guard (by rfl) ?_; dsimp only)); refine Kd.R_lit (Kd.int .i64) _ 3 ?hg (N := 6) ?hd (xs := ([1, 3, 2, 4] : List Int)) (inner := [.int .i64 1, .int .i64 3, .int .i64 2, .int .i64 4]) (ok := fun _ => True) (okp := fun _ => True) ?hr ?hp (fun _ hk => hk) trivial (Below.refl _ _) (Nat.le_refl _) (by simp) ?_; (case hd => rfl); (case hg => rfl); (case hr => first | (go_simp; done) | (go_simp; rfl)); (case hp => exact (Reps.one (show Kd.M (Kd.int .i64) _ _ _ 1 [.int .i64 1] from rfl) (Reps.one (show Kd.M (Kd.int .i64) _ _ _ 3 [.int .i64 3] from rfl) (Reps.one (show Kd.M (Kd.int .i64) _ _ _ 2 [.int .i64 2] from rfl) (Reps.one (show Kd.M (Kd.int .i64) _ _ _ 4 [.int .i64 4] from rfl) (Reps.none _ _)))))); intro v170 w24 ho25 hb hg_ hnew_; clear hg_ hnew_; (first | rw [← Ny169.out] at ho25 | (simp only [Int.reduceToNat] at ho25; rw [← Ny169.out] at ho25)); have HO171 := Aside0.mk (Kd.R_lower ho25 (below_size bel)); replace HB := Aside0.mk (below_step bel hb); clear hb ho25; obtain ⟨Ao26, co26, eo26⟩ := Kd.R_slice HO171.out; subst eo26) | ((with_reducible refine gate_callee (f := 20) rfl ?_); refine goesL_ (some 7) rfl rfl Try.func20 (by kernel_rfl) rfl #[.slice Ao26 y169.length co26] rfl mapz ?_; (with_reducible refine (wear_Nearest.calls k _ _ y169 t172 t173 _ ?side1 ?side2 A1.out).mono ?_); (case side1 => repeat (first | exact (Kd.R_reads' HO171.out).2.2 | (with_reducible refine Kd.C_alloc ?_ _) | (with_reducible refine Kd.C_drewN ?_ _) | (with_reducible refine Kd.C_drew ?_))); (case side2 => exact (Kd.R_reads' HO171.out).2.1); rintro e w27 ⟨v174, rfl, ho0, hb⟩; refine ⟨_, rfl, ?_⟩; have HO175 := Aside0.mk (Kd.R_lower ho0 (below_size bel)); replace HO171 := Aside0.mk (Kd.R_below (ownx HO171) hb); replace HB := Aside0.mk (below_step bel hb); (try clear hb); (try clear hb2); (try clear hk); (try clear hi); (try clear ho0)) | ((with_reducible refine gate_dst (N := 11) rfl ?_); (try (refine gate_guard (by rfl) ?_; dsimp only)); refine Kd.R_lit (Kd.int .i64) _ 3 ?hg (N := 11) ?hd (xs := ([1, 9, 2, 3] : List Int)) (inner := [.int .i64 1, .int .i64 9, .int .i64 2, .int .i64 3]) (ok := fun _ => True) (okp := fun _ => True) ?hr ?hp (fun _ hk => hk) trivial (Below.refl _ _) (Nat.le_refl _) (by simp) ?_; (case hd => rfl); (case hg => rfl); (case hr => first | (go_simp; done) | (go_simp; rfl)); (case hp => exact (Reps.one (show Kd.M (Kd.int .i64) _ _ _ 1 [.int .i64 1] from rfl) (Reps.one (show Kd.M (Kd.int .i64) _ _ _ 9 [.int .i64 9] from rfl) (Reps.one (show Kd.M (Kd.int .i64) _ _ _ 2 [.int .i64 2] from rfl) (Reps.one (show Kd.M (Kd.int .i64) _ _ _ 3 [.int .i64 3] from rfl) (Reps.none _ _)))))); intro v177 w28 ho29 hb hg_ hnew_; clear hg_ hnew_; (first | rw [← Ny176.out] at ho29 | (simp only [Int.reduceToNat] at ho29; rw [← Ny176.out] at ho29)); have HO178 := Aside0.mk (Kd.R_lower (Kd.R_new' ho29 (Kd.R_lt (ownx HO171))) (below_size bel)); replace HO171 := Aside0.mk (Kd.R_elder' (ownx HO171) (Kd.R_base ho29) hb); replace HO175 := Aside0.mk (Kd.R_below (ownx HO175) hb); replace HB := Aside0.mk (below_step bel hb); clear hb ho29; obtain ⟨Ao30, co30, eo30⟩ := Kd.R_slice HO178.out; subst eo30) | ((with_reducible refine gate_callee (f := 16) rfl ?_); refine goesL_ (some 12) rfl rfl Try.func16 (by kernel_rfl) rfl #[.slice Ao30 y176.length co30, .int .i64 1] rfl mapz ?_; (with_reducible refine (wear_Median.calls k _ _ y176 1 t179 t180 _ ?side1 ?side2 A2.out).mono ?_); (case side1 => repeat (first | exact (Kd.R_reads' HO178.out).2.2 | (with_reducible refine Kd.C_alloc ?_ _) | (with_reducible refine Kd.C_drewN ?_ _) | (with_reducible refine Kd.C_drew ?_))); (case side2 => exact (Kd.R_reads' HO178.out).2.1); rintro e w31 ⟨v181, rfl, ho0, hb⟩; refine ⟨_, rfl, ?_⟩; have HO182 := Aside0.mk (Kd.R_lower (Kd.R_new' (Kd.R_new' ho0 (Kd.R_lt (ownx HO171))) (Kd.R_lt (ownx HO178))) (below_size bel)); replace HO171 := Aside0.mk (Kd.R_elder' (ownx HO171) (Kd.R_base ho0) hb); replace HO175 := Aside0.mk (Kd.R_below (ownx HO175) hb); replace HO178 := Aside0.mk (Kd.R_elder' (ownx HO178) (Kd.R_base ho0) hb); replace HB := Aside0.mk (below_step bel hb); (try clear hb); (try clear hb2); (try clear hk); (try clear hi); (try clear ho0)) | ((with_reducible refine gate_dst (N := 27) rfl ?_); (try (refine gate_guard (by rfl) ?_; dsimp only)); refine Kd.R_lit k35 _ 35 ?hg (N := 27) ?hd (xs := ([(⟨1, 1⟩ : S35), (⟨5, 2⟩ : S35), (⟨5, 2⟩ : S35), (⟨4, 1⟩ : S35)] : List (S35))) (inner := [.int .i64 1, .int .i64 1, .int .i64 5, .int .i64 2, .int .i64 5, .int .i64 2, .int .i64 4, .int .i64 1]) (ok := fun _ => True) (okp := fun _ => True) ?hr ?hp (fun _ hk => hk) trivial (Below.refl _ _) (Nat.le_refl _) (by simp) ?_; (case hd => rfl); (case hg => rfl); (case hr => first | (go_simp; done) | (go_simp; rfl)); (case hp => exact (Reps.c2 (show Kd.M k35 _ _ _ (⟨1, 1⟩ : S35) [.int .i64 1, .int .i64 1] from (k35_mkM _ _ _ (⟨1, 1⟩ : S35) )) (Reps.c2 (show Kd.M k35 _ _ _ (⟨5, 2⟩ : S35) [.int .i64 5, .int .i64 2] from (k35_mkM _ _ _ (⟨5, 2⟩ : S35) )) (Reps.c2 (show Kd.M k35 _ _ _ (⟨5, 2⟩ : S35) [.int .i64 5, .int .i64 2] from (k35_mkM _ _ _ (⟨5, 2⟩ : S35) )) (Reps.c2 (show Kd.M k35 _ _ _ (⟨4, 1⟩ : S35) [.int .i64 4, .int .i64 1] from (k35_mkM _ _ _ (⟨4, 1⟩ : S35) )) (Reps.none _ _)))))); intro v184 w32 ho33 hb hg_ hnew_; clear hg_ hnew_; (first | rw [← Ny183.out] at ho33 | (simp only [Int.reduceToNat] at ho33; rw [← Ny183.out] at ho33)); have HO185 := Aside0.mk (Kd.R_lower (Kd.R_new' ho33 (Kd.R_lt (ownx HO175))) (below_size bel)); replace HO171 := Aside0.mk (Kd.R_below (ownx HO171) hb); replace HO175 := Aside0.mk (Kd.R_elder' (ownx HO175) (Kd.R_base ho33) hb); replace HO178 := Aside0.mk (Kd.R_below (ownx HO178) hb); replace HO182 := Aside0.mk (Kd.R_below (ownx HO182) hb); replace HB := Aside0.mk (below_step bel hb); clear hb ho33; obtain ⟨Ao34, co34, eo34⟩ := Kd.R_slice HO175.out; subst eo34; obtain ⟨Ao35, co35, eo35⟩ := Kd.R_slice HO185.out; subst eo35) | (go_at_call 28; (with_reducible refine (dropperlaw07_SameRatios.calls k _ _ t172 _ _ y183 false _ ?side1 ?side2 ?side3 ?side4 A5.out).mono ?_); (case side1 => repeat (first | exact (Kd.R_reads' HO175.out).2.2 | (with_reducible refine Kd.C_alloc ?_ _) | (with_reducible refine Kd.C_drewN ?_ _) | (with_reducible refine Kd.C_drew ?_))); (case side2 => exact (Kd.R_reads' HO175.out).2.1); (case side3 => repeat (first | exact (Kd.R_reads' HO185.out).2.2 | (with_reducible refine Kd.C_alloc ?_ _) | (with_reducible refine Kd.C_drewN ?_ _) | (with_reducible refine Kd.C_drew ?_))); (case side4 => exact (Kd.R_reads' HO185.out).2.1); rintro e w' ⟨rfl, ⟨nd, rfl⟩⟩))
    go_ret
    exact ⟨ezz, bel⟩
  ·
   rw [if_neg c4] at H
   have c4b0 : (t180 == 0) = false := beq_eq_false_iff_ne.mpr c4
   have c4b1 : (t180 != 0) = true := bne_iff_ne.mpr c4
   obtain rfl := Option.some.inj H
   go_enter Try.func15, Try.ntmps15
   go_wp2_with (first | ((with_reducible refine gate_dst (N := 6) rfl ?_); (try (refine gate_guard (by rfl) ?_; dsimp only)); refine Kd.R_lit (Kd.int .i64) _ 3 ?hg (N := 6) ?hd (xs := ([1, 3, 2, 4] : List Int)) (inner := [.int .i64 1, .int .i64 3, .int .i64 2, .int .i64 4]) (ok := fun _ => True) (okp := fun _ => True) ?hr ?hp (fun _ hk => hk) trivial (Below.refl _ _) (Nat.le_refl _) (by simp) ?_; (case hd => rfl); (case hg => rfl); (case hr => first | (go_simp; done) | (go_simp; rfl)); (case hp => exact (Reps.one (show Kd.M (Kd.int .i64) _ _ _ 1 [.int .i64 1] from rfl) (Reps.one (show Kd.M (Kd.int .i64) _ _ _ 3 [.int .i64 3] from rfl) (Reps.one (show Kd.M (Kd.int .i64) _ _ _ 2 [.int .i64 2] from rfl) (Reps.one (show Kd.M (Kd.int .i64) _ _ _ 4 [.int .i64 4] from rfl) (Reps.none _ _)))))); intro v170 w36 ho37 hb hg_ hnew_; clear hg_ hnew_; (first | rw [← Ny169.out] at ho37 | (simp only [Int.reduceToNat] at ho37; rw [← Ny169.out] at ho37)); have HO171 := Aside0.mk (Kd.R_lower ho37 (below_size bel)); replace HB := Aside0.mk (below_step bel hb); clear hb ho37; obtain ⟨Ao38, co38, eo38⟩ := Kd.R_slice HO171.out; subst eo38) | ((with_reducible refine gate_callee (f := 20) rfl ?_); refine goesL_ (some 7) rfl rfl Try.func20 (by kernel_rfl) rfl #[.slice Ao38 y169.length co38] rfl mapz ?_; (with_reducible refine (wear_Nearest.calls k _ _ y169 t172 t173 _ ?side1 ?side2 A1.out).mono ?_); (case side1 => repeat (first | exact (Kd.R_reads' HO171.out).2.2 | (with_reducible refine Kd.C_alloc ?_ _) | (with_reducible refine Kd.C_drewN ?_ _) | (with_reducible refine Kd.C_drew ?_))); (case side2 => exact (Kd.R_reads' HO171.out).2.1); rintro e w39 ⟨v174, rfl, ho0, hb⟩; refine ⟨_, rfl, ?_⟩; have HO175 := Aside0.mk (Kd.R_lower ho0 (below_size bel)); replace HO171 := Aside0.mk (Kd.R_below (ownx HO171) hb); replace HB := Aside0.mk (below_step bel hb); (try clear hb); (try clear hb2); (try clear hk); (try clear hi); (try clear ho0)) | ((with_reducible refine gate_dst (N := 11) rfl ?_); (try (refine gate_guard (by rfl) ?_; dsimp only)); refine Kd.R_lit (Kd.int .i64) _ 3 ?hg (N := 11) ?hd (xs := ([1, 9, 2, 3] : List Int)) (inner := [.int .i64 1, .int .i64 9, .int .i64 2, .int .i64 3]) (ok := fun _ => True) (okp := fun _ => True) ?hr ?hp (fun _ hk => hk) trivial (Below.refl _ _) (Nat.le_refl _) (by simp) ?_; (case hd => rfl); (case hg => rfl); (case hr => first | (go_simp; done) | (go_simp; rfl)); (case hp => exact (Reps.one (show Kd.M (Kd.int .i64) _ _ _ 1 [.int .i64 1] from rfl) (Reps.one (show Kd.M (Kd.int .i64) _ _ _ 9 [.int .i64 9] from rfl) (Reps.one (show Kd.M (Kd.int .i64) _ _ _ 2 [.int .i64 2] from rfl) (Reps.one (show Kd.M (Kd.int .i64) _ _ _ 3 [.int .i64 3] from rfl) (Reps.none _ _)))))); intro v177 w40 ho41 hb hg_ hnew_; clear hg_ hnew_; (first | rw [← Ny176.out] at ho41 | (simp only [Int.reduceToNat] at ho41; rw [← Ny176.out] at ho41)); have HO178 := Aside0.mk (Kd.R_lower (Kd.R_new' ho41 (Kd.R_lt (ownx HO171))) (below_size bel)); replace HO171 := Aside0.mk (Kd.R_elder' (ownx HO171) (Kd.R_base ho41) hb); replace HO175 := Aside0.mk (Kd.R_below (ownx HO175) hb); replace HB := Aside0.mk (below_step bel hb); clear hb ho41; obtain ⟨Ao42, co42, eo42⟩ := Kd.R_slice HO178.out; subst eo42) | ((with_reducible refine gate_callee (f := 16) rfl ?_); refine goesL_ (some 12) rfl rfl Try.func16 (by kernel_rfl) rfl #[.slice Ao42 y176.length co42, .int .i64 1] rfl mapz ?_; (with_reducible refine (wear_Median.calls k _ _ y176 1 t179 t180 _ ?side1 ?side2 A2.out).mono ?_); (case side1 => repeat (first | exact (Kd.R_reads' HO178.out).2.2 | (with_reducible refine Kd.C_alloc ?_ _) | (with_reducible refine Kd.C_drewN ?_ _) | (with_reducible refine Kd.C_drew ?_))); (case side2 => exact (Kd.R_reads' HO178.out).2.1); rintro e w43 ⟨v181, rfl, ho0, hb⟩; refine ⟨_, rfl, ?_⟩; have HO182 := Aside0.mk (Kd.R_lower (Kd.R_new' (Kd.R_new' ho0 (Kd.R_lt (ownx HO171))) (Kd.R_lt (ownx HO178))) (below_size bel)); replace HO171 := Aside0.mk (Kd.R_elder' (ownx HO171) (Kd.R_base ho0) hb); replace HO175 := Aside0.mk (Kd.R_below (ownx HO175) hb); replace HO178 := Aside0.mk (Kd.R_elder' (ownx HO178) (Kd.R_base ho0) hb); replace HB := Aside0.mk (below_step bel hb); (try clear hb); (try clear hb2); (try clear hk); (try clear hi); (try clear ho0)))
   go_ret
   exact ⟨ezz, bel⟩
 ·
  rw [if_neg c3] at H
  have c3b0 : (t173 == 0) = false := beq_eq_false_iff_ne.mpr c3
  have c3b1 : (t173 != 0) = true := bne_iff_ne.mpr c3
  obtain rfl := Option.some.inj H
  go_enter Try.func15, Try.ntmps15
  go_wp2_with (first | ((with_reducible refine gate_dst (N := 6) rfl ?_); (try (refine gate_guard (by rfl) ?_; dsimp only)); refine Kd.R_lit (Kd.int .i64) _ 3 ?hg (N := 6) ?hd (xs := ([1, 3, 2, 4] : List Int)) (inner := [.int .i64 1, .int .i64 3, .int .i64 2, .int .i64 4]) (ok := fun _ => True) (okp := fun _ => True) ?hr ?hp (fun _ hk => hk) trivial (Below.refl _ _) (Nat.le_refl _) (by simp) ?_; (case hd => rfl); (case hg => rfl); (case hr => first | (go_simp; done) | (go_simp; rfl)); (case hp => exact (Reps.one (show Kd.M (Kd.int .i64) _ _ _ 1 [.int .i64 1] from rfl) (Reps.one (show Kd.M (Kd.int .i64) _ _ _ 3 [.int .i64 3] from rfl) (Reps.one (show Kd.M (Kd.int .i64) _ _ _ 2 [.int .i64 2] from rfl) (Reps.one (show Kd.M (Kd.int .i64) _ _ _ 4 [.int .i64 4] from rfl) (Reps.none _ _)))))); intro v170 w44 ho45 hb hg_ hnew_; clear hg_ hnew_; (first | rw [← Ny169.out] at ho45 | (simp only [Int.reduceToNat] at ho45; rw [← Ny169.out] at ho45)); have HO171 := Aside0.mk (Kd.R_lower ho45 (below_size bel)); replace HB := Aside0.mk (below_step bel hb); clear hb ho45; obtain ⟨Ao46, co46, eo46⟩ := Kd.R_slice HO171.out; subst eo46) | ((with_reducible refine gate_callee (f := 20) rfl ?_); refine goesL_ (some 7) rfl rfl Try.func20 (by kernel_rfl) rfl #[.slice Ao46 y169.length co46] rfl mapz ?_; (with_reducible refine (wear_Nearest.calls k _ _ y169 t172 t173 _ ?side1 ?side2 A1.out).mono ?_); (case side1 => repeat (first | exact (Kd.R_reads' HO171.out).2.2 | (with_reducible refine Kd.C_alloc ?_ _) | (with_reducible refine Kd.C_drewN ?_ _) | (with_reducible refine Kd.C_drew ?_))); (case side2 => exact (Kd.R_reads' HO171.out).2.1); rintro e w47 ⟨v174, rfl, ho0, hb⟩; refine ⟨_, rfl, ?_⟩; have HO175 := Aside0.mk (Kd.R_lower ho0 (below_size bel)); replace HO171 := Aside0.mk (Kd.R_below (ownx HO171) hb); replace HB := Aside0.mk (below_step bel hb); (try clear hb); (try clear hb2); (try clear hk); (try clear hi); (try clear ho0)) | ((with_reducible refine gate_dst (N := 11) rfl ?_); (try (refine gate_guard (by rfl) ?_; dsimp only)); refine Kd.R_lit (Kd.int .i64) _ 3 ?hg (N := 11) ?hd (xs := ([1, 9, 2, 3] : List Int)) (inner := [.int .i64 1, .int .i64 9, .int .i64 2, .int .i64 3]) (ok := fun _ => True) (okp := fun _ => True) ?hr ?hp (fun _ hk => hk) trivial (Below.refl _ _) (Nat.le_refl _) (by simp) ?_; (case hd => rfl); (case hg => rfl); (case hr => first | (go_simp; done) | (go_simp; rfl)); (case hp => exact (Reps.one (show Kd.M (Kd.int .i64) _ _ _ 1 [.int .i64 1] from rfl) (Reps.one (show Kd.M (Kd.int .i64) _ _ _ 9 [.int .i64 9] from rfl) (Reps.one (show Kd.M (Kd.int .i64) _ _ _ 2 [.int .i64 2] from rfl) (Reps.one (show Kd.M (Kd.int .i64) _ _ _ 3 [.int .i64 3] from rfl) (Reps.none _ _)))))); intro v177 w48 ho49 hb hg_ hnew_; clear hg_ hnew_; (first | rw [← Ny176.out] at ho49 | (simp only [Int.reduceToNat] at ho49; rw [← Ny176.out] at ho49)); have HO178 := Aside0.mk (Kd.R_lower (Kd.R_new' ho49 (Kd.R_lt (ownx HO171))) (below_size bel)); replace HO171 := Aside0.mk (Kd.R_elder' (ownx HO171) (Kd.R_base ho49) hb); replace HO175 := Aside0.mk (Kd.R_below (ownx HO175) hb); replace HB := Aside0.mk (below_step bel hb); clear hb ho49; obtain ⟨Ao50, co50, eo50⟩ := Kd.R_slice HO178.out; subst eo50) | ((with_reducible refine gate_callee (f := 16) rfl ?_); refine goesL_ (some 12) rfl rfl Try.func16 (by kernel_rfl) rfl #[.slice Ao50 y176.length co50, .int .i64 1] rfl mapz ?_; (with_reducible refine (wear_Median.calls k _ _ y176 1 t179 t180 _ ?side1 ?side2 A2.out).mono ?_); (case side1 => repeat (first | exact (Kd.R_reads' HO178.out).2.2 | (with_reducible refine Kd.C_alloc ?_ _) | (with_reducible refine Kd.C_drewN ?_ _) | (with_reducible refine Kd.C_drew ?_))); (case side2 => exact (Kd.R_reads' HO178.out).2.1); rintro e w51 ⟨v181, rfl, ho0, hb⟩; refine ⟨_, rfl, ?_⟩; have HO182 := Aside0.mk (Kd.R_lower (Kd.R_new' (Kd.R_new' ho0 (Kd.R_lt (ownx HO171))) (Kd.R_lt (ownx HO178))) (below_size bel)); replace HO171 := Aside0.mk (Kd.R_elder' (ownx HO171) (Kd.R_base ho0) hb); replace HO175 := Aside0.mk (Kd.R_below (ownx HO175) hb); replace HO178 := Aside0.mk (Kd.R_elder' (ownx HO178) (Kd.R_base ho0) hb); replace HB := Aside0.mk (below_step bel hb); (try clear hb); (try clear hb2); (try clear hk); (try clear hi); (try clear ho0)))
  go_ret
  exact ⟨ezz, bel⟩

/-! ### slices_ContainsFunc_int_int: function 59 -/
theorem slices_ContainsFunc_int_int.within_calls (a b c : Int) (w : World) :
  Calls Try.prog 52 #[.int .i64 a, .int .i64 b, .int .i64 c] w fun e w' => e = .returned (.bool (decide (a ≤ b) && decide (b ≤ c))) ∧ Drawn0 w w' := by
 by_cases h1 : a ≤ b
 ·
  have h1' : decide (a ≤ b) = true := decide_eq_true h1
  go_enter Try.func52, Try.ntmps52
  go_wp2
  go_ret
  exact ⟨by simp [h1], Drawn0.refl _⟩
 ·
  have h1' : decide (a ≤ b) = false := decide_eq_false h1
  go_enter Try.func52, Try.ntmps52
  go_wp2
  go_ret
  exact ⟨by simp [h1], Drawn0.refl _⟩

def slices_ContainsFunc_int_int.bad (x : Int) : Bool := !(decide (0 ≤ x) && decide (x ≤ 1000000000))
theorem slices_ContainsFunc_int_int.clos_since (x : Int) (w : World) :
  Calls Try.prog 64 #[.int .i64 x] w fun e w' => e = .returned (.bool (slices_ContainsFunc_int_int.bad x)) ∧ Drawn0 w w' := by
 go_enter Try.func64, Try.ntmps64
 go_wp2_with (go_at_call 52; refine (slices_ContainsFunc_int_int.within_calls _ _ _ _).mono ?_; rintro e w' ⟨rfl, ⟨n, rfl⟩⟩)
 go_ret
 exact ⟨by simp [slices_ContainsFunc_int_int.bad], by repeat (first | exact Drawn0.refl _ | apply Drawn0.step)⟩

def slices_ContainsFunc_int_int.idxFrom (p : Int → Bool) (l : List Int) : Int := if l.any p then (l.findIdx p : Int) else -1
theorem slices_ContainsFunc_int_int.idxFrom_at {p : Int → Bool} {l : List Int} {i : Nat} (hi : i < l.length) (hp : p l[i] = true) (hb : ∀ j (h : j < l.length), j < i → p l[j] = false) : slices_ContainsFunc_int_int.idxFrom p l = i := by
 have ha : l.any p = true := List.any_eq_true.2 ⟨l[i], List.getElem_mem hi, hp⟩
 have hf : l.findIdx p = i := by
  rw [List.findIdx_eq hi]
  exact ⟨hp, fun j hj => hb j _ hj⟩
 simp [slices_ContainsFunc_int_int.idxFrom, ha, hf]
theorem slices_ContainsFunc_int_int.idxFrom_none {p : Int → Bool} {l : List Int} (hb : ∀ j (h : j < l.length), j < l.length → p l[j] = false) : slices_ContainsFunc_int_int.idxFrom p l = -1 := by
 have ha : l.any p = false := by
  rw [List.any_eq_false]
  intro x hx
  obtain ⟨j, hj, rfl⟩ := List.mem_iff_getElem.1 hx
  simp [hb j hj hj]
 simp [slices_ContainsFunc_int_int.idxFrom, ha]
theorem slices_ContainsFunc_int_int.rd_get (l : List Int) (x : Int) (h0 : 0 ≤ x) (h1 : x < (l.length : Int)) : ∃ h : x.toNat < l.length, rd l x = l[x.toNat] := by
 have h : x.toNat < l.length := by omega
 exact ⟨h, by simp [rd, List.getD_eq_getElem?_getD, h]⟩
theorem slices_ContainsFunc_int_int.idx_ge (p : Int → Bool) (l : List Int) : decide (0 ≤ slices_ContainsFunc_int_int.idxFrom p l) = l.any p := by
 unfold slices_ContainsFunc_int_int.idxFrom
 by_cases h : l.any p = true
 ·
  simp [h]
 ·
  have h2 : l.any p = false := by simpa using h
  simp [h2]

set_option maxHeartbeats 1000000 in
theorem slices_ContainsFunc_int_int.index_since (A0 : Option Addr) (c0 : Nat) (l0 : List Int) (w : World) (hr0 : Kd.C (Kd.int .i64) w A0 l0.length l0) (hc0 : l0.length ≤ c0) :
  Calls Try.prog 83 #[.slice A0 l0.length c0, .func (.func 64) #[] #[]] w fun e w' => e = .returned (.int .i64 (slices_ContainsFunc_int_int.idxFrom slices_ContainsFunc_int_int.bad l0)) ∧ Drawn0 w w' := by
 have hl : l0.length ≤ 9223372036854775807 := hr0.2.1
 have HR0 := Aside0.mk hr0
 clear hr0
 go_enter Try.func83, Try.ntmps83
 go_wp2
 go_loopg [5, 8] l0.length (fun kq v5 v8 w' => ∃ x : Int, v8 = .int .i64 x ∧ Aside0 (0 ≤ x ∧ x ≤ l0.length ∧ ∀ j (h : j < l0.length), (j : Int) < x → slices_ContainsFunc_int_int.bad l0[j] = false) ∧ Aside0 (kq = l0.length - x.toNat) ∧ Drawn0 w w')
 case atStart => exact ⟨0, rfl, ⟨by omega, by omega, fun _ _ h => by omega⟩, ⟨rfl⟩, Drawn0.refl _⟩
 case round =>
  obtain ⟨x, rfl, HI, HK, ⟨n, rfl⟩⟩ := hrel
  by_cases hlt : x < (l0.length : Int)
  ·
   have h1 : decide (x < (l0.length : Int)) = true := decide_eq_true hlt
   have p1 : 0 ≤ x := HI.out.1
   obtain ⟨ad, e1, hx⟩ := Kd.at_int HR0.out x p1 hlt
   cases e1
   have HX := Aside0.mk (And.intro p1 hlt)
   replace p1 := eq_true p1
   replace hlt := eq_true hlt
   by_cases hp : slices_ContainsFunc_int_int.bad (rd l0 x) = true
   ·
    go_wp2_with (go_at_call 64; refine (slices_ContainsFunc_int_int.clos_since _ _).mono ?_; rintro e w' ⟨rfl, ⟨n, rfl⟩⟩)
    go_ret
    obtain ⟨h2, h3⟩ := slices_ContainsFunc_int_int.rd_get l0 x HX.out.1 HX.out.2
    rw [h3] at hp
    refine ⟨?_, by repeat (first | exact Drawn0.refl _ | apply Drawn0.step)⟩
    rw [slices_ContainsFunc_int_int.idxFrom_at h2 hp (fun j hj hl => HI.out.2.2 j hj (by omega)), Int.toNat_of_nonneg HX.out.1]; rfl
   ·
    replace hp := Bool.eq_false_iff.mpr hp
    go_wp2_with (go_at_call 64; refine (slices_ContainsFunc_int_int.clos_since _ _).mono ?_; rintro e w' ⟨rfl, ⟨n, rfl⟩⟩)
    go_roundg (l0.length - (x + 1).toNat)
    case measure => have := HX.out; have := HK.out; omega
    case rel =>
     obtain ⟨h2, h3⟩ := slices_ContainsFunc_int_int.rd_get l0 x HX.out.1 HX.out.2
     have hw : wrap64 (x + 1) = x + 1 := by unfold wrap64; have := HX.out; omega
     refine ⟨x + 1, by first | rfl | rw [hw], ⟨by have := HX.out; omega, by have := HX.out; omega, fun j hj hl => ?_⟩, ⟨rfl⟩, by repeat (first | exact Drawn0.refl _ | apply Drawn0.step)⟩
     by_cases hjx : (j : Int) < x
     ·
      exact HI.out.2.2 j hj hjx
     ·
      have : j = x.toNat := by omega
      subst this
      rw [← h3]; exact hp
  ·
   have h1 : decide (x < (l0.length : Int)) = false := decide_eq_false hlt
   go_wp2
   go_ret
   refine ⟨?_, by repeat (first | exact Drawn0.refl _ | apply Drawn0.step)⟩
   rw [slices_ContainsFunc_int_int.idxFrom_none (fun j hj hl => HI.out.2.2 j hj (by omega))]; rfl

theorem slices_ContainsFunc_int_int.contains_since (A0 : Option Addr) (c0 : Nat) (l0 : List Int) (w : World) (hr0 : Kd.C (Kd.int .i64) w A0 l0.length l0) (hc0 : l0.length ≤ c0) :
  Calls Try.prog 59 #[.slice A0 l0.length c0, .func (.func 64) #[] #[]] w fun e w' => e = .returned (.bool (l0.any slices_ContainsFunc_int_int.bad)) ∧ Drawn0 w w' := by
 have HR0 := Aside0.mk hr0
 clear hr0
 have hz := Aside0.mk (slices_ContainsFunc_int_int.idx_ge slices_ContainsFunc_int_int.bad l0)
 go_enter Try.func59, Try.ntmps59
 go_wp2_with (go_at_call 83; refine (slices_ContainsFunc_int_int.index_since _ _ l0 _ HR0.out hc0).mono ?_; rintro e w' ⟨rfl, ⟨n, rfl⟩⟩)
 go_ret
 exact ⟨by rw [← hz.out]; rfl, by repeat (first | exact Drawn0.refl _ | apply Drawn0.step)⟩

def slices_ContainsFunc_int_int.f (l0 : List Int) (a1 : Nat) : Option Bool := if a1 = 64 then some (l0.any slices_ContainsFunc_int_int.bad) else none
theorem slices_ContainsFunc_int_int.calls (A0 : Option Addr) (c0 : Nat) (l0 : List Int) (a1 : Nat) (r : Bool) (w : World) (hr0 : Kd.C (Kd.int .i64) w A0 l0.length l0) (hc0 : l0.length ≤ c0) (h : slices_ContainsFunc_int_int.f l0 a1 = some r) :
  Calls Try.prog 59 #[.slice A0 l0.length c0, .func (.func a1) #[] #[]] w fun e w' => e = .returned (.bool r) ∧ Drawn0 w w' := by
 unfold slices_ContainsFunc_int_int.f at h
 by_cases ha : a1 = 64
 ·
  rw [if_pos ha] at h
  subst ha
  obtain rfl := Option.some.inj h
  exact slices_ContainsFunc_int_int.contains_since A0 c0 l0 w hr0 hc0
 ·
  rw [if_neg ha] at h; cases h

/-! ### slices_Clone_int_int: function 65 -/
def slices_Clone_int_int.f (l0 : List Int) : Option (List Int) := if l0.length * 8 ≤ 140737488351232 then some l0 else none
theorem slices_Clone_int_int.calls (A0 : Option Addr) (c0 : Nat) (l0 : List Int) (r : List Int) (w : World) (hr0 : Kd.C (Kd.int .i64) w A0 l0.length l0) (hc0 : l0.length ≤ c0) (h : slices_Clone_int_int.f l0 = some r) :
  Calls Try.prog 65 #[.slice A0 l0.length c0] w fun e w' => ∃ v0_ : Value, e = .returned (v0_) ∧ Kd.R (Kd.int .i64) 3 w' w.heap.size (fun _ => True) v0_ r ∧ Below w.heap.size w w' := by
 unfold slices_Clone_int_int.f at h
 by_cases hl : ¬ l0.length * 8 ≤ 140737488351232
 ·
  rw [if_neg hl] at h; cases h
 replace hl := Decidable.not_not.1 hl
 rw [if_pos hl] at h
 obtain rfl := Option.some.inj h
 cases l0 with
 | nil =>
  cases A0 with
  | none =>
   refine (Try.slices_Clone_int_nil 0 c0 w).mono ?_
   rintro e w' ⟨rfl, rfl⟩
   exact ⟨_, rfl, Kd.R_nil _ _ _ _ _, Below.refl _ _⟩
  | some a =>
   refine (Try.slices_Clone_int_zero a c0 w).mono ?_
   rintro e w' ⟨v', rfl, ho, _, hb⟩
   exact ⟨v', rfl, Kd.R_of_own (enc := Value.int .i64) (h1 := fun _ => rfl) ho (fun _ _ => trivial), hb⟩
 | cons x l =>
  have hcell : ∀ j, j < (x :: l).length → ∃ ad, A0 = some ad ∧ w.cell? (ad.add j) = some (.int .i64 ((x :: l).getD j 0)) := by
   intro j hj
   obtain ⟨ad, e1, hx⟩ := Kd.at_int hr0 (j : Int) (by omega) (by omega)
   refine ⟨ad, e1, ?_⟩
   rw [Int.toNat_natCast] at hx
   rw [hx]; simp [rd]
  obtain ⟨ad, rfl, h0⟩ := hcell 0 (by simp)
  have hsp : ad.spot = none := by
   have e : ad.add 0 = ad := by simp [Addr.add]
   rw [e] at h0
   unfold World.cell? at h0
   split at h0
   ·
    split at h0
    ·
     cases h0
    ·
     rename_i hs; simpa using hs
   ·
    cases h0
  obtain ⟨b, off, sp⟩ := ad
  simp only at hsp
  subst hsp
  refine (Try.slices_Clone_int b off (x :: l).length c0 (x :: l) w (Nat.le_refl _) (by omega) (fun j hj => ?_)).mono ?_
  ·
   obtain ⟨ad, e1, hx⟩ := hcell j hj
   cases e1
   have e : (⟨b, off, none⟩ : Addr).add j = ⟨b, off + j, none⟩ := by unfold Addr.add; split <;> simp_all
   rw [e] at hx
   exact hx
  ·
   rintro e w' ⟨v', rfl, ho, _, hb⟩
   rw [List.take_of_length_le (Nat.le_refl _)] at ho
   exact ⟨v', rfl, Kd.R_of_own (enc := Value.int .i64) (h1 := fun _ => rfl) ho (fun _ _ => trivial), hb⟩

/-! ### wear_Since: function 32 -/
mutual
def wear_Since.j0 : Nat → List Int → Bool → Option (List Int × Int)
 | 0, _, _ => none
 | k + 1, x0, x12 => if x12 = true then (some (([] : List Int), 2)) else ((slices_Clone_int_int.f x0).bind fun t437 => (if 1 ≤ (x0.length : Int) then (wear_Since.l0 k x0 t437 ((x0.drop 1).length : Int) 0) else (none)))
def wear_Since.l0 : Nat → List Int → List Int → Int → Int → Option (List Int × Int)
 | 0, _, _, _, _ => none
 | k + 1, x0, x4, x17, x18 => if x18 < x17 then (if 0 ≤ (wrap64 (x18 + 1)) then (if (wrap64 (x18 + 1)) < (x4.length : Int) then (if 0 ≤ x18 then (if x18 < (x0.length : Int) then (wear_Since.l0 k x0 (x4.set ((wrap64 (x18 + 1)) : Int).toNat (wrap64 ((rd x4 (wrap64 (x18 + 1))) - (rd x0 x18)))) x17 (wrap64 (x18 + 1))) else (none)) else (none)) else (none)) else (none)) else (some (x4, 0))
end
def wear_Since.f (k : Nat) (l0 : List Int) : Option (List Int × Int) := if (l0.length : Int) = 60 then ((slices_ContainsFunc_int_int.f l0 64).bind fun t436 => (wear_Since.j0 k l0 t436)) else (wear_Since.j0 k l0 true)
theorem wear_Since.mono_l : ∀ k, (∀ y0 y1, LeO (wear_Since.j0 k y0 y1) (wear_Since.j0 (k + 1) y0 y1)) ∧ (∀ y0 y1 y2 y3, LeO (wear_Since.l0 k y0 y1 y2 y3) (wear_Since.l0 (k + 1) y0 y1 y2 y3))
 | 0 => ⟨fun _ _ r h => by simp [wear_Since.j0] at h, fun _ _ _ _ r h => by simp [wear_Since.l0] at h⟩
 | k + 1 => by
  obtain ⟨ih0, ih1⟩ := wear_Since.mono_l k
  refine ⟨?_, ?_⟩
  ·
   intro y0 y1
   unfold wear_Since.j0
   repeat' first
   | (with_reducible exact ih0 _ _)
   | (with_reducible exact ih1 _ _ _ _)
   | (with_reducible exact LeO.refl _)
   | (with_reducible exact LeO.none _)
   | (with_reducible refine LeO.ite ?_ ?_)
   | (with_reducible refine LeO.bind ?_ (fun _ => ?_))
   | exact ih0 _ _
   | exact ih1 _ _ _ _
   | exact LeO.none _
   | refine LeO.ite ?_ ?_
   | refine LeO.bind ?_ (fun _ => ?_)
  ·
   intro y0 y1 y2 y3
   unfold wear_Since.l0
   repeat' first
   | (with_reducible exact ih0 _ _)
   | (with_reducible exact ih1 _ _ _ _)
   | (with_reducible exact LeO.refl _)
   | (with_reducible exact LeO.none _)
   | (with_reducible refine LeO.ite ?_ ?_)
   | (with_reducible refine LeO.bind ?_ (fun _ => ?_))
   | exact ih0 _ _
   | exact ih1 _ _ _ _
   | exact LeO.none _
   | refine LeO.ite ?_ ?_
   | refine LeO.bind ?_ (fun _ => ?_)
theorem wear_Since.mono : ∀ a0 k, LeO (wear_Since.f k a0) (wear_Since.f (k + 1) a0) := by
 intro a0 k
 obtain ⟨ih0, ih1⟩ := wear_Since.mono_l k
 unfold wear_Since.f
 repeat' first
   | (with_reducible exact ih0 _ _)
   | (with_reducible exact ih1 _ _ _ _)
   | (with_reducible exact LeO.refl _)
   | (with_reducible exact LeO.none _)
   | (with_reducible refine LeO.ite ?_ ?_)
   | (with_reducible refine LeO.bind ?_ (fun _ => ?_))
   | exact ih0 _ _
   | exact ih1 _ _ _ _
   | exact LeO.none _
   | refine LeO.ite ?_ ?_
   | refine LeO.bind ?_ (fun _ => ?_)
def wear_Since.T7 : Bool × List (List Nat × List Nat) := (true, [([], []), ([], []), ([1], [1]), ([0, 2], [0, 2]), ([3], [3]), ([], []), ([], []), ([5, 6], [5, 6]), ([7], [7]), ([4, 8], [4, 8]), ([0, 2, 0, 1, 2, 3, 4, 5, 6, 7, 8, 9], [0, 2]), ([10, 9, 0, 1, 2, 3, 4, 5, 6, 7, 8, 9], [9, 10])])
def wear_Since.B7 : List Nat := [0, 0, 2, 7, 15, 0, 0, 96, 224, 511, 1023, 2047]
theorem wear_Since.tab7 : rtab .any (opsOf Try.f32 7) = wear_Since.T7 := by kernel_rfl
theorem wear_Since.bits7 : waitsOk wear_Since.T7.2 wear_Since.B7 = true := by kernel_rfl
set_option maxHeartbeats 8000000 in
set_option maxRecDepth 100000 in
theorem wear_Since.calls (k : Nat) (A0 : Option Addr) (c0 : Nat) (l0 : List Int) (r1 : List Int) (r2 : Int) (w : World) (hr0 : Kd.C (Kd.int .i64) w A0 l0.length l0) (hc0 : l0.length ≤ c0) (h : wear_Since.f k l0 = some (r1, r2)) :
  Calls Try.prog 32 #[.slice A0 l0.length c0] w fun e w' => ∃ v0_ : Value, e = .returned (.tuple #[v0_, .int .i64 r2]) ∧ Kd.R (Kd.int .i64) 3 w' w.heap.size (fun _ => True) v0_ r1 ∧ Below w.heap.size w w' := by
 have HR0 := Aside0.mk hr0
 have HC0 := Aside0.mk hc0
 clear hr0 hc0
 have HB := Aside0.mk (Below.refl w.heap.size w)
 have H : (if (l0.length : Int) = 60 then ((slices_ContainsFunc_int_int.f l0 64).bind fun t436 => (wear_Since.j0 k l0 t436)) else (wear_Since.j0 k l0 true)) = some (r1, r2) := h
 clear h
 have HC2 := Aside0.mk H
 clear H
 go_enter Try.func32, Try.ntmps32
 go_upto_region 1 with (fail)
 go_cut [12] (fun v12 wc => ∃ (kq : Nat) (x12_1 : Bool), v12 = .bool x12_1 ∧ Aside0 (wear_Since.j0 kq l0 x12_1 = some (r1, r2)) ∧ Aside0 (kq ≤ k) ∧ Aside0 (Below w.heap.size w wc))
 case first =>
  have H := HC2.out
  clear HC2
  by_cases c3 : (l0.length : Int) = 60
  ·
   rw [if_pos c3] at H
   have c3b0 : ((l0.length : Int) == 60) = true := beq_iff_eq.mpr c3
   have c3b1 : ((l0.length : Int) != 60) = false := bne_eq_false_iff_eq.mpr c3
   clear c3
   (first | rw [c3b0] | (simp only [i64_w, i32_w]; rw [c3b0]) | skip)
   replace H := Option.bind_eq_some_iff.mp H
   obtain ⟨t436, A40, H⟩ := H
   replace H : (wear_Since.j0 k l0 t436) = some (r1, r2) := H
   have A4 := Aside0.mk A40
   clear A40
   have H' := Aside0.mk H
   clear H
   go_wp2_with (first | (go_at_call 59; (with_reducible refine (slices_ContainsFunc_int_int.calls _ _ l0 64 t436 _ ?side1 ?side2 A4.out).mono ?_); (case side1 => exact cbz HR0); (case side2 => exact HC0.out); rintro e w' ⟨rfl, ⟨nd, rfl⟩⟩))
   go_meet
   case rel => exact ⟨_, (t436), rsz, H', ⟨by first | omega | exact Nat.le_refl _⟩, ⟨bel⟩⟩
  ·
   rw [if_neg c3] at H
   have c3b0 : ((l0.length : Int) == 60) = false := beq_eq_false_iff_ne.mpr c3
   have c3b1 : ((l0.length : Int) != 60) = true := bne_iff_ne.mpr c3
   (first | rw [c3b0] | (simp only [i64_w, i32_w]; rw [c3b0]) | skip)
   have H' := Aside0.mk H
   clear H
   go_wp2
   go_meet
   case rel => exact ⟨_, (true), rsz, H', ⟨by first | omega | exact Nat.le_refl _⟩, ⟨bel⟩⟩
 case rest =>
  clear HC2
  try clear p2
  try clear c3
  try clear c3b0
  try clear c3b1
  obtain ⟨kq, x12_1, rfl, HA, HJ1, HB⟩ := hcut
  cases kq with
  | zero => exact absurd HA.out (by simp [wear_Since.j0])
  | succ kj1 =>
   have H := HA.out
   clear HA
   simp only [wear_Since.j0] at H
   by_cases c5 : x12_1 = true
   ·
    subst c5
    have H1 : (some (([] : List Int), 2)) = some (r1, r2) := by rw [if_pos rfl] at H; exact H
    clear H
    have H := H1
    clear H1
    simp only [Option.some.injEq, Prod.mk.injEq] at H
    obtain ⟨rfl, rfl⟩ := H
    go_wp2
    go_ret2
    exact ⟨_, ezz, by first | exact Kd.R_nil _ _ _ _ _ | exact Kd.N_nil _ _ _ _ _ | exact Kd.V_nil _ _ _ _ _ | exact Kd.Q_nil _ _ _ _ _ | exact Kd.S_nil _ _ _ _ _, bel⟩
   ·
    replace c5 := Bool.eq_false_iff.mpr c5
    subst c5
    have H1 : ((slices_Clone_int_int.f l0).bind fun t437 => (if 1 ≤ (l0.length : Int) then (wear_Since.l0 kj1 l0 t437 ((l0.drop 1).length : Int) 0) else (none))) = some (r1, r2) := by rw [if_neg (show ¬ (false = true) by decide)] at H; exact H
    clear H
    have H := H1
    clear H1
    replace H := Option.bind_eq_some_iff.mp H
    obtain ⟨t437, A60, H⟩ := H
    replace H : (if 1 ≤ (l0.length : Int) then (wear_Since.l0 kj1 l0 t437 ((l0.drop 1).length : Int) 0) else (none)) = some (r1, r2) := H
    have A6 := Aside0.mk A60
    clear A60
    by_cases c7 : 1 ≤ (l0.length : Int)
    ·
     rw [if_pos c7] at H
     have c7b0 := eq_true c7
     have c7b1 : decide (1 ≤ (l0.length : Int)) = true := decide_eq_true c7
     clear c7
     have H' := Aside0.mk H
     clear H
     go_wp2_with (first | ((with_reducible refine gate_callee (f := 65) rfl ?_); refine goesL_ (some 14) rfl rfl Try.func65 (by kernel_rfl) rfl #[.slice A0 l0.length c0] rfl mapz ?_; (with_reducible refine (slices_Clone_int_int.calls _ _ l0 t437 _ ?side1 ?side2 A6.out).mono ?_); (case side1 => exact cbz HR0); (case side2 => exact HC0.out); rintro e w8 ⟨v438, rfl, ho0, hb⟩; refine ⟨_, rfl, ?_⟩; have HO439 := Aside0.mk (Kd.R_lower ho0 (below_size bel)); replace HB := Aside0.mk (below_step bel hb); (try clear hb); (try clear hb2); (try clear hk); (try clear hi); (try clear ho0); obtain ⟨i09, hi09, _, hsz9, _⟩ := info_parts info3; obtain ⟨A9, hcut9, hA9, hC9⟩ := print_drop_of (P := Try.prog) (Value.int .i64) 0 22 3 .i64 Try.underlying22 hi09 hsz9 A0 c0 l0 1 (by omega) (of_decide_eq_true asz) HC0.out; have HR440 := Aside0.mk (Kd.C_of_reads (h1 := fun _ => rfl) (hA9 _ (Kd.reads_of_C HR0.out))); have HC440 := Aside0.mk hC9; clear hA9 hC9 hi09 hsz9))
     go_loopg [18] kj1 (fun kq v18 w' => ∃ (x4_2 : List Int) (x18_2 : Int), v18 = .int .i64 x18_2 ∧ Aside0 (wear_Since.l0 kq l0 x4_2 ((l0.drop 1).length : Int) x18_2 = some (r1, r2)) ∧ Aside0 (kq ≤ kj1) ∧ Aside0 (Kd.R (Kd.int .i64) 3 w' w.heap.size (fun _ => True) v438 x4_2) ∧ Aside0 (Below w.heap.size w w'))
     case atStart => exact ⟨(t437), (0), rsz, H', ⟨Nat.le_refl _⟩, ⟨by (with_reducible repeat (first | apply Kd.R_alloc | apply Kd.R_drewN | apply Kd.R_drew)); exact HO439.out⟩, ⟨bel⟩⟩
     case round =>
      clear H'
      try clear p2
      try clear c3
      try clear c3b0
      try clear c3b1
      try clear c5
      try clear c6
      try clear c7
      try clear c7b0
      try clear c7b1
      try clear p2
      obtain ⟨x4_2, x18_2, rfl, HA, HK2, HO_4, HB⟩ := hrel
      cases gk with
      | zero => exact absurd HA.out (by simp [wear_Since.l0])
      | succ k2 =>
       have H := HA.out
       clear HA
       simp only [wear_Since.l0] at H
       by_cases c10 : x18_2 < ((l0.drop 1).length : Int)
       ·
        rw [if_pos c10] at H
        have c10b0 : decide (x18_2 < ((l0.drop 1).length : Int)) = true := decide_eq_true c10
        have c10b0d : decide (x18_2 < ((l0.length - 1 : Nat) : Int)) = true := by have h_ := c10b0; simp only [List.length_drop] at h_; exact h_
        clear c10
        obtain ⟨ji11, hji11⟩ : ∃ j_ : Int, (wrap64 (x18_2 + 1)) = j_ := ⟨_, rfl⟩
        replace H : (if 0 ≤ (ji11) then (if (ji11) < (x4_2.length : Int) then (if 0 ≤ x18_2 then (if x18_2 < (l0.length : Int) then (wear_Since.l0 k2 l0 (x4_2.set ((ji11) : Int).toNat (wrap64 ((rd x4_2 (ji11)) - (rd l0 x18_2)))) ((l0.drop 1).length : Int) ji11) else (none)) else (none)) else (none)) else (none)) = some (r1, r2) := by first | (rw [hji11] at H; exact H) | (simp only [hji11] at H ⊢; exact H)
        have hji11w : (IntKind.i64.wrap (x18_2 + 1)) = ji11 := (i64_w _).trans hji11
        by_cases c12 : 0 ≤ (ji11)
        ·
         rw [if_pos c12] at H
         have c12b0 : decide (0 ≤ (ji11)) = true := decide_eq_true c12
         clear c12
         by_cases c13 : (ji11) < (x4_2.length : Int)
         ·
          rw [if_pos c13] at H
          have c13b0 : decide ((ji11) < (x4_2.length : Int)) = true := decide_eq_true c13
          clear c13
          by_cases c14 : 0 ≤ x18_2
          ·
           rw [if_pos c14] at H
           have c14b0 : decide (0 ≤ x18_2) = true := decide_eq_true c14
           clear c14
           by_cases c15 : x18_2 < (l0.length : Int)
           ·
            rw [if_pos c15] at H
            have c15b0 : decide (x18_2 < (l0.length : Int)) = true := decide_eq_true c15
            clear c15
            obtain ⟨y443, hy443⟩ : ∃ y_ : List Int, y_ = (x4_2.set ((ji11) : Int).toNat (wrap64 ((rd x4_2 (ji11)) - (rd l0 x18_2)))) := ⟨_, rfl⟩
            replace H : (wear_Since.l0 k2 l0 y443 ((l0.drop 1).length : Int) ji11) = some (r1, r2) := by first | (rw [hy443]; with_reducible exact H) | (have H2_ := (Option.bind_some _ _).symm.trans H; rw [hy443]; with_reducible exact H2_) | (have H2_ := (Option.bind_some _ _).symm.trans H; with_reducible exact H2_) | with_reducible exact H | (rw [hy443]; exact H) | exact H
            have Ny443 := Aside0.mk hy443
            clear hy443
            have H' := Aside0.mk H
            clear H
            try go_wp2
            have n0_ := Aside0.mk (Kd.R_drew HO_4.out)
            have n1_ := Aside0.mk (below_drew1 HB.out)
            clear HO_4
            clear HB
            have HO_4 := n0_
            have HB := n1_
            clear n0_ n1_
            obtain ⟨Ao18, co18, eo18⟩ := Kd.R_slice HO_4.out
            (first | subst eo18 | (injection eo18 with f1_ f2_ f3_; have f4_ := f1_.symm; have f5_ := f3_.symm; clear f1_ f2_ f3_; subst f4_; subst f5_))
            have p441 : 0 ≤ ((ji11) : Int) := of_decide_eq_true asz
            have q441 : (ji11) < (x4_2.length : Int) := of_decide_eq_true asz
            obtain ⟨ad441, e441, hx441_0⟩ := Kd.at_int (Kd.R_reads' HO_4.out).2.2 (ji11) p441 q441
            cases e441
            replace p441 := eq_true p441
            replace q441 := eq_true q441
            have p442 : 0 ≤ (x18_2 : Int) := of_decide_eq_true asz
            have q442 : x18_2 < (l0.length : Int) := of_decide_eq_true asz
            obtain ⟨ad442, e442, hx442_0⟩ := Kd.at_int HR0.out x18_2 p442 q442
            have hw442_0 := hx442_0
            cases e442
            replace hx442_0 := (HB.out.cell (World.block_lt_of_cell? w _ hx442_0)).trans hx442_0
            replace p442 := eq_true p442
            replace q442 := eq_true q442
            have p16 : 0 ≤ ((ji11) : Int) := of_decide_eq_true asz
            have q16 : ((ji11) : Int) < ((x4_2.length : Int) : Int) := of_decide_eq_true asz
            obtain ⟨go16, co16, eo16, gb16, gl16, cl16, HG16⟩ := Kd.R_form HO_4.out (by omega)
            (first | cases eo16 | (injection eo16 with ea_ en_ ec_; (first | subst ea_ | (injection ea_ with ea_; subst ea_)); subst ec_; clear en_))
            have GB16 := Aside0.mk gb16
            have GG16 := Aside0.mk HG16
            clear gb16 gl16 HG16
            (first | simp only [add_plain] at hx441_0 | skip)
            obtain ⟨hx16_0, hf16_0⟩ := Kd.R_celln 0 HO_4.out ((ji11) : Int) p16 q16
            replace p16 := eq_true p16
            replace q16 := eq_true q16
            have HP19 := Kd.R_putn HO_4.out ((ji11) : Int) (wrap64 ((rd x4_2 (ji11)) - (rd l0 x18_2)))
            rw [← Ny443.out] at HP19
            have HQ19 := Aside0.mk HP19
            clear HP19
            refine start_ (n := 12) (S := fun w' => w'.cell? ⟨go16, ((ji11)).toNat, none⟩ = some (.int .i64 (rd x4_2 (ji11))) ∧ w'.cell? (ad442.add (x18_2).toNat) = some (.int .i64 (rd l0 x18_2))) (ds := [11]) #[false, false, false, false, false, false, false, false, false, false, false, false] (by kernel_rfl) rfl rfl ⟨hx441_0, ((HB.out.cell (World.block_lt_of_cell? w _ hw442_0)).trans hw442_0)⟩ (fun hHeld => ?_); refine with_tabW wear_Since.tab7 wear_Since.bits7 (fun HT_ HW_ => ?_)
            generalize wr.drew = w17 at HO_4 HB GG16 HQ19 hf16_0 hx16_0 hx441_0 hx442_0 hHeld ⊢
            refine pst (i := 0) (N := some 21) (bz 12 1) (any_of HT_.out (by kernel_rfl)) ?_
            refine pst (i := 1) (N := some 22) (bz 12 3) (any_of HT_.out (by kernel_rfl)) ?_
            refine pst (i := 2) (N := some 23) (bz 12 7) (any_of HT_.out (by kernel_rfl)) ?_
            refine pst (i := 3) (N := some 24) (bz 12 15) (any_of HT_.out (by kernel_rfl)) ?_
            refine pst (i := 5) (N := some 26) (bz 12 47) (any_of HT_.out (by kernel_rfl)) ?_
            refine pst (i := 6) (N := some 27) (bz 12 111) (any_of HT_.out (by kernel_rfl)) ?_
            refine pst (i := 7) (N := some 28) (bz 12 239) (any_of HT_.out (by kernel_rfl)) ?_
            refine tst2 (i := 4) (N := some 25) (bz 12 255) (take_ofW HT_.out HW_.out (by kernel_rfl)) hHeld ?_
            refine tst2 (i := 8) (N := some 29) (bz 12 511) (take_ofW HT_.out HW_.out (by kernel_rfl)) hHeld ?_
            refine pst (i := 9) (N := some 30) (bz 12 1023) (any_of HT_.out (by kernel_rfl)) ?_
            refine pst (i := 10) (N := some 31) (bz 12 2047) (any_of HT_.out (by kernel_rfl)) ?_
            refine last_ (i := 11) (N := none) #[true, true, true, true, true, true, true, true, true, true, true, true] rfl rfl (one_of HT_.out (by kernel_rfl)) (by decide) (fun K hK => ?_)
            refine skip_ (w1 := ?_) (by rfl) rfl ?_ ?_
            rotate_left
            ·
             go_simp
             rfl
            refine hK.out _ _ ?_
            clear hK K
            refine done_ (done_of HT_.out (by kernel_rfl)) ?_
            try go_wp2
            go_roundg k2
            case measure => have := HJ1.out; have := HK2.out; omega
            case rel => exact ⟨(y443), (ji11), (by first | rfl | (simp; done) | (simp only [← hji11] <;> (first | rfl | simp)) | (simp [*]; done)), H', ⟨by have := HJ1.out; have := HK2.out; omega⟩, ⟨by (with_reducible repeat (first | apply Kd.R_alloc | apply Kd.R_drewN | apply Kd.R_drew)); exact HQ19.out⟩, ⟨by repeat (first | (with_reducible first | exact HB.out | apply below_alloc | apply pw_below_drewN | apply below_drew1 | refine below_set ?_ GB16.out) | exact HB.out)⟩⟩
           ·
            rw [if_neg c15] at H
            exact absurd H (by simp)
          ·
           rw [if_neg c14] at H
           exact absurd H (by simp)
         ·
          rw [if_neg c13] at H
          exact absurd H (by simp)
        ·
         rw [if_neg c12] at H
         exact absurd H (by simp)
       ·
        rw [if_neg c10] at H
        have c10b0 : decide (x18_2 < ((l0.drop 1).length : Int)) = false := decide_eq_false c10
        have c10b0d : decide (x18_2 < ((l0.length - 1 : Nat) : Int)) = false := by have h_ := c10b0; simp only [List.length_drop] at h_; exact h_
        clear c10
        simp only [Option.some.injEq, Prod.mk.injEq] at H
        obtain ⟨rfl, rfl⟩ := H
        go_wp2
        go_ret2
        exact ⟨_, ezz, by (with_reducible repeat (first | apply Kd.R_alloc | apply Kd.R_drewN | apply Kd.R_drew)); exact HO_4.out, bel⟩
    ·
     rw [if_neg c7] at H
     exact absurd H (by simp)

/-! ### slices_ContainsFunc_api_Run_api_Run: function 86 -/
theorem slices_ContainsFunc_api_Run_api_Run.rd_get (l : List S55) (x : Int) (h0 : 0 ≤ x) (h1 : x < (l.length : Int)) : ∃ h : x.toNat < l.length, rd_T55 l x = l[x.toNat] := by
 have h : x.toNat < l.length := by omega
 exact ⟨h, by simp [rd_T55, List.getD_eq_getElem?_getD, h]⟩
set_option maxHeartbeats 2000000 in
set_option maxRecDepth 100000 in
theorem slices_ContainsFunc_api_Run_api_Run.index (c : Nat) (cs : Array Value) (p : S55 → Bool) (A0 : Option Addr) (c0 : Nat) (l0 : List S55) (w : World) (hr0 : Kd.C k55 w A0 l0.length l0) (hc0 : l0.length ≤ c0)
  (he : ∀ (vs : Array Value) (W : World), (callFunc c vs).run Try.prog W = .ok (.enter c vs) W)
  (hf : ∀ (x : S55), x ∈ l0 → ∀ (W : World), Below w.heap.size w W → Calls Try.prog c (#[.agg #[.int .i64 x.f0, .int .i64 x.f1, .int .i64 x.f2]] ++ cs) W fun e w' => e = .returned (.bool (p x)) ∧ Below W.heap.size W w') :
  Calls Try.prog 91 #[.slice A0 l0.length c0, .func (.func c) #[] cs] w fun e w' => e = .returned (.int .i64 (Idx.idxFrom p l0)) ∧ Below w.heap.size w w' := by
 have hl : l0.length ≤ 9223372036854775807 := hr0.2.1
 have HR := Aside0.mk hr0
 have HF := Aside0.mk hf
 clear hr0 hf
 have hu := Try.underlying55
 go_enter Try.func91, Try.ntmps91
 go_wp2
 go_loopg [5, 8] l0.length (fun kq v5 v8 w' => ∃ x : Int, v8 = .int .i64 x ∧ Aside0 (0 ≤ x ∧ x ≤ l0.length ∧ ∀ j (h : j < l0.length), (j : Int) < x → p l0[j] = false) ∧ Aside0 (kq = l0.length - x.toNat) ∧ Aside0 (Below w.heap.size w w'))
 case atStart => exact ⟨0, rfl, ⟨by omega, by omega, fun _ _ h => by omega⟩, ⟨rfl⟩, ⟨Below.refl _ _⟩⟩
 case round =>
  obtain ⟨x, rfl, HI, HK, HB⟩ := hrel
  by_cases hlt : x < (l0.length : Int)
  ·
   have h1 : decide (x < (l0.length : Int)) = true := decide_eq_true hlt
   have p1 : 0 ≤ x := HI.out.1
   have HR0 := Aside0.mk (Kd.C_below HR.out HB.out)
   obtain ⟨ad, e1, hx0, hx1, hx2⟩ := at_T55 HR0.out x p1 hlt
   cases e1
   have HX := Aside0.mk (And.intro p1 hlt)
   have HM : Aside0 ((rd_T55 l0 x) ∈ l0) := ⟨by obtain ⟨h2, h3⟩ := slices_ContainsFunc_api_Run_api_Run.rd_get l0 x p1 hlt; rw [h3]; exact List.getElem_mem h2⟩
   replace p1 := eq_true p1
   replace hlt := eq_true hlt
   by_cases hp : p (rd_T55 l0 x) = true
   ·
    go_wp2_with (go_simp; with_reducible refine (HF.out (rd_T55 l0 x) HM.out _ HB.out).mono ?_; rintro e w' ⟨rfl, hb⟩; have HB2 := Aside0.mk hb; clear hb)
    go_ret
    obtain ⟨h2, h3⟩ := slices_ContainsFunc_api_Run_api_Run.rd_get l0 x HX.out.1 HX.out.2
    rw [h3] at hp
    refine ⟨?_, below_step HB.out HB2.out⟩
    rw [Idx.idxFrom_at h2 hp (fun j hj hl => HI.out.2.2 j hj (by omega)), Int.toNat_of_nonneg HX.out.1]; rfl
   ·
    replace hp := Bool.eq_false_iff.mpr hp
    go_wp2_with (go_simp; with_reducible refine (HF.out (rd_T55 l0 x) HM.out _ HB.out).mono ?_; rintro e w' ⟨rfl, hb⟩; have HB2 := Aside0.mk hb; clear hb)
    go_roundg (l0.length - (x + 1).toNat)
    case measure => have := HX.out; have := HK.out; omega
    case rel =>
     obtain ⟨h2, h3⟩ := slices_ContainsFunc_api_Run_api_Run.rd_get l0 x HX.out.1 HX.out.2
     have hw : wrap64 (x + 1) = x + 1 := by unfold wrap64; have := HX.out; omega
     refine ⟨x + 1, by first | rfl | rw [hw], ⟨by have := HX.out; omega, by have := HX.out; omega, fun j hj hl => ?_⟩, ⟨rfl⟩, ⟨below_step HB.out HB2.out⟩⟩
     by_cases hjx : (j : Int) < x
     ·
      exact HI.out.2.2 j hj hjx
     ·
      have : j = x.toNat := by omega
      subst this
      rw [← h3]; exact hp
  ·
   have h1 : decide (x < (l0.length : Int)) = false := decide_eq_false hlt
   go_wp2
   go_ret
   refine ⟨?_, HB.out⟩
   rw [Idx.idxFrom_none (fun j hj hl => HI.out.2.2 j hj (by omega))]; rfl
theorem slices_ContainsFunc_api_Run_api_Run.contains (c : Nat) (cs : Array Value) (p : S55 → Bool) (A0 : Option Addr) (c0 : Nat) (l0 : List S55) (w : World) (hr0 : Kd.C k55 w A0 l0.length l0) (hc0 : l0.length ≤ c0)
  (he : ∀ (vs : Array Value) (W : World), (callFunc c vs).run Try.prog W = .ok (.enter c vs) W)
  (hf : ∀ (x : S55), x ∈ l0 → ∀ (W : World), Below w.heap.size w W → Calls Try.prog c (#[.agg #[.int .i64 x.f0, .int .i64 x.f1, .int .i64 x.f2]] ++ cs) W fun e w' => e = .returned (.bool (p x)) ∧ Below W.heap.size W w') :
  Calls Try.prog 86 #[.slice A0 l0.length c0, .func (.func c) #[] cs] w fun e w' => e = .returned (.bool (l0.any p)) ∧ Below w.heap.size w w' := by
 have HR0 := Aside0.mk hr0
 have HF := Aside0.mk hf
 clear hr0 hf
 have hz := Aside0.mk (Idx.idx_ge p l0)
 go_enter Try.func86, Try.ntmps86
 go_wp2_with (go_at_call 91; refine (slices_ContainsFunc_api_Run_api_Run.index c cs p _ _ l0 _ HR0.out hc0 he HF.out).mono ?_; rintro e w' ⟨rfl, hb⟩; have HB := Aside0.mk hb; clear hb)
 go_ret
 exact ⟨by rw [← hz.out]; rfl, HB.out⟩

/-! ### wear_validRuns: function 74 -/
theorem wear_validRuns.within_calls (a b c : Int) (w : World) :
  Calls Try.prog 52 #[.int .i64 a, .int .i64 b, .int .i64 c] w fun e w' => e = .returned (.bool (decide (a ≤ b) && decide (b ≤ c))) ∧ Drawn0 w w' := by
 by_cases h1 : a ≤ b
 ·
  have h1' : decide (a ≤ b) = true := decide_eq_true h1
  go_enter Try.func52, Try.ntmps52
  go_wp2
  go_ret
  exact ⟨by simp [h1], Drawn0.refl _⟩
 ·
  have h1' : decide (a ≤ b) = false := decide_eq_false h1
  go_enter Try.func52, Try.ntmps52
  go_wp2
  go_ret
  exact ⟨by simp [h1], Drawn0.refl _⟩
def wear_validRuns.bad (x : S55) : Bool := !(decide (0 ≤ x.f0) && decide (x.f0 ≤ x.f1)) || decide (x.f1 ≥ 60) || !(decide (1 ≤ x.f2) && decide (x.f2 ≤ 1000000))
set_option maxHeartbeats 2000000 in
set_option maxRecDepth 100000 in
theorem wear_validRuns.clos (x : S55) (w : World) :
  Calls Try.prog 87 #[.agg #[.int .i64 x.f0, .int .i64 x.f1, .int .i64 x.f2]] w fun e w' => e = .returned (.bool (wear_validRuns.bad x)) ∧ Below w.heap.size w w' := by
 have hu := Try.underlying55
 have hB : ∀ o n, Aside0 (Below w.heap.size w ((w.alloc o).drewN n)) := fun o n => ⟨pw_below_drewN (below_alloc (Below.refl _ _) o) n⟩
 have hB0 : ∀ o, Aside0 (Below w.heap.size w (w.alloc o)) := fun o => ⟨below_alloc (Below.refl _ _) o⟩
 by_cases h0 : (decide (0 ≤ x.f0) && decide (x.f0 ≤ x.f1)) = true
 ·
  by_cases h1 : x.f1 ≥ 60
  ·
   have h1' : decide (x.f1 ≥ 60) = true := decide_eq_true h1
   clear h1
   have hE : Aside0 (wear_validRuns.bad x = true) := ⟨by simp only [wear_validRuns.bad, h0, h1']; rfl⟩
   have Hh0 := Aside0.mk h0
   clear h0
   go_enter Try.func87, Try.ntmps87
   go_wp2_with (first | (go_at_call 52; (with_reducible refine (wear_validRuns.within_calls 0 x.f0 x.f1 _).mono ?_); rintro e w' ⟨rfl, ⟨nd_, rfl⟩⟩; rw [Hh0.out]))
   go_ret
   exact ⟨by rw [hE.out]; rfl, by repeat (first | exact (hB _ _).out | exact (hB0 _).out | apply pw_below_drewN)⟩
  ·
   have h1' : decide (x.f1 ≥ 60) = false := decide_eq_false h1
   clear h1
   by_cases h2 : (decide (1 ≤ x.f2) && decide (x.f2 ≤ 1000000)) = true
   ·
    skip
    have hE : Aside0 (wear_validRuns.bad x = false) := ⟨by simp only [wear_validRuns.bad, h0, h1', h2]; rfl⟩
    have Hh0 := Aside0.mk h0
    clear h0
    have Hh2 := Aside0.mk h2
    clear h2
    go_enter Try.func87, Try.ntmps87
    go_wp2_with (first | (go_at_call 52; (with_reducible refine (wear_validRuns.within_calls 0 x.f0 x.f1 _).mono ?_); rintro e w' ⟨rfl, ⟨nd_, rfl⟩⟩; rw [Hh0.out]) | (go_at_call 52; (with_reducible refine (wear_validRuns.within_calls 1 x.f2 1000000 _).mono ?_); rintro e w' ⟨rfl, ⟨nd_, rfl⟩⟩; rw [Hh2.out]))
    go_ret
    exact ⟨by rw [hE.out]; rfl, by repeat (first | exact (hB _ _).out | exact (hB0 _).out | apply pw_below_drewN)⟩
   ·
    replace h2 := Bool.eq_false_iff.mpr h2
    have hE : Aside0 (wear_validRuns.bad x = true) := ⟨by simp only [wear_validRuns.bad, h0, h1', h2]; rfl⟩
    have Hh0 := Aside0.mk h0
    clear h0
    have Hh2 := Aside0.mk h2
    clear h2
    go_enter Try.func87, Try.ntmps87
    go_wp2_with (first | (go_at_call 52; (with_reducible refine (wear_validRuns.within_calls 0 x.f0 x.f1 _).mono ?_); rintro e w' ⟨rfl, ⟨nd_, rfl⟩⟩; rw [Hh0.out]) | (go_at_call 52; (with_reducible refine (wear_validRuns.within_calls 1 x.f2 1000000 _).mono ?_); rintro e w' ⟨rfl, ⟨nd_, rfl⟩⟩; rw [Hh2.out]))
    go_ret
    exact ⟨by rw [hE.out]; rfl, by repeat (first | exact (hB _ _).out | exact (hB0 _).out | apply pw_below_drewN)⟩
 ·
  replace h0 := Bool.eq_false_iff.mpr h0
  have hE : Aside0 (wear_validRuns.bad x = true) := ⟨by simp only [wear_validRuns.bad, h0]; rfl⟩
  have Hh0 := Aside0.mk h0
  clear h0
  go_enter Try.func87, Try.ntmps87
  go_wp2_with (first | (go_at_call 52; (with_reducible refine (wear_validRuns.within_calls 0 x.f0 x.f1 _).mono ?_); rintro e w' ⟨rfl, ⟨nd_, rfl⟩⟩; rw [Hh0.out]))
  go_ret
  exact ⟨by rw [hE.out]; rfl, by repeat (first | exact (hB _ _).out | exact (hB0 _).out | apply pw_below_drewN)⟩
theorem wear_validRuns.enter (vs : Array Value) (W : World) : (callFunc 87 vs).run Try.prog W = .ok (.enter 87 vs) W := enters_ Try.func87 (by kernel_rfl) (by kernel_rfl) vs W
def wear_validRuns.f (l0 : List S55) : Option Bool := some (decide ((l0.length : Int) ≤ 40) && !(l0.any wear_validRuns.bad))
set_option maxHeartbeats 4000000 in
set_option maxRecDepth 100000 in
theorem wear_validRuns.calls (A0 : Option Addr) (c0 : Nat) (l0 : List S55) (r : Bool) (w : World) (hr0 : Kd.C k55 w A0 l0.length l0) (hc0 : l0.length ≤ c0) (h : wear_validRuns.f l0 = some r) :
  Calls Try.prog 74 #[.slice A0 l0.length c0] w fun e w' => e = .returned (.bool r) ∧ Below w.heap.size w w' := by
 have hl1 : l0.length ≤ 9223372036854775807 := hr0.2.1
 have HR := Aside0.mk hr0
 clear hr0
 obtain rfl := Option.some.inj h
 clear h
 by_cases h2 : (l0.length : Int) ≤ 40
 ·
  rw [decide_eq_true h2, Bool.true_and]
  have k2 : decide ((l0.length : Int) ≤ 40) = true := decide_eq_true h2
  clear h2
  by_cases h3 : l0.any wear_validRuns.bad = true
  ·
   rw [h3]
   have H3 := Aside0.mk h3
   clear h3
   go_enter Try.func74, Try.ntmps74
   go_wp2_with (go_at_call 86; (refine (slices_ContainsFunc_api_Run_api_Run.contains 87 #[] wear_validRuns.bad A0 c0 l0 _ HR.out hc0 wear_validRuns.enter (fun x _ W hb => wear_validRuns.clos x W)).mono ?_); rintro e w' ⟨rfl, hb⟩; have HB := Aside0.mk hb; clear hb; rw [H3.out])
   go_ret
   exact ⟨rfl, HB.out⟩
  ·
   replace h3 := Bool.eq_false_iff.mpr h3
   rw [h3]
   have H3 := Aside0.mk h3
   clear h3
   go_enter Try.func74, Try.ntmps74
   go_wp2_with (go_at_call 86; (refine (slices_ContainsFunc_api_Run_api_Run.contains 87 #[] wear_validRuns.bad A0 c0 l0 _ HR.out hc0 wear_validRuns.enter (fun x _ W hb => wear_validRuns.clos x W)).mono ?_); rintro e w' ⟨rfl, hb⟩; have HB := Aside0.mk hb; clear hb; rw [H3.out])
   go_ret
   exact ⟨rfl, HB.out⟩
 ·
  rw [decide_eq_false h2, Bool.false_and]
  have k2 : decide ((l0.length : Int) ≤ 40) = false := decide_eq_false h2
  clear h2
  go_enter Try.func74, Try.ntmps74
  go_wp2
  go_ret
  exact ⟨rfl, Below.refl _ _⟩

/-! ### wear_totals: function 75 -/
def wear_totals.step (x : S55) (s : List Int) : Option (List Int) :=
 if 0 ≤ x.f0 ∧ x.f0 < 61 ∧ 0 ≤ wrap64 (x.f1 + 1) ∧ wrap64 (x.f1 + 1) < 61 then
  some ((s.set x.f0.toNat (wrap64 (rd s x.f0 + x.f2))).set (wrap64 (x.f1 + 1)).toNat (wrap64 (rd (s.set x.f0.toNat (wrap64 (rd s x.f0 + x.f2))) (wrap64 (x.f1 + 1)) - x.f2)))
 else none
def wear_totals.steps : List S55 → List Int → Option (List Int)
 | [], s => some s
 | x :: t, s => (wear_totals.step x s).bind fun s' => wear_totals.steps t s'
def wear_totals.sums : List Int → Int → List Int
 | [], _ => []
 | a :: t, s => wrap64 (s + a) :: wear_totals.sums t (wrap64 (s + a))
def wear_totals.f (l : List S55) : Option (List Int) := (wear_totals.steps l (List.replicate 61 0)).map fun s => wear_totals.sums (s.take 60) 0
def wear_totals.acc : List Int → Int → Int
 | [], z => z
 | a :: t, z => wear_totals.acc t (wrap64 (z + a))
theorem wear_totals.sums_len : ∀ (l : List Int) (z : Int), (wear_totals.sums l z).length = l.length
 | [], _ => rfl
 | a :: t, z => by rw [wear_totals.sums, List.length_cons, List.length_cons, wear_totals.sums_len]
theorem wear_totals.sums_snoc : ∀ (l : List Int) (z a : Int), wear_totals.sums (l ++ [a]) z = wear_totals.sums l z ++ [wrap64 (wear_totals.acc l z + a)]
 | [], _, _ => rfl
 | b :: t, z, a => by rw [List.cons_append, wear_totals.sums, wear_totals.sums_snoc, wear_totals.sums, wear_totals.acc]; rfl
theorem wear_totals.acc_snoc : ∀ (l : List Int) (z a : Int), wear_totals.acc (l ++ [a]) z = wrap64 (wear_totals.acc l z + a)
 | [], _, _ => rfl
 | b :: t, z, a => by rw [List.cons_append, wear_totals.acc, wear_totals.acc_snoc, wear_totals.acc]
theorem wear_totals.next (s : List Int) (i : Int) (h0 : 0 ≤ i) (h1 : i < 60) (h : i.toNat < s.length) :
  (wear_totals.sums (s.take i.toNat) 0 ++ List.replicate (60 - i.toNat) 0).set i.toNat (wrap64 (wear_totals.acc (s.take i.toNat) 0 + rd s i)) = wear_totals.sums (s.take (i + 1).toNat) 0 ++ List.replicate (60 - (i + 1).toNat) 0 ∧ wear_totals.acc (s.take (i + 1).toNat) 0 = wrap64 (wear_totals.acc (s.take i.toNat) 0 + rd s i) := by
 have e : (i + 1).toNat = i.toNat + 1 := by omega
 have er : rd s i = s[i.toNat] := by simp [rd, List.getD_eq_getElem?_getD, h]
 have et : s.take (i.toNat + 1) = s.take i.toNat ++ [rd s i] := by rw [er]; exact List.take_succ_eq_append_getElem h
 have el : (wear_totals.sums (s.take i.toNat) 0).length = i.toNat := by rw [wear_totals.sums_len, List.length_take]; omega
 rw [e, et, wear_totals.sums_snoc, wear_totals.acc_snoc]
 refine ⟨?_, rfl⟩
 rw [show 60 - i.toNat = (60 - (i.toNat + 1)) + 1 by omega, List.replicate_succ, List.set_append_right _ _ (by omega), el, Nat.sub_self, List.set_cons_zero, List.append_assoc]
 rfl
theorem wear_totals.rd_get (l : List S55) (x : Int) (h0 : 0 ≤ x) (h1 : x < (l.length : Int)) : ∃ h : x.toNat < l.length, rd_T55 l x = l[x.toNat] := by
 have h : x.toNat < l.length := by omega
 exact ⟨h, by simp [rd_T55, List.getD_eq_getElem?_getD, h]⟩
def wear_totals.ar (s : List Int) : Array Value := (s.map (Value.int .i64)).toArray
theorem wear_totals.step_len {x : S55} {s s' : List Int} (h : wear_totals.step x s = some s') : s'.length = s.length := by
 unfold wear_totals.step at h
 split at h
 ·
  cases h; simp
 ·
  cases h
theorem wear_totals.ar_size (s : List Int) : (wear_totals.ar s).size = s.length := by simp [wear_totals.ar]
theorem wear_totals.ar_one (s : List Int) : (wear_totals.ar s).all (·.oneCell') = true := by
 rw [Array.all_eq_true]
 intro i hi
 simp only [wear_totals.ar, List.getElem_toArray, List.getElem_map]
 rfl
theorem wear_totals.ar_get (s : List Int) (i : Int) (h0 : 0 ≤ i) (h1 : i < (s.length : Int)) : (wear_totals.ar s)[i.toNat]? = some (.int .i64 (rd s i)) := by
 have h : i.toNat < s.length := by omega
 simp [wear_totals.ar, rd, List.getD_eq_getElem?_getD, h]
theorem wear_totals.ar_set (s : List Int) (i : Nat) (v : Int) : (wear_totals.ar s).setIfInBounds i (.int .i64 v) = wear_totals.ar (s.set i v) := by
 simp [wear_totals.ar, List.map_set]
set_option maxHeartbeats 4000000 in
set_option maxRecDepth 100000 in
theorem wear_totals.calls (A0 : Option Addr) (c0 : Nat) (l0 : List S55) (r : List Int) (w : World) (hr0 : Kd.C k55 w A0 l0.length l0) (hc0 : l0.length ≤ c0) (h : wear_totals.f l0 = some r) :
  Calls Try.prog 75 #[.slice A0 l0.length c0] w fun e w' => e = .returned (.agg (wear_totals.ar r)) ∧ Below w.heap.size w w' := by
 have hl1 : l0.length ≤ 9223372036854775807 := hr0.2.1
 have hu := Try.underlying55
 have HR := Aside0.mk hr0
 clear hr0
 obtain ⟨sf, hsf, hr⟩ := Option.map_eq_some_iff.1 h
 have HS := Aside0.mk hsf
 have HRR := Aside0.mk hr
 clear h hsf hr
 have Z60 := Aside0.mk (show wear_totals.ar (List.replicate 60 0) = wear_totals.ar (List.replicate 60 0) from rfl)
 go_enter Try.func75, Try.ntmps75
 go_wp2
 obtain ⟨w0, hw0⟩ : ∃ w0, w0 = (w.alloc (.cells (wear_totals.ar (List.replicate 60 0)) 84)).alloc (.cells (wear_totals.ar (List.replicate 61 0)) 95) := ⟨_, rfl⟩
 have s0 : (w.alloc (.cells (wear_totals.ar (List.replicate 60 0)) 84)).heap.size = w.heap.size + 1 := Array.size_push ..
 have F2 : Aside0 (w0.heap[w.heap.size]? = some (.cells (wear_totals.ar (List.replicate 60 0)) 84 (0, 0))) := ⟨by rw [hw0]; exact blk_alloc (blk_new w _) _⟩
 have F3 : Aside0 (w0.heap[w.heap.size + 1]? = some (.cells (wear_totals.ar (List.replicate 61 0)) 95 (0, 0))) := ⟨by rw [hw0, ← s0]; exact blk_new _ _⟩
 have HB0 : Aside0 (Below w.heap.size w w0) := ⟨by rw [hw0]; exact below_alloc (below_alloc (Below.refl _ _) _) _⟩
 have hsz : Aside0 (w.heap.size + 2 ≤ w0.heap.size) := ⟨by
  have h2 : w0.heap.size = (w.alloc (.cells (wear_totals.ar (List.replicate 60 0)) 84)).heap.size + 1 := by rw [hw0]; exact Array.size_push ..
  omega⟩
 change Code.wp _ _ _ _ ((w.alloc (.cells (wear_totals.ar (List.replicate 60 0)) 84)).alloc (.cells (wear_totals.ar (List.replicate 61 0)) 95))
 rw [← hw0]
 clear hw0 s0
 go_loopg [5, 11] l0.length (fun kq v5 v11 w' => ∃ (x : Int) (s : List Int), v11 = .int .i64 x ∧ Aside0 (0 ≤ x ∧ x ≤ l0.length) ∧ Aside0 (kq = l0.length - x.toNat) ∧ Aside0 (wear_totals.steps (l0.drop x.toNat) s = some sf) ∧ Aside0 (s.length = 61) ∧ Aside0 (w'.heap[w.heap.size]? = some (.cells (wear_totals.ar (List.replicate 60 0)) 84 (0, 0))) ∧ Aside0 (w'.heap[w.heap.size + 1]? = some (.cells (wear_totals.ar s) 95 (0, 0))) ∧ Aside0 (Below w.heap.size w w') ∧ Aside0 (w.heap.size + 2 ≤ w'.heap.size))
 case atStart => exact ⟨0, List.replicate 61 0, rfl, ⟨by omega, by omega⟩, ⟨rfl⟩, HS, ⟨List.length_replicate⟩, F2, F3, HB0, hsz⟩
 case round =>
  obtain ⟨x, s, rfl, HI, HK, HST, HL, G2, G3, HB, HZ⟩ := hrel
  clear F2 F3 HB0 hsz HS
  by_cases hlt : x < (l0.length : Int)
  ·
   have h1 : decide (x < (l0.length : Int)) = true := decide_eq_true hlt
   have p1 : 0 ≤ x := HI.out.1
   have HR0 := Aside0.mk (Kd.C_below HR.out HB.out)
   obtain ⟨ad, e1, hx0, hx1, hx2⟩ := at_T55 HR0.out x p1 hlt
   cases e1
   obtain ⟨hxl, hX⟩ := wear_totals.rd_get l0 x p1 hlt
   have hdrop : l0.drop x.toNat = rd_T55 l0 x :: l0.drop (x.toNat + 1) := by rw [hX]; exact List.drop_eq_getElem_cons hxl
   have hst := HST.out
   rw [hdrop, wear_totals.steps] at hst
   obtain ⟨s', hs1, hs2⟩ := Option.bind_eq_some_iff.1 hst
   have HS2 := Aside0.mk hs2
   have HL2 := Aside0.mk ((wear_totals.step_len hs1).trans HL.out)
   have hcond : 0 ≤ (rd_T55 l0 x).f0 ∧ (rd_T55 l0 x).f0 < 61 ∧ 0 ≤ wrap64 ((rd_T55 l0 x).f1 + 1) ∧ wrap64 ((rd_T55 l0 x).f1 + 1) < 61 := by
    unfold wear_totals.step at hs1
    by_cases hc : 0 ≤ (rd_T55 l0 x).f0 ∧ (rd_T55 l0 x).f0 < 61 ∧ 0 ≤ wrap64 ((rd_T55 l0 x).f1 + 1) ∧ wrap64 ((rd_T55 l0 x).f1 + 1) < 61
    ·
     exact hc
    ·
     rw [if_neg hc] at hs1; cases hs1
   have hs' : Aside0 (s' = (s.set (rd_T55 l0 x).f0.toNat (wrap64 (rd s (rd_T55 l0 x).f0 + (rd_T55 l0 x).f2))).set (wrap64 ((rd_T55 l0 x).f1 + 1)).toNat (wrap64 (rd (s.set (rd_T55 l0 x).f0.toNat (wrap64 (rd s (rd_T55 l0 x).f0 + (rd_T55 l0 x).f2))) (wrap64 ((rd_T55 l0 x).f1 + 1)) - (rd_T55 l0 x).f2))) := ⟨by
    unfold wear_totals.step at hs1
    rw [if_pos hcond] at hs1
    exact (Option.some.inj hs1).symm⟩
   have HCO := Aside0.mk hcond
   clear hst hs1 hs2 hdrop hxl hX hcond
   go_wp2
   obtain ⟨w1, hw1⟩ : ∃ w1, w1 = wr.alloc (.cells #[.int .i64 (rd_T55 l0 x).f0, .int .i64 (rd_T55 l0 x).f1, .int .i64 (rd_T55 l0 x).f2] 55) := ⟨_, rfl⟩
   have B1 : Aside0 (w1.heap[wr.heap.size]? = some (.cells #[.int .i64 (rd_T55 l0 x).f0, .int .i64 (rd_T55 l0 x).f1, .int .i64 (rd_T55 l0 x).f2] 55 (0, 0))) := ⟨by rw [hw1]; exact blk_new _ _⟩
   replace G2 : Aside0 (w1.heap[w.heap.size]? = some (.cells (wear_totals.ar (List.replicate 60 0)) 84 (0, 0))) := ⟨by rw [hw1]; exact blk_alloc G2.out _⟩
   replace G3 : Aside0 (w1.heap[w.heap.size + 1]? = some (.cells (wear_totals.ar s) 95 (0, 0))) := ⟨by rw [hw1]; exact blk_alloc G3.out _⟩
   replace HB : Aside0 (Below w.heap.size w w1) := ⟨by rw [hw1]; exact below_alloc HB.out _⟩
   have HZ1 : Aside0 (w.heap.size + 2 ≤ wr.heap.size) := HZ
   replace HZ : Aside0 (w1.heap.size = wr.heap.size + 1) := ⟨by rw [hw1]; exact Array.size_push ..⟩
   rw [← hw1]
   clear hw1 hx0 hx1 hx2
   generalize rd_T55 l0 x = X at *
   have k0 := blkc B1.out 0 (.int .i64 X.f0) rfl
   have k1 := blkc B1.out 1 (.int .i64 X.f1) rfl
   have k2 := blkc B1.out 2 (.int .i64 X.f2) rfl
   have a0 := blkc G3.out X.f0.toNat (.int .i64 (rd s X.f0)) (wear_totals.ar_get s X.f0 HCO.out.1 (by have := HCO.out.2.1; have := HL.out; omega))
   have a1 := blk_frozen G3.out X.f0.toNat
   have b0 := eq_true HCO.out.1
   have b1 := eq_true HCO.out.2.1
   go_still_tail 8, (by kernel_rfl)
   change wpList _ _ _ _ _ w1.drew
   obtain ⟨w2, hw2⟩ : ∃ w2, w2 = w1.drew := ⟨_, rfl⟩
   rw [← hw2]
   have q_ := blk_drew B1.out
   rw [← hw2] at q_
   replace B1 := Aside0.mk q_
   clear q_
   have q_ := blk_drew G2.out
   rw [← hw2] at q_
   replace G2 := Aside0.mk q_
   clear q_
   have q_ := blk_drew G3.out
   rw [← hw2] at q_
   replace G3 := Aside0.mk q_
   clear q_
   have q_ := below_drew1 HB.out
   rw [← hw2] at q_
   replace HB := Aside0.mk q_
   clear q_
   replace HZ : Aside0 (w2.heap.size = wr.heap.size + 1) := ⟨by rw [hw2]; exact HZ.out⟩
   clear hw2 k0 k1 k2 a0 a1
   have a1 := blk_frozen G3.out X.f0.toNat
   have a0 := blkc G3.out X.f0.toNat (.int .i64 (rd s X.f0)) (wear_totals.ar_get s X.f0 HCO.out.1 (by have := HCO.out.2.1; have := HL.out; omega))
   go_wp2
   obtain ⟨w3, hw3⟩ : ∃ w3, w3 = w2.setCell ⟨w.heap.size + 1, X.f0.toNat, none⟩ (.int .i64 (wrap64 (rd s X.f0 + X.f2))) := ⟨_, rfl⟩
   obtain ⟨s2, hs2⟩ : ∃ s2, s2 = s.set X.f0.toNat (wrap64 (rd s X.f0 + X.f2)) := ⟨_, rfl⟩
   obtain ⟨j, hj⟩ : ∃ j, j = wrap64 (X.f1 + 1) := ⟨_, rfl⟩
   have hn1 : wr.heap.size ≠ w.heap.size + 1 := by have := HZ1.out; omega
   have hn2 : w.heap.size ≠ w.heap.size + 1 := by omega
   have q_ := blk_far B1.out hn1 (p := ⟨w.heap.size + 1, X.f0.toNat, none⟩) (.int .i64 (wrap64 (rd s X.f0 + X.f2)))
   rw [← hw3] at q_
   replace B1 := Aside0.mk q_
   clear q_
   have q_ := blk_far G2.out hn2 (p := ⟨w.heap.size + 1, X.f0.toNat, none⟩) (.int .i64 (wrap64 (rd s X.f0 + X.f2)))
   rw [← hw3] at q_
   replace G2 := Aside0.mk q_
   clear q_
   have q_ := blk_put G3.out X.f0.toNat (.int .i64 (wrap64 (rd s X.f0 + X.f2))) (wear_totals.ar_set s _ _)
   rw [← hw3, ← hs2] at q_
   replace G3 := Aside0.mk q_
   clear q_
   replace HB : Aside0 (Below w.heap.size w w3) := ⟨by rw [hw3]; exact below_set HB.out (by omega)⟩
   replace HZ : Aside0 (w3.heap.size = wr.heap.size + 1) := ⟨by rw [hw3]; simp [World.setCell, HZ.out]⟩
   have hq := hs'.out
   rw [← hs2, ← hj] at hq
   replace hs' := Aside0.mk hq
   have hc2 := HCO.out
   rw [← hj] at hc2
   have HC2 := Aside0.mk hc2
   have HLs : Aside0 (s2.length = 61) := ⟨by rw [hs2, List.length_set]; exact HL.out⟩
   have hji : IntKind.i64.wrap (X.f1 + 1) = j := by rw [hj]; exact i64_w _
   rw [← hw3]
   clear hw3 hq hc2 HCO a0 a1 b0 b1 hn1 hn2 hs2 hj HL
   have k0 := blkc B1.out 0 (.int .i64 X.f0) rfl
   have k1 := blkc B1.out 1 (.int .i64 X.f1) rfl
   have k2 := blkc B1.out 2 (.int .i64 X.f2) rfl
   have a0 := blkc G3.out j.toNat (.int .i64 (rd s2 j)) (wear_totals.ar_get s2 j HC2.out.2.2.1 (by have := HC2.out.2.2.2; have := HLs.out; omega))
   have a1 := blk_frozen G3.out j.toNat
   have b0 := eq_true HC2.out.2.2.1
   have b1 := eq_true HC2.out.2.2.2
   go_still_tail 9, (by kernel_rfl)
   change wpList _ _ _ _ _ w3.drew
   obtain ⟨w4, hw4⟩ : ∃ w4, w4 = w3.drew := ⟨_, rfl⟩
   rw [← hw4]
   have q_ := blk_drew B1.out
   rw [← hw4] at q_
   replace B1 := Aside0.mk q_
   clear q_
   have q_ := blk_drew G2.out
   rw [← hw4] at q_
   replace G2 := Aside0.mk q_
   clear q_
   have q_ := blk_drew G3.out
   rw [← hw4] at q_
   replace G3 := Aside0.mk q_
   clear q_
   have q_ := below_drew1 HB.out
   rw [← hw4] at q_
   replace HB := Aside0.mk q_
   clear q_
   replace HZ : Aside0 (w4.heap.size = wr.heap.size + 1) := ⟨by rw [hw4]; exact HZ.out⟩
   clear hw4 k0 k1 k2 a0 a1
   have a1 := blk_frozen G3.out j.toNat
   have a0 := blkc G3.out j.toNat (.int .i64 (rd s2 j)) (wear_totals.ar_get s2 j HC2.out.2.2.1 (by have := HC2.out.2.2.2; have := HLs.out; omega))
   go_wp2
   go_roundg (l0.length - (x + 1).toNat)
   case measure => have := HI.out; have := HK.out; omega
   case rel =>
    have hw : wrap64 (x + 1) = x + 1 := by unfold wrap64; have := HI.out; omega
    have hn2 : w.heap.size ≠ w.heap.size + 1 := by omega
    refine ⟨x + 1, s', by first | rfl | rw [hw], ⟨by have := HI.out; omega, by have := HI.out; omega⟩, ⟨rfl⟩, ⟨?_⟩, HL2, ⟨blk_far G2.out hn2 _⟩, ⟨?_⟩, ⟨below_set HB.out (by omega)⟩, ⟨by simp only [World.setCell, Array.size_modify]; have := HZ.out; have := HZ1.out; omega⟩⟩
    ·
     rw [show (x + 1).toNat = x.toNat + 1 by have := HI.out; omega]; exact HS2.out
    ·
     rw [hs'.out]; exact blk_put G3.out j.toNat _ (wear_totals.ar_set s2 _ _)
  ·
   have h1 : decide (x < (l0.length : Int)) = false := decide_eq_false hlt
   have hx : l0.drop x.toNat = [] := List.drop_eq_nil_of_le (by have := HI.out; omega)
   have hst := HST.out
   rw [hx, wear_totals.steps] at hst
   obtain rfl := Option.some.inj hst
   clear hst HST HK HI hx
   go_wp2
   obtain ⟨w5, hw5⟩ : ∃ w5, w5 = wr.alloc (.cells (wear_totals.ar (List.replicate 60 0)) 84) := ⟨_, rfl⟩
   have G6 : Aside0 (w5.heap[wr.heap.size]? = some (.cells (wear_totals.ar (wear_totals.sums (s.take 0) 0 ++ List.replicate (60 - 0) 0)) 84 (0, 0))) := ⟨by rw [hw5]; exact blk_new _ _⟩
   replace G2 : Aside0 (w5.heap[w.heap.size]? = some (.cells (wear_totals.ar (List.replicate 60 0)) 84 (0, 0))) := ⟨by rw [hw5]; exact blk_alloc G2.out _⟩
   replace G3 : Aside0 (w5.heap[w.heap.size + 1]? = some (.cells (wear_totals.ar s) 95 (0, 0))) := ⟨by rw [hw5]; exact blk_alloc G3.out _⟩
   replace HB : Aside0 (Below w.heap.size w w5) := ⟨by rw [hw5]; exact below_alloc HB.out _⟩
   change Code.wp _ _ _ _ (wr.alloc (.cells (wear_totals.ar (List.replicate 60 0)) 84))
   rw [← hw5]
   clear hw5
   have HZ6 : Aside0 (w.heap.size + 2 ≤ wr.heap.size) := HZ
   generalize wr.heap.size = g6 at *
   go_loopg [7, 8, 33] 60 (fun kq v7 v8 v33 w' => ∃ (i : Int), v33 = .int .i64 i ∧ v7 = .int .i64 (wear_totals.acc (s.take i.toNat) 0) ∧ Aside0 (0 ≤ i ∧ i ≤ 60) ∧ Aside0 (kq = 60 - i.toNat) ∧ Aside0 (w'.heap[g6]? = some (.cells (wear_totals.ar (wear_totals.sums (s.take i.toNat) 0 ++ List.replicate (60 - i.toNat) 0)) 84 (0, 0))) ∧ Aside0 (w'.heap[w.heap.size]? = some (.cells (wear_totals.ar (List.replicate 60 0)) 84 (0, 0))) ∧ Aside0 (w'.heap[w.heap.size + 1]? = some (.cells (wear_totals.ar s) 95 (0, 0))) ∧ Aside0 (Below w.heap.size w w'))
   case atStart => exact ⟨0, rfl, rfl, ⟨by omega, by omega⟩, ⟨rfl⟩, G6, G2, G3, HB⟩
   case round =>
    obtain ⟨i, rfl, rfl, HI, HK, G6, G2, G3, HB⟩ := hrel
    by_cases hlt : i < 60
    ·
     have p1 : 0 ≤ i := HI.out.1
     have hi61 : i.toNat < s.length := by have := HL.out; omega
     have hl60 : (wear_totals.sums (s.take i.toNat) 0 ++ List.replicate (60 - i.toNat) 0).length = 60 := by rw [List.length_append, wear_totals.sums_len, List.length_take, List.length_replicate]; omega
     have HL60 := Aside0.mk hl60
     have c3 := blkc G3.out i.toNat (.int .i64 (rd s i)) (wear_totals.ar_get s i p1 (by omega))
     have c6 := blkc G6.out i.toNat (.int .i64 (rd (wear_totals.sums (s.take i.toNat) 0 ++ List.replicate (60 - i.toNat) 0) i)) (wear_totals.ar_get _ i p1 (by omega))
     have z6 := blk_frozen G6.out i.toNat
     have H61 := Aside0.mk hi61
     have b0 := eq_true p1
     have b1 := eq_true hlt
     have b2 : (i < 61) = True := eq_true (by omega)
     clear hi61 hl60
     go_wp2
     obtain ⟨n1, n2⟩ := wear_totals.next s i HI.out.1 (of_eq_true b1) H61.out
     go_roundg (60 - (i + 1).toNat)
     case measure => have := HI.out; have := HK.out; omega
     case rel =>
      have hw : wrap64 (i + 1) = i + 1 := by unfold wrap64; have := HI.out; omega
      have hq := of_eq_true b1
      have hz1 := HZ6.out
      refine ⟨i + 1, by first | rfl | rw [hw], by rw [n2], ⟨by have := HI.out; omega, by have := HI.out; omega⟩, ⟨rfl⟩, ⟨?_⟩, ⟨blk_far G2.out (by show w.heap.size ≠ g6; omega) _⟩, ⟨blk_far G3.out (by show w.heap.size + 1 ≠ g6; omega) _⟩, ⟨below_set HB.out (by omega)⟩⟩
      rw [← n1]
      exact blk_put G6.out i.toNat _ (wear_totals.ar_set _ _ _)
    ·
     have h1 : decide (i < 60) = false := decide_eq_false hlt
     have hi : i = 60 := by have := HI.out; omega
     subst hi
     have hl60 : (wear_totals.sums (s.take (60 : Int).toNat) 0 ++ List.replicate (60 - (60 : Int).toNat) 0).length = 60 := by rw [List.length_append, wear_totals.sums_len, List.length_take, List.length_replicate]; have := HL.out; simp only [show (60 : Int).toNat = 60 from rfl]; omega
     have er : wear_totals.sums (s.take (60 : Int).toNat) 0 ++ List.replicate (60 - (60 : Int).toNat) 0 = r := by rw [← HRR.out]; simp only [show (60 : Int).toNat = 60 from rfl, Nat.sub_self, List.replicate_zero, List.append_nil]
     rw [er] at hl60
     have q_ := G6.out
     rw [er] at q_
     replace G6 := Aside0.mk q_
     have hz : (wear_totals.ar r).size = 60 := by rw [wear_totals.ar_size]; exact hl60
     have hi1 : Aside0 ((Try.prog.info? 84).map (·.size) = some (wear_totals.ar r).size) := ⟨by rw [hz]; kernel_rfl⟩
     have hi2 : Aside0 ((wear_totals.ar (List.replicate 60 0)).size = (wear_totals.ar r).size) := ⟨by rw [hz]; rfl⟩
     have hi3 : Aside0 ((wear_totals.ar r).all (·.oneCell') = true) := ⟨wear_totals.ar_one r⟩
     have hu84 := Aside0.mk Try.underlying84
     clear q_ er hl60 hz
     go_wp2_with (first | (with_reducible refine wpList_load_row rfl 84 (.tmp 6) rfl g6 rfl 84 (wear_totals.ar r) (0, 0) _ G6.out hu84.out rfl hi1.out ?_) | (with_reducible refine wpList_store_row rfl 84 (.tmp 2) (.tmp 45) rfl w.heap.size (wear_totals.ar r) rfl rfl 84 (wear_totals.ar (List.replicate 60 0)) G2.out hi1.out hi2.out hi3.out ?_))
     exact bodyPost_ret (results_cell_row rfl _ _ w.heap.size 84 (wear_totals.ar r) (0, 0) _ rfl (setRow_heap _ _ _ _ _ _ G2.out) hu84.out rfl hi1.out) rfl ⟨rfl, below_setRow HB.out (Nat.le_refl _) _⟩

/-! ### wear_Totals: function 40 -/
theorem wear_Totals.row60 {W : World} {base g : Nat} {r : List Int} (hr : r.length = 60) (h : W.heap[g]? = some (.cells (wear_totals.ar r) 84 (0, 0))) (hb : base ≤ g) :
  Kd.R (Kd.int .i64) 84 W base (fun _ => True) (.slice (some ⟨g, 0, none⟩) 60 60) r := by
 refine Kd.R_of_own ?_ (fun _ _ => trivial)
 rw [hr]
 refine ⟨by rw [encs_length, hr], .inr ⟨g, 60, wear_totals.ar r, rfl, hb, h, Nat.le_refl _, by decide, by rw [wear_totals.ar_size, hr], ?_⟩⟩
 have e : (wear_totals.ar r).toList = encs (Value.int .i64) r := by simp [wear_totals.ar, encs]
 rw [e, List.take_of_length_le]
 rw [encs_length, hr]; exact Nat.le_refl _

def wear_Totals.f (l0 : List S55) : Option (List Int × Int) := (wear_validRuns.f l0).bind fun v => if v = true then (wear_totals.f l0).bind fun r => some (r, 0) else some ([], 71)
theorem wear_Totals.len {l0 : List S55} {r : List Int} (h : wear_totals.f l0 = some r) : r.length = 60 := by
 obtain ⟨s, hs, rfl⟩ := Option.map_eq_some_iff.1 h
 have : ∀ (l : List S55) (s s' : List Int), wear_totals.steps l s = some s' → s'.length = s.length := by
  intro l
  induction l with
  | nil => intro s s' h; cases h; rfl
  | cons x t ih =>
   intro s s' h
   rw [wear_totals.steps] at h
   obtain ⟨s1, h1, h2⟩ := Option.bind_eq_some_iff.1 h
   rw [ih _ _ h2, wear_totals.step_len h1]
 rw [wear_totals.sums_len, List.length_take, this _ _ _ hs, List.length_replicate]; rfl
set_option maxHeartbeats 4000000 in
set_option maxRecDepth 100000 in
theorem wear_Totals.calls (A0 : Option Addr) (c0 : Nat) (l0 : List S55) (r1 : List Int) (r2 : Int) (w : World) (hr0 : Kd.C k55 w A0 l0.length l0) (hc0 : l0.length ≤ c0) (h : wear_Totals.f l0 = some (r1, r2)) :
  Calls Try.prog 40 #[.slice A0 l0.length c0] w fun e w' => ∃ v0_ : Value, e = .returned (.tuple #[v0_, .int .i64 r2]) ∧ Kd.R (Kd.int .i64) 84 w' w.heap.size (fun _ => True) v0_ r1 ∧ Below w.heap.size w w' := by
 have HR := Aside0.mk hr0
 clear hr0
 unfold wear_Totals.f at h
 obtain ⟨v, hv, h⟩ := Option.bind_eq_some_iff.1 h
 have HV := Aside0.mk hv
 clear hv
 cases v with
 | false =>
  obtain ⟨rfl, rfl⟩ := Prod.mk.inj (Option.some.inj h)
  clear h
  go_enter Try.func40, Try.ntmps40
  go_wp2_with (first | (go_at_call 74; (refine (wear_validRuns.calls _ _ l0 false _ HR.out hc0 HV.out).mono ?_); rintro e w1 ⟨rfl, hb⟩; have HB1 := Aside0.mk hb; clear hb))
  go_ret2
  exact ⟨_, rfl, Kd.R_nil _ _ _ _ _, HB1.out⟩
 | true =>
  obtain ⟨r, hr, h⟩ := Option.bind_eq_some_iff.1 h
  obtain ⟨rfl, rfl⟩ := Prod.mk.inj (Option.some.inj h)
  have HT := Aside0.mk hr
  have HL := Aside0.mk (wear_Totals.len hr)
  have hz : (wear_totals.ar r).size = 60 := by rw [wear_totals.ar_size]; exact HL.out
  have hi1 : Aside0 ((Try.prog.info? 84).map (·.size) = some (wear_totals.ar r).size) := ⟨by rw [hz]; kernel_rfl⟩
  have hi2 : Aside0 ((wear_totals.ar (List.replicate 60 0)).size = (wear_totals.ar r).size) := ⟨by rw [hz]; rfl⟩
  have hi3 : Aside0 ((wear_totals.ar r).all (·.oneCell') = true) := ⟨wear_totals.ar_one r⟩
  have hu84 := Try.underlying84
  clear h hr hz
  go_enter Try.func40, Try.ntmps40
  go_wp2_with (first | (go_at_call 74; (refine (wear_validRuns.calls _ _ l0 true _ HR.out hc0 HV.out).mono ?_); rintro e w1 ⟨rfl, hb⟩; have HB1 := Aside0.mk hb; clear hb) | (go_at_call 75; (refine (wear_totals.calls _ _ l0 r _ (Kd.C_below HR.out HB1.out) hc0 HT.out).mono ?_); rintro e w2 ⟨rfl, hb⟩; have HB2 := Aside0.mk (below_step HB1.out hb); clear hb) | (with_reducible refine wpList_store_row rfl 84 (.tmp 4) (.tmp 9) rfl w2.heap.size (wear_totals.ar r) rfl rfl 84 (wear_totals.ar (List.replicate 60 0)) (blk_new w2 _) hi1.out hi2.out hi3.out ?_))
  go_ret2
  have hle : w.heap.size ≤ w2.heap.size := HB2.out.size
  exact ⟨_, rfl, wear_Totals.row60 HL.out (setRow_heap _ _ _ _ _ _ (blk_new w2 _)) hle, below_setRow (below_alloc HB2.out _) hle _⟩

/-! ### dropperref07_Runs: function 39 -/
def dropperref07_Runs.l0 : Nat → List (S55) → Int → Option (Bool)
 | 0, _, _ => none
 | k + 1, x0, x3 => if x3 < (x0.length : Int) then (if 0 ≤ x3 then (if ((rd_T55 x0 x3).f0) < 0 then (some false) else (if ((rd_T55 x0 x3).f0) > ((rd_T55 x0 x3).f1) then (some false) else (if ((rd_T55 x0 x3).f1) ≥ 60 then (some false) else (if ((rd_T55 x0 x3).f2) < 1 then (some false) else (if ((rd_T55 x0 x3).f2) > 1000000 then (some false) else (dropperref07_Runs.l0 k x0 (wrap64 (x3 + 1)))))))) else (none)) else (some (decide ((x0.length : Int) ≤ 40)))
def dropperref07_Runs.f (k : Nat) (l0 : List (S55)) : Option (Bool) := dropperref07_Runs.l0 k l0 0
theorem dropperref07_Runs.mono_l : ∀ k, (∀ y0 y1, LeO (dropperref07_Runs.l0 k y0 y1) (dropperref07_Runs.l0 (k + 1) y0 y1))
 | 0 => fun _ _ r h => by simp [dropperref07_Runs.l0] at h
 | k + 1 => by
  have ih0 := dropperref07_Runs.mono_l k
  ·
   intro y0 y1
   unfold dropperref07_Runs.l0
   repeat' first
   | (with_reducible exact ih0 _ _)
   | (with_reducible exact LeO.refl _)
   | (with_reducible exact LeO.none _)
   | (with_reducible refine LeO.ite ?_ ?_)
   | (with_reducible refine LeO.bind ?_ (fun _ => ?_))
   | exact ih0 _ _
   | exact LeO.none _
   | refine LeO.ite ?_ ?_
   | refine LeO.bind ?_ (fun _ => ?_)
theorem dropperref07_Runs.mono : ∀ a0 k, LeO (dropperref07_Runs.f k a0) (dropperref07_Runs.f (k + 1) a0) := by
 intro a0 k
 have ih0 := dropperref07_Runs.mono_l k
 unfold dropperref07_Runs.f
 repeat' first
   | (with_reducible exact ih0 _ _)
   | (with_reducible exact LeO.refl _)
   | (with_reducible exact LeO.none _)
   | (with_reducible refine LeO.ite ?_ ?_)
   | (with_reducible refine LeO.bind ?_ (fun _ => ?_))
   | exact ih0 _ _
   | exact LeO.none _
   | refine LeO.ite ?_ ?_
   | refine LeO.bind ?_ (fun _ => ?_)
set_option maxHeartbeats 8000000 in
set_option maxRecDepth 100000 in
theorem dropperref07_Runs.calls (k : Nat) (A0 : Option Addr) (c0 : Nat) (l0 : List (S55)) (r : Bool) (w : World) (hr0 : Kd.C k55 w A0 l0.length l0) (hc0 : l0.length ≤ c0) (h : dropperref07_Runs.f k l0 = some r) :
  Calls Try.prog 39 #[.slice A0 l0.length c0] w fun e w' => e = .returned (.bool r) ∧ Below w.heap.size w w' := by
 have hu55 := Try.underlying55
 have HR0 := Aside0.mk hr0
 have HC0 := Aside0.mk hc0
 clear hr0 hc0
 have HB := Aside0.mk (Below.refl w.heap.size w)
 have H : (dropperref07_Runs.l0 k l0 0) = some r := h
 clear h
 have H' := Aside0.mk H
 clear H
 go_enter Try.func39, Try.ntmps39
 go_wp2
 go_loopg [3] k (fun kq v3 w' => ∃ (x3_1 : Int), v3 = .int .i64 x3_1 ∧ Aside0 (dropperref07_Runs.l0 kq l0 x3_1 = some r) ∧ Aside0 (kq ≤ k) ∧ Aside0 (Below w.heap.size w w'))
 case atStart => exact ⟨(0), rsz, H', ⟨Nat.le_refl _⟩, ⟨bel⟩⟩
 case round =>
  clear H'
  obtain ⟨x3_1, rfl, HA, HK1, HB⟩ := hrel
  cases gk with
  | zero => exact absurd HA.out (by simp [dropperref07_Runs.l0])
  | succ k1 =>
   have H := HA.out
   clear HA
   simp only [dropperref07_Runs.l0] at H
   by_cases c2 : x3_1 < (l0.length : Int)
   ·
    rw [if_pos c2] at H
    have c2b0 : decide (x3_1 < (l0.length : Int)) = true := decide_eq_true c2
    clear c2
    by_cases c3 : 0 ≤ x3_1
    ·
     rw [if_pos c3] at H
     have c3b0 : decide (0 ≤ x3_1) = true := decide_eq_true c3
     clear c3
     by_cases c4 : ((rd_T55 l0 x3_1).f0) < 0
     ·
      rw [if_pos c4] at H
      have c4b0 : decide (((rd_T55 l0 x3_1).f0) < 0) = true := decide_eq_true c4
      clear c4
      obtain rfl := Option.some.inj H
      have p555 : 0 ≤ (x3_1 : Int) := of_decide_eq_true asz
      have q555 : x3_1 < (l0.length : Int) := of_decide_eq_true asz
      obtain ⟨ad555, e555, hx555_0, hx555_1, hx555_2⟩ := at_T55 HR0.out x3_1 p555 q555
      cases e555
      replace hx555_0 := (HB.out.cell (World.block_lt_of_cell? w _ hx555_0)).trans hx555_0
      replace hx555_1 := (HB.out.cell (World.block_lt_of_cell? w _ hx555_1)).trans hx555_1
      replace hx555_2 := (HB.out.cell (World.block_lt_of_cell? w _ hx555_2)).trans hx555_2
      replace p555 := eq_true p555
      replace q555 := eq_true q555
      go_wp2_with (first | ((with_reducible refine gate_dst (N := 4) rfl ?_); refine box_event ?hg (N := 4) ?hd (cs := #[.int .i64 0, .int .i64 0, .int .i64 0]) (t := 55) ?hr ?_; (case hd => rfl); (case hg => rfl); (case hr => first | (go_simp; done) | (go_simp; rfl)); intro gb556 hg w5 hbox hb; have BK556 := Aside0.mk (hbox); have GW556 := bsz (w := w) hg; have GE556 := GW556; replace HB := Aside0.mk (below_step bel hb); clear hb hbox hg; have hcz6_0 := blkc BK556.out 0 (.int .i64 0) rfl; have hcz6_1 := blkc BK556.out 1 (.int .i64 0) rfl; have hcz6_2 := blkc BK556.out 2 (.int .i64 0) rfl; have hfz6_0 := blk_frozen BK556.out 0; have hfz6_1 := blk_frozen BK556.out 1; have hfz6_2 := blk_frozen BK556.out 2))
      go_ret
      exact ⟨ezz, bel⟩
     ·
      rw [if_neg c4] at H
      have c4b0 : decide (((rd_T55 l0 x3_1).f0) < 0) = false := decide_eq_false c4
      clear c4
      by_cases c7 : ((rd_T55 l0 x3_1).f0) > ((rd_T55 l0 x3_1).f1)
      ·
       rw [if_pos c7] at H
       have c7b0 : decide (((rd_T55 l0 x3_1).f1) < ((rd_T55 l0 x3_1).f0)) = true := decide_eq_true c7
       clear c7
       obtain rfl := Option.some.inj H
       have p555 : 0 ≤ (x3_1 : Int) := of_decide_eq_true asz
       have q555 : x3_1 < (l0.length : Int) := of_decide_eq_true asz
       obtain ⟨ad555, e555, hx555_0, hx555_1, hx555_2⟩ := at_T55 HR0.out x3_1 p555 q555
       cases e555
       replace hx555_0 := (HB.out.cell (World.block_lt_of_cell? w _ hx555_0)).trans hx555_0
       replace hx555_1 := (HB.out.cell (World.block_lt_of_cell? w _ hx555_1)).trans hx555_1
       replace hx555_2 := (HB.out.cell (World.block_lt_of_cell? w _ hx555_2)).trans hx555_2
       replace p555 := eq_true p555
       replace q555 := eq_true q555
       go_wp2_with (first | ((with_reducible refine gate_dst (N := 4) rfl ?_); refine box_event ?hg (N := 4) ?hd (cs := #[.int .i64 0, .int .i64 0, .int .i64 0]) (t := 55) ?hr ?_; (case hd => rfl); (case hg => rfl); (case hr => first | (go_simp; done) | (go_simp; rfl)); intro gb556 hg w8 hbox hb; have BK556 := Aside0.mk (hbox); have GW556 := bsz (w := w) hg; have GE556 := GW556; replace HB := Aside0.mk (below_step bel hb); clear hb hbox hg; have hcz9_0 := blkc BK556.out 0 (.int .i64 0) rfl; have hcz9_1 := blkc BK556.out 1 (.int .i64 0) rfl; have hcz9_2 := blkc BK556.out 2 (.int .i64 0) rfl; have hfz9_0 := blk_frozen BK556.out 0; have hfz9_1 := blk_frozen BK556.out 1; have hfz9_2 := blk_frozen BK556.out 2))
       go_ret
       exact ⟨ezz, bel⟩
      ·
       rw [if_neg c7] at H
       have c7b0 : decide (((rd_T55 l0 x3_1).f1) < ((rd_T55 l0 x3_1).f0)) = false := decide_eq_false c7
       clear c7
       by_cases c10 : ((rd_T55 l0 x3_1).f1) ≥ 60
       ·
        rw [if_pos c10] at H
        have c10b0 : decide (60 ≤ ((rd_T55 l0 x3_1).f1)) = true := decide_eq_true c10
        clear c10
        obtain rfl := Option.some.inj H
        have p555 : 0 ≤ (x3_1 : Int) := of_decide_eq_true asz
        have q555 : x3_1 < (l0.length : Int) := of_decide_eq_true asz
        obtain ⟨ad555, e555, hx555_0, hx555_1, hx555_2⟩ := at_T55 HR0.out x3_1 p555 q555
        cases e555
        replace hx555_0 := (HB.out.cell (World.block_lt_of_cell? w _ hx555_0)).trans hx555_0
        replace hx555_1 := (HB.out.cell (World.block_lt_of_cell? w _ hx555_1)).trans hx555_1
        replace hx555_2 := (HB.out.cell (World.block_lt_of_cell? w _ hx555_2)).trans hx555_2
        replace p555 := eq_true p555
        replace q555 := eq_true q555
        go_wp2_with (first | ((with_reducible refine gate_dst (N := 4) rfl ?_); refine box_event ?hg (N := 4) ?hd (cs := #[.int .i64 0, .int .i64 0, .int .i64 0]) (t := 55) ?hr ?_; (case hd => rfl); (case hg => rfl); (case hr => first | (go_simp; done) | (go_simp; rfl)); intro gb556 hg w11 hbox hb; have BK556 := Aside0.mk (hbox); have GW556 := bsz (w := w) hg; have GE556 := GW556; replace HB := Aside0.mk (below_step bel hb); clear hb hbox hg; have hcz12_0 := blkc BK556.out 0 (.int .i64 0) rfl; have hcz12_1 := blkc BK556.out 1 (.int .i64 0) rfl; have hcz12_2 := blkc BK556.out 2 (.int .i64 0) rfl; have hfz12_0 := blk_frozen BK556.out 0; have hfz12_1 := blk_frozen BK556.out 1; have hfz12_2 := blk_frozen BK556.out 2))
        go_ret
        exact ⟨ezz, bel⟩
       ·
        rw [if_neg c10] at H
        have c10b0 : decide (60 ≤ ((rd_T55 l0 x3_1).f1)) = false := decide_eq_false c10
        clear c10
        by_cases c13 : ((rd_T55 l0 x3_1).f2) < 1
        ·
         rw [if_pos c13] at H
         have c13b0 : decide (((rd_T55 l0 x3_1).f2) < 1) = true := decide_eq_true c13
         clear c13
         obtain rfl := Option.some.inj H
         have p555 : 0 ≤ (x3_1 : Int) := of_decide_eq_true asz
         have q555 : x3_1 < (l0.length : Int) := of_decide_eq_true asz
         obtain ⟨ad555, e555, hx555_0, hx555_1, hx555_2⟩ := at_T55 HR0.out x3_1 p555 q555
         cases e555
         replace hx555_0 := (HB.out.cell (World.block_lt_of_cell? w _ hx555_0)).trans hx555_0
         replace hx555_1 := (HB.out.cell (World.block_lt_of_cell? w _ hx555_1)).trans hx555_1
         replace hx555_2 := (HB.out.cell (World.block_lt_of_cell? w _ hx555_2)).trans hx555_2
         replace p555 := eq_true p555
         replace q555 := eq_true q555
         go_wp2_with (first | ((with_reducible refine gate_dst (N := 4) rfl ?_); refine box_event ?hg (N := 4) ?hd (cs := #[.int .i64 0, .int .i64 0, .int .i64 0]) (t := 55) ?hr ?_; (case hd => rfl); (case hg => rfl); (case hr => first | (go_simp; done) | (go_simp; rfl)); intro gb556 hg w14 hbox hb; have BK556 := Aside0.mk (hbox); have GW556 := bsz (w := w) hg; have GE556 := GW556; replace HB := Aside0.mk (below_step bel hb); clear hb hbox hg; have hcz15_0 := blkc BK556.out 0 (.int .i64 0) rfl; have hcz15_1 := blkc BK556.out 1 (.int .i64 0) rfl; have hcz15_2 := blkc BK556.out 2 (.int .i64 0) rfl; have hfz15_0 := blk_frozen BK556.out 0; have hfz15_1 := blk_frozen BK556.out 1; have hfz15_2 := blk_frozen BK556.out 2))
         go_ret
         exact ⟨ezz, bel⟩
        ·
         rw [if_neg c13] at H
         have c13b0 : decide (((rd_T55 l0 x3_1).f2) < 1) = false := decide_eq_false c13
         clear c13
         by_cases c16 : ((rd_T55 l0 x3_1).f2) > 1000000
         ·
          rw [if_pos c16] at H
          have c16b0 : decide (1000000 < ((rd_T55 l0 x3_1).f2)) = true := decide_eq_true c16
          clear c16
          obtain rfl := Option.some.inj H
          have p555 : 0 ≤ (x3_1 : Int) := of_decide_eq_true asz
          have q555 : x3_1 < (l0.length : Int) := of_decide_eq_true asz
          obtain ⟨ad555, e555, hx555_0, hx555_1, hx555_2⟩ := at_T55 HR0.out x3_1 p555 q555
          cases e555
          replace hx555_0 := (HB.out.cell (World.block_lt_of_cell? w _ hx555_0)).trans hx555_0
          replace hx555_1 := (HB.out.cell (World.block_lt_of_cell? w _ hx555_1)).trans hx555_1
          replace hx555_2 := (HB.out.cell (World.block_lt_of_cell? w _ hx555_2)).trans hx555_2
          replace p555 := eq_true p555
          replace q555 := eq_true q555
          go_wp2_with (first | ((with_reducible refine gate_dst (N := 4) rfl ?_); refine box_event ?hg (N := 4) ?hd (cs := #[.int .i64 0, .int .i64 0, .int .i64 0]) (t := 55) ?hr ?_; (case hd => rfl); (case hg => rfl); (case hr => first | (go_simp; done) | (go_simp; rfl)); intro gb556 hg w17 hbox hb; have BK556 := Aside0.mk (hbox); have GW556 := bsz (w := w) hg; have GE556 := GW556; replace HB := Aside0.mk (below_step bel hb); clear hb hbox hg; have hcz18_0 := blkc BK556.out 0 (.int .i64 0) rfl; have hcz18_1 := blkc BK556.out 1 (.int .i64 0) rfl; have hcz18_2 := blkc BK556.out 2 (.int .i64 0) rfl; have hfz18_0 := blk_frozen BK556.out 0; have hfz18_1 := blk_frozen BK556.out 1; have hfz18_2 := blk_frozen BK556.out 2))
          go_ret
          exact ⟨ezz, bel⟩
         ·
          rw [if_neg c16] at H
          have c16b0 : decide (1000000 < ((rd_T55 l0 x3_1).f2)) = false := decide_eq_false c16
          clear c16
          have H' := Aside0.mk H
          clear H
          have p555 : 0 ≤ (x3_1 : Int) := of_decide_eq_true asz
          have q555 : x3_1 < (l0.length : Int) := of_decide_eq_true asz
          obtain ⟨ad555, e555, hx555_0, hx555_1, hx555_2⟩ := at_T55 HR0.out x3_1 p555 q555
          cases e555
          replace hx555_0 := (HB.out.cell (World.block_lt_of_cell? w _ hx555_0)).trans hx555_0
          replace hx555_1 := (HB.out.cell (World.block_lt_of_cell? w _ hx555_1)).trans hx555_1
          replace hx555_2 := (HB.out.cell (World.block_lt_of_cell? w _ hx555_2)).trans hx555_2
          replace p555 := eq_true p555
          replace q555 := eq_true q555
          go_wp2_with (first | ((with_reducible refine gate_dst (N := 4) rfl ?_); refine box_event ?hg (N := 4) ?hd (cs := #[.int .i64 0, .int .i64 0, .int .i64 0]) (t := 55) ?hr ?_; (case hd => rfl); (case hg => rfl); (case hr => first | (go_simp; done) | (go_simp; rfl)); intro gb556 hg w19 hbox hb; have BK556 := Aside0.mk (hbox); have GW556 := bsz (w := w) hg; have GE556 := GW556; replace HB := Aside0.mk (below_step bel hb); clear hb hbox hg; have hcz20_0 := blkc BK556.out 0 (.int .i64 0) rfl; have hcz20_1 := blkc BK556.out 1 (.int .i64 0) rfl; have hcz20_2 := blkc BK556.out 2 (.int .i64 0) rfl; have hfz20_0 := blk_frozen BK556.out 0; have hfz20_1 := blk_frozen BK556.out 1; have hfz20_2 := blk_frozen BK556.out 2))
          go_roundg k1
          case measure => have := HK1.out; omega
          case rel => exact ⟨(wrap64 (x3_1 + 1)), rsz, H', ⟨by have := HK1.out; omega⟩, ⟨bel⟩⟩
    ·
     rw [if_neg c3] at H
     exact absurd H (by simp)
   ·
    rw [if_neg c2] at H
    have c2b0 : decide (x3_1 < (l0.length : Int)) = false := decide_eq_false c2
    clear c2
    obtain rfl := Option.some.inj H
    go_wp2
    go_ret
    exact ⟨ezz, bel⟩

/-! ### dropperlaw07_WearPasses: function 11 -/
mutual
def dropperlaw07_WearPasses.j0 : Nat → List (S55) → List (S55) → Bool → Option (Bool)
 | 0, _, _, _ => none
 | k + 1, x0, x1, x35 => if x35 = true then ((dropperlaw07_First.f k).bind fun t608 => (some t608)) else ((wear_Totals.f x0).bind fun bt609 => ((wear_Totals.f x1).bind fun bt613 => ((some (([] : List (S55)) : List (S55))).bind fun y617 => (if y617.length + x0.length < 5864062014805 then ((some (y617 ++ x0 : List (S55))).bind fun y620 => (if y620.length + x1.length < 5864062014805 then ((some (y620 ++ x1 : List (S55))).bind fun y623 => ((wear_Totals.f y623).bind fun bt626 => ((wear_Since.f k bt626.1).bind fun bt630 => (if bt609.2 = 0 then (if bt613.2 = 0 then (if bt626.2 = 0 then (if bt630.2 = 0 then (if (bt609.1.length : Int) = 60 then (if (bt613.1.length : Int) = 60 then (if (bt626.1.length : Int) = 60 then (dropperlaw07_WearPasses.j1 k bt609.1 bt613.1 y623 bt626.1 bt630.1 ((bt630.1.length : Int) != 60)) else (dropperlaw07_WearPasses.j1 k bt609.1 bt613.1 y623 bt626.1 bt630.1 true)) else (dropperlaw07_WearPasses.j1 k bt609.1 bt613.1 y623 bt626.1 bt630.1 true)) else (dropperlaw07_WearPasses.j1 k bt609.1 bt613.1 y623 bt626.1 bt630.1 true)) else (dropperlaw07_WearPasses.j1 k bt609.1 bt613.1 y623 bt626.1 bt630.1 true)) else (dropperlaw07_WearPasses.j1 k bt609.1 bt613.1 y623 bt626.1 bt630.1 true)) else (dropperlaw07_WearPasses.j1 k bt609.1 bt613.1 y623 bt626.1 bt630.1 true)) else (dropperlaw07_WearPasses.j1 k bt609.1 bt613.1 y623 bt626.1 bt630.1 true))))) else (none))) else (none)))))
def dropperlaw07_WearPasses.j1 : Nat → List Int → List Int → List (S55) → List Int → List Int → Bool → Option (Bool)
 | 0, _, _, _, _, _, _ => none
 | k + 1, x5, x7, x9, x10, x12, x95 => if x95 = true then (none) else (dropperlaw07_WearPasses.l0 k x5 x7 x9 x10 x12 0 0 0)
def dropperlaw07_WearPasses.l0 : Nat → List Int → List Int → List (S55) → List Int → List Int → Int → Int → Int → Option (Bool)
 | 0, _, _, _, _, _, _, _, _ => none
 | k + 1, x5, x7, x9, x10, x12, x14, x15, x16 => if x16 < (x9.length : Int) then (if 0 ≤ x16 then (dropperlaw07_WearPasses.l0 k x5 x7 x9 x10 x12 (wrap64 (x14 + (wrap64 (((rd_T55 x9 x16).f2) * (wrap64 ((wrap64 (((rd_T55 x9 x16).f1) - ((rd_T55 x9 x16).f0))) + 1)))))) x15 (wrap64 (x16 + 1))) else (none)) else (dropperlaw07_WearPasses.l1 k x5 x7 x10 x12 x14 x15 0)
def dropperlaw07_WearPasses.l1 : Nat → List Int → List Int → List Int → List Int → Int → Int → Int → Option (Bool)
 | 0, _, _, _, _, _, _, _ => none
 | k + 1, x5, x7, x10, x12, x14, x15, x17 => if x17 < 60 then (if 0 ≤ x17 then (if x17 < (x12.length : Int) then (if x17 < (x10.length : Int) then (if x17 < (x5.length : Int) then (if x17 < (x7.length : Int) then (if (rd x10 x17) = (wrap64 ((rd x5 x17) + (rd x7 x17))) then (if (wrap64 (x15 + (rd x12 x17))) = (rd x10 x17) then (dropperlaw07_WearPasses.l1 k x5 x7 x10 x12 (wrap64 (x14 - (rd x10 x17))) (wrap64 (x15 + (rd x12 x17))) (wrap64 (x17 + 1))) else (none)) else (none)) else (none)) else (none)) else (none)) else (none)) else (none)) else (if x14 = 0 then ((dropperlaw07_First.f k).bind fun t643 => (some t643)) else (none))
end
def dropperlaw07_WearPasses.f (k : Nat) (l0 : List (S55)) (l1 : List (S55)) : Option (Bool) := if (l0.length : Int) > 20 then (dropperlaw07_WearPasses.j0 k l0 l1 true) else (if (l1.length : Int) > 20 then (dropperlaw07_WearPasses.j0 k l0 l1 true) else ((dropperref07_Runs.f k l0).bind fun t606 => (if t606 = true then ((dropperref07_Runs.f k l1).bind fun t607 => (dropperlaw07_WearPasses.j0 k l0 l1 (!t607))) else (dropperlaw07_WearPasses.j0 k l0 l1 true))))
theorem dropperlaw07_WearPasses.mono_l : ∀ k, (∀ y0 y1 y2, LeO (dropperlaw07_WearPasses.j0 k y0 y1 y2) (dropperlaw07_WearPasses.j0 (k + 1) y0 y1 y2)) ∧ (∀ y0 y1 y2 y3 y4 y5, LeO (dropperlaw07_WearPasses.j1 k y0 y1 y2 y3 y4 y5) (dropperlaw07_WearPasses.j1 (k + 1) y0 y1 y2 y3 y4 y5)) ∧ (∀ y0 y1 y2 y3 y4 y5 y6 y7, LeO (dropperlaw07_WearPasses.l0 k y0 y1 y2 y3 y4 y5 y6 y7) (dropperlaw07_WearPasses.l0 (k + 1) y0 y1 y2 y3 y4 y5 y6 y7)) ∧ (∀ y0 y1 y2 y3 y4 y5 y6, LeO (dropperlaw07_WearPasses.l1 k y0 y1 y2 y3 y4 y5 y6) (dropperlaw07_WearPasses.l1 (k + 1) y0 y1 y2 y3 y4 y5 y6))
 | 0 => ⟨fun _ _ _ r h => by simp [dropperlaw07_WearPasses.j0] at h, fun _ _ _ _ _ _ r h => by simp [dropperlaw07_WearPasses.j1] at h, fun _ _ _ _ _ _ _ _ r h => by simp [dropperlaw07_WearPasses.l0] at h, fun _ _ _ _ _ _ _ r h => by simp [dropperlaw07_WearPasses.l1] at h⟩
 | k + 1 => by
  obtain ⟨ih0, ih1, ih2, ih3⟩ := dropperlaw07_WearPasses.mono_l k
  refine ⟨?_, ?_, ?_, ?_⟩
  ·
   intro y0 y1 y2
   unfold dropperlaw07_WearPasses.j0
   repeat' first
   | (with_reducible exact ih0 _ _ _)
   | (with_reducible exact ih1 _ _ _ _ _ _)
   | (with_reducible exact ih2 _ _ _ _ _ _ _ _)
   | (with_reducible exact ih3 _ _ _ _ _ _ _)
   | (with_reducible exact dropperlaw07_First.mono _)
   | (with_reducible exact dropperref07_Runs.mono _ _)
   | (with_reducible exact wear_Since.mono _ _)
   | (with_reducible exact LeO.refl _)
   | (with_reducible exact LeO.none _)
   | (with_reducible refine LeO.ite ?_ ?_)
   | (with_reducible refine LeO.bind ?_ (fun _ => ?_))
   | exact ih0 _ _ _
   | exact ih1 _ _ _ _ _ _
   | exact ih2 _ _ _ _ _ _ _ _
   | exact ih3 _ _ _ _ _ _ _
   | exact dropperlaw07_First.mono _
   | exact dropperref07_Runs.mono _ _
   | exact wear_Since.mono _ _
   | exact LeO.none _
   | refine LeO.ite ?_ ?_
   | refine LeO.bind ?_ (fun _ => ?_)
  ·
   intro y0 y1 y2 y3 y4 y5
   unfold dropperlaw07_WearPasses.j1
   repeat' first
   | (with_reducible exact ih0 _ _ _)
   | (with_reducible exact ih1 _ _ _ _ _ _)
   | (with_reducible exact ih2 _ _ _ _ _ _ _ _)
   | (with_reducible exact ih3 _ _ _ _ _ _ _)
   | (with_reducible exact dropperlaw07_First.mono _)
   | (with_reducible exact dropperref07_Runs.mono _ _)
   | (with_reducible exact wear_Since.mono _ _)
   | (with_reducible exact LeO.refl _)
   | (with_reducible exact LeO.none _)
   | (with_reducible refine LeO.ite ?_ ?_)
   | (with_reducible refine LeO.bind ?_ (fun _ => ?_))
   | exact ih0 _ _ _
   | exact ih1 _ _ _ _ _ _
   | exact ih2 _ _ _ _ _ _ _ _
   | exact ih3 _ _ _ _ _ _ _
   | exact dropperlaw07_First.mono _
   | exact dropperref07_Runs.mono _ _
   | exact wear_Since.mono _ _
   | exact LeO.none _
   | refine LeO.ite ?_ ?_
   | refine LeO.bind ?_ (fun _ => ?_)
  ·
   intro y0 y1 y2 y3 y4 y5 y6 y7
   unfold dropperlaw07_WearPasses.l0
   repeat' first
   | (with_reducible exact ih0 _ _ _)
   | (with_reducible exact ih1 _ _ _ _ _ _)
   | (with_reducible exact ih2 _ _ _ _ _ _ _ _)
   | (with_reducible exact ih3 _ _ _ _ _ _ _)
   | (with_reducible exact dropperlaw07_First.mono _)
   | (with_reducible exact dropperref07_Runs.mono _ _)
   | (with_reducible exact wear_Since.mono _ _)
   | (with_reducible exact LeO.refl _)
   | (with_reducible exact LeO.none _)
   | (with_reducible refine LeO.ite ?_ ?_)
   | (with_reducible refine LeO.bind ?_ (fun _ => ?_))
   | exact ih0 _ _ _
   | exact ih1 _ _ _ _ _ _
   | exact ih2 _ _ _ _ _ _ _ _
   | exact ih3 _ _ _ _ _ _ _
   | exact dropperlaw07_First.mono _
   | exact dropperref07_Runs.mono _ _
   | exact wear_Since.mono _ _
   | exact LeO.none _
   | refine LeO.ite ?_ ?_
   | refine LeO.bind ?_ (fun _ => ?_)
  ·
   intro y0 y1 y2 y3 y4 y5 y6
   unfold dropperlaw07_WearPasses.l1
   repeat' first
   | (with_reducible exact ih0 _ _ _)
   | (with_reducible exact ih1 _ _ _ _ _ _)
   | (with_reducible exact ih2 _ _ _ _ _ _ _ _)
   | (with_reducible exact ih3 _ _ _ _ _ _ _)
   | (with_reducible exact dropperlaw07_First.mono _)
   | (with_reducible exact dropperref07_Runs.mono _ _)
   | (with_reducible exact wear_Since.mono _ _)
   | (with_reducible exact LeO.refl _)
   | (with_reducible exact LeO.none _)
   | (with_reducible refine LeO.ite ?_ ?_)
   | (with_reducible refine LeO.bind ?_ (fun _ => ?_))
   | exact ih0 _ _ _
   | exact ih1 _ _ _ _ _ _
   | exact ih2 _ _ _ _ _ _ _ _
   | exact ih3 _ _ _ _ _ _ _
   | exact dropperlaw07_First.mono _
   | exact dropperref07_Runs.mono _ _
   | exact wear_Since.mono _ _
   | exact LeO.none _
   | refine LeO.ite ?_ ?_
   | refine LeO.bind ?_ (fun _ => ?_)
theorem dropperlaw07_WearPasses.mono : ∀ a0 a1 k, LeO (dropperlaw07_WearPasses.f k a0 a1) (dropperlaw07_WearPasses.f (k + 1) a0 a1) := by
 intro a0 a1 k
 obtain ⟨ih0, ih1, ih2, ih3⟩ := dropperlaw07_WearPasses.mono_l k
 unfold dropperlaw07_WearPasses.f
 repeat' first
   | (with_reducible exact ih0 _ _ _)
   | (with_reducible exact ih1 _ _ _ _ _ _)
   | (with_reducible exact ih2 _ _ _ _ _ _ _ _)
   | (with_reducible exact ih3 _ _ _ _ _ _ _)
   | (with_reducible exact dropperlaw07_First.mono _)
   | (with_reducible exact dropperref07_Runs.mono _ _)
   | (with_reducible exact wear_Since.mono _ _)
   | (with_reducible exact LeO.refl _)
   | (with_reducible exact LeO.none _)
   | (with_reducible refine LeO.ite ?_ ?_)
   | (with_reducible refine LeO.bind ?_ (fun _ => ?_))
   | exact ih0 _ _ _
   | exact ih1 _ _ _ _ _ _
   | exact ih2 _ _ _ _ _ _ _ _
   | exact ih3 _ _ _ _ _ _ _
   | exact dropperlaw07_First.mono _
   | exact dropperref07_Runs.mono _ _
   | exact wear_Since.mono _ _
   | exact LeO.none _
   | refine LeO.ite ?_ ?_
   | refine LeO.bind ?_ (fun _ => ?_)
set_option maxHeartbeats 8000000 in
set_option maxRecDepth 100000 in
theorem dropperlaw07_WearPasses.calls (k : Nat) (A0 : Option Addr) (c0 : Nat) (l0 : List (S55)) (A1 : Option Addr) (c1 : Nat) (l1 : List (S55)) (r : Bool) (w : World) (hr0 : Kd.C k55 w A0 l0.length l0) (hc0 : l0.length ≤ c0) (hr1 : Kd.C k55 w A1 l1.length l1) (hc1 : l1.length ≤ c1) (h : dropperlaw07_WearPasses.f k l0 l1 = some r) :
  Calls Try.prog 11 #[.slice A0 l0.length c0, .slice A1 l1.length c1] w fun e w' => e = .returned (.bool r) ∧ Below w.heap.size w w' := by
 have HR0 := Aside0.mk hr0
 have HC0 := Aside0.mk hc0
 clear hr0 hc0
 have HR1 := Aside0.mk hr1
 have HC1 := Aside0.mk hc1
 clear hr1 hc1
 have HB := Aside0.mk (Below.refl w.heap.size w)
 have H : (if (l0.length : Int) > 20 then (dropperlaw07_WearPasses.j0 k l0 l1 true) else (if (l1.length : Int) > 20 then (dropperlaw07_WearPasses.j0 k l0 l1 true) else ((dropperref07_Runs.f k l0).bind fun t606 => (if t606 = true then ((dropperref07_Runs.f k l1).bind fun t607 => (dropperlaw07_WearPasses.j0 k l0 l1 (!t607))) else (dropperlaw07_WearPasses.j0 k l0 l1 true))))) = some r := h
 clear h
 have HC3 := Aside0.mk H
 clear H
 go_enter Try.func11, Try.ntmps11
 go_upto_region 1 with (fail)
 repeat (go_quiet (fail); go_upto_region 1 with (fail))
 go_cut [35] (fun v35 wc => ∃ (kq : Nat) (x35_2 : Bool), v35 = .bool x35_2 ∧ Aside0 (dropperlaw07_WearPasses.j0 kq l0 l1 x35_2 = some r) ∧ Aside0 (kq ≤ k) ∧ Aside0 (Below w.heap.size w wc))
 case first =>
  have H := HC3.out
  clear HC3
  by_cases c4 : (l0.length : Int) > 20
  ·
   rw [if_pos c4] at H
   have c4b0 : decide (20 < (l0.length : Int)) = true := decide_eq_true c4
   have c4b1 : decide (20 < l0.length) = true := decide_eq_true (by omega)
   clear c4
   (first | rw [c4b0] | (simp only [i64_w, i32_w]; rw [c4b0]) | skip)
   have H' := Aside0.mk H
   clear H
   go_wp2
   repeat (go_quiet (fail); try go_wp2)
   go_meet
   case rel => exact ⟨_, (true), rsz, H', ⟨by first | omega | exact Nat.le_refl _⟩, ⟨bel⟩⟩
  ·
   rw [if_neg c4] at H
   have c4b0 : decide (20 < (l0.length : Int)) = false := decide_eq_false c4
   have c4b1 : decide (20 < l0.length) = false := decide_eq_false (by omega)
   clear c4
   (first | rw [c4b0] | (simp only [i64_w, i32_w]; rw [c4b0]) | skip)
   by_cases c5 : (l1.length : Int) > 20
   ·
    rw [if_pos c5] at H
    have c5b0 : decide (20 < (l1.length : Int)) = true := decide_eq_true c5
    have c5b1 : decide (20 < l1.length) = true := decide_eq_true (by omega)
    clear c5
    have H' := Aside0.mk H
    clear H
    go_wp2
    repeat (go_quiet (fail); try go_wp2)
    go_meet
    case rel => exact ⟨_, (true), rsz, H', ⟨by first | omega | exact Nat.le_refl _⟩, ⟨bel⟩⟩
   ·
    rw [if_neg c5] at H
    have c5b0 : decide (20 < (l1.length : Int)) = false := decide_eq_false c5
    have c5b1 : decide (20 < l1.length) = false := decide_eq_false (by omega)
    clear c5
    replace H := Option.bind_eq_some_iff.mp H
    obtain ⟨t606, A60, H⟩ := H
    replace H : (if t606 = true then ((dropperref07_Runs.f k l1).bind fun t607 => (dropperlaw07_WearPasses.j0 k l0 l1 (!t607))) else (dropperlaw07_WearPasses.j0 k l0 l1 true)) = some r := H
    have A6 := Aside0.mk A60
    clear A60
    by_cases c7 : t606 = true
    ·
     subst c7
     have H1 : ((dropperref07_Runs.f k l1).bind fun t607 => (dropperlaw07_WearPasses.j0 k l0 l1 (!t607))) = some r := by rw [if_pos rfl] at H; exact H
     clear H
     have H := H1
     clear H1
     replace H := Option.bind_eq_some_iff.mp H
     obtain ⟨t607, A80, H⟩ := H
     replace H : (dropperlaw07_WearPasses.j0 k l0 l1 (!t607)) = some r := H
     have A8 := Aside0.mk A80
     clear A80
     have H' := Aside0.mk H
     clear H
     go_wp2_with (first | (go_at_call 39; (with_reducible refine (dropperref07_Runs.calls k _ _ l0 true _ ?side1 ?side2 A6.out).mono ?_); (case side1 => exact cbz HR0); (case side2 => exact HC0.out); rintro e w9 ⟨rfl, hb⟩; replace HB := Aside0.mk (below_step bel hb); (try clear hb); (try clear hb2); (try clear hk); (try clear hi)) | (go_at_call 39; (with_reducible refine (dropperref07_Runs.calls k _ _ l1 t607 _ ?side1 ?side2 A8.out).mono ?_); (case side1 => exact cbz HR1); (case side2 => exact HC1.out); rintro e w10 ⟨rfl, hb⟩; replace HB := Aside0.mk (below_step bel hb); (try clear hb); (try clear hb2); (try clear hk); (try clear hi)))
     repeat (go_quiet (first | (go_at_call 39; (with_reducible refine (dropperref07_Runs.calls k _ _ l0 true _ ?side1 ?side2 A6.out).mono ?_); (case side1 => exact cbz HR0); (case side2 => exact HC0.out); rintro e w9 ⟨rfl, hb⟩; replace HB := Aside0.mk (below_step bel hb); (try clear hb); (try clear hb2); (try clear hk); (try clear hi)) | (go_at_call 39; (with_reducible refine (dropperref07_Runs.calls k _ _ l1 t607 _ ?side1 ?side2 A8.out).mono ?_); (case side1 => exact cbz HR1); (case side2 => exact HC1.out); rintro e w10 ⟨rfl, hb⟩; replace HB := Aside0.mk (below_step bel hb); (try clear hb); (try clear hb2); (try clear hk); (try clear hi))); try go_wp2_with (first | (go_at_call 39; (with_reducible refine (dropperref07_Runs.calls k _ _ l0 true _ ?side1 ?side2 A6.out).mono ?_); (case side1 => exact cbz HR0); (case side2 => exact HC0.out); rintro e w9 ⟨rfl, hb⟩; replace HB := Aside0.mk (below_step bel hb); (try clear hb); (try clear hb2); (try clear hk); (try clear hi)) | (go_at_call 39; (with_reducible refine (dropperref07_Runs.calls k _ _ l1 t607 _ ?side1 ?side2 A8.out).mono ?_); (case side1 => exact cbz HR1); (case side2 => exact HC1.out); rintro e w10 ⟨rfl, hb⟩; replace HB := Aside0.mk (below_step bel hb); (try clear hb); (try clear hb2); (try clear hk); (try clear hi))))
     go_meet
     case rel => exact ⟨_, (!t607), rsz, H', ⟨by first | omega | exact Nat.le_refl _⟩, ⟨bel⟩⟩
    ·
     replace c7 := Bool.eq_false_iff.mpr c7
     subst c7
     have H1 : (dropperlaw07_WearPasses.j0 k l0 l1 true) = some r := by rw [if_neg (show ¬ (false = true) by decide)] at H; exact H
     clear H
     have H := H1
     clear H1
     have H' := Aside0.mk H
     clear H
     go_wp2_with (first | (go_at_call 39; (with_reducible refine (dropperref07_Runs.calls k _ _ l0 false _ ?side1 ?side2 A6.out).mono ?_); (case side1 => exact cbz HR0); (case side2 => exact HC0.out); rintro e w11 ⟨rfl, hb⟩; replace HB := Aside0.mk (below_step bel hb); (try clear hb); (try clear hb2); (try clear hk); (try clear hi)))
     repeat (go_quiet (first | (go_at_call 39; (with_reducible refine (dropperref07_Runs.calls k _ _ l0 false _ ?side1 ?side2 A6.out).mono ?_); (case side1 => exact cbz HR0); (case side2 => exact HC0.out); rintro e w11 ⟨rfl, hb⟩; replace HB := Aside0.mk (below_step bel hb); (try clear hb); (try clear hb2); (try clear hk); (try clear hi))); try go_wp2_with (first | (go_at_call 39; (with_reducible refine (dropperref07_Runs.calls k _ _ l0 false _ ?side1 ?side2 A6.out).mono ?_); (case side1 => exact cbz HR0); (case side2 => exact HC0.out); rintro e w11 ⟨rfl, hb⟩; replace HB := Aside0.mk (below_step bel hb); (try clear hb); (try clear hb2); (try clear hk); (try clear hi))))
     go_meet
     case rel => exact ⟨_, (true), rsz, H', ⟨by first | omega | exact Nat.le_refl _⟩, ⟨bel⟩⟩
 case rest =>
  clear HC3
  try clear c1
  try clear p2
  try clear c4
  try clear c4b0
  try clear c4b1
  try clear c5
  try clear c5b0
  try clear c5b1
  try clear c7
  try clear c11
  obtain ⟨kq, x35_2, rfl, HA, HJ2, HB⟩ := hcut
  cases kq with
  | zero => exact absurd HA.out (by simp [dropperlaw07_WearPasses.j0])
  | succ kj2 =>
   have H := HA.out
   clear HA
   simp only [dropperlaw07_WearPasses.j0] at H
   by_cases c12 : x35_2 = true
   ·
    subst c12
    have H1 : ((dropperlaw07_First.f kj2).bind fun t608 => (some t608)) = some r := by rw [if_pos rfl] at H; exact H
    clear H
    have H := H1
    clear H1
    replace H := Option.bind_eq_some_iff.mp H
    obtain ⟨t608, A130, H⟩ := H
    replace H : (some t608) = some r := H
    have A13 := Aside0.mk A130
    clear A130
    obtain rfl := Option.some.inj H
    go_wp2_with (first | (go_at_call 15; (with_reducible refine (dropperlaw07_First.calls kj2  t608 _ A13.out).mono ?_); rintro e w14 ⟨rfl, hb⟩; replace HB := Aside0.mk (below_step bel hb); (try clear hb); (try clear hb2); (try clear hk); (try clear hi)))
    repeat (go_quiet (first | (go_at_call 15; (with_reducible refine (dropperlaw07_First.calls kj2  t608 _ A13.out).mono ?_); rintro e w14 ⟨rfl, hb⟩; replace HB := Aside0.mk (below_step bel hb); (try clear hb); (try clear hb2); (try clear hk); (try clear hi))); try go_wp2_with (first | (go_at_call 15; (with_reducible refine (dropperlaw07_First.calls kj2  t608 _ A13.out).mono ?_); rintro e w14 ⟨rfl, hb⟩; replace HB := Aside0.mk (below_step bel hb); (try clear hb); (try clear hb2); (try clear hk); (try clear hi))))
    go_ret
    exact ⟨ezz, bel⟩
   ·
    replace c12 := Bool.eq_false_iff.mpr c12
    subst c12
    have H1 : ((wear_Totals.f l0).bind fun bt609 => ((wear_Totals.f l1).bind fun bt613 => ((some (([] : List (S55)) : List (S55))).bind fun y617 => (if y617.length + l0.length < 5864062014805 then ((some (y617 ++ l0 : List (S55))).bind fun y620 => (if y620.length + l1.length < 5864062014805 then ((some (y620 ++ l1 : List (S55))).bind fun y623 => ((wear_Totals.f y623).bind fun bt626 => ((wear_Since.f kj2 bt626.1).bind fun bt630 => (if bt609.2 = 0 then (if bt613.2 = 0 then (if bt626.2 = 0 then (if bt630.2 = 0 then (if (bt609.1.length : Int) = 60 then (if (bt613.1.length : Int) = 60 then (if (bt626.1.length : Int) = 60 then (dropperlaw07_WearPasses.j1 kj2 bt609.1 bt613.1 y623 bt626.1 bt630.1 ((bt630.1.length : Int) != 60)) else (dropperlaw07_WearPasses.j1 kj2 bt609.1 bt613.1 y623 bt626.1 bt630.1 true)) else (dropperlaw07_WearPasses.j1 kj2 bt609.1 bt613.1 y623 bt626.1 bt630.1 true)) else (dropperlaw07_WearPasses.j1 kj2 bt609.1 bt613.1 y623 bt626.1 bt630.1 true)) else (dropperlaw07_WearPasses.j1 kj2 bt609.1 bt613.1 y623 bt626.1 bt630.1 true)) else (dropperlaw07_WearPasses.j1 kj2 bt609.1 bt613.1 y623 bt626.1 bt630.1 true)) else (dropperlaw07_WearPasses.j1 kj2 bt609.1 bt613.1 y623 bt626.1 bt630.1 true)) else (dropperlaw07_WearPasses.j1 kj2 bt609.1 bt613.1 y623 bt626.1 bt630.1 true))))) else (none))) else (none))))) = some r := by rw [if_neg (show ¬ (false = true) by decide)] at H; exact H
    clear H
    have H := H1
    clear H1
    replace H := Option.bind_eq_some_iff.mp H
    obtain ⟨⟨t609, t610⟩, A150, H⟩ := H
    replace H : ((wear_Totals.f l1).bind fun bt613 => ((some (([] : List (S55)) : List (S55))).bind fun y617 => (if y617.length + l0.length < 5864062014805 then ((some (y617 ++ l0 : List (S55))).bind fun y620 => (if y620.length + l1.length < 5864062014805 then ((some (y620 ++ l1 : List (S55))).bind fun y623 => ((wear_Totals.f y623).bind fun bt626 => ((wear_Since.f kj2 bt626.1).bind fun bt630 => (if t610 = 0 then (if bt613.2 = 0 then (if bt626.2 = 0 then (if bt630.2 = 0 then (if (t609.length : Int) = 60 then (if (bt613.1.length : Int) = 60 then (if (bt626.1.length : Int) = 60 then (dropperlaw07_WearPasses.j1 kj2 t609 bt613.1 y623 bt626.1 bt630.1 ((bt630.1.length : Int) != 60)) else (dropperlaw07_WearPasses.j1 kj2 t609 bt613.1 y623 bt626.1 bt630.1 true)) else (dropperlaw07_WearPasses.j1 kj2 t609 bt613.1 y623 bt626.1 bt630.1 true)) else (dropperlaw07_WearPasses.j1 kj2 t609 bt613.1 y623 bt626.1 bt630.1 true)) else (dropperlaw07_WearPasses.j1 kj2 t609 bt613.1 y623 bt626.1 bt630.1 true)) else (dropperlaw07_WearPasses.j1 kj2 t609 bt613.1 y623 bt626.1 bt630.1 true)) else (dropperlaw07_WearPasses.j1 kj2 t609 bt613.1 y623 bt626.1 bt630.1 true)) else (dropperlaw07_WearPasses.j1 kj2 t609 bt613.1 y623 bt626.1 bt630.1 true))))) else (none))) else (none)))) = some r := H
    have A15 := Aside0.mk A150
    clear A150
    replace H := Option.bind_eq_some_iff.mp H
    obtain ⟨⟨t613, t614⟩, A160, H⟩ := H
    replace H : ((some (([] : List (S55)) : List (S55))).bind fun y617 => (if y617.length + l0.length < 5864062014805 then ((some (y617 ++ l0 : List (S55))).bind fun y620 => (if y620.length + l1.length < 5864062014805 then ((some (y620 ++ l1 : List (S55))).bind fun y623 => ((wear_Totals.f y623).bind fun bt626 => ((wear_Since.f kj2 bt626.1).bind fun bt630 => (if t610 = 0 then (if t614 = 0 then (if bt626.2 = 0 then (if bt630.2 = 0 then (if (t609.length : Int) = 60 then (if (t613.length : Int) = 60 then (if (bt626.1.length : Int) = 60 then (dropperlaw07_WearPasses.j1 kj2 t609 t613 y623 bt626.1 bt630.1 ((bt630.1.length : Int) != 60)) else (dropperlaw07_WearPasses.j1 kj2 t609 t613 y623 bt626.1 bt630.1 true)) else (dropperlaw07_WearPasses.j1 kj2 t609 t613 y623 bt626.1 bt630.1 true)) else (dropperlaw07_WearPasses.j1 kj2 t609 t613 y623 bt626.1 bt630.1 true)) else (dropperlaw07_WearPasses.j1 kj2 t609 t613 y623 bt626.1 bt630.1 true)) else (dropperlaw07_WearPasses.j1 kj2 t609 t613 y623 bt626.1 bt630.1 true)) else (dropperlaw07_WearPasses.j1 kj2 t609 t613 y623 bt626.1 bt630.1 true)) else (dropperlaw07_WearPasses.j1 kj2 t609 t613 y623 bt626.1 bt630.1 true))))) else (none))) else (none))) = some r := H
    have A16 := Aside0.mk A160
    clear A160
    obtain ⟨y617, hy617⟩ : ∃ y_ : List (S55), y_ = (([] : List (S55))) := ⟨_, rfl⟩
    replace H : (if y617.length + l0.length < 5864062014805 then ((some (y617 ++ l0 : List (S55))).bind fun y620 => (if y620.length + l1.length < 5864062014805 then ((some (y620 ++ l1 : List (S55))).bind fun y623 => ((wear_Totals.f y623).bind fun bt626 => ((wear_Since.f kj2 bt626.1).bind fun bt630 => (if t610 = 0 then (if t614 = 0 then (if bt626.2 = 0 then (if bt630.2 = 0 then (if (t609.length : Int) = 60 then (if (t613.length : Int) = 60 then (if (bt626.1.length : Int) = 60 then (dropperlaw07_WearPasses.j1 kj2 t609 t613 y623 bt626.1 bt630.1 ((bt630.1.length : Int) != 60)) else (dropperlaw07_WearPasses.j1 kj2 t609 t613 y623 bt626.1 bt630.1 true)) else (dropperlaw07_WearPasses.j1 kj2 t609 t613 y623 bt626.1 bt630.1 true)) else (dropperlaw07_WearPasses.j1 kj2 t609 t613 y623 bt626.1 bt630.1 true)) else (dropperlaw07_WearPasses.j1 kj2 t609 t613 y623 bt626.1 bt630.1 true)) else (dropperlaw07_WearPasses.j1 kj2 t609 t613 y623 bt626.1 bt630.1 true)) else (dropperlaw07_WearPasses.j1 kj2 t609 t613 y623 bt626.1 bt630.1 true)) else (dropperlaw07_WearPasses.j1 kj2 t609 t613 y623 bt626.1 bt630.1 true))))) else (none))) else (none)) = some r := by first | (rw [hy617]; with_reducible exact H) | (have H2_ := (Option.bind_some _ _).symm.trans H; rw [hy617]; with_reducible exact H2_) | (have H2_ := (Option.bind_some _ _).symm.trans H; with_reducible exact H2_) | with_reducible exact H | (rw [hy617]; exact H) | exact H
    have Ny617 := Aside0.mk hy617
    clear hy617
    by_cases c17 : y617.length + l0.length < 5864062014805
    ·
     rw [if_pos c17] at H
     have LMc17 := Aside0.mk c17
     clear c17
     obtain ⟨y620, hy620⟩ : ∃ y_ : List (S55), y_ = (y617 ++ l0) := ⟨_, rfl⟩
     replace H : (if y620.length + l1.length < 5864062014805 then ((some (y620 ++ l1 : List (S55))).bind fun y623 => ((wear_Totals.f y623).bind fun bt626 => ((wear_Since.f kj2 bt626.1).bind fun bt630 => (if t610 = 0 then (if t614 = 0 then (if bt626.2 = 0 then (if bt630.2 = 0 then (if (t609.length : Int) = 60 then (if (t613.length : Int) = 60 then (if (bt626.1.length : Int) = 60 then (dropperlaw07_WearPasses.j1 kj2 t609 t613 y623 bt626.1 bt630.1 ((bt630.1.length : Int) != 60)) else (dropperlaw07_WearPasses.j1 kj2 t609 t613 y623 bt626.1 bt630.1 true)) else (dropperlaw07_WearPasses.j1 kj2 t609 t613 y623 bt626.1 bt630.1 true)) else (dropperlaw07_WearPasses.j1 kj2 t609 t613 y623 bt626.1 bt630.1 true)) else (dropperlaw07_WearPasses.j1 kj2 t609 t613 y623 bt626.1 bt630.1 true)) else (dropperlaw07_WearPasses.j1 kj2 t609 t613 y623 bt626.1 bt630.1 true)) else (dropperlaw07_WearPasses.j1 kj2 t609 t613 y623 bt626.1 bt630.1 true)) else (dropperlaw07_WearPasses.j1 kj2 t609 t613 y623 bt626.1 bt630.1 true))))) else (none)) = some r := by first | (rw [hy620]; with_reducible exact H) | (have H2_ := (Option.bind_some _ _).symm.trans H; rw [hy620]; with_reducible exact H2_) | (have H2_ := (Option.bind_some _ _).symm.trans H; with_reducible exact H2_) | with_reducible exact H | (rw [hy620]; exact H) | exact H
     have Ny620 := Aside0.mk hy620
     clear hy620
     by_cases c18 : y620.length + l1.length < 5864062014805
     ·
      rw [if_pos c18] at H
      have LMc18 := Aside0.mk c18
      clear c18
      obtain ⟨y623, hy623⟩ : ∃ y_ : List (S55), y_ = (y620 ++ l1) := ⟨_, rfl⟩
      replace H : ((wear_Totals.f y623).bind fun bt626 => ((wear_Since.f kj2 bt626.1).bind fun bt630 => (if t610 = 0 then (if t614 = 0 then (if bt626.2 = 0 then (if bt630.2 = 0 then (if (t609.length : Int) = 60 then (if (t613.length : Int) = 60 then (if (bt626.1.length : Int) = 60 then (dropperlaw07_WearPasses.j1 kj2 t609 t613 y623 bt626.1 bt630.1 ((bt630.1.length : Int) != 60)) else (dropperlaw07_WearPasses.j1 kj2 t609 t613 y623 bt626.1 bt630.1 true)) else (dropperlaw07_WearPasses.j1 kj2 t609 t613 y623 bt626.1 bt630.1 true)) else (dropperlaw07_WearPasses.j1 kj2 t609 t613 y623 bt626.1 bt630.1 true)) else (dropperlaw07_WearPasses.j1 kj2 t609 t613 y623 bt626.1 bt630.1 true)) else (dropperlaw07_WearPasses.j1 kj2 t609 t613 y623 bt626.1 bt630.1 true)) else (dropperlaw07_WearPasses.j1 kj2 t609 t613 y623 bt626.1 bt630.1 true)) else (dropperlaw07_WearPasses.j1 kj2 t609 t613 y623 bt626.1 bt630.1 true)))) = some r := by first | (rw [hy623]; with_reducible exact H) | (have H2_ := (Option.bind_some _ _).symm.trans H; rw [hy623]; with_reducible exact H2_) | (have H2_ := (Option.bind_some _ _).symm.trans H; with_reducible exact H2_) | with_reducible exact H | (rw [hy623]; exact H) | exact H
      have Ny623 := Aside0.mk hy623
      clear hy623
      replace H := Option.bind_eq_some_iff.mp H
      obtain ⟨⟨t626, t627⟩, A190, H⟩ := H
      replace H : ((wear_Since.f kj2 t626).bind fun bt630 => (if t610 = 0 then (if t614 = 0 then (if t627 = 0 then (if bt630.2 = 0 then (if (t609.length : Int) = 60 then (if (t613.length : Int) = 60 then (if (t626.length : Int) = 60 then (dropperlaw07_WearPasses.j1 kj2 t609 t613 y623 t626 bt630.1 ((bt630.1.length : Int) != 60)) else (dropperlaw07_WearPasses.j1 kj2 t609 t613 y623 t626 bt630.1 true)) else (dropperlaw07_WearPasses.j1 kj2 t609 t613 y623 t626 bt630.1 true)) else (dropperlaw07_WearPasses.j1 kj2 t609 t613 y623 t626 bt630.1 true)) else (dropperlaw07_WearPasses.j1 kj2 t609 t613 y623 t626 bt630.1 true)) else (dropperlaw07_WearPasses.j1 kj2 t609 t613 y623 t626 bt630.1 true)) else (dropperlaw07_WearPasses.j1 kj2 t609 t613 y623 t626 bt630.1 true)) else (dropperlaw07_WearPasses.j1 kj2 t609 t613 y623 t626 bt630.1 true))) = some r := H
      have A19 := Aside0.mk A190
      clear A190
      replace H := Option.bind_eq_some_iff.mp H
      obtain ⟨⟨t630, t631⟩, A200, H⟩ := H
      replace H : (if t610 = 0 then (if t614 = 0 then (if t627 = 0 then (if t631 = 0 then (if (t609.length : Int) = 60 then (if (t613.length : Int) = 60 then (if (t626.length : Int) = 60 then (dropperlaw07_WearPasses.j1 kj2 t609 t613 y623 t626 t630 ((t630.length : Int) != 60)) else (dropperlaw07_WearPasses.j1 kj2 t609 t613 y623 t626 t630 true)) else (dropperlaw07_WearPasses.j1 kj2 t609 t613 y623 t626 t630 true)) else (dropperlaw07_WearPasses.j1 kj2 t609 t613 y623 t626 t630 true)) else (dropperlaw07_WearPasses.j1 kj2 t609 t613 y623 t626 t630 true)) else (dropperlaw07_WearPasses.j1 kj2 t609 t613 y623 t626 t630 true)) else (dropperlaw07_WearPasses.j1 kj2 t609 t613 y623 t626 t630 true)) else (dropperlaw07_WearPasses.j1 kj2 t609 t613 y623 t626 t630 true)) = some r := H
      have A20 := Aside0.mk A200
      clear A200
      have HC21 := Aside0.mk H
      clear H
      go_upto_region 8 with (first | (go_at_call 40; (with_reducible refine (wear_Totals.calls _ _ l0 t609 t610 _ ?side1 ?side2 A15.out).mono ?_); (case side1 => exact cbz HR0); (case side2 => exact HC0.out); rintro e w22 ⟨v611, rfl, ho0, hb⟩; have HO612 := Aside0.mk (Kd.R_lower ho0 (below_size bel)); replace HB := Aside0.mk (below_step bel hb); (try clear hb); (try clear hb2); (try clear hk); (try clear hi); (try clear ho0)) | (go_at_call 40; (with_reducible refine (wear_Totals.calls _ _ l1 t613 t614 _ ?side1 ?side2 A16.out).mono ?_); (case side1 => exact cbz HR1); (case side2 => exact HC1.out); rintro e w23 ⟨v615, rfl, ho0, hb⟩; have HO616 := Aside0.mk (Kd.R_lower (Kd.R_new' ho0 (Kd.R_lt (ownx HO612))) (below_size bel)); replace HO612 := Aside0.mk (Kd.R_elder' (ownx HO612) (Kd.R_base ho0) hb); replace HB := Aside0.mk (below_step bel hb); (try clear hb); (try clear hb2); (try clear hk); (try clear hi); (try clear ho0)) | ((with_reducible refine gate_dst (N := 47) rfl ?_); (try (refine gate_guard (by rfl) ?_; dsimp only)); refine Kd.R_lit k55 _ 55 ?hg (N := 47) ?hd (xs := ([] : List (S55))) (inner := []) (ok := fun _ => True) (okp := fun _ => True) ?hr ?hp (fun _ hk => hk) trivial (Below.refl _ _) (Nat.le_refl _) (by simp) ?_; (case hd => rfl); (case hg => rfl); (case hr => first | (go_simp; done) | (go_simp; rfl)); (case hp => exact (Reps.none _ _)); intro v618 w24 ho25 hb hg_ hnew_; clear hg_ hnew_; (first | rw [← Ny617.out] at ho25 | (simp only [Int.reduceToNat] at ho25; rw [← Ny617.out] at ho25)); have HO619 := Aside0.mk (Kd.R_lower ho25 (below_size bel)); replace HO612 := Aside0.mk (Kd.R_below (ownx HO612) hb); replace HO616 := Aside0.mk (Kd.R_below (ownx HO616) hb); replace HB := Aside0.mk (below_step bel hb); clear hb ho25) | ((with_reducible refine gate_builtin (b := .append) (xs := #[.tmp 47, .tmp 48]) rfl ?_); (try (refine gate_guard (by rfl) ?_; dsimp only)); at_builtin; refine Kd.R_append_rows k55 (w0 := w) w.heap.size rfl (.tmp 47) (.tmp 48) 51 55 (.agg #[(.int .i64 0), (.int .i64 0), (.int .i64 0)]) 24 rfl Try.underlying51 info55 rfl (by decide) (by omega) v618 y617 l0 _ _ _ (fun _ => True) (fun _ => False) rfl rfl ?aO ?aR (fun _ _ h => h) (fun _ h => h.elim) ?aF ?aB ?aS ?aL ?_; (case aR => exact cbz HR0); (case aB => exact bel); (case aF => exact (fun _ _ => trivial)); (case aO => exact (ownx HO619)); (case aS => exact (below_size bel)); (case aL => have := LMc17.out; omega); intro v621 w26 ho hb hg hat; rw [← Ny620.out] at ho; have n0_ := Aside0.mk (Kd.R_over' (ownx HO612) (Kd.R_typed (ownx HO619)) (by decide) hg); have n1_ := Aside0.mk (Kd.R_over' (ownx HO616) (Kd.R_typed (ownx HO619)) (by decide) hg); have n2_ := Aside0.mk (hb); have n3_ := Aside0.mk (ho); clear HO612; clear HO616; clear HB; clear HO619; have HO612 := n0_; have HO616 := n1_; have HB := n2_; have HO622 := n3_; clear n0_ n1_ n2_ n3_; clear ho hb hg hat) | ((with_reducible refine gate_builtin (b := .append) (xs := #[.tmp 49, .tmp 50]) rfl ?_); (try (refine gate_guard (by rfl) ?_; dsimp only)); at_builtin; refine Kd.R_append_rows k55 (w0 := w) w.heap.size rfl (.tmp 49) (.tmp 50) 51 55 (.agg #[(.int .i64 0), (.int .i64 0), (.int .i64 0)]) 24 rfl Try.underlying51 info55 rfl (by decide) (by omega) v621 y620 l1 _ _ _ (fun _ => True) (fun _ => False) rfl rfl ?aO ?aR (fun _ _ h => h) (fun _ h => h.elim) ?aF ?aB ?aS ?aL ?_; (case aR => exact cbz HR1); (case aB => exact bel); (case aF => exact (fun _ _ => trivial)); (case aO => exact (ownx HO622)); (case aS => exact (below_size bel)); (case aL => have := LMc18.out; omega); intro v624 w27 ho hb hg hat; rw [← Ny623.out] at ho; have n0_ := Aside0.mk (Kd.R_over' (ownx HO612) (Kd.R_typed (ownx HO622)) (by decide) hg); have n1_ := Aside0.mk (Kd.R_over' (ownx HO616) (Kd.R_typed (ownx HO622)) (by decide) hg); have n2_ := Aside0.mk (hb); have n3_ := Aside0.mk (ho); clear HO612; clear HO616; clear HB; clear HO622; have HO612 := n0_; have HO616 := n1_; have HB := n2_; have HO625 := n3_; clear n0_ n1_ n2_ n3_; clear ho hb hg hat; obtain ⟨Ao28, co28, eo28⟩ := Kd.R_slice HO625.out; subst eo28) | (go_at_call 40; (with_reducible refine (wear_Totals.calls _ _ y623 t626 t627 _ ?side1 ?side2 A19.out).mono ?_); (case side1 => repeat (first | exact (Kd.R_reads' HO625.out).2.2 | (with_reducible refine Kd.C_alloc ?_ _) | (with_reducible refine Kd.C_drewN ?_ _) | (with_reducible refine Kd.C_drew ?_))); (case side2 => exact (Kd.R_reads' HO625.out).2.1); rintro e w29 ⟨v628, rfl, ho0, hb⟩; have HO629 := Aside0.mk (Kd.R_lower (Kd.R_new' (Kd.R_new' ho0 (Kd.R_lt (ownx HO612))) (Kd.R_lt (ownx HO616))) (below_size bel)); replace HO612 := Aside0.mk (Kd.R_elder' (ownx HO612) (Kd.R_base ho0) hb); replace HO616 := Aside0.mk (Kd.R_elder' (ownx HO616) (Kd.R_base ho0) hb); replace HO625 := Aside0.mk (Kd.R_below (ownx HO625) hb); replace HB := Aside0.mk (below_step bel hb); (try clear hb); (try clear hb2); (try clear hk); (try clear hi); (try clear ho0); obtain ⟨Ao30, co30, eo30⟩ := Kd.R_slice HO629.out; subst eo30) | (go_at_call 32; (with_reducible refine (wear_Since.calls kj2 _ _ t626 t630 t631 _ ?side1 ?side2 A20.out).mono ?_); (case side1 => repeat (first | exact (Kd.R_reads' HO629.out).2.2 | (with_reducible refine Kd.C_alloc ?_ _) | (with_reducible refine Kd.C_drewN ?_ _) | (with_reducible refine Kd.C_drew ?_))); (case side2 => exact (Kd.R_reads' HO629.out).2.1); rintro e w31 ⟨v632, rfl, ho0, hb⟩; have HO633 := Aside0.mk (Kd.R_lower ho0 (below_size bel)); replace HO612 := Aside0.mk (Kd.R_below (ownx HO612) hb); replace HO616 := Aside0.mk (Kd.R_below (ownx HO616) hb); replace HO625 := Aside0.mk (Kd.R_below (ownx HO625) hb); replace HO629 := Aside0.mk (Kd.R_below (ownx HO629) hb); replace HB := Aside0.mk (below_step bel hb); (try clear hb); (try clear hb2); (try clear hk); (try clear hi); (try clear ho0)))
      repeat (go_quiet (first | (go_at_call 40; (with_reducible refine (wear_Totals.calls _ _ l0 t609 t610 _ ?side1 ?side2 A15.out).mono ?_); (case side1 => exact cbz HR0); (case side2 => exact HC0.out); rintro e w22 ⟨v611, rfl, ho0, hb⟩; have HO612 := Aside0.mk (Kd.R_lower ho0 (below_size bel)); replace HB := Aside0.mk (below_step bel hb); (try clear hb); (try clear hb2); (try clear hk); (try clear hi); (try clear ho0)) | (go_at_call 40; (with_reducible refine (wear_Totals.calls _ _ l1 t613 t614 _ ?side1 ?side2 A16.out).mono ?_); (case side1 => exact cbz HR1); (case side2 => exact HC1.out); rintro e w23 ⟨v615, rfl, ho0, hb⟩; have HO616 := Aside0.mk (Kd.R_lower (Kd.R_new' ho0 (Kd.R_lt (ownx HO612))) (below_size bel)); replace HO612 := Aside0.mk (Kd.R_elder' (ownx HO612) (Kd.R_base ho0) hb); replace HB := Aside0.mk (below_step bel hb); (try clear hb); (try clear hb2); (try clear hk); (try clear hi); (try clear ho0)) | ((with_reducible refine gate_dst (N := 47) rfl ?_); (try (refine gate_guard (by rfl) ?_; dsimp only)); refine Kd.R_lit k55 _ 55 ?hg (N := 47) ?hd (xs := ([] : List (S55))) (inner := []) (ok := fun _ => True) (okp := fun _ => True) ?hr ?hp (fun _ hk => hk) trivial (Below.refl _ _) (Nat.le_refl _) (by simp) ?_; (case hd => rfl); (case hg => rfl); (case hr => first | (go_simp; done) | (go_simp; rfl)); (case hp => exact (Reps.none _ _)); intro v618 w24 ho25 hb hg_ hnew_; clear hg_ hnew_; (first | rw [← Ny617.out] at ho25 | (simp only [Int.reduceToNat] at ho25; rw [← Ny617.out] at ho25)); have HO619 := Aside0.mk (Kd.R_lower ho25 (below_size bel)); replace HO612 := Aside0.mk (Kd.R_below (ownx HO612) hb); replace HO616 := Aside0.mk (Kd.R_below (ownx HO616) hb); replace HB := Aside0.mk (below_step bel hb); clear hb ho25) | ((with_reducible refine gate_builtin (b := .append) (xs := #[.tmp 47, .tmp 48]) rfl ?_); (try (refine gate_guard (by rfl) ?_; dsimp only)); at_builtin; refine Kd.R_append_rows k55 (w0 := w) w.heap.size rfl (.tmp 47) (.tmp 48) 51 55 (.agg #[(.int .i64 0), (.int .i64 0), (.int .i64 0)]) 24 rfl Try.underlying51 info55 rfl (by decide) (by omega) v618 y617 l0 _ _ _ (fun _ => True) (fun _ => False) rfl rfl ?aO ?aR (fun _ _ h => h) (fun _ h => h.elim) ?aF ?aB ?aS ?aL ?_; (case aR => exact cbz HR0); (case aB => exact bel); (case aF => exact (fun _ _ => trivial)); (case aO => exact (ownx HO619)); (case aS => exact (below_size bel)); (case aL => have := LMc17.out; omega); intro v621 w26 ho hb hg hat; rw [← Ny620.out] at ho; have n0_ := Aside0.mk (Kd.R_over' (ownx HO612) (Kd.R_typed (ownx HO619)) (by decide) hg); have n1_ := Aside0.mk (Kd.R_over' (ownx HO616) (Kd.R_typed (ownx HO619)) (by decide) hg); have n2_ := Aside0.mk (hb); have n3_ := Aside0.mk (ho); clear HO612; clear HO616; clear HB; clear HO619; have HO612 := n0_; have HO616 := n1_; have HB := n2_; have HO622 := n3_; clear n0_ n1_ n2_ n3_; clear ho hb hg hat) | ((with_reducible refine gate_builtin (b := .append) (xs := #[.tmp 49, .tmp 50]) rfl ?_); (try (refine gate_guard (by rfl) ?_; dsimp only)); at_builtin; refine Kd.R_append_rows k55 (w0 := w) w.heap.size rfl (.tmp 49) (.tmp 50) 51 55 (.agg #[(.int .i64 0), (.int .i64 0), (.int .i64 0)]) 24 rfl Try.underlying51 info55 rfl (by decide) (by omega) v621 y620 l1 _ _ _ (fun _ => True) (fun _ => False) rfl rfl ?aO ?aR (fun _ _ h => h) (fun _ h => h.elim) ?aF ?aB ?aS ?aL ?_; (case aR => exact cbz HR1); (case aB => exact bel); (case aF => exact (fun _ _ => trivial)); (case aO => exact (ownx HO622)); (case aS => exact (below_size bel)); (case aL => have := LMc18.out; omega); intro v624 w27 ho hb hg hat; rw [← Ny623.out] at ho; have n0_ := Aside0.mk (Kd.R_over' (ownx HO612) (Kd.R_typed (ownx HO622)) (by decide) hg); have n1_ := Aside0.mk (Kd.R_over' (ownx HO616) (Kd.R_typed (ownx HO622)) (by decide) hg); have n2_ := Aside0.mk (hb); have n3_ := Aside0.mk (ho); clear HO612; clear HO616; clear HB; clear HO622; have HO612 := n0_; have HO616 := n1_; have HB := n2_; have HO625 := n3_; clear n0_ n1_ n2_ n3_; clear ho hb hg hat; obtain ⟨Ao28, co28, eo28⟩ := Kd.R_slice HO625.out; subst eo28) | (go_at_call 40; (with_reducible refine (wear_Totals.calls _ _ y623 t626 t627 _ ?side1 ?side2 A19.out).mono ?_); (case side1 => repeat (first | exact (Kd.R_reads' HO625.out).2.2 | (with_reducible refine Kd.C_alloc ?_ _) | (with_reducible refine Kd.C_drewN ?_ _) | (with_reducible refine Kd.C_drew ?_))); (case side2 => exact (Kd.R_reads' HO625.out).2.1); rintro e w29 ⟨v628, rfl, ho0, hb⟩; have HO629 := Aside0.mk (Kd.R_lower (Kd.R_new' (Kd.R_new' ho0 (Kd.R_lt (ownx HO612))) (Kd.R_lt (ownx HO616))) (below_size bel)); replace HO612 := Aside0.mk (Kd.R_elder' (ownx HO612) (Kd.R_base ho0) hb); replace HO616 := Aside0.mk (Kd.R_elder' (ownx HO616) (Kd.R_base ho0) hb); replace HO625 := Aside0.mk (Kd.R_below (ownx HO625) hb); replace HB := Aside0.mk (below_step bel hb); (try clear hb); (try clear hb2); (try clear hk); (try clear hi); (try clear ho0); obtain ⟨Ao30, co30, eo30⟩ := Kd.R_slice HO629.out; subst eo30) | (go_at_call 32; (with_reducible refine (wear_Since.calls kj2 _ _ t626 t630 t631 _ ?side1 ?side2 A20.out).mono ?_); (case side1 => repeat (first | exact (Kd.R_reads' HO629.out).2.2 | (with_reducible refine Kd.C_alloc ?_ _) | (with_reducible refine Kd.C_drewN ?_ _) | (with_reducible refine Kd.C_drew ?_))); (case side2 => exact (Kd.R_reads' HO629.out).2.1); rintro e w31 ⟨v632, rfl, ho0, hb⟩; have HO633 := Aside0.mk (Kd.R_lower ho0 (below_size bel)); replace HO612 := Aside0.mk (Kd.R_below (ownx HO612) hb); replace HO616 := Aside0.mk (Kd.R_below (ownx HO616) hb); replace HO625 := Aside0.mk (Kd.R_below (ownx HO625) hb); replace HO629 := Aside0.mk (Kd.R_below (ownx HO629) hb); replace HB := Aside0.mk (below_step bel hb); (try clear hb); (try clear hb2); (try clear hk); (try clear hi); (try clear ho0))); go_upto_region 8 with (first | (go_at_call 40; (with_reducible refine (wear_Totals.calls _ _ l0 t609 t610 _ ?side1 ?side2 A15.out).mono ?_); (case side1 => exact cbz HR0); (case side2 => exact HC0.out); rintro e w22 ⟨v611, rfl, ho0, hb⟩; have HO612 := Aside0.mk (Kd.R_lower ho0 (below_size bel)); replace HB := Aside0.mk (below_step bel hb); (try clear hb); (try clear hb2); (try clear hk); (try clear hi); (try clear ho0)) | (go_at_call 40; (with_reducible refine (wear_Totals.calls _ _ l1 t613 t614 _ ?side1 ?side2 A16.out).mono ?_); (case side1 => exact cbz HR1); (case side2 => exact HC1.out); rintro e w23 ⟨v615, rfl, ho0, hb⟩; have HO616 := Aside0.mk (Kd.R_lower (Kd.R_new' ho0 (Kd.R_lt (ownx HO612))) (below_size bel)); replace HO612 := Aside0.mk (Kd.R_elder' (ownx HO612) (Kd.R_base ho0) hb); replace HB := Aside0.mk (below_step bel hb); (try clear hb); (try clear hb2); (try clear hk); (try clear hi); (try clear ho0)) | ((with_reducible refine gate_dst (N := 47) rfl ?_); (try (refine gate_guard (by rfl) ?_; dsimp only)); refine Kd.R_lit k55 _ 55 ?hg (N := 47) ?hd (xs := ([] : List (S55))) (inner := []) (ok := fun _ => True) (okp := fun _ => True) ?hr ?hp (fun _ hk => hk) trivial (Below.refl _ _) (Nat.le_refl _) (by simp) ?_; (case hd => rfl); (case hg => rfl); (case hr => first | (go_simp; done) | (go_simp; rfl)); (case hp => exact (Reps.none _ _)); intro v618 w24 ho25 hb hg_ hnew_; clear hg_ hnew_; (first | rw [← Ny617.out] at ho25 | (simp only [Int.reduceToNat] at ho25; rw [← Ny617.out] at ho25)); have HO619 := Aside0.mk (Kd.R_lower ho25 (below_size bel)); replace HO612 := Aside0.mk (Kd.R_below (ownx HO612) hb); replace HO616 := Aside0.mk (Kd.R_below (ownx HO616) hb); replace HB := Aside0.mk (below_step bel hb); clear hb ho25) | ((with_reducible refine gate_builtin (b := .append) (xs := #[.tmp 47, .tmp 48]) rfl ?_); (try (refine gate_guard (by rfl) ?_; dsimp only)); at_builtin; refine Kd.R_append_rows k55 (w0 := w) w.heap.size rfl (.tmp 47) (.tmp 48) 51 55 (.agg #[(.int .i64 0), (.int .i64 0), (.int .i64 0)]) 24 rfl Try.underlying51 info55 rfl (by decide) (by omega) v618 y617 l0 _ _ _ (fun _ => True) (fun _ => False) rfl rfl ?aO ?aR (fun _ _ h => h) (fun _ h => h.elim) ?aF ?aB ?aS ?aL ?_; (case aR => exact cbz HR0); (case aB => exact bel); (case aF => exact (fun _ _ => trivial)); (case aO => exact (ownx HO619)); (case aS => exact (below_size bel)); (case aL => have := LMc17.out; omega); intro v621 w26 ho hb hg hat; rw [← Ny620.out] at ho; have n0_ := Aside0.mk (Kd.R_over' (ownx HO612) (Kd.R_typed (ownx HO619)) (by decide) hg); have n1_ := Aside0.mk (Kd.R_over' (ownx HO616) (Kd.R_typed (ownx HO619)) (by decide) hg); have n2_ := Aside0.mk (hb); have n3_ := Aside0.mk (ho); clear HO612; clear HO616; clear HB; clear HO619; have HO612 := n0_; have HO616 := n1_; have HB := n2_; have HO622 := n3_; clear n0_ n1_ n2_ n3_; clear ho hb hg hat) | ((with_reducible refine gate_builtin (b := .append) (xs := #[.tmp 49, .tmp 50]) rfl ?_); (try (refine gate_guard (by rfl) ?_; dsimp only)); at_builtin; refine Kd.R_append_rows k55 (w0 := w) w.heap.size rfl (.tmp 49) (.tmp 50) 51 55 (.agg #[(.int .i64 0), (.int .i64 0), (.int .i64 0)]) 24 rfl Try.underlying51 info55 rfl (by decide) (by omega) v621 y620 l1 _ _ _ (fun _ => True) (fun _ => False) rfl rfl ?aO ?aR (fun _ _ h => h) (fun _ h => h.elim) ?aF ?aB ?aS ?aL ?_; (case aR => exact cbz HR1); (case aB => exact bel); (case aF => exact (fun _ _ => trivial)); (case aO => exact (ownx HO622)); (case aS => exact (below_size bel)); (case aL => have := LMc18.out; omega); intro v624 w27 ho hb hg hat; rw [← Ny623.out] at ho; have n0_ := Aside0.mk (Kd.R_over' (ownx HO612) (Kd.R_typed (ownx HO622)) (by decide) hg); have n1_ := Aside0.mk (Kd.R_over' (ownx HO616) (Kd.R_typed (ownx HO622)) (by decide) hg); have n2_ := Aside0.mk (hb); have n3_ := Aside0.mk (ho); clear HO612; clear HO616; clear HB; clear HO622; have HO612 := n0_; have HO616 := n1_; have HB := n2_; have HO625 := n3_; clear n0_ n1_ n2_ n3_; clear ho hb hg hat; obtain ⟨Ao28, co28, eo28⟩ := Kd.R_slice HO625.out; subst eo28) | (go_at_call 40; (with_reducible refine (wear_Totals.calls _ _ y623 t626 t627 _ ?side1 ?side2 A19.out).mono ?_); (case side1 => repeat (first | exact (Kd.R_reads' HO625.out).2.2 | (with_reducible refine Kd.C_alloc ?_ _) | (with_reducible refine Kd.C_drewN ?_ _) | (with_reducible refine Kd.C_drew ?_))); (case side2 => exact (Kd.R_reads' HO625.out).2.1); rintro e w29 ⟨v628, rfl, ho0, hb⟩; have HO629 := Aside0.mk (Kd.R_lower (Kd.R_new' (Kd.R_new' ho0 (Kd.R_lt (ownx HO612))) (Kd.R_lt (ownx HO616))) (below_size bel)); replace HO612 := Aside0.mk (Kd.R_elder' (ownx HO612) (Kd.R_base ho0) hb); replace HO616 := Aside0.mk (Kd.R_elder' (ownx HO616) (Kd.R_base ho0) hb); replace HO625 := Aside0.mk (Kd.R_below (ownx HO625) hb); replace HB := Aside0.mk (below_step bel hb); (try clear hb); (try clear hb2); (try clear hk); (try clear hi); (try clear ho0); obtain ⟨Ao30, co30, eo30⟩ := Kd.R_slice HO629.out; subst eo30) | (go_at_call 32; (with_reducible refine (wear_Since.calls kj2 _ _ t626 t630 t631 _ ?side1 ?side2 A20.out).mono ?_); (case side1 => repeat (first | exact (Kd.R_reads' HO629.out).2.2 | (with_reducible refine Kd.C_alloc ?_ _) | (with_reducible refine Kd.C_drewN ?_ _) | (with_reducible refine Kd.C_drew ?_))); (case side2 => exact (Kd.R_reads' HO629.out).2.1); rintro e w31 ⟨v632, rfl, ho0, hb⟩; have HO633 := Aside0.mk (Kd.R_lower ho0 (below_size bel)); replace HO612 := Aside0.mk (Kd.R_below (ownx HO612) hb); replace HO616 := Aside0.mk (Kd.R_below (ownx HO616) hb); replace HO625 := Aside0.mk (Kd.R_below (ownx HO625) hb); replace HO629 := Aside0.mk (Kd.R_below (ownx HO629) hb); replace HB := Aside0.mk (below_step bel hb); (try clear hb); (try clear hb2); (try clear hk); (try clear hi); (try clear ho0))))
      (try simp only [Act.put, List.setIfInBounds_toArray, List.set_cons_zero, List.set_cons_succ])
      go_cut [95] (fun v95 wc => ∃ (kq : Nat) (x95_20 : Bool), v95 = .bool x95_20 ∧ Aside0 (dropperlaw07_WearPasses.j1 kq t609 t613 y623 t626 t630 x95_20 = some r) ∧ Aside0 (kq ≤ kj2) ∧ Aside0 (Kd.R (Kd.int .i64) 84 wc w.heap.size (fun k_ => some k_ ≠ (v615 : Value).ownBlock ∧ some k_ ≠ ((.slice Ao30 t626.length co30) : Value).ownBlock) v611 t609) ∧ Aside0 (Kd.R (Kd.int .i64) 84 wc w.heap.size (fun k_ => some k_ ≠ (v611 : Value).ownBlock ∧ some k_ ≠ ((.slice Ao30 t626.length co30) : Value).ownBlock) v615 t613) ∧ Aside0 (Kd.R k55 55 wc w.heap.size (fun _ => True) (.slice Ao28 y623.length co28) y623) ∧ Aside0 (Kd.R (Kd.int .i64) 84 wc w.heap.size (fun k_ => some k_ ≠ (v611 : Value).ownBlock ∧ some k_ ≠ (v615 : Value).ownBlock) (.slice Ao30 t626.length co30) t626) ∧ Aside0 (Kd.R (Kd.int .i64) 3 wc w.heap.size (fun _ => True) v632 t630) ∧ Aside0 (Below w.heap.size w wc))
      case first =>
       have H := HC21.out
       clear HC21
       by_cases c32 : t610 = 0
       ·
        rw [if_pos c32] at H
        have c32b0 : (t610 == 0) = true := beq_iff_eq.mpr c32
        have c32b1 : (t610 != 0) = false := bne_eq_false_iff_eq.mpr c32
        clear c32
        (first | rw [c32b0] | (simp only [i64_w, i32_w]; rw [c32b0]) | skip)
        by_cases c33 : t614 = 0
        ·
         rw [if_pos c33] at H
         have c33b0 : (t614 == 0) = true := beq_iff_eq.mpr c33
         have c33b1 : (t614 != 0) = false := bne_eq_false_iff_eq.mpr c33
         clear c33
         by_cases c34 : t627 = 0
         ·
          rw [if_pos c34] at H
          have c34b0 : (t627 == 0) = true := beq_iff_eq.mpr c34
          have c34b1 : (t627 != 0) = false := bne_eq_false_iff_eq.mpr c34
          clear c34
          by_cases c35 : t631 = 0
          ·
           rw [if_pos c35] at H
           have c35b0 : (t631 == 0) = true := beq_iff_eq.mpr c35
           have c35b1 : (t631 != 0) = false := bne_eq_false_iff_eq.mpr c35
           clear c35
           by_cases c36 : (t609.length : Int) = 60
           ·
            rw [if_pos c36] at H
            have c36b0 : ((t609.length : Int) == 60) = true := beq_iff_eq.mpr c36
            have c36b1 : ((t609.length : Int) != 60) = false := bne_eq_false_iff_eq.mpr c36
            clear c36
            by_cases c37 : (t613.length : Int) = 60
            ·
             rw [if_pos c37] at H
             have c37b0 : ((t613.length : Int) == 60) = true := beq_iff_eq.mpr c37
             have c37b1 : ((t613.length : Int) != 60) = false := bne_eq_false_iff_eq.mpr c37
             clear c37
             by_cases c38 : (t626.length : Int) = 60
             ·
              rw [if_pos c38] at H
              have c38b0 : ((t626.length : Int) == 60) = true := beq_iff_eq.mpr c38
              have c38b1 : ((t626.length : Int) != 60) = false := bne_eq_false_iff_eq.mpr c38
              clear c38
              have H' := Aside0.mk H
              clear H
              obtain ⟨Ao39, co39, eo39⟩ := Kd.R_slice HO612.out
              subst eo39
              obtain ⟨Ao40, co40, eo40⟩ := Kd.R_slice HO616.out
              subst eo40
              obtain ⟨Ao41, co41, eo41⟩ := Kd.R_slice HO633.out
              subst eo41
              go_wp2
              repeat (go_quiet (fail); try go_wp2)
              go_meet
              case rel => exact ⟨_, (((t630.length : Int) != 60)), rsz, H', ⟨by have := HJ2.out; first | omega | exact Nat.le_refl _⟩, ⟨by (with_reducible repeat (first | apply Kd.R_alloc | apply Kd.R_drewN | apply Kd.R_drew)); exact Kd.R_mono HO612.out (fun _ hk => ⟨hk.1.2, hk.2⟩)⟩, ⟨by (with_reducible repeat (first | apply Kd.R_alloc | apply Kd.R_drewN | apply Kd.R_drew)); exact Kd.R_mono HO616.out (fun _ hk => ⟨hk.1.2, hk.2⟩)⟩, ⟨by (with_reducible repeat (first | apply Kd.R_alloc | apply Kd.R_drewN | apply Kd.R_drew)); exact HO625.out⟩, ⟨by (with_reducible repeat (first | apply Kd.R_alloc | apply Kd.R_drewN | apply Kd.R_drew)); exact Kd.R_mono HO629.out (fun _ hk => ⟨hk.1.2, hk.2⟩)⟩, ⟨by (with_reducible repeat (first | apply Kd.R_alloc | apply Kd.R_drewN | apply Kd.R_drew)); exact HO633.out⟩, ⟨bel⟩⟩
             ·
              rw [if_neg c38] at H
              have c38b0 : ((t626.length : Int) == 60) = false := beq_eq_false_iff_ne.mpr c38
              have c38b1 : ((t626.length : Int) != 60) = true := bne_iff_ne.mpr c38
              have H' := Aside0.mk H
              clear H
              obtain ⟨Ao42, co42, eo42⟩ := Kd.R_slice HO612.out
              subst eo42
              obtain ⟨Ao43, co43, eo43⟩ := Kd.R_slice HO616.out
              subst eo43
              go_wp2
              repeat (go_quiet (fail); try go_wp2)
              go_meet
              case rel => exact ⟨_, (true), rsz, H', ⟨by have := HJ2.out; first | omega | exact Nat.le_refl _⟩, ⟨by (with_reducible repeat (first | apply Kd.R_alloc | apply Kd.R_drewN | apply Kd.R_drew)); exact Kd.R_mono HO612.out (fun _ hk => ⟨hk.1.2, hk.2⟩)⟩, ⟨by (with_reducible repeat (first | apply Kd.R_alloc | apply Kd.R_drewN | apply Kd.R_drew)); exact Kd.R_mono HO616.out (fun _ hk => ⟨hk.1.2, hk.2⟩)⟩, ⟨by (with_reducible repeat (first | apply Kd.R_alloc | apply Kd.R_drewN | apply Kd.R_drew)); exact HO625.out⟩, ⟨by (with_reducible repeat (first | apply Kd.R_alloc | apply Kd.R_drewN | apply Kd.R_drew)); exact Kd.R_mono HO629.out (fun _ hk => ⟨hk.1.2, hk.2⟩)⟩, ⟨by (with_reducible repeat (first | apply Kd.R_alloc | apply Kd.R_drewN | apply Kd.R_drew)); exact HO633.out⟩, ⟨bel⟩⟩
            ·
             rw [if_neg c37] at H
             have c37b0 : ((t613.length : Int) == 60) = false := beq_eq_false_iff_ne.mpr c37
             have c37b1 : ((t613.length : Int) != 60) = true := bne_iff_ne.mpr c37
             have H' := Aside0.mk H
             clear H
             obtain ⟨Ao44, co44, eo44⟩ := Kd.R_slice HO612.out
             subst eo44
             obtain ⟨Ao45, co45, eo45⟩ := Kd.R_slice HO616.out
             subst eo45
             go_wp2
             repeat (go_quiet (fail); try go_wp2)
             go_meet
             case rel => exact ⟨_, (true), rsz, H', ⟨by have := HJ2.out; first | omega | exact Nat.le_refl _⟩, ⟨by (with_reducible repeat (first | apply Kd.R_alloc | apply Kd.R_drewN | apply Kd.R_drew)); exact Kd.R_mono HO612.out (fun _ hk => ⟨hk.1.2, hk.2⟩)⟩, ⟨by (with_reducible repeat (first | apply Kd.R_alloc | apply Kd.R_drewN | apply Kd.R_drew)); exact Kd.R_mono HO616.out (fun _ hk => ⟨hk.1.2, hk.2⟩)⟩, ⟨by (with_reducible repeat (first | apply Kd.R_alloc | apply Kd.R_drewN | apply Kd.R_drew)); exact HO625.out⟩, ⟨by (with_reducible repeat (first | apply Kd.R_alloc | apply Kd.R_drewN | apply Kd.R_drew)); exact Kd.R_mono HO629.out (fun _ hk => ⟨hk.1.2, hk.2⟩)⟩, ⟨by (with_reducible repeat (first | apply Kd.R_alloc | apply Kd.R_drewN | apply Kd.R_drew)); exact HO633.out⟩, ⟨bel⟩⟩
           ·
            rw [if_neg c36] at H
            have c36b0 : ((t609.length : Int) == 60) = false := beq_eq_false_iff_ne.mpr c36
            have c36b1 : ((t609.length : Int) != 60) = true := bne_iff_ne.mpr c36
            have H' := Aside0.mk H
            clear H
            obtain ⟨Ao46, co46, eo46⟩ := Kd.R_slice HO612.out
            subst eo46
            go_wp2
            repeat (go_quiet (fail); try go_wp2)
            go_meet
            case rel => exact ⟨_, (true), rsz, H', ⟨by have := HJ2.out; first | omega | exact Nat.le_refl _⟩, ⟨by (with_reducible repeat (first | apply Kd.R_alloc | apply Kd.R_drewN | apply Kd.R_drew)); exact Kd.R_mono HO612.out (fun _ hk => ⟨hk.1.2, hk.2⟩)⟩, ⟨by (with_reducible repeat (first | apply Kd.R_alloc | apply Kd.R_drewN | apply Kd.R_drew)); exact Kd.R_mono HO616.out (fun _ hk => ⟨hk.1.2, hk.2⟩)⟩, ⟨by (with_reducible repeat (first | apply Kd.R_alloc | apply Kd.R_drewN | apply Kd.R_drew)); exact HO625.out⟩, ⟨by (with_reducible repeat (first | apply Kd.R_alloc | apply Kd.R_drewN | apply Kd.R_drew)); exact Kd.R_mono HO629.out (fun _ hk => ⟨hk.1.2, hk.2⟩)⟩, ⟨by (with_reducible repeat (first | apply Kd.R_alloc | apply Kd.R_drewN | apply Kd.R_drew)); exact HO633.out⟩, ⟨bel⟩⟩
          ·
           rw [if_neg c35] at H
           have c35b0 : (t631 == 0) = false := beq_eq_false_iff_ne.mpr c35
           have c35b1 : (t631 != 0) = true := bne_iff_ne.mpr c35
           have H' := Aside0.mk H
           clear H
           go_wp2
           repeat (go_quiet (fail); try go_wp2)
           go_meet
           case rel => exact ⟨_, (true), rsz, H', ⟨by have := HJ2.out; first | omega | exact Nat.le_refl _⟩, ⟨by (with_reducible repeat (first | apply Kd.R_alloc | apply Kd.R_drewN | apply Kd.R_drew)); exact Kd.R_mono HO612.out (fun _ hk => ⟨hk.1.2, hk.2⟩)⟩, ⟨by (with_reducible repeat (first | apply Kd.R_alloc | apply Kd.R_drewN | apply Kd.R_drew)); exact Kd.R_mono HO616.out (fun _ hk => ⟨hk.1.2, hk.2⟩)⟩, ⟨by (with_reducible repeat (first | apply Kd.R_alloc | apply Kd.R_drewN | apply Kd.R_drew)); exact HO625.out⟩, ⟨by (with_reducible repeat (first | apply Kd.R_alloc | apply Kd.R_drewN | apply Kd.R_drew)); exact Kd.R_mono HO629.out (fun _ hk => ⟨hk.1.2, hk.2⟩)⟩, ⟨by (with_reducible repeat (first | apply Kd.R_alloc | apply Kd.R_drewN | apply Kd.R_drew)); exact HO633.out⟩, ⟨bel⟩⟩
         ·
          rw [if_neg c34] at H
          have c34b0 : (t627 == 0) = false := beq_eq_false_iff_ne.mpr c34
          have c34b1 : (t627 != 0) = true := bne_iff_ne.mpr c34
          have H' := Aside0.mk H
          clear H
          go_wp2
          repeat (go_quiet (fail); try go_wp2)
          go_meet
          case rel => exact ⟨_, (true), rsz, H', ⟨by have := HJ2.out; first | omega | exact Nat.le_refl _⟩, ⟨by (with_reducible repeat (first | apply Kd.R_alloc | apply Kd.R_drewN | apply Kd.R_drew)); exact Kd.R_mono HO612.out (fun _ hk => ⟨hk.1.2, hk.2⟩)⟩, ⟨by (with_reducible repeat (first | apply Kd.R_alloc | apply Kd.R_drewN | apply Kd.R_drew)); exact Kd.R_mono HO616.out (fun _ hk => ⟨hk.1.2, hk.2⟩)⟩, ⟨by (with_reducible repeat (first | apply Kd.R_alloc | apply Kd.R_drewN | apply Kd.R_drew)); exact HO625.out⟩, ⟨by (with_reducible repeat (first | apply Kd.R_alloc | apply Kd.R_drewN | apply Kd.R_drew)); exact Kd.R_mono HO629.out (fun _ hk => ⟨hk.1.2, hk.2⟩)⟩, ⟨by (with_reducible repeat (first | apply Kd.R_alloc | apply Kd.R_drewN | apply Kd.R_drew)); exact HO633.out⟩, ⟨bel⟩⟩
        ·
         rw [if_neg c33] at H
         have c33b0 : (t614 == 0) = false := beq_eq_false_iff_ne.mpr c33
         have c33b1 : (t614 != 0) = true := bne_iff_ne.mpr c33
         have H' := Aside0.mk H
         clear H
         go_wp2
         repeat (go_quiet (fail); try go_wp2)
         go_meet
         case rel => exact ⟨_, (true), rsz, H', ⟨by have := HJ2.out; first | omega | exact Nat.le_refl _⟩, ⟨by (with_reducible repeat (first | apply Kd.R_alloc | apply Kd.R_drewN | apply Kd.R_drew)); exact Kd.R_mono HO612.out (fun _ hk => ⟨hk.1.2, hk.2⟩)⟩, ⟨by (with_reducible repeat (first | apply Kd.R_alloc | apply Kd.R_drewN | apply Kd.R_drew)); exact Kd.R_mono HO616.out (fun _ hk => ⟨hk.1.2, hk.2⟩)⟩, ⟨by (with_reducible repeat (first | apply Kd.R_alloc | apply Kd.R_drewN | apply Kd.R_drew)); exact HO625.out⟩, ⟨by (with_reducible repeat (first | apply Kd.R_alloc | apply Kd.R_drewN | apply Kd.R_drew)); exact Kd.R_mono HO629.out (fun _ hk => ⟨hk.1.2, hk.2⟩)⟩, ⟨by (with_reducible repeat (first | apply Kd.R_alloc | apply Kd.R_drewN | apply Kd.R_drew)); exact HO633.out⟩, ⟨bel⟩⟩
       ·
        rw [if_neg c32] at H
        have c32b0 : (t610 == 0) = false := beq_eq_false_iff_ne.mpr c32
        have c32b1 : (t610 != 0) = true := bne_iff_ne.mpr c32
        (first | rw [c32b0] | (simp only [i64_w, i32_w]; rw [c32b0]) | skip)
        have H' := Aside0.mk H
        clear H
        go_wp2
        repeat (go_quiet (fail); try go_wp2)
        go_meet
        case rel => exact ⟨_, (true), rsz, H', ⟨by have := HJ2.out; first | omega | exact Nat.le_refl _⟩, ⟨by (with_reducible repeat (first | apply Kd.R_alloc | apply Kd.R_drewN | apply Kd.R_drew)); exact Kd.R_mono HO612.out (fun _ hk => ⟨hk.1.2, hk.2⟩)⟩, ⟨by (with_reducible repeat (first | apply Kd.R_alloc | apply Kd.R_drewN | apply Kd.R_drew)); exact Kd.R_mono HO616.out (fun _ hk => ⟨hk.1.2, hk.2⟩)⟩, ⟨by (with_reducible repeat (first | apply Kd.R_alloc | apply Kd.R_drewN | apply Kd.R_drew)); exact HO625.out⟩, ⟨by (with_reducible repeat (first | apply Kd.R_alloc | apply Kd.R_drewN | apply Kd.R_drew)); exact Kd.R_mono HO629.out (fun _ hk => ⟨hk.1.2, hk.2⟩)⟩, ⟨by (with_reducible repeat (first | apply Kd.R_alloc | apply Kd.R_drewN | apply Kd.R_drew)); exact HO633.out⟩, ⟨bel⟩⟩
      case rest =>
       clear HC21
       try clear c1
       try clear p2
       try clear c3
       try clear c4
       try clear c4b0
       try clear c4b1
       try clear c5
       try clear c5b0
       try clear c5b1
       try clear c7
       try clear c11
       try clear c12
       try clear c17
       try clear c18
       try clear c32
       try clear c32b0
       try clear c32b1
       try clear c33
       try clear c33b0
       try clear c33b1
       try clear c34
       try clear c34b0
       try clear c34b1
       try clear c35
       try clear c35b0
       try clear c35b1
       try clear c36
       try clear c36b0
       try clear c36b1
       try clear c37
       try clear c37b0
       try clear c37b1
       try clear c38
       try clear c38b0
       try clear c38b1
       try clear p2
       obtain ⟨kq, x95_20, rfl, HA, HJ20, HO_5, HO_7, HO_9, HO_10, HO_12, HB⟩ := hcut
       cases kq with
       | zero => exact absurd HA.out (by simp [dropperlaw07_WearPasses.j1])
       | succ kj20 =>
        have H := HA.out
        clear HA
        simp only [dropperlaw07_WearPasses.j1] at H
        by_cases c47 : x95_20 = true
        ·
         subst c47
         have H1 : (none) = some r := by rw [if_pos rfl] at H; exact H
         clear H
         have H := H1
         clear H1
         exact absurd H (by simp)
        ·
         replace c47 := Bool.eq_false_iff.mpr c47
         subst c47
         have H1 : (dropperlaw07_WearPasses.l0 kj20 t609 t613 y623 t626 t630 0 0 0) = some r := by rw [if_neg (show ¬ (false = true) by decide)] at H; exact H
         clear H
         have H := H1
         clear H1
         have H' := Aside0.mk H
         clear H
         go_wp2
         repeat (go_quiet (fail); try go_wp2)
         go_loopg [14, 16] kj20 (fun kq v14 v16 w' => ∃ (x14_3 : Int) (x16_3 : Int), v14 = .int .i64 x14_3 ∧ v16 = .int .i64 x16_3 ∧ Aside0 (dropperlaw07_WearPasses.l0 kq t609 t613 y623 t626 t630 x14_3 0 x16_3 = some r) ∧ Aside0 (kq ≤ kj20) ∧ Aside0 (Kd.R (Kd.int .i64) 84 w' w.heap.size (fun k_ => some k_ ≠ (v615 : Value).ownBlock ∧ some k_ ≠ ((.slice Ao30 t626.length co30) : Value).ownBlock) v611 t609) ∧ Aside0 (Kd.R (Kd.int .i64) 84 w' w.heap.size (fun k_ => some k_ ≠ (v611 : Value).ownBlock ∧ some k_ ≠ ((.slice Ao30 t626.length co30) : Value).ownBlock) v615 t613) ∧ Aside0 (Kd.R k55 55 w' w.heap.size (fun _ => True) (.slice Ao28 y623.length co28) y623) ∧ Aside0 (Kd.R (Kd.int .i64) 84 w' w.heap.size (fun k_ => some k_ ≠ (v611 : Value).ownBlock ∧ some k_ ≠ (v615 : Value).ownBlock) (.slice Ao30 t626.length co30) t626) ∧ Aside0 (Kd.R (Kd.int .i64) 3 w' w.heap.size (fun _ => True) v632 t630) ∧ Aside0 (Below w.heap.size w w'))
         case atStart => exact ⟨(0), (0), rsz, rsz, H', ⟨Nat.le_refl _⟩, ⟨by (with_reducible repeat (first | apply Kd.R_alloc | apply Kd.R_drewN | apply Kd.R_drew)); exact HO_5.out⟩, ⟨by (with_reducible repeat (first | apply Kd.R_alloc | apply Kd.R_drewN | apply Kd.R_drew)); exact HO_7.out⟩, ⟨by (with_reducible repeat (first | apply Kd.R_alloc | apply Kd.R_drewN | apply Kd.R_drew)); exact HO_9.out⟩, ⟨by (with_reducible repeat (first | apply Kd.R_alloc | apply Kd.R_drewN | apply Kd.R_drew)); exact HO_10.out⟩, ⟨by (with_reducible repeat (first | apply Kd.R_alloc | apply Kd.R_drewN | apply Kd.R_drew)); exact HO_12.out⟩, ⟨bel⟩⟩
         case round =>
          clear H'
          try clear c1
          try clear p2
          try clear c3
          try clear c4
          try clear c4b0
          try clear c4b1
          try clear c5
          try clear c5b0
          try clear c5b1
          try clear c7
          try clear c11
          try clear c12
          try clear c17
          try clear c18
          try clear c32
          try clear c32b0
          try clear c32b1
          try clear c33
          try clear c33b0
          try clear c33b1
          try clear c34
          try clear c34b0
          try clear c34b1
          try clear c35
          try clear c35b0
          try clear c35b1
          try clear c36
          try clear c36b0
          try clear c36b1
          try clear c37
          try clear c37b0
          try clear c37b1
          try clear c38
          try clear c38b0
          try clear c38b1
          try clear c47
          try clear p2
          obtain ⟨x14_3, x16_3, rfl, rfl, HA, HK3, HO_5, HO_7, HO_9, HO_10, HO_12, HB⟩ := hrel
          cases gk with
          | zero => exact absurd HA.out (by simp [dropperlaw07_WearPasses.l0])
          | succ k3 =>
           have H := HA.out
           clear HA
           simp only [dropperlaw07_WearPasses.l0] at H
           by_cases c48 : x16_3 < (y623.length : Int)
           ·
            rw [if_pos c48] at H
            have c48b0 : decide (x16_3 < (y623.length : Int)) = true := decide_eq_true c48
            clear c48
            by_cases c49 : 0 ≤ x16_3
            ·
             rw [if_pos c49] at H
             have c49b0 : decide (0 ≤ x16_3) = true := decide_eq_true c49
             clear c49
             have H' := Aside0.mk H
             clear H
             have p634 : 0 ≤ (x16_3 : Int) := of_decide_eq_true asz
             have q634 : x16_3 < (y623.length : Int) := of_decide_eq_true asz
             obtain ⟨ad634, e634, hx634_0, hx634_1, hx634_2⟩ := at_T55 (Kd.R_reads' HO_9.out).2.2 x16_3 p634 q634
             cases e634
             replace p634 := eq_true p634
             replace q634 := eq_true q634
             have p635 : 0 ≤ (x16_3 : Int) := of_decide_eq_true asz
             have q635 : x16_3 < (y623.length : Int) := of_decide_eq_true asz
             obtain ⟨ad635, e635, hx635_0, hx635_1, hx635_2⟩ := at_T55 (Kd.R_reads' HO_9.out).2.2 x16_3 p635 q635
             obtain rfl : ad634 = ad635 := (by injection e635)
             replace p635 := eq_true p635
             replace q635 := eq_true q635
             have p636 : 0 ≤ (x16_3 : Int) := of_decide_eq_true asz
             have q636 : x16_3 < (y623.length : Int) := of_decide_eq_true asz
             obtain ⟨ad636, e636, hx636_0, hx636_1, hx636_2⟩ := at_T55 (Kd.R_reads' HO_9.out).2.2 x16_3 p636 q636
             obtain rfl : ad634 = ad636 := (by injection e636)
             replace p636 := eq_true p636
             replace q636 := eq_true q636
             go_wp2
             repeat (go_quiet (fail); try go_wp2)
             go_roundg k3
             case measure => have := HJ2.out; have := HJ20.out; have := HK3.out; omega
             case rel => exact ⟨(wrap64 (x14_3 + (wrap64 (((rd_T55 y623 x16_3).f2) * (wrap64 ((wrap64 (((rd_T55 y623 x16_3).f1) - ((rd_T55 y623 x16_3).f0))) + 1)))))), (wrap64 (x16_3 + 1)), rsz, rsz, H', ⟨by have := HJ2.out; have := HJ20.out; have := HK3.out; omega⟩, ⟨by (with_reducible repeat (first | apply Kd.R_alloc | apply Kd.R_drewN | apply Kd.R_drew)); exact HO_5.out⟩, ⟨by (with_reducible repeat (first | apply Kd.R_alloc | apply Kd.R_drewN | apply Kd.R_drew)); exact HO_7.out⟩, ⟨by (with_reducible repeat (first | apply Kd.R_alloc | apply Kd.R_drewN | apply Kd.R_drew)); exact HO_9.out⟩, ⟨by (with_reducible repeat (first | apply Kd.R_alloc | apply Kd.R_drewN | apply Kd.R_drew)); exact HO_10.out⟩, ⟨by (with_reducible repeat (first | apply Kd.R_alloc | apply Kd.R_drewN | apply Kd.R_drew)); exact HO_12.out⟩, ⟨bel⟩⟩
            ·
             rw [if_neg c49] at H
             exact absurd H (by simp)
           ·
            rw [if_neg c48] at H
            have c48b0 : decide (x16_3 < (y623.length : Int)) = false := decide_eq_false c48
            clear c48
            have H' := Aside0.mk H
            clear H
            go_wp2
            repeat (go_quiet (fail); try go_wp2)
            go_loopg [14, 15, 17] k3 (fun kq v14 v15 v17 w' => ∃ (x14_4 : Int) (x15_4 : Int) (x17_4 : Int), v14 = .int .i64 x14_4 ∧ v15 = .int .i64 x15_4 ∧ v17 = .int .i64 x17_4 ∧ Aside0 (dropperlaw07_WearPasses.l1 kq t609 t613 t626 t630 x14_4 x15_4 x17_4 = some r) ∧ Aside0 (kq ≤ k3) ∧ Aside0 (Kd.R (Kd.int .i64) 84 w' w.heap.size (fun k_ => some k_ ≠ (v615 : Value).ownBlock ∧ some k_ ≠ ((.slice Ao30 t626.length co30) : Value).ownBlock) v611 t609) ∧ Aside0 (Kd.R (Kd.int .i64) 84 w' w.heap.size (fun k_ => some k_ ≠ (v611 : Value).ownBlock ∧ some k_ ≠ ((.slice Ao30 t626.length co30) : Value).ownBlock) v615 t613) ∧ Aside0 (Kd.R (Kd.int .i64) 84 w' w.heap.size (fun k_ => some k_ ≠ (v611 : Value).ownBlock ∧ some k_ ≠ (v615 : Value).ownBlock) (.slice Ao30 t626.length co30) t626) ∧ Aside0 (Kd.R (Kd.int .i64) 3 w' w.heap.size (fun _ => True) v632 t630) ∧ Aside0 (Below w.heap.size w w'))
            case atStart => exact ⟨(x14_3), (0), (0), rsz, rsz, rsz, H', ⟨Nat.le_refl _⟩, ⟨by (with_reducible repeat (first | apply Kd.R_alloc | apply Kd.R_drewN | apply Kd.R_drew)); exact HO_5.out⟩, ⟨by (with_reducible repeat (first | apply Kd.R_alloc | apply Kd.R_drewN | apply Kd.R_drew)); exact HO_7.out⟩, ⟨by (with_reducible repeat (first | apply Kd.R_alloc | apply Kd.R_drewN | apply Kd.R_drew)); exact HO_10.out⟩, ⟨by (with_reducible repeat (first | apply Kd.R_alloc | apply Kd.R_drewN | apply Kd.R_drew)); exact HO_12.out⟩, ⟨bel⟩⟩
            case round =>
             clear H'
             try clear c1
             try clear p2
             try clear c3
             try clear c4
             try clear c4b0
             try clear c4b1
             try clear c5
             try clear c5b0
             try clear c5b1
             try clear p6
             try clear q6
             try clear hx6
             try clear c7
             try clear c11
             try clear c12
             try clear c17
             try clear c18
             try clear c32
             try clear c32b0
             try clear c32b1
             try clear c33
             try clear c33b0
             try clear c33b1
             try clear c34
             try clear c34b0
             try clear c34b1
             try clear c35
             try clear c35b0
             try clear c35b1
             try clear c36
             try clear c36b0
             try clear c36b1
             try clear c37
             try clear c37b0
             try clear c37b1
             try clear c38
             try clear c38b0
             try clear c38b1
             try clear c47
             try clear c48
             try clear c48b0
             try clear c49
             try clear c49b0
             try clear hx634_0
             try clear hx634_1
             try clear hx634_2
             try clear hx635_0
             try clear hx635_1
             try clear hx635_2
             try clear hx636_0
             try clear hx636_1
             try clear hx636_2
             try clear p2
             try clear p634
             try clear p635
             try clear p636
             try clear q634
             try clear q635
             try clear q636
             obtain ⟨x14_4, x15_4, x17_4, rfl, rfl, rfl, HA, HK4, HO_5, HO_7, HO_10, HO_12, HB⟩ := hrel
             cases gk with
             | zero => exact absurd HA.out (by simp [dropperlaw07_WearPasses.l1])
             | succ k4 =>
              have H := HA.out
              clear HA
              simp only [dropperlaw07_WearPasses.l1] at H
              by_cases c50 : x17_4 < 60
              ·
               rw [if_pos c50] at H
               have c50b0 : decide (x17_4 < 60) = true := decide_eq_true c50
               clear c50
               by_cases c51 : 0 ≤ x17_4
               ·
                rw [if_pos c51] at H
                have c51b0 : decide (0 ≤ x17_4) = true := decide_eq_true c51
                clear c51
                by_cases c52 : x17_4 < (t630.length : Int)
                ·
                 rw [if_pos c52] at H
                 have c52b0 : decide (x17_4 < (t630.length : Int)) = true := decide_eq_true c52
                 clear c52
                 by_cases c53 : x17_4 < (t626.length : Int)
                 ·
                  rw [if_pos c53] at H
                  have c53b0 : decide (x17_4 < (t626.length : Int)) = true := decide_eq_true c53
                  clear c53
                  by_cases c54 : x17_4 < (t609.length : Int)
                  ·
                   rw [if_pos c54] at H
                   have c54b0 : decide (x17_4 < (t609.length : Int)) = true := decide_eq_true c54
                   clear c54
                   by_cases c55 : x17_4 < (t613.length : Int)
                   ·
                    rw [if_pos c55] at H
                    have c55b0 : decide (x17_4 < (t613.length : Int)) = true := decide_eq_true c55
                    clear c55
                    by_cases c56 : (rd t626 x17_4) = (wrap64 ((rd t609 x17_4) + (rd t613 x17_4)))
                    ·
                     rw [if_pos c56] at H
                     have c56b0 : ((rd t626 x17_4) == (wrap64 ((rd t609 x17_4) + (rd t613 x17_4)))) = true := beq_iff_eq.mpr c56
                     have c56b1 : ((rd t626 x17_4) != (wrap64 ((rd t609 x17_4) + (rd t613 x17_4)))) = false := bne_eq_false_iff_eq.mpr c56
                     clear c56
                     by_cases c57 : (wrap64 (x15_4 + (rd t630 x17_4))) = (rd t626 x17_4)
                     ·
                      rw [if_pos c57] at H
                      have c57b0 : ((wrap64 (x15_4 + (rd t630 x17_4))) == (rd t626 x17_4)) = true := beq_iff_eq.mpr c57
                      have c57b1 : ((wrap64 (x15_4 + (rd t630 x17_4))) != (rd t626 x17_4)) = false := bne_eq_false_iff_eq.mpr c57
                      clear c57
                      have H' := Aside0.mk H
                      clear H
                      obtain ⟨Ao58, co58, eo58⟩ := Kd.R_slice HO_12.out
                      subst eo58
                      have p637 : 0 ≤ (x17_4 : Int) := of_decide_eq_true asz
                      have q637 : x17_4 < (t630.length : Int) := of_decide_eq_true asz
                      obtain ⟨ad637, e637, hx637_0⟩ := Kd.at_int (Kd.R_reads' HO_12.out).2.2 x17_4 p637 q637
                      cases e637
                      replace p637 := eq_true p637
                      replace q637 := eq_true q637
                      have p638 : 0 ≤ (x17_4 : Int) := of_decide_eq_true asz
                      have q638 : x17_4 < (t626.length : Int) := of_decide_eq_true asz
                      obtain ⟨ad638, e638, hx638_0⟩ := Kd.at_int (Kd.R_reads' HO_10.out).2.2 x17_4 p638 q638
                      cases e638
                      replace p638 := eq_true p638
                      replace q638 := eq_true q638
                      have p639 : 0 ≤ (x17_4 : Int) := of_decide_eq_true asz
                      have q639 : x17_4 < (t626.length : Int) := of_decide_eq_true asz
                      obtain ⟨ad639, e639, hx639_0⟩ := Kd.at_int (Kd.R_reads' HO_10.out).2.2 x17_4 p639 q639
                      obtain rfl : ad638 = ad639 := (by injection e639)
                      replace p639 := eq_true p639
                      replace q639 := eq_true q639
                      obtain ⟨Ao59, co59, eo59⟩ := Kd.R_slice HO_5.out
                      subst eo59
                      have p640 : 0 ≤ (x17_4 : Int) := of_decide_eq_true asz
                      have q640 : x17_4 < (t609.length : Int) := of_decide_eq_true asz
                      obtain ⟨ad640, e640, hx640_0⟩ := Kd.at_int (Kd.R_reads' HO_5.out).2.2 x17_4 p640 q640
                      cases e640
                      replace p640 := eq_true p640
                      replace q640 := eq_true q640
                      obtain ⟨Ao60, co60, eo60⟩ := Kd.R_slice HO_7.out
                      subst eo60
                      have p641 : 0 ≤ (x17_4 : Int) := of_decide_eq_true asz
                      have q641 : x17_4 < (t613.length : Int) := of_decide_eq_true asz
                      obtain ⟨ad641, e641, hx641_0⟩ := Kd.at_int (Kd.R_reads' HO_7.out).2.2 x17_4 p641 q641
                      cases e641
                      replace p641 := eq_true p641
                      replace q641 := eq_true q641
                      have p642 : 0 ≤ (x17_4 : Int) := of_decide_eq_true asz
                      have q642 : x17_4 < (t626.length : Int) := of_decide_eq_true asz
                      obtain ⟨ad642, e642, hx642_0⟩ := Kd.at_int (Kd.R_reads' HO_10.out).2.2 x17_4 p642 q642
                      obtain rfl : ad638 = ad642 := (by injection e642)
                      replace p642 := eq_true p642
                      replace q642 := eq_true q642
                      go_wp2
                      repeat (go_quiet (fail); try go_wp2)
                      go_roundg k4
                      case measure => have := HJ2.out; have := HJ20.out; have := HK3.out; have := HK4.out; omega
                      case rel => exact ⟨(wrap64 (x14_4 - (rd t626 x17_4))), (wrap64 (x15_4 + (rd t630 x17_4))), (wrap64 (x17_4 + 1)), rsz, rsz, rsz, H', ⟨by have := HJ2.out; have := HJ20.out; have := HK3.out; have := HK4.out; omega⟩, ⟨by (with_reducible repeat (first | apply Kd.R_alloc | apply Kd.R_drewN | apply Kd.R_drew)); exact HO_5.out⟩, ⟨by (with_reducible repeat (first | apply Kd.R_alloc | apply Kd.R_drewN | apply Kd.R_drew)); exact HO_7.out⟩, ⟨by (with_reducible repeat (first | apply Kd.R_alloc | apply Kd.R_drewN | apply Kd.R_drew)); exact HO_10.out⟩, ⟨by (with_reducible repeat (first | apply Kd.R_alloc | apply Kd.R_drewN | apply Kd.R_drew)); exact HO_12.out⟩, ⟨bel⟩⟩
                     ·
                      rw [if_neg c57] at H
                      exact absurd H (by simp)
                    ·
                     rw [if_neg c56] at H
                     exact absurd H (by simp)
                   ·
                    rw [if_neg c55] at H
                    exact absurd H (by simp)
                  ·
                   rw [if_neg c54] at H
                   exact absurd H (by simp)
                 ·
                  rw [if_neg c53] at H
                  exact absurd H (by simp)
                ·
                 rw [if_neg c52] at H
                 exact absurd H (by simp)
               ·
                rw [if_neg c51] at H
                exact absurd H (by simp)
              ·
               rw [if_neg c50] at H
               have c50b0 : decide (x17_4 < 60) = false := decide_eq_false c50
               clear c50
               by_cases c61 : x14_4 = 0
               ·
                rw [if_pos c61] at H
                have c61b0 : (x14_4 == 0) = true := beq_iff_eq.mpr c61
                have c61b1 : (x14_4 != 0) = false := bne_eq_false_iff_eq.mpr c61
                clear c61
                replace H := Option.bind_eq_some_iff.mp H
                obtain ⟨t643, A620, H⟩ := H
                replace H : (some t643) = some r := H
                have A62 := Aside0.mk A620
                clear A620
                obtain rfl := Option.some.inj H
                go_wp2_with (first | (go_at_call 15; (with_reducible refine (dropperlaw07_First.calls k4  t643 _ A62.out).mono ?_); rintro e w63 ⟨rfl, hb⟩; replace HO_5 := Aside0.mk (Kd.R_below (ownx HO_5) hb); replace HO_7 := Aside0.mk (Kd.R_below (ownx HO_7) hb); replace HO_10 := Aside0.mk (Kd.R_below (ownx HO_10) hb); replace HO_12 := Aside0.mk (Kd.R_below (ownx HO_12) hb); replace HB := Aside0.mk (below_step bel hb); (try clear hb); (try clear hb2); (try clear hk); (try clear hi)))
                repeat (go_quiet (first | (go_at_call 15; (with_reducible refine (dropperlaw07_First.calls k4  t643 _ A62.out).mono ?_); rintro e w63 ⟨rfl, hb⟩; replace HO_5 := Aside0.mk (Kd.R_below (ownx HO_5) hb); replace HO_7 := Aside0.mk (Kd.R_below (ownx HO_7) hb); replace HO_10 := Aside0.mk (Kd.R_below (ownx HO_10) hb); replace HO_12 := Aside0.mk (Kd.R_below (ownx HO_12) hb); replace HB := Aside0.mk (below_step bel hb); (try clear hb); (try clear hb2); (try clear hk); (try clear hi))); try go_wp2_with (first | (go_at_call 15; (with_reducible refine (dropperlaw07_First.calls k4  t643 _ A62.out).mono ?_); rintro e w63 ⟨rfl, hb⟩; replace HO_5 := Aside0.mk (Kd.R_below (ownx HO_5) hb); replace HO_7 := Aside0.mk (Kd.R_below (ownx HO_7) hb); replace HO_10 := Aside0.mk (Kd.R_below (ownx HO_10) hb); replace HO_12 := Aside0.mk (Kd.R_below (ownx HO_12) hb); replace HB := Aside0.mk (below_step bel hb); (try clear hb); (try clear hb2); (try clear hk); (try clear hi))))
                go_ret
                exact ⟨ezz, bel⟩
               ·
                rw [if_neg c61] at H
                exact absurd H (by simp)
     ·
      rw [if_neg c18] at H
      exact absurd H (by simp)
    ·
     rw [if_neg c17] at H
     exact absurd H (by simp)

end Go.Proofs.Ytpdcpekjafcohaa.XWear
-- Written by wip/xprint.py of this repo, over the kit's print.py: out of the translation; the oracles in it are by hand. Not trusted: Lean checks it.
namespace Go.Proofs.Ytpdcpekjafcohaa.XWear
open Go.RowKit Go.Proofs.Ytpdcpekjafcohaa.XWear Go.Proofs.YtpdcpekjafcohaaW.PrintWords Go.Proofs.YtpdcpekjafcohaaW.PrintLast Go.Proofs.YtpdcpekjafcohaaW.PrintMore
def dropperlaw07_WearPasses.Pure : Prop := ∀ (l0 : List (S55)) (l1 : List (S55)), (l0.length ≤ 9223372036854775807 ∧ ∀ y0 ∈ l0, ((Lit.int .i64 y0.f0).wf = true) ∧ ((Lit.int .i64 y0.f1).wf = true) ∧ ((Lit.int .i64 y0.f2).wf = true)) → (l1.length ≤ 9223372036854775807 ∧ ∀ y0 ∈ l1, ((Lit.int .i64 y0.f0).wf = true) ∧ ((Lit.int .i64 y0.f1).wf = true) ∧ ((Lit.int .i64 y0.f2).wf = true)) → ∃ k, dropperlaw07_WearPasses.f k l0 l1 = some true
end Go.Proofs.Ytpdcpekjafcohaa.XWear

namespace Go.Proofs.Ytpdcpekjafcohaa.XWear
open Go.RowKit Go.Proofs.YtpdcpekjafcohaaW.PrintWords Go.Proofs.YtpdcpekjafcohaaW.PrintLast Go.Proofs.YtpdcpekjafcohaaW.PrintMore
attribute [local go_sem] max2_int min2_int max_two min_two max_three min_three max_four min_four   -- for this text's walks alone
set_option linter.unusedVariables false
set_option linter.unusedSimpArgs false
/-! ### wear_Worst: function 48 -/

/-! ### wear_Over: function 50 -/

/-! ### dropperref07_Totals: function 47 -/
mutual
def dropperref07_Totals.l0 : Nat → List (S55) → List Int → Int → Option (List Int × Int)
 | 0, _, _, _ => none
 | k + 1, x0, x4, x5 => if x5 < (x0.length : Int) then (if 0 ≤ x5 then (dropperref07_Totals.l1 k x0 x4 x5 ((rd_T55 x0 x5).f0)) else (none)) else (some (x4, 0))
def dropperref07_Totals.l1 : Nat → List (S55) → List Int → Int → Int → Option (List Int × Int)
 | 0, _, _, _, _ => none
 | k + 1, x0, x4, x5, x6 => if 0 ≤ x5 then (if x5 < (x0.length : Int) then (if x6 ≤ ((rd_T55 x0 x5).f1) then (if 0 ≤ x6 then (if x6 < (x4.length : Int) then (dropperref07_Totals.l1 k x0 (x4.set (x6 : Int).toNat (wrap64 ((rd x4 x6) + ((rd_T55 x0 x5).f2)))) x5 (wrap64 (x6 + 1))) else (none)) else (none)) else (dropperref07_Totals.l0 k x0 x4 (wrap64 (x5 + 1)))) else (none)) else (none)
end
/-! ### dropperref07_Worst: function 49 -/
def dropperref07_Worst.l0 : Nat → List Int → Int → Int → Int → Int → Option (Int × Int × Int)
 | 0, _, _, _, _, _ => none
 | k + 1, x5, x6, x7, x8, x9 => if x9 < (x5.length : Int) then (if 0 ≤ x9 then (if (rd x5 x9) > x8 then (dropperref07_Worst.l0 k x5 x6 x9 (rd x5 x9) (wrap64 (x9 + 1))) else (dropperref07_Worst.l0 k x5 x6 x7 x8 (wrap64 (x9 + 1)))) else (none)) else (some (x7, x8, x6))
/-! ### dropperref07_Over: function 51 -/
mutual
def dropperref07_Over.j0 : Nat → Int → List Int → Int → Bool → Option (List Int × Int)
 | 0, _, _, _, _ => none
 | k + 1, x1, x6, x7, x20 => if x20 = true then (dropperref07_Over.j1 k x1 x6 2) else (dropperref07_Over.j1 k x1 x6 x7)
def dropperref07_Over.j1 : Nat → Int → List Int → Int → Option (List Int × Int)
 | 0, _, _, _ => none
 | k + 1, x1, x6, x7 => if x7 = 0 then (dropperref07_Over.l0 k x1 x6 ([] : List Int) 0) else (some (([] : List Int), x7))
def dropperref07_Over.l0 : Nat → Int → List Int → List Int → Int → Option (List Int × Int)
 | 0, _, _, _, _ => none
 | k + 1, x1, x6, x8, x9 => if x9 < (x6.length : Int) then (if 0 ≤ x9 then (if (rd x6 x9) > x1 then (if x8.length < 17592186044416 then (dropperref07_Over.l0 k x1 x6 (x8 ++ [x9]) (wrap64 (x9 + 1))) else (none)) else (dropperref07_Over.l0 k x1 x6 x8 (wrap64 (x9 + 1)))) else (none)) else (some (x8, 0))
end
/-! ### dropperref07_Valid: function 19 -/
def dropperref07_Valid.l0 : Nat → List Int → Int → Option (Bool)
 | 0, _, _ => none
 | k + 1, x0, x3 => if x3 < (x0.length : Int) then (if 0 ≤ x3 then (if (rd x0 x3) < 0 then (some false) else (if (rd x0 x3) > 10000 then (some false) else (dropperref07_Valid.l0 k x0 (wrap64 (x3 + 1))))) else (none)) else (if (x0.length : Int) ≥ 1 then (some (decide ((x0.length : Int) ≤ 40))) else (some false))
def dropperref07_Valid.f (k : Nat) (l0 : List Int) : Option (Bool) := dropperref07_Valid.l0 k l0 0
/-! ### dropperref07_asked: function 54 -/
/-! ### dropperref07_middle: function 80 -/
mutual
def dropperref07_middle.l0 : Nat → List Int → Int → Option (Int)
 | 0, _, _ => none
 | k + 1, x0, x3 => if x3 < (x0.length : Int) then (dropperref07_middle.l1 k x0 x3 0 0 0) else (some 0)
def dropperref07_middle.l1 : Nat → List Int → Int → Int → Int → Int → Option (Int)
 | 0, _, _, _, _, _ => none
 | k + 1, x0, x3, x4, x5, x6 => if x6 < (x0.length : Int) then (if 0 ≤ x6 then (if 0 ≤ x3 then (if x3 < (x0.length : Int) then (if (rd x0 x6) < (rd x0 x3) then (if (rd x0 x6) = (rd x0 x3) then (dropperref07_middle.l1 k x0 x3 (wrap64 (x4 + 1)) (wrap64 (x5 + 1)) (wrap64 (x6 + 1))) else (dropperref07_middle.l1 k x0 x3 (wrap64 (x4 + 1)) x5 (wrap64 (x6 + 1)))) else (if (rd x0 x6) = (rd x0 x3) then (dropperref07_middle.l1 k x0 x3 x4 (wrap64 (x5 + 1)) (wrap64 (x6 + 1))) else (dropperref07_middle.l1 k x0 x3 x4 x5 (wrap64 (x6 + 1))))) else (none)) else (none)) else (none)) else (if x4 ≤ (wrap64 ((x0.length : Int) / 2)) then (if (wrap64 ((x0.length : Int) / 2)) < (wrap64 (x4 + x5)) then (if 0 ≤ x3 then (if x3 < (x0.length : Int) then (some (rd x0 x3)) else (none)) else (none)) else (dropperref07_middle.l0 k x0 (wrap64 (x3 + 1)))) else (dropperref07_middle.l0 k x0 (wrap64 (x3 + 1))))
end
def dropperref07_middle.f (k : Nat) (l0 : List Int) : Option (Int) := dropperref07_middle.l0 k l0 0
/-! ### dropperref07_median: function 55 -/
mutual
def dropperref07_median.l0 : Nat → List Int → Int → List Int → Int → Option (List Int)
 | 0, _, _, _, _ => none
 | k + 1, x0, x1, x5, x6 => if x6 < (x0.length : Int) then (dropperref07_median.l1 k x0 x1 x5 x6 ([] : List Int) (wrap64 (x6 - x1))) else (some x5)
def dropperref07_median.l1 : Nat → List Int → Int → List Int → Int → List Int → Int → Option (List Int)
 | 0, _, _, _, _, _, _ => none
 | k + 1, x0, x1, x5, x6, x7, x8 => if x8 ≤ (wrap64 (x6 + x1)) then (if 0 ≤ (mn (mx x8 0) (wrap64 ((x0.length : Int) - 1))) then (if (mn (mx x8 0) (wrap64 ((x0.length : Int) - 1))) < (x0.length : Int) then (if x7.length < 17592186044416 then (dropperref07_median.l1 k x0 x1 x5 x6 (x7 ++ [rd x0 (mn (mx x8 0) (wrap64 ((x0.length : Int) - 1)))]) (wrap64 (x8 + 1))) else (none)) else (none)) else (none)) else ((dropperref07_middle.f k x7).bind fun t205 => (if x5.length < 17592186044416 then (dropperref07_median.l0 k x0 x1 (x5 ++ [t205]) (wrap64 (x6 + 1))) else (none)))
end
def dropperref07_median.f (k : Nat) (l0 : List Int) (a1 : Int) : Option (List Int) := dropperref07_median.l0 k l0 a1 ([] : List Int) 0
/-! ### dropperref07_Median: function 17 -/
end Go.Proofs.Ytpdcpekjafcohaa.XWear
namespace Go.Proofs.Ytpdcpekjafcohaa.Plain
set_option linter.unusedVariables false
set_option linter.unusedSimpArgs false
open Go.RowKit Go.Proofs.Ytpdcpekjafcohaa.XWear Go.Proofs.YtpdcpekjafcohaaW.PrintWords Go.Proofs.YtpdcpekjafcohaaW.PrintLast Go.Proofs.YtpdcpekjafcohaaW.PrintMore

/-! ### rounds -/
theorem ev_const {α : Type} {o : Option α} {r : α} (h : o = some r) : Ev (fun _ => o) r := ⟨0, fun _ _ => h⟩
theorem ev_pos {α : Type} {c : Prop} [Decidable c] {a b : Nat → Option α} {r : α} (hc : c) (h : Ev a r) : Ev (fun k => if c then a k else b k) r :=
 Ev.congr (fun k => if_pos hc) h
theorem ev_neg {α : Type} {c : Prop} [Decidable c] {a b : Nat → Option α} {r : α} (hc : ¬ c) (h : Ev b r) : Ev (fun k => if c then a k else b k) r :=
 Ev.congr (fun k => if_neg hc) h
theorem ev_some {α β : Type} {a : α} {f : Nat → α → Option β} {r : β} (h : Ev (fun k => f k a) r) : Ev (fun k => (some a).bind (f k)) r := h
theorem wrap_id {x : Int} (h0 : -9223372036854775808 ≤ x) (h1 : x ≤ 9223372036854775807) : wrap64 x = x := by unfold wrap64; omega
theorem wrap_succ (n : Nat) (h : n ≤ 4000000000000000000) : wrap64 ((n : Int) + 1) = ((n + 1 : Nat) : Int) := by rw [wrap_id] <;> omega
theorem wrap_plus (n m : Nat) (h : n ≤ 4000000000000000000) (h2 : m ≤ 4000000000000000000) : wrap64 ((n : Int) + (m : Int)) = ((n + m : Nat) : Int) := by rw [wrap_id] <;> omega
theorem rd_eq (l : List Int) (i : Nat) (h : i < l.length) : rd l (i : Int) = l[i] := by simp [rd, List.getD_eq_getElem?_getD, h]

/-! ### valid readings -/
def ok (l : List Int) : Bool := decide (1 ≤ l.length) && decide (l.length ≤ 40) && l.all fun x => decide (0 ≤ x) && decide (x ≤ 10000)
theorem ok_iff (l : List Int) : ok l = true ↔ 1 ≤ l.length ∧ l.length ≤ 40 ∧ ∀ x ∈ l, 0 ≤ x ∧ x ≤ 10000 := by
 simp [ok, and_assoc]
theorem valid_f (l : List Int) : wear_Valid.f l = some (ok l) := rfl

/-! ### SameInts -/
theorem same_l (a b : List Int) (hab : a.length = b.length) (hl : a.length ≤ 4000000000000000000) : ∀ (d i : Nat), i + d = a.length → a.take i = b.take i →
  Ev (fun k => dropperlaw07_SameInts.l0 k a b (i : Int)) (decide (a = b)) := by
 intro d
 induction d with
 | zero =>
  intro i hi hb
  refine Ev.step (fun k => by rw [dropperlaw07_SameInts.l0]) ?_
  refine ev_neg (by omega) (ev_const ?_)
  rw [List.take_of_length_le (by omega), List.take_of_length_le (by omega)] at hb
  simp [hb]
 | succ d ih =>
  intro i hi hb
  refine Ev.step (fun k => by rw [dropperlaw07_SameInts.l0]) ?_
  refine ev_pos (by omega) (ev_pos (by omega) (ev_pos (by omega) ?_))
  rw [rd_eq a i (by omega), rd_eq b i (by omega)]
  by_cases h : a[i]'(by omega) = b[i]'(by omega)
  ·
   refine ev_pos h ?_
   have e : wrap64 ((i : Int) + 1) = ((i + 1 : Nat) : Int) := by rw [wrap_id] <;> omega
   rw [e]
   refine ih (i + 1) (by omega) ?_
   rw [List.take_succ_eq_append_getElem (by omega), List.take_succ_eq_append_getElem (by omega), hb, h]
  ·
   refine ev_neg h (ev_const ?_)
   congr 1
   symm
   rw [decide_eq_false_iff_not]
   rintro rfl
   exact h rfl
theorem same (a b : List Int) (hl : a.length ≤ 4000000000000000000) : Ev (fun k => dropperlaw07_SameInts.f k a b) (decide (a = b)) := by
 unfold dropperlaw07_SameInts.f
 by_cases h : a.length = b.length
 ·
  exact ev_pos (by omega) (same_l a b h hl a.length 0 (by omega) (by simp))
 ·
  refine ev_neg (by omega) (ev_const ?_)
  congr 1
  symm
  rw [decide_eq_false_iff_not]
  rintro rfl
  exact h rfl

/-! ### medians: the windows -/
def cl (l : List Int) (z : Int) : Int := rd l (mn (mx z 0) (wrap64 ((l.length : Int) - 1)))
def winFrom (l : List Int) (z : Int) (m : Nat) : List Int := (List.range m).map fun j => cl l (z + (j : Nat))
def win (l : List Int) (w i : Nat) : List Int := winFrom l ((i : Int) - (w : Int)) (2 * w + 1)
theorem winFrom_succ (l : List Int) (z : Int) (m : Nat) : winFrom l z (m + 1) = winFrom l z m ++ [cl l (z + (m : Nat))] := by
 simp [winFrom, List.range_succ]
theorem win_len (l : List Int) (w i : Nat) : (win l w i).length = 2 * w + 1 := by simp [win, winFrom]
theorem cl_in {l : List Int} (z : Int) (h : 1 ≤ l.length) (h2 : l.length ≤ 40) : 0 ≤ mn (mx z 0) (wrap64 ((l.length : Int) - 1)) ∧ mn (mx z 0) (wrap64 ((l.length : Int) - 1)) < (l.length : Int) := by
 rw [wrap_id (by omega) (by omega)]
 unfold mn mx
 constructor <;> (repeat split) <;> omega
def srt (l : List Int) : List Int := l.mergeSort fun x y => decide (x ≤ y)
theorem sort_f (l : List Int) (h : l ≠ []) (h2 : l.length ≤ 1000) : slices_Sort_int_int.f l = some (srt l) := by
 unfold slices_Sort_int_int.f
 rw [if_neg]; · rfl
 intro h3
 rcases h3 with h3 | h3
 ·
  exact h h3
 ·
  omega
def med (l : List Int) (w : Nat) : List Int := (List.range l.length).map fun i => rd (srt (win l w i)) (w : Int)
def medTo (l : List Int) (w i : Nat) : List Int := (List.range i).map fun i => rd (srt (win l w i)) (w : Int)
theorem medTo_succ (l : List Int) (w i : Nat) : medTo l w (i + 1) = medTo l w i ++ [rd (srt (win l w i)) (w : Int)] := by simp [medTo, List.range_succ]

theorem median_l1 {r : List Int} (l : List Int) (w i : Nat) (acc : List Int) (x10 x11 : Int) (h1 : 1 ≤ l.length) (h2 : l.length ≤ 40) (hi : i < l.length) (hw : w ≤ 10) (ha : acc.length ≤ 40)
  (hr : Ev (fun k => wear_median.l0 k l (w : Int) (acc ++ [rd (srt (win l w i)) (w : Int)]) x10 (wrap64 (x11 + 1))) r) :
  ∀ (d j : Nat), j + d = 2 * w + 1 → Ev (fun k => wear_median.l1 k l (w : Int) acc (i : Int) (winFrom l ((i : Int) - (w : Int)) j) ((i : Int) - (w : Int) + (j : Nat)) x10 x11) r := by
 intro d
 induction d with
 | zero =>
  intro j hj
  obtain rfl : j = 2 * w + 1 := by omega
  refine Ev.step (fun k => by rw [wear_median.l1]) ?_
  have hs : wrap64 ((i : Int) + (w : Int)) = (i : Int) + (w : Int) := wrap_id (by omega) (by omega)
  refine ev_neg (by rw [hs]; omega) ?_
  have hne : winFrom l ((i : Int) - (w : Int)) (2 * w + 1) ≠ [] := by simp [winFrom]
  have hlen : (winFrom l ((i : Int) - (w : Int)) (2 * w + 1)).length = 2 * w + 1 := win_len l w i
  rw [sort_f _ hne (by omega)]
  refine ev_some (ev_pos (by omega) (ev_pos (by omega) (ev_pos (by omega) ?_)))
  exact hr
 | succ d ih =>
  intro j hj
  refine Ev.step (fun k => by rw [wear_median.l1]) ?_
  have hs : wrap64 ((i : Int) + (w : Int)) = (i : Int) + (w : Int) := wrap_id (by omega) (by omega)
  have hc := cl_in (l := l) ((i : Int) - (w : Int) + (j : Nat)) h1 h2
  have hlen : (winFrom l ((i : Int) - (w : Int)) j).length = j := by simp [winFrom]
  refine ev_pos (by rw [hs]; omega) (ev_pos hc.1 (ev_pos hc.2 (ev_pos (by omega) ?_)))
  have e : wrap64 ((i : Int) - (w : Int) + (j : Nat) + 1) = (i : Int) - (w : Int) + ((j + 1 : Nat) : Int) := by rw [wrap_id] <;> omega
  rw [e]
  have := ih (j + 1) (by omega)
  rw [winFrom_succ] at this
  exact this
theorem median_l0 (l : List Int) (w : Nat) (h1 : 1 ≤ l.length) (h2 : l.length ≤ 40) (hw : w ≤ 10) : ∀ (d i : Nat), i + d = l.length →
  Ev (fun k => wear_median.l0 k l (w : Int) (medTo l w i) (l.length : Int) (i : Int)) (med l w) := by
 intro d
 induction d with
 | zero =>
  intro i hi
  obtain rfl : i = l.length := by omega
  refine Ev.step (fun k => by rw [wear_median.l0]) ?_
  exact ev_neg (by omega) (ev_const rfl)
 | succ d ih =>
  intro i hi
  refine Ev.step (fun k => by rw [wear_median.l0]) ?_
  refine ev_pos (by omega) ?_
  have e0 : wrap64 ((i : Int) - (w : Int)) = (i : Int) - (w : Int) + ((0 : Nat) : Int) := by rw [wrap_id] <;> omega
  rw [e0]
  have e1 : wrap64 ((i : Int) + 1) = ((i + 1 : Nat) : Int) := by rw [wrap_id] <;> omega
  refine median_l1 l w i (medTo l w i) _ _ h1 h2 (by omega) hw (by simp [medTo]; omega) ?_ (2 * w + 1) 0 (by omega)
  rw [← medTo_succ, e1]
  exact ih (i + 1) (by omega)
theorem median_ev (l : List Int) (w : Nat) (h1 : 1 ≤ l.length) (h2 : l.length ≤ 40) (hw : w ≤ 10) : Ev (fun k => wear_median.f k l (w : Int)) (med l w) :=
 median_l0 l w h1 h2 hw l.length 0 (by omega)

theorem within_f (a b c : Int) : wear_within.f a b c = some (decide (a ≤ b ∧ b ≤ c)) := by
 unfold wear_within.f
 by_cases h : a ≤ b
 ·
  rw [if_pos h]; simp [h]
 ·
  rw [if_neg h]; simp [h]
theorem Median_ev (l : List Int) (w : Int) : Ev (fun k => wear_Median.f k l w) (if ok l = true then (if 0 ≤ w ∧ w ≤ 10 then (med l w.toNat, 0) else ([], 2)) else ([], 70)) := by
 unfold wear_Median.f
 rw [valid_f]
 refine ev_some ?_
 by_cases h : ok l = true
 ·
  have h' := (ok_iff l).1 h
  rw [if_pos h]
  refine ev_pos h ?_
  rw [within_f]
  refine ev_some ?_
  by_cases hw : 0 ≤ w ∧ w ≤ 10
  ·
   rw [if_pos hw]
   refine ev_pos (by simpa using hw) ?_
   obtain ⟨n, rfl⟩ := Int.eq_ofNat_of_zero_le hw.1
   exact Ev.bind (median_ev l n h'.1 h'.2.1 (by omega)) (Ev.now _)
  ·
   rw [if_neg hw]
   exact ev_neg (by simpa using hw) (Ev.now _)
 ·
  rw [if_neg h]
  exact ev_neg h (Ev.now _)

/-! ### the document's middle -/
def cntLt (l : List Int) (x : Int) : Nat := l.countP fun y => decide (y < x)
def cntEq (l : List Int) (x : Int) : Nat := l.countP fun y => decide (y = x)
def isMid (l : List Int) (x : Int) : Bool := decide (cntLt l x ≤ l.length / 2) && decide (l.length / 2 < cntLt l x + cntEq l x)
def mid (l : List Int) : Int := (l.find? (isMid l)).getD 0
/-! ### the document's medians -/
def medR (l : List Int) (w : Nat) : List Int := (List.range l.length).map fun i => mid (win l w i)
/-! ### the middle of a sorted row -/
theorem srt_perm (l : List Int) : (srt l).Perm l := List.mergeSort_perm _ _
theorem srt_len (l : List Int) : (srt l).length = l.length := (srt_perm l).length_eq
theorem srt_sorted (l : List Int) : (srt l).Pairwise (· ≤ ·) := by
 have h := List.pairwise_mergeSort (le := fun x y : Int => decide (x ≤ y)) (fun a b c h1 h2 => by simp at *; omega) (fun a b => by simp; omega) l
 exact h.imp (fun h => by simpa using h)
theorem sorted_count (x : Int) : ∀ (s : List Int), s.Pairwise (· ≤ ·) → ∀ j (h : j < s.length), (s[j] < x ↔ j < s.countP fun y => decide (y < x)) ∧ (s[j] ≤ x ↔ j < s.countP fun y => decide (y ≤ x)) := by
 intro s
 induction s with
 | nil => intro _ j h; simp at h
 | cons a s ih =>
  intro hs j h
  rw [List.pairwise_cons] at hs
  have key1 : ¬ a < x → s.countP (fun y => decide (y < x)) = 0 := by
   intro hax
   rw [List.countP_eq_zero]
   intro y hy
   have := hs.1 y hy
   simp; omega
  have key2 : ¬ a ≤ x → s.countP (fun y => decide (y ≤ x)) = 0 := by
   intro hax
   rw [List.countP_eq_zero]
   intro y hy
   have := hs.1 y hy
   simp; omega
  cases j with
  | zero =>
   simp only [List.getElem_cons_zero, List.countP_cons, decide_eq_true_eq]
   constructor
   ·
    by_cases c : a < x
    ·
     simp [c]
    ·
     simp [c, key1 c]
   ·
    by_cases c : a ≤ x
    ·
     simp [c]
    ·
     simp [c, key2 c]
  | succ j =>
   have hj : j < s.length := by simpa using h
   obtain ⟨i1, i2⟩ := ih hs.2 j hj
   have hm := hs.1 s[j] (List.getElem_mem hj)
   simp only [List.getElem_cons_succ, List.countP_cons, decide_eq_true_eq]
   constructor
   ·
    by_cases c : a < x
    ·
     simp [c, i1]
    ·
     simp only [c, if_false, Nat.add_zero, key1 c]
     constructor
     ·
      intro h2; omega
     ·
      intro h2; omega
   ·
    by_cases c : a ≤ x
    ·
     simp [c, i2]
    ·
     simp only [c, if_false, Nat.add_zero, key2 c]
     constructor
     ·
      intro h2; omega
     ·
      intro h2; omega
theorem count_le_split (l : List Int) (x : Int) : (l.countP fun y => decide (y ≤ x)) = cntLt l x + cntEq l x := by
 unfold cntLt cntEq
 induction l with
 | nil => rfl
 | cons a l ih =>
  simp only [List.countP_cons, decide_eq_true_eq, ih]
  rcases Int.lt_trichotomy a x with h | h | h
  ·
   have h1 : a ≤ x := by omega
   have h2 : ¬ a = x := by omega
   simp only [h, h1, h2, if_true, if_false]; omega
  ·
   subst h; simp only [Int.le_refl, Int.lt_irrefl, if_true, if_false]; omega
  ·
   have h1 : ¬ a ≤ x := by omega
   have h2 : ¬ a = x := by omega
   have h3 : ¬ a < x := by omega
   simp only [h1, h2, h3, if_false]; omega
theorem isMid_iff (l : List Int) (x : Int) (hl : 0 < l.length) : isMid l x = true ↔ (srt l)[l.length / 2]'(by rw [srt_len]; omega) = x := by
 have hj : l.length / 2 < (srt l).length := by rw [srt_len]; omega
 obtain ⟨h1, h2⟩ := sorted_count x (srt l) (srt_sorted l) (l.length / 2) hj
 have e1 : (srt l).countP (fun y => decide (y < x)) = cntLt l x := (srt_perm l).countP_eq _
 have e2 : (srt l).countP (fun y => decide (y ≤ x)) = cntLt l x + cntEq l x := ((srt_perm l).countP_eq _).trans (count_le_split l x)
 rw [e1] at h1
 rw [e2] at h2
 simp only [isMid, Bool.and_eq_true, decide_eq_true_eq]
 constructor
 ·
  rintro ⟨a, b⟩
  have c1 := h2.2 b
  have c2 : ¬ (srt l)[l.length / 2] < x := fun h => by have := h1.1 h; omega
  omega
 ·
  intro h
  have c1 := h2.1 (by omega)
  have c2 : ¬ l.length / 2 < cntLt l x := fun hh => by have := h1.2 hh; omega
  exact ⟨by omega, c1⟩
theorem mid_eq (l : List Int) (hl : 0 < l.length) : mid l = rd (srt l) ((l.length / 2 : Nat) : Int) := by
 have hj : l.length / 2 < (srt l).length := by rw [srt_len]; omega
 rw [rd_eq _ _ hj]
 have hm : (srt l)[l.length / 2] ∈ l := (srt_perm l).mem_iff.1 (List.getElem_mem hj)
 unfold mid
 cases hf : l.find? (isMid l) with
 | none =>
  rw [List.find?_eq_none] at hf
  exact absurd ((isMid_iff l _ hl).2 rfl) (hf _ hm)
 | some x =>
  have := List.find?_some hf
  rw [isMid_iff l x hl] at this
  simp [this]
theorem med_eq (l : List Int) (w : Nat) : medR l w = med l w := by
 unfold medR med
 apply List.map_congr_left
 intro i _
 rw [mid_eq _ (by rw [win_len]; omega), win_len]
 congr 2
 omega

/-! ### the examples -/
theorem first_near : wear_Nearest.f 60 [1, 3, 2, 4] = some ([⟨1, 1⟩, ⟨5, 2⟩, ⟨5, 2⟩, ⟨4, 1⟩], 0) := by kernel_rfl
theorem first_med : med [1, 9, 2, 3] 1 = [1, 2, 3, 3] := by rw [← med_eq]; decide +kernel
theorem first_same : dropperlaw07_SameRatios.f 60 [⟨1, 1⟩, ⟨5, 2⟩, ⟨5, 2⟩, ⟨4, 1⟩] [⟨1, 1⟩, ⟨5, 2⟩, ⟨5, 2⟩, ⟨4, 1⟩] = some true := by kernel_rfl
theorem first_ev : Ev (fun k => dropperlaw07_First.f k) true := by
 unfold dropperlaw07_First.f
 refine Ev.bind (Ev.of (wear_Nearest.mono _) first_near) ?_
 have h1 := Median_ev [1, 9, 2, 3] 1
 rw [if_pos (by decide), if_pos (by decide)] at h1
 have h2 : med [1, 9, 2, 3] (1 : Int).toNat = [1, 2, 3, 3] := first_med
 rw [h2] at h1
 refine Ev.bind h1 ?_
 refine ev_pos rfl (ev_pos rfl ?_)
 refine Ev.bind (Ev.of (dropperlaw07_SameRatios.mono _ _) first_same) (ev_pos rfl ?_)
 exact Ev.bind (same [1, 2, 3, 3] [1, 2, 3, 3] (by decide)) (Ev.now _)
end Go.Proofs.Ytpdcpekjafcohaa.Plain
