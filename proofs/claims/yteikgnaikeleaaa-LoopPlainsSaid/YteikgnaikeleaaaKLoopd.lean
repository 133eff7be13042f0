-- Written by wip/pack.py of this repo: texts of this claim, put together.
import Derived.DataReads
import Derived.OpenShut
import Derived.ChangeArms
import Derived.Test.YteikgnaikeleaaaKLoopc
namespace Go.Proofs.Yteikgnaikeleaaa
open Go.RowKit Go.Proofs.YteikgnaikeleaaaW.PrintWords Go.Proofs.YteikgnaikeleaaaW.PrintLast Go.Proofs.YteikgnaikeleaaaW.PrintMore
set_option linter.unusedVariables false

def contR (P : RF) (k : Nat) (v : Nat → Bool) (l2 : List UInt8) : Option ((Nat → Bool) × List UInt8) :=
 match l2 with
 | [] => some (v, [])
 | c :: l3 => if c = 43 then rCirc P k v l3 else some (v, c :: l3)
def FinC (s : List UInt8) (v : Nat → Bool) (at2 : Nat) (bad2 : Bool) : Option ((Nat → Bool) × List UInt8) → Prop
 | some (f, t) => bad2 = false ∧ at2 ≤ s.length ∧ s.drop at2 = t ∧ v = f
 | none => bad2 = true
def StC (n : Nat) (s : List UInt8) (X : Option ((Nat → Bool) × List UInt8)) (v : Nat → Bool) (at2 : Nat) : Bool → Prop
 | true => X = none
 | false => ∃ f, contR (rPart n) f v (s.drop at2) = X ∧ (s.drop at2).length ≤ f ∧ (s.drop at2).length < n ∧ at2 ≤ s.length
theorem rCirc_step (P : RF) (k : Nat) (v : Nat → Bool) (l : List UInt8) : rCirc P (k + 1) v l = match rBranch P l with | none => none | some (b, l2) => contR P k (fun n => v n || b n) l2 := by
 rw [rCirc]
 cases rBranch P l with
 | none => rfl
 | some y =>
  obtain ⟨b, l2⟩ := y
  cases l2 <;> rfl
theorem rBranch_len (n : Nat) {l : List UInt8} (hN : l.length ≤ n) {v : Nat → Bool} {t : List UInt8} (h : rBranch (rPart n) l = some (v, t)) : t.length < l.length := by
 have hp : ∀ k v0 l0 v1 t1, l0.length ≤ n → rParts (rPart n) k v0 l0 = some (v1, t1) → t1.length ≤ l0.length := by
  intro k
  induction k with
  | zero => intro v0 l0 v1 t1 _ h; simp [rParts] at h
  | succ k ih =>
   intro v0 l0 v1 t1 hl h
   cases l0 with
   | nil => simp [rParts] at h; obtain ⟨_, rfl⟩ := h; simp
   | cons c l0 =>
    rw [rParts] at h
    cases ho : opens c with
    | false =>
     rw [ho] at h
     simp at h
     obtain ⟨_, rfl⟩ := h
     simp
    | true =>
     rw [ho] at h
     simp only [if_true] at h
     cases hq : rPart n (c :: l0) with
     | none => rw [hq] at h; simp at h
     | some y =>
      obtain ⟨f, t'⟩ := y
      rw [hq] at h
      simp only at h
      have h1 := rPart_less n c l0 ho hl hq
      have h2 := ih _ _ _ _ (by omega) h
      omega
 cases l with
 | nil => simp [rBranch] at h
 | cons c l =>
  rw [rBranch] at h
  cases ho : opens c with
  | false => rw [ho] at h; simp at h
  | true =>
   rw [ho] at h
   simp only [if_true] at h
   rw [rParts, ho] at h
   simp only [if_true] at h
   cases hq : rPart n (c :: l) with
   | none => rw [hq] at h; simp at h
   | some y =>
    obtain ⟨f, t'⟩ := y
    rw [hq] at h
    simp only at h
    have h1 := rPart_less n c l ho hN hq
    have h2 := hp _ _ _ _ _ (by omega) h
    omega
set_option maxHeartbeats 8000000 in
set_option maxRecDepth 1000000 in
theorem circ_of_branch (n : Nat) (hn0 : n ≤ 100000) (HBR : BranchR n) : CircR n := by
 intro s at_ w b0 hb hs hat hn
 have hbl := blk_lt hb
 obtain ⟨r, hr⟩ : ∃ r, r = w.heap.size := ⟨_, rfl⟩
 have HS := Aside0.mk hs
 have HAT := Aside0.mk hat
 have HN := Aside0.mk hn
 have HN0 := Aside0.mk hn0
 have HSZ : Aside0 (b0 < w.heap.size ∧ r = w.heap.size) := ⟨⟨hbl, hr⟩⟩
 have HNN : Aside0 (∀ at2 bad2 W, W.heap[b0]? = some (rdr2 s at2 bad2) → Calls Try.prog 110 #[.pointer (some ⟨b0, 0, none⟩)] W fun e w' => e = .returned (.int .u8 (nextB (s.drop at2))) ∧ ∃ m, w' = W.drewN m) := ⟨fun at2 bad2 W hW => rnext_calls s at2 bad2 b0 W hW⟩
 have HBB : Aside0 (∀ at2 bad2 W, W.heap[b0]? = some (rdr2 s at2 bad2) → at2 ≤ s.length + n → (bad2 = false → (s.drop at2).length < n) → Calls Try.prog 109 #[.pointer (some ⟨b0, 0, none⟩)] W (RPost n W b0 s at2 (if bad2 then none else rBranch (rPart n) (s.drop at2)))) := ⟨fun at2 bad2 W hW h1 h2 => HBR s at2 bad2 W b0 hW hs h1 h2⟩
 obtain ⟨X, hX⟩ : ∃ X, X = rCirc (rPart n) ((s.drop at_).length + 1) (fun _ => false) (s.drop at_) := ⟨_, rfl⟩
 rw [← hX]
 have HX0 := Aside0.mk hX
 have HA := Aside0.mk (blk_alloc (o' := .cells (tbl fun _ => false) 50) hb)
 have HG := Aside0.mk (blk_new w (.cells (tbl fun _ => false) 50))
 have HFST := Aside0.mk (HBB.out at_ false _ HA.out hat (fun _ => hn))
 have hz := zero50
 clear hb hbl hn hs hat hX hn0 HBR
 go_enter Try.func88, Try.ntmps88
 go_wp2_with (first | (go_at_call 109; refine HFST.out.mono ?_; rintro e W1 ⟨v0, at1, bad1, rfl, hr1, hk1, ha1, hres⟩; have HR1 := Aside0.mk hr1; have HK1 := Aside0.mk hk1; have HA1 := Aside0.mk ha1; have HRS1 := Aside0.mk hres; clear hr1 hk1 ha1 hres) | (refine wpList_store_row rfl 50 (.tmp 3) (.tmp 7) rfl W1.heap.size (tbl v0) rfl rfl 50 (tbl fun _ => false) (blk_new _ _) (tbl_info v0) (by rw [tbl_size, tbl_size]) (tbl_one v0) ?_))
 obtain ⟨o, ho⟩ : ∃ o, o = W1.heap.size := ⟨_, rfl⟩
 obtain ⟨W3, hW3⟩ : ∃ W3, W3 = (W1.alloc (.cells (tbl fun _ => false) 50)).setRow W1.heap.size (tbl v0) := ⟨_, rfl⟩
 rw [← hW3, ← ho, ← HSZ.out.2]
 have sW : (w.alloc (.cells (tbl fun _ => false) 50)).heap.size = w.heap.size + 1 := Array.size_push ..
 have hle := HK1.out.size
 rw [sW] at hle
 have NOR : Aside0 (r < o ∧ b0 < o ∧ w.heap.size ≤ o ∧ o ≠ r ∧ r ≠ o ∧ b0 ≠ o ∧ r ≠ b0 ∧ b0 ≠ r ∧ o ≠ b0) := ⟨by have := HSZ.out; omega⟩
 have GO : Aside0 (W3.heap[o]? = some (.cells (tbl v0) 50 (0, 0))) := ⟨by rw [hW3, ho]; exact setRow_heap _ _ (tbl fun _ => false) _ _ _ (blk_new _ _)⟩
 have old : ∀ (g : Nat) (ob : Obj), g < o → W1.heap[g]? = some ob → W3.heap[g]? = some ob := fun g ob hg h => by
  rw [hW3, setRow_other _ _ _ _ (by omega)]
  exact blk_alloc h _
 have GR : Aside0 (W3.heap[r]? = some (.cells (tbl fun _ => false) 50 (0, 0))) := ⟨old r _ NOR.out.1 (by
  rw [HSZ.out.2, HK1.out.block w.heap.size (by rw [sW]; omega) (by have := HSZ.out; omega)]
  exact HG.out)⟩
 have R3 : Aside0 (W3.heap[b0]? = some (rdr2 s at1 bad1)) := ⟨old b0 _ NOR.out.2.1 HR1.out⟩
 have K3 : Aside0 (Kb b0 w W3) := ⟨by
  rw [hW3]
  exact ((((Kb.refl b0 w).alloc _).trans HK1.out).alloc _).setRow (by have := NOR.out; omega) _⟩
 have HM0 : Aside0 (StC n s X v0 at1 bad1) := ⟨by
  have hx := HX0.out
  rw [rCirc_step] at hx
  have h := HRS1.out
  simp only [Bool.false_eq_true, if_false] at h
  cases hq : rBranch (rPart n) (s.drop at_) with
  | none =>
   rw [hq] at h hx
   simp only at h hx
   subst h
   exact hx
  | some y =>
   obtain ⟨f, l⟩ := y
   rw [hq] at h hx
   simp only at h hx
   obtain ⟨rfl, h1, h2, rfl⟩ := h
   have hlen := rBranch_len n (Nat.le_of_lt HN.out) hq
   have hn1 := HN.out
   refine ⟨(s.drop at_).length, ?_, by rw [h2]; omega, by rw [h2]; omega, h1⟩
   rw [h2, hx]
   congr 1⟩
 have HA3 : Aside0 (at_ ≤ at1 ∧ at1 ≤ s.length + n) := HA1
 clear hW3 ho sW hle old HR1 HK1 HRS1 HFST HA HG HA1 hr
 simp only [Act.put]
 go_loopg [5] (s.length + n + 1) (fun kq v5 W => ∃ (at2 : Nat) (bad2 : Bool) (v : Nat → Bool), Aside0 (kq + at2 ≤ s.length + n + 1 + at2) ∧ Aside0 (s.length + n + 1 ≤ kq + at2) ∧ Aside0 (at_ ≤ at2 ∧ at2 ≤ s.length + n) ∧ Aside0 (W.heap[r]? = some (.cells (tbl fun _ => false) 50 (0, 0))) ∧ Aside0 (W.heap[o]? = some (.cells (tbl v) 50 (0, 0))) ∧ Aside0 (W.heap[b0]? = some (rdr2 s at2 bad2)) ∧ Aside0 (Kb b0 w W) ∧
  Aside0 (StC n s X v at2 bad2))
 case atStart => exact ⟨at1, bad1, v0, ⟨by omega⟩, ⟨by omega⟩, HA3, GR, GO, R3, K3, HM0⟩
 case round =>
  clear GR GO R3 K3 HM0 HA3
  obtain ⟨at2, bad2, v, HKA, HKB, HA2, G1, G2, R2, K2, HM⟩ := hrel
  have HNX := Aside0.mk (HNN.out at2 bad2 wr R2.out)
  by_cases h43 : ∃ l3, s.drop at2 = 43 :: l3
  ·
   obtain ⟨l3, h43⟩ := h43
   have hl2 : at2 < s.length := by
    rcases Nat.lt_or_ge at2 s.length with h | h
    ·
     exact h
    ·
     rw [List.drop_eq_nil_of_le h] at h43; cases h43
   have ht2 : s.drop (at2 + 1) = l3 := by
    rw [List.drop_eq_getElem_cons hl2] at h43
    exact (List.cons.inj h43).2
   have hnb : nextB (s.drop at2) = 43 := by rw [h43]; rfl
   rw [hnb] at HNX
   have hwat : wrap64 ((at2 : Int) + 1) = ((at2 + 1 : Nat) : Int) := by have := HS.out; unfold wrap64; omega
   have hR4 : ∀ m, ((wr.drewN m).setCell ⟨b0, 1, none⟩ (.int .i64 ((at2 : Int) + 1))).heap[b0]? = some (rdr2 s (at2 + 1) bad2) := fun m => rdr2_next (w := wr.drewN m) R2.out _ (by simp)
   have hlb : bad2 = false → (s.drop (at2 + 1)).length < n := fun h => by
    have hm := HM.out
    rw [h] at hm
    obtain ⟨f, _, _, h3, _⟩ := hm
    rw [h43] at h3
    rw [ht2]
    simp only [List.length_cons] at h3
    omega
   have HC2 := Aside0.mk (fun m => HBB.out (at2 + 1) bad2 _ (hR4 m) (by omega) hlb)
   have HREL : Aside0 (∀ (p1 : Nat → Bool) (at3 : Nat) (bad3 : Bool), (match (if bad2 then none else rBranch (rPart n) (s.drop (at2 + 1))) with | some (f, t) => bad3 = false ∧ at3 ≤ s.length ∧ s.drop at3 = t ∧ p1 = f | none => bad3 = true) →
     (StC n s X (fun i => v i || p1 i) at3 bad3)) := ⟨by
    intro p1 at3 bad3 hres
    have hm := HM.out
    cases bad2 with
    | true =>
     simp only [if_true] at hres
     subst hres
     exact hm
    | false =>
     simp only [Bool.false_eq_true, if_false] at hres
     obtain ⟨f, hx, hf, hln, _⟩ := hm
     rw [h43] at hx hf hln
     simp only [List.length_cons] at hf hln
     cases f with
     | zero => exact absurd hf (by omega)
     | succ f =>
     have hx' : rCirc (rPart n) (f + 1) v l3 = X := hx
     rw [rCirc_step, ← ht2] at hx'
     cases hq : rBranch (rPart n) (s.drop (at2 + 1)) with
     | none =>
      rw [hq] at hres hx'
      simp only at hres hx'
      subst hres
      exact hx'.symm
     | some y =>
      obtain ⟨g, l⟩ := y
      rw [hq] at hres hx'
      simp only at hres hx'
      obtain ⟨rfl, h1, h2, rfl⟩ := hres
      have hlen := rBranch_len n (by rw [ht2]; omega) hq
      rw [ht2] at hlen
      exact ⟨f, by rw [h2]; exact hx', by rw [h2]; omega, by rw [h2]; omega, h1⟩⟩
   have HL2 := Aside0.mk hl2
   have HH : Aside0 (∀ m, ((wr.drewN m).setCell ⟨b0, 1, none⟩ (.int .i64 ((at2 : Int) + 1))).heap[r]? = some (.cells (tbl fun _ => false) 50 (0, 0)) ∧ ((wr.drewN m).setCell ⟨b0, 1, none⟩ (.int .i64 ((at2 : Int) + 1))).heap[o]? = some (.cells (tbl v) 50 (0, 0)) ∧ Kb b0 w ((wr.drewN m).setCell ⟨b0, 1, none⟩ (.int .i64 ((at2 : Int) + 1)))) := ⟨fun m => ⟨blk_far (p := ⟨b0, 1, none⟩) (tbl_drewN G1.out m) NOR.out.2.2.2.2.2.2.1 _, blk_far (p := ⟨b0, 1, none⟩) (tbl_drewN G2.out m) NOR.out.2.2.2.2.2.2.2.2 _, (K2.out.drewN m).set 1 _⟩⟩
   obtain ⟨⟨c0, c1, c2⟩, f1, f2⟩ := rdr2_cells R2.out
   clear hl2 ht2 hnb hR4 hlb HM h43
   go_wp2_with (first | (go_at_call 110; refine HNX.out.mono ?_; rintro e' W' ⟨rfl, m, rfl⟩) | (go_at_call 109; refine (HC2.out m).mono ?_; rintro e W2 ⟨p1, at3, bad3, rfl, hr3, hk3, ha3, hres⟩; have HR3 := Aside0.mk hr3; have HK3 := Aside0.mk hk3; have HA3 := Aside0.mk ha3; have HRS := Aside0.mk hres; clear hr3 hk3 ha3 hres) | (refine wpList_store_row rfl 50 (.tmp 4) (.tmp 19) rfl W2.heap.size (tbl p1) rfl rfl 50 (tbl fun _ => false) (blk_new _ _) (tbl_info p1) (by rw [tbl_size, tbl_size]) (tbl_one p1) ?_))
   obtain ⟨q, hq⟩ : ∃ q, q = W2.heap.size := ⟨_, rfl⟩
   obtain ⟨W3, hW3⟩ : ∃ W3, W3 = (W2.alloc (.cells (tbl fun _ => false) 50)).setRow W2.heap.size (tbl p1) := ⟨_, rfl⟩
   rw [← hW3]
   obtain ⟨hg1, hg2, hkw⟩ := HH.out m
   have NQ : Aside0 (r < q ∧ o < q ∧ b0 < q ∧ w.heap.size ≤ q ∧ o ≠ q ∧ q ≠ o) := ⟨by
    have h1 := hkw.size
    have h2 := HK3.out.size
    have h3 := blk_lt hg2
    have h4 := NOR.out
    omega⟩
   have GQ : Aside0 (W3.heap[q]? = some (.cells (tbl p1) 50 (0, 0))) := ⟨by rw [hW3, hq]; exact setRow_heap _ _ (tbl fun _ => false) _ _ _ (blk_new _ _)⟩
   have old : ∀ (g : Nat) (ob : Obj), g < q → W2.heap[g]? = some ob → W3.heap[g]? = some ob := fun g ob hg h => by
    rw [hW3, setRow_other _ _ _ _ (by omega)]
    exact blk_alloc h _
   have G13 : Aside0 (W3.heap[r]? = some (.cells (tbl fun _ => false) 50 (0, 0))) := ⟨old r _ NQ.out.1 (by rw [HK3.out.block r (blk_lt hg1) (by have := NOR.out; omega)]; exact hg1)⟩
   have G23 : Aside0 (W3.heap[o]? = some (.cells (tbl v) 50 (0, 0))) := ⟨old o _ NQ.out.2.1 (by rw [HK3.out.block o (blk_lt hg2) (by have := NOR.out; omega)]; exact hg2)⟩
   have R3 : Aside0 (W3.heap[b0]? = some (rdr2 s at3 bad3)) := ⟨old b0 _ NQ.out.2.2.1 HR3.out⟩
   have K3 : Aside0 (Kb b0 w W3) := ⟨by
    rw [hW3]
    exact ((hkw.trans HK3.out).alloc _).setRow (by have := NQ.out; omega) _⟩
   rw [← hq]
   clear hW3 hq old G1 G2 R2 K2 HR3 HK3 HC2 HH hg1 hg2 hkw c0 c1 c2 f1 f2 HNX
   go_loopg [5] 257 (fun kq v5 W => ∃ x : Nat, v5 = .int .i64 x ∧ Aside0 (x + kq = 257) ∧ Aside0 (x ≤ 256) ∧ Aside0 (W.heap[r]? = some (.cells (tbl fun _ => false) 50 (0, 0))) ∧ Aside0 (W.heap[o]? = some (.cells (tbl (fun i => if i < x then v i || p1 i else v i)) 50 (0, 0))) ∧ Aside0 (W.heap[q]? = some (.cells (tbl p1) 50 (0, 0))) ∧ Aside0 (W.heap[b0]? = some (rdr2 s at3 bad3)) ∧ Aside0 (Kb b0 w W))
   case atStart => exact ⟨0, rfl, ⟨rfl⟩, ⟨by decide⟩, G13, ⟨by rw [tbl_ext (g := v) (fun i _ => by simp)]; exact G23.out⟩, GQ, R3, K3⟩
   case round =>
    clear G13 G23 GQ R3 K3
    obtain ⟨x, rfl, HK, HX, G1, G2, GQ, R2, K2⟩ := hrel
    by_cases hx : x < 256
    ·
     have h1 : decide ((x : Int) < 256) = true := decide_eq_true (by omega)
     have hnx := next_nat x hx
     have HX1 := Aside0.mk hx
     have h0 : (0 : Int) ≤ (x : Int) ∧ (x : Int) < 256 := by omega
     have c8 := blkc G2.out x _ (tbl_get _ x hx)
     rw [if_neg (Nat.lt_irrefl x)] at c8
     have f8 := blk_frozen G2.out x
     have c9 := tbl_cell GQ.out x hx
     have HNEW : Aside0 (∀ u, u = (v x || p1 x) → tbl (fun n => if n = x then u else (if n < x then v n || p1 n else v n)) = tbl (fun i => if i < x + 1 then v i || p1 i else v i)) := ⟨by
      intro u hu
      apply tbl_ext
      intro i hi
      by_cases e : i = x
      ·
       subst e
       rw [if_pos rfl, if_pos (Nat.lt_succ_self _), hu]
      ·
       rw [if_neg e]
       have : (i < x) = (i < x + 1) := propext ⟨fun h => by omega, fun h => by omega⟩
       simp only [this]⟩
     clear hx
     cases hv : v x with
     | true =>
      rw [hv] at c8 HNEW
      go_wp2
      go_roundg (256 - x)
      case measure => have := HK.out; have := HX1.out; omega
      case rel =>
       refine ⟨x + 1, by first | rfl | rw [hnx], ⟨by have := HX1.out; omega⟩, ⟨HX1.out⟩, ⟨blk_far (p := ⟨o, x, none⟩) G1.out NOR.out.2.2.2.2.1 _⟩, ⟨?_⟩, ⟨blk_far (p := ⟨o, x, none⟩) GQ.out NQ.out.2.2.2.2.2 _⟩, ⟨blk_far (p := ⟨o, x, none⟩) R2.out NOR.out.2.2.2.2.2.1 _⟩, ⟨K2.out.setFar NOR.out.2.2.1 _ _⟩⟩
       refine blk_put G2.out x _ ?_
       rw [tbl_set]
       exact HNEW.out _ (by simp)
     | false =>
      rw [hv] at c8 HNEW
      go_wp2
      go_roundg (256 - x)
      case measure => have := HK.out; have := HX1.out; omega
      case rel =>
       refine ⟨x + 1, by first | rfl | rw [hnx], ⟨by have := HX1.out; omega⟩, ⟨HX1.out⟩, ⟨blk_far (p := ⟨o, x, none⟩) G1.out NOR.out.2.2.2.2.1 _⟩, ⟨?_⟩, ⟨blk_far (p := ⟨o, x, none⟩) GQ.out NQ.out.2.2.2.2.2 _⟩, ⟨blk_far (p := ⟨o, x, none⟩) R2.out NOR.out.2.2.2.2.2.1 _⟩, ⟨K2.out.setFar NOR.out.2.2.1 _ _⟩⟩
       refine blk_put G2.out x _ ?_
       rw [tbl_set]
       exact HNEW.out _ (by simp)
    ·
     have h1 : decide ((x : Int) < 256) = false := decide_eq_false (by omega)
     have hx6 : x = 256 := by have := HX.out; omega
     have G3 : Aside0 (wr.heap[o]? = some (.cells (tbl (fun i => v i || p1 i)) 50 (0, 0))) := ⟨by rw [tbl_ext (g := fun i => if i < x then v i || p1 i else v i) (fun i hi => by rw [hx6, if_pos hi])]; exact G2.out⟩
     clear hx hx6
     go_wp2
     go_roundg (s.length + n + 1 - at3)
     case measure => have := HKB.out; have := HA3.out; have := HL2.out; omega
     case rel => exact ⟨at3, bad3, fun i => v i || p1 i, ⟨by omega⟩, ⟨by omega⟩, ⟨by have := HA2.out; have := HA3.out; omega⟩, G1, G3, R2, K2, ⟨HREL.out p1 at3 bad3 HRS.out⟩⟩
  ·
   have hnb : (nextB (s.drop at2) == 43) = false := by
    cases hd : s.drop at2 with
    | nil => rfl
    | cons d t' =>
     have := bne_of (d := d) (e := 43) (l := t') (fun e => h43 ⟨t', by rw [hd, e]⟩)
     simpa using this
   have HFIN : Aside0 (FinC s v at2 bad2 X) := ⟨by
    have hm := HM.out
    cases bad2 with
    | true => rw [(hm : X = none)]; rfl
    | false =>
     obtain ⟨f, hx, _, _, hle⟩ := hm
     rw [← hx]
     cases hd : s.drop at2 with
     | nil => exact ⟨rfl, hle, hd, rfl⟩
     | cons d t' =>
      have hne : ¬ d = 43 := fun e => h43 ⟨t', by rw [hd, e]⟩
      have : contR (rPart n) f v (d :: t') = some (v, d :: t') := if_neg hne
      rw [this]
      exact ⟨rfl, hle, hd, rfl⟩⟩
   clear h43 HM
   go_wp2_with (first | (go_at_call 110; refine HNX.out.mono ?_; rintro e' W' ⟨rfl, m, rfl⟩) | (refine wpList_load_row rfl 50 (.tmp 3) rfl o rfl 50 (tbl v) (0, 0) _ (tbl_drewN G2.out m) Try.underlying50 rfl (tbl_info v) ?_) | (refine wpList_store_row rfl 50 (.tmp 2) (.tmp 34) rfl r (tbl v) rfl rfl 50 (tbl fun _ => false) (tbl_drewN G1.out m) (tbl_info v) (by rw [tbl_size, tbl_size]) (tbl_one v) ?_))
   refine bodyPost_ret (results_cell_row rfl _ _ r 50 (tbl v) (0, 0) _ rfl (setRow_heap _ _ (tbl fun _ => false) _ _ _ (tbl_drewN G1.out m)) Try.underlying50 rfl (tbl_info v)) rfl ?_
   refine RPost.mk v at2 bad2 rfl ?_ ((K2.out.drewN m).setRow (by have := HSZ.out; omega) _) HA2.out (by have h := HFIN.out; cases X with | none => exact h | some y => exact h)
   rw [setRow_other _ _ _ _ NOR.out.2.2.2.2.2.2.2.1]
   exact tbl_drewN R2.out m
end Go.Proofs.Yteikgnaikeleaaa

namespace Go.Proofs.Yteikgnaikeleaaa
open Go.RowKit Go.Proofs.YteikgnaikeleaaaW.PrintWords Go.Proofs.YteikgnaikeleaaaW.PrintLast Go.Proofs.YteikgnaikeleaaaW.PrintMore
set_option linter.unusedVariables false

theorem want_ {P : Program} {ops : Array Oper} {oi : Oper} {N : Option Tmp} {a : Act} {w : World} {K : Act → World → Prop} {Q : Exit → Act → World → Prop} (hw : Region.wanted oi (yielded ops a.tmps) = true) (h : Oper.wp P oi a w K Q) : if Region.wanted oi (yielded ops a.tmps) = true then Oper.wp P oi a w K Q else K (a.put N undef) w := by
 rw [if_pos hw]; exact h
theorem read_bad (s : List UInt8) (at1 : Nat) (v : Nat → Bool) (h : match rCirc (rPart (s.length + 1)) ((s.drop 0).length + 1) (fun _ => false) (s.drop 0) with | some (f, t) => true = false ∧ at1 ≤ s.length ∧ s.drop at1 = t ∧ v = f | none => True) (hr : readL s = match rCirc (rPart (s.length + 1)) (s.length + 1) (fun _ => false) s with | some (v, []) => some v | _ => none) : readL s = none := by
 rw [List.drop_zero] at h
 rw [hr]
 generalize rCirc (rPart (s.length + 1)) (s.length + 1) (fun _ => false) s = y at h ⊢
 match y, h with
 | none, _ => rfl
 | some (f, l), h => exact absurd h.1 (by decide)
theorem read_fine (s : List UInt8) (at1 : Nat) (v : Nat → Bool) (h : match rCirc (rPart (s.length + 1)) ((s.drop 0).length + 1) (fun _ => false) (s.drop 0) with | some (f, t) => True ∧ at1 ≤ s.length ∧ s.drop at1 = t ∧ v = f | none => false = true) (hr : readL s = match rCirc (rPart (s.length + 1)) (s.length + 1) (fun _ => false) s with | some (v, []) => some v | _ => none) : if at1 = s.length then readL s = some v else readL s = none := by
 rw [List.drop_zero] at h
 rw [hr]
 generalize rCirc (rPart (s.length + 1)) (s.length + 1) (fun _ => false) s = y at h ⊢
 match y, h with
 | none, h => cases h
 | some (f, l), h =>
  obtain ⟨_, h1, h2, rfl⟩ := h
  by_cases h3 : at1 = s.length
  ·
   rw [if_pos h3]
   rw [h3, List.drop_length] at h2
   subst h2; rfl
  ·
   rw [if_neg h3]
   cases l with
   | nil => exact absurd (List.drop_eq_nil_iff.1 h2) (by omega)
   | cons a l => rfl
theorem partR_all : ∀ n, n ≤ 100000 → PartR n
 | 0, _ => fun s at_ w b _ _ _ _ h => absurd h (Nat.not_lt_zero _)
 | n + 1, h => part_of_circR n (by omega) (circ_of_branch n (by omega) (branch_of_part n (by omega) (partR_all n (by omega))))
theorem circR_all (n : Nat) (h : n ≤ 100000) : CircR n := circ_of_branch n h (branch_of_part n h (partR_all n h))
theorem results_row_tmp {P : Program} {fn : Func} {p q : Tmp} {ty : TypeId} (h : fn.results = #[.cell p ty, .tmp q]) (tmps : Array Value) (w : World) (g : Nat) (t : TypeId) (cs : Array Value) (fr : Nat × Nat) (d : TypeDesc)
  (hp : tmps.getD p undef = .pointer (some ⟨g, 0, none⟩)) (hg : w.heap[g]? = some (.cells cs t fr))
  (hu : P.underlying ty = some d) (hd : (match d with | .struct _ | .array _ _ => true | _ => false) = true) (hi : (P.info? ty).map (·.size) = some cs.size) :
  (results fn tmps).run P w = .ok (.tuple #[.agg cs, tmps.getD q undef]) w := by
 have hp' : tmps[p]?.getD undef = .pointer (some ⟨g, 0, none⟩) := by simpa using hp
 simp [results, h, hp', asAddr, run_loadVar_row w g t ty cs fr d hg hu hd hi]
theorem exec_load_tbl50 {w : World} {g : Nat} {f : Nat → Bool} {o : Oper} {a : Act} {x : Operand} (ho : o.op = .load 50 x) (hx : a.eval x = .pointer (some ⟨g, 0, none⟩)) (h : w.heap[g]? = some (.cells (tbl f) 50 (0, 0))) : (execOp a.eval o).run Try.prog w = .ok (.value (.agg (tbl f))) w := by
 have hl := run_loadVar_row (P := Try.prog) w g 50 50 (tbl f) (0, 0) (.array 256 4) h Try.underlying50 rfl (tbl_info f)
 unfold execOp
 simp only [ho, hx, Instr.loadAt, Instr.sureAddr, Sem.run_bind, Sem.run_pure, Result.andThen_ok, hl]
def ReadPost (w : World) (s : List UInt8) (e : Ending) (w' : World) : Prop :=
 Below w.heap.size w w' ∧ match readL s with
  | some f => e = .returned (.tuple #[.agg (tbl f), .bool true])
  | none => ∃ v, e = .returned (.tuple #[.agg (tbl v), .bool false])
theorem ReadPost.good {w : World} {s : List UInt8} {e : Ending} {w' : World} (h : Below w.heap.size w w') {f : Nat → Bool} (hr : readL s = some f) (he : e = .returned (.tuple #[.agg (tbl f), .bool true])) : ReadPost w s e w' := by
 refine ⟨h, ?_⟩
 rw [hr]; exact he
theorem ReadPost.bad {w : World} {s : List UInt8} {e : Ending} {w' : World} (h : Below w.heap.size w w') {v : Nat → Bool} (hr : readL s = none) (he : e = .returned (.tuple #[.agg (tbl v), .bool false])) : ReadPost w s e w' := by
 refine ⟨h, ?_⟩
 rw [hr]; exact ⟨v, he⟩
set_option maxHeartbeats 8000000 in
set_option maxRecDepth 1000000 in
theorem read_long (s : List UInt8) (w : World) (h : ¬ s.length ≤ 40) : Calls Try.prog 65 #[.string (tx s)] w (ReadPost w s) := by
 have hz := tx_size s
 have h40 : decide ((40 : Int) < (tx s).size) = true := decide_eq_true (by rw [hz]; omega)
 have hr : readL s = none := if_neg h
 have hzz := zero50
 have G := Aside0.mk (blk_new w (.cells (tbl fun _ => false) 50))
 clear hz h
 go_enter Try.func65, Try.ntmps65
 go_wp2_with (first | (refine wpList_store_row rfl 50 (.tmp 2) (.tmp 9) rfl w.heap.size (tbl fun _ => false) rfl rfl 50 (tbl fun _ => false) G.out (tbl_info _) (by rw [tbl_size]) (tbl_one _) ?_))
 refine bodyPost_ret (results_row_tmp rfl _ _ w.heap.size 50 (tbl fun _ => false) (0, 0) _ rfl (setRow_heap _ _ (tbl fun _ => false) _ _ _ G.out) Try.underlying50 rfl (tbl_info _)) rfl ?_
 exact ReadPost.bad (below_setRow ((Below.refl _ w).alloc (Nat.le_refl _) _) (Nat.le_refl _) _) hr rfl
set_option maxHeartbeats 8000000 in
set_option maxRecDepth 1000000 in
theorem read_calls (s : List UInt8) (w : World) : Calls Try.prog 65 #[.string (tx s)] w (ReadPost w s) := by
 by_cases h40 : s.length ≤ 40
 ·
  have hz := tx_size s
  have hd : decide ((40 : Int) < (tx s).size) = false := decide_eq_false (by rw [hz]; omega)
  have hzz := zero50
  have s1 : (w.alloc (.cells (tbl fun _ => false) 50)).heap.size = w.heap.size + 1 := Array.size_push ..
  obtain ⟨w2, hw2⟩ : ∃ w2, w2 = (w.alloc (.cells (tbl fun _ => false) 50)).alloc (.cells #[.string (tx s), .int .i64 0, .bool false] 84) := ⟨_, rfl⟩
  have R2 : w2.heap[w.heap.size + 1]? = some (rdr2 s 0 false) := by rw [hw2, ← s1]; exact blk_new _ _
  have G2 : Aside0 (w2.heap[w.heap.size]? = some (.cells (tbl fun _ => false) 50 (0, 0))) := ⟨by rw [hw2]; exact blk_alloc (blk_new w _) _⟩
  have B2 : Aside0 (Below w.heap.size w w2) := ⟨by rw [hw2]; exact below_alloc (below_alloc (Below.refl _ w) _) _⟩
  have S2 : Aside0 (w2.heap.size = w.heap.size + 2) := ⟨by rw [hw2]; exact (Array.size_push ..).trans (by rw [s1])⟩
  have HW2 := Aside0.mk hw2
  have HC := Aside0.mk (circR_all (s.length + 1) (by omega) s 0 w2 (w.heap.size + 1) R2 (by omega) (by omega) (by simp))
  have hreq : readL s = match rCirc (rPart (s.length + 1)) (s.length + 1) (fun _ => false) s with | some (v, []) => some v | _ => none := if_pos h40
  have HREQ := Aside0.mk hreq
  have HL := Aside0.mk h40
  clear hw2 R2 h40 s1 hreq hz
  go_enter Try.func65, Try.ntmps65
  go_wp2_with (first | (go_at_call 88; rw [← HW2.out]; refine HC.out.mono ?_; rintro e W1 ⟨v, at1, bad1, rfl, hr1, hk1, ha1, hres⟩; have HR1 := Aside0.mk hr1; have HK1 := Aside0.mk hk1; have HA1 := Aside0.mk ha1; have HRS1 := Aside0.mk hres; clear hr1 hk1 ha1 hres) | (refine wpList_store_row rfl 50 (.tmp 5) (.tmp 14) rfl W1.heap.size (tbl v) rfl rfl 50 (tbl fun _ => false) (blk_new _ _) (tbl_info v) (by rw [tbl_size, tbl_size]) (tbl_one v) ?_))
  simp only [Act.put]
  obtain ⟨q, hq⟩ : ∃ q, q = W1.heap.size := ⟨_, rfl⟩
  obtain ⟨W3, hW3⟩ : ∃ W3, W3 = (W1.alloc (.cells (tbl fun _ => false) 50)).setRow W1.heap.size (tbl v) := ⟨_, rfl⟩
  rw [← hW3, ← hq]
  have hle := HK1.out.size
  have NQ : Aside0 (w.heap.size + 2 ≤ q) := ⟨by have := S2.out; omega⟩
  have GQ : Aside0 (W3.heap[q]? = some (.cells (tbl v) 50 (0, 0))) := ⟨by rw [hW3, hq]; exact setRow_heap _ _ (tbl fun _ => false) _ _ _ (blk_new _ _)⟩
  have old : ∀ (g : Nat) (ob : Obj), g < q → W1.heap[g]? = some ob → W3.heap[g]? = some ob := fun g ob hg h => by
   rw [hW3, setRow_other _ _ _ _ (by omega)]
   exact blk_alloc h _
  have GR : Aside0 (W3.heap[w.heap.size]? = some (.cells (tbl fun _ => false) 50 (0, 0))) := ⟨old _ _ (by have := NQ.out; omega) (by rw [HK1.out.block w.heap.size (by have := S2.out; omega) (by omega)]; exact G2.out)⟩
  have R3 : Aside0 (W3.heap[w.heap.size + 1]? = some (rdr2 s at1 bad1)) := ⟨old _ _ (by have := NQ.out; omega) HR1.out⟩
  have B3 : Aside0 (Below w.heap.size w W3) := ⟨by
   have h1 : Below w.heap.size w2 W1 := (HK1.out.below (by have := S2.out; omega)).mono (by omega)
   have h2 := B2.out.trans h1
   rw [hW3]
   exact below_setRow (h2.trans ((Below.refl _ _).alloc (by have := h2.size; omega) _)) (by have := NQ.out; omega) _⟩
  clear hW3 hq old hle HR1 HK1 HC HW2
  obtain ⟨⟨c0, c1, c2⟩, f1, f2⟩ := rdr2_cells R3.out
  cases bad1 with
  | true =>
   refine start_ (n := 17) (S := fun w' => w'.heap[q]? = some (.cells (tbl v) 50 (0, 0)) ∧ w'.cell? ⟨w.heap.size + 1, 1, none⟩ = some (.int .i64 (at1 : Nat)) ∧ w'.cell? ⟨w.heap.size + 1, 2, none⟩ = some (.bool true)) (ds := []) #[false, false, false, false, false, false, false, false, false, false, false, false, false, false, false, false, false] (by kernel_rfl) rfl rfl ⟨blk_drew GQ.out, c1, c2⟩ (fun hHeld => ?_)
   refine tst3 (i := 0) (N := some 15) (v := .agg (tbl v)) (bz 17 1) (by kernel_rfl) hHeld ?_ (hy := Or.inl ⟨by rfl, fun w' hw => exec_load_tbl50 rfl rfl hw.1⟩)
   refine pst (i := 1) (N := some 16) (bz 17 3) (by kernel_rfl) ?_
   refine pst (i := 2) (N := some 17) (bz 17 7) (by kernel_rfl) ?_
   refine pst (i := 3) (N := some 18) (bz 17 15) (by kernel_rfl) ?_
   refine tst3 (i := 4) (N := some 19) (bz 17 31) (by kernel_rfl) hHeld ?_
   refine pst (i := 5) (N := some 20) (bz 17 63) (by kernel_rfl) ?_
   refine pst (i := 6) (N := some 21) (bz 17 127) (by kernel_rfl) ?_
   refine pso (i := 7) (N := some 22) (bz 17 255) (by kernel_rfl) ?_
   refine pso (i := 8) (N := some 23) (bz 17 511) (by kernel_rfl) ?_
   refine pso (i := 9) (N := some 24) (bz 17 1023) (by kernel_rfl) ?_
   refine pso (i := 10) (N := some 25) (bz 17 2047) (by kernel_rfl) ?_
   refine pso (i := 11) (N := some 26) (bz 17 4095) (by kernel_rfl) ?_
   refine pso (i := 12) (N := some 27) (bz 17 8191) (by kernel_rfl) ?_
   refine pso (i := 13) (N := some 28) (bz 17 16383) (by kernel_rfl) ?_
   refine pst (i := 14) (N := some 29) (bz 17 32767) (by kernel_rfl) ?_
   refine one_ (i := 15) (N := none) (bz 17 65535) rfl rfl (by kernel_rfl) (by decide) (fun K hK => ?_)
   refine want_ rfl ?_
   refine wp_store_row 50 (.tmp 2) (.tmp 15) rfl w.heap.size (tbl v) rfl rfl 50 (tbl fun _ => false) (blk_drew GR.out) (tbl_info v) (by rw [tbl_size, tbl_size]) (tbl_one v) ?_
   refine hK.out _ _ ⟨by rw [setRow_other _ _ _ _ (by have := NQ.out; omega)]; exact blk_drew GQ.out, ?_, ?_⟩ (fun hHeld => ?_)
   ·
    exact (blk_cell (show (W3.drew.setRow w.heap.size (tbl v)).heap[w.heap.size + 1]? = some (rdr2 s at1 true) from by rw [setRow_other _ _ _ _ (by omega)]; exact blk_drew R3.out) 1).trans rfl
   ·
    exact (blk_cell (show (W3.drew.setRow w.heap.size (tbl v)).heap[w.heap.size + 1]? = some (rdr2 s at1 true) from by rw [setRow_other _ _ _ _ (by omega)]; exact blk_drew R3.out) 2).trans rfl
   clear hK K
   refine norm_ (a' := ?_) ?_ ?_
   rotate_left
   ·
    simp only [Act.put]
    rfl
   refine pst (i := 16) (N := some 3) (bz 17 131071) (by kernel_rfl) ?_
   refine done_ (by kernel_rfl) ?_
   go_wp2
   refine bodyPost_ret (results_row_tmp rfl _ _ w.heap.size 50 (tbl v) (0, 0) _ rfl (setRow_heap _ _ (tbl fun _ => false) _ _ _ (blk_drew GR.out)) Try.underlying50 rfl (tbl_info _)) rfl ?_
   have hrn : readL s = none := read_bad s at1 v HRS1.out HREQ.out
   exact ReadPost.bad (below_setRow (below_drew1 B3.out) (Nat.le_refl _) _) hrn rfl
  | false =>
   refine start_ (n := 17) (S := fun w' => w'.heap[q]? = some (.cells (tbl v) 50 (0, 0)) ∧ w'.cell? ⟨w.heap.size + 1, 1, none⟩ = some (.int .i64 (at1 : Nat)) ∧ w'.cell? ⟨w.heap.size + 1, 2, none⟩ = some (.bool false)) (ds := []) #[false, false, false, false, false, false, false, false, false, false, false, false, false, false, false, false, false] (by kernel_rfl) rfl rfl ⟨blk_drew GQ.out, c1, c2⟩ (fun hHeld => ?_)
   refine tst3 (i := 0) (N := some 15) (v := .agg (tbl v)) (bz 17 1) (by kernel_rfl) hHeld ?_ (hy := Or.inl ⟨by rfl, fun w' hw => exec_load_tbl50 rfl rfl hw.1⟩)
   refine pst (i := 1) (N := some 16) (bz 17 3) (by kernel_rfl) ?_
   refine pst (i := 2) (N := some 17) (bz 17 7) (by kernel_rfl) ?_
   refine pst (i := 3) (N := some 18) (bz 17 15) (by kernel_rfl) ?_
   refine tst3 (i := 4) (N := some 19) (bz 17 31) (by kernel_rfl) hHeld ?_
   refine pst (i := 5) (N := some 20) (bz 17 63) (by kernel_rfl) ?_
   refine pst (i := 6) (N := some 21) (bz 17 127) (by kernel_rfl) ?_
   refine pst (i := 7) (N := some 22) (bz 17 255) (by kernel_rfl) ?_
   refine pst (i := 8) (N := some 23) (bz 17 511) (by kernel_rfl) ?_
   refine pst (i := 9) (N := some 24) (bz 17 1023) (by kernel_rfl) ?_
   refine tst3 (i := 10) (N := some 25) (bz 17 2047) (by kernel_rfl) hHeld ?_
   refine pst (i := 11) (N := some 26) (bz 17 4095) (by kernel_rfl) ?_
   refine pst (i := 12) (N := some 27) (bz 17 8191) (by kernel_rfl) ?_
   refine pst (i := 13) (N := some 28) (bz 17 16383) (by kernel_rfl) ?_
   refine pst (i := 14) (N := some 29) (bz 17 32767) (by kernel_rfl) ?_
   refine one_ (i := 15) (N := none) (bz 17 65535) rfl rfl (by kernel_rfl) (by decide) (fun K hK => ?_)
   refine want_ rfl ?_
   refine wp_store_row 50 (.tmp 2) (.tmp 15) rfl w.heap.size (tbl v) rfl rfl 50 (tbl fun _ => false) (blk_drew GR.out) (tbl_info v) (by rw [tbl_size, tbl_size]) (tbl_one v) ?_
   refine hK.out _ _ ⟨by rw [setRow_other _ _ _ _ (by have := NQ.out; omega)]; exact blk_drew GQ.out, ?_, ?_⟩ (fun hHeld => ?_)
   ·
    exact (blk_cell (show (W3.drew.setRow w.heap.size (tbl v)).heap[w.heap.size + 1]? = some (rdr2 s at1 false) from by rw [setRow_other _ _ _ _ (by omega)]; exact blk_drew R3.out) 1).trans rfl
   ·
    exact (blk_cell (show (W3.drew.setRow w.heap.size (tbl v)).heap[w.heap.size + 1]? = some (rdr2 s at1 false) from by rw [setRow_other _ _ _ _ (by omega)]; exact blk_drew R3.out) 2).trans rfl
   clear hK K
   refine norm_ (a' := ?_) ?_ ?_
   rotate_left
   ·
    simp only [Act.put]
    rfl
   refine pst (i := 16) (N := some 3) (bz 17 131071) (by kernel_rfl) ?_
   refine done_ (by kernel_rfl) ?_
   go_wp2
   refine bodyPost_ret (results_row_tmp rfl _ _ w.heap.size 50 (tbl v) (0, 0) _ rfl (setRow_heap _ _ (tbl fun _ => false) _ _ _ (blk_drew GR.out)) Try.underlying50 rfl (tbl_info _)) rfl ?_
   have hrn := read_fine s at1 v HRS1.out HREQ.out
   by_cases h3 : at1 = s.length
   ·
    rw [if_pos h3] at hrn
    refine ReadPost.good (below_setRow (below_drew1 B3.out) (Nat.le_refl _) _) hrn ?_
    refine (congrArg (fun x => Ending.returned (.tuple #[.agg (tbl v), .bool x])) (a₁ := ((at1 : Int) == ((tx s).size : Int))) ?_)
    rw [tx_size, h3, beq_self_eq_true]
   ·
    rw [if_neg h3] at hrn
    refine ReadPost.bad (v := v) (below_setRow (below_drew1 B3.out) (Nat.le_refl _) _) hrn ?_
    refine (congrArg (fun x => Ending.returned (.tuple #[.agg (tbl v), .bool x])) (a₁ := ((at1 : Int) == ((tx s).size : Int))) ?_)
    rw [tx_size]
    exact beq_eq_false_iff_ne.2 (by omega)
 ·
  exact read_long s w h40
end Go.Proofs.Yteikgnaikeleaaa

namespace Go.Proofs.Yteikgnaikeleaaa.XLoop
open Go.RowKit Go.Proofs.YteikgnaikeleaaaW.PrintWords Go.Proofs.YteikgnaikeleaaaW.PrintLast Go.Proofs.YteikgnaikeleaaaW.PrintMore
attribute [local go_sem] max2_int min2_int max_two min_two max_three min_three max_four min_four   -- for this text's walks alone
set_option linter.unusedVariables false
set_option linter.unusedSimpArgs false
/-! ### dropperref09_ValidSet: function 22 -/
def dropperref09_ValidSet.l0 : Nat → ByteArray → Int → Option (Bool)
 | 0, _, _ => none
 | k + 1, x0, x3 => if x3 < (x0.size : Int) then (if 0 ≤ x3 then (if (bt x0 x3) < 97 then (some false) else (if (bt x0 x3) > 104 then (some false) else (if x3 > 0 then (if 0 ≤ (wrap64 (x3 - 1)) then (if (wrap64 (x3 - 1)) < (x0.size : Int) then (if (bt x0 x3) ≤ (bt x0 (wrap64 (x3 - 1))) then (some false) else (dropperref09_ValidSet.l0 k x0 (wrap64 (x3 + 1)))) else (none)) else (none)) else (dropperref09_ValidSet.l0 k x0 (wrap64 (x3 + 1)))))) else (none)) else (some true)
def dropperref09_ValidSet.f (k : Nat) (a0 : ByteArray) : Option (Bool) := dropperref09_ValidSet.l0 k a0 0
set_option maxHeartbeats 8000000 in
set_option maxRecDepth 100000 in
theorem dropperref09_ValidSet.calls (k : Nat) (a0 : ByteArray) (r : Bool) (w : World) (h : dropperref09_ValidSet.f k a0 = some r) :
  Calls Try.prog 22 #[.string a0] w fun e w' => e = .returned (.bool r) ∧ Drawn0 w w' := by
 have H : (dropperref09_ValidSet.l0 k a0 0) = some r := h
 clear h
 have H' := Aside0.mk H
 clear H
 go_enter Try.func22, Try.ntmps22
 go_wp2
 repeat (go_quiet (fail); try go_wp2)
 go_loopg [3] k (fun kq v3 w' => ∃ (x3_1 : Int), v3 = .int .i64 x3_1 ∧ Aside0 (dropperref09_ValidSet.l0 kq a0 x3_1 = some r) ∧ Aside0 (kq ≤ k) ∧ Drawn0 w w')
 case atStart => exact ⟨(0), rsz, H', ⟨Nat.le_refl _⟩, drz⟩
 case round =>
  clear H'
  obtain ⟨x3_1, rfl, HA, HK1, ⟨m1, rfl⟩⟩ := hrel
  cases gk with
  | zero => exact absurd HA.out (by simp [dropperref09_ValidSet.l0])
  | succ k1 =>
   have H := HA.out
   clear HA
   simp only [dropperref09_ValidSet.l0] at H
   by_cases c2 : x3_1 < (a0.size : Int)
   ·
    rw [if_pos c2] at H
    have c2b0 : decide (x3_1 < (a0.size : Int)) = true := decide_eq_true c2
    clear c2
    by_cases c3 : 0 ≤ x3_1
    ·
     rw [if_pos c3] at H
     have c3b0 : decide (0 ≤ x3_1) = true := decide_eq_true c3
     clear c3
     by_cases c5 : (bt a0 x3_1) < 97
     ·
      rw [if_pos c5] at H
      have c5b0 : decide ((bt a0 x3_1) < 97) = true := decide_eq_true c5
      clear c5
      obtain rfl := Option.some.inj H
      have p4 : 0 ≤ (x3_1 : Int) := of_decide_eq_true asz
      have q4 : x3_1 < (a0.size : Int) := of_decide_eq_true asz
      have hx4 := bt_at a0 x3_1
      replace p4 := eq_true p4
      replace q4 := eq_true q4
      go_wp2
      repeat (go_quiet (fail); try go_wp2)
      go_ret
      exact ⟨by first | rfl | (simp; done) | (simp [*]; done), drz⟩
     ·
      rw [if_neg c5] at H
      have c5b0 : decide ((bt a0 x3_1) < 97) = false := decide_eq_false c5
      clear c5
      by_cases c7 : (bt a0 x3_1) > 104
      ·
       rw [if_pos c7] at H
       have c7b0 : decide (104 < (bt a0 x3_1)) = true := decide_eq_true c7
       clear c7
       obtain rfl := Option.some.inj H
       have p4 : 0 ≤ (x3_1 : Int) := of_decide_eq_true asz
       have q4 : x3_1 < (a0.size : Int) := of_decide_eq_true asz
       have hx4 := bt_at a0 x3_1
       replace p4 := eq_true p4
       replace q4 := eq_true q4
       have p6 : 0 ≤ (x3_1 : Int) := of_decide_eq_true asz
       have q6 : x3_1 < (a0.size : Int) := of_decide_eq_true asz
       have hx6 := bt_at a0 x3_1
       replace p6 := eq_true p6
       replace q6 := eq_true q6
       go_wp2
       repeat (go_quiet (fail); try go_wp2)
       go_ret
       exact ⟨by first | rfl | (simp; done) | (simp [*]; done), drz⟩
      ·
       rw [if_neg c7] at H
       have c7b0 : decide (104 < (bt a0 x3_1)) = false := decide_eq_false c7
       clear c7
       by_cases c8 : x3_1 > 0
       ·
        rw [if_pos c8] at H
        have c8b0 : decide (0 < x3_1) = true := decide_eq_true c8
        clear c8
        obtain ⟨ji10, hji10⟩ : ∃ j_ : Int, (wrap64 (x3_1 - 1)) = j_ := ⟨_, rfl⟩
        replace H : (if 0 ≤ (ji10) then (if (ji10) < (a0.size : Int) then (if (bt a0 x3_1) ≤ (bt a0 (ji10)) then (some false) else (dropperref09_ValidSet.l0 k1 a0 (wrap64 (x3_1 + 1)))) else (none)) else (none)) = some r := by first | (rw [hji10] at H; exact H) | (simp only [hji10] at H ⊢; exact H)
        have hji10w : (IntKind.i64.wrap (x3_1 - 1)) = ji10 := (i64_w _).trans hji10
        by_cases c11 : 0 ≤ (ji10)
        ·
         rw [if_pos c11] at H
         have c11b0 : decide (0 ≤ (ji10)) = true := decide_eq_true c11
         clear c11
         by_cases c12 : (ji10) < (a0.size : Int)
         ·
          rw [if_pos c12] at H
          have c12b0 : decide ((ji10) < (a0.size : Int)) = true := decide_eq_true c12
          clear c12
          by_cases c14 : (bt a0 x3_1) ≤ (bt a0 (ji10))
          ·
           rw [if_pos c14] at H
           have c14b0 : decide ((bt a0 x3_1) ≤ (bt a0 (ji10))) = true := decide_eq_true c14
           clear c14
           obtain rfl := Option.some.inj H
           have p4 : 0 ≤ (x3_1 : Int) := of_decide_eq_true asz
           have q4 : x3_1 < (a0.size : Int) := of_decide_eq_true asz
           have hx4 := bt_at a0 x3_1
           replace p4 := eq_true p4
           replace q4 := eq_true q4
           have p6 : 0 ≤ (x3_1 : Int) := of_decide_eq_true asz
           have q6 : x3_1 < (a0.size : Int) := of_decide_eq_true asz
           have hx6 := bt_at a0 x3_1
           replace p6 := eq_true p6
           replace q6 := eq_true q6
           have p9 : 0 ≤ (x3_1 : Int) := of_decide_eq_true asz
           have q9 : x3_1 < (a0.size : Int) := of_decide_eq_true asz
           have hx9 := bt_at a0 x3_1
           replace p9 := eq_true p9
           replace q9 := eq_true q9
           have p13 : 0 ≤ ((ji10) : Int) := of_decide_eq_true asz
           have q13 : (ji10) < (a0.size : Int) := of_decide_eq_true asz
           have hx13 := bt_at a0 (ji10)
           replace p13 := eq_true p13
           replace q13 := eq_true q13
           go_wp2
           repeat (go_quiet (fail); try go_wp2)
           go_ret
           exact ⟨by first | rfl | (simp; done) | (simp only [← hji10] <;> (first | rfl | simp)) | (simp [*]; done), drz⟩
          ·
           rw [if_neg c14] at H
           have c14b0 : decide ((bt a0 x3_1) ≤ (bt a0 (ji10))) = false := decide_eq_false c14
           clear c14
           have H' := Aside0.mk H
           clear H
           have p4 : 0 ≤ (x3_1 : Int) := of_decide_eq_true asz
           have q4 : x3_1 < (a0.size : Int) := of_decide_eq_true asz
           have hx4 := bt_at a0 x3_1
           replace p4 := eq_true p4
           replace q4 := eq_true q4
           have p6 : 0 ≤ (x3_1 : Int) := of_decide_eq_true asz
           have q6 : x3_1 < (a0.size : Int) := of_decide_eq_true asz
           have hx6 := bt_at a0 x3_1
           replace p6 := eq_true p6
           replace q6 := eq_true q6
           have p9 : 0 ≤ (x3_1 : Int) := of_decide_eq_true asz
           have q9 : x3_1 < (a0.size : Int) := of_decide_eq_true asz
           have hx9 := bt_at a0 x3_1
           replace p9 := eq_true p9
           replace q9 := eq_true q9
           have p13 : 0 ≤ ((ji10) : Int) := of_decide_eq_true asz
           have q13 : (ji10) < (a0.size : Int) := of_decide_eq_true asz
           have hx13 := bt_at a0 (ji10)
           replace p13 := eq_true p13
           replace q13 := eq_true q13
           go_wp2
           repeat (go_quiet (fail); try go_wp2)
           go_roundg k1
           case measure => have := HK1.out; omega
           case rel => exact ⟨(wrap64 (x3_1 + 1)), rsz, H', ⟨by have := HK1.out; omega⟩, drz⟩
         ·
          rw [if_neg c12] at H
          exact absurd H (by simp)
        ·
         rw [if_neg c11] at H
         exact absurd H (by simp)
       ·
        rw [if_neg c8] at H
        have c8b0 : decide (0 < x3_1) = false := decide_eq_false c8
        clear c8
        have H' := Aside0.mk H
        clear H
        have p4 : 0 ≤ (x3_1 : Int) := of_decide_eq_true asz
        have q4 : x3_1 < (a0.size : Int) := of_decide_eq_true asz
        have hx4 := bt_at a0 x3_1
        replace p4 := eq_true p4
        replace q4 := eq_true q4
        have p6 : 0 ≤ (x3_1 : Int) := of_decide_eq_true asz
        have q6 : x3_1 < (a0.size : Int) := of_decide_eq_true asz
        have hx6 := bt_at a0 x3_1
        replace p6 := eq_true p6
        replace q6 := eq_true q6
        go_wp2
        repeat (go_quiet (fail); try go_wp2)
        go_roundg k1
        case measure => have := HK1.out; omega
        case rel => exact ⟨(wrap64 (x3_1 + 1)), rsz, H', ⟨by have := HK1.out; omega⟩, drz⟩
    ·
     rw [if_neg c3] at H
     exact absurd H (by simp)
   ·
    rw [if_neg c2] at H
    have c2b0 : decide (x3_1 < (a0.size : Int)) = false := decide_eq_false c2
    clear c2
    obtain rfl := Option.some.inj H
    go_wp2
    repeat (go_quiet (fail); try go_wp2)
    go_ret
    exact ⟨by first | rfl | (simp; done) | (simp [*]; done), drz⟩

end Go.Proofs.Yteikgnaikeleaaa.XLoop
namespace Go.Proofs.Yteikgnaikeleaaa
open Go.RowKit Go.Proofs.YteikgnaikeleaaaW.PrintWords Go.Proofs.YteikgnaikeleaaaW.PrintLast Go.Proofs.YteikgnaikeleaaaW.PrintMore
set_option linter.unusedVariables false

theorem below_dn {B : Nat} {a w : World} (h : Below B a w) (n : Nat) : Below B a (w.drewN n) := ⟨h.os, h.tape, h.output, h.size, h.block⟩
def ReadC (w : World) (s : List UInt8) (e : Ending) (w' : World) : Prop :=
 ∃ v, e = .returned (.tuple #[.agg (tbl v), .bool (parseL s).isSome]) ∧ (∀ m, parseL s = some m → v = m.f) ∧ Below w.heap.size w w'
theorem read_c (s : List UInt8) (w : World) : Calls Try.prog 65 #[.string (tx s)] w (ReadC w s) := by
 refine (read_calls s w).mono ?_
 rintro e w' ⟨hb, h⟩
 rw [readL_eq] at h
 cases hp : parseL s with
 | none =>
  rw [hp] at h
  obtain ⟨v, rfl⟩ := h
  exact ⟨v, by rw [hp]; rfl, (by intro m hm; rw [hp] at hm; cases hm), hb⟩
 | some m =>
  rw [hp] at h
  exact ⟨m.f, by rw [hp]; exact h, (by intro m' hm; rw [hp] at hm; cases hm; rfl), hb⟩
theorem new_row (W : World) (v : Nat → Bool) : ((W.alloc (.cells (tbl fun _ => false) 50)).setRow W.heap.size (tbl v)).heap[W.heap.size]? = some (.cells (tbl v) 50 (0, 0)) := setRow_heap _ _ (tbl fun _ => false) _ _ _ (blk_new _ _)
theorem new_below {b : Nat} {w W : World} (h : Below b w W) (hb : b ≤ w.heap.size) (v : Nat → Bool) : Below b w ((W.alloc (.cells (tbl fun _ => false) 50)).setRow W.heap.size (tbl v)) :=
 below_setRow (h.trans ((Below.refl _ _).alloc (by have := h.size; omega) _)) (by have := h.size; omega) _
set_option maxHeartbeats 8000000 in
set_option maxRecDepth 1000000 in
theorem rvalid_calls (s : List UInt8) (w : World) : Calls Try.prog 21 #[.string (tx s)] w fun e w' => e = .returned (.bool (parseL s).isSome) ∧ Below w.heap.size w w' := by
 have HC := Aside0.mk (read_c s)
 have hzz := zero50
 go_enter Try.func21, Try.ntmps21
 go_wp2_with (first | (go_at_call 65; refine (HC.out _).mono ?_; rintro e W1 ⟨v, rfl, hv, hb⟩; have HB := Aside0.mk hb; clear hb hv) | (refine wpList_store_row rfl 50 (.tmp 3) (.tmp 8) rfl W1.heap.size (tbl v) rfl rfl 50 (tbl fun _ => false) (blk_new _ _) (tbl_info v) (by rw [tbl_size, tbl_size]) (tbl_one v) ?_))
 go_ret
 exact ⟨rfl, new_below HB.out (Nat.le_refl _) v⟩
/-! the reference's sets -/
theorem bt_tx (s : List UInt8) (x : Nat) (h : x < s.length) : bt (tx s) (x : Int) = ((s[x]'h).toNat : Int) := by
 have h' : (x : Int).toNat < (tx s).size := by rw [tx_size]; exact h
 unfold bt
 rw [dif_pos h']
 exact congrArg (fun b : UInt8 => (b.toNat : Int)) (tx_get s x h')
theorem vs_eq : ∀ (t : List UInt8) (k x : Nat) (s : List UInt8) (out : Nat) (last : Int), s.drop x = t → s.length < 1000000000 → (x = 0 ∧ last = -1 ∨ 0 < x ∧ x ≤ s.length ∧ last = bt (tx s) ((x : Int) - 1) - 97) → t.length < k →
  XLoop.dropperref09_ValidSet.l0 k (tx s) x = some (setL t out last).isSome
 | [], k + 1, x, s, out, last, hs, hm, hl, hk => by
  have : ¬ (x : Int) < ((tx s).size : Int) := by
   rw [tx_size]
   have := congrArg List.length hs
   simp at this
   omega
  rw [XLoop.dropperref09_ValidSet.l0, if_neg this]
  rfl
 | b :: t, 0, x, s, out, last, hs, hm, hl, hk => by simp at hk
 | b :: t, k + 1, x, s, out, last, hs, hm, hl, hk => by
  have hp : x < s.length := by
   have := congrArg List.length hs
   simp at this
   omega
  have hc := List.drop_eq_getElem_cons hp
  rw [hs] at hc
  obtain ⟨hb, ht⟩ := List.cons.inj hc
  have h1 : (x : Int) < ((tx s).size : Int) := by rw [tx_size]; omega
  have hbt : bt (tx s) (x : Int) = (b.toNat : Int) := by rw [bt_tx s x hp, ← hb]
  have hw : wrap64 ((x : Int) + 1) = ((x + 1 : Nat) : Int) := by unfold wrap64; omega
  have hw1 : 0 < x → wrap64 ((x : Int) - 1) = (x : Int) - 1 := fun h => by unfold wrap64; omega
  have go := fun out' => vs_eq t k (x + 1) s out' ((b.toNat : Int) - 97) ht.symm hm (Or.inr ⟨by omega, by omega, by rw [← hbt]; simp⟩) (by simp at hk; omega)
  rw [XLoop.dropperref09_ValidSet.l0, if_pos h1, if_pos (Int.natCast_nonneg x), hbt, hw, setL]
  by_cases hi : isL b = true
  ·
   have hi' := (isL_iff b).1 hi
   rw [if_neg (by omega), if_neg (by omega)]
   by_cases hx : 0 < x
   ·
    rw [if_pos (by omega), hw1 hx, if_pos (by omega), if_pos (by omega)]
    rcases hl with hl | ⟨_, _, hl⟩
    ·
     omega
    by_cases h3 : last < (b.toNat : Int) - 97
    ·
     rw [if_neg (by omega), if_pos ⟨hi, h3⟩]
     exact go _
    ·
     rw [if_pos (by omega), if_neg (fun h => h3 h.2)]
     rfl
   ·
    rw [if_neg (by omega)]
    rcases hl with ⟨_, hl⟩ | ⟨hl, _⟩
    ·
     rw [if_pos ⟨hi, by omega⟩]
     exact go _
    ·
     omega
  ·
   rw [if_neg (show ¬ (isL b = true ∧ _) from fun h => hi h.1)]
   have : ¬ (97 ≤ (b.toNat : Int) ∧ (b.toNat : Int) ≤ 104) := fun h => hi ((isL_iff b).2 h)
   by_cases h3 : (b.toNat : Int) < 97
   ·
    rw [if_pos h3]; rfl
   ·
    rw [if_neg h3, if_pos (by omega)]; rfl
theorem rset_calls (s : List UInt8) (hm : s.length < 1000000000) (w : World) : Calls Try.prog 22 #[.string (tx s)] w fun e w' => e = .returned (.bool (setL s 0 (-1)).isSome) ∧ Drawn0 w w' :=
 XLoop.dropperref09_ValidSet.calls (s.length + 1) (tx s) _ w (vs_eq s (s.length + 1) 0 s 0 (-1) rfl hm (Or.inl ⟨rfl, rfl⟩) (Nat.lt_succ_self _))
set_option maxHeartbeats 8000000 in
set_option maxRecDepth 1000000 in
theorem rbits_calls (s : List UInt8) (hm : s.length < 1000000000) (k : Nat) (hk : setL s 0 (-1) = some k) (w : World) : Calls Try.prog 79 #[.string (tx s)] w fun e w' => e = .returned (.int .i64 k) ∧ Drawn0 w w' := by
 have hsz := tx_size s
 have HK := Aside0.mk hk
 clear hk
 go_enter Try.func79, Try.ntmps79
 go_wp2
 go_loopg [3, 4] (s.length + 1) (fun kq v3 v4 W => ∃ (x : Nat) (o : Nat) (last : Int), v3 = .int .i64 (o : Nat) ∧ v4 = .int .i64 x ∧ Aside0 (x + kq = s.length + 1) ∧ Aside0 (x ≤ s.length) ∧ Aside0 (o < 256) ∧ Aside0 (setL (s.drop x) o last = some k) ∧ Drawn0 w W)
 case atStart => exact ⟨0, 0, -1, rfl, rfl, ⟨by omega⟩, ⟨by omega⟩, ⟨by decide⟩, HK, drz⟩
 case round =>
  obtain ⟨x, o, last, rfl, rfl, HX, HL, HO, HS, ⟨m1, rfl⟩⟩ := hrel
  by_cases hx : x < s.length
  ·
   have h1 : decide ((x : Int) < ((tx s).size : Int)) = true := decide_eq_true (by rw [hsz]; omega)
   have h2 : (0 : Int) ≤ (x : Int) ∧ (x : Int) < ((tx s).size : Int) := by rw [hsz]; omega
   have hl2 : x < (tx s).size := by rw [hsz]; exact hx
   obtain ⟨b, hb⟩ : ∃ b, (tx s)[x]'hl2 = b := ⟨_, rfl⟩
   have hd := HS.out
   rw [List.drop_eq_getElem_cons hx, ← tx_get s x hl2, hb, setL] at hd
   split at hd
   case isFalse => cases hd
   rename_i hc
   have hi := (isL_iff b).1 hc.1
   have hu : ((b.toNat : Int) - 97) % 256 = (b.toNat : Int) - 97 := by omega
   have hnx : wrap64 ((x : Int) + 1) = ((x + 1 : Nat) : Int) := by unfold wrap64; omega
   have hn : ((b.toNat : Int) - 97).toNat = b.toNat - 97 := by omega
   have hmn : min (b.toNat - 97) 64 = b.toNat - 97 := by omega
   have h0 : (0 : Int) ≤ (b.toNat : Int) - 97 := by omega
   have hor := or_bits HO.out (show b.toNat - 97 < 8 by omega)
   have HO2 := Aside0.mk (or_lt HO.out (show b.toNat - 97 < 8 by omega))
   have HD := Aside0.mk hd
   have HX1 := Aside0.mk hx
   clear hd hc hi hx hsz HS
   go_wp2
   go_roundg (s.length - x)
   case measure => have := HX.out; have := HX1.out; omega
   case rel => exact ⟨x + 1, o ||| 2 ^ (b.toNat - 97), (b.toNat : Int) - 97, by first | rfl | rw [hor], by first | rfl | rw [hnx], ⟨by have := HX.out; have := HX1.out; omega⟩, ⟨HX1.out⟩, HO2, HD, ⟨_, rfl⟩⟩
  ·
   have h1 : decide ((x : Int) < ((tx s).size : Int)) = false := decide_eq_false (by rw [hsz]; omega)
   have hd := HS.out
   rw [List.drop_eq_nil_of_le (by omega), setL] at hd
   obtain rfl := Option.some.inj hd
   go_wp2
   go_ret
   exact ⟨rfl, _, rfl⟩
/-! what is asked of the reference -/
def RAskPost (w : World) (s q : List UInt8) (e : Ending) (w' : World) : Prop :=
 ∃ v c, e = .returned (.tuple #[.agg (tbl v), .int .i64 c]) ∧ Below w.heap.size w w' ∧ match parseL s, setL q 0 (-1) with
  | none, _ => c = 90
  | some m, none => c = 91
  | some m, some k => c = 0 ∧ v = m.f
theorem results_row_tmp2 {P : Program} {fn : Func} {p q : Tmp} {ty : TypeId} (h : fn.results = #[.cell p ty, .tmp q]) (tmps : Array Value) (w : World) (g : Nat) (t : TypeId) (cs : Array Value) (fr : Nat × Nat) (d : TypeDesc)
  (hp : tmps.getD p undef = .pointer (some ⟨g, 0, none⟩)) (hg : w.heap[g]? = some (.cells cs t fr))
  (hu : P.underlying ty = some d) (hd : (match d with | .struct _ | .array _ _ => true | _ => false) = true) (hi : (P.info? ty).map (·.size) = some cs.size) {r : Value} (hr : tmps.getD q undef = r) :
  (results fn tmps).run P w = .ok (.tuple #[.agg cs, r]) w := by
 rw [← hr]
 exact results_row_tmp h tmps w g t cs fr d hp hg hu hd hi
theorem old_row {W : World} {g : Nat} {o : Obj} (h : W.heap[g]? = some o) (v : Nat → Bool) : ((W.alloc (.cells (tbl fun _ => false) 50)).setRow W.heap.size (tbl v)).heap[g]? = some o := by
 have hlt : g < W.heap.size := (Array.getElem?_eq_some_iff.1 h).1
 rw [setRow_other _ _ _ _ (by omega)]
 exact blk_alloc h _
theorem pre_row {w W : World} (hb : Below (w.alloc (.cells (tbl fun _ => false) 50)).heap.size (w.alloc (.cells (tbl fun _ => false) 50)) W) : W.heap[w.heap.size]? = some (.cells (tbl fun _ => false) 50 (0, 0)) :=
 blk_below (blk_new w (.cells (tbl fun _ => false) 50)) hb
theorem pre_below {w W : World} (hb : Below (w.alloc (.cells (tbl fun _ => false) 50)).heap.size (w.alloc (.cells (tbl fun _ => false) 50)) W) : Below w.heap.size w W :=
 ((Below.refl _ w).alloc (Nat.le_refl _) _).trans (hb.mono (by simp))
set_option maxHeartbeats 8000000 in
set_option maxRecDepth 1000000 in
theorem rasked_calls (s q : List UInt8) (hm : q.length < 1000000000) (w : World) : Calls Try.prog 61 #[.string (tx s), .string (tx q)] w (RAskPost w s q) := by
 have HC := Aside0.mk (read_c s)
 have HS := Aside0.mk (rset_calls q hm)
 have hzz := zero50
 have G := Aside0.mk (blk_new w (.cells (tbl fun _ => false) 50))
 cases hp : parseL s with
 | none =>
  have hi : (parseL s).isSome = false := by rw [hp]; rfl
  go_enter Try.func61, Try.ntmps61
  go_wp2_with (first | (go_at_call 65; refine (HC.out _).mono ?_; rintro e W1 ⟨v, rfl, hv, hb⟩; rw [hi]; have HV := Aside0.mk hv; have HB := Aside0.mk (pre_below hb); have H4 := Aside0.mk (old_row (pre_row hb) v); have H6 := Aside0.mk (new_row W1 v); clear hb hv) | (refine wpList_store_row rfl 50 (.tmp 6) (.tmp 11) rfl W1.heap.size (tbl v) rfl rfl 50 (tbl fun _ => false) (blk_new _ _) (tbl_info v) (by rw [tbl_size, tbl_size]) (tbl_one v) ?_) | (refine wpList_load_row rfl 50 (.tmp 6) rfl W1.heap.size rfl 50 (tbl v) (0, 0) _ (by repeat (first | exact H6.out | with_reducible refine tbl_drewN ?_ _)) Try.underlying50 rfl (tbl_info v) ?_) | (refine wpList_store_row rfl 50 (.tmp 4) (.tmp 16) rfl w.heap.size (tbl v) rfl rfl 50 (tbl fun _ => false) (by repeat (first | exact H4.out | with_reducible refine tbl_drewN ?_ _)) (tbl_info v) (by rw [tbl_size, tbl_size]) (tbl_one v) ?_) | (refine wpList_store_row rfl 50 (.tmp 4) (.tmp 21) rfl w.heap.size (tbl v) rfl rfl 50 (tbl fun _ => false) (by repeat (first | exact H4.out | with_reducible refine tbl_drewN ?_ _)) (tbl_info v) (by rw [tbl_size, tbl_size]) (tbl_one v) ?_) | (refine wpList_store_row rfl 50 (.tmp 4) (.tmp 22) rfl w.heap.size (tbl v) rfl rfl 50 (tbl fun _ => false) (by repeat (first | exact H4.out | with_reducible refine tbl_drewN ?_ _)) (tbl_info v) (by rw [tbl_size, tbl_size]) (tbl_one v) ?_))
  refine bodyPost_ret (results_row_tmp2 rfl _ _ w.heap.size 50 (tbl v) (0, 0) _ rfl (setRow_heap _ _ (tbl fun _ => false) _ _ _ H4.out) Try.underlying50 rfl (tbl_info _) rfl) rfl ?_
  refine ⟨v, 90, rfl, below_setRow (new_below HB.out (Nat.le_refl _) v) (Nat.le_refl _) _, ?_⟩
  rw [hp]
 | some m =>
  have hi : (parseL s).isSome = true := by rw [hp]; rfl
  cases hq : setL q 0 (-1) with
  | none =>
   have hj : (setL q 0 (-1)).isSome = false := by rw [hq]; rfl
   go_enter Try.func61, Try.ntmps61
   go_wp2_with (first | (go_at_call 65; refine (HC.out _).mono ?_; rintro e W1 ⟨v, rfl, hv, hb⟩; rw [hi]; have HV := Aside0.mk hv; have HB := Aside0.mk (pre_below hb); have H4 := Aside0.mk (old_row (pre_row hb) v); have H6 := Aside0.mk (new_row W1 v); clear hb hv) | (refine wpList_store_row rfl 50 (.tmp 6) (.tmp 11) rfl W1.heap.size (tbl v) rfl rfl 50 (tbl fun _ => false) (blk_new _ _) (tbl_info v) (by rw [tbl_size, tbl_size]) (tbl_one v) ?_) | (go_at_call 22; refine (HS.out _).mono ?_; rintro e W2 ⟨rfl, m2, rfl⟩; rw [hj]) | (refine wpList_load_row rfl 50 (.tmp 6) rfl W1.heap.size rfl 50 (tbl v) (0, 0) _ (by repeat (first | exact H6.out | with_reducible refine tbl_drewN ?_ _)) Try.underlying50 rfl (tbl_info v) ?_) | (refine wpList_store_row rfl 50 (.tmp 4) (.tmp 16) rfl w.heap.size (tbl v) rfl rfl 50 (tbl fun _ => false) (by repeat (first | exact H4.out | with_reducible refine tbl_drewN ?_ _)) (tbl_info v) (by rw [tbl_size, tbl_size]) (tbl_one v) ?_) | (refine wpList_store_row rfl 50 (.tmp 4) (.tmp 21) rfl w.heap.size (tbl v) rfl rfl 50 (tbl fun _ => false) (by repeat (first | exact H4.out | with_reducible refine tbl_drewN ?_ _)) (tbl_info v) (by rw [tbl_size, tbl_size]) (tbl_one v) ?_) | (refine wpList_store_row rfl 50 (.tmp 4) (.tmp 22) rfl w.heap.size (tbl v) rfl rfl 50 (tbl fun _ => false) (by repeat (first | exact H4.out | with_reducible refine tbl_drewN ?_ _)) (tbl_info v) (by rw [tbl_size, tbl_size]) (tbl_one v) ?_))
   refine bodyPost_ret (results_row_tmp2 rfl _ _ w.heap.size 50 (tbl v) (0, 0) _ rfl (setRow_heap _ _ (tbl fun _ => false) _ _ _ (tbl_drewN H4.out _)) Try.underlying50 rfl (tbl_info _) rfl) rfl ?_
   refine ⟨v, 91, rfl, below_setRow (below_dn (new_below HB.out (Nat.le_refl _) v) _) (Nat.le_refl _) _, ?_⟩
   rw [hp, hq]
  | some k =>
   have hj : (setL q 0 (-1)).isSome = true := by rw [hq]; rfl
   go_enter Try.func61, Try.ntmps61
   go_wp2_with (first | (go_at_call 65; refine (HC.out _).mono ?_; rintro e W1 ⟨v, rfl, hv, hb⟩; rw [hi]; have HV := Aside0.mk hv; have HB := Aside0.mk (pre_below hb); have H4 := Aside0.mk (old_row (pre_row hb) v); have H6 := Aside0.mk (new_row W1 v); clear hb hv) | (refine wpList_store_row rfl 50 (.tmp 6) (.tmp 11) rfl W1.heap.size (tbl v) rfl rfl 50 (tbl fun _ => false) (blk_new _ _) (tbl_info v) (by rw [tbl_size, tbl_size]) (tbl_one v) ?_) | (go_at_call 22; refine (HS.out _).mono ?_; rintro e W2 ⟨rfl, m2, rfl⟩; rw [hj]) | (refine wpList_load_row rfl 50 (.tmp 6) rfl W1.heap.size rfl 50 (tbl v) (0, 0) _ (by repeat (first | exact H6.out | with_reducible refine tbl_drewN ?_ _)) Try.underlying50 rfl (tbl_info v) ?_) | (refine wpList_store_row rfl 50 (.tmp 4) (.tmp 16) rfl w.heap.size (tbl v) rfl rfl 50 (tbl fun _ => false) (by repeat (first | exact H4.out | with_reducible refine tbl_drewN ?_ _)) (tbl_info v) (by rw [tbl_size, tbl_size]) (tbl_one v) ?_) | (refine wpList_store_row rfl 50 (.tmp 4) (.tmp 21) rfl w.heap.size (tbl v) rfl rfl 50 (tbl fun _ => false) (by repeat (first | exact H4.out | with_reducible refine tbl_drewN ?_ _)) (tbl_info v) (by rw [tbl_size, tbl_size]) (tbl_one v) ?_) | (refine wpList_store_row rfl 50 (.tmp 4) (.tmp 22) rfl w.heap.size (tbl v) rfl rfl 50 (tbl fun _ => false) (by repeat (first | exact H4.out | with_reducible refine tbl_drewN ?_ _)) (tbl_info v) (by rw [tbl_size, tbl_size]) (tbl_one v) ?_))
   refine bodyPost_ret (results_row_tmp2 rfl _ _ w.heap.size 50 (tbl v) (0, 0) _ rfl (setRow_heap _ _ (tbl fun _ => false) _ _ _ (tbl_drewN H4.out _)) Try.underlying50 rfl (tbl_info _) rfl) rfl ?_
   refine ⟨v, 0, rfl, below_setRow (below_dn (new_below HB.out (Nat.le_refl _) v) _) (Nat.le_refl _) _, ?_⟩
   rw [hp, hq]
   exact ⟨rfl, HV.out m hp⟩
end Go.Proofs.Yteikgnaikeleaaa

namespace Go.Proofs.Yteikgnaikeleaaa.XLoop
open Go.RowKit Go.Proofs.YteikgnaikeleaaaW.PrintWords Go.Proofs.YteikgnaikeleaaaW.PrintLast Go.Proofs.YteikgnaikeleaaaW.PrintMore
attribute [local go_sem] max2_int min2_int max_two min_two max_three min_three max_four min_four   -- for this text's walks alone
set_option linter.unusedVariables false
set_option linter.unusedSimpArgs false
/-! ### dropperref09_text: function 78 -/
def dropperref09_text.l0 : Nat → Int → ByteArray → Int → Option (ByteArray)
 | 0, _, _, _ => none
 | k + 1, x0, x3, x4 => if x4 < 8 then (if 0 ≤ x4 then (if (Go.bits .and .i64 (shr .i64 x0 x4) 1) = 1 then (if x4 ≤ (wrap64 (x4 + 1)) then (if (wrap64 (x4 + 1)) ≤ 8 then (if x3.size + ((⟨#[97, 98, 99, 100, 101, 102, 103, 104]⟩ : ByteArray).extract (x4 : Int).toNat ((wrap64 (x4 + 1)) : Int).toNat).size ≤ 9223372036854775807 then (dropperref09_text.l0 k x0 (x3 ++ ((⟨#[97, 98, 99, 100, 101, 102, 103, 104]⟩ : ByteArray).extract (x4 : Int).toNat ((wrap64 (x4 + 1)) : Int).toNat)) (wrap64 (x4 + 1))) else (none)) else (none)) else (none)) else (dropperref09_text.l0 k x0 x3 (wrap64 (x4 + 1)))) else (none)) else (some x3)
def dropperref09_text.f (k : Nat) (a0 : Int) : Option (ByteArray) := dropperref09_text.l0 k a0 (⟨#[]⟩ : ByteArray) 0
theorem dropperref09_text.mono_l : ∀ k, (∀ y0 y1 y2, LeO (dropperref09_text.l0 k y0 y1 y2) (dropperref09_text.l0 (k + 1) y0 y1 y2))
 | 0 => fun _ _ _ r h => by simp [dropperref09_text.l0] at h
 | k + 1 => by
  have ih0 := dropperref09_text.mono_l k
  ·
   intro y0 y1 y2
   unfold dropperref09_text.l0
   repeat' first
   | (with_reducible exact ih0 _ _ _)
   | (with_reducible exact LeO.refl _)
   | (with_reducible exact LeO.none _)
   | (with_reducible refine LeO.ite ?_ ?_)
   | (with_reducible refine LeO.bind ?_ (fun _ => ?_))
   | exact ih0 _ _ _
   | exact LeO.none _
   | refine LeO.ite ?_ ?_
   | refine LeO.bind ?_ (fun _ => ?_)
theorem dropperref09_text.mono : ∀ a0 k, LeO (dropperref09_text.f k a0) (dropperref09_text.f (k + 1) a0) := by
 intro a0 k
 have ih0 := dropperref09_text.mono_l k
 unfold dropperref09_text.f
 repeat' first
   | (with_reducible exact ih0 _ _ _)
   | (with_reducible exact LeO.refl _)
   | (with_reducible exact LeO.none _)
   | (with_reducible refine LeO.ite ?_ ?_)
   | (with_reducible refine LeO.bind ?_ (fun _ => ?_))
   | exact ih0 _ _ _
   | exact LeO.none _
   | refine LeO.ite ?_ ?_
   | refine LeO.bind ?_ (fun _ => ?_)
set_option maxHeartbeats 8000000 in
set_option maxRecDepth 100000 in
theorem dropperref09_text.calls (k : Nat) (a0 : Int) (r : ByteArray) (w : World) (h : dropperref09_text.f k a0 = some r) :
  Calls Try.prog 78 #[.int .i64 a0] w fun e w' => e = .returned (.string r) ∧ Drawn0 w w' := by
 have H : (dropperref09_text.l0 k a0 (⟨#[]⟩ : ByteArray) 0) = some r := h
 clear h
 have H' := Aside0.mk H
 clear H
 go_enter Try.func78, Try.ntmps78
 go_wp2
 go_loopg [3, 4] k (fun kq v3 v4 w' => ∃ (x3_1 : ByteArray) (x4_1 : Int), v3 = .string x3_1 ∧ v4 = .int .i64 x4_1 ∧ Aside0 (dropperref09_text.l0 kq a0 x3_1 x4_1 = some r) ∧ Aside0 (kq ≤ k) ∧ Drawn0 w w')
 case atStart => exact ⟨((⟨#[]⟩ : ByteArray)), (0), rsz, rsz, H', ⟨Nat.le_refl _⟩, drz⟩
 case round =>
  clear H'
  obtain ⟨x3_1, x4_1, rfl, rfl, HA, HK1, ⟨m1, rfl⟩⟩ := hrel
  cases gk with
  | zero => exact absurd HA.out (by simp [dropperref09_text.l0])
  | succ k1 =>
   have H := HA.out
   clear HA
   simp only [dropperref09_text.l0] at H
   by_cases c2 : x4_1 < 8
   ·
    rw [if_pos c2] at H
    have c2b0 : decide (x4_1 < 8) = true := decide_eq_true c2
    clear c2
    by_cases c3 : 0 ≤ x4_1
    ·
     rw [if_pos c3] at H
     have c3b0 := eq_true c3
     have c3b1 : decide (0 ≤ x4_1) = true := decide_eq_true c3
     clear c3
     obtain ⟨ji4, hji4⟩ : ∃ j_ : Int, (shr .i64 a0 x4_1) = j_ := ⟨_, rfl⟩
     replace H : (if (Go.bits .and .i64 (ji4) 1) = 1 then (if x4_1 ≤ (wrap64 (x4_1 + 1)) then (if (wrap64 (x4_1 + 1)) ≤ 8 then (if x3_1.size + ((⟨#[97, 98, 99, 100, 101, 102, 103, 104]⟩ : ByteArray).extract (x4_1 : Int).toNat ((wrap64 (x4_1 + 1)) : Int).toNat).size ≤ 9223372036854775807 then (dropperref09_text.l0 k1 a0 (x3_1 ++ ((⟨#[97, 98, 99, 100, 101, 102, 103, 104]⟩ : ByteArray).extract (x4_1 : Int).toNat ((wrap64 (x4_1 + 1)) : Int).toNat)) (wrap64 (x4_1 + 1))) else (none)) else (none)) else (none)) else (dropperref09_text.l0 k1 a0 x3_1 (wrap64 (x4_1 + 1)))) = some r := by first | (rw [hji4] at H; exact H) | (simp only [hji4] at H ⊢; exact H)
     have hji4_ : (a0 / 2 ^ min x4_1.toNat 64) = ji4 := hji4
     have hji4z : x4_1 ≤ 64 → (a0 / 2 ^ x4_1.toNat) = ji4 := shr_small hji4
     by_cases c5 : (Go.bits .and .i64 (ji4) 1) = 1
     ·
      rw [if_pos c5] at H
      have c5b0 : ((Go.bits .and .i64 (ji4) 1) == 1) = true := beq_iff_eq.mpr c5
      have c5b1 : ((Go.bits .and .i64 (ji4) 1) != 1) = false := bne_eq_false_iff_eq.mpr c5
      clear c5
      have c6b0 := eq_true (of_decide_eq_true asz : 0 ≤ x4_1)
      by_cases c7 : x4_1 ≤ (wrap64 (x4_1 + 1))
      ·
       rw [if_pos c7] at H
       have c7b0 := eq_true c7
       have c7b1 : decide (x4_1 ≤ (wrap64 (x4_1 + 1))) = true := decide_eq_true c7
       by_cases c8 : (wrap64 (x4_1 + 1)) ≤ 8
       ·
        rw [if_pos c8] at H
        have c8b0 := eq_true c8
        have c8b1 : decide ((wrap64 (x4_1 + 1)) ≤ 8) = true := decide_eq_true c8
        by_cases c9 : x3_1.size + ((⟨#[97, 98, 99, 100, 101, 102, 103, 104]⟩ : ByteArray).extract (x4_1 : Int).toNat ((wrap64 (x4_1 + 1)) : Int).toNat).size ≤ 9223372036854775807
        ·
         rw [if_pos c9] at H
         have c9b0 := eq_true c9
         have c9b1 : decide (x3_1.size + ((⟨#[97, 98, 99, 100, 101, 102, 103, 104]⟩ : ByteArray).extract (x4_1 : Int).toNat ((wrap64 (x4_1 + 1)) : Int).toNat).size ≤ 9223372036854775807) = true := decide_eq_true c9
         try have c9b2 : (9223372036854775807 < x3_1.size + ((⟨#[97, 98, 99, 100, 101, 102, 103, 104]⟩ : ByteArray).extract (x4_1 : Int).toNat ((wrap64 (x4_1 + 1)) : Int).toNat).size) = False := eq_false (Nat.not_lt.2 c9)
         have H' := Aside0.mk H
         clear H
         go_wp2
         go_roundg k1
         case measure => have := HK1.out; omega
         case rel => exact ⟨(x3_1 ++ ((⟨#[97, 98, 99, 100, 101, 102, 103, 104]⟩ : ByteArray).extract (x4_1 : Int).toNat ((wrap64 (x4_1 + 1)) : Int).toNat)), (wrap64 (x4_1 + 1)), rsz, rsz, H', ⟨by have := HK1.out; omega⟩, drz⟩
        ·
         rw [if_neg c9] at H
         exact absurd H (by simp)
       ·
        rw [if_neg c8] at H
        exact absurd H (by simp)
      ·
       rw [if_neg c7] at H
       exact absurd H (by simp)
     ·
      rw [if_neg c5] at H
      have c5b0 : ((Go.bits .and .i64 (ji4) 1) == 1) = false := beq_eq_false_iff_ne.mpr c5
      have c5b1 : ((Go.bits .and .i64 (ji4) 1) != 1) = true := bne_iff_ne.mpr c5
      have H' := Aside0.mk H
      clear H
      go_wp2
      go_roundg k1
      case measure => have := HK1.out; omega
      case rel => exact ⟨(x3_1), (wrap64 (x4_1 + 1)), rsz, rsz, H', ⟨by have := HK1.out; omega⟩, drz⟩
    ·
     rw [if_neg c3] at H
     exact absurd H (by simp)
   ·
    rw [if_neg c2] at H
    have c2b0 : decide (x4_1 < 8) = false := decide_eq_false c2
    clear c2
    obtain rfl := Option.some.inj H
    go_wp2
    go_ret
    exact ⟨by first | rfl | (simp; done) | (simp [*]; done), drz⟩

/-! ### dropperref09_Valid: function 21 -/
def dropperref09_Valid.f (a0 : ByteArray) : Option (Bool) := some ((parseL a0.data.toList).isSome)
theorem dropperref09_Valid.calls (a0 : ByteArray) (r : Bool) (w : World) (h : dropperref09_Valid.f a0 = some r) :
  Calls Try.prog 21 #[.string a0] w fun e w' => e = .returned (.bool r) ∧ Below w.heap.size w w' := by
 obtain rfl := Option.some.inj h
 have hc := rvalid_calls a0.data.toList w
 simp only [tx_data] at hc
 exact hc

/-! ### dropperref09_Letters: function 48 -/
def dropperref09_Letters.l0 : Nat → ByteArray → Int → Int → Option (ByteArray × Int)
 | 0, _, _, _ => none
 | k + 1, x0, x4, x5 => if x5 < (x0.size : Int) then (if 0 ≤ x5 then (if (bt x0 x5) ≥ 97 then (dropperref09_Letters.l0 k x0 (Go.bits .or .i64 x4 (shl .i64 1 (((bt x0 x5) - 97) % 256))) (wrap64 (x5 + 1))) else (dropperref09_Letters.l0 k x0 x4 (wrap64 (x5 + 1)))) else (none)) else ((dropperref09_text.f k x4).bind fun t243 => (some (t243, 0)))
def dropperref09_Letters.f (k : Nat) (a0 : ByteArray) : Option (ByteArray × Int) := (dropperref09_Valid.f a0).bind fun t242 => (if t242 = true then (dropperref09_Letters.l0 k a0 0 0) else (some ((⟨#[]⟩ : ByteArray), 90)))
set_option maxHeartbeats 8000000 in
set_option maxRecDepth 100000 in
theorem dropperref09_Letters.calls (k : Nat) (a0 : ByteArray) (r1 : ByteArray) (r2 : Int) (w : World) (h : dropperref09_Letters.f k a0 = some (r1, r2)) :
  Calls Try.prog 48 #[.string a0] w fun e w' => e = .returned (.tuple #[.string r1, .int .i64 r2]) ∧ Below w.heap.size w w' := by
 have HB := Aside0.mk (Below.refl w.heap.size w)
 have H : ((dropperref09_Valid.f a0).bind fun t242 => (if t242 = true then (dropperref09_Letters.l0 k a0 0 0) else (some ((⟨#[]⟩ : ByteArray), 90)))) = some (r1, r2) := h
 clear h
 replace H := Option.bind_eq_some_iff.mp H
 obtain ⟨t242, A20, H⟩ := H
 try dsimp only at H
 have A2 := Aside0.mk A20
 clear A20
 by_cases c3 : t242 = true
 ·
  subst c3
  rw [if_pos rfl] at H
  have H' := Aside0.mk H
  clear H
  go_enter Try.func48, Try.ntmps48
  go_wp2_with (first | ((with_reducible refine gate_callee (f := 21) rfl ?_); refine goesL_ (some 7) rfl rfl Try.func21 (by kernel_rfl) rfl #[.string a0] rfl mapz ?_; (with_reducible refine (dropperref09_Valid.calls a0 true _ A2.out).mono ?_); rintro e w4 ⟨rfl, hb⟩; refine ⟨_, rfl, ?_⟩; replace HB := Aside0.mk (below_step bel hb); clear hb))
  go_loopg [4, 5] k (fun kq v4 v5 w' => ∃ (x4_1 : Int) (x5_1 : Int), v4 = .int .i64 x4_1 ∧ v5 = .int .i64 x5_1 ∧ Aside0 (dropperref09_Letters.l0 kq a0 x4_1 x5_1 = some (r1, r2)) ∧ Aside0 (kq ≤ k) ∧ Aside0 (Below w.heap.size w w'))
  case atStart => exact ⟨(0), (0), rsz, rsz, H', ⟨Nat.le_refl _⟩, ⟨bel⟩⟩
  case round =>
   clear H'
   (try clear c2); (try clear p2); (try clear c3); (try clear c4)
   obtain ⟨x4_1, x5_1, rfl, rfl, HA, HK1, HB⟩ := hrel
   cases gk with
   | zero => exact absurd HA.out (by simp [dropperref09_Letters.l0])
   | succ k1 =>
    have H := HA.out
    clear HA
    simp only [dropperref09_Letters.l0] at H
    by_cases c5 : x5_1 < (a0.size : Int)
    ·
     rw [if_pos c5] at H
     have c5b0 : decide (x5_1 < (a0.size : Int)) = true := decide_eq_true c5
     clear c5
     by_cases c6 : 0 ≤ x5_1
     ·
      rw [if_pos c6] at H
      have c6b0 : decide (0 ≤ x5_1) = true := decide_eq_true c6
      clear c6
      by_cases c8 : (bt a0 x5_1) ≥ 97
      ·
       rw [if_pos c8] at H
       have c8b0 : decide (97 ≤ (bt a0 x5_1)) = true := decide_eq_true c8
       clear c8
       obtain ⟨ji10, hji10⟩ : ∃ j_ : Int, (shl .i64 1 (((bt a0 x5_1) - 97) % 256)) = j_ := ⟨_, rfl⟩
       replace H : (dropperref09_Letters.l0 k1 a0 (Go.bits .or .i64 x4_1 (ji10)) (wrap64 (x5_1 + 1))) = some (r1, r2) := by first | (rw [hji10] at H; exact H) | (simp only [hji10] at H ⊢; exact H)
       have hji10_ : (IntKind.i64.wrap (1 * 2 ^ min (((bt a0 x5_1) - 97) % 256).toNat 64)) = ji10 := hji10
       have hji100 : 0 ≤ (((bt a0 x5_1) - 97) % 256) := Int.emod_nonneg _ (by decide)
       have hji10z : (((bt a0 x5_1) - 97) % 256) ≤ 64 → (IntKind.i64.wrap (1 * 2 ^ (((bt a0 x5_1) - 97) % 256).toNat)) = ji10 := shl_small hji10
       have hji10u : (IntKind.i64.wrap (2 ^ min (((bt a0 x5_1) - 97) % 256).toNat 64)) = ji10 := by have h_ := hji10_; rw [Int.one_mul] at h_; exact h_
       have hji10v : (((bt a0 x5_1) - 97) % 256) ≤ 64 → (IntKind.i64.wrap (2 ^ (((bt a0 x5_1) - 97) % 256).toNat)) = ji10 := fun hle_ => by have h_ := hji10z hle_; rw [Int.one_mul] at h_; exact h_
       have hji10y : (wrap64 (1 * 2 ^ min (((bt a0 x5_1) - 97) % 256).toNat 64)) = ji10 := (i64_w _).symm.trans hji10_
       have hji10x : (((bt a0 x5_1) - 97) % 256) ≤ 64 → (wrap64 (1 * 2 ^ (((bt a0 x5_1) - 97) % 256).toNat)) = ji10 := fun h_ => (i64_w _).symm.trans (hji10z h_)
       have H' := Aside0.mk H
       clear H
       have p7 : 0 ≤ (x5_1 : Int) := of_decide_eq_true asz
       have q7 : x5_1 < (a0.size : Int) := of_decide_eq_true asz
       have hx7 := bt_at a0 x5_1
       replace p7 := eq_true p7
       replace q7 := eq_true q7
       have p9 : 0 ≤ (x5_1 : Int) := of_decide_eq_true asz
       have q9 : x5_1 < (a0.size : Int) := of_decide_eq_true asz
       have hx9 := bt_at a0 x5_1
       replace p9 := eq_true p9
       replace q9 := eq_true q9
       go_wp2
       go_roundg k1
       case measure => have := HK1.out; omega
       case rel => exact ⟨(Go.bits .or .i64 x4_1 (ji10)), (wrap64 (x5_1 + 1)), (by first | rfl | (simp; done) | (simp only [← hji10] <;> (first | rfl | simp)) | (simp [*]; done)), rsz, H', ⟨by have := HK1.out; omega⟩, ⟨bel⟩⟩
      ·
       rw [if_neg c8] at H
       have c8b0 : decide (97 ≤ (bt a0 x5_1)) = false := decide_eq_false c8
       clear c8
       have H' := Aside0.mk H
       clear H
       have p7 : 0 ≤ (x5_1 : Int) := of_decide_eq_true asz
       have q7 : x5_1 < (a0.size : Int) := of_decide_eq_true asz
       have hx7 := bt_at a0 x5_1
       replace p7 := eq_true p7
       replace q7 := eq_true q7
       go_wp2
       go_roundg k1
       case measure => have := HK1.out; omega
       case rel => exact ⟨(x4_1), (wrap64 (x5_1 + 1)), rsz, rsz, H', ⟨by have := HK1.out; omega⟩, ⟨bel⟩⟩
     ·
      rw [if_neg c6] at H
      exact absurd H (by simp)
    ·
     rw [if_neg c5] at H
     have c5b0 : decide (x5_1 < (a0.size : Int)) = false := decide_eq_false c5
     clear c5
     replace H := Option.bind_eq_some_iff.mp H
     obtain ⟨t243, A110, H⟩ := H
     try dsimp only at H
     have A11 := Aside0.mk A110
     clear A110
     simp only [Option.some.injEq, Prod.mk.injEq] at H
     obtain ⟨rfl, rfl⟩ := H
     go_wp2_with (first | ((with_reducible refine gate_callee (f := 78) rfl ?_); refine goesL_ (some 27) rfl rfl Try.func78 (by kernel_rfl) rfl #[.int .i64 x4_1] rfl mapz ?_; (with_reducible refine (dropperref09_text.calls k1 x4_1 t243 _ A11.out).mono ?_); rintro e w' ⟨rfl, ⟨nd, rfl⟩⟩; refine ⟨_, rfl, ?_⟩))
     go_ret2
     exact ⟨ezz, bel⟩
 ·
  replace c3 := Bool.eq_false_iff.mpr c3
  subst c3
  rw [if_neg (show ¬ (false = true) by decide)] at H
  simp only [Option.some.injEq, Prod.mk.injEq] at H
  obtain ⟨rfl, rfl⟩ := H
  go_enter Try.func48, Try.ntmps48
  go_wp2_with (first | ((with_reducible refine gate_callee (f := 21) rfl ?_); refine goesL_ (some 7) rfl rfl Try.func21 (by kernel_rfl) rfl #[.string a0] rfl mapz ?_; (with_reducible refine (dropperref09_Valid.calls a0 false _ A2.out).mono ?_); rintro e w12 ⟨rfl, hb⟩; refine ⟨_, rfl, ?_⟩; replace HB := Aside0.mk (below_step bel hb); clear hb))
  go_ret2
  exact ⟨ezz, bel⟩

end Go.Proofs.Yteikgnaikeleaaa.XLoop
/- Which bytes a circuit's text has; its letters, as the reference gathers them. -/
namespace Go.Proofs.Yteikgnaikeleaaa
open Go.RowKit Go.Proofs.YteikgnaikeleaaaW.PrintWords Go.Proofs.YteikgnaikeleaaaW.PrintLast Go.Proofs.YteikgnaikeleaaaW.PrintMore
set_option linter.unusedVariables false

def okB (b : UInt8) : Prop := isL b = true ∨ b.toNat < 97
def Eats (P : PF) : Prop := ∀ l m t, P l = some (m, t) → ∃ p, l = p ++ t ∧ ∀ b ∈ p, okB b
theorem parts_eats {P : PF} (hP : Eats P) : ∀ k acc l b t, partsL P k acc l = some (b, t) → ∃ p, l = p ++ t ∧ ∀ b ∈ p, okB b
 | 0, acc, l, b, t, h => by simp [partsL] at h
 | k + 1, acc, [], b, t, h => by
  simp only [partsL, Option.some.injEq, Prod.mk.injEq] at h
  exact ⟨[], by rw [← h.2]; rfl, by simp⟩
 | k + 1, acc, c :: l, b, t, h => by
  rw [partsL] at h
  split at h
  ·
   simp only [Option.some.injEq, Prod.mk.injEq] at h
   exact ⟨[], by rw [← h.2]; rfl, by simp⟩
  ·
   cases hp : P (c :: l) with
   | none => rw [hp] at h; cases h
   | some y =>
    obtain ⟨m, l'⟩ := y
    rw [hp] at h
    obtain ⟨p1, e1, o1⟩ := hP _ _ _ hp
    obtain ⟨p2, e2, o2⟩ := parts_eats hP k _ _ _ _ h
    refine ⟨p1 ++ p2, by rw [e1, e2, List.append_assoc], fun x hx => ?_⟩
    rcases List.mem_append.1 hx with hx | hx
    ·
     exact o1 x hx
    ·
     exact o2 x hx
theorem circ_eats {P : PF} (hP : Eats P) : ∀ k acc l c t, circL P k acc l = some (c, t) → ∃ p, l = p ++ t ∧ ∀ b ∈ p, okB b
 | 0, acc, l, c, t, h => by simp [circL] at h
 | k + 1, acc, l, c, t, h => by
  rw [circL] at h
  cases hp : P l with
  | none => rw [hp] at h; cases h
  | some y =>
   obtain ⟨m, l1⟩ := y
   rw [hp] at h
   simp only at h
   cases hb : partsL P (l1.length + 1) [m] l1 with
   | none => rw [hb] at h; cases h
   | some z =>
    obtain ⟨b, l2⟩ := z
    rw [hb] at h
    simp only at h
    obtain ⟨p1, e1, o1⟩ := hP _ _ _ hp
    obtain ⟨p2, e2, o2⟩ := parts_eats hP _ _ _ _ _ hb
    have o12 : ∀ x ∈ p1 ++ p2, okB x := fun x hx => by
     rcases List.mem_append.1 hx with hx | hx
     ·
      exact o1 x hx
     ·
      exact o2 x hx
    cases l2 with
    | nil =>
     simp only [Option.some.injEq, Prod.mk.injEq] at h
     exact ⟨p1 ++ p2, by rw [← h.2, e1, e2, List.append_assoc], o12⟩
    | cons d l3 =>
     simp only at h
     split at h
     ·
      rename_i hd
      obtain ⟨p3, e3, o3⟩ := circ_eats hP k _ _ _ _ h
      refine ⟨p1 ++ p2 ++ (d :: p3), by rw [e1, e2, e3]; simp, fun x hx => ?_⟩
      rcases List.mem_append.1 hx with hx | hx
      ·
       exact o12 x hx
      ·
       rcases List.mem_cons.1 hx with rfl | hx
       ·
        exact Or.inr (by rw [hd]; decide)
       ·
        exact o3 x hx
     ·
      simp only [Option.some.injEq, Prod.mk.injEq] at h
      exact ⟨p1 ++ p2, by rw [← h.2, e1, e2, List.append_assoc], o12⟩
theorem part_eats : ∀ n, Eats (pPart n)
 | 0 => fun l m t h => by simp [pPart] at h
 | n + 1 => fun l m t h => by
  cases l with
  | nil => simp [pPart] at h
  | cons b l =>
   rw [pPart_succ] at h
   split at h
   ·
    rename_i hb
    simp only [Option.some.injEq, Prod.mk.injEq] at h
    exact ⟨[b], by rw [← h.2]; rfl, fun x hx => Or.inl (by rw [List.mem_singleton.1 hx]; exact hb)⟩
   ·
    split at h
    ·
     rename_i hb
     have hb40 : b = 40 := by simpa using hb
     cases hc : circL (pPart n) (l.length + 1) [] l with
     | none => rw [hc] at h; cases h
     | some y =>
      obtain ⟨c, l2⟩ := y
      rw [hc] at h
      obtain ⟨p, e, o⟩ := circ_eats (part_eats n) _ _ _ _ _ hc
      cases l2 with
      | nil => simp at h
      | cons d l3 =>
       split at h
       ·
        rename_i c2 t2 heq
        obtain ⟨rfl, hd⟩ := Prod.mk.inj (Option.some.inj heq)
        obtain ⟨rfl, rfl⟩ := List.cons.inj hd
        simp only [Option.some.injEq, Prod.mk.injEq] at h
        refine ⟨b :: (p ++ [41]), by rw [e, ← h.2]; simp, fun x hx => ?_⟩
        rcases List.mem_cons.1 hx with rfl | hx
        ·
         exact Or.inr (by rw [hb40]; decide)
        ·
         rcases List.mem_append.1 hx with hx | hx
         ·
          exact o x hx
         ·
          exact Or.inr (by rw [List.mem_singleton.1 hx]; decide)
       ·
        cases h
    ·
     cases h
theorem parse_bytes {s : List UInt8} {m : Mean} (h : parseL s = some m) : ∀ b ∈ s, okB b := by
 unfold parseL at h
 obtain ⟨c, hc, rfl⟩ := Option.map_eq_some_iff.1 h
 unfold parseC at hc
 split at hc
 ·
  cases hq : circL (pPart (s.length + 1)) (s.length + 1) [] s with
  | none => rw [hq] at hc; cases hc
  | some y =>
   obtain ⟨c', l2⟩ := y
   rw [hq] at hc
   obtain ⟨p, e, o⟩ := circ_eats (part_eats _) _ _ _ _ _ hq
   cases l2 with
   | nil =>
    rw [List.append_nil] at e
    rw [e]; exact o
   | cons d l => simp at hc
 ·
  cases hc
/-! the letters -/
def gath (s : List UInt8) (o : Nat) : Nat := s.foldl (fun o b => if 97 ≤ b.toNat then o ||| 2 ^ (b.toNat - 97) else o) o
theorem letter_eq (b : UInt8) (h : isL b = true) (i : Nat) (hi : i < 8) : (UInt8.ofNat (97 + i) == b) = decide (b.toNat - 97 = i) := by
 have h1 := (isL_iff b).1 h
 rw [Bool.eq_iff_iff, beq_iff_eq, decide_eq_true_iff]
 constructor
 ·
  intro e
  have := congrArg UInt8.toNat e
  simp at this
  omega
 ·
  intro e
  apply UInt8.toNat_inj.1
  simp
  omega
theorem letter_ne (b : UInt8) (h : b.toNat < 97) (i : Nat) (hi : i < 8) : (UInt8.ofNat (97 + i) == b) = false := by
 rw [beq_eq_false_iff_ne]
 intro e
 have := congrArg UInt8.toNat e
 simp at this
 omega
theorem gath_bit : ∀ (s : List UInt8) (o i : Nat), (∀ b ∈ s, okB b) → i < 8 → (gath s o).testBit i = (o.testBit i || s.contains (UInt8.ofNat (97 + i)))
 | [], o, i, _, hi => by simp [gath]
 | b :: t, o, i, h, hi => by
  have ht : ∀ b ∈ t, okB b := fun x hx => h x (List.mem_cons_of_mem _ hx)
  have hb := h b (List.mem_cons_self ..)
  have hs : gath (b :: t) o = gath t (if 97 ≤ b.toNat then o ||| 2 ^ (b.toNat - 97) else o) := rfl
  rw [hs, gath_bit t _ i ht hi, List.contains_cons]
  rcases hb with hb | hb
  ·
   have h1 := (isL_iff b).1 hb
   rw [if_pos (by omega), letter_eq b hb i hi, Nat.testBit_or, Nat.testBit_two_pow]
   rw [Bool.or_assoc]
  ·
   rw [if_neg (by omega), letter_ne b hb i hi, Bool.false_or]
theorem gath_lt : ∀ (s : List UInt8) (o : Nat), (∀ b ∈ s, okB b) → o < 256 → gath s o < 256
 | [], o, _, ho => ho
 | b :: t, o, h, ho => by
  have ht : ∀ b ∈ t, okB b := fun x hx => h x (List.mem_cons_of_mem _ hx)
  have hs : gath (b :: t) o = gath t (if 97 ≤ b.toNat then o ||| 2 ^ (b.toNat - 97) else o) := rfl
  rw [hs]
  refine gath_lt t _ ht ?_
  split
  ·
   rcases h b (List.mem_cons_self ..) with hb | hb
   ·
    have h1 := (isL_iff b).1 hb
    exact or_lt ho (by omega)
   ·
    omega
  ·
   exact ho
theorem allTo_bit (s : List UInt8) (i : Nat) : ∀ j, (allTo s j).testBit i = (decide (i < j) && s.contains (UInt8.ofNat (97 + i)))
 | 0 => by simp [allTo]
 | j + 1 => by
  rw [allTo_succ]
  by_cases hj : s.contains (UInt8.ofNat (97 + j)) = true
  ·
   rw [if_pos hj, Nat.testBit_or, allTo_bit s i j, Nat.testBit_two_pow]
   by_cases hij : j = i
   ·
    subst hij; rw [hj]; simp
   ·
    have : decide (i < j + 1) = decide (i < j) := by rw [decide_eq_decide]; omega
    rw [this]; simp [hij]
  ·
   rw [if_neg hj, allTo_bit s i j]
   by_cases hij : j = i
   ·
    subst hij; rw [Bool.eq_false_iff.mpr hj]; simp
   ·
    have : decide (i < j + 1) = decide (i < j) := by rw [decide_eq_decide]; omega
    rw [this]
theorem gath_all (s : List UInt8) (h : ∀ b ∈ s, okB b) : gath s 0 = allTo s 8 := by
 apply Nat.eq_of_testBit_eq
 intro i
 by_cases hi : i < 8
 ·
  rw [gath_bit s 0 i h hi, allTo_bit, decide_eq_true hi]; simp
 ·
  have h1 : gath s 0 < 2 ^ i := Nat.lt_of_lt_of_le (gath_lt s 0 h (by decide)) (show 2 ^ 8 ≤ 2 ^ i from Nat.pow_le_pow_right (show 0 < 2 by decide) (show 8 ≤ i by omega))
  rw [Nat.testBit_lt_two_pow h1, allTo_bit, decide_eq_false hi, Bool.false_and]
theorem bits_shl (o j : Nat) (ho : o < 256) (hj : j < 8) : Go.bits .or .i64 (o : Int) (shl .i64 1 (j : Int)) = ((o ||| 2 ^ j : Nat) : Int) := by
 have h : ∀ (a : Fin 256) (i : Fin 8), Go.bits .or .i64 (a.val : Int) (shl .i64 1 (i.val : Int)) = ((a.val ||| 2 ^ i.val : Nat) : Int) := by decide +kernel
 exact h ⟨o, ho⟩ ⟨j, hj⟩
theorem leO_le {α : Type} (f : Nat → Option α) (h : ∀ k, LeO (f k) (f (k + 1))) (k j : Nat) : LeO (f k) (f (k + j)) := by
 induction j with
 | zero => exact LeO.refl _
 | succ j ih => exact ih.trans (h _)
theorem rtext_ev (n : Nat) (h : n < 256) (k : Nat) : XLoop.dropperref09_text.f (k + 9) n = some (tx (textN n)) := by
 have h9 : ∀ n : Fin 256, XLoop.dropperref09_text.f 9 n.val = some (tx (textN n.val)) := by decide +kernel
 rw [Nat.add_comm]
 exact leO_le (fun k => XLoop.dropperref09_text.f k (n : Int)) (XLoop.dropperref09_text.mono _) 9 k _ (h9 ⟨n, h⟩)
theorem rletters_ev : ∀ (t : List UInt8) (k x : Nat) (s : List UInt8) (o : Nat), s.drop x = t → s.length < 1000000000 → (∀ b ∈ t, okB b) → o < 256 → t.length < k →
  XLoop.dropperref09_Letters.l0 (k + 9) (tx s) o x = some (tx (textN (gath t o)), 0)
 | t, 0, x, s, o, hs, hm, hb, ho, hk => by simp at hk
 | [], k + 1, x, s, o, hs, hm, hb, ho, hk => by
  have : ¬ (x : Int) < ((tx s).size : Int) := by
   rw [tx_size]
   have := congrArg List.length hs
   simp at this
   omega
  rw [show k + 1 + 9 = (k + 9) + 1 from by omega, XLoop.dropperref09_Letters.l0, if_neg this, rtext_ev o ho]
  rfl
 | b :: t, k + 1, x, s, o, hs, hm, hb, ho, hk => by
  have hp : x < s.length := by
   have := congrArg List.length hs
   simp at this
   omega
  have hc := List.drop_eq_getElem_cons hp
  rw [hs] at hc
  obtain ⟨hbb, ht⟩ := List.cons.inj hc
  have h1 : (x : Int) < ((tx s).size : Int) := by rw [tx_size]; omega
  have hbt : bt (tx s) (x : Int) = (b.toNat : Int) := by rw [bt_tx s x hp, ← hbb]
  have hw : wrap64 ((x : Int) + 1) = ((x + 1 : Nat) : Int) := by unfold wrap64; omega
  have hb' : ∀ b ∈ t, okB b := fun x hx => hb x (List.mem_cons_of_mem _ hx)
  have hg : gath (b :: t) o = gath t (if 97 ≤ b.toNat then o ||| 2 ^ (b.toNat - 97) else o) := rfl
  rw [show k + 1 + 9 = (k + 9) + 1 from by omega, XLoop.dropperref09_Letters.l0, if_pos h1, if_pos (Int.natCast_nonneg x), hbt, hw, hg]
  rcases hb b (List.mem_cons_self ..) with hi | hi
  ·
   have h2 := (isL_iff b).1 hi
   have e : ((b.toNat : Int) - 97) % 256 = ((b.toNat - 97 : Nat) : Int) := by omega
   rw [if_pos (by omega), if_pos (by omega), e, bits_shl o _ ho (by omega)]
   exact rletters_ev t k (x + 1) s _ ht.symm hm hb' (or_lt ho (by omega)) (by simp at hk; omega)
  ·
   rw [if_neg (by omega), if_neg (by omega)]
   exact rletters_ev t k (x + 1) s o ht.symm hm hb' ho (by simp at hk; omega)
end Go.Proofs.Yteikgnaikeleaaa

namespace Go.Proofs.Yteikgnaikeleaaa
open Go.RowKit Go.Proofs.YteikgnaikeleaaaW.PrintWords Go.Proofs.YteikgnaikeleaaaW.PrintLast Go.Proofs.YteikgnaikeleaaaW.PrintMore
set_option linter.unusedVariables false

theorem rtext_calls (n : Nat) (h : n < 256) (W : World) : Calls Try.prog 78 #[.int .i64 n] W fun e w' => e = .returned (.string (tx (textN n))) ∧ Drawn0 W w' :=
 XLoop.dropperref09_text.calls 9 (n : Int) _ W (rtext_ev n h 0)
theorem textN_size (n : Nat) (h : n < 256) : (textN n).length = sizeN n := by
 have h9 : ∀ n : Fin 256, (textN n.val).length = sizeN n.val := by decide +kernel
 exact h9 ⟨n, h⟩
set_option maxHeartbeats 8000000 in
set_option maxRecDepth 1000000 in
theorem rsize_calls (n : Nat) (h : n < 256) (W : World) : Calls Try.prog 84 #[.int .i64 n] W fun e w' => e = .returned (.int .i64 (sizeN n)) ∧ Drawn0 W w' := by
 have HT := Aside0.mk (rtext_calls n h)
 have HS : Aside0 ((tx (textN n)).size = sizeN n) := ⟨by rw [tx_size, textN_size n h]⟩
 clear h
 generalize tx (textN n) = b at HT HS
 go_enter Try.func84, Try.ntmps84
 go_wp2_with (go_at_call 78; refine (HT.out _).mono ?_; rintro e W' ⟨rfl, m, rfl⟩)
 go_ret
 rw [HS.out]
 exact ⟨rfl, _, rfl⟩
def gtT (a b : Fin 256) : Bool := !(Op.bytesLess (textN a.val) (textN b.val) || textN a.val == textN b.val)
theorem gtr_text (a b : List UInt8) : binOp .gtr 9 (.string (tx a)) (.string (tx b)) = pure (.bool !(Op.bytesLess a b || a == b)) := by
 have e : ∀ l, (tx l).toList = l := tx_toList
 simp [binOp, Op.stringOp, e]
def posT (l : List (Fin 256)) (n : Fin 256) : Nat → Nat
 | 0 => 0
 | k + 1 => match l[k]? with
  | some a => if gtT a n then posT l n k else k + 1
  | none => k + 1
def insT (l : List (Fin 256)) (n : Fin 256) : List (Fin 256) := l.take (posT l n l.length) ++ ([n] ++ l.drop (posT l n l.length))
def fins : List (Fin 256) := List.finRange 256
def stepT (k : Nat) (l : List (Fin 256)) (n : Fin 256) : List (Fin 256) := if sizeN n.val = k then insT l n else l
def groupT (k x : Nat) : List (Fin 256) := (fins.take x).foldl (stepT k) []
def allT : Nat → List (Fin 256)
 | 0 => []
 | k + 1 => allT k ++ groupT k 256
theorem allT_order : allT 9 = orderF := by decide +kernel
theorem below_grown {W w1 : World} (h : W.grownBy w1 none) : Below W.heap.size W w1 := by
 obtain ⟨h1, h2, h3, h4, h5⟩ := h
 exact ⟨h1, h2, h3, h4, fun k hk => h5 k hk (by simp)⟩
theorem C_none (W : World) : fKd.C W none 0 [] := Kd.C_nil fKd W
theorem posT_le (l : List (Fin 256)) (n : Fin 256) : ∀ k, posT l n k ≤ k
 | 0 => Nat.le_refl _
 | k + 1 => by
  rw [posT]
  split
  ·
   split
   ·
    exact Nat.le_succ_of_le (posT_le l n k)
   ·
    exact Nat.le_refl _
  ·
   exact Nat.le_refl _
theorem insT_len (l : List (Fin 256)) (n : Fin 256) : (insT l n).length = l.length + 1 := by
 have := posT_le l n l.length
 simp [insT]
 omega
theorem fins_len : fins.length = 256 := List.length_finRange
theorem fins_at (x : Nat) (h : x < 256) : fins[x]'(by rw [fins_len]; exact h) = ⟨x, h⟩ := List.getElem_finRange _
theorem groupT_succ (k x : Nat) (h : x < 256) : groupT k (x + 1) = stepT k (groupT k x) ⟨x, h⟩ := by
 unfold groupT
 rw [List.take_succ_eq_append_getElem (by rw [fins_len]; exact h), List.foldl_append, fins_at x h]
 rfl
theorem groupT_len (k : Nat) : ∀ x, x ≤ 256 → (groupT k x).length ≤ x
 | 0, _ => by simp [groupT]
 | x + 1, h => by
  have := groupT_len k x (by omega)
  rw [groupT_succ k x (by omega), stepT]
  split
  ·
   rw [insT_len]; omega
  ·
   omega
theorem allT_len : ∀ k, (allT k).length ≤ 256 * k
 | 0 => Nat.le_refl _
 | k + 1 => by
  have h1 := allT_len k
  have h2 := groupT_len k 256 (Nat.le_refl _)
  rw [allT, List.length_append]
  omega
set_option maxHeartbeats 8000000 in
set_option maxRecDepth 1000000 in
theorem all_calls (w : World) : Calls Try.prog 77 #[] w fun e w' => ∃ v, e = .returned v ∧ fKd.R 3 w' w.heap.size (fun _ => True) v orderF ∧ Below w.heap.size w w' := by
 go_enter Try.func77, Try.ntmps77
 go_wp2
 go_loopg [1, 2] 10 (fun kq v1 v2 W => ∃ k : Nat, v2 = .int .i64 k ∧ Aside0 (k + kq = 10) ∧ Aside0 (k ≤ 9) ∧ Aside0 (fKd.R 3 W w.heap.size (fun _ => True) v1 (allT k)) ∧ Aside0 (Below w.heap.size w W))
 case atStart => exact ⟨0, rfl, ⟨rfl⟩, ⟨by decide⟩, ⟨Kd.R_nil _ _ _ _ _⟩, ⟨Below.refl _ _⟩⟩
 case round =>
  obtain ⟨k, rfl, HK, HK9, HO, HB⟩ := hrel
  by_cases hk : k ≤ 8
  ·
   have h1 : decide ((k : Int) ≤ 8) = true := decide_eq_true (by omega)
   have HK8 := Aside0.mk hk
   have hnk : wrap64 ((k : Int) + 1) = ((k + 1 : Nat) : Int) := by unfold wrap64; omega
   clear hk
   go_wp2
   go_loopg [3, 4] 257 (fun kq v3 v4 W => ∃ (x : Nat) (A : Option Addr) (c : Nat), v4 = .int .i64 x ∧ v3 = .slice A (groupT k x).length c ∧ Aside0 (x + kq = 257) ∧ Aside0 (x ≤ 256) ∧ Aside0 ((groupT k x).length ≤ c) ∧ Aside0 (fKd.C W A (groupT k x).length (groupT k x)) ∧ Aside0 (Below wr.heap.size wr W))
   case atStart => exact ⟨0, none, 0, rfl, rfl, ⟨rfl⟩, ⟨by decide⟩, ⟨Nat.le_refl _⟩, ⟨C_none _⟩, ⟨Below.refl _ _⟩⟩
   case round =>
    obtain ⟨x, A, c, rfl, rfl, HQ, HX, HC, HR, HBI⟩ := hrel
    have HGL := Aside0.mk (groupT_len k x HX.out)
    by_cases hx : x < 256
    ·
     have h2 : decide ((x : Int) < 256) = true := decide_eq_true (by omega)
     have hnx := next_nat x hx
     have HX1 := Aside0.mk hx
     have HSZ := Aside0.mk (rsize_calls x hx)
     by_cases hs : sizeN x = k
     ·
      have h3 : ((sizeN x : Int) != (k : Int)) = false := by simp [hs]
      obtain ⟨n, hn⟩ : ∃ n : Fin 256, n = ⟨x, hx⟩ := ⟨_, rfl⟩
      have HN : Aside0 (n.val = x) := ⟨by rw [hn]⟩
      have HG2 : Aside0 (groupT k (x + 1) = insT (groupT k x) n) := ⟨by rw [groupT_succ k x hx, stepT, if_pos hs, hn]⟩
      clear hs hn hx
      generalize groupT k x = l at HG2 HGL HC HR
      go_wp2_with (go_at_call 84; refine (HSZ.out _).mono ?_; rintro e W' ⟨rfl, m, rfl⟩)
      go_loopg [5] (l.length + 1) (fun kq v5 W => ∃ (y m : Nat), v5 = .int .i64 y ∧ W = wr.drewN m ∧ Aside0 (y + 1 = kq) ∧ Aside0 (y ≤ l.length) ∧ Aside0 (posT l n y = posT l n l.length))
      case atStart => exact ⟨l.length, m, rfl, rfl, ⟨rfl⟩, ⟨Nat.le_refl _⟩, ⟨rfl⟩⟩
      case round =>
       obtain ⟨y, m, rfl, rfl, HY, HYL, HP⟩ := hrel
       obtain _ | y := y
       ·
        have HP0 : Aside0 (posT l n l.length = 0) := ⟨HP.out.symm⟩
        go_wp2
        have HPL : Aside0 (0 ≤ l.length) := ⟨by rw [← HP0.out]; exact posT_le l n _⟩
        have HPC : Aside0 (0 ≤ c) := ⟨Nat.le_trans HPL.out HC.out⟩
        have HTK : Aside0 (fKd.C wr A 0 (l.take 0)) := ⟨by have h := Kd.C_take HR.out HPL.out; rw [List.length_take, Nat.min_eq_left HPL.out] at h; exact h⟩
        obtain ⟨A3, hA3⟩ : ∃ A3, A3 = (if c = 0 then A else A.map (·.add (0 * 1))) := ⟨_, rfl⟩
        have HDR : Aside0 (fKd.C wr A3 (l.length - 0) (l.drop 0)) := ⟨by rw [hA3]; have h := Kd.C_drop HR.out HPL.out HC.out; rw [List.length_drop] at h; exact h⟩
        have HA3 := Aside0.mk hA3
        clear hA3
        have HAN : Aside0 (A = none → 0 = 0) := ⟨fun _ => rfl⟩
        have HIN : Aside0 (insT l n = l.take 0 ++ ([n] ++ l.drop 0)) := ⟨by unfold insT; rw [HP0.out]⟩
        refine start_ (n := 12) (S := fun _ => True) (ds := []) #[false, false, false, false, false, false, false, false, false, false, false, false] (by kernel_rfl) rfl rfl trivial (fun hHeld => ?_)
        refine pst (i := 0) (N := some 35) (bz 12 1) (by kernel_rfl) ?_
        refine pst (i := 1) (N := some 36) (bz 12 3) (by kernel_rfl) ?_
        refine pst (i := 2) (N := some 37) (bz 12 7) (by kernel_rfl) ?_
        refine pst (i := 3) (N := some 38) (v := .slice A (0) (0)) (bz 12 15) (by kernel_rfl) ?_ (hy := Or.inl ⟨by rfl, fun w' => exec_cut3 rfl rfl rfl rfl HPC.out⟩)
        refine pst (i := 4) (N := some 39) (bz 12 31) (by kernel_rfl) ?_
        refine pst (i := 6) (N := some 41) (bz 12 95) (by kernel_rfl) ?_
        refine pst (i := 7) (N := some 42) (bz 12 223) (by kernel_rfl) ?_
        refine pst (i := 8) (N := some 43) (v := .slice A3 (l.length - 0) (c - 0)) (bz 12 479) (by kernel_rfl) ?_ (hy := Or.inl ⟨by rfl, fun w' => by rw [HA3.out]; exact exec_from rfl rfl rfl HPL.out HC.out⟩)
        have HE : Aside0 (encF n = .int .i64 (x : Nat)) := ⟨by show Value.int .i64 ((n.val : Nat) : Int) = _; rw [HN.out]⟩
        refine one_ (i := 5) (N := some 40) (bz 12 511) rfl rfl (by kernel_rfl) (by decide) (fun K hK => ?_)
        refine Kd.R_lit_step fKd (w0 := wr) wr.heap.size 3 ?hg (N := 40) ?hd (xs := [n]) (inner := [.int .i64 (x : Nat)]) (ok := fun _ => True) (okp := fun _ => False) ?hr ?hp (fun _ hk => hk.elim) trivial (below_drew1 (below_dn (Below.refl _ wr) _)) (Nat.le_refl _) (by simp) ?_
        case hd => rfl
        case hg => rfl
        case hr => first | (go_simp; done) | (go_simp; rfl)
        case hp => exact Reps.snoc (Reps.none _ _) (show [Value.int .i64 (x : Nat)] = [encF n] by rw [HE.out]) rfl
        intro v40 w40 hO hB hG hat
        have HO40 := Aside0.mk hO
        have HB40 := Aside0.mk hB
        clear hO hB hG hat
        refine hK.out _ _ trivial (fun hHeld => ?_)
        clear hK K
        refine norm_ (a' := ?_) ?_ ?_
        rotate_left
        ·
         simp only [Act.put]
         rfl
        refine one_ (i := 9) (N := some 44) (bz 12 1023) rfl rfl (by kernel_rfl) (by decide) (fun K hK => ?_)
        refine Kd.R_append_rows_step fKd (Rr := fKd.K w40) (w0 := wr) wr.heap.size (by rfl) (.tmp 40) (.tmp 43) 46 3 (.int .i64 0) 8 rfl Try.underlying46 info3 rfl Nat.one_pos (by omega) v40 [n] (l.drop 0) _ _ _ (fun _ => True) (fun _ => False) rfl rfl HO40.out (Kd.C_below HDR.out HB40.out) (fun _ _ h => h) (fun _ h => h.elim) (fun _ _ => trivial) HB40.out HB40.out.size (by have := HGL.out; have := HX1.out; simp; omega) ?_
        intro v44 w44 hO hB hG hat
        obtain ⟨ad4, c4, rfl⟩ := Kd.R_slice1 hO (by simp)
        obtain ⟨_, _, hC4⟩ := Kd.R_reads' hO
        have HC4 := Aside0.mk hC4
        have HB44 := Aside0.mk hB
        clear hO hB hG hat hC4
        refine hK.out _ _ trivial (fun hHeld => ?_)
        clear hK K
        refine norm_ (a' := ?_) ?_ ?_
        rotate_left
        ·
         simp only [Act.put]
         rfl
        refine one_ (i := 10) (N := some 45) (bz 12 2047) rfl rfl (by kernel_rfl) (by decide) (fun K hK => ?_)
        refine ap_full rfl (.tmp 38) (.tmp 44) rfl A 0 (l.take 0) rfl HAN.out (Kd.C_below HTK.out HB44.out) ad4 _ c4 ([n] ++ l.drop 0) rfl HC4.out (by simp) (by have := HGL.out; have := HX1.out; have := HPL.out; simp; omega) ?_
        intro v45 w45 hO hG
        rw [← HIN.out, ← HG2.out] at hO
        obtain ⟨A5, c5, rfl, hc5, hr5⟩ := Kd.R_reads hO
        have HC5 := Aside0.mk hc5
        have HR5 := Aside0.mk hr5
        have HB5 := Aside0.mk (below_step HB44.out (below_grown hG))
        clear hO hG hc5 hr5
        refine hK.out _ _ trivial (fun hHeld => ?_)
        clear hK K
        refine norm_ (a' := ?_) ?_ ?_
        rotate_left
        ·
         simp only [Act.put]
         rfl
        refine pst (i := 11) (N := some 3) (bz 12 4095) (by kernel_rfl) ?_
        refine done_ (by kernel_rfl) ?_
        go_wp2
        go_roundg (256 - x)
        case measure => have := HQ.out; have := HX1.out; omega
        case rel => exact ⟨x + 1, A5, c5, by first | rfl | rw [hnx], rfl, ⟨by have := HX1.out; have := HQ.out; omega⟩, ⟨HX1.out⟩, HC5, HR5, ⟨below_step HBI.out HB5.out⟩⟩
       ·
        have hyl : y < l.length := HYL.out
        obtain ⟨ad, rfl, hcell⟩ := row_at HR.out y hyl
        have h4 : decide ((0 : Int) < ((y + 1 : Nat) : Int)) = true := decide_eq_true (by omega)
        have h5 : wrap64 (y : Int) = (y : Int) := by unfold wrap64; have := HGL.out; have := HX1.out; omega
        have h6 : (0 : Int) ≤ (y : Int) ∧ (y : Int) < (l.length : Int) := by omega
        have hp := HP.out
        rw [posT, List.getElem?_eq_getElem hyl] at hp
        simp only at hp
        generalize l[y] = q at hp hcell
        have HT1 := Aside0.mk (rtext_calls q.val q.isLt)
        have HT2 := Aside0.mk (rtext_calls n.val n.isLt)
        rw [HN.out] at HT2
        have hgt := gtr_text (textN q.val) (textN n.val)
        rw [show (!(Op.bytesLess (textN q.val) (textN n.val) || textN q.val == textN n.val)) = gtT q n from rfl, HN.out] at hgt
        by_cases hg : gtT q n = true
        ·
         rw [hg] at hgt
         rw [if_pos hg] at hp
         have HP2 := Aside0.mk hp
         clear hp hg
         go_wp2_with (first | (go_at_call 78; refine (HT1.out _).mono ?_; rintro e W' ⟨rfl, m1, rfl⟩; clear HT1) | (go_at_call 78; refine (HT2.out _).mono ?_; rintro e W' ⟨rfl, m2, rfl⟩))
         go_roundg (y + 1)
         case measure => have := HY.out; omega
         case rel => exact ⟨y, _, by first | rfl | rw [h5], rfl, ⟨by have := HY.out; omega⟩, ⟨by have := HYL.out; omega⟩, HP2⟩
        ·
         rw [Bool.eq_false_iff.mpr hg] at hgt
         rw [if_neg hg] at hp
         have HP2 := Aside0.mk hp
         clear hp hg
         go_wp2_with (first | (go_at_call 78; refine (HT1.out _).mono ?_; rintro e W' ⟨rfl, m1, rfl⟩; clear HT1) | (go_at_call 78; refine (HT2.out _).mono ?_; rintro e W' ⟨rfl, m2, rfl⟩))
         have HP0 : Aside0 (posT l n l.length = y + 1) := ⟨HP2.out.symm⟩
         have HPL : Aside0 ((y + 1) ≤ l.length) := ⟨by rw [← HP0.out]; exact posT_le l n _⟩
         have HPC : Aside0 ((y + 1) ≤ c) := ⟨Nat.le_trans HPL.out HC.out⟩
         have HTK : Aside0 (fKd.C wr (some ad) (y + 1) (l.take (y + 1))) := ⟨by have h := Kd.C_take HR.out HPL.out; rw [List.length_take, Nat.min_eq_left HPL.out] at h; exact h⟩
         obtain ⟨A3, hA3⟩ : ∃ A3, A3 = (if c = (y + 1) then (some ad) else (some ad).map (·.add ((y + 1) * 1))) := ⟨_, rfl⟩
         have HDR : Aside0 (fKd.C wr A3 (l.length - (y + 1)) (l.drop (y + 1))) := ⟨by rw [hA3]; have h := Kd.C_drop HR.out HPL.out HC.out; rw [List.length_drop] at h; exact h⟩
         have HA3 := Aside0.mk hA3
         clear hA3
         have HAN : Aside0 ((some ad) = none → (y + 1) = 0) := ⟨fun hA => by cases hA⟩
         have HIN : Aside0 (insT l n = l.take (y + 1) ++ ([n] ++ l.drop (y + 1))) := ⟨by unfold insT; rw [HP0.out]⟩
         refine start_ (n := 12) (S := fun _ => True) (ds := []) #[false, false, false, false, false, false, false, false, false, false, false, false] (by kernel_rfl) rfl rfl trivial (fun hHeld => ?_)
         refine pst (i := 0) (N := some 35) (bz 12 1) (by kernel_rfl) ?_
         refine pst (i := 1) (N := some 36) (bz 12 3) (by kernel_rfl) ?_
         refine pst (i := 2) (N := some 37) (bz 12 7) (by kernel_rfl) ?_
         refine pst (i := 3) (N := some 38) (v := .slice (some ad) (y + 1) (y + 1)) (bz 12 15) (by kernel_rfl) ?_ (hy := Or.inl ⟨by rfl, fun w' => exec_cut3 rfl rfl rfl rfl HPC.out⟩)
         refine pst (i := 4) (N := some 39) (bz 12 31) (by kernel_rfl) ?_
         refine pst (i := 6) (N := some 41) (bz 12 95) (by kernel_rfl) ?_
         refine pst (i := 7) (N := some 42) (bz 12 223) (by kernel_rfl) ?_
         refine pst (i := 8) (N := some 43) (v := .slice A3 (l.length - (y + 1)) (c - (y + 1))) (bz 12 479) (by kernel_rfl) ?_ (hy := Or.inl ⟨by rfl, fun w' => by rw [HA3.out]; exact exec_from rfl rfl rfl HPL.out HC.out⟩)
         have HE : Aside0 (encF n = .int .i64 (x : Nat)) := ⟨by show Value.int .i64 ((n.val : Nat) : Int) = _; rw [HN.out]⟩
         refine one_ (i := 5) (N := some 40) (bz 12 511) rfl rfl (by kernel_rfl) (by decide) (fun K hK => ?_)
         refine Kd.R_lit_step fKd (w0 := wr) wr.heap.size 3 ?hg (N := 40) ?hd (xs := [n]) (inner := [.int .i64 (x : Nat)]) (ok := fun _ => True) (okp := fun _ => False) ?hr ?hp (fun _ hk => hk.elim) trivial (below_drew1 (below_dn (Below.refl _ wr) _)) (Nat.le_refl _) (by simp) ?_
         case hd => rfl
         case hg => rfl
         case hr => first | (go_simp; done) | (go_simp; rfl)
         case hp => exact Reps.snoc (Reps.none _ _) (show [Value.int .i64 (x : Nat)] = [encF n] by rw [HE.out]) rfl
         intro v40 w40 hO hB hG hat
         have HO40 := Aside0.mk hO
         have HB40 := Aside0.mk hB
         clear hO hB hG hat
         refine hK.out _ _ trivial (fun hHeld => ?_)
         clear hK K
         refine norm_ (a' := ?_) ?_ ?_
         rotate_left
         ·
          simp only [Act.put]
          rfl
         refine one_ (i := 9) (N := some 44) (bz 12 1023) rfl rfl (by kernel_rfl) (by decide) (fun K hK => ?_)
         refine Kd.R_append_rows_step fKd (Rr := fKd.K w40) (w0 := wr) wr.heap.size (by rfl) (.tmp 40) (.tmp 43) 46 3 (.int .i64 0) 8 rfl Try.underlying46 info3 rfl Nat.one_pos (by omega) v40 [n] (l.drop (y + 1)) _ _ _ (fun _ => True) (fun _ => False) rfl rfl HO40.out (Kd.C_below HDR.out HB40.out) (fun _ _ h => h) (fun _ h => h.elim) (fun _ _ => trivial) HB40.out HB40.out.size (by have := HGL.out; have := HX1.out; simp; omega) ?_
         intro v44 w44 hO hB hG hat
         obtain ⟨ad4, c4, rfl⟩ := Kd.R_slice1 hO (by simp)
         obtain ⟨_, _, hC4⟩ := Kd.R_reads' hO
         have HC4 := Aside0.mk hC4
         have HB44 := Aside0.mk hB
         clear hO hB hG hat hC4
         refine hK.out _ _ trivial (fun hHeld => ?_)
         clear hK K
         refine norm_ (a' := ?_) ?_ ?_
         rotate_left
         ·
          simp only [Act.put]
          rfl
         refine one_ (i := 10) (N := some 45) (bz 12 2047) rfl rfl (by kernel_rfl) (by decide) (fun K hK => ?_)
         refine ap_full rfl (.tmp 38) (.tmp 44) rfl (some ad) (y + 1) (l.take (y + 1)) rfl HAN.out (Kd.C_below HTK.out HB44.out) ad4 _ c4 ([n] ++ l.drop (y + 1)) rfl HC4.out (by simp) (by have := HGL.out; have := HX1.out; have := HPL.out; simp; omega) ?_
         intro v45 w45 hO hG
         rw [← HIN.out, ← HG2.out] at hO
         obtain ⟨A5, c5, rfl, hc5, hr5⟩ := Kd.R_reads hO
         have HC5 := Aside0.mk hc5
         have HR5 := Aside0.mk hr5
         have HB5 := Aside0.mk (below_step HB44.out (below_grown hG))
         clear hO hG hc5 hr5
         refine hK.out _ _ trivial (fun hHeld => ?_)
         clear hK K
         refine norm_ (a' := ?_) ?_ ?_
         rotate_left
         ·
          simp only [Act.put]
          rfl
         refine pst (i := 11) (N := some 3) (bz 12 4095) (by kernel_rfl) ?_
         refine done_ (by kernel_rfl) ?_
         go_wp2
         go_roundg (256 - x)
         case measure => have := HQ.out; have := HX1.out; omega
         case rel => exact ⟨x + 1, A5, c5, by first | rfl | rw [hnx], rfl, ⟨by have := HX1.out; have := HQ.out; omega⟩, ⟨HX1.out⟩, HC5, HR5, ⟨below_step HBI.out HB5.out⟩⟩
     ·
      have h3 : ((sizeN x : Int) != (k : Int)) = true := by simp; omega
      have HG2 : Aside0 (groupT k (x + 1) = groupT k x) := ⟨by rw [groupT_succ k x hx, stepT, if_neg hs]⟩
      clear hs hx
      go_wp2_with (go_at_call 84; refine (HSZ.out _).mono ?_; rintro e W' ⟨rfl, m, rfl⟩)
      go_roundg (256 - x)
      case measure => have := HQ.out; have := HX1.out; omega
      case rel => exact ⟨x + 1, A, c, by first | rfl | rw [hnx], by rw [HG2.out], ⟨by have := HX1.out; have := HQ.out; omega⟩, ⟨HX1.out⟩, by rw [HG2.out]; exact HC, by rw [HG2.out]; exact HR, ⟨below_dn HBI.out _⟩⟩
    ·
     have h2 : decide ((x : Int) < 256) = false := decide_eq_false (by omega)
     have hx8 : x = 256 := by have := HX.out; omega
     subst hx8
     have HO1 := Aside0.mk (Kd.R_below HO.out HBI.out)
     have HB1 := Aside0.mk (below_step HB.out HBI.out)
     have HAL := Aside0.mk (allT_len k)
     go_wp2_with ((with_reducible refine gate_builtin (b := .append) (xs := #[.tmp 46, .tmp 47]) rfl ?_); at_builtin; refine Kd.R_append_rows fKd (Rr := fKd.K wr) (w0 := w) w.heap.size rfl (.tmp 46) (.tmp 47) 46 3 (.int .i64 0) 8 rfl Try.underlying46 info3 rfl Nat.one_pos (by omega) u1 (allT k) (groupT k 256) _ _ _ (fun _ => True) (fun _ => False) rfl rfl HO1.out HR.out (fun _ _ h => h) (fun _ h => h.elim) (fun _ _ => trivial) HB1.out HB1.out.size (by have := HAL.out; have := HGL.out; have := HK8.out; omega) ?_; intro v9 w9 ho hb hg hat; have HO9 := Aside0.mk ho; have HB9 := Aside0.mk hb; clear ho hb hg hat)
     go_roundg (9 - k)
     case measure => have := HK.out; have := HK8.out; omega
     case rel => exact ⟨k + 1, by first | rfl | rw [hnk], ⟨by have := HK8.out; omega⟩, ⟨by have := HK8.out; omega⟩, HO9, HB9⟩
  ·
   have h1 : decide ((k : Int) ≤ 8) = false := decide_eq_false (by omega)
   have hk9 : k = 9 := by have := HK9.out; omega
   subst hk9
   rw [allT_order] at HO
   go_wp2
   go_ret
   exact ⟨_, rfl, HO.out, HB.out⟩
end Go.Proofs.Yteikgnaikeleaaa

/- The least sets, as the reference finds them: one that conducts, and without any letter of it none does. -/
namespace Go.Proofs.Yteikgnaikeleaaa
set_option linter.unusedVariables false

def minF (f : Nat → Bool) (n : Fin 256) : Bool := f n.val && (List.range 8).all (fun i => !(n.val.testBit i && f (n.val - 2 ^ i)))
theorem less_bit (n i j : Nat) (hn : n < 256) (hi : i < 8) (hb : n.testBit i = true) (hj : j < 8) : (n - 2 ^ i).testBit j = (n.testBit j && decide (j ≠ i)) := by
 have h : ∀ (n : Fin 256) (i j : Fin 8), n.val.testBit i.val = true → (n.val - 2 ^ i.val).testBit j.val = (n.val.testBit j.val && decide (j.val ≠ i.val)) := by decide +kernel
 exact h ⟨n, hn⟩ ⟨i, hi⟩ ⟨j, hj⟩ hb
theorem less_lt (n i : Nat) (hn : n < 256) (hi : i < 8) (hb : n.testBit i = true) : n - 2 ^ i < n := by
 have h : ∀ (n : Fin 256) (i : Fin 8), n.val.testBit i.val = true → n.val - 2 ^ i.val < n.val := by decide +kernel
 exact h ⟨n, hn⟩ ⟨i, hi⟩ hb
theorem bit_lt (a j : Nat) (ha : a < 256) (h : a.testBit j = true) : j < 8 := by
 rcases Nat.lt_or_ge j 8 with h1 | h1
 ·
  exact h1
 ·
  have : a < 2 ^ j := Nat.lt_of_lt_of_le ha (show 2 ^ 8 ≤ 2 ^ j from Nat.pow_le_pow_right (show 0 < 2 by decide) h1)
  rw [Nat.testBit_lt_two_pow this] at h
  cases h
theorem bit_255 (j : Nat) (h : j < 8) : Nat.testBit 255 j = true := by
 have : ∀ i : Fin 8, Nat.testBit 255 i.val = true := by decide
 exact this ⟨j, h⟩
theorem part_iff (a n : Nat) (ha : a < 256) (hn : n < 256) : partOf a n = true ↔ ∀ j, a.testBit j = true → n.testBit j = true := by
 unfold partOf
 rw [beq_iff_eq]
 constructor
 ·
  intro h j hj
  have h2 := congrArg (fun x => Nat.testBit x j) h
  simp only [Nat.testBit_and, Nat.testBit_xor, hj, bit_255 j (bit_lt a j ha hj), Nat.zero_testBit, Bool.true_and, Bool.true_xor, Bool.not_eq_eq_eq_not, Bool.not_false] at h2
  exact h2
 ·
  intro h
  apply Nat.eq_of_testBit_eq
  intro j
  rw [Nat.testBit_and, Nat.testBit_xor, Nat.zero_testBit]
  cases h1 : a.testBit j with
  | false => rfl
  | true => rw [h j h1, bit_255 j (bit_lt a j ha h1)]; rfl
theorem order_part : orderF.Pairwise (fun x y => ¬ (partOf y.val x.val = true ∧ y ≠ x)) := by decide +kernel
theorem all_inF : ∀ n : Fin 256, n ∈ orderF := by decide +kernel
theorem order_nodup : orderF.Nodup := by decide +kernel
theorem min_below (f : Nat → Bool) : ∀ (m : Nat) (hm : m < 256), f m = true → ∃ a : Fin 256, minF f a = true ∧ partOf a.val m = true := by
 intro m
 induction m using Nat.strongRecOn with
 | _ m ih =>
  intro hm hf
  by_cases h : minF f ⟨m, hm⟩ = true
  ·
   exact ⟨⟨m, hm⟩, h, (part_iff m m hm hm).2 (fun _ h => h)⟩
  ·
   have h' : (List.range 8).all (fun i => !(m.testBit i && f (m - 2 ^ i))) = false := by
    refine Bool.eq_false_iff.mpr (fun e => h ?_)
    show (f m && (List.range 8).all (fun i => !(m.testBit i && f (m - 2 ^ i)))) = true
    rw [hf, e]; rfl
   obtain ⟨i, hi8, h1⟩ := List.all_eq_false.1 h'
   have hi := List.mem_range.1 hi8
   have h2 : (m.testBit i && f (m - 2 ^ i)) = true := by
    cases hx : (m.testBit i && f (m - 2 ^ i)) with
    | true => rfl
    | false => rw [hx] at h1; exact absurd rfl h1
   obtain ⟨h1, h2⟩ := (Bool.and_eq_true _ _).mp h2
   have hl := less_lt m i hm hi h1
   obtain ⟨a, h3, h4⟩ := ih (m - 2 ^ i) hl (by omega) h2
   refine ⟨a, h3, (part_iff _ _ a.isLt hm).2 (fun j hj => ?_)⟩
   have h5 := (part_iff _ _ a.isLt (show m - 2 ^ i < 256 by omega)).1 h4 j hj
   rw [less_bit m i j hm hi h1 (bit_lt _ _ a.isLt hj), Bool.and_eq_true] at h5
   exact h5.1
theorem part_less (a n i : Nat) (ha : a < 256) (hn : n < 256) (hi : i < 8) (hb : n.testBit i = true) (hp : partOf a n = true) (h0 : a.testBit i = false) : partOf a (n - 2 ^ i) = true := by
 have hl := less_lt n i hn hi hb
 refine (part_iff _ _ ha (by omega)).2 (fun j hj => ?_)
 rw [less_bit n i j hn hi hb (bit_lt _ _ ha hj), (part_iff _ _ ha hn).1 hp j hj, Bool.true_and, decide_eq_true_iff]
 intro e
 rw [e, h0] at hj
 cases hj
theorem min_step {f : Nat → Bool} (hf : Good f) (p s : List (Fin 256)) (n : Fin 256) (h : orderF = p ++ n :: s) :
  (f n.val && !(p.filter (minF f)).any (fun a => partOf a.val n.val)) = minF f n := by
 have hpw := order_part
 have hnd := order_nodup
 rw [h] at hpw hnd
 have hs := (List.pairwise_cons.1 (List.pairwise_append.1 hpw).2.1).1
 have hn : ∀ a ∈ p, a ≠ n := fun a ha e => by
  have := (List.nodup_append.1 hnd).2.2 a ha n (List.mem_cons_self ..)
  exact this e
 rw [Bool.eq_iff_iff]
 constructor
 ·
  intro h1
  simp only [Bool.and_eq_true, Bool.not_eq_true', List.any_eq_false, List.mem_filter] at h1
  obtain ⟨h1, h2⟩ := h1
  unfold minF
  simp only [h1, Bool.true_and, List.all_eq_true, List.mem_range, Bool.not_eq_true']
  intro i hi
  cases hb : n.val.testBit i with
  | false => rfl
  | true =>
   rw [Bool.true_and]
   cases hq : f (n.val - 2 ^ i) with
   | false => rfl
   | true =>
    have hl := less_lt n.val i n.isLt hi hb
    obtain ⟨a, ha, hpa⟩ := min_below f (n.val - 2 ^ i) (by have := n.isLt; omega) hq
    have hbits := (part_iff _ _ a.isLt (show n.val - 2 ^ i < 256 by have := n.isLt; omega)).1 hpa
    have hai : a.val.testBit i = false := by
     cases hx : a.val.testBit i with
     | false => rfl
     | true =>
      have := hbits i hx
      rw [less_bit n.val i i n.isLt hi hb hi] at this
      simp at this
    have hpn : partOf a.val n.val = true := (part_iff _ _ a.isLt n.isLt).2 (fun j hj => by
     have := hbits j hj
     rw [less_bit n.val i j n.isLt hi hb (bit_lt _ _ a.isLt hj), Bool.and_eq_true] at this
     exact this.1)
    have hane : a ≠ n := fun e => by rw [e, hb] at hai; cases hai
    have hmem : a ∈ p ++ n :: s := by rw [← h]; exact all_inF a
    rcases List.mem_append.1 hmem with hm | hm
    ·
     exact absurd hpn (h2 a ⟨hm, ha⟩)
    ·
     rcases List.mem_cons.1 hm with rfl | hm
     ·
      exact absurd rfl hane
     ·
      exact absurd ⟨hpn, hane⟩ (hs a hm)
 ·
  intro h1
  have h2 := h1
  unfold minF at h2
  simp only [Bool.and_eq_true, List.all_eq_true, List.mem_range, Bool.not_eq_true', Bool.and_eq_false_iff] at h2
  obtain ⟨h2, h3⟩ := h2
  simp only [h2, Bool.true_and, Bool.not_eq_true', List.any_eq_false, List.mem_filter]
  intro a ⟨ha, hma⟩ hpa
  have hfa : f a.val = true := by unfold minF at hma; simp only [Bool.and_eq_true] at hma; exact hma.1
  have hne : a.val ≠ n.val := fun e => hn a ha (Fin.ext e)
  have : ∃ i, i < 8 ∧ n.val.testBit i = true ∧ a.val.testBit i = false := by
   refine Classical.byContradiction (fun hc => ?_)
   apply hne
   apply Nat.eq_of_testBit_eq
   intro j
   cases hj : a.val.testBit j with
   | true => exact ((part_iff _ _ a.isLt n.isLt).1 hpa j hj).symm
   | false =>
    cases hk : n.val.testBit j with
    | false => rfl
    | true => exact absurd ⟨j, bit_lt _ _ n.isLt hk, hk, hj⟩ hc
  obtain ⟨i, hi, hb, h0⟩ := this
  have hp2 := part_less a.val n.val i a.isLt n.isLt hi hb hpa h0
  have hl := less_lt n.val i n.isLt hi hb
  have hff := hf.mono a.val (n.val - 2 ^ i) (fun j hj => (part_iff _ _ a.isLt (by have := n.isLt; omega)).1 hp2 j hj) hfa
  rcases h3 i hi with h4 | h4
  ·
   rw [hb] at h4; cases h4
  ·
   rw [hff] at h4; cases h4
theorem min_fold {f : Nat → Bool} (hf : Good f) : ∀ (s p : List (Fin 256)), orderF = p ++ s → s.foldl (stepF f) (p.filter (minF f)) = orderF.filter (minF f)
 | [], p, h => by rw [h, List.append_nil]; rfl
 | n :: s, p, h => by
  have h1 : orderF = (p ++ [n]) ++ s := by rw [h]; simp
  rw [← min_fold hf s (p ++ [n]) h1, List.foldl_cons]
  congr 1
  unfold stepF
  rw [min_step hf p s n h, List.filter_append]
  by_cases hm : minF f n = true
  ·
   rw [if_pos hm]; simp [hm]
  ·
   rw [if_neg hm]; simp [hm]
theorem leastF_min {f : Nat → Bool} (hf : Good f) : orderF.filter (minF f) = leastF f := (min_fold hf orderF [] rfl).symm
end Go.Proofs.Yteikgnaikeleaaa

namespace Go.Proofs.Yteikgnaikeleaaa
open Go.RowKit Go.Proofs.YteikgnaikeleaaaW.PrintWords Go.Proofs.YteikgnaikeleaaaW.PrintLast Go.Proofs.YteikgnaikeleaaaW.PrintMore
set_option linter.unusedVariables false

def minTo (f : Nat → Bool) (n i : Nat) : Bool := f n && (List.range i).all (fun i => !(n.testBit i && f (n - 2 ^ i)))
theorem minTo_succ (f : Nat → Bool) (n i : Nat) : minTo f n (i + 1) = if n.testBit i && f (n - 2 ^ i) then false else minTo f n i := by
 unfold minTo
 rw [List.range_succ, List.all_append]
 cases h : (n.testBit i && f (n - 2 ^ i)) with
 | true => simp only [List.all_cons, List.all_nil, h, Bool.not_true, Bool.false_and, Bool.and_false, if_true]
 | false => simp only [List.all_cons, List.all_nil, h, Bool.not_false, Bool.and_true, Bool.false_eq_true, if_false]
theorem minTo_8 (f : Nat → Bool) (n : Fin 256) : minTo f n.val 8 = minF f n := rfl
theorem below_dn' {B : Nat} {a w : World} (h : Below B a w) (n : Nat) : Below B a (w.drewN n) := ⟨h.os, h.tape, h.output, h.size, h.block⟩
theorem minTo_0 (f : Nat → Bool) (n : Nat) : minTo f n 0 = f n := by simp [minTo]
theorem less_int (n i : Nat) (hn : n < 256) (hi : i < 8) (hb : n.testBit i = true) : wrap64 ((n : Int) - wrap64 (2 ^ i)) = ((n - 2 ^ i : Nat) : Int) := by
 have h : ∀ (n : Fin 256) (i : Fin 8), n.val.testBit i.val = true → wrap64 ((n.val : Int) - wrap64 (2 ^ i.val)) = ((n.val - 2 ^ i.val : Nat) : Int) := by decide +kernel
 exact h ⟨n, hn⟩ ⟨i, hi⟩ hb
set_option maxHeartbeats 8000000 in
set_option maxRecDepth 1000000 in
theorem rleast_calls (f : Nat → Bool) (w : World) :
  Calls Try.prog 62 #[.agg (tbl f)] w fun e w' => ∃ v, e = .returned v ∧ Kd.string.R 9 w' w.heap.size (fun _ => True) v (textsOf (orderF.filter (minF f))) ∧ Below w.heap.size w w' := by
 go_enter Try.func62, Try.ntmps62
 have G := Aside0.mk (blk_new w (.cells (tbl f) 50))
 go_wp2_with (go_at_call 77; refine (all_calls _).mono ?_; rintro e W3 ⟨v9, rfl, ho, hb⟩; obtain ⟨A, c, rfl, _, hr⟩ := Kd.R_reads ho; rw [ord_len] at hr ⊢; have HR := Aside0.mk hr; have HG := Aside0.mk (blk_below G.out hb); have HB3 := Aside0.mk (((Below.refl _ w).alloc (Nat.le_refl _) _).trans (hb.mono (by simp))); clear hb hr ho)
 go_loopg [3, 5] 257 (fun kq v3 v5 W => ∃ x : Nat, v5 = .int .i64 x ∧ Aside0 (x + kq = 257) ∧ Aside0 (x ≤ 256) ∧ Aside0 (Kd.string.R 9 W W3.heap.size (fun _ => True) v3 (textsOf ((orderF.take x).filter (minF f)))) ∧ Aside0 (Below W3.heap.size W3 W))
 case atStart => exact ⟨0, rfl, ⟨rfl⟩, ⟨by decide⟩, ⟨Kd.R_nil _ _ _ _ _⟩, ⟨Below.refl _ _⟩⟩
 case round =>
  obtain ⟨x, rfl, HK, HX, HO, HB⟩ := hrel
  by_cases hx : x < 256
  ·
   have h1 : decide ((x : Int) < 256) = true := decide_eq_true (by omega)
   have hnx := next_nat x hx
   have HX1 := Aside0.mk hx
   have hxl : x < orderF.length := by rw [ord_len]; exact hx
   obtain ⟨ad, rfl, hcell⟩ := ord_at (Kd.C_below HR.out HB.out) x hx
   have htk : orderF.take (x + 1) = orderF.take x ++ [orderF[x]] := (List.take_append_getElem hxl).symm
   generalize orderF[x] = k at hcell htk
   have hk := k.isLt
   have h0 : (0 : Int) ≤ (k.val : Int) ∧ (k.val : Int) < 256 := by omega
   have h00 : (0 : Int) ≤ (x : Int) ∧ (x : Int) < 256 := by omega
   have HGW := Aside0.mk (blk_below HG.out HB.out)
   have c1 := tbl_cell HGW.out k.val hk
   have HTX := Aside0.mk (rtext_calls k.val hk)
   have HLL : Aside0 ((textsOf ((orderF.take x).filter (minF f))).length ≤ x) := ⟨by
    have := List.length_filter_le (minF f) (orderF.take x)
    have h2 := List.length_take_le x orderF
    simp only [textsOf, List.length_map]
    omega⟩
   have HTK : Aside0 (textsOf ((orderF.take (x + 1)).filter (minF f)) = textsOf ((orderF.take x).filter (minF f)) ++ if minF f k then [tx (textN k.val)] else []) := ⟨by
    rw [htk, List.filter_append]
    unfold textsOf
    rw [List.map_append]
    by_cases hm : minF f k = true
    ·
     simp [hm]
    ·
     simp [hm]⟩
   clear hx hxl htk
   go_wp2
   go_loopg [7, 8] 9 (fun kq v7 v8 W => ∃ i : Nat, v8 = .int .i64 i ∧ v7 = .bool (minTo f k.val i) ∧ W = wr ∧ Aside0 (i + kq = 9) ∧ Aside0 (i ≤ 8))
   case atStart => exact ⟨0, rfl, by rw [minTo_0], rfl, ⟨rfl⟩, ⟨by decide⟩⟩
   case round =>
    obtain ⟨i, rfl, rfl, rfl, HQ, HI⟩ := hrel
    by_cases hi : i < 8
    ·
     have g1 : decide ((i : Int) < 8) = true := decide_eq_true (by omega)
     have gb := bit_at k.val i hk hi
     have gs := shl_bit i hi
     have hni : wrap64 ((i : Int) + 1) = ((i + 1 : Nat) : Int) := by unfold wrap64; omega
     have g0 : (0 : Int) ≤ (i : Int) := by omega
     have gm : min i 64 = i := by omega
     have HI1 := Aside0.mk hi
     have HS := Aside0.mk (minTo_succ f k.val i)
     cases hb : k.val.testBit i with
     | false =>
      rw [hb] at gb HS
      clear hi
      go_wp2
      go_roundg (8 - i)
      case measure => have := HQ.out; have := HI1.out; omega
      case rel => exact ⟨i + 1, by first | rfl | rw [hni], by rw [HS.out]; rfl, rfl, ⟨by have := HI1.out; have := HQ.out; omega⟩, ⟨HI1.out⟩⟩
     | true =>
      rw [hb] at gb HS
      have gl := less_int k.val i hk hi hb
      have hlt := less_lt k.val i hk hi hb
      have c2 := tbl_cell HGW.out (k.val - 2 ^ i) (by omega)
      have g2 : (0 : Int) ≤ ((k.val - 2 ^ i : Nat) : Int) ∧ ((k.val - 2 ^ i : Nat) : Int) < 256 := by omega
      cases hf : f (k.val - 2 ^ i) with
      | false =>
       rw [hf] at c2 HS
       clear hi hb hf hlt
       go_wp2
       go_roundg (8 - i)
       case measure => have := HQ.out; have := HI1.out; omega
       case rel => exact ⟨i + 1, by first | rfl | rw [hni], by rw [HS.out]; rfl, rfl, ⟨by have := HI1.out; have := HQ.out; omega⟩, ⟨HI1.out⟩⟩
      | true =>
       rw [hf] at c2 HS
       clear hi hb hf hlt
       go_wp2
       go_roundg (8 - i)
       case measure => have := HQ.out; have := HI1.out; omega
       case rel => exact ⟨i + 1, by first | rfl | rw [hni], by rw [HS.out]; rfl, rfl, ⟨by have := HI1.out; have := HQ.out; omega⟩, ⟨HI1.out⟩⟩
    ·
     have g1 : decide ((i : Int) < 8) = false := decide_eq_false (by omega)
     have hi8 : i = 8 := by have := HI.out; omega
     subst hi8
     rw [minTo_8]
     cases hm : minF f k with
     | false =>
      rw [hm] at HTK
      clear hm
      have HTK2 : Aside0 (textsOf ((orderF.take (x + 1)).filter (minF f)) = textsOf ((orderF.take x).filter (minF f))) := ⟨by rw [HTK.out]; simp⟩
      go_wp2
      go_roundg (256 - x)
      case measure => have := HK.out; have := HX1.out; omega
      case rel => exact ⟨x + 1, by first | rfl | rw [hnx], ⟨by have := HX1.out; have := HK.out; omega⟩, ⟨HX1.out⟩, by rw [HTK2.out]; exact HO, HB⟩
     | true =>
      rw [hm] at HTK
      clear hm
      have HTK2 : Aside0 (textsOf ((orderF.take (x + 1)).filter (minF f)) = textsOf ((orderF.take x).filter (minF f)) ++ [tx (textN k.val)]) := ⟨by rw [HTK.out]; simp⟩
      have HE : Aside0 (∀ W, Kd.string.M W W3.heap.size (fun _ => False) (tx (textN k.val)) [.string (tx (textN k.val))]) := ⟨fun W => rfl⟩
      go_wp2_with (first | (go_at_call 78; refine (HTX.out _).mono ?_; rintro e W4 ⟨rfl, m4, rfl⟩; have HB4 := Aside0.mk (below_dn' HB.out m4); have HO4 := Aside0.mk (Kd.R_drewN HO.out m4)) | ((with_reducible refine gate_builtin (b := .append) (xs := #[.tmp 41, .tmp 44]) rfl ?_); at_builtin; refine Kd.R_append Kd.string (w0 := W3) W3.heap.size rfl (.tmp 41) (.tmp 44) 24 9 (.string ⟨#[]⟩) 16 rfl Try.underlying24 info9 rfl Nat.one_pos (by omega) u3 (textsOf ((orderF.take x).filter (minF f))) (tx (textN k.val)) [.string (tx (textN k.val))] (fun _ => True) (fun _ => False) rfl rfl (HE.out _) (fun _ hk => hk.elim) (fun _ _ => trivial) HO4.out HB4.out HB4.out.size (by have := HLL.out; have := HX1.out; omega) ?_; intro v1 w1 ho hb hg hat; have HO9 := Aside0.mk ho; have HB9 := Aside0.mk hb; clear ho hb hg hat))
      go_roundg (256 - x)
      case measure => have := HK.out; have := HX1.out; omega
      case rel => exact ⟨x + 1, by first | rfl | rw [hnx], ⟨by have := HX1.out; have := HK.out; omega⟩, ⟨HX1.out⟩, ⟨by rw [HTK2.out]; exact HO9.out⟩, HB9⟩
  ·
   have h1 : decide ((x : Int) < 256) = false := decide_eq_false (by omega)
   have ho := HO.out
   rw [List.take_of_length_le (by rw [ord_len]; omega)] at ho
   have HO2 := Aside0.mk ho
   clear ho
   go_wp2
   go_ret
   exact ⟨_, rfl, Kd.R_lower HO2.out HB3.out.size, below_step HB3.out HB.out⟩
end Go.Proofs.Yteikgnaikeleaaa

namespace Go.Proofs.Yteikgnaikeleaaa
open Go.RowKit Go.Proofs.YteikgnaikeleaaaW.PrintWords Go.Proofs.YteikgnaikeleaaaW.PrintLast Go.Proofs.YteikgnaikeleaaaW.PrintMore
set_option linter.unusedVariables false

theorem xor_255 (k : Nat) (h : k < 256) : 255 ^^^ k = 255 - k := by
 have : ∀ k : Fin 256, 255 ^^^ k.val = 255 - k.val := by decide +kernel
 exact this ⟨k, h⟩
theorem tbl_cell2 {w : World} {g : Nat} {f : Nat → Bool} {t : TypeId} (h : w.heap[g]? = some (.cells (tbl f) t (0, 0))) (n : Nat) (hn : n < 256) : w.cell? ⟨g, n, none⟩ = some (.bool (f n)) := tbl_cell h n hn
set_option maxHeartbeats 8000000 in
set_option maxRecDepth 1000000 in
theorem rconducts_calls (s q : List UInt8) (hm : q.length < 1000000000) (w : World) : Calls Try.prog 46 #[.string (tx s), .string (tx q)] w fun e w' => e = .returned (.tuple #[.bool (condR s q).1, .int .i64 (condR s q).2]) ∧ Below w.heap.size w w' := by
 have HC := Aside0.mk (rasked_calls s q hm)
 unfold RAskPost at HC
 have hzz := zero50
 unfold condR
 cases hp : parseL s with
 | none =>
  rw [hp] at HC
  go_enter Try.func46, Try.ntmps46
  go_wp2_with (first | (go_at_call 61; refine (HC.out _).mono ?_; rintro e W1 ⟨v, c, rfl, hb, hv⟩; obtain rfl := hv; have HB := Aside0.mk hb; have H6 := Aside0.mk (new_row W1 v); clear hb) | (refine wpList_store_row rfl 50 (.tmp 6) (.tmp 12) rfl W1.heap.size (tbl v) rfl rfl 50 (tbl fun _ => false) (blk_new _ _) (tbl_info v) (by rw [tbl_size, tbl_size]) (tbl_one v) ?_))
  go_ret2
  exact ⟨rfl, new_below HB.out (Nat.le_refl _) v⟩
 | some m =>
  rw [hp] at HC
  cases hq : setL q 0 (-1) with
  | none =>
   rw [hq] at HC
   go_enter Try.func46, Try.ntmps46
   go_wp2_with (first | (go_at_call 61; refine (HC.out _).mono ?_; rintro e W1 ⟨v, c, rfl, hb, hv⟩; obtain rfl := hv; have HB := Aside0.mk hb; have H6 := Aside0.mk (new_row W1 v); clear hb) | (refine wpList_store_row rfl 50 (.tmp 6) (.tmp 12) rfl W1.heap.size (tbl v) rfl rfl 50 (tbl fun _ => false) (blk_new _ _) (tbl_info v) (by rw [tbl_size, tbl_size]) (tbl_one v) ?_))
   go_ret2
   exact ⟨rfl, new_below HB.out (Nat.le_refl _) v⟩
  | some k =>
   rw [hq] at HC
   have HS := Aside0.mk (rbits_calls q hm k hq)
   have hk := setL_256 hq
   have h0 : (0 : Int) ≤ (k : Int) ∧ (k : Int) < 256 := by omega
   clear hp hq
   go_enter Try.func46, Try.ntmps46
   go_wp2_with (first | (go_at_call 61; refine (HC.out _).mono ?_; rintro e W1 ⟨v, c, rfl, hb, hv⟩; obtain ⟨rfl, rfl⟩ := hv; have HB := Aside0.mk hb; have H6 := Aside0.mk (new_row W1 m.f); clear hb) | (refine wpList_store_row rfl 50 (.tmp 6) (.tmp 12) rfl W1.heap.size (tbl m.f) rfl rfl 50 (tbl fun _ => false) (blk_new _ _) (tbl_info m.f) (by rw [tbl_size, tbl_size]) (tbl_one m.f) ?_) | (go_at_call 79; refine (HS.out _).mono ?_; rintro e W2 ⟨rfl, m2, rfl⟩; have hcell := tbl_cell (tbl_drewN H6.out m2) k hk))
   go_ret2
   exact ⟨rfl, below_dn (new_below HB.out (Nat.le_refl _) m.f) _⟩
set_option maxHeartbeats 8000000 in
set_option maxRecDepth 1000000 in
theorem riscut_calls (s q : List UInt8) (hm : q.length < 1000000000) (w : World) : Calls Try.prog 41 #[.string (tx s), .string (tx q)] w fun e w' => e = .returned (.tuple #[.bool (cutR s q).1, .int .i64 (cutR s q).2]) ∧ Below w.heap.size w w' := by
 have HC := Aside0.mk (rasked_calls s q hm)
 unfold RAskPost at HC
 have hzz := zero50
 unfold cutR
 cases hp : parseL s with
 | none =>
  rw [hp] at HC
  go_enter Try.func41, Try.ntmps41
  go_wp2_with (first | (go_at_call 61; refine (HC.out _).mono ?_; rintro e W1 ⟨v, c, rfl, hb, hv⟩; obtain rfl := hv; have HB := Aside0.mk hb; have H6 := Aside0.mk (new_row W1 v); clear hb) | (refine wpList_store_row rfl 50 (.tmp 6) (.tmp 12) rfl W1.heap.size (tbl v) rfl rfl 50 (tbl fun _ => false) (blk_new _ _) (tbl_info v) (by rw [tbl_size, tbl_size]) (tbl_one v) ?_))
  go_ret2
  exact ⟨rfl, new_below HB.out (Nat.le_refl _) v⟩
 | some m =>
  rw [hp] at HC
  cases hq : setL q 0 (-1) with
  | none =>
   rw [hq] at HC
   go_enter Try.func41, Try.ntmps41
   go_wp2_with (first | (go_at_call 61; refine (HC.out _).mono ?_; rintro e W1 ⟨v, c, rfl, hb, hv⟩; obtain rfl := hv; have HB := Aside0.mk hb; have H6 := Aside0.mk (new_row W1 v); clear hb) | (refine wpList_store_row rfl 50 (.tmp 6) (.tmp 12) rfl W1.heap.size (tbl v) rfl rfl 50 (tbl fun _ => false) (blk_new _ _) (tbl_info v) (by rw [tbl_size, tbl_size]) (tbl_one v) ?_))
   go_ret2
   exact ⟨rfl, new_below HB.out (Nat.le_refl _) v⟩
  | some k =>
   rw [hq] at HC
   have HS := Aside0.mk (rbits_calls q hm k hq)
   have hk := setL_256 hq
   have h0 : (0 : Int) ≤ (k : Int) ∧ (k : Int) < 256 := by omega
   have hw : wrap64 (255 - (k : Int)) = ((255 - k : Nat) : Int) := by unfold wrap64; omega
   have hx : cutF m.f k = !m.f (255 - k) := by unfold cutF; rw [xor_255 k hk]
   have h1 : (0 : Int) ≤ ((255 - k : Nat) : Int) ∧ ((255 - k : Nat) : Int) < 256 := by omega
   have HK2 : Aside0 (255 - k < 256) := ⟨by omega⟩
   simp only [hx]
   clear hp hq
   go_enter Try.func41, Try.ntmps41
   go_wp2_with (first | (go_at_call 61; refine (HC.out _).mono ?_; rintro e W1 ⟨v, c, rfl, hb, hv⟩; obtain ⟨rfl, rfl⟩ := hv; have HB := Aside0.mk hb; have H6 := Aside0.mk (new_row W1 m.f); clear hb) | (refine wpList_store_row rfl 50 (.tmp 6) (.tmp 12) rfl W1.heap.size (tbl m.f) rfl rfl 50 (tbl fun _ => false) (blk_new _ _) (tbl_info m.f) (by rw [tbl_size, tbl_size]) (tbl_one m.f) ?_) | (go_at_call 79; refine (HS.out _).mono ?_; rintro e W2 ⟨rfl, m2, rfl⟩; have hcell := tbl_cell (tbl_drewN H6.out m2) (255 - k) HK2.out))
   go_ret2
   exact ⟨rfl, below_dn (new_below HB.out (Nat.le_refl _) m.f) _⟩
set_option maxHeartbeats 8000000 in
set_option maxRecDepth 1000000 in
theorem rispath_calls (s q : List UInt8) (hm : q.length < 1000000000) (w : World) : Calls Try.prog 40 #[.string (tx s), .string (tx q)] w fun e w' => e = .returned (.tuple #[.bool (condR s q).1, .int .i64 (condR s q).2]) ∧ Below w.heap.size w w' := by
 have HC := Aside0.mk (rconducts_calls s q hm)
 generalize condR s q = r at HC
 go_enter Try.func40, Try.ntmps40
 go_wp2_with (go_at_call 46; refine (HC.out _).mono ?_; rintro e W1 ⟨rfl, hb⟩; have HB := Aside0.mk hb; clear hb)
 go_ret2
 exact ⟨rfl, HB.out⟩
end Go.Proofs.Yteikgnaikeleaaa

namespace Go.Proofs.Yteikgnaikeleaaa
open Go.RowKit Go.Proofs.YteikgnaikeleaaaW.PrintWords Go.Proofs.YteikgnaikeleaaaW.PrintLast Go.Proofs.YteikgnaikeleaaaW.PrintMore
set_option linter.unusedVariables false

def RAskE (w : World) (s : List UInt8) (e : Ending) (w' : World) : Prop :=
 ∃ v c, e = .returned (.tuple #[.agg (tbl v), .int .i64 c]) ∧ Below w.heap.size w w' ∧ match parseL s with
  | none => c = 90
  | some m => c = 0 ∧ v = m.f
theorem rask_e (s : List UInt8) (w : World) : Calls Try.prog 61 #[.string (tx s), .string ⟨#[]⟩] w (RAskE w s) := by
 refine (rasked_calls s [] (by decide) w).mono ?_
 rintro e w' ⟨v, c, he, hb, h⟩
 refine ⟨v, c, he, hb, ?_⟩
 cases hp : parseL s with
 | none => rw [hp] at h; exact h
 | some m => rw [hp] at h; exact h
set_option maxHeartbeats 8000000 in
set_option maxRecDepth 1000000 in
theorem rwithin_calls (s t : List UInt8) (w : World) : Calls Try.prog 39 #[.string (tx s), .string (tx t)] w fun e w' => e = .returned (.tuple #[.bool (withinR s t).1, .int .i64 (withinR s t).2]) ∧ Below w.heap.size w w' := by
 have HS := Aside0.mk (rask_e s)
 have HT := Aside0.mk (rask_e t)
 unfold RAskE at HS HT
 have hzz := zero50
 unfold withinR
 cases hc : parseL s with
 | none =>
  rw [hc] at HS
  go_enter Try.func39, Try.ntmps39
  go_wp2_with (first | (go_at_call 61; refine (HS.out _).mono ?_; rintro e W1 ⟨v, c, rfl, hb, rfl⟩; clear HS; have HB1 := Aside0.mk (new_below hb (Nat.le_refl _) v); clear hb) | (go_at_call 61; refine (HT.out _).mono ?_; rintro e W2 ⟨v2, c2, rfl, hb, hv2⟩; have HB2 := Aside0.mk (new_below (below_step HB1.out hb) (Nat.le_refl _) v2); clear hb hv2) | (refine wpList_store_row rfl 50 (.tmp 6) (.tmp 14) rfl W1.heap.size (tbl v) rfl rfl 50 (tbl fun _ => false) (blk_new _ _) (tbl_info v) (by rw [tbl_size, tbl_size]) (tbl_one v) ?_) | (refine wpList_store_row rfl 50 (.tmp 8) (.tmp 19) rfl W2.heap.size (tbl v2) rfl rfl 50 (tbl fun _ => false) (blk_new _ _) (tbl_info v2) (by rw [tbl_size, tbl_size]) (tbl_one v2) ?_))
  go_ret2
  exact ⟨rfl, HB2.out⟩
 | some m =>
  rw [hc] at HS
  cases hd : parseL t with
  | none =>
   rw [hd] at HT
   go_enter Try.func39, Try.ntmps39
   go_wp2_with (first | (go_at_call 61; refine (HS.out _).mono ?_; rintro e W1 ⟨v, c, rfl, hb, rfl, hv⟩; clear HS; have HB1 := Aside0.mk (new_below hb (Nat.le_refl _) v); clear hb hv) | (go_at_call 61; refine (HT.out _).mono ?_; rintro e W2 ⟨v2, c2, rfl, hb, rfl⟩; have HB2 := Aside0.mk (new_below (below_step HB1.out hb) (Nat.le_refl _) v2); clear hb) | (refine wpList_store_row rfl 50 (.tmp 6) (.tmp 14) rfl W1.heap.size (tbl v) rfl rfl 50 (tbl fun _ => false) (blk_new _ _) (tbl_info v) (by rw [tbl_size, tbl_size]) (tbl_one v) ?_) | (refine wpList_store_row rfl 50 (.tmp 8) (.tmp 19) rfl W2.heap.size (tbl v2) rfl rfl 50 (tbl fun _ => false) (blk_new _ _) (tbl_info v2) (by rw [tbl_size, tbl_size]) (tbl_one v2) ?_))
   go_ret2
   exact ⟨rfl, HB2.out⟩
  | some n =>
   rw [hd] at HT
   obtain ⟨f, hf⟩ : ∃ f, f = m.f := ⟨_, rfl⟩
   obtain ⟨f2, hf2⟩ : ∃ f, f = n.f := ⟨_, rfl⟩
   simp only [← hf, ← hf2] at HS HT ⊢
   clear hc hd hf hf2
   go_enter Try.func39, Try.ntmps39
   go_wp2_with (first | (go_at_call 61; refine (HS.out _).mono ?_; rintro e W1 ⟨v, c, rfl, hb, rfl, rfl⟩; clear HS; have HB1 := Aside0.mk (new_below hb (Nat.le_refl _) v); have HH1 := Aside0.mk (new_row W1 v); clear hb) | (go_at_call 61; refine (HT.out _).mono ?_; rintro e W2 ⟨v2, c2, rfl, hb, rfl, rfl⟩; have HB0 := Aside0.mk (new_below (below_step HB1.out hb) (Nat.le_refl _) v2); have HH20 := Aside0.mk (new_row W2 v2); have HH0 := Aside0.mk (old_row (blk_below HH1.out hb) v2); clear hb) | (refine wpList_store_row rfl 50 (.tmp 6) (.tmp 14) rfl W1.heap.size (tbl v) rfl rfl 50 (tbl fun _ => false) (blk_new _ _) (tbl_info v) (by rw [tbl_size, tbl_size]) (tbl_one v) ?_) | (refine wpList_store_row rfl 50 (.tmp 8) (.tmp 19) rfl W2.heap.size (tbl v2) rfl rfl 50 (tbl fun _ => false) (blk_new _ _) (tbl_info v2) (by rw [tbl_size, tbl_size]) (tbl_one v2) ?_))
   go_loopg [10] 257 (fun kq v10 W => ∃ x : Nat, v10 = .int .i64 x ∧ Aside0 (x + kq = 257) ∧ Aside0 (x ≤ 256) ∧ Aside0 (∀ i, i < x → v i = true → v2 i = true) ∧ Aside0 (W.heap[W1.heap.size]? = some (.cells (tbl v) 50 (0, 0))) ∧ Aside0 (W.heap[W2.heap.size]? = some (.cells (tbl v2) 50 (0, 0))) ∧ Aside0 (Below w.heap.size w W))
   case atStart => exact ⟨0, rfl, ⟨rfl⟩, ⟨by decide⟩, ⟨fun i hi => absurd hi (Nat.not_lt_zero _)⟩, HH0, HH20, HB0⟩
   case round =>
    clear HH0 HH20 HB0 HB1 HH1 HT hzz
    obtain ⟨x, rfl, HK, HX, HI, HH, HH2, HB⟩ := hrel
    by_cases hx : x < 256
    ·
     have h1 : decide ((x : Int) < 256) = true := decide_eq_true (by omega)
     have h0 : (0 : Int) ≤ (x : Int) ∧ (x : Int) < 256 := by omega
     have c1 := tbl_cell HH.out x hx
     have c2 := tbl_cell HH2.out x hx
     have HX1 : Aside0 (x < 256) := ⟨hx⟩
     have hnx := next_nat x hx
     clear hx
     by_cases hb : v x = true
     ·
      rw [hb] at c1
      by_cases hb2 : v2 x = true
      ·
       rw [hb2] at c2
       go_wp2
       go_roundg (256 - x)
       case measure => have := HK.out; have := HX1.out; omega
       case rel => exact ⟨x + 1, by first | rfl | rw [hnx], ⟨by have := HX1.out; have := HK.out; omega⟩, ⟨HX1.out⟩, ⟨fun i hi he => by
        rcases Nat.lt_succ_iff_lt_or_eq.1 hi with h | rfl
        ·
         exact HI.out i h he
        ·
         exact hb2⟩, HH, HH2, HB⟩
      ·
       rw [Bool.eq_false_iff.mpr hb2] at c2
       go_wp2
       go_ret2
       rw [withinF_false HX1.out hb (Bool.eq_false_iff.mpr hb2)]
       exact ⟨rfl, HB.out⟩
     ·
      rw [Bool.eq_false_iff.mpr hb] at c1
      go_wp2
      go_roundg (256 - x)
      case measure => have := HK.out; have := HX1.out; omega
      case rel => exact ⟨x + 1, by first | rfl | rw [hnx], ⟨by have := HX1.out; have := HK.out; omega⟩, ⟨HX1.out⟩, ⟨fun i hi he => by
       rcases Nat.lt_succ_iff_lt_or_eq.1 hi with h | rfl
       ·
        exact HI.out i h he
       ·
        exact absurd he hb⟩, HH, HH2, HB⟩
    ·
     have h1 : decide ((x : Int) < 256) = false := decide_eq_false (by omega)
     go_wp2
     go_ret2
     rw [withinF_true (fun i hi => HI.out i (by omega))]
     exact ⟨rfl, HB.out⟩
end Go.Proofs.Yteikgnaikeleaaa

namespace Go.Proofs.Yteikgnaikeleaaa
open Go.RowKit Go.Proofs.YteikgnaikeleaaaW.PrintWords Go.Proofs.YteikgnaikeleaaaW.PrintLast Go.Proofs.YteikgnaikeleaaaW.PrintMore
set_option linter.unusedVariables false

set_option maxHeartbeats 8000000 in
set_option maxRecDepth 1000000 in
theorem rpaths_calls (s : List UInt8) (w : World) : Calls Try.prog 17 #[.string (tx s)] w fun e w' => ∃ v, e = .returned (.tuple #[v, .int .i64 (pathsR s).2]) ∧ Kd.string.R 9 w' w.heap.size (fun _ => True) v (pathsR s).1 ∧ Below w.heap.size w w' := by
 have HS := Aside0.mk (rask_e s)
 unfold RAskE at HS
 have hzz := zero50
 unfold pathsR
 cases hc : parseL s with
 | none =>
  rw [hc] at HS
  go_enter Try.func17, Try.ntmps17
  go_wp2_with (first | (go_at_call 61; refine (HS.out _).mono ?_; rintro e W1 ⟨v, c, rfl, hb, rfl⟩; have HB1 := Aside0.mk (new_below hb (Nat.le_refl _) v); clear hb) | (refine wpList_store_row rfl 50 (.tmp 4) (.tmp 9) rfl W1.heap.size (tbl v) rfl rfl 50 (tbl fun _ => false) (blk_new _ _) (tbl_info v) (by rw [tbl_size, tbl_size]) (tbl_one v) ?_))
  go_ret2
  exact ⟨_, rfl, Kd.R_nil _ _ _ _ _, HB1.out⟩
 | some m =>
  rw [hc] at HS
  have HL := Aside0.mk (rleast_calls m.f)
  rw [leastF_min (parseL_good hc)] at HL
  go_enter Try.func17, Try.ntmps17
  go_wp2_with (first | (go_at_call 61; refine (HS.out _).mono ?_; rintro e W1 ⟨v, c, rfl, hb, rfl, rfl⟩; have HB1 := Aside0.mk (new_below hb (Nat.le_refl _) m.f); have H6 := Aside0.mk (new_row W1 m.f); clear hb) | (refine wpList_store_row rfl 50 (.tmp 4) (.tmp 9) rfl W1.heap.size (tbl m.f) rfl rfl 50 (tbl fun _ => false) (blk_new _ _) (tbl_info m.f) (by rw [tbl_size, tbl_size]) (tbl_one m.f) ?_) | (refine wpList_load_row rfl 50 (.tmp 4) rfl W1.heap.size rfl 50 (tbl m.f) (0, 0) _ H6.out Try.underlying50 rfl (tbl_info m.f) ?_) | (go_at_call 62; refine (HL.out _).mono ?_; rintro e W2 ⟨v2, rfl, ho, hb⟩; have HO := Aside0.mk ho; have HB2 := Aside0.mk (below_step HB1.out hb); clear ho hb))
  go_ret2
  exact ⟨_, rfl, Kd.R_lower HO.out HB1.out.size, HB2.out⟩
end Go.Proofs.Yteikgnaikeleaaa

namespace Go.Proofs.Yteikgnaikeleaaa
open Go.RowKit Go.Proofs.YteikgnaikeleaaaW.PrintWords Go.Proofs.YteikgnaikeleaaaW.PrintLast Go.Proofs.YteikgnaikeleaaaW.PrintMore
set_option linter.unusedVariables false

def dualTo (f : Nat → Bool) (x n : Nat) : Bool := decide (n < x) && !f (255 - n)
theorem dualTo_step (f : Nat → Bool) (x : Nat) (h : x < 256) : tbl (fun n => if n = x then !f (255 - x) else dualTo f x n) = tbl (dualTo f (x + 1)) := by
 apply tbl_ext
 intro n hn
 unfold dualTo
 by_cases e : n = x
 ·
  subst e; simp
 ·
  have : decide (n < x + 1) = decide (n < x) := by rw [decide_eq_decide]; omega
  rw [if_neg e, this]
theorem dualTo_end (f : Nat → Bool) : tbl (dualTo f 256) = tbl (cutF f) := by
 apply tbl_ext
 intro n hn
 have : 255 ^^^ n = 255 - n := by
  have h : ∀ k : Fin 256, 255 ^^^ k.val = 255 - k.val := by decide +kernel
  exact h ⟨n, hn⟩
 unfold dualTo cutF
 rw [this, decide_eq_true hn, Bool.true_and]
set_option maxHeartbeats 8000000 in
set_option maxRecDepth 1000000 in
theorem rdual_calls (f : Nat → Bool) (w : World) : Calls Try.prog 64 #[.agg (tbl f)] w fun e w' => e = .returned (.agg (tbl (cutF f))) ∧ Below w.heap.size w w' := by
 have hzz := zero50
 go_enter Try.func64, Try.ntmps64
 go_wp2
 go_loopg [4] 257 (fun kq v4 W => ∃ x : Nat, v4 = .int .i64 x ∧ Aside0 (x + kq = 257) ∧ Aside0 (x ≤ 256) ∧ Aside0 (W.heap[w.heap.size]? = some (.cells (tbl f) 50 (0, 0))) ∧ Aside0 (W.heap[w.heap.size + 1]? = some (.cells (tbl fun _ => false) 50 (0, 0))) ∧ Aside0 (W.heap[w.heap.size + 2]? = some (.cells (tbl (dualTo f x)) 50 (0, 0))) ∧ Aside0 (Below w.heap.size w W))
 case atStart =>
  have s1 : (w.alloc (.cells (tbl f) 50)).heap.size = w.heap.size + 1 := Array.size_push ..
  have s2 : ((w.alloc (.cells (tbl f) 50)).alloc (.cells (tbl fun _ => false) 50)).heap.size = w.heap.size + 2 := (Array.size_push ..).trans (by rw [s1])
  refine ⟨0, rfl, ⟨rfl⟩, ⟨by decide⟩, ⟨blk_alloc (blk_alloc (blk_new w _) _) _⟩, ⟨?_⟩, ⟨?_⟩, ⟨below_alloc (below_alloc (below_alloc (Below.refl _ w) _) _) _⟩⟩
  ·
   rw [← s1]; exact blk_alloc (blk_new _ _) _
  ·
   rw [← s2, show dualTo f 0 = fun _ => false from by funext n; simp [dualTo]]; exact blk_new _ _
 case round =>
  obtain ⟨x, rfl, HK, HX, H1, H2, H3, HB⟩ := hrel
  by_cases hx : x < 256
  ·
   have h1 : decide ((x : Int) < 256) = true := decide_eq_true (by omega)
   have hw : wrap64 (255 - (x : Int)) = ((255 - x : Nat) : Int) := by unfold wrap64; omega
   have h0 : (0 : Int) ≤ (x : Int) ∧ (x : Int) < 256 := by omega
   have h2 : (0 : Int) ≤ ((255 - x : Nat) : Int) ∧ ((255 - x : Nat) : Int) < 256 := by omega
   have hnx := next_nat x hx
   have c1 := tbl_cell H1.out (255 - x) (by omega)
   have c3 := tbl_cell H3.out x hx
   have f3 := blk_frozen H3.out x
   have HX1 := Aside0.mk hx
   clear hx
   go_wp2
   go_roundg (256 - x)
   case measure => have := HK.out; have := HX1.out; omega
   case rel =>
    refine ⟨x + 1, by first | rfl | rw [hnx], ⟨by have := HX1.out; have := HK.out; omega⟩, ⟨HX1.out⟩, ⟨blk_far H1.out (by show _ ≠ w.heap.size + 2; omega) _⟩, ⟨blk_far H2.out (by show _ ≠ w.heap.size + 2; omega) _⟩, ⟨?_⟩, ⟨HB.out.trans ⟨rfl, rfl, rfl, by simp, fun k hk => Below.heap_setCell _ _ _ k (by show k ≠ w.heap.size + 2; omega)⟩⟩⟩
    refine blk_put H3.out x _ ?_
    rw [tbl_set, dualTo_step f x HX1.out]
  ·
   have h1 : decide ((x : Int) < 256) = false := decide_eq_false (by omega)
   have hx8 : x = 256 := by have := HX.out; omega
   subst hx8
   have h3 := H3.out
   rw [dualTo_end] at h3
   have HE := Aside0.mk h3
   clear h3
   go_wp2_with (first | (refine wpList_load_row rfl 50 (.tmp 3) rfl (w.heap.size + 2) rfl 50 (tbl (cutF f)) (0, 0) _ HE.out Try.underlying50 rfl (tbl_info _) ?_) | (refine wpList_store_row rfl 50 (.tmp 2) (.tmp 16) rfl (w.heap.size + 1) (tbl (cutF f)) rfl rfl 50 (tbl fun _ => false) H2.out (tbl_info _) (by rw [tbl_size, tbl_size]) (tbl_one _) ?_))
   refine bodyPost_ret (results_cell_row rfl _ _ (w.heap.size + 1) 50 (tbl (cutF f)) (0, 0) _ rfl (setRow_heap _ _ (tbl fun _ => false) _ _ _ H2.out) Try.underlying50 rfl (tbl_info _)) rfl ?_
   exact ⟨rfl, below_setRow HB.out (by omega) _⟩
end Go.Proofs.Yteikgnaikeleaaa

namespace Go.Proofs.Yteikgnaikeleaaa
open Go.RowKit Go.Proofs.YteikgnaikeleaaaW.PrintWords Go.Proofs.YteikgnaikeleaaaW.PrintLast Go.Proofs.YteikgnaikeleaaaW.PrintMore
set_option linter.unusedVariables false

def cutG (f : Nat → Bool) (n : Nat) : Bool := !f (255 ^^^ (n &&& 255))
theorem cutG_at (f : Nat → Bool) (n : Nat) (h : n < 256) : cutG f n = cutF f n := by
 have e : n &&& 255 = n := by
  have h9 : ∀ k : Fin 256, k.val &&& 255 = k.val := by decide +kernel
  exact h9 ⟨n, h⟩
 unfold cutG cutF
 rw [e]
theorem cutG_good {f : Nat → Bool} (hf : Good f) : Good (cutG f) := by
 refine ⟨fun a b hs ha => ?_, ?_, ?_⟩
 ·
  unfold cutG at ha ⊢
  cases hq : f (255 ^^^ (b &&& 255)) with
  | false => rfl
  | true =>
   have : Sub (255 ^^^ (b &&& 255)) (255 ^^^ (a &&& 255)) := by
    intro i hi
    rw [Nat.testBit_xor, Nat.testBit_and] at hi ⊢
    cases h255 : Nat.testBit 255 i with
    | false => rw [h255] at hi; simp at hi
    | true =>
     rw [h255] at hi
     cases hx : a.testBit i with
     | false => rfl
     | true => rw [hs i hx] at hi; cases hi
   rw [hf.mono _ _ this hq] at ha
   cases ha
 ·
  unfold cutG
  rw [show (255 ^^^ (0 &&& 255) : Nat) = 255 from by decide, hf.full]; rfl
 ·
  unfold cutG
  rw [show (255 ^^^ (255 &&& 255) : Nat) = 0 from by decide, hf.zero]; rfl
theorem cut_min {f : Nat → Bool} (hf : Good f) : orderF.filter (minF (cutF f)) = leastF (cutF f) := by
 have h := leastF_min (cutG_good hf)
 have e1 : minF (cutG f) = minF (cutF f) := by
  funext n
  unfold minF
  rw [cutG_at f n.val n.isLt]
  congr 1
  have : ∀ i, cutG f (n.val - 2 ^ i) = cutF f (n.val - 2 ^ i) := fun i => cutG_at f _ (Nat.lt_of_le_of_lt (Nat.sub_le _ _) n.isLt)
  simp only [this]
 have e2 : stepF (cutG f) = stepF (cutF f) := by
  funext out n
  unfold stepF
  rw [cutG_at f n.val n.isLt]
 unfold leastF at h ⊢
 rw [← e1, ← e2]
 exact h
set_option maxHeartbeats 8000000 in
set_option maxRecDepth 1000000 in
theorem rcuts_calls (s : List UInt8) (w : World) : Calls Try.prog 19 #[.string (tx s)] w fun e w' => ∃ v, e = .returned (.tuple #[v, .int .i64 (cutsR s).2]) ∧ Kd.string.R 9 w' w.heap.size (fun _ => True) v (cutsR s).1 ∧ Below w.heap.size w w' := by
 have HS := Aside0.mk (rask_e s)
 unfold RAskE at HS
 have hzz := zero50
 unfold cutsR
 cases hc : parseL s with
 | none =>
  rw [hc] at HS
  go_enter Try.func19, Try.ntmps19
  go_wp2_with (first | (go_at_call 61; refine (HS.out _).mono ?_; rintro e W1 ⟨v, c, rfl, hb, rfl⟩; have HB1 := Aside0.mk (new_below hb (Nat.le_refl _) v); clear hb) | (refine wpList_store_row rfl 50 (.tmp 4) (.tmp 9) rfl W1.heap.size (tbl v) rfl rfl 50 (tbl fun _ => false) (blk_new _ _) (tbl_info v) (by rw [tbl_size, tbl_size]) (tbl_one v) ?_))
  go_ret2
  exact ⟨_, rfl, Kd.R_nil _ _ _ _ _, HB1.out⟩
 | some m =>
  rw [hc] at HS
  have HL := Aside0.mk (rleast_calls (cutF m.f))
  rw [cut_min (parseL_good hc)] at HL
  have HD := Aside0.mk (rdual_calls m.f)
  go_enter Try.func19, Try.ntmps19
  go_wp2_with (first | (go_at_call 61; refine (HS.out _).mono ?_; rintro e W1 ⟨v, c, rfl, hb, rfl, rfl⟩; have HB1 := Aside0.mk (new_below hb (Nat.le_refl _) m.f); have H6 := Aside0.mk (new_row W1 m.f); clear hb) | (refine wpList_store_row rfl 50 (.tmp 4) (.tmp 9) rfl W1.heap.size (tbl m.f) rfl rfl 50 (tbl fun _ => false) (blk_new _ _) (tbl_info m.f) (by rw [tbl_size, tbl_size]) (tbl_one m.f) ?_) | (refine wpList_load_row rfl 50 (.tmp 4) rfl W1.heap.size rfl 50 (tbl m.f) (0, 0) _ H6.out Try.underlying50 rfl (tbl_info m.f) ?_) | (go_at_call 64; refine (HD.out _).mono ?_; rintro e W5 ⟨rfl, hb⟩; have HB5 := Aside0.mk (below_step HB1.out hb); clear hb) | (go_at_call 62; refine (HL.out _).mono ?_; rintro e W2 ⟨v2, rfl, ho, hb⟩; have HO := Aside0.mk ho; have HB2 := Aside0.mk (below_step HB5.out hb); clear ho hb))
  go_ret2
  exact ⟨_, rfl, Kd.R_lower HO.out HB5.out.size, HB2.out⟩
end Go.Proofs.Yteikgnaikeleaaa

namespace Go.Proofs.Yteikgnaikeleaaa
set_option linter.unusedVariables false
open Go.RowKit Go.Proofs.Yteikgnaikeleaaa.XLoop Go.Proofs.YteikgnaikeleaaaW.PrintWords Go.Proofs.YteikgnaikeleaaaW.PrintLast Go.Proofs.YteikgnaikeleaaaW.PrintMore
theorem first_paths : pathsR [97, 40, 98, 43, 99, 41] = ([tx [97, 98], tx [97, 99]], 0) := by decide +kernel
theorem first_cuts : cutsR [97, 40, 98, 43, 99, 41] = ([tx [97], tx [98, 99]], 0) := by decide +kernel
theorem first_dual : dualR [97, 40, 98, 43, 99, 41] = ([97, 43, 98, 99], 0) := by decide +kernel
theorem same_two (a b : ByteArray) (k : Nat) : dropperlaw09_SameTexts.f (k + 3) [a, b] [a, b] = some true := by
 unfold dropperlaw09_SameTexts.f
 simp [dropperlaw09_SameTexts.l0, wrap64]
theorem first_evk (k : Nat) : dropperlaw09_First.f (k + 3) = some true := by
 have h1 : loop_Paths.f (⟨#[97, 40, 98, 43, 99, 41]⟩ : ByteArray) = some ([tx [97, 98], tx [97, 99]], 0) := by
  show some ((pathsR [97, 40, 98, 43, 99, 41]).1, (pathsR [97, 40, 98, 43, 99, 41]).2) = _
  rw [first_paths]
 have h2 : loop_Cuts.f (⟨#[97, 40, 98, 43, 99, 41]⟩ : ByteArray) = some ([tx [97], tx [98, 99]], 0) := by
  show some ((cutsR [97, 40, 98, 43, 99, 41]).1, (cutsR [97, 40, 98, 43, 99, 41]).2) = _
  rw [first_cuts]
 have h3 : loop_Dual.f (⟨#[97, 40, 98, 43, 99, 41]⟩ : ByteArray) = some (tx [97, 43, 98, 99], 0) := by
  show some (tx (dualR [97, 40, 98, 43, 99, 41]).1, (dualR [97, 40, 98, 43, 99, 41]).2) = _
  rw [first_dual]
 have h4 : dropperlaw09_SameTexts.f (k + 3) [tx [97, 98], tx [97, 99]] ([(⟨#[97, 98]⟩ : ByteArray), (⟨#[97, 99]⟩ : ByteArray)] : List ByteArray) = some true := same_two _ _ k
 have h5 : dropperlaw09_SameTexts.f (k + 3) [tx [97], tx [98, 99]] ([(⟨#[97]⟩ : ByteArray), (⟨#[98, 99]⟩ : ByteArray)] : List ByteArray) = some true := same_two _ _ k
 unfold dropperlaw09_First.f
 rw [h1, h2, h3]
 simp only [Option.bind_some, if_true]
 rw [h4, Option.bind_some, if_pos rfl, h5, Option.bind_some, if_pos rfl, ByteArray.toList_eq]
 rfl
theorem first_ev : dropperlaw09_First.f 3 = some true := first_evk 0
theorem long_ev (a b : ByteArray) : (dropperlaw09_Long.f a b = some true) ∨ (dropperlaw09_Long.f a b = some false ∧ a.size ≤ 200 ∧ b.size ≤ 200) := by
 unfold dropperlaw09_Long.f
 by_cases h1 : (a.size : Int) > 200
 ·
  exact Or.inl (if_pos h1)
 ·
  rw [if_neg h1]
  by_cases h2 : (b.size : Int) > 200
  ·
   exact Or.inl (by rw [decide_eq_true h2])
  ·
   exact Or.inr ⟨by rw [decide_eq_false h2], by omega, by omega⟩
end Go.Proofs.Yteikgnaikeleaaa

namespace Go.Proofs.Yteikgnaikeleaaa.Open
open Go.RowKit Go.Proofs.YteikgnaikeleaaaW.PrintWords Go.Proofs.YteikgnaikeleaaaW.PrintLast Go.Proofs.YteikgnaikeleaaaW.PrintMore
set_option linter.unusedVariables false
set_option linter.unusedSimpArgs false
/-! What an argument of a type reads as, in the print's kinds. -/
section
variable {P : Program} {t e : TypeId} {α β : Type} {kd : Kd α} {G : α → Prop}
theorem add_add (a : Addr) (m n : Nat) : (a.add m).add n = a.add (m + n) := by
 unfold Addr.add
 by_cases h1 : m = 0
 ·
  subst h1; simp
 ·
  by_cases h2 : n = 0
  ·
   subst h2; simp [h1]
  ·
   have : ¬ m + n = 0 := by omega
   simp [h1, h2, this, Nat.add_assoc]
end
end Go.Proofs.Yteikgnaikeleaaa.Open

namespace Go.Proofs.Yteikgnaikeleaaa.XLoop
open Go.RowKit Go.Proofs.YteikgnaikeleaaaW.PrintWords Go.Proofs.YteikgnaikeleaaaW.PrintLast Go.Proofs.YteikgnaikeleaaaW.PrintMore
attribute [local go_sem] max2_int min2_int max_two min_two max_three min_three max_four min_four   -- for this text's walks alone
set_option linter.unusedVariables false
set_option linter.unusedSimpArgs false
/-! ### loop_Plain: function 34 -/
def loop_Plain.f (a0 : ByteArray) : Option (ByteArray × Int) := some (tx (plainR a0.data.toList).1, (plainR a0.data.toList).2)
theorem loop_Plain.calls (a0 : ByteArray) (r1 : ByteArray) (r2 : Int) (w : World) (h : loop_Plain.f a0 = some (r1, r2)) :
  Calls Try.prog 34 #[.string a0] w fun e w' => e = .returned (.tuple #[.string r1, .int .i64 r2]) ∧ Below w.heap.size w w' := by
 obtain ⟨rfl, rfl⟩ := Prod.mk.inj (Option.some.inj h)
 have hc := plain_calls a0.data.toList w
 simp only [tx_data] at hc
 exact hc

end Go.Proofs.Yteikgnaikeleaaa.XLoop
namespace Go.Proofs.Yteikgnaikeleaaa
open Go.RowKit Go.Proofs.YteikgnaikeleaaaW.PrintWords Go.Proofs.YteikgnaikeleaaaW.PrintLast Go.Proofs.YteikgnaikeleaaaW.PrintMore
set_option linter.unusedVariables false

theorem and_lt (a b : Nat) (ha : a < 256) : a &&& b < 256 := Nat.lt_of_le_of_lt Nat.and_le_left ha
theorem or_lt2 (a b : Nat) (ha : a < 256) (hb : b < 256) : a ||| b < 256 := Nat.or_lt_two_pow (n := 8) ha hb
def needsF (f : Nat → Bool) : Nat := (leastF f).foldl (fun out n => out &&& n.val) 255
def idleF (s : List UInt8) (f : Nat → Bool) : Nat := (leastF f).foldl (fun out n => out &&& (255 ^^^ n.val)) (allTo s 8)
theorem fold_lt (g : Nat → Fin 256 → Nat) (hg : ∀ a n, a < 256 → g a n < 256) : ∀ (l : List (Fin 256)) (a : Nat), a < 256 → l.foldl g a < 256
 | [], a, h => h
 | n :: l, a, h => fold_lt g hg l _ (hg a n h)
def needsR (s : List UInt8) : List UInt8 × Int := match parseL s with | none => ([], 90) | some m => (textN (needsF m.f), 0)
def idleR (s : List UInt8) : List UInt8 × Int := match parseL s with | none => ([], 90) | some m => (textN (idleF s m.f), 0)
set_option maxHeartbeats 8000000 in
set_option maxRecDepth 1000000 in
theorem needs_calls (s : List UInt8) (w : World) : Calls Try.prog 52 #[.string (tx s)] w fun e w' => e = .returned (.tuple #[.string (tx (needsR s).1), .int .i64 (needsR s).2]) ∧ Below w.heap.size w w' := by
 have HP := Aside0.mk (open_ s w)
 unfold OpenPost at HP
 unfold needsR
 cases hc : parseL s with
 | none =>
  rw [hc] at HP
  go_enter Try.func52, Try.ntmps52
  go_wp2_with (first | (go_at_call 57; refine HP.out.mono ?_; rintro e W' ⟨hb, rfl⟩; have HB := Aside0.mk hb; clear hb))
  go_ret2
  exact ⟨rfl, HB.out⟩
 | some m =>
  rw [hc] at HP
  clear hc
  obtain ⟨f, hf⟩ : ∃ f, f = m.f := ⟨_, rfl⟩
  simp only [← hf] at HP ⊢
  clear hf
  obtain ⟨l, hl⟩ : ∃ l, l = leastF f := ⟨_, rfl⟩
  have HLN : Aside0 (l.length ≤ 256) := ⟨by rw [hl]; exact leastF_len f⟩
  have hnf : needsF f = l.foldl (fun out n => out &&& n.val) 255 := by rw [hl]; rfl
  have hlt : needsF f < 256 := fold_lt _ (fun a n h => and_lt a _ h) _ _ (by decide)
  obtain ⟨N, hN⟩ : ∃ N, N = needsF f := ⟨_, rfl⟩
  rw [← hN] at hnf hlt ⊢
  have HNF := Aside0.mk hnf
  have HLF := Aside0.mk hl
  have HT : Aside0 (∀ W, Calls Try.prog 72 #[.int .i64 (N : Nat)] W fun e w' => e = .returned (.string (tx (textN N))) ∧ Below W.heap.size W w') := ⟨text_calls N hlt⟩
  clear hN hnf hlt hl
  go_enter Try.func52, Try.ntmps52
  go_wp2_with (first | (go_at_call 57; refine HP.out.mono ?_; rintro e W' ⟨hb, g, hg, rfl, hh⟩; have HB := Aside0.mk hb; have HC := Aside0.mk (paths_least g f W' hh); clear hb hg hh) | (go_at_call 59; refine HC.out.mono ?_; rintro e W2 ⟨v, rfl, ho, hb⟩; rw [← HLF.out] at ho; obtain ⟨A, c, rfl, _, hr⟩ := Kd.R_reads ho; have HB2 := Aside0.mk (below_step HB.out hb); have HR := Aside0.mk hr; clear ho hb hr))
  go_loopg [21, 6] (l.length + 1) (fun kq v21 v6 W => ∃ (x a : Nat), v21 = .int .i64 x ∧ v6 = .int .i64 (a : Nat) ∧ Aside0 (x + kq = l.length + 1) ∧ Aside0 (x ≤ l.length) ∧ Aside0 (a < 256) ∧ Aside0 ((l.drop x).foldl (fun out n => out &&& n.val) a = N) ∧ Aside0 (W = W2))
  case atStart => exact ⟨0, 255, rfl, rfl, ⟨by omega⟩, ⟨by omega⟩, ⟨by decide⟩, ⟨HNF.out.symm⟩, ⟨rfl⟩⟩
  case round =>
   obtain ⟨x, a, rfl, rfl, HK, HX, HA, HD, ⟨rfl⟩⟩ := hrel
   by_cases hx : x < l.length
   ·
    have h1 : decide ((x : Int) < (l.length : Int)) = true := decide_eq_true (by omega)
    have hnx : wrap64 ((x : Int) + 1) = ((x + 1 : Nat) : Int) := by have := HLN.out; unfold wrap64; omega
    have HX1 := Aside0.mk hx
    obtain ⟨ad, rfl, hcell⟩ := row_at HR.out x hx
    have hd := HD.out
    rw [List.drop_eq_getElem_cons hx, List.foldl_cons] at hd
    generalize l[x] = k at hd hcell
    have hand := and_bits a k.val HA.out k.isLt
    have HA2 : Aside0 (a &&& k.val < 256) := ⟨and_lt a _ HA.out⟩
    have HD2 := Aside0.mk hd
    have h00 : (0 : Int) ≤ (x : Int) ∧ (x : Int) < (l.length : Int) := by omega
    clear hx hd
    go_wp2
    go_roundg (l.length - x)
    case measure => have := HK.out; have := HX1.out; omega
    case rel => exact ⟨x + 1, a &&& k.val, by first | rfl | rw [hnx], by first | rfl | rw [hand], ⟨by have := HX1.out; omega⟩, ⟨HX1.out⟩, HA2, HD2, ⟨rfl⟩⟩
   ·
    have h1 : decide ((x : Int) < (l.length : Int)) = false := decide_eq_false (by omega)
    have hd := HD.out
    rw [List.drop_eq_nil_of_le (by omega)] at hd
    have hd2 : a = N := hd
    subst hd2
    clear hd
    go_wp2_with (go_at_call 72; refine (HT.out _).mono ?_; rintro e W4 ⟨rfl, hb⟩; have HB4 := Aside0.mk (below_step HB2.out hb); clear hb)
    go_ret2
    exact ⟨rfl, HB4.out⟩
theorem set_text (k : Nat) (h : k < 256) : setL (textN k) 0 (-1) = some k := by
 have : ∀ k : Fin 256, setL (textN k.val) 0 (-1) = some k.val := by decide +kernel
 exact this ⟨k, h⟩
set_option maxHeartbeats 8000000 in
set_option maxRecDepth 1000000 in
theorem idle_calls (s : List UInt8) (w : World) : Calls Try.prog 51 #[.string (tx s)] w fun e w' => e = .returned (.tuple #[.string (tx (idleR s).1), .int .i64 (idleR s).2]) ∧ Below w.heap.size w w' := by
 have HP := Aside0.mk (open_ s w)
 unfold OpenPost at HP
 have hL : ∀ W, Calls Try.prog 47 #[.string (tx s)] W fun e w' => e = .returned (.tuple #[.string (tx (lettersR s).1), .int .i64 (lettersR s).2]) ∧ Below W.heap.size W w' := letters_calls s
 unfold lettersR at hL
 unfold idleR
 cases hc : parseL s with
 | none =>
  rw [hc] at HP
  clear hL
  go_enter Try.func51, Try.ntmps51
  go_wp2_with (first | (go_at_call 57; refine HP.out.mono ?_; rintro e W' ⟨hb, rfl⟩; have HB := Aside0.mk hb; clear hb))
  go_ret2
  exact ⟨rfl, HB.out⟩
 | some m =>
  rw [hc] at HP hL
  clear hc
  obtain ⟨f, hf⟩ : ∃ f, f = m.f := ⟨_, rfl⟩
  simp only [← hf] at HP ⊢
  clear hf
  have hq : ∀ W, Calls Try.prog 83 #[.string (tx (textN (allTo s 8)))] W fun e w' => e = .returned (.tuple #[.int .i64 (allTo s 8 : Nat), .bool true]) ∧ Below W.heap.size W w' := fun W => by
   have h := number_of (textN (allTo s 8)) W
   unfold numR at h
   rw [set_text _ (allTo_lt s 8 (by decide))] at h
   exact h
  obtain ⟨l, hl⟩ : ∃ l, l = leastF f := ⟨_, rfl⟩
  have HLN : Aside0 (l.length ≤ 256) := ⟨by rw [hl]; exact leastF_len f⟩
  have hal := allTo_lt s 8 (by decide)
  have hnf : idleF s f = l.foldl (fun out n => out &&& (255 ^^^ n.val)) (allTo s 8) := by rw [hl]; rfl
  have hlt : idleF s f < 256 := fold_lt _ (fun a n h => and_lt a _ h) _ _ hal
  obtain ⟨N, hN⟩ : ∃ N, N = idleF s f := ⟨_, rfl⟩
  rw [← hN] at hnf hlt ⊢
  generalize allTo s 8 = a0 at hL hq hal hnf
  have HNF := Aside0.mk hnf
  have HLF := Aside0.mk hl
  have HL := Aside0.mk hL
  have HQ := Aside0.mk hq
  have HA0 := Aside0.mk hal
  have HT : Aside0 (∀ W, Calls Try.prog 72 #[.int .i64 (N : Nat)] W fun e w' => e = .returned (.string (tx (textN N))) ∧ Below W.heap.size W w') := ⟨text_calls N hlt⟩
  clear hN hnf hlt hl hL hq hal
  go_enter Try.func51, Try.ntmps51
  go_wp2_with (first | (go_at_call 57; refine HP.out.mono ?_; rintro e W' ⟨hb, g, hg, rfl, hh⟩; have HB := Aside0.mk hb; have HH := Aside0.mk hh; clear hb hg hh) | (go_at_call 47; refine (HL.out _).mono ?_; rintro e W5 ⟨rfl, hb⟩; have HB5 := Aside0.mk (below_step HB.out hb); have HH5 := Aside0.mk (blk_below HH.out hb); clear hb) | (go_at_call 83; refine (HQ.out _).mono ?_; rintro e W6 ⟨rfl, hb⟩; have HB6 := Aside0.mk (below_step HB5.out hb); have HC := Aside0.mk (paths_least g f W6 (blk_below HH5.out hb)); clear hb) | (go_at_call 59; refine HC.out.mono ?_; rintro e W2 ⟨v, rfl, ho, hb⟩; rw [← HLF.out] at ho; obtain ⟨A, c, rfl, _, hr⟩ := Kd.R_reads ho; have HB2 := Aside0.mk (below_step HB6.out hb); have HR := Aside0.mk hr; clear ho hb hr))
  go_loopg [34, 8] (l.length + 1) (fun kq v34 v8 W => ∃ (x a : Nat), v34 = .int .i64 x ∧ v8 = .int .i64 (a : Nat) ∧ Aside0 (x + kq = l.length + 1) ∧ Aside0 (x ≤ l.length) ∧ Aside0 (a < 256) ∧ Aside0 ((l.drop x).foldl (fun out n => out &&& (255 ^^^ n.val)) a = N) ∧ Aside0 (W = W2))
  case atStart => exact ⟨0, a0, rfl, rfl, ⟨by omega⟩, ⟨by omega⟩, HA0, ⟨HNF.out.symm⟩, ⟨rfl⟩⟩
  case round =>
   obtain ⟨x, a, rfl, rfl, HK, HX, HA, HD, ⟨rfl⟩⟩ := hrel
   by_cases hx : x < l.length
   ·
    have h1 : decide ((x : Int) < (l.length : Int)) = true := decide_eq_true (by omega)
    have hnx : wrap64 ((x : Int) + 1) = ((x + 1 : Nat) : Int) := by have := HLN.out; unfold wrap64; omega
    have HX1 := Aside0.mk hx
    obtain ⟨ad, rfl, hcell⟩ := row_at HR.out x hx
    have hd := HD.out
    rw [List.drop_eq_getElem_cons hx, List.foldl_cons] at hd
    generalize l[x] = k at hd hcell
    have hand := not_bits a k.val HA.out k.isLt
    have HA2 : Aside0 (a &&& (255 ^^^ k.val) < 256) := ⟨and_lt a _ HA.out⟩
    have HD2 := Aside0.mk hd
    have h00 : (0 : Int) ≤ (x : Int) ∧ (x : Int) < (l.length : Int) := by omega
    clear hx hd
    go_wp2
    go_roundg (l.length - x)
    case measure => have := HK.out; have := HX1.out; omega
    case rel => exact ⟨x + 1, a &&& (255 ^^^ k.val), by first | rfl | rw [hnx], by first | rfl | rw [hand], ⟨by have := HX1.out; omega⟩, ⟨HX1.out⟩, HA2, HD2, ⟨rfl⟩⟩
   ·
    have h1 : decide ((x : Int) < (l.length : Int)) = false := decide_eq_false (by omega)
    have hd := HD.out
    rw [List.drop_eq_nil_of_le (by omega)] at hd
    have hd2 : a = N := hd
    subst hd2
    clear hd
    go_wp2_with (go_at_call 72; refine (HT.out _).mono ?_; rintro e W4 ⟨rfl, hb⟩; have HB4 := Aside0.mk (below_step HB2.out hb); clear hb)
    go_ret2
    exact ⟨rfl, HB4.out⟩
end Go.Proofs.Yteikgnaikeleaaa

namespace Go.Proofs.Yteikgnaikeleaaa
open Go.RowKit Go.Proofs.YteikgnaikeleaaaW.PrintWords Go.Proofs.YteikgnaikeleaaaW.PrintLast Go.Proofs.YteikgnaikeleaaaW.PrintMore
set_option linter.unusedVariables false

def fixR (s q : List UInt8) (closed : Bool) : List UInt8 × Int :=
 match parseL s, setL q 0 (-1) with
 | none, _ => ([], 90)
 | some m, none => ([], 2)
 | some m, some k => if sizeN k = 1 then plainF (fixF m.f k closed) else ([], 2)
theorem tbl_far {w W : World} {g : Nat} {o : Obj} (h : w.heap[g]? = some o) (hb : Below w.heap.size w W) : W.heap[g]? = some o := blk_below h hb
theorem fixF_tbl (f : Nat → Bool) (k : Nat) (closed : Bool) (x : Nat) : tbl (fun n => if n = x then fixF f k closed x else (decide (n < x) && fixF f k closed n)) = tbl (fun i => decide (i < x + 1) && fixF f k closed i) := by
 apply tbl_ext
 intro i hi
 by_cases e : i = x
 ·
  subst e
  simp
 ·
  rw [if_neg e]
  have : (i < x) = (i < x + 1) := propext ⟨fun h => by omega, fun h => by omega⟩
  simp only [this]
set_option maxHeartbeats 8000000 in
set_option maxRecDepth 1000000 in
theorem fixed_good (m : Mean) (s q : List UInt8) (k : Nat) (closed : Bool) (w : World) (hc : parseL s = some m) (hq : setL q 0 (-1) = some k) (h1 : sizeN k = 1) :
  Calls Try.prog 80 #[.string (tx s), .string (tx q), .bool closed] w fun e w' => e = .returned (.tuple #[.string (tx (plainF (fixF m.f k closed)).1), .int .i64 (plainF (fixF m.f k closed)).2]) ∧ Below w.heap.size w w' := by
 have HP := Aside0.mk (open_ s w)
 unfold OpenPost at HP
 rw [hc] at HP
 have hN := number_of q
 unfold numR at hN
 rw [hq] at hN
 have HNN := Aside0.mk hN
 have hk := setL_256 hq
 have HKK := Aside0.mk hk
 have uk := u64_small k hk
 have HO : Aside0 (∀ W, Calls Try.prog 73 #[.int .u64 k] W fun e w' => e = .returned (.int .i64 1) ∧ w' = W) := ⟨fun W => by have h := ones_calls k hk W; rw [h1] at h; exact h⟩
 obtain ⟨f, hf⟩ : ∃ f, f = m.f := ⟨_, rfl⟩
 simp only [← hf] at HP ⊢
 clear hc hq hN hf h1 hk
 have hz : Try.zeroCells67 = tbl (fun _ => false) := by rfl
 go_enter Try.func80, Try.ntmps80
 go_wp2_with (first | (go_at_call 57; refine HP.out.mono ?_; rintro e W' ⟨hb, g, hg, rfl, hh⟩; have HB := Aside0.mk hb; have HH := Aside0.mk hh; clear hb hg hh) | (go_at_call 83; refine (HNN.out _).mono ?_; rintro e W2 ⟨rfl, hb⟩; have HB2 := Aside0.mk (below_step HB.out hb); have HH2 := Aside0.mk (blk_below HH.out hb); clear hb) | (go_at_call 73; refine (HO.out _).mono ?_; rintro e w' ⟨rfl, hw⟩; rw [hw]; clear hw w'))
 have HNE : Aside0 (g ≠ W2.heap.size) := ⟨Nat.ne_of_lt (blk_lt HH2.out)⟩
 have HSZ : Aside0 (w.heap.size ≤ W2.heap.size) := ⟨HB2.out.size⟩
 go_loopg [39] 257 (fun kq v39 W => ∃ x : Nat, v39 = .int .i64 x ∧ Aside0 (x + kq = 257) ∧ Aside0 (x ≤ 256) ∧ Aside0 (W.heap[g]? = some (.cells (tbl f) 67 (0, 0))) ∧ Aside0 (W.heap[W2.heap.size]? = some (.cells (tbl (fun i => decide (i < x) && fixF f k closed i)) 67 (0, 0))) ∧ Aside0 (Below w.heap.size w W))
 case atStart => exact ⟨0, rfl, ⟨rfl⟩, ⟨by decide⟩, ⟨blk_alloc HH2.out _⟩, ⟨by rw [show (fun i => decide (i < 0) && fixF f k closed i) = (fun _ => false) from by funext i; simp]; exact blk_new _ _⟩, ⟨below_alloc HB2.out _⟩⟩
 case round =>
  obtain ⟨x, rfl, HK, HX, HF, HC, HB9⟩ := hrel
  by_cases hx : x < 256
  ·
   have h1 : decide ((x : Int) < 256) = true := decide_eq_true (by omega)
   have hnx := next_nat x hx
   have HX1 := Aside0.mk hx
   have h0 : (0 : Int) ≤ (x : Int) ∧ (x : Int) < 256 := by omega
   have fo : Go.bits .or .i64 (x : Int) (k : Int) = ((x ||| k : Nat) : Int) := or_bits2 x k hx HKK.out
   have fn : Go.bits .andNot .i64 (x : Int) (k : Int) = ((x &&& (255 ^^^ k) : Nat) : Int) := not_bits x k hx HKK.out
   have ho := or_lt2 x k hx HKK.out
   have hn := and_lt x (255 ^^^ k) hx
   cases closed with
   | true =>
    obtain ⟨y, hy⟩ : ∃ y, y = x ||| k := ⟨_, rfl⟩
    have HY : Aside0 (fixF f k true x = f y) := ⟨by rw [hy]; rfl⟩
    rw [← hy] at fo ho
    have hy0 : (0 : Int) ≤ (y : Int) ∧ (y : Int) < 256 := by omega
    have HY2 := Aside0.mk ho
    clear fn hn hx hy ho
    go_wp2
    refine start_ (n := 12) (S := fun w' => w'.cell? ⟨g, y, none⟩ = some (.bool (f y))) (ds := []) #[false, false, false, false, false, false, false, false, false, false, false, false] (by kernel_rfl) rfl rfl (tbl_cell (blk_drew HF.out) y HY2.out) (fun hHeld => ?_)
    have HF2 := Aside0.mk (blk_drew HF.out)
    have HC2 := Aside0.mk (blk_drew HC.out)
    have HB2 := Aside0.mk (below_drew1 HB9.out)
    obtain ⟨w5, hw5⟩ : ∃ w5, w5 = wr.drew := ⟨_, rfl⟩
    rw [← hw5] at HF2 HC2 HB2 hHeld ⊢
    clear hw5 HC HB9 HF
    have c8 := blkc HC2.out x _ (tbl_get _ x HX1.out)
    have f8 := blk_frozen HC2.out x
    refine pst (i := 0) (N := some 43) (bz 12 1) (by kernel_rfl) ?_
    refine pst (i := 1) (N := some 44) (bz 12 3) (by kernel_rfl) ?_
    refine pst (i := 2) (N := some 45) (bz 12 7) (by kernel_rfl) ?_
    refine pst (i := 3) (N := some 46) (bz 12 15) (by kernel_rfl) ?_
    refine pst (i := 4) (N := some 47) (bz 12 31) (by kernel_rfl) ?_
    refine pst (i := 5) (N := some 48) (bz 12 63) (by kernel_rfl) ?_
    refine pst (i := 6) (N := some 49) (bz 12 127) (by kernel_rfl) ?_
    refine pst (i := 7) (N := some 50) (bz 12 255) (by kernel_rfl) ?_
    refine tst1 (i := 8) (N := some 51) (bz 12 511) (by kernel_rfl) hHeld ?_
    refine pst (i := 9) (N := some 52) (bz 12 1023) (by kernel_rfl) ?_
    refine pst (i := 10) (N := some 53) (bz 12 2047) (by kernel_rfl) ?_
    have HF3 := blk_far HF2.out (p := ⟨W2.heap.size, x, none⟩) HNE.out (.bool (f y))
    refine one_ (i := 11) (N := none) (bz 12 4095) rfl rfl (by kernel_rfl) (by decide) (fun K hK => ?_)
    refine skip_ rfl rfl (w1 := w5.setCell ⟨W2.heap.size, x, none⟩ (.bool (f y))) ?_ ?_
    ·
     go_simp
    refine hK.out _ _ (tbl_cell HF3 y HY2.out) (fun hHeld => ?_)
    clear hK K
    refine done_ (by kernel_rfl) ?_
    go_wp2
    go_roundg (256 - x)
    case measure => have := HK.out; have := HX1.out; omega
    case rel =>
     refine ⟨x + 1, by first | rfl | rw [hnx], ⟨by have := HX1.out; omega⟩, ⟨HX1.out⟩, ⟨HF3⟩, ⟨?_⟩, ⟨HB2.out.setCell (p := ⟨W2.heap.size, x, none⟩) HSZ.out _⟩⟩
     refine blk_put HC2.out x _ ?_
     rw [tbl_set, ← HY.out]
     exact fixF_tbl f k true x
   | false =>
    obtain ⟨y, hy⟩ : ∃ y, y = x &&& (255 ^^^ k) := ⟨_, rfl⟩
    have HY : Aside0 (fixF f k false x = f y) := ⟨by rw [hy]; rfl⟩
    rw [← hy] at fn hn
    have hy0 : (0 : Int) ≤ (y : Int) ∧ (y : Int) < 256 := by omega
    have HY2 := Aside0.mk hn
    clear fo ho hx hy hn
    go_wp2
    refine start_ (n := 12) (S := fun w' => w'.cell? ⟨g, y, none⟩ = some (.bool (f y))) (ds := []) #[false, false, false, false, false, false, false, false, false, false, false, false] (by kernel_rfl) rfl rfl (tbl_cell (blk_drew HF.out) y HY2.out) (fun hHeld => ?_)
    have HF2 := Aside0.mk (blk_drew HF.out)
    have HC2 := Aside0.mk (blk_drew HC.out)
    have HB2 := Aside0.mk (below_drew1 HB9.out)
    obtain ⟨w5, hw5⟩ : ∃ w5, w5 = wr.drew := ⟨_, rfl⟩
    rw [← hw5] at HF2 HC2 HB2 hHeld ⊢
    clear hw5 HC HB9 HF
    have c8 := blkc HC2.out x _ (tbl_get _ x HX1.out)
    have f8 := blk_frozen HC2.out x
    refine pst (i := 0) (N := some 54) (bz 12 1) (by kernel_rfl) ?_
    refine pst (i := 1) (N := some 55) (bz 12 3) (by kernel_rfl) ?_
    refine pst (i := 2) (N := some 56) (bz 12 7) (by kernel_rfl) ?_
    refine pst (i := 3) (N := some 57) (bz 12 15) (by kernel_rfl) ?_
    refine pst (i := 4) (N := some 58) (bz 12 31) (by kernel_rfl) ?_
    refine pst (i := 5) (N := some 59) (bz 12 63) (by kernel_rfl) ?_
    refine pst (i := 6) (N := some 60) (bz 12 127) (by kernel_rfl) ?_
    refine pst (i := 7) (N := some 61) (bz 12 255) (by kernel_rfl) ?_
    refine tst1 (i := 8) (N := some 62) (bz 12 511) (by kernel_rfl) hHeld ?_
    refine pst (i := 9) (N := some 63) (bz 12 1023) (by kernel_rfl) ?_
    refine pst (i := 10) (N := some 64) (bz 12 2047) (by kernel_rfl) ?_
    have HF3 := blk_far HF2.out (p := ⟨W2.heap.size, x, none⟩) HNE.out (.bool (f y))
    refine one_ (i := 11) (N := none) (bz 12 4095) rfl rfl (by kernel_rfl) (by decide) (fun K hK => ?_)
    refine skip_ rfl rfl (w1 := w5.setCell ⟨W2.heap.size, x, none⟩ (.bool (f y))) ?_ ?_
    ·
     go_simp
    refine hK.out _ _ (tbl_cell HF3 y HY2.out) (fun hHeld => ?_)
    clear hK K
    refine done_ (by kernel_rfl) ?_
    go_wp2
    go_roundg (256 - x)
    case measure => have := HK.out; have := HX1.out; omega
    case rel =>
     refine ⟨x + 1, by first | rfl | rw [hnx], ⟨by have := HX1.out; omega⟩, ⟨HX1.out⟩, ⟨HF3⟩, ⟨?_⟩, ⟨HB2.out.setCell (p := ⟨W2.heap.size, x, none⟩) HSZ.out _⟩⟩
     refine blk_put HC2.out x _ ?_
     rw [tbl_set, ← HY.out]
     exact fixF_tbl f k false x
  ·
   have h1 : decide ((x : Int) < 256) = false := decide_eq_false (by omega)
   have hx6 : x = 256 := by have := HX.out; omega
   have hcc := HC.out
   rw [hx6, tbl_ext (g := fixF f k closed) (fun i hi => by simp [hi])] at hcc
   have HPL := Aside0.mk (plain_table W2.heap.size (fixF f k closed) wr hcc)
   clear hcc
   go_wp2_with (go_at_call 74; refine HPL.out.mono ?_; rintro e W7 ⟨rfl, hb⟩; have HB7 := Aside0.mk (below_step HB9.out hb); clear hb)
   go_ret2
   exact ⟨rfl, HB7.out⟩
set_option maxHeartbeats 8000000 in
set_option maxRecDepth 1000000 in
theorem fixed_calls (s q : List UInt8) (closed : Bool) (w : World) :
  Calls Try.prog 80 #[.string (tx s), .string (tx q), .bool closed] w fun e w' => e = .returned (.tuple #[.string (tx (fixR s q closed).1), .int .i64 (fixR s q closed).2]) ∧ Below w.heap.size w w' := by
 unfold fixR
 have HP := Aside0.mk (open_ s w)
 unfold OpenPost at HP
 have hN := number_of q
 unfold numR at hN
 cases hc : parseL s with
 | none =>
  rw [hc] at HP
  have HNN := Aside0.mk hN
  clear hN hc
  generalize (match setL q 0 (-1) with | some n => ((n : Int), true) | none => (0, false)) = pr at HNN
  obtain ⟨p1, p2⟩ := pr
  go_enter Try.func80, Try.ntmps80
  go_wp2_with (first | (go_at_call 57; refine HP.out.mono ?_; rintro e W' ⟨hb, rfl⟩; have HB := Aside0.mk hb; clear hb) | (go_at_call 83; refine (HNN.out _).mono ?_; rintro e W2 ⟨rfl, hb⟩; have HB2 := Aside0.mk (below_step HB.out hb); clear hb))
  all_goals go_ret2
  all_goals exact ⟨rfl, HB2.out⟩
 | some m =>
  rw [hc] at HP
  cases hq : setL q 0 (-1) with
  | none =>
   rw [hq] at hN
   have HNN := Aside0.mk hN
   clear hN hc hq
   go_enter Try.func80, Try.ntmps80
   go_wp2_with (first | (go_at_call 57; refine HP.out.mono ?_; rintro e W' ⟨hb, g, hg, rfl, hh⟩; have HB := Aside0.mk hb; clear hb hg hh) | (go_at_call 83; refine (HNN.out _).mono ?_; rintro e W2 ⟨rfl, hb⟩; have HB2 := Aside0.mk (below_step HB.out hb); clear hb))
   go_ret2
   exact ⟨rfl, HB2.out⟩
  | some k =>
   by_cases h1 : sizeN k = 1
   ·
    simp only [if_pos h1]
    exact fixed_good m s q k closed w hc hq h1
   ·
    simp only [if_neg h1]
    rw [hq] at hN
    have hk := setL_256 hq
    have uk := u64_small k hk
    have HNN := Aside0.mk hN
    have HO : Aside0 (∀ W, Calls Try.prog 73 #[.int .u64 k] W fun e w' => e = .returned (.int .i64 (sizeN k)) ∧ w' = W) := ⟨fun W => ones_calls k hk W⟩
    have hne : ((sizeN k : Int) != 1) = true := bne_iff_ne.mpr (by omega)
    clear hN hc hq h1 hk
    go_enter Try.func80, Try.ntmps80
    go_wp2_with (first | (go_at_call 57; refine HP.out.mono ?_; rintro e W' ⟨hb, g, hg, rfl, hh⟩; have HB := Aside0.mk hb; clear hb hg hh) | (go_at_call 83; refine (HNN.out _).mono ?_; rintro e W2 ⟨rfl, hb⟩; have HB2 := Aside0.mk (below_step HB.out hb); clear hb) | (go_at_call 73; refine (HO.out _).mono ?_; rintro e w' ⟨rfl, hw⟩; rw [hw]; clear hw w'))
    go_ret2
    exact ⟨rfl, HB2.out⟩
set_option maxHeartbeats 8000000 in
set_option maxRecDepth 1000000 in
theorem closed_calls (s q : List UInt8) (w : World) :
  Calls Try.prog 42 #[.string (tx s), .string (tx q)] w fun e w' => e = .returned (.tuple #[.string (tx (fixR s q true).1), .int .i64 (fixR s q true).2]) ∧ Below w.heap.size w w' := by
 have HP := Aside0.mk (fixed_calls s q true w)
 go_enter Try.func42, Try.ntmps42
 go_wp2_with (first | (go_at_call 80; refine HP.out.mono ?_; rintro e W' ⟨rfl, hb⟩; have HB := Aside0.mk hb; clear hb))
 go_ret2
 exact ⟨rfl, HB.out⟩
set_option maxHeartbeats 8000000 in
set_option maxRecDepth 1000000 in
theorem opened_calls (s q : List UInt8) (w : World) :
  Calls Try.prog 44 #[.string (tx s), .string (tx q)] w fun e w' => e = .returned (.tuple #[.string (tx (fixR s q false).1), .int .i64 (fixR s q false).2]) ∧ Below w.heap.size w w' := by
 have HP := Aside0.mk (fixed_calls s q false w)
 go_enter Try.func44, Try.ntmps44
 go_wp2_with (first | (go_at_call 80; refine HP.out.mono ?_; rintro e W' ⟨rfl, hb⟩; have HB := Aside0.mk hb; clear hb))
 go_ret2
 exact ⟨rfl, HB.out⟩
end Go.Proofs.Yteikgnaikeleaaa

/- Which letters all least sets have; sets by their texts; plain circuits. -/
namespace Go.Proofs.Yteikgnaikeleaaa
set_option linter.unusedVariables false

theorem fold_and : ∀ (l : List (Fin 256)) (a i : Nat), (l.foldl (fun out n => out &&& n.val) a).testBit i = (a.testBit i && l.all (fun n => n.val.testBit i))
 | [], a, i => by simp
 | n :: l, a, i => by
  rw [List.foldl_cons, fold_and l, Nat.testBit_and, List.all_cons, Bool.and_assoc]
theorem least_mem {f : Nat → Bool} (hf : Good f) (n : Fin 256) : n ∈ leastF f ↔ minF f n = true := by
 rw [← leastF_min hf, List.mem_filter]
 exact ⟨fun h => h.2, fun h => ⟨all_inF n, h⟩⟩
theorem without_bit (i j : Nat) (hi : i < 8) : (255 - 2 ^ i).testBit j = (decide (j < 8) && decide (j ≠ i)) := by
 rcases Nat.lt_or_ge j 8 with h | h
 ·
  rw [less_bit 255 i j (by decide) hi (bit_255 i hi) h, bit_255 j h, decide_eq_true h]
 ·
  have : 255 - 2 ^ i < 2 ^ j := Nat.lt_of_lt_of_le (show 255 - 2 ^ i < 2 ^ 8 from Nat.lt_of_le_of_lt (Nat.sub_le _ _) (by decide)) (Nat.pow_le_pow_right (by decide) h)
  rw [Nat.testBit_lt_two_pow this, decide_eq_false (by omega), Bool.false_and]
theorem needs_bit {f : Nat → Bool} (hf : Good f) (i : Nat) (hi : i < 8) : (needsF f).testBit i = !f (255 - 2 ^ i) := by
 unfold needsF
 rw [fold_and, bit_255 i hi, Bool.true_and]
 have hlt : 255 - 2 ^ i < 256 := Nat.lt_of_le_of_lt (Nat.sub_le _ _) (by decide)
 cases hq : f (255 - 2 ^ i) with
 | true =>
  obtain ⟨a, h1, h2⟩ := min_below f _ hlt hq
  rw [List.all_eq_false.2]
  ·
   rfl
  ·
   refine ⟨a, (least_mem hf a).2 h1, fun h3 => ?_⟩
   have := (part_iff _ _ a.isLt hlt).1 h2 i h3
   rw [without_bit i i hi] at this
   simp at this
 | false =>
  rw [List.all_eq_true.2]
  ·
   rfl
  ·
   intro n hn
   have hm := (least_mem hf n).1 hn
   have hfn : f n.val = true := by unfold minF at hm; simp only [Bool.and_eq_true] at hm; exact hm.1
   cases hb : n.val.testBit i with
   | true => rfl
   | false =>
    have := hf.mono n.val (255 - 2 ^ i) (fun j hj => by
     rw [without_bit i j hi, decide_eq_true (bit_lt _ _ n.isLt hj), Bool.true_and, decide_eq_true_iff]
     intro e
     rw [e, hb] at hj
     cases hj) hfn
    rw [hq] at this
    cases this
def needTo (f : Nat → Bool) : Nat → Nat
 | 0 => 0
 | k + 1 => if f (255 - 2 ^ k) then needTo f k else needTo f k ||| 2 ^ k
theorem needTo_lt (f : Nat → Bool) : ∀ k, k ≤ 8 → needTo f k < 256
 | 0, _ => by rw [needTo]; decide
 | k + 1, h => by
  have := needTo_lt f k (by omega)
  rw [needTo]
  split
  ·
   exact this
  ·
   exact or_lt this (by omega)
theorem needTo_bit (f : Nat → Bool) : ∀ k i, (needTo f k).testBit i = (decide (i < k) && !f (255 - 2 ^ i))
 | 0, i => by simp [needTo]
 | k + 1, i => by
  rw [needTo]
  by_cases e : i = k
  ·
   subst e
   cases hq : f (255 - 2 ^ i) with
   | true => rw [if_pos rfl, needTo_bit f i i]; simp
   | false => rw [if_neg (by decide), Nat.testBit_or, Nat.testBit_two_pow_self]; simp
  ·
   have e1 : decide (i < k + 1) = decide (i < k) := by rw [decide_eq_decide]; omega
   cases hq : f (255 - 2 ^ k) with
   | true => rw [if_pos rfl, needTo_bit f k i, e1]
   | false => rw [if_neg (by decide), Nat.testBit_or, Nat.testBit_two_pow_of_ne (fun h => e h.symm), Bool.or_false, needTo_bit f k i, e1]
theorem needTo_all {f : Nat → Bool} (hf : Good f) : needTo f 8 = needsF f := by
 apply Nat.eq_of_testBit_eq
 intro i
 rw [needTo_bit]
 by_cases h : i < 8
 ·
  rw [needs_bit hf i h, decide_eq_true h, Bool.true_and]
 ·
  have h2 : needsF f < 2 ^ 8 := fold_lt _ (fun a n h => and_lt a _ h) _ _ (by decide)
  have h3 : needsF f < 2 ^ i := Nat.lt_of_lt_of_le h2 (Nat.pow_le_pow_right (by decide) (by omega))
  rw [Nat.testBit_lt_two_pow h3, decide_eq_false h, Bool.false_and]
/-! plain circuits -/
def plainX (f : Nat → Bool) : List UInt8 × Int := if 40 < (leastT f).length then ([], 4) else (leastT f, 0)
theorem plainF_good {f : Nat → Bool} (hf : Good f) : plainF f = plainX f := by
 unfold plainF plainX
 rw [hf.zero, hf.full]
 rfl
theorem size_or (out j : Nat) (hj : j < 8) (h : out < 2 ^ j) : sizeN (out ||| 2 ^ j) = sizeN out + 1 := by
 have h9 : ∀ (j : Fin 8) (out : Fin 256), out.val < 2 ^ j.val → sizeN (out.val ||| 2 ^ j.val) = sizeN out.val + 1 := by decide +kernel
 exact h9 ⟨j, hj⟩ ⟨out, Nat.lt_trans h (Nat.pow_lt_pow_right (by decide) hj)⟩ h
theorem or_lt_next (out j : Nat) (hj : j < 8) (h : out < 2 ^ j) : out ||| 2 ^ j < 2 ^ (j + 1) := Nat.or_lt_two_pow (Nat.lt_trans h (Nat.pow_lt_pow_right (by decide) (Nat.lt_succ_self _))) (Nat.pow_lt_pow_right (by decide) (Nat.lt_succ_self _))
theorem setL_size : ∀ (t : List UInt8) (out : Nat) (c : Nat) (k : Nat), c ≤ 8 → out < 2 ^ c → setL t out ((c : Int) - 1) = some k → sizeN k = sizeN out + t.length
 | [], out, c, k, hc, ho, h => by rw [setL] at h; obtain rfl := Option.some.inj h; rfl
 | b :: t, out, c, k, hc, ho, h => by
  rw [setL] at h
  split at h
  case isFalse => cases h
  rename_i hi
  have hb := (isL_iff b).1 hi.1
  have e : ((b.toNat : Int) - 97) = (((b.toNat - 97 + 1 : Nat) : Int) - 1) := by omega
  have hlt : out < 2 ^ (b.toNat - 97) := Nat.lt_of_lt_of_le ho (Nat.pow_le_pow_right (by decide) (by omega))
  rw [e] at h
  have := setL_size t _ (b.toNat - 97 + 1) k (by omega) (or_lt_next out _ (by omega) hlt) h
  rw [this, size_or _ _ (by omega) hlt, List.length_cons]
  omega
theorem set_size {q : List UInt8} {k : Nat} (h : setL q 0 (-1) = some k) : sizeN k = q.length := by
 have := setL_size q 0 0 k (by decide) (by decide) h
 rw [this, show sizeN 0 = 0 from by decide]
 omega
end Go.Proofs.Yteikgnaikeleaaa

namespace Go.Proofs.Yteikgnaikeleaaa
open Go.RowKit Go.Proofs.YteikgnaikeleaaaW.PrintWords Go.Proofs.YteikgnaikeleaaaW.PrintLast Go.Proofs.YteikgnaikeleaaaW.PrintMore
set_option linter.unusedVariables false

theorem joinL_snoc (a : List UInt8) : ∀ l : List (List UInt8), l ≠ [] → joinL (l ++ [a]) = joinL l ++ 43 :: a
 | [], h => absurd rfl h
 | [b], _ => rfl
 | b :: c :: l, _ => by
  have := joinL_snoc a (c :: l) (by simp)
  simp only [List.cons_append] at this ⊢
  rw [joinL, this, joinL]
  simp
def leastTo (L : List (Fin 256)) (x : Nat) : List UInt8 := joinL ((L.take x).map (fun n => textN n.val))
theorem leastTo_len (L : List (Fin 256)) (x : Nat) : (leastTo L x).length ≤ 9 * x := by
 have h := joinL_len ((L.take x).map (fun n => textN n.val)) (by
  intro d hd
  obtain ⟨n, _, rfl⟩ := List.mem_map.1 hd
  exact textN_len _)
 have h2 := List.length_take_le x L
 rw [List.length_map] at h
 unfold leastTo
 omega
theorem leastTo_first (L : List (Fin 256)) (h : 0 < L.length) : leastTo L 1 = textN (L[0]).val := by
 unfold leastTo
 cases L with
 | nil => simp at h
 | cons a t => rfl
theorem leastTo_next (L : List (Fin 256)) (x : Nat) (h : x < L.length) (h0 : 0 < x) : leastTo L (x + 1) = leastTo L x ++ 43 :: textN (L[x]).val := by
 unfold leastTo
 rw [List.take_succ_eq_append_getElem h, List.map_append]
 refine joinL_snoc _ _ ?_
 intro e
 have h1 := congrArg List.length e
 rw [List.length_map, List.length_take, List.length_nil] at h1
 omega
theorem tx_appR (a b : List UInt8) : tx a ++ tx b = tx (a ++ b) := by
 apply ByteArray.ext
 simp [tx]
theorem text_at {w : World} {A : Option Addr} {l : List ByteArray} (h : Kd.C Kd.string w A l.length l) (x : Nat) (hx : x < l.length) : ∃ ad, A = some ad ∧ w.cell? (ad.add x) = some (.string l[x]) := by
 obtain ⟨ad, e1, hc⟩ := Kd.at_string h (x : Int) (by omega) (by omega)
 rw [Int.toNat_natCast] at hc
 refine ⟨ad, e1, ?_⟩
 rw [hc]
 simp [rdOf, hx]
theorem no_big (n : Nat) (h : n < 100000) : (9223372036854775807 < n) = False := eq_false (by omega)
set_option maxHeartbeats 8000000 in
set_option maxRecDepth 1000000 in
theorem rplain_calls (f : Nat → Bool) (hL : orderF.filter (minF f) = leastF f) (w : World) : Calls Try.prog 75 #[.agg (tbl f)] w fun e w' => e = .returned (.tuple #[.string (tx (plainX f).1), .int .i64 (plainX f).2]) ∧ Below w.heap.size w w' := by
 have HL := Aside0.mk (rleast_calls f)
 rw [hL] at HL
 have hll := leastF_len f
 have hpx : plainX f = if 40 < (leastTo (leastF f) (leastF f).length).length then ([], 4) else (leastTo (leastF f) (leastF f).length, 0) := by
  unfold plainX leastT leastTo
  rw [List.take_length]
 have HX0 := Aside0.mk hpx
 obtain ⟨X, hX⟩ : ∃ X, X = plainX f := ⟨_, rfl⟩
 rw [← hX] at HX0 ⊢
 clear hpx hL hX
 generalize leastF f = L at HL hll HX0
 have HLL := Aside0.mk hll
 have hlt : (textsOf L).length = L.length := by simp [textsOf]
 have HLT := Aside0.mk hlt
 have HG : Aside0 (∀ x (h : x < L.length) (h2 : x < (textsOf L).length), (textsOf L)[x]'h2 = tx (textN (L[x]).val)) := ⟨fun x h h2 => by simp [textsOf]⟩
 have H0 := Aside0.mk (blk_new w (.cells (tbl f) 50))
 clear hll hlt
 go_enter Try.func75, Try.ntmps75
 go_wp2_with (first | (refine wpList_load_row rfl 50 (.tmp 1) rfl w.heap.size rfl 50 (tbl f) (0, 0) _ H0.out Try.underlying50 rfl (tbl_info f) ?_) | (go_at_call 62; refine (HL.out _).mono ?_; rintro e W2 ⟨v2, rfl, ho, hb⟩; obtain ⟨A, c, rfl, _, hr⟩ := Kd.R_reads ho; rw [HLT.out]; have HR := Aside0.mk hr; have HB2 := Aside0.mk (below_step (below_alloc (Below.refl _ w) _) hb); clear ho hb hr))
 go_loopg [6, 4] (L.length + 1) (fun kq v6 v4 W => ∃ (x : Nat) (p : ByteArray), v6 = .int .i64 x ∧ v4 = .string p ∧ Aside0 (p = tx (leastTo L x)) ∧ Aside0 (x + kq = L.length + 1) ∧ Aside0 (x ≤ L.length) ∧ Aside0 (W = W2))
 case atStart => exact ⟨0, ⟨#[]⟩, rfl, rfl, ⟨rfl⟩, ⟨by omega⟩, ⟨by omega⟩, ⟨rfl⟩⟩
 case round =>
  obtain ⟨x, p, rfl, rfl, HP, HK, HX, ⟨rfl⟩⟩ := hrel
  have hps : p.size ≤ 9 * 256 := by
   have h1 := HP.out
   have h2 := leastTo_len L x
   have h3 := HX.out
   have h4 := HLL.out
   rw [h1, tx_size]
   omega
  by_cases hx : x < L.length
  ·
   have h1 : decide ((x : Int) < (L.length : Int)) = true := decide_eq_true (by omega)
   have hnx : wrap64 ((x : Int) + 1) = ((x + 1 : Nat) : Int) := by have := HLL.out; unfold wrap64; omega
   have HX1 := Aside0.mk hx
   obtain ⟨ad, rfl, hcell⟩ := text_at HR.out x (by rw [HLT.out]; exact hx)
   rw [HG.out x hx _] at hcell
   obtain ⟨q, hq⟩ : ∃ q, q = tx (textN (L[x]).val) := ⟨_, rfl⟩
   rw [← hq] at hcell
   have hqs : q.size ≤ 8 := by rw [hq, tx_size]; exact textN_len _
   have h00 : (0 : Int) ≤ (x : Int) ∧ (x : Int) < (L.length : Int) := by omega
   have b1 := no_big (p.size + 1) (by omega)
   have b2 := no_big (p.size + 1 + q.size) (by omega)
   have b3 := no_big (p.size + q.size) (by omega)
   by_cases h0 : x = 0
   ·
    have h9 : decide (0 < (x : Int)) = false := decide_eq_false (by omega)
    have h8 : decide (0 < x) = false := decide_eq_false (by omega)
    have h7 : (0 < x) = False := eq_false (by omega)
    have HN : Aside0 (p ++ q = tx (leastTo L (x + 1))) := ⟨by
     have hp := HP.out
     have hq2 := hq
     clear hcell
     subst h0
     rw [leastTo_first L hx, ← hq2, hp]
     show tx [] ++ q = q
     rw [hq2, tx_appR]
     rfl⟩
    clear hx hq hqs hps h0
    go_wp2
    go_roundg (L.length - x)
    case measure => have := HK.out; have := HX1.out; omega
    case rel => exact ⟨x + 1, p ++ q, by first | rfl | rw [hnx], rfl, HN, ⟨by have := HK.out; have := HX1.out; omega⟩, ⟨HX1.out⟩, ⟨rfl⟩⟩
   ·
    have h9 : decide (0 < (x : Int)) = true := decide_eq_true (by omega)
    have h8 : decide (0 < x) = true := decide_eq_true (by omega)
    have h7 : (0 < x) = True := eq_true (by omega)
    have HN : Aside0 ((p ++ ⟨#[43]⟩) ++ q = tx (leastTo L (x + 1))) := ⟨by
     rw [leastTo_next L x hx (by omega), hq, HP.out]
     show tx _ ++ tx [43] ++ tx _ = _
     rw [tx_appR, tx_appR]
     simp⟩
    clear hx hq hqs hps h0
    go_wp2
    go_roundg (L.length - x)
    case measure => have := HK.out; have := HX1.out; omega
    case rel => exact ⟨x + 1, (p ++ ⟨#[43]⟩) ++ q, by first | rfl | rw [hnx], rfl, HN, ⟨by have := HK.out; have := HX1.out; omega⟩, ⟨HX1.out⟩, ⟨rfl⟩⟩
  ·
   have h1 : decide ((x : Int) < (L.length : Int)) = false := decide_eq_false (by omega)
   have hxl : x = L.length := by have := HX.out; omega
   subst hxl
   have hsz := tx_size (leastTo L L.length)
   rw [← HP.out] at hsz
   by_cases hl : 40 < (leastTo L L.length).length
   ·
    have HX1 : Aside0 (X = ([], 4)) := ⟨by rw [HX0.out, if_pos hl]⟩
    have d4 : decide ((40 : Int) < p.size) = true := decide_eq_true (by rw [hsz]; omega)
    clear hsz hl hps hx
    go_wp2
    go_ret2
    rw [HX1.out]
    exact ⟨rfl, HB2.out⟩
   ·
    have HX1 : Aside0 (X = (leastTo L L.length, 0)) := ⟨by rw [HX0.out, if_neg hl]⟩
    have d4 : decide ((40 : Int) < p.size) = false := decide_eq_false (by rw [hsz]; omega)
    clear hsz hl hps hx
    go_wp2
    go_ret2
    rw [HX1.out, ← HP.out]
    exact ⟨rfl, HB2.out⟩
set_option maxHeartbeats 8000000 in
set_option maxRecDepth 1000000 in
theorem rPlain_calls (s : List UInt8) (w : World) : Calls Try.prog 35 #[.string (tx s)] w fun e w' => e = .returned (.tuple #[.string (tx (plainR s).1), .int .i64 (plainR s).2]) ∧ Below w.heap.size w w' := by
 have HS := Aside0.mk (rask_e s)
 unfold RAskE at HS
 have hzz := zero50
 unfold plainR
 cases hc : parseL s with
 | none =>
  rw [hc] at HS
  go_enter Try.func35, Try.ntmps35
  go_wp2_with (first | (go_at_call 61; refine (HS.out _).mono ?_; rintro e W1 ⟨v, c, rfl, hb, rfl⟩; have HB1 := Aside0.mk (new_below hb (Nat.le_refl _) v); clear hb) | (refine wpList_store_row rfl 50 (.tmp 4) (.tmp 9) rfl W1.heap.size (tbl v) rfl rfl 50 (tbl fun _ => false) (blk_new _ _) (tbl_info v) (by rw [tbl_size, tbl_size]) (tbl_one v) ?_))
  go_ret2
  exact ⟨rfl, HB1.out⟩
 | some m =>
  rw [hc] at HS
  have hg := parseL_good hc
  show Calls Try.prog 35 #[.string (tx s)] w fun e w' => e = .returned (.tuple #[.string (tx (plainF m.f).1), .int .i64 (plainF m.f).2]) ∧ Below w.heap.size w w'
  rw [plainF_good hg]
  have HL := Aside0.mk (rplain_calls m.f (leastF_min hg))
  generalize plainX m.f = pr at HL
  go_enter Try.func35, Try.ntmps35
  go_wp2_with (first | (go_at_call 61; refine (HS.out _).mono ?_; rintro e W1 ⟨v, c, rfl, hb, rfl, rfl⟩; have HB1 := Aside0.mk (new_below hb (Nat.le_refl _) m.f); have H6 := Aside0.mk (new_row W1 m.f); clear hb) | (refine wpList_store_row rfl 50 (.tmp 4) (.tmp 9) rfl W1.heap.size (tbl m.f) rfl rfl 50 (tbl fun _ => false) (blk_new _ _) (tbl_info m.f) (by rw [tbl_size, tbl_size]) (tbl_one m.f) ?_) | (refine wpList_load_row rfl 50 (.tmp 4) rfl W1.heap.size rfl 50 (tbl m.f) (0, 0) _ H6.out Try.underlying50 rfl (tbl_info m.f) ?_) | (go_at_call 75; refine (HL.out _).mono ?_; rintro e W2 ⟨rfl, hb⟩; have HB2 := Aside0.mk (below_step HB1.out hb); clear hb))
  go_ret2
  exact ⟨rfl, HB2.out⟩
end Go.Proofs.Yteikgnaikeleaaa

/- The texts of circuits as a grammar: what the reader reads is of the grammar, and what is of the grammar is read. -/
namespace Go.Proofs.Yteikgnaikeleaaa
set_option linter.unusedVariables false

mutual
inductive GP : List UInt8 → Mean → Prop
  | lit (b : UInt8) : isL b = true → GP [b] (litM b)
  | par (p : List UInt8) (c : List (List Mean)) : GC p c → GP (40 :: (p ++ [41])) (meanC c)
inductive GB : List UInt8 → List Mean → Prop
  | one (q : List UInt8) (m : Mean) : GP q m → GB q [m]
  | cons (q p : List UInt8) (m : Mean) (b : List Mean) : GP q m → GB p b → GB (q ++ p) (m :: b)
inductive GC : List UInt8 → List (List Mean) → Prop
  | one (p : List UInt8) (b : List Mean) : GB p b → GC p [b]
  | cons (p r : List UInt8) (b : List Mean) (c : List (List Mean)) : GB p b → GC r c → GC (p ++ 43 :: r) (b :: c)
end
theorem gram_all {PP : List UInt8 → Mean → Prop} {PB : List UInt8 → List Mean → Prop} {PC : List UInt8 → List (List Mean) → Prop}
    (h1 : ∀ b, isL b = true → PP [b] (litM b)) (h2 : ∀ p c, GC p c → PC p c → PP (40 :: (p ++ [41])) (meanC c))
    (h3 : ∀ q m, GP q m → PP q m → PB q [m]) (h4 : ∀ q p m b, GP q m → GB p b → PP q m → PB p b → PB (q ++ p) (m :: b))
    (h5 : ∀ p b, GB p b → PB p b → PC p [b]) (h6 : ∀ p r b c, GB p b → GC r c → PB p b → PC r c → PC (p ++ 43 :: r) (b :: c)) :
    (∀ q m, GP q m → PP q m) ∧ (∀ p b, GB p b → PB p b) ∧ (∀ p c, GC p c → PC p c) :=
  ⟨fun q m h => GP.rec (motive_1 := fun q m _ => PP q m) (motive_2 := fun p b _ => PB p b) (motive_3 := fun p c _ => PC p c) h1 h2 h3 h4 h5 h6 h,
   fun q m h => GB.rec (motive_1 := fun q m _ => PP q m) (motive_2 := fun p b _ => PB p b) (motive_3 := fun p c _ => PC p c) h1 h2 h3 h4 h5 h6 h,
   fun q m h => GC.rec (motive_1 := fun q m _ => PP q m) (motive_2 := fun p b _ => PB p b) (motive_3 := fun p c _ => PC p c) h1 h2 h3 h4 h5 h6 h⟩
/-! what is read is of the grammar -/
def Of (P : PF) : Prop := ∀ l m t, P l = some (m, t) → ∃ q, l = q ++ t ∧ GP q m
theorem parts_of {P : PF} (hP : Of P) : ∀ k acc l b t, partsL P k acc l = some (b, t) → ∃ q ms, l = q ++ t ∧ b = acc ++ ms ∧ (q = [] ∧ ms = [] ∨ GB q ms)
  | 0, _, _, _, _, h => by simp [partsL] at h
  | k + 1, acc, [], b, t, h => by
    simp [partsL] at h
    obtain ⟨rfl, rfl⟩ := h
    exact ⟨[], [], rfl, by simp, Or.inl ⟨rfl, rfl⟩⟩
  | k + 1, acc, c :: l, b, t, h => by
    rw [partsL] at h
    split at h
    · simp at h
      obtain ⟨rfl, rfl⟩ := h
      exact ⟨[], [], rfl, by simp, Or.inl ⟨rfl, rfl⟩⟩
    · cases hp : P (c :: l) with
      | none => simp [hp] at h
      | some x =>
        obtain ⟨m, l'⟩ := x
        simp only [hp] at h
        obtain ⟨q1, e1, g1⟩ := hP _ _ _ hp
        obtain ⟨q2, ms, e2, e3, g2⟩ := parts_of hP k _ _ _ _ h
        refine ⟨q1 ++ q2, m :: ms, by rw [e1, e2, List.append_assoc], by rw [e3]; simp, Or.inr ?_⟩
        rcases g2 with ⟨rfl, rfl⟩ | g2
        · rw [List.append_nil]; exact GB.one _ _ g1
        · exact GB.cons _ _ _ _ g1 g2
theorem circ_of {P : PF} (hP : Of P) : ∀ k acc l c t, circL P k acc l = some (c, t) → ∃ q c', l = q ++ t ∧ c = acc ++ c' ∧ GC q c'
  | 0, _, _, _, _, h => by simp [circL] at h
  | k + 1, acc, l, c, t, h => by
    rw [circL] at h
    cases hp : P l with
    | none => simp [hp] at h
    | some x =>
      obtain ⟨m, l1⟩ := x
      simp only [hp] at h
      cases hq : partsL P (l1.length + 1) [m] l1 with
      | none => simp [hq] at h
      | some y =>
        obtain ⟨b, l2⟩ := y
        simp only [hq] at h
        obtain ⟨q1, e1, g1⟩ := hP _ _ _ hp
        obtain ⟨q2, ms, e2, e3, g2⟩ := parts_of hP _ _ _ _ _ hq
        have gb : GB (q1 ++ q2) b := by
          rw [e3]
          rcases g2 with ⟨rfl, rfl⟩ | g2
          · rw [List.append_nil]; exact GB.one _ _ g1
          · exact GB.cons _ _ _ _ g1 g2
        have el : l = (q1 ++ q2) ++ l2 := by rw [e1, e2, List.append_assoc]
        cases l2 with
        | nil =>
          simp at h
          obtain ⟨rfl, rfl⟩ := h
          exact ⟨_, [b], el, rfl, GC.one _ _ gb⟩
        | cons d l3 =>
          simp only at h
          split at h
          · rename_i hd
            subst hd
            obtain ⟨q3, c', e4, e5, g3⟩ := circ_of hP k _ _ _ _ h
            refine ⟨(q1 ++ q2) ++ 43 :: q3, b :: c', ?_, ?_, GC.cons _ _ _ _ gb g3⟩
            · rw [el, e4]; simp
            · rw [e5]; simp
          · simp at h
            obtain ⟨rfl, rfl⟩ := h
            exact ⟨_, [b], el, rfl, GC.one _ _ gb⟩
theorem part_of : ∀ n, Of (pPart n)
  | 0 => fun l m t h => by simp [pPart] at h
  | n + 1 => fun l m t h => by
    cases l with
    | nil => simp [pPart] at h
    | cons b l =>
      rw [pPart] at h
      split at h
      · rename_i hb
        simp at h
        obtain ⟨rfl, rfl⟩ := h
        exact ⟨[b], rfl, GP.lit b hb⟩
      · split at h
        · rename_i hb
          subst hb
          split at h
          · rename_i c t' hc
            simp at h
            obtain ⟨rfl, rfl⟩ := h
            obtain ⟨q, c', e1, e2, g⟩ := circ_of (part_of n) _ _ _ _ _ hc
            rw [List.nil_append] at e2
            subst e2
            exact ⟨40 :: (q ++ [41]), by rw [e1]; simp, GP.par _ _ g⟩
          · cases h
        · cases h
theorem parse_of {s : List UInt8} {c : List (List Mean)} (h : parseC s = some c) : GC s c := by
  unfold parseC at h
  split at h
  case isFalse => cases h
  split at h
  · rename_i c' hc
    obtain rfl := Option.some.inj h
    obtain ⟨q, c2, e1, e2, g⟩ := circ_of (part_of _) _ _ _ _ _ hc
    rw [List.nil_append] at e2
    rw [List.append_nil] at e1
    rw [e1, e2]
    exact g
  · cases h
/-! what is of the grammar is read -/
theorem part_ne : (∀ q m, GP q m → ∃ b t, q = b :: t ∧ b ≠ 0 ∧ b ≠ 43 ∧ b ≠ 41) ∧ (∀ p b, GB p b → ∃ c t, p = c :: t ∧ c ≠ 0 ∧ c ≠ 43 ∧ c ≠ 41) ∧ (∀ p c, GC p c → ∃ b t, p = b :: t ∧ b ≠ 0 ∧ b ≠ 43 ∧ b ≠ 41) := by
  refine gram_all ?_ ?_ ?_ ?_ ?_ ?_
  · intro b hb
    refine ⟨b, [], rfl, ?_, ?_, ?_⟩ <;> (intro e; subst e; revert hb; decide)
  · intro p c _ _
    exact ⟨40, _, rfl, by decide, by decide, by decide⟩
  · exact fun q m _ h => h
  · rintro q p m b _ _ ⟨c, t, rfl, h⟩ _
    exact ⟨c, t ++ p, rfl, h⟩
  · exact fun p b _ h => h
  · rintro p r b c _ _ ⟨d, t, rfl, h⟩ _
    exact ⟨d, t ++ 43 :: r, rfl, h⟩
def endB (t : List UInt8) : Prop := t = [] ∨ ∃ b r, t = b :: r ∧ (b = 0 ∨ b = 43 ∨ b = 41)
theorem parts_end (P : PF) (k : Nat) (acc : List Mean) (t : List UInt8) (h : endB t) : partsL P (k + 1) acc t = some (acc, t) := by
  rcases h with rfl | ⟨b, r, rfl, h⟩
  · rfl
  · rw [partsL, if_pos h]
def endC (t : List UInt8) : Prop := t = [] ∨ ∃ r, t = 41 :: r
theorem endC_B {t : List UInt8} (h : endC t) : endB t := by
  rcases h with rfl | ⟨r, rfl⟩
  · exact Or.inl rfl
  · exact Or.inr ⟨41, r, rfl, Or.inr (Or.inr rfl)⟩
theorem gram_read : (∀ q m, GP q m → ∀ n t, q.length ≤ n → pPart n (q ++ t) = some (m, t)) ∧
    (∀ p b, GB p b → (∀ n t k acc, p.length ≤ n → p.length < k → endB t → partsL (pPart n) k acc (p ++ t) = some (acc ++ b, t)) ∧
      (∀ n t, p.length ≤ n → endB t → ∃ m l1, pPart n (p ++ t) = some (m, l1) ∧ partsL (pPart n) (l1.length + 1) [m] l1 = some (b, t))) ∧
    (∀ p c, GC p c → ∀ n t k acc, p.length ≤ n → p.length < k → endC t → circL (pPart n) k acc (p ++ t) = some (acc ++ c, t)) := by
  have pos : ∀ q m, GP q m → 0 < q.length := fun q m h => by
    obtain ⟨b, t, rfl, _⟩ := part_ne.1 q m h
    simp
  have step : ∀ (q : List UInt8) (m : Mean), GP q m → (∀ n t, q.length ≤ n → pPart n (q ++ t) = some (m, t)) → ∀ n t k acc, q.length ≤ n → partsL (pPart n) (k + 1) acc (q ++ t) = partsL (pPart n) k (acc ++ [m]) t := by
    intro q m hg ih n t k acc h1
    have hh := ih n t h1
    obtain ⟨b, t', rfl, hb⟩ := part_ne.1 q m hg
    rw [List.cons_append] at hh ⊢
    rw [partsL, if_neg (by rintro (h | h | h); exact hb.1 h; exact hb.2.1 h; exact hb.2.2 h), hh]
  refine gram_all ?_ ?_ ?_ ?_ ?_ ?_
  · intro b hb n t h
    obtain ⟨n, rfl⟩ : ∃ n', n = n' + 1 := ⟨n - 1, by simp at h; omega⟩
    rw [List.cons_append, List.nil_append, pPart, if_pos hb]
  · intro p c _ ih n t h
    obtain ⟨n, rfl⟩ : ∃ n', n = n' + 1 := ⟨n - 1, by simp at h; omega⟩
    simp only [List.length_cons, List.length_append, List.length_nil] at h
    have e : (40 :: (p ++ [41])) ++ t = 40 :: (p ++ 41 :: t) := by simp
    rw [e, pPart, if_neg (by decide), if_pos rfl, ih n (41 :: t) _ [] (by omega) (by simp; omega) (Or.inr ⟨t, rfl⟩)]
    rfl
  · intro q m hg ih
    refine ⟨fun n t k acc h1 h2 h3 => ?_, fun n t h1 h2 => ⟨m, t, ih n t h1, parts_end _ _ _ _ h2⟩⟩
    have := pos q m hg
    obtain ⟨k, rfl⟩ : ∃ k', k = k' + 2 := ⟨k - 2, by omega⟩
    rw [step q m hg ih n t (k + 1) acc h1, parts_end _ _ _ _ h3]
  · intro q p m b hg hb ih ih2
    have hpos := pos q m hg
    refine ⟨fun n t k acc h1 h2 h3 => ?_, fun n t h1 h2 => ⟨m, p ++ t, ?_, ?_⟩⟩
    · rw [List.length_append] at h1 h2
      obtain ⟨k, rfl⟩ : ∃ k', k = k' + 1 := ⟨k - 1, by omega⟩
      rw [List.append_assoc, step q m hg ih n (p ++ t) k acc (by omega), ih2.1 n t k (acc ++ [m]) (by omega) (by omega) h3]
      simp
    · rw [List.length_append] at h1
      rw [List.append_assoc]
      exact ih n _ (by omega)
    · rw [List.length_append] at h1
      exact ih2.1 n t _ [m] (by omega) (by rw [List.length_append]; omega) h2
  · intro p b hb ih n t k acc h1 h2 h3
    obtain ⟨k, rfl⟩ : ∃ k', k = k' + 1 := ⟨k - 1, by omega⟩
    obtain ⟨m, l1, e1, e2⟩ := ih.2 n t h1 (endC_B h3)
    rw [circL, e1]
    simp only
    rw [e2]
    simp only
    rcases h3 with rfl | ⟨r, rfl⟩
    · rfl
    · simp
  · intro p r b c hb hc ih ih2 n t k acc h1 h2 h3
    obtain ⟨k, rfl⟩ : ∃ k', k = k' + 1 := ⟨k - 1, by omega⟩
    simp only [List.length_append, List.length_cons] at h1 h2
    obtain ⟨m, l1, e1, e2⟩ := ih.2 n (43 :: (r ++ t)) (by omega) (Or.inr ⟨43, _, rfl, Or.inr (Or.inl rfl)⟩)
    have e : (p ++ 43 :: r) ++ t = p ++ 43 :: (r ++ t) := by simp
    rw [e, circL, e1]
    simp only
    rw [e2]
    simp only [if_true]
    rw [ih2 n t k _ (by omega) (by omega) h3]
    simp
theorem of_parse {s : List UInt8} {c : List (List Mean)} (h : GC s c) (hs : s.length ≤ 40) : parseC s = some c := by
  unfold parseC
  have := gram_read.2.2 s c h (s.length + 1) [] (s.length + 1) [] (Nat.le_succ _) (Nat.lt_succ_self _) (Or.inl rfl)
  rw [List.append_nil, List.nil_append] at this
  rw [if_pos hs, this]
/-! brackets are closed -/
inductive Bal : List UInt8 → Prop
  | nil : Bal []
  | one (b : UInt8) (t : List UInt8) : b ≠ 40 → b ≠ 41 → Bal t → Bal (b :: t)
  | par (p t : List UInt8) : Bal p → Bal t → Bal (40 :: (p ++ 41 :: t))
theorem Bal.append {a : List UInt8} (h : Bal a) : ∀ {b : List UInt8}, Bal b → Bal (a ++ b) := by
  induction h with
  | nil => exact fun h => h
  | one c t h1 h2 _ ih => exact fun h => Bal.one _ _ h1 h2 (ih h)
  | par p t hp _ _ ih =>
    intro b h
    have := Bal.par p _ hp (ih h)
    simpa using this
theorem Bal.plus {a b : List UInt8} (ha : Bal a) (hb : Bal b) : Bal (a ++ 43 :: b) := ha.append (Bal.one 43 b (by decide) (by decide) hb)
theorem isL_ne {b : UInt8} (h : isL b = true) : b ≠ 40 ∧ b ≠ 41 ∧ b ≠ 43 := by
  refine ⟨?_, ?_, ?_⟩ <;> (intro e; subst e; revert h; decide)
theorem joinL_bal : ∀ l : List (List UInt8), (∀ d ∈ l, Bal d) → Bal (joinL l)
  | [], _ => Bal.nil
  | [a], h => h a (by simp)
  | a :: b :: l, h => by
    rw [joinL]
    exact (h a (by simp)).plus (joinL_bal (b :: l) (fun d hd => h d (by simp [hd])))
theorem wrap_bal {d : List UInt8} (h : Bal d) : Bal (wrapL d) := by
  unfold wrapL
  split
  · exact Bal.par d [] h Bal.nil
  · exact h
theorem dualB_bal (b : List Mean) (h : ∀ m ∈ b, Bal m.d) : Bal (dualB b) := by
  refine joinL_bal _ (fun d hd => ?_)
  obtain ⟨m, hm, rfl⟩ := List.mem_map.1 hd
  exact h m hm
theorem flat_bal : ∀ c : List (List Mean), (∀ b ∈ c, Bal (dualB b)) → Bal (c.flatMap (fun b => wrapL (dualB b)))
  | [], _ => Bal.nil
  | b :: c, h => by
    rw [List.flatMap_cons]
    exact (wrap_bal (h b (by simp))).append (flat_bal c (fun d hd => h d (by simp [hd])))
theorem dualC_bal (c : List (List Mean)) (h : ∀ b ∈ c, Bal (dualB b)) : Bal (dualC c) := by
  unfold dualC
  split
  · exact h _ (by simp)
  · exact flat_bal c h
theorem gram_bal : (∀ q m, GP q m → Bal q ∧ Bal m.d) ∧ (∀ p b, GB p b → Bal p ∧ ∀ m ∈ b, Bal m.d) ∧ (∀ p c, GC p c → Bal p ∧ ∀ b ∈ c, Bal (dualB b)) := by
  refine gram_all ?_ ?_ ?_ ?_ ?_ ?_
  · intro b hb
    have h := isL_ne hb
    exact ⟨Bal.one b [] h.1 h.2.1 Bal.nil, Bal.one b [] h.1 h.2.1 Bal.nil⟩
  · intro p c _ h
    exact ⟨Bal.par p [] h.1 Bal.nil, dualC_bal c h.2⟩
  · intro q m _ h
    refine ⟨h.1, fun m' hm => ?_⟩
    rw [List.mem_singleton.1 hm]
    exact h.2
  · intro q p m b _ _ h1 h2
    refine ⟨h1.1.append h2.1, fun m' hm => ?_⟩
    rcases List.mem_cons.1 hm with rfl | hm
    · exact h1.2
    · exact h2.2 m' hm
  · intro p b _ h
    refine ⟨h.1, fun b' hb => ?_⟩
    rw [List.mem_singleton.1 hb]
    exact dualB_bal b h.2
  · intro p r b c _ _ h1 h2
    refine ⟨h1.1.plus h2.1, fun b' hb => ?_⟩
    rcases List.mem_cons.1 hb with rfl | hb
    · exact dualB_bal _ h1.2
    · exact h2.2 b' hb
theorem gc_bal {s : List UInt8} {c : List (List Mean)} (h : GC s c) : Bal s := (gram_bal.2.2 s c h).1
theorem gc_dual_bal {s : List UInt8} {c : List (List Mean)} (h : GC s c) : Bal (dualC c) := dualC_bal c (gram_bal.2.2 s c h).2
theorem wide_in {p : List UInt8} (h : Bal p) : ∀ (k : Int) (r : List UInt8), 0 < k → wideL (p ++ r) k = wideL r k := by
  induction h with
  | nil => exact fun k r _ => rfl
  | one b t h1 h2 _ ih =>
    intro k r hk
    rw [List.cons_append, wideL, if_neg h1, if_neg h2, if_neg (by rintro ⟨_, h⟩; omega)]
    exact ih k r hk
  | par p t _ _ ih1 ih2 =>
    intro k r hk
    have e : (40 :: (p ++ 41 :: t)) ++ r = 40 :: (p ++ (41 :: (t ++ r))) := by simp
    rw [e, wideL, if_pos rfl, ih1 (k + 1) _ (by omega), wideL, if_neg (by decide), if_pos rfl, show k + 1 - 1 = k from by omega]
    exact ih2 k r hk
theorem wide_plus {p : List UInt8} (h : Bal p) : ∀ r, wideL (p ++ 43 :: r) 0 = true := by
  induction h with
  | nil =>
    intro r
    rw [List.nil_append, wideL, if_neg (by decide), if_neg (by decide), if_pos ⟨rfl, rfl⟩]
  | one b t h1 h2 _ ih =>
    intro r
    rw [List.cons_append, wideL, if_neg h1, if_neg h2]
    split
    · rfl
    · exact ih r
  | par p t hp _ _ ih2 =>
    intro r
    have e : (40 :: (p ++ 41 :: t)) ++ 43 :: r = 40 :: (p ++ (41 :: (t ++ 43 :: r))) := by simp
    rw [e, wideL, if_pos rfl, wide_in hp (0 + 1) _ (by omega), wideL, if_neg (by decide), if_pos rfl, show (0 : Int) + 1 - 1 = 0 from rfl]
    exact ih2 r
theorem not_wide {p : List UInt8} {c : List (List Mean)} (h : GC p c) (hw : wideL p 0 = false) : ∃ b, c = [b] ∧ GB p b := by
  cases h with
  | one p b hb => exact ⟨b, rfl, hb⟩
  | cons p r b c hb hc =>
    rw [wide_plus (gram_bal.2.1 p b hb).1 r] at hw
    cases hw
/-! the dual is a circuit -/
theorem GC.join {p r : List UInt8} {c d : List (List Mean)} (h : GC p c) (h2 : GC r d) : GC (p ++ 43 :: r) (c ++ d) := by
  induction c generalizing p with
  | nil => cases h
  | cons b c ih =>
    cases h with
    | one p b hb => exact GC.cons _ _ _ _ hb h2
    | cons p r' b c hb hc =>
      have := GC.cons _ _ _ _ hb (ih hc)
      simpa using this
theorem GB.join {p r : List UInt8} {b d : List Mean} (h : GB p b) (h2 : GB r d) : GB (p ++ r) (b ++ d) := by
  induction b generalizing p with
  | nil => cases h
  | cons m b ih =>
    cases h with
    | one q m hq => exact GB.cons _ _ _ _ hq h2
    | cons q p m b hq hp =>
      have := GB.cons _ _ _ _ hq (ih hp)
      simpa using this
theorem condC_append (c d : List (List Mean)) (n : Nat) : condC (c ++ d) n = (condC c n || condC d n) := by simp [condC]
theorem condB_append (c d : List Mean) (n : Nat) : condB (c ++ d) n = (condB c n && condB d n) := by simp [condB]
def DualOf (d : List UInt8) (f : Nat → Bool) : Prop := ∃ c, GC d c ∧ ∀ n, condC c n = !f (255 ^^^ n)
theorem dual_join : ∀ b : List Mean, b ≠ [] → (∀ m ∈ b, DualOf m.d m.f) → DualOf (dualB b) (condB b)
  | [], h, _ => absurd rfl h
  | [m], _, h => by
    obtain ⟨c, h1, h2⟩ := h m (by simp)
    exact ⟨c, h1, fun n => by rw [h2]; simp [condB]⟩
  | m :: m2 :: b, _, h => by
    obtain ⟨c, h1, h2⟩ := h m (by simp)
    obtain ⟨d, h3, h4⟩ := dual_join (m2 :: b) (by simp) (fun x hx => h x (by simp [hx]))
    refine ⟨c ++ d, GC.join h1 h3, fun n => ?_⟩
    rw [condC_append, h2, h4]
    simp only [condB, List.all_cons, Bool.not_and]
theorem dual_wrap {d : List UInt8} {f : Nat → Bool} (h : DualOf d f) : ∃ b, GB (wrapL d) b ∧ ∀ n, condB b n = !f (255 ^^^ n) := by
  obtain ⟨c, h1, h2⟩ := h
  unfold wrapL
  cases hw : wideL d 0 with
  | true =>
    refine ⟨[meanC c], GB.one _ _ (GP.par _ _ h1), fun n => ?_⟩
    rw [← h2 n]
    simp [condB, meanC]
  | false =>
    obtain ⟨b, rfl, hb⟩ := not_wide h1 hw
    refine ⟨b, hb, fun n => ?_⟩
    rw [← h2 n]
    simp [condC]
theorem dual_flat : ∀ c : List (List Mean), c ≠ [] → (∀ b ∈ c, DualOf (dualB b) (condB b)) → ∃ b, GB (c.flatMap (fun b => wrapL (dualB b))) b ∧ ∀ n, condB b n = !condC c (255 ^^^ n)
  | [], h, _ => absurd rfl h
  | [a], _, h => by
    obtain ⟨b, h1, h2⟩ := dual_wrap (h a (by simp))
    exact ⟨b, by simpa using h1, fun n => by rw [h2]; simp [condC]⟩
  | a :: a2 :: c, _, h => by
    obtain ⟨b, h1, h2⟩ := dual_wrap (h a (by simp))
    obtain ⟨d, h3, h4⟩ := dual_flat (a2 :: c) (by simp) (fun x hx => h x (by simp [hx]))
    refine ⟨b ++ d, by rw [List.flatMap_cons]; exact GB.join h1 h3, fun n => ?_⟩
    rw [condB_append, h2, h4]
    simp only [condC, List.any_cons, Bool.not_or]
theorem dual_circ (c : List (List Mean)) (hc : c ≠ []) (h : ∀ b ∈ c, DualOf (dualB b) (condB b)) : DualOf (dualC c) (condC c) := by
  unfold dualC
  split
  · rename_i b
    obtain ⟨d, h1, h2⟩ := h b (by simp)
    exact ⟨d, h1, fun n => by rw [h2]; simp [condC]⟩
  · obtain ⟨b, h1, h2⟩ := dual_flat c hc h
    exact ⟨[b], GC.one _ _ h1, fun n => by rw [← h2 n]; simp [condC]⟩
theorem bit_xor (n j : Nat) (hj : j < 8) : (255 ^^^ n).testBit j = !n.testBit j := by
  have h : ∀ j : Fin 8, Nat.testBit 255 j.val = true := by decide
  rw [Nat.testBit_xor, h ⟨j, hj⟩]
  simp
theorem gram_dual : (∀ q m, GP q m → DualOf m.d m.f) ∧ (∀ p b, GB p b → b ≠ [] ∧ ∀ m ∈ b, DualOf m.d m.f) ∧ (∀ p c, GC p c → c ≠ [] ∧ ∀ b ∈ c, DualOf (dualB b) (condB b)) := by
  refine gram_all ?_ ?_ ?_ ?_ ?_ ?_
  · intro b hb
    refine ⟨[[litM b]], GC.one _ _ (GB.one _ _ (GP.lit b hb)), fun n => ?_⟩
    have hj : b.toNat - 97 < 8 := by
      unfold isL at hb
      simp [UInt8.le_iff_toNat_le] at hb
      omega
    simp only [condC, condB, List.any_cons, List.any_nil, List.all_cons, List.all_nil, Bool.and_true, Bool.or_false, litM]
    rw [bit_xor n _ hj, Bool.not_not]
  · intro p c _ h
    exact dual_circ c h.1 h.2
  · intro q m _ h
    refine ⟨by simp, fun m' hm => ?_⟩
    rw [List.mem_singleton.1 hm]
    exact h
  · intro q p m b _ _ h1 h2
    refine ⟨by simp, fun m' hm => ?_⟩
    rcases List.mem_cons.1 hm with rfl | hm
    · exact h1
    · exact h2.2 m' hm
  · intro p b _ h
    refine ⟨by simp, fun b' hb => ?_⟩
    rw [List.mem_singleton.1 hb]
    exact dual_join b h.1 h.2
  · intro p r b c _ _ h1 h2
    refine ⟨by simp, fun b' hb => ?_⟩
    rcases List.mem_cons.1 hb with rfl | hb
    · exact dual_join _ h1.1 h1.2
    · exact h2.2 b' hb
theorem gc_dual {s : List UInt8} {c : List (List Mean)} (h : GC s c) : DualOf (dualC c) (condC c) := dual_circ c (gram_dual.2.2 s c h).1 (gram_dual.2.2 s c h).2
theorem parse_dual {s : List UInt8} {c : List (List Mean)} (h : parseC s = some c) (hl : (dualC c).length ≤ 40) : ∃ m, parseL (dualC c) = some m ∧ ∀ n, m.f n = cutF (condC c) n := by
  obtain ⟨d, h1, h2⟩ := gc_dual (parse_of h)
  refine ⟨meanC d, ?_, h2⟩
  unfold parseL
  rw [of_parse h1 hl]
  rfl
end Go.Proofs.Yteikgnaikeleaaa

/- A text from a place on. -/
namespace Go.Proofs.Yteikgnaikeleaaa
set_option linter.unusedVariables false
open Go.RowKit Go.Proofs.Yteikgnaikeleaaa.XLoop Go.Proofs.YteikgnaikeleaaaW.PrintWords Go.Proofs.YteikgnaikeleaaaW.PrintLast Go.Proofs.YteikgnaikeleaaaW.PrintMore

theorem drop_head {s : List UInt8} {i : Nat} {b : UInt8} {r : List UInt8} (h : s.drop i = b :: r) : i < s.length ∧ bt (tx s) (i : Int) = (b.toNat : Int) ∧ s.drop (i + 1) = r := by
 have hp : i < s.length := by
  have := congrArg List.length h
  simp at this
  omega
 have hc := List.drop_eq_getElem_cons hp
 rw [h] at hc
 obtain ⟨hb, ht⟩ := List.cons.inj hc
 exact ⟨hp, by rw [bt_tx s i hp, ← hb], ht.symm⟩
theorem drop_more {s p r : List UInt8} {i : Nat} (h : s.drop i = p ++ r) : s.drop (i + p.length) = r ∧ (p ≠ [] → i + p.length ≤ s.length) := by
 refine ⟨?_, fun hne => ?_⟩
 ·
  rw [← List.drop_drop, h, List.drop_left]
 ·
  have := congrArg List.length h
  rw [List.length_drop, List.length_append] at this
  have h2 : 0 < p.length := List.length_pos_iff.2 hne
  omega
theorem byte_ne {b c : UInt8} (h : b ≠ c) : ¬ (b.toNat : Int) = (c.toNat : Int) := fun e => h (UInt8.toNat_inj.1 (by omega))
theorem wrap_nat (x : Nat) (h : x < 1000000000) : wrap64 ((x : Int) + 1) = ((x + 1 : Nat) : Int) := by unfold wrap64; omega
theorem wrap_pred (x : Nat) (h : x < 1000000000) : wrap64 (((x + 1 : Nat) : Int) - 1) = (x : Int) := by unfold wrap64; omega
theorem wrap_last (x : Nat) (h : x < 1000000000) : wrap64 (((x : Int) + 1) - 1) = (x : Int) := by unfold wrap64; omega
theorem tx_app (a b : List UInt8) : tx a ++ tx b = tx (a ++ b) := by
 apply ByteArray.ext
 simp [tx]
theorem tx_cut (s : List UInt8) (i j : Nat) : (tx s).extract i j = tx ((s.drop i).take (j - i)) := by
 apply ByteArray.ext
 simp [tx, ByteArray.data_extract]
theorem drop40 {s : List UInt8} {i : Nat} {r : List UInt8} (h : s.drop i = 40 :: r) : i < s.length ∧ bt (tx s) (i : Int) = 40 ∧ s.drop (i + 1) = r := drop_head h
theorem drop41 {s : List UInt8} {i : Nat} {r : List UInt8} (h : s.drop i = 41 :: r) : i < s.length ∧ bt (tx s) (i : Int) = 41 ∧ s.drop (i + 1) = r := drop_head h
theorem drop43 {s : List UInt8} {i : Nat} {r : List UInt8} (h : s.drop i = 43 :: r) : i < s.length ∧ bt (tx s) (i : Int) = 43 ∧ s.drop (i + 1) = r := drop_head h
theorem ne40 {b : UInt8} (h : b ≠ 40) : ¬ (b.toNat : Int) = 40 := byte_ne h
theorem ne41 {b : UInt8} (h : b ≠ 41) : ¬ (b.toNat : Int) = 41 := byte_ne h
theorem ne43 {b : UInt8} (h : b ≠ 43) : ¬ (b.toNat : Int) = 43 := byte_ne h
end Go.Proofs.Yteikgnaikeleaaa

namespace Go.Proofs.Yteikgnaikeleaaa.XLoop
open Go.RowKit Go.Proofs.YteikgnaikeleaaaW.PrintWords Go.Proofs.YteikgnaikeleaaaW.PrintLast Go.Proofs.YteikgnaikeleaaaW.PrintMore
attribute [local go_sem] max2_int min2_int max_two min_two max_three min_three max_four min_four   -- for this text's walks alone
set_option linter.unusedVariables false
set_option linter.unusedSimpArgs false
/-! ### loop_Number: function 32 -/
def loop_Number.f (a0 : ByteArray) (a1 : Int) : Option (Int × Int) := some ((numberR a0.data.toList a1).1, (numberR a0.data.toList a1).2)
theorem loop_Number.calls (a0 : ByteArray) (a1 : Int) (r1 : Int) (r2 : Int) (w : World) (h : loop_Number.f a0 a1 = some (r1, r2)) :
  Calls Try.prog 32 #[.string a0, .int .i64 a1] w fun e w' => e = .returned (.tuple #[.int .i64 r1, .int .i64 r2]) ∧ Below w.heap.size w w' := by
 obtain ⟨rfl, rfl⟩ := Prod.mk.inj (Option.some.inj h)
 have hc := numberOf_calls a0.data.toList a1 w
 simp only [tx_data] at hc
 exact hc

/-! ### loop_Idle: function 51 -/
def loop_Idle.f (a0 : ByteArray) : Option (ByteArray × Int) := some (tx (idleR a0.data.toList).1, (idleR a0.data.toList).2)
theorem loop_Idle.calls (a0 : ByteArray) (r1 : ByteArray) (r2 : Int) (w : World) (h : loop_Idle.f a0 = some (r1, r2)) :
  Calls Try.prog 51 #[.string a0] w fun e w' => e = .returned (.tuple #[.string r1, .int .i64 r2]) ∧ Below w.heap.size w w' := by
 obtain ⟨rfl, rfl⟩ := Prod.mk.inj (Option.some.inj h)
 have hc := idle_calls a0.data.toList w
 simp only [tx_data] at hc
 exact hc

/-! ### loop_Needs: function 52 -/
def loop_Needs.f (a0 : ByteArray) : Option (ByteArray × Int) := some (tx (needsR a0.data.toList).1, (needsR a0.data.toList).2)
theorem loop_Needs.calls (a0 : ByteArray) (r1 : ByteArray) (r2 : Int) (w : World) (h : loop_Needs.f a0 = some (r1, r2)) :
  Calls Try.prog 52 #[.string a0] w fun e w' => e = .returned (.tuple #[.string r1, .int .i64 r2]) ∧ Below w.heap.size w w' := by
 obtain ⟨rfl, rfl⟩ := Prod.mk.inj (Option.some.inj h)
 have hc := needs_calls a0.data.toList w
 simp only [tx_data] at hc
 exact hc

end Go.Proofs.Yteikgnaikeleaaa.XLoop
namespace Go.Proofs.Yteikgnaikeleaaa
open Go.RowKit Go.Proofs.YteikgnaikeleaaaW.PrintWords Go.Proofs.YteikgnaikeleaaaW.PrintLast Go.Proofs.YteikgnaikeleaaaW.PrintMore
set_option linter.unusedVariables false

theorem parse_short {s : List UInt8} {m : Mean} (h : parseL s = some m) : s.length ≤ 40 := by
 unfold parseL parseC at h
 by_cases hl : s.length ≤ 40
 ·
  exact hl
 ·
  rw [if_neg hl] at h; cases h
theorem rletters_eq (s : List UInt8) : XLoop.dropperref09_Letters.f 300 (tx s) = some (tx (lettersR s).1, (lettersR s).2) := by
 unfold XLoop.dropperref09_Letters.f XLoop.dropperref09_Valid.f lettersR
 rw [Option.bind_some, show (tx s).data.toList = s from rfl]
 cases hp : parseL s with
 | none => rfl
 | some m =>
  have hb := parse_bytes hp
  have hs := parse_short hp
  have h := rletters_ev s 291 0 s 0 rfl (by omega) hb (by decide) (by omega)
  rw [gath_all _ hb] at h
  exact (if_pos rfl).trans h
theorem rletters_calls (s : List UInt8) (w : World) : Calls Try.prog 48 #[.string (tx s)] w fun e w' => e = .returned (.tuple #[.string (tx (lettersR s).1), .int .i64 (lettersR s).2]) ∧ Below w.heap.size w w' :=
 (XLoop.dropperref09_Letters.calls 300 (tx s) _ _ w (rletters_eq s)).mono (by rintro e w' ⟨h1, h2⟩; exact ⟨h1, h2⟩)
theorem below_dr {B : Nat} {a w W : World} (h : Below B a w) (hd : Drawn0 w W) : Below B a W := by
 obtain ⟨m, rfl⟩ := hd
 exact below_dn h m
theorem blk_dr {w W : World} {g : Nat} {o : Obj} (h : w.heap[g]? = some o) (hd : Drawn0 w W) : W.heap[g]? = some o := by
 obtain ⟨m, rfl⟩ := hd
 exact tbl_drewN h m
set_option maxHeartbeats 8000000 in
set_option maxRecDepth 1000000 in
theorem ridle_calls (s : List UInt8) (w : World) : Calls Try.prog 56 #[.string (tx s)] w fun e w' => e = .returned (.tuple #[.string (tx (idleR s).1), .int .i64 (idleR s).2]) ∧ Below w.heap.size w w' := by
 have hLT := rletters_calls s
 have HC := Aside0.mk (read_c s)
 unfold lettersR at hLT
 have hzz := zero50
 unfold idleR
 cases hc : parseL s with
 | none =>
  rw [hc] at hLT
  have HS := Aside0.mk hLT
  clear hLT
  go_enter Try.func56, Try.ntmps56
  go_wp2_with (first | (go_at_call 48; refine (HS.out _).mono ?_; rintro e W1 ⟨rfl, hb⟩; have HB1 := Aside0.mk hb; clear hb))
  go_ret2
  exact ⟨rfl, HB1.out⟩
 | some m =>
  rw [hc] at hLT
  have hi : (parseL s).isSome = true := by rw [hc]; rfl
  have HV0 : Aside0 (∀ v : Nat → Bool, (∀ m, parseL s = some m → v = m.f) → v = m.f) := ⟨fun v h => h m hc⟩
  have HLS := Aside0.mk (rleast_calls m.f)
  rw [leastF_min (parseL_good hc)] at HLS
  obtain ⟨f, hf⟩ : ∃ f, f = m.f := ⟨_, rfl⟩
  simp only [← hf] at HLS HV0 ⊢
  clear hf hc
  have hal := allTo_lt s 8 (by decide)
  have HQ : Aside0 (∀ W, Calls Try.prog 79 #[.string (tx (textN (allTo s 8)))] W fun e w' => e = .returned (.int .i64 (allTo s 8 : Nat)) ∧ Drawn0 W w') := ⟨rbits_calls _ (by have := textN_len (allTo s 8); omega) _ (set_text _ hal)⟩
  obtain ⟨l, hl⟩ : ∃ l, l = leastF f := ⟨_, rfl⟩
  have HLN : Aside0 (l.length ≤ 256) := ⟨by rw [hl]; exact leastF_len f⟩
  have hnf : idleF s f = l.foldl (fun out n => out &&& (255 ^^^ n.val)) (allTo s 8) := by rw [hl]; rfl
  have hlt : idleF s f < 256 := fold_lt _ (fun a n h => and_lt a _ h) _ _ hal
  obtain ⟨N, hN⟩ : ∃ N, N = idleF s f := ⟨_, rfl⟩
  rw [← hN] at hnf hlt ⊢
  generalize allTo s 8 = a0 at hLT HQ hal hnf
  rw [← hl] at HLS
  have HNF := Aside0.mk hnf
  have HL := Aside0.mk hLT
  have HA0 := Aside0.mk hal
  have HT := Aside0.mk (rtext_calls N hlt)
  have hlt9 : (textsOf l).length = l.length := by simp [textsOf]
  have HLT := Aside0.mk hlt9
  have HG : Aside0 (∀ x (h : x < l.length) (h2 : x < (textsOf l).length), (textsOf l)[x]'h2 = tx (textN (l[x]).val)) := ⟨fun x h h2 => by simp [textsOf]⟩
  clear hN hnf hlt hl hLT hal hlt9
  go_enter Try.func56, Try.ntmps56
  go_wp2_with (first | (go_at_call 48; refine (HL.out _).mono ?_; rintro e W5 ⟨rfl, hb⟩; have HB5 := Aside0.mk hb; clear hb) | (go_at_call 65; refine (HC.out _).mono ?_; rintro e W1 ⟨v, rfl, hv, hb⟩; rw [hi]; obtain rfl := HV0.out v hv; have HB := Aside0.mk (new_below (below_step HB5.out hb) (Nat.le_refl _) v); have H6 := Aside0.mk (new_row W1 v); clear hb hv) | (refine wpList_store_row rfl 50 (.tmp 6) (.tmp 22) rfl W1.heap.size (tbl v) rfl rfl 50 (tbl fun _ => false) (blk_new _ _) (tbl_info v) (by rw [tbl_size, tbl_size]) (tbl_one v) ?_) | (go_at_call 79; refine (HQ.out _).mono ?_; rintro e W6 ⟨rfl, hd⟩; have HB6 := Aside0.mk (below_dr HB.out hd); have H66 := Aside0.mk (blk_dr H6.out hd); clear hd) | (refine wpList_load_row rfl 50 (.tmp 6) rfl W1.heap.size rfl 50 (tbl v) (0, 0) _ H66.out Try.underlying50 rfl (tbl_info v) ?_) | (go_at_call 62; refine (HLS.out _).mono ?_; rintro e W2 ⟨v2, rfl, ho, hb⟩; obtain ⟨A, c, rfl, _, hr⟩ := Kd.R_reads ho; rw [HLT.out]; have HR := Aside0.mk hr; have HB2 := Aside0.mk (below_step HB6.out hb); clear ho hb hr))
  go_loopg [10, 8] (l.length + 1) (fun kq v10 v8 W => ∃ (x a : Nat), v10 = .int .i64 x ∧ v8 = .int .i64 (a : Nat) ∧ Aside0 (x + kq = l.length + 1) ∧ Aside0 (x ≤ l.length) ∧ Aside0 (a < 256) ∧ Aside0 ((l.drop x).foldl (fun out n => out &&& (255 ^^^ n.val)) a = N) ∧ Aside0 (Below W2.heap.size W2 W))
  case atStart => exact ⟨0, a0, rfl, rfl, ⟨by omega⟩, ⟨by omega⟩, HA0, ⟨HNF.out.symm⟩, ⟨Below.refl _ _⟩⟩
  case round =>
   obtain ⟨x, a, rfl, rfl, HK, HX, HA, HD, HBL⟩ := hrel
   by_cases hx : x < l.length
   ·
    have h1 : decide ((x : Int) < (l.length : Int)) = true := decide_eq_true (by omega)
    have hnx : wrap64 ((x : Int) + 1) = ((x + 1 : Nat) : Int) := by have := HLN.out; unfold wrap64; omega
    have HX1 := Aside0.mk hx
    obtain ⟨ad, rfl, hcell⟩ := text_at (Kd.C_below HR.out HBL.out) x (by rw [HLT.out]; exact hx)
    rw [HG.out x hx _] at hcell
    have hd := HD.out
    rw [List.drop_eq_getElem_cons hx, List.foldl_cons] at hd
    generalize l[x] = k at hd hcell
    have hk := k.isLt
    have hkx := xor_255 k.val hk
    have hkl : 255 ^^^ k.val < 256 := by rw [hkx]; omega
    have hsub : wrap64 (255 - (k.val : Int)) = ((255 ^^^ k.val : Nat) : Int) := by rw [hkx]; unfold wrap64; omega
    have hand := and_bits a (255 ^^^ k.val) HA.out hkl
    have hand2 : Go.bits .and .i64 (a : Int) (255 - (k.val : Int)) = ((a &&& (255 ^^^ k.val) : Nat) : Int) := by rw [← hand, hkx]; congr 1; omega
    have HA2 : Aside0 (a &&& (255 ^^^ k.val) < 256) := ⟨and_lt a _ HA.out⟩
    have HD2 := Aside0.mk hd
    have HB79 := Aside0.mk (rbits_calls (textN k.val) (by have := textN_len k.val; omega) k.val (set_text _ hk))
    have h00 : (0 : Int) ≤ (x : Int) ∧ (x : Int) < (l.length : Int) := by omega
    clear hx hd hk hkx hkl
    go_wp2_with (go_at_call 79; refine (HB79.out _).mono ?_; rintro e W6 ⟨rfl, hd⟩; have HBM := Aside0.mk (below_dr HBL.out hd); clear hd)
    go_roundg (l.length - x)
    case measure => have := HK.out; have := HX1.out; omega
    case rel => exact ⟨x + 1, a &&& (255 ^^^ k.val), by first | rfl | rw [hnx], by first | rfl | rw [hand] | rw [hand2], ⟨by have := HK.out; have := HX1.out; omega⟩, ⟨HX1.out⟩, HA2, HD2, HBM⟩
   ·
    have h1 : decide ((x : Int) < (l.length : Int)) = false := decide_eq_false (by omega)
    have hd := HD.out
    rw [List.drop_eq_nil_of_le (by omega)] at hd
    have hd2 : a = N := hd
    subst hd2
    clear hd
    go_wp2_with (go_at_call 78; refine (HT.out _).mono ?_; rintro e W4 ⟨rfl, hd⟩; have HB4 := Aside0.mk (below_dr (below_step HB2.out HBL.out) hd); clear hd)
    go_ret2
    exact ⟨rfl, HB4.out⟩
end Go.Proofs.Yteikgnaikeleaaa

namespace Go.Proofs.Yteikgnaikeleaaa.XLoop
open Go.RowKit Go.Proofs.YteikgnaikeleaaaW.PrintWords Go.Proofs.YteikgnaikeleaaaW.PrintLast Go.Proofs.YteikgnaikeleaaaW.PrintMore
attribute [local go_sem] max2_int min2_int max_two min_two max_three min_three max_four min_four   -- for this text's walks alone
set_option linter.unusedVariables false
set_option linter.unusedSimpArgs false
/-! ### loop_Same: function 29 -/
def loop_Same.f (a0 : ByteArray) (a1 : ByteArray) : Option (Bool × Int) := some ((sameR a0.data.toList a1.data.toList).1, (sameR a0.data.toList a1.data.toList).2)
theorem loop_Same.calls (a0 : ByteArray) (a1 : ByteArray) (r1 : Bool) (r2 : Int) (w : World) (h : loop_Same.f a0 a1 = some (r1, r2)) :
  Calls Try.prog 29 #[.string a0, .string a1] w fun e w' => e = .returned (.tuple #[.bool r1, .int .i64 r2]) ∧ Below w.heap.size w w' := by
 obtain ⟨rfl, rfl⟩ := Prod.mk.inj (Option.some.inj h)
 have hc := same_calls a0.data.toList a1.data.toList w
 simp only [tx_data] at hc
 exact hc

end Go.Proofs.Yteikgnaikeleaaa.XLoop