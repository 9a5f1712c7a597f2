-- Written by a program of this session (xprint.py), over the kit's print.
import Derived.Test.YtfiihlgigeijcaaDoorX0
import Derived.Test.YtfiihlgigeijcaaDoorXucdTrailing
import Derived.Test.YtfiihlgigeijcaaDoorXtremaref01SameRunes
import Derived.Test.YtfiihlgigeijcaaDoorXucdFold
import Derived.Test.YtfiihlgigeijcaaDoorXtremalaw02fixed
import Derived.Test.YtfiihlgigeijcaaDoorVa
import Derived.Test.YtfiihlgigeijcaaDoorVd
import Derived.Test.YtfiihlgigeijcaaDoorVe
namespace Go.Proofs.YtfiihlgigeijcaaDoor.X
open Go.RowKit Go.Proofs.YtfiihlgigeijcaaDoorW.PrintWords Go.Proofs.YtfiihlgigeijcaaDoorW.PrintLast Go.Proofs.YtfiihlgigeijcaaDoorW.PrintMore
attribute [local go_sem] max2_int min2_int max_two min_two max_three min_three max_four min_four   -- for this text's walks alone
set_option linter.unusedVariables false
set_option linter.unusedSimpArgs false

/-! ### tremalaw02_UcdSyllables: function 9 -/
mutual
def tremalaw02_UcdSyllables.l0 : Nat → List Int → Int → Int → Option (Bool)
 | 0, _, _, _ => none
 | k + 1, x10, x11, x12 => if x12 < x11 then (if 0 ≤ x12 then (if x12 < (x10.length : Int) then ((ucd_Decompose.f (wrap32 (44032 + (Int.tmod (wrap32 (rd x10 x12)) 11172)))).bind fun t520 => (if (t520.length : Int) < 2 then (tremalaw02_UcdSyllables.j1 k (wrap32 (44032 + (Int.tmod (wrap32 (rd x10 x12)) 11172))) t520 x10 x11 x12 true) else (if (t520.length : Int) > 3 then (tremalaw02_UcdSyllables.j1 k (wrap32 (44032 + (Int.tmod (wrap32 (rd x10 x12)) 11172))) t520 x10 x11 x12 true) else (if 0 < (t520.length : Int) then (if (rd t520 0) < 4352 then (tremalaw02_UcdSyllables.j1 k (wrap32 (44032 + (Int.tmod (wrap32 (rd x10 x12)) 11172))) t520 x10 x11 x12 true) else (if (rd t520 0) > 4370 then (tremalaw02_UcdSyllables.j1 k (wrap32 (44032 + (Int.tmod (wrap32 (rd x10 x12)) 11172))) t520 x10 x11 x12 true) else (if 1 < (t520.length : Int) then (if (rd t520 1) < 4449 then (tremalaw02_UcdSyllables.j1 k (wrap32 (44032 + (Int.tmod (wrap32 (rd x10 x12)) 11172))) t520 x10 x11 x12 true) else (tremalaw02_UcdSyllables.j1 k (wrap32 (44032 + (Int.tmod (wrap32 (rd x10 x12)) 11172))) t520 x10 x11 x12 (decide ((rd t520 1) > 4469)))) else (none)))) else (none))))) else (none)) else (none)) else (some true)
def tremalaw02_UcdSyllables.j1 : Nat → Int → List Int → List Int → Int → Int → Bool → Option (Bool)
 | 0, _, _, _, _, _, _ => none
 | k + 1, x5, x6, x10, x11, x12, x53 => if x53 = true then (some false) else (if 0 < (x6.length : Int) then (if 1 < (x6.length : Int) then (if (x6.length : Int) = 3 then (if 2 < (x6.length : Int) then (if (rd x6 2) < 4520 then (some false) else (if (rd x6 2) > 4546 then (some false) else (tremalaw02_UcdSyllables.j2 k x5 x6 (wrap32 ((wrap32 (44032 + (wrap32 ((wrap32 ((wrap32 ((wrap32 ((wrap32 ((rd x6 0) - 4352)) * 21)) + (rd x6 1))) - 4449)) * 28)))) + (wrap32 ((rd x6 2) - 4519)))) x10 x11 x12))) else (none)) else (tremalaw02_UcdSyllables.j2 k x5 x6 (wrap32 (44032 + (wrap32 ((wrap32 ((wrap32 ((wrap32 ((wrap32 ((rd x6 0) - 4352)) * 21)) + (rd x6 1))) - 4449)) * 28)))) x10 x11 x12)) else (none)) else (none))
def tremalaw02_UcdSyllables.j2 : Nat → Int → List Int → Int → List Int → Int → Int → Option (Bool)
 | 0, _, _, _, _, _, _ => none
 | k + 1, x5, x6, x7, x10, x11, x12 => if x7 = x5 then ((ucd_Opens.f x5).bind fun t532 => (if t532 = true then (if 1 < (x6.length : Int) then ((ucd_Trailing.f (rd x6 1)).bind fun t534 => (if t534 = true then ((ucd_Fold.f k x5).bind fun t535 => ((tremaref01_SameRunes.f k t535 (([x5] : List Int))).bind fun t541 => (if t541 = true then (tremalaw02_UcdSyllables.l0 k x10 x11 (wrap64 (x12 + 1))) else (some false)))) else (some false))) else (none)) else (some false))) else (some false)
end
def tremalaw02_UcdSyllables.f (k : Nat) (l0 : List Int) : Option (Bool) := (tremalaw02_fixed.f k).bind fun t518 => (if t518 = true then (tremalaw02_UcdSyllables.l0 k l0 (l0.length : Int) 0) else (some false))
theorem tremalaw02_UcdSyllables.mono_l : ∀ k, (∀ y0 y1 y2, LeO (tremalaw02_UcdSyllables.l0 k y0 y1 y2) (tremalaw02_UcdSyllables.l0 (k + 1) y0 y1 y2)) ∧ (∀ y0 y1 y2 y3 y4 y5, LeO (tremalaw02_UcdSyllables.j1 k y0 y1 y2 y3 y4 y5) (tremalaw02_UcdSyllables.j1 (k + 1) y0 y1 y2 y3 y4 y5)) ∧ (∀ y0 y1 y2 y3 y4 y5, LeO (tremalaw02_UcdSyllables.j2 k y0 y1 y2 y3 y4 y5) (tremalaw02_UcdSyllables.j2 (k + 1) y0 y1 y2 y3 y4 y5))
 | 0 => ⟨fun _ _ _ r h => by simp [tremalaw02_UcdSyllables.l0] at h, fun _ _ _ _ _ _ r h => by simp [tremalaw02_UcdSyllables.j1] at h, fun _ _ _ _ _ _ r h => by simp [tremalaw02_UcdSyllables.j2] at h⟩
 | k + 1 => by
  obtain ⟨ih0, ih1, ih2⟩ := tremalaw02_UcdSyllables.mono_l k
  refine ⟨?_, ?_, ?_⟩
  ·intro y0 y1 y2
   unfold tremalaw02_UcdSyllables.l0
   repeat' first
   | (with_reducible exact ih0 _ _ _)
   | (with_reducible exact ih1 _ _ _ _ _ _)
   | (with_reducible exact ih2 _ _ _ _ _ _)
   | (with_reducible exact tremalaw02_fixed.mono _)
   | (with_reducible exact tremaref01_SameRunes.mono _ _ _)
   | (with_reducible exact ucd_Fold.mono _ _)
   | (with_reducible exact LeO.refl _)
   | (with_reducible exact LeO.none _)
   | (with_reducible refine LeO.ite ?_ ?_)
   | (with_reducible refine LeO.bind ?_ (fun _ => ?_))
   | exact ih0 _ _ _
   | exact ih1 _ _ _ _ _ _
   | exact ih2 _ _ _ _ _ _
   | exact tremalaw02_fixed.mono _
   | exact tremaref01_SameRunes.mono _ _ _
   | exact ucd_Fold.mono _ _
   | exact LeO.none _
   | refine LeO.ite ?_ ?_
   | refine LeO.bind ?_ (fun _ => ?_)
  ·intro y0 y1 y2 y3 y4 y5
   unfold tremalaw02_UcdSyllables.j1
   repeat' first
   | (with_reducible exact ih0 _ _ _)
   | (with_reducible exact ih1 _ _ _ _ _ _)
   | (with_reducible exact ih2 _ _ _ _ _ _)
   | (with_reducible exact tremalaw02_fixed.mono _)
   | (with_reducible exact tremaref01_SameRunes.mono _ _ _)
   | (with_reducible exact ucd_Fold.mono _ _)
   | (with_reducible exact LeO.refl _)
   | (with_reducible exact LeO.none _)
   | (with_reducible refine LeO.ite ?_ ?_)
   | (with_reducible refine LeO.bind ?_ (fun _ => ?_))
   | exact ih0 _ _ _
   | exact ih1 _ _ _ _ _ _
   | exact ih2 _ _ _ _ _ _
   | exact tremalaw02_fixed.mono _
   | exact tremaref01_SameRunes.mono _ _ _
   | exact ucd_Fold.mono _ _
   | exact LeO.none _
   | refine LeO.ite ?_ ?_
   | refine LeO.bind ?_ (fun _ => ?_)
  ·intro y0 y1 y2 y3 y4 y5
   unfold tremalaw02_UcdSyllables.j2
   repeat' first
   | (with_reducible exact ih0 _ _ _)
   | (with_reducible exact ih1 _ _ _ _ _ _)
   | (with_reducible exact ih2 _ _ _ _ _ _)
   | (with_reducible exact tremalaw02_fixed.mono _)
   | (with_reducible exact tremaref01_SameRunes.mono _ _ _)
   | (with_reducible exact ucd_Fold.mono _ _)
   | (with_reducible exact LeO.refl _)
   | (with_reducible exact LeO.none _)
   | (with_reducible refine LeO.ite ?_ ?_)
   | (with_reducible refine LeO.bind ?_ (fun _ => ?_))
   | exact ih0 _ _ _
   | exact ih1 _ _ _ _ _ _
   | exact ih2 _ _ _ _ _ _
   | exact tremalaw02_fixed.mono _
   | exact tremaref01_SameRunes.mono _ _ _
   | exact ucd_Fold.mono _ _
   | exact LeO.none _
   | refine LeO.ite ?_ ?_
   | refine LeO.bind ?_ (fun _ => ?_)
theorem tremalaw02_UcdSyllables.mono : ∀ a0 k, LeO (tremalaw02_UcdSyllables.f k a0) (tremalaw02_UcdSyllables.f (k + 1) a0) := by
 intro a0 k
 obtain ⟨ih0, ih1, ih2⟩ := tremalaw02_UcdSyllables.mono_l k
 unfold tremalaw02_UcdSyllables.f
 repeat' first
   | (with_reducible exact ih0 _ _ _)
   | (with_reducible exact ih1 _ _ _ _ _ _)
   | (with_reducible exact ih2 _ _ _ _ _ _)
   | (with_reducible exact tremalaw02_fixed.mono _)
   | (with_reducible exact tremaref01_SameRunes.mono _ _ _)
   | (with_reducible exact ucd_Fold.mono _ _)
   | (with_reducible exact LeO.refl _)
   | (with_reducible exact LeO.none _)
   | (with_reducible refine LeO.ite ?_ ?_)
   | (with_reducible refine LeO.bind ?_ (fun _ => ?_))
   | exact ih0 _ _ _
   | exact ih1 _ _ _ _ _ _
   | exact ih2 _ _ _ _ _ _
   | exact tremalaw02_fixed.mono _
   | exact tremaref01_SameRunes.mono _ _ _
   | exact ucd_Fold.mono _ _
   | exact LeO.none _
   | refine LeO.ite ?_ ?_
   | refine LeO.bind ?_ (fun _ => ?_)
set_option maxHeartbeats 8000000 in
set_option maxRecDepth 100000 in
theorem tremalaw02_UcdSyllables.calls (k : Nat) (A0 : Option Addr) (c0 : Nat) (l0 : List Int) (r : Bool) (w : World) (hr0 : Kd.C (Kd.int .u16) w A0 l0.length l0) (hc0 : l0.length ≤ c0) (h : tremalaw02_UcdSyllables.f k l0 = some r) (hG0 : Va.G w) :
  Calls Tryd.prog 9 #[.slice A0 l0.length c0] w fun e w' => e = .returned (.bool r) ∧ Below w.heap.size w w' := by
 have HG := Aside0.mk hG0
 clear hG0
 have HR0 := Aside0.mk hr0
 have HC0 := Aside0.mk hc0
 clear hr0 hc0
 have HB := Aside0.mk (Below.refl w.heap.size w)
 have H : ((tremalaw02_fixed.f k).bind fun t518 => (if t518 = true then (tremalaw02_UcdSyllables.l0 k l0 (l0.length : Int) 0) else (some false))) = some r := h
 clear h
 replace H := Option.bind_eq_some_iff.mp H
 obtain ⟨t518, A20, H⟩ := H
 replace H : (if t518 = true then (tremalaw02_UcdSyllables.l0 k l0 (l0.length : Int) 0) else (some false)) = some r := H
 have A2 := Aside0.mk A20
 clear A20
 by_cases c3 : t518 = true
 ·subst c3
  have H1 : (tremalaw02_UcdSyllables.l0 k l0 (l0.length : Int) 0) = some r := by rw [if_pos rfl] at H; exact H
  clear H
  have H := H1
  clear H1
  have H' := Aside0.mk H
  clear H
  go_enter Tryd.func9, Tryd.ntmps9
  go_wp2_with (first | (go_at_call 11; (with_reducible refine (tremalaw02_fixed.calls k  true _ A2.out (by first | exact HG.out | exact Va.G.below HG.out (by repeat (first | (with_reducible first | exact HB.out | apply below_alloc | apply pw_below_drewN | apply below_drew1) | exact HB.out)))).mono ?_); rintro e w4 ⟨rfl, hb⟩; have n0_ := Aside0.mk (below_step (by repeat (first | (with_reducible first | exact HB.out | apply below_alloc | apply pw_below_drewN | apply below_drew1) | exact HB.out)) hb); clear HB; have HB := n0_; clear n0_; (try clear hb); (try clear hb2); (try clear hk); (try clear hi)))
  repeat (go_quiet (first | (go_at_call 11; (with_reducible refine (tremalaw02_fixed.calls k  true _ A2.out (by first | exact HG.out | exact Va.G.below HG.out (by repeat (first | (with_reducible first | exact HB.out | apply below_alloc | apply pw_below_drewN | apply below_drew1) | exact HB.out)))).mono ?_); rintro e w4 ⟨rfl, hb⟩; have n0_ := Aside0.mk (below_step (by repeat (first | (with_reducible first | exact HB.out | apply below_alloc | apply pw_below_drewN | apply below_drew1) | exact HB.out)) hb); clear HB; have HB := n0_; clear n0_; (try clear hb); (try clear hb2); (try clear hk); (try clear hi))); try go_wp2_with (first | (go_at_call 11; (with_reducible refine (tremalaw02_fixed.calls k  true _ A2.out (by first | exact HG.out | exact Va.G.below HG.out (by repeat (first | (with_reducible first | exact HB.out | apply below_alloc | apply pw_below_drewN | apply below_drew1) | exact HB.out)))).mono ?_); rintro e w4 ⟨rfl, hb⟩; have n0_ := Aside0.mk (below_step (by repeat (first | (with_reducible first | exact HB.out | apply below_alloc | apply pw_below_drewN | apply below_drew1) | exact HB.out)) hb); clear HB; have HB := n0_; clear n0_; (try clear hb); (try clear hb2); (try clear hk); (try clear hi))))
  go_loopg [12] k (fun kq v12 w' => ∃ (x12_1 : Int), v12 = .int .i64 x12_1 ∧ Aside0 (tremalaw02_UcdSyllables.l0 kq l0 (l0.length : Int) x12_1 = some r) ∧ Aside0 (kq ≤ k) ∧ Aside0 (Below w.heap.size w w'))
  case atStart => exact ⟨(0), (by first | rfl | (simp; done) | (simp [*]; done)), H', ⟨Nat.le_refl _⟩, ⟨by repeat (first | (with_reducible first | exact HB.out | apply below_alloc | apply pw_below_drewN | apply below_drew1) | exact HB.out)⟩⟩
  case round =>
   clear H'
   try clear p2
   try clear c3
   obtain ⟨x12_1, rfl, HA, HK1, HB⟩ := hrel
   cases gk with
   | zero => exact absurd HA.out (by simp [tremalaw02_UcdSyllables.l0])
   | succ k1 =>
    have H := HA.out
    clear HA
    simp only [tremalaw02_UcdSyllables.l0] at H
    by_cases c5 : x12_1 < (l0.length : Int)
    ·rw [if_pos c5] at H
     have c5b0 : decide (x12_1 < (l0.length : Int)) = true := decide_eq_true c5
     clear c5
     by_cases c6 : 0 ≤ x12_1
     ·rw [if_pos c6] at H
      have c6b0 : decide (0 ≤ x12_1) = true := decide_eq_true c6
      clear c6
      by_cases c7 : x12_1 < (l0.length : Int)
      ·rw [if_pos c7] at H
       have c7b0 : decide (x12_1 < (l0.length : Int)) = true := decide_eq_true c7
       clear c7
       replace H := Option.bind_eq_some_iff.mp H
       obtain ⟨t520, A80, H⟩ := H
       replace H : (if (t520.length : Int) < 2 then (tremalaw02_UcdSyllables.j1 k1 (wrap32 (44032 + (Int.tmod (wrap32 (rd l0 x12_1)) 11172))) t520 l0 (l0.length : Int) x12_1 true) else (if (t520.length : Int) > 3 then (tremalaw02_UcdSyllables.j1 k1 (wrap32 (44032 + (Int.tmod (wrap32 (rd l0 x12_1)) 11172))) t520 l0 (l0.length : Int) x12_1 true) else (if 0 < (t520.length : Int) then (if (rd t520 0) < 4352 then (tremalaw02_UcdSyllables.j1 k1 (wrap32 (44032 + (Int.tmod (wrap32 (rd l0 x12_1)) 11172))) t520 l0 (l0.length : Int) x12_1 true) else (if (rd t520 0) > 4370 then (tremalaw02_UcdSyllables.j1 k1 (wrap32 (44032 + (Int.tmod (wrap32 (rd l0 x12_1)) 11172))) t520 l0 (l0.length : Int) x12_1 true) else (if 1 < (t520.length : Int) then (if (rd t520 1) < 4449 then (tremalaw02_UcdSyllables.j1 k1 (wrap32 (44032 + (Int.tmod (wrap32 (rd l0 x12_1)) 11172))) t520 l0 (l0.length : Int) x12_1 true) else (tremalaw02_UcdSyllables.j1 k1 (wrap32 (44032 + (Int.tmod (wrap32 (rd l0 x12_1)) 11172))) t520 l0 (l0.length : Int) x12_1 (decide ((rd t520 1) > 4469)))) else (none)))) else (none)))) = some r := H
       have A8 := Aside0.mk A80
       clear A80
       have HC9 := Aside0.mk H
       clear H
       have p519 : 0 ≤ (x12_1 : Int) := of_decide_eq_true (by first | (with_reducible assumption) | assumption)
       have q519 : x12_1 < (l0.length : Int) := of_decide_eq_true (by first | (with_reducible assumption) | assumption)
       obtain ⟨ad519, e519, hx519_0⟩ := Kd.at_int HR0.out x12_1 p519 q519
       cases e519
       replace hx519_0 := (HB.out.cell (World.block_lt_of_cell? w _ hx519_0)).trans hx519_0
       replace p519 := eq_true p519
       replace q519 := eq_true q519
       go_upto_region 8 with (first | (go_at_call 21; (with_reducible refine (ucd_Decompose.calls (wrap32 (44032 + (Int.tmod (wrap32 (rd l0 x12_1)) 11172))) t520 _ A8.out (by first | exact HG.out | exact Va.G.below HG.out (by repeat (first | (with_reducible first | exact HB.out | apply below_alloc | apply pw_below_drewN | apply below_drew1) | exact HB.out)))).mono ?_); rintro e w10 ⟨v521, rfl, ho0, hb⟩; have n0_ := Aside0.mk (Kd.R_lower ho0 (below_size (by repeat (first | (with_reducible first | exact HB.out | apply below_alloc | apply pw_below_drewN | apply below_drew1) | exact HB.out)))); have n1_ := Aside0.mk (below_step (by repeat (first | (with_reducible first | exact HB.out | apply below_alloc | apply pw_below_drewN | apply below_drew1) | exact HB.out)) hb); clear HB; have HO522 := n0_; have HB := n1_; clear n0_ n1_; (try clear hb); (try clear hb2); (try clear hk); (try clear hi); (try clear ho0)))
       repeat (go_quiet (first | (go_at_call 21; (with_reducible refine (ucd_Decompose.calls (wrap32 (44032 + (Int.tmod (wrap32 (rd l0 x12_1)) 11172))) t520 _ A8.out (by first | exact HG.out | exact Va.G.below HG.out (by repeat (first | (with_reducible first | exact HB.out | apply below_alloc | apply pw_below_drewN | apply below_drew1) | exact HB.out)))).mono ?_); rintro e w10 ⟨v521, rfl, ho0, hb⟩; have n0_ := Aside0.mk (Kd.R_lower ho0 (below_size (by repeat (first | (with_reducible first | exact HB.out | apply below_alloc | apply pw_below_drewN | apply below_drew1) | exact HB.out)))); have n1_ := Aside0.mk (below_step (by repeat (first | (with_reducible first | exact HB.out | apply below_alloc | apply pw_below_drewN | apply below_drew1) | exact HB.out)) hb); clear HB; have HO522 := n0_; have HB := n1_; clear n0_ n1_; (try clear hb); (try clear hb2); (try clear hk); (try clear hi); (try clear ho0))); go_upto_region 8 with (first | (go_at_call 21; (with_reducible refine (ucd_Decompose.calls (wrap32 (44032 + (Int.tmod (wrap32 (rd l0 x12_1)) 11172))) t520 _ A8.out (by first | exact HG.out | exact Va.G.below HG.out (by repeat (first | (with_reducible first | exact HB.out | apply below_alloc | apply pw_below_drewN | apply below_drew1) | exact HB.out)))).mono ?_); rintro e w10 ⟨v521, rfl, ho0, hb⟩; have n0_ := Aside0.mk (Kd.R_lower ho0 (below_size (by repeat (first | (with_reducible first | exact HB.out | apply below_alloc | apply pw_below_drewN | apply below_drew1) | exact HB.out)))); have n1_ := Aside0.mk (below_step (by repeat (first | (with_reducible first | exact HB.out | apply below_alloc | apply pw_below_drewN | apply below_drew1) | exact HB.out)) hb); clear HB; have HO522 := n0_; have HB := n1_; clear n0_ n1_; (try clear hb); (try clear hb2); (try clear hk); (try clear hi); (try clear ho0))))
       (try simp only [Act.put, List.setIfInBounds_toArray, List.set_cons_zero, List.set_cons_succ])
       go_cut [53] (fun v53 wc => ∃ (kq : Nat) (x53_8 : Bool), v53 = .bool x53_8 ∧ Aside0 (tremalaw02_UcdSyllables.j1 kq (wrap32 (44032 + (Int.tmod (wrap32 (rd l0 x12_1)) 11172))) t520 l0 (l0.length : Int) x12_1 x53_8 = some r) ∧ Aside0 (kq ≤ k1) ∧ Aside0 (Kd.R (Kd.int .i32) 21 wc w.heap.size (fun _ => True) v521 t520) ∧ Aside0 (Below w.heap.size w wc))
       case first =>
        have H := HC9.out
        clear HC9
        by_cases c11 : (t520.length : Int) < 2
        ·rw [if_pos c11] at H
         have c11b0 : decide ((t520.length : Int) < 2) = true := decide_eq_true c11
         have c11b1 : decide (t520.length < 2) = true := decide_eq_true (by omega)
         clear c11
         (first | rw [c11b0] | (simp only [i64_w, i32_w]; rw [c11b0]) | skip)
         have H' := Aside0.mk H
         clear H
         obtain ⟨Ao12, co12, eo12⟩ := Kd.R_slice HO522.out
         subst eo12
         go_wp2
         repeat (go_quiet (fail); try go_wp2)
         go_meet
         case rel => exact ⟨_, (true), (by first | rfl | (simp; done) | (simp [*]; done)), H', ⟨by have := HK1.out; first | omega | exact Nat.le_refl _⟩, ⟨by (with_reducible repeat (first | apply Kd.R_alloc | apply Kd.R_drewN | apply Kd.R_drew)); exact HO522.out⟩, ⟨by repeat (first | (with_reducible first | exact HB.out | apply below_alloc | apply pw_below_drewN | apply below_drew1) | exact HB.out)⟩⟩
        ·rw [if_neg c11] at H
         have c11b0 : decide ((t520.length : Int) < 2) = false := decide_eq_false c11
         have c11b1 : decide (t520.length < 2) = false := decide_eq_false (by omega)
         clear c11
         (first | rw [c11b0] | (simp only [i64_w, i32_w]; rw [c11b0]) | skip)
         by_cases c13 : (t520.length : Int) > 3
         ·rw [if_pos c13] at H
          have c13b0 : decide (3 < (t520.length : Int)) = true := decide_eq_true c13
          have c13b1 : decide (3 < t520.length) = true := decide_eq_true (by omega)
          clear c13
          have H' := Aside0.mk H
          clear H
          obtain ⟨Ao14, co14, eo14⟩ := Kd.R_slice HO522.out
          subst eo14
          go_wp2
          repeat (go_quiet (fail); try go_wp2)
          go_meet
          case rel => exact ⟨_, (true), (by first | rfl | (simp; done) | (simp [*]; done)), H', ⟨by have := HK1.out; first | omega | exact Nat.le_refl _⟩, ⟨by (with_reducible repeat (first | apply Kd.R_alloc | apply Kd.R_drewN | apply Kd.R_drew)); exact HO522.out⟩, ⟨by repeat (first | (with_reducible first | exact HB.out | apply below_alloc | apply pw_below_drewN | apply below_drew1) | exact HB.out)⟩⟩
         ·rw [if_neg c13] at H
          have c13b0 : decide (3 < (t520.length : Int)) = false := decide_eq_false c13
          have c13b1 : decide (3 < t520.length) = false := decide_eq_false (by omega)
          clear c13
          by_cases c15 : 0 < (t520.length : Int)
          ·rw [if_pos c15] at H
           have c15b0 : decide (0 < (t520.length : Int)) = true := decide_eq_true c15
           have c15b1 : decide (0 < t520.length) = true := decide_eq_true (by omega)
           clear c15
           by_cases c16 : (rd t520 0) < 4352
           ·rw [if_pos c16] at H
            have c16b0 : decide ((rd t520 0) < 4352) = true := decide_eq_true c16
            clear c16
            have H' := Aside0.mk H
            clear H
            obtain ⟨Ao17, co17, eo17⟩ := Kd.R_slice HO522.out
            subst eo17
            have p523 : 0 ≤ (0 : Int) := (by omega)
            have q523 : 0 < (t520.length : Int) := of_decide_eq_true (by first | (with_reducible assumption) | assumption)
            obtain ⟨ad523, e523, hx523_0⟩ := Kd.at_int (Kd.R_reads' HO522.out).2.2 0 p523 q523
            cases e523
            have qi523 : (0 < t520.length) = True := eq_true (by omega)
            (try rw [show ((0 : Int)).toNat = 0 from rfl] at hx523_0)
            (try rw [Addr.add_zero'] at hx523_0)
            replace p523 := eq_true p523
            replace q523 := eq_true q523
            go_wp2
            repeat (go_quiet (fail); try go_wp2)
            go_meet
            case rel => exact ⟨_, (true), (by first | rfl | (simp; done) | (simp [*]; done)), H', ⟨by have := HK1.out; first | omega | exact Nat.le_refl _⟩, ⟨by (with_reducible repeat (first | apply Kd.R_alloc | apply Kd.R_drewN | apply Kd.R_drew)); exact HO522.out⟩, ⟨by repeat (first | (with_reducible first | exact HB.out | apply below_alloc | apply pw_below_drewN | apply below_drew1) | exact HB.out)⟩⟩
           ·rw [if_neg c16] at H
            have c16b0 : decide ((rd t520 0) < 4352) = false := decide_eq_false c16
            clear c16
            by_cases c18 : (rd t520 0) > 4370
            ·rw [if_pos c18] at H
             have c18b0 : decide (4370 < (rd t520 0)) = true := decide_eq_true c18
             clear c18
             have H' := Aside0.mk H
             clear H
             obtain ⟨Ao19, co19, eo19⟩ := Kd.R_slice HO522.out
             subst eo19
             have p523 : 0 ≤ (0 : Int) := (by omega)
             have q523 : 0 < (t520.length : Int) := of_decide_eq_true (by first | (with_reducible assumption) | assumption)
             obtain ⟨ad523, e523, hx523_0⟩ := Kd.at_int (Kd.R_reads' HO522.out).2.2 0 p523 q523
             cases e523
             have qi523 : (0 < t520.length) = True := eq_true (by omega)
             (try rw [show ((0 : Int)).toNat = 0 from rfl] at hx523_0)
             (try rw [Addr.add_zero'] at hx523_0)
             replace p523 := eq_true p523
             replace q523 := eq_true q523
             have p524 : 0 ≤ (0 : Int) := (by omega)
             have q524 : 0 < (t520.length : Int) := of_decide_eq_true (by first | (with_reducible assumption) | assumption)
             obtain ⟨ad524, e524, hx524_0⟩ := Kd.at_int (Kd.R_reads' HO522.out).2.2 0 p524 q524
             obtain rfl : ad523 = ad524 := (by injection e524)
             have qi524 : (0 < t520.length) = True := eq_true (by omega)
             (try rw [show ((0 : Int)).toNat = 0 from rfl] at hx524_0)
             (try rw [Addr.add_zero'] at hx524_0)
             replace p524 := eq_true p524
             replace q524 := eq_true q524
             go_wp2
             repeat (go_quiet (fail); try go_wp2)
             go_meet
             case rel => exact ⟨_, (true), (by first | rfl | (simp; done) | (simp [*]; done)), H', ⟨by have := HK1.out; first | omega | exact Nat.le_refl _⟩, ⟨by (with_reducible repeat (first | apply Kd.R_alloc | apply Kd.R_drewN | apply Kd.R_drew)); exact HO522.out⟩, ⟨by repeat (first | (with_reducible first | exact HB.out | apply below_alloc | apply pw_below_drewN | apply below_drew1) | exact HB.out)⟩⟩
            ·rw [if_neg c18] at H
             have c18b0 : decide (4370 < (rd t520 0)) = false := decide_eq_false c18
             clear c18
             by_cases c20 : 1 < (t520.length : Int)
             ·rw [if_pos c20] at H
              have c20b0 : decide (1 < (t520.length : Int)) = true := decide_eq_true c20
              have c20b1 : decide (1 < t520.length) = true := decide_eq_true (by omega)
              clear c20
              by_cases c21 : (rd t520 1) < 4449
              ·rw [if_pos c21] at H
               have c21b0 : decide ((rd t520 1) < 4449) = true := decide_eq_true c21
               clear c21
               have H' := Aside0.mk H
               clear H
               obtain ⟨Ao22, co22, eo22⟩ := Kd.R_slice HO522.out
               subst eo22
               have p523 : 0 ≤ (0 : Int) := (by omega)
               have q523 : 0 < (t520.length : Int) := of_decide_eq_true (by first | (with_reducible assumption) | assumption)
               obtain ⟨ad523, e523, hx523_0⟩ := Kd.at_int (Kd.R_reads' HO522.out).2.2 0 p523 q523
               cases e523
               have qi523 : (0 < t520.length) = True := eq_true (by omega)
               (try rw [show ((0 : Int)).toNat = 0 from rfl] at hx523_0)
               (try rw [Addr.add_zero'] at hx523_0)
               replace p523 := eq_true p523
               replace q523 := eq_true q523
               have p524 : 0 ≤ (0 : Int) := (by omega)
               have q524 : 0 < (t520.length : Int) := of_decide_eq_true (by first | (with_reducible assumption) | assumption)
               obtain ⟨ad524, e524, hx524_0⟩ := Kd.at_int (Kd.R_reads' HO522.out).2.2 0 p524 q524
               obtain rfl : ad523 = ad524 := (by injection e524)
               have qi524 : (0 < t520.length) = True := eq_true (by omega)
               (try rw [show ((0 : Int)).toNat = 0 from rfl] at hx524_0)
               (try rw [Addr.add_zero'] at hx524_0)
               replace p524 := eq_true p524
               replace q524 := eq_true q524
               have p525 : 0 ≤ (1 : Int) := (by omega)
               have q525 : 1 < (t520.length : Int) := of_decide_eq_true (by first | (with_reducible assumption) | assumption)
               obtain ⟨ad525, e525, hx525_0⟩ := Kd.at_int (Kd.R_reads' HO522.out).2.2 1 p525 q525
               obtain rfl : ad523 = ad525 := (by injection e525)
               (try simp only [show (1 : Int).toNat = 1 from rfl, Nat.reduceMul, Nat.reduceEqDiff, Go.Addr.add, ↓reduceIte] at hx525_0)
               have qi525 : (1 < t520.length) = True := eq_true (by omega)
               (try rw [show ((1 : Int)).toNat = 1 from rfl] at hx525_0)
               replace p525 := eq_true p525
               replace q525 := eq_true q525
               go_wp2
               repeat (go_quiet (fail); try go_wp2)
               go_meet
               case rel => exact ⟨_, (true), (by first | rfl | (simp; done) | (simp [*]; done)), H', ⟨by have := HK1.out; first | omega | exact Nat.le_refl _⟩, ⟨by (with_reducible repeat (first | apply Kd.R_alloc | apply Kd.R_drewN | apply Kd.R_drew)); exact HO522.out⟩, ⟨by repeat (first | (with_reducible first | exact HB.out | apply below_alloc | apply pw_below_drewN | apply below_drew1) | exact HB.out)⟩⟩
              ·rw [if_neg c21] at H
               have c21b0 : decide ((rd t520 1) < 4449) = false := decide_eq_false c21
               clear c21
               have H' := Aside0.mk H
               clear H
               obtain ⟨Ao23, co23, eo23⟩ := Kd.R_slice HO522.out
               subst eo23
               have p523 : 0 ≤ (0 : Int) := (by omega)
               have q523 : 0 < (t520.length : Int) := of_decide_eq_true (by first | (with_reducible assumption) | assumption)
               obtain ⟨ad523, e523, hx523_0⟩ := Kd.at_int (Kd.R_reads' HO522.out).2.2 0 p523 q523
               cases e523
               have qi523 : (0 < t520.length) = True := eq_true (by omega)
               (try rw [show ((0 : Int)).toNat = 0 from rfl] at hx523_0)
               (try rw [Addr.add_zero'] at hx523_0)
               replace p523 := eq_true p523
               replace q523 := eq_true q523
               have p524 : 0 ≤ (0 : Int) := (by omega)
               have q524 : 0 < (t520.length : Int) := of_decide_eq_true (by first | (with_reducible assumption) | assumption)
               obtain ⟨ad524, e524, hx524_0⟩ := Kd.at_int (Kd.R_reads' HO522.out).2.2 0 p524 q524
               obtain rfl : ad523 = ad524 := (by injection e524)
               have qi524 : (0 < t520.length) = True := eq_true (by omega)
               (try rw [show ((0 : Int)).toNat = 0 from rfl] at hx524_0)
               (try rw [Addr.add_zero'] at hx524_0)
               replace p524 := eq_true p524
               replace q524 := eq_true q524
               have p525 : 0 ≤ (1 : Int) := (by omega)
               have q525 : 1 < (t520.length : Int) := of_decide_eq_true (by first | (with_reducible assumption) | assumption)
               obtain ⟨ad525, e525, hx525_0⟩ := Kd.at_int (Kd.R_reads' HO522.out).2.2 1 p525 q525
               obtain rfl : ad523 = ad525 := (by injection e525)
               (try simp only [show (1 : Int).toNat = 1 from rfl, Nat.reduceMul, Nat.reduceEqDiff, Go.Addr.add, ↓reduceIte] at hx525_0)
               have qi525 : (1 < t520.length) = True := eq_true (by omega)
               (try rw [show ((1 : Int)).toNat = 1 from rfl] at hx525_0)
               replace p525 := eq_true p525
               replace q525 := eq_true q525
               have p526 : 0 ≤ (1 : Int) := (by omega)
               have q526 : 1 < (t520.length : Int) := of_decide_eq_true (by first | (with_reducible assumption) | assumption)
               obtain ⟨ad526, e526, hx526_0⟩ := Kd.at_int (Kd.R_reads' HO522.out).2.2 1 p526 q526
               obtain rfl : ad523 = ad526 := (by injection e526)
               (try simp only [show (1 : Int).toNat = 1 from rfl, Nat.reduceMul, Nat.reduceEqDiff, Go.Addr.add, ↓reduceIte] at hx526_0)
               have qi526 : (1 < t520.length) = True := eq_true (by omega)
               (try rw [show ((1 : Int)).toNat = 1 from rfl] at hx526_0)
               replace p526 := eq_true p526
               replace q526 := eq_true q526
               go_wp2
               repeat (go_quiet (fail); try go_wp2)
               go_meet
               case rel => exact ⟨_, (decide ((rd t520 1) > 4469)), (by first | rfl | (simp; done) | (simp [*]; done)), H', ⟨by have := HK1.out; first | omega | exact Nat.le_refl _⟩, ⟨by (with_reducible repeat (first | apply Kd.R_alloc | apply Kd.R_drewN | apply Kd.R_drew)); exact HO522.out⟩, ⟨by repeat (first | (with_reducible first | exact HB.out | apply below_alloc | apply pw_below_drewN | apply below_drew1) | exact HB.out)⟩⟩
             ·rw [if_neg c20] at H
              exact absurd H (by simp)
          ·rw [if_neg c15] at H
           exact absurd H (by simp)
       case rest =>
        clear HC9
        try clear c1
        try clear c2
        try clear p2
        try clear c3
        try clear p3
        try clear c5
        try clear c5b0
        try clear p5
        try clear q5
        try clear hx5
        try clear qi5
        try clear c6
        try clear c6b0
        try clear c7
        try clear c7b0
        try clear c9
        try clear c11
        try clear c11b0
        try clear c11b1
        try clear c13
        try clear c13b0
        try clear c13b1
        try clear c15
        try clear c15b0
        try clear c15b1
        try clear c16
        try clear c16b0
        try clear c18
        try clear c18b0
        try clear c20
        try clear c20b0
        try clear c20b1
        try clear c21
        try clear c21b0
        try clear hx519_0
        try clear hx523_0
        try clear hx524_0
        try clear hx525_0
        try clear hx526_0
        try clear p2
        try clear p519
        try clear p523
        try clear p524
        try clear p525
        try clear p526
        try clear q519
        try clear q523
        try clear q524
        try clear q525
        try clear q526
        obtain ⟨kq, x53_8, rfl, HA, HJ8, HO_6, HB⟩ := hcut
        cases kq with
        | zero => exact absurd HA.out (by simp [tremalaw02_UcdSyllables.j1])
        | succ kj8 =>
         have H := HA.out
         clear HA
         simp only [tremalaw02_UcdSyllables.j1] at H
         by_cases c24 : x53_8 = true
         ·subst c24
          have H1 : (some false) = some r := by rw [if_pos rfl] at H; exact H
          clear H
          have H := H1
          clear H1
          obtain rfl := Option.some.inj H
          go_wp2
          repeat (go_quiet (fail); try go_wp2)
          go_ret
          exact ⟨by first | rfl | (simp [errW_none, errW_some] <;> rfl) | (simp [*, errW_none, errW_some] <;> rfl), by repeat (first | (with_reducible first | exact HB.out | apply below_alloc | apply pw_below_drewN | apply below_drew1) | exact HB.out)⟩
         ·replace c24 := Bool.eq_false_iff.mpr c24
          subst c24
          have H1 : (if 0 < (t520.length : Int) then (if 1 < (t520.length : Int) then (if (t520.length : Int) = 3 then (if 2 < (t520.length : Int) then (if (rd t520 2) < 4520 then (some false) else (if (rd t520 2) > 4546 then (some false) else (tremalaw02_UcdSyllables.j2 kj8 (wrap32 (44032 + (Int.tmod (wrap32 (rd l0 x12_1)) 11172))) t520 (wrap32 ((wrap32 (44032 + (wrap32 ((wrap32 ((wrap32 ((wrap32 ((wrap32 ((rd t520 0) - 4352)) * 21)) + (rd t520 1))) - 4449)) * 28)))) + (wrap32 ((rd t520 2) - 4519)))) l0 (l0.length : Int) x12_1))) else (none)) else (tremalaw02_UcdSyllables.j2 kj8 (wrap32 (44032 + (Int.tmod (wrap32 (rd l0 x12_1)) 11172))) t520 (wrap32 (44032 + (wrap32 ((wrap32 ((wrap32 ((wrap32 ((wrap32 ((rd t520 0) - 4352)) * 21)) + (rd t520 1))) - 4449)) * 28)))) l0 (l0.length : Int) x12_1)) else (none)) else (none)) = some r := by rw [if_neg (show ¬ (false = true) by decide)] at H; exact H
          clear H
          have H := H1
          clear H1
          by_cases c25 : 0 < (t520.length : Int)
          ·rw [if_pos c25] at H
           have c25b0 : decide (0 < (t520.length : Int)) = true := decide_eq_true c25
           have c25b1 : decide (0 < t520.length) = true := decide_eq_true (by omega)
           clear c25
           by_cases c26 : 1 < (t520.length : Int)
           ·rw [if_pos c26] at H
            have c26b0 : decide (1 < (t520.length : Int)) = true := decide_eq_true c26
            have c26b1 : decide (1 < t520.length) = true := decide_eq_true (by omega)
            clear c26
            have HC27 := Aside0.mk H
            clear H
            obtain ⟨Ao28, co28, eo28⟩ := Kd.R_slice HO_6.out
            subst eo28
            have p527 : 0 ≤ (0 : Int) := (by omega)
            have q527 : 0 < (t520.length : Int) := of_decide_eq_true (by first | (with_reducible assumption) | assumption)
            obtain ⟨ad527, e527, hx527_0⟩ := Kd.at_int (Kd.R_reads' HO_6.out).2.2 0 p527 q527
            cases e527
            have qi527 : (0 < t520.length) = True := eq_true (by omega)
            (try rw [show ((0 : Int)).toNat = 0 from rfl] at hx527_0)
            (try rw [Addr.add_zero'] at hx527_0)
            replace p527 := eq_true p527
            replace q527 := eq_true q527
            have p528 : 0 ≤ (1 : Int) := (by omega)
            have q528 : 1 < (t520.length : Int) := of_decide_eq_true (by first | (with_reducible assumption) | assumption)
            obtain ⟨ad528, e528, hx528_0⟩ := Kd.at_int (Kd.R_reads' HO_6.out).2.2 1 p528 q528
            obtain rfl : ad527 = ad528 := (by injection e528)
            (try simp only [show (1 : Int).toNat = 1 from rfl, Nat.reduceMul, Nat.reduceEqDiff, Go.Addr.add, ↓reduceIte] at hx528_0)
            have qi528 : (1 < t520.length) = True := eq_true (by omega)
            (try rw [show ((1 : Int)).toNat = 1 from rfl] at hx528_0)
            replace p528 := eq_true p528
            replace q528 := eq_true q528
            go_upto_if 68 with (fail)
            repeat (go_quiet (fail); go_upto_if 68 with (fail))
            go_cut [7] (fun v7 wc => ∃ (kq : Nat) (x7_26 : Int), v7 = .int .i32 x7_26 ∧ Aside0 (tremalaw02_UcdSyllables.j2 kq (wrap32 (44032 + (Int.tmod (wrap32 (rd l0 x12_1)) 11172))) t520 x7_26 l0 (l0.length : Int) x12_1 = some r) ∧ Aside0 (kq ≤ kj8) ∧ Aside0 (Kd.R (Kd.int .i32) 21 wc w.heap.size (fun _ => True) (.slice (some ad527) t520.length co28) t520) ∧ Aside0 (Below w.heap.size w wc))
            case first =>
             have H := HC27.out
             clear HC27
             by_cases c29 : (t520.length : Int) = 3
             ·rw [if_pos c29] at H
              have c29b0 : ((t520.length : Int) == 3) = true := beq_iff_eq.mpr c29
              have c29b1 : ((t520.length : Int) != 3) = false := bne_eq_false_iff_eq.mpr c29
              clear c29
              (first | rw [c29b0] | (simp only [i64_w, i32_w]; rw [c29b0]) | skip)
              by_cases c30 : 2 < (t520.length : Int)
              ·rw [if_pos c30] at H
               have c30b0 : decide (2 < (t520.length : Int)) = true := decide_eq_true c30
               have c30b1 : decide (2 < t520.length) = true := decide_eq_true (by omega)
               clear c30
               by_cases c31 : (rd t520 2) < 4520
               ·rw [if_pos c31] at H
                have c31b0 : decide ((rd t520 2) < 4520) = true := decide_eq_true c31
                clear c31
                obtain rfl := Option.some.inj H
                have p529 : 0 ≤ (2 : Int) := (by omega)
                have q529 : 2 < (t520.length : Int) := of_decide_eq_true (by first | (with_reducible assumption) | assumption)
                obtain ⟨ad529, e529, hx529_0⟩ := Kd.at_int (Kd.R_reads' HO_6.out).2.2 2 p529 q529
                obtain rfl : ad527 = ad529 := (by injection e529)
                (try simp only [show (2 : Int).toNat = 2 from rfl, Nat.reduceMul, Nat.reduceEqDiff, Go.Addr.add, ↓reduceIte] at hx529_0)
                have qi529 : (2 < t520.length) = True := eq_true (by omega)
                (try rw [show ((2 : Int)).toNat = 2 from rfl] at hx529_0)
                replace p529 := eq_true p529
                replace q529 := eq_true q529
                go_wp2
                repeat (go_quiet (fail); try go_wp2)
                go_ret
                exact ⟨by first | rfl | (simp [errW_none, errW_some] <;> rfl) | (simp [*, errW_none, errW_some] <;> rfl), by repeat (first | (with_reducible first | exact HB.out | apply below_alloc | apply pw_below_drewN | apply below_drew1) | exact HB.out)⟩
               ·rw [if_neg c31] at H
                have c31b0 : decide ((rd t520 2) < 4520) = false := decide_eq_false c31
                clear c31
                by_cases c32 : (rd t520 2) > 4546
                ·rw [if_pos c32] at H
                 have c32b0 : decide (4546 < (rd t520 2)) = true := decide_eq_true c32
                 clear c32
                 obtain rfl := Option.some.inj H
                 have p529 : 0 ≤ (2 : Int) := (by omega)
                 have q529 : 2 < (t520.length : Int) := of_decide_eq_true (by first | (with_reducible assumption) | assumption)
                 obtain ⟨ad529, e529, hx529_0⟩ := Kd.at_int (Kd.R_reads' HO_6.out).2.2 2 p529 q529
                 obtain rfl : ad527 = ad529 := (by injection e529)
                 (try simp only [show (2 : Int).toNat = 2 from rfl, Nat.reduceMul, Nat.reduceEqDiff, Go.Addr.add, ↓reduceIte] at hx529_0)
                 have qi529 : (2 < t520.length) = True := eq_true (by omega)
                 (try rw [show ((2 : Int)).toNat = 2 from rfl] at hx529_0)
                 replace p529 := eq_true p529
                 replace q529 := eq_true q529
                 have p530 : 0 ≤ (2 : Int) := (by omega)
                 have q530 : 2 < (t520.length : Int) := of_decide_eq_true (by first | (with_reducible assumption) | assumption)
                 obtain ⟨ad530, e530, hx530_0⟩ := Kd.at_int (Kd.R_reads' HO_6.out).2.2 2 p530 q530
                 obtain rfl : ad527 = ad530 := (by injection e530)
                 (try simp only [show (2 : Int).toNat = 2 from rfl, Nat.reduceMul, Nat.reduceEqDiff, Go.Addr.add, ↓reduceIte] at hx530_0)
                 have qi530 : (2 < t520.length) = True := eq_true (by omega)
                 (try rw [show ((2 : Int)).toNat = 2 from rfl] at hx530_0)
                 replace p530 := eq_true p530
                 replace q530 := eq_true q530
                 go_wp2
                 repeat (go_quiet (fail); try go_wp2)
                 go_ret
                 exact ⟨by first | rfl | (simp [errW_none, errW_some] <;> rfl) | (simp [*, errW_none, errW_some] <;> rfl), by repeat (first | (with_reducible first | exact HB.out | apply below_alloc | apply pw_below_drewN | apply below_drew1) | exact HB.out)⟩
                ·rw [if_neg c32] at H
                 have c32b0 : decide (4546 < (rd t520 2)) = false := decide_eq_false c32
                 clear c32
                 have H' := Aside0.mk H
                 clear H
                 have p529 : 0 ≤ (2 : Int) := (by omega)
                 have q529 : 2 < (t520.length : Int) := of_decide_eq_true (by first | (with_reducible assumption) | assumption)
                 obtain ⟨ad529, e529, hx529_0⟩ := Kd.at_int (Kd.R_reads' HO_6.out).2.2 2 p529 q529
                 obtain rfl : ad527 = ad529 := (by injection e529)
                 (try simp only [show (2 : Int).toNat = 2 from rfl, Nat.reduceMul, Nat.reduceEqDiff, Go.Addr.add, ↓reduceIte] at hx529_0)
                 have qi529 : (2 < t520.length) = True := eq_true (by omega)
                 (try rw [show ((2 : Int)).toNat = 2 from rfl] at hx529_0)
                 replace p529 := eq_true p529
                 replace q529 := eq_true q529
                 have p530 : 0 ≤ (2 : Int) := (by omega)
                 have q530 : 2 < (t520.length : Int) := of_decide_eq_true (by first | (with_reducible assumption) | assumption)
                 obtain ⟨ad530, e530, hx530_0⟩ := Kd.at_int (Kd.R_reads' HO_6.out).2.2 2 p530 q530
                 obtain rfl : ad527 = ad530 := (by injection e530)
                 (try simp only [show (2 : Int).toNat = 2 from rfl, Nat.reduceMul, Nat.reduceEqDiff, Go.Addr.add, ↓reduceIte] at hx530_0)
                 have qi530 : (2 < t520.length) = True := eq_true (by omega)
                 (try rw [show ((2 : Int)).toNat = 2 from rfl] at hx530_0)
                 replace p530 := eq_true p530
                 replace q530 := eq_true q530
                 have p531 : 0 ≤ (2 : Int) := (by omega)
                 have q531 : 2 < (t520.length : Int) := of_decide_eq_true (by first | (with_reducible assumption) | assumption)
                 obtain ⟨ad531, e531, hx531_0⟩ := Kd.at_int (Kd.R_reads' HO_6.out).2.2 2 p531 q531
                 obtain rfl : ad527 = ad531 := (by injection e531)
                 (try simp only [show (2 : Int).toNat = 2 from rfl, Nat.reduceMul, Nat.reduceEqDiff, Go.Addr.add, ↓reduceIte] at hx531_0)
                 have qi531 : (2 < t520.length) = True := eq_true (by omega)
                 (try rw [show ((2 : Int)).toNat = 2 from rfl] at hx531_0)
                 replace p531 := eq_true p531
                 replace q531 := eq_true q531
                 go_wp2
                 repeat (go_quiet (fail); try go_wp2)
                 go_meet
                 case rel => exact ⟨_, (wrap32 ((wrap32 (44032 + (wrap32 ((wrap32 ((wrap32 ((wrap32 ((wrap32 ((rd t520 0) - 4352)) * 21)) + (rd t520 1))) - 4449)) * 28)))) + (wrap32 ((rd t520 2) - 4519)))), (by first | rfl | (simp; done) | (simp [*]; done)), H', ⟨by have := HK1.out; have := HJ8.out; first | omega | exact Nat.le_refl _⟩, ⟨by (with_reducible repeat (first | apply Kd.R_alloc | apply Kd.R_drewN | apply Kd.R_drew)); exact HO_6.out⟩, ⟨by repeat (first | (with_reducible first | exact HB.out | apply below_alloc | apply pw_below_drewN | apply below_drew1) | exact HB.out)⟩⟩
              ·rw [if_neg c30] at H
               exact absurd H (by simp)
             ·rw [if_neg c29] at H
              have c29b0 : ((t520.length : Int) == 3) = false := beq_eq_false_iff_ne.mpr c29
              have c29b1 : ((t520.length : Int) != 3) = true := bne_iff_ne.mpr c29
              (first | rw [c29b0] | (simp only [i64_w, i32_w]; rw [c29b0]) | skip)
              have H' := Aside0.mk H
              clear H
              go_wp2
              repeat (go_quiet (fail); try go_wp2)
              go_meet
              case rel => exact ⟨_, (wrap32 (44032 + (wrap32 ((wrap32 ((wrap32 ((wrap32 ((wrap32 ((rd t520 0) - 4352)) * 21)) + (rd t520 1))) - 4449)) * 28)))), (by first | rfl | (simp; done) | (simp [*]; done)), H', ⟨by have := HK1.out; have := HJ8.out; first | omega | exact Nat.le_refl _⟩, ⟨by (with_reducible repeat (first | apply Kd.R_alloc | apply Kd.R_drewN | apply Kd.R_drew)); exact HO_6.out⟩, ⟨by repeat (first | (with_reducible first | exact HB.out | apply below_alloc | apply pw_below_drewN | apply below_drew1) | exact HB.out)⟩⟩
            case rest =>
             clear HC27
             try clear c1
             try clear c2
             try clear p2
             try clear c3
             try clear p3
             try clear c5
             try clear c5b0
             try clear p5
             try clear q5
             try clear hx5
             try clear qi5
             try clear c6
             try clear c6b0
             try clear c7
             try clear c7b0
             try clear c9
             try clear c11
             try clear c11b0
             try clear c11b1
             try clear c13
             try clear c13b0
             try clear c13b1
             try clear c15
             try clear c15b0
             try clear c15b1
             try clear c16
             try clear c16b0
             try clear c18
             try clear c18b0
             try clear c20
             try clear c20b0
             try clear c20b1
             try clear c21
             try clear c21b0
             try clear c24
             try clear c25
             try clear c25b0
             try clear c25b1
             try clear c26
             try clear c26b0
             try clear c26b1
             try clear c29
             try clear c29b0
             try clear c29b1
             try clear c30
             try clear c30b0
             try clear c30b1
             try clear c31
             try clear c31b0
             try clear c32
             try clear c32b0
             try clear p32
             try clear hx519_0
             try clear hx523_0
             try clear hx524_0
             try clear hx525_0
             try clear hx526_0
             try clear hx527_0
             try clear hx528_0
             try clear hx529_0
             try clear hx530_0
             try clear hx531_0
             try clear p2
             try clear p3
             try clear p5
             try clear p519
             try clear p523
             try clear p524
             try clear p525
             try clear p526
             try clear p527
             try clear p528
             try clear p529
             try clear p530
             try clear p531
             try clear q5
             try clear q519
             try clear q523
             try clear q524
             try clear q525
             try clear q526
             try clear q527
             try clear q528
             try clear q529
             try clear q530
             try clear q531
             obtain ⟨kq, x7_26, rfl, HA, HJ26, HO_6, HB⟩ := hcut
             cases kq with
             | zero => exact absurd HA.out (by simp [tremalaw02_UcdSyllables.j2])
             | succ kj26 =>
              have H := HA.out
              clear HA
              simp only [tremalaw02_UcdSyllables.j2] at H
              by_cases c33 : x7_26 = (wrap32 (44032 + (Int.tmod (wrap32 (rd l0 x12_1)) 11172)))
              ·rw [if_pos c33] at H
               have c33b0 : (x7_26 == (wrap32 (44032 + (Int.tmod (wrap32 (rd l0 x12_1)) 11172)))) = true := beq_iff_eq.mpr c33
               have c33b1 : (x7_26 != (wrap32 (44032 + (Int.tmod (wrap32 (rd l0 x12_1)) 11172)))) = false := bne_eq_false_iff_eq.mpr c33
               clear c33
               replace H := Option.bind_eq_some_iff.mp H
               obtain ⟨t532, A340, H⟩ := H
               replace H : (if t532 = true then (if 1 < (t520.length : Int) then ((ucd_Trailing.f (rd t520 1)).bind fun t534 => (if t534 = true then ((ucd_Fold.f kj26 (wrap32 (44032 + (Int.tmod (wrap32 (rd l0 x12_1)) 11172)))).bind fun t535 => ((tremaref01_SameRunes.f kj26 t535 (([(wrap32 (44032 + (Int.tmod (wrap32 (rd l0 x12_1)) 11172)))] : List Int))).bind fun t541 => (if t541 = true then (tremalaw02_UcdSyllables.l0 kj26 l0 (l0.length : Int) (wrap64 (x12_1 + 1))) else (some false)))) else (some false))) else (none)) else (some false)) = some r := H
               have A34 := Aside0.mk A340
               clear A340
               by_cases c35 : t532 = true
               ·subst c35
                have H1 : (if 1 < (t520.length : Int) then ((ucd_Trailing.f (rd t520 1)).bind fun t534 => (if t534 = true then ((ucd_Fold.f kj26 (wrap32 (44032 + (Int.tmod (wrap32 (rd l0 x12_1)) 11172)))).bind fun t535 => ((tremaref01_SameRunes.f kj26 t535 (([(wrap32 (44032 + (Int.tmod (wrap32 (rd l0 x12_1)) 11172)))] : List Int))).bind fun t541 => (if t541 = true then (tremalaw02_UcdSyllables.l0 kj26 l0 (l0.length : Int) (wrap64 (x12_1 + 1))) else (some false)))) else (some false))) else (none)) = some r := by rw [if_pos rfl] at H; exact H
                clear H
                have H := H1
                clear H1
                by_cases c36 : 1 < (t520.length : Int)
                ·rw [if_pos c36] at H
                 have c36b0 : decide (1 < (t520.length : Int)) = true := decide_eq_true c36
                 have c36b1 : decide (1 < t520.length) = true := decide_eq_true (by omega)
                 clear c36
                 replace H := Option.bind_eq_some_iff.mp H
                 obtain ⟨t534, A370, H⟩ := H
                 replace H : (if t534 = true then ((ucd_Fold.f kj26 (wrap32 (44032 + (Int.tmod (wrap32 (rd l0 x12_1)) 11172)))).bind fun t535 => ((tremaref01_SameRunes.f kj26 t535 (([(wrap32 (44032 + (Int.tmod (wrap32 (rd l0 x12_1)) 11172)))] : List Int))).bind fun t541 => (if t541 = true then (tremalaw02_UcdSyllables.l0 kj26 l0 (l0.length : Int) (wrap64 (x12_1 + 1))) else (some false)))) else (some false)) = some r := H
                 have A37 := Aside0.mk A370
                 clear A370
                 by_cases c38 : t534 = true
                 ·subst c38
                  have H1 : ((ucd_Fold.f kj26 (wrap32 (44032 + (Int.tmod (wrap32 (rd l0 x12_1)) 11172)))).bind fun t535 => ((tremaref01_SameRunes.f kj26 t535 (([(wrap32 (44032 + (Int.tmod (wrap32 (rd l0 x12_1)) 11172)))] : List Int))).bind fun t541 => (if t541 = true then (tremalaw02_UcdSyllables.l0 kj26 l0 (l0.length : Int) (wrap64 (x12_1 + 1))) else (some false)))) = some r := by rw [if_pos rfl] at H; exact H
                  clear H
                  have H := H1
                  clear H1
                  replace H := Option.bind_eq_some_iff.mp H
                  obtain ⟨t535, A390, H⟩ := H
                  replace H : ((tremaref01_SameRunes.f kj26 t535 (([(wrap32 (44032 + (Int.tmod (wrap32 (rd l0 x12_1)) 11172)))] : List Int))).bind fun t541 => (if t541 = true then (tremalaw02_UcdSyllables.l0 kj26 l0 (l0.length : Int) (wrap64 (x12_1 + 1))) else (some false))) = some r := H
                  have A39 := Aside0.mk A390
                  clear A390
                  obtain ⟨y538, hy538⟩ : ∃ y_ : List Int, y_ = (([(wrap32 (44032 + (Int.tmod (wrap32 (rd l0 x12_1)) 11172)))] : List Int)) := ⟨_, rfl⟩
                  replace H : ((tremaref01_SameRunes.f kj26 t535 y538).bind fun t541 => (if t541 = true then (tremalaw02_UcdSyllables.l0 kj26 l0 (l0.length : Int) (wrap64 (x12_1 + 1))) else (some false))) = some r := by first | (rw [hy538]; with_reducible exact H) | (have H2_ := (Option.bind_some _ _).symm.trans H; rw [hy538]; with_reducible exact H2_) | (have H2_ := (Option.bind_some _ _).symm.trans H; with_reducible exact H2_) | with_reducible exact H | (rw [hy538]; exact H) | exact H
                  have Ny538 := Aside0.mk hy538
                  clear hy538
                  replace H := Option.bind_eq_some_iff.mp H
                  obtain ⟨t541, A400, H⟩ := H
                  replace H : (if t541 = true then (tremalaw02_UcdSyllables.l0 kj26 l0 (l0.length : Int) (wrap64 (x12_1 + 1))) else (some false)) = some r := H
                  have A40 := Aside0.mk A400
                  clear A400
                  by_cases c41 : t541 = true
                  ·subst c41
                   have H1 : (tremalaw02_UcdSyllables.l0 kj26 l0 (l0.length : Int) (wrap64 (x12_1 + 1))) = some r := by rw [if_pos rfl] at H; exact H
                   clear H
                   have H := H1
                   clear H1
                   have H' := Aside0.mk H
                   clear H
                   go_wp2_with (first | (go_at_call 23; (with_reducible refine (ucd_Opens.calls (wrap32 (44032 + (Int.tmod (wrap32 (rd l0 x12_1)) 11172))) true _ A34.out (by first | exact HG.out | exact Va.G.below HG.out (by repeat (first | (with_reducible first | exact HB.out | apply below_alloc | apply pw_below_drewN | apply below_drew1) | exact HB.out)))).mono ?_); rintro e w42 ⟨rfl, hb⟩; have n0_ := Aside0.mk (Kd.R_below (by (with_reducible repeat (first | apply Kd.R_alloc | apply Kd.R_drewN | apply Kd.R_drew)); exact HO_6.out) hb); have n1_ := Aside0.mk (below_step (by repeat (first | (with_reducible first | exact HB.out | apply below_alloc | apply pw_below_drewN | apply below_drew1) | exact HB.out)) hb); clear HO_6; clear HB; have HO_6 := n0_; have HB := n1_; clear n0_ n1_; (try clear hb); (try clear hb2); (try clear hk); (try clear hi); have p533 : 0 ≤ (1 : Int) := (by omega); have q533 : 1 < (t520.length : Int) := of_decide_eq_true (by first | (with_reducible assumption) | assumption); obtain ⟨ad533, e533, hx533_0⟩ := Kd.at_int (Kd.R_reads' HO_6.out).2.2 1 p533 q533; obtain rfl : ad527 = ad533 := (by injection e533); (try simp only [show (1 : Int).toNat = 1 from rfl, Nat.reduceMul, Nat.reduceEqDiff, Go.Addr.add, ↓reduceIte] at hx533_0); have qi533 : (1 < t520.length) = True := eq_true (by omega); (try rw [show ((1 : Int)).toNat = 1 from rfl] at hx533_0); replace p533 := eq_true p533; replace q533 := eq_true q533) | (go_at_call 16; (with_reducible refine (ucd_Trailing.calls (rd t520 1) true _ A37.out).mono ?_); rintro e w' ⟨rfl, ⟨nd, rfl⟩⟩; (try first | exact ⟨rfl, _, World.drewN_drewN _ _ _⟩ | exact ⟨rfl, _, Eq.trans (World.drewN_drewN _ _ _) (congrArg (World.drewN _) (Nat.add_assoc _ _ _))⟩)) | (go_at_call 25; (with_reducible refine (ucd_Fold.calls kj26 (wrap32 (44032 + (Int.tmod (wrap32 (rd l0 x12_1)) 11172))) t535 _ A39.out).mono ?_); rintro e w43 ⟨v536, rfl, ho0, hb⟩; have n0_ := Aside0.mk (Kd.R_elder' (by (with_reducible repeat (first | apply Kd.R_alloc | apply Kd.R_drewN | apply Kd.R_drew)); exact HO_6.out) (Kd.R_base ho0) hb); have n1_ := Aside0.mk (Kd.R_lower (Kd.R_new' ho0 (Kd.R_lt (by (with_reducible repeat (first | apply Kd.R_alloc | apply Kd.R_drewN | apply Kd.R_drew)); exact HO_6.out))) (below_size (by repeat (first | (with_reducible first | exact HB.out | apply below_alloc | apply pw_below_drewN | apply below_drew1) | exact HB.out)))); have n2_ := Aside0.mk (below_step (by repeat (first | (with_reducible first | exact HB.out | apply below_alloc | apply pw_below_drewN | apply below_drew1) | exact HB.out)) hb); clear HO_6; clear HB; have HO_6 := n0_; have HO537 := n1_; have HB := n2_; clear n0_ n1_ n2_; (try clear hb); (try clear hb2); (try clear hk); (try clear hi); (try clear ho0)) | ((with_reducible refine gate_dst (N := 104) rfl ?_); (try (refine gate_guard (by rfl) ?_; dsimp only)); refine Kd.R_lit (Kd.int .i32) _ 21 ?hg (N := 104) ?hd (xs := ([(wrap32 (44032 + (Int.tmod (wrap32 (rd l0 x12_1)) 11172)))] : List Int)) (inner := [.int .i32 (wrap32 (44032 + (Int.tmod (wrap32 (rd l0 x12_1)) 11172)))]) (ok := fun _ => True) (okp := fun _ => True) ?hr ?hp (fun _ hk => hk) trivial (Below.refl _ _) (Nat.le_refl _) (by simp) ?_; (case hd => rfl); (case hg => rfl); (case hr => first | (go_simp; done) | (go_simp; rfl)); (case hp => exact (Reps.one (show Kd.M (Kd.int .i32) _ _ _ (wrap32 (44032 + (Int.tmod (wrap32 (rd l0 x12_1)) 11172))) [.int .i32 (wrap32 (44032 + (Int.tmod (wrap32 (rd l0 x12_1)) 11172)))] from rfl) (Reps.none _ _))); intro v539 w44 ho45 hb hg_ hnew_; clear hg_ hnew_; (first | rw [← Ny538.out] at ho45 | (simp only [Int.reduceToNat] at ho45; rw [← Ny538.out] at ho45)); have n0_ := Aside0.mk (Kd.R_elder' (by (with_reducible repeat (first | apply Kd.R_alloc | apply Kd.R_drewN | apply Kd.R_drew)); exact HO_6.out) (Kd.R_base ho45) hb); have n1_ := Aside0.mk (Kd.R_elder' (by (with_reducible repeat (first | apply Kd.R_alloc | apply Kd.R_drewN | apply Kd.R_drew)); exact HO537.out) (Kd.R_base ho45) hb); have n2_ := Aside0.mk (Kd.R_lower (Kd.R_new' (Kd.R_new' ho45 (Kd.R_lt (by (with_reducible repeat (first | apply Kd.R_alloc | apply Kd.R_drewN | apply Kd.R_drew)); exact HO_6.out))) (Kd.R_lt (by (with_reducible repeat (first | apply Kd.R_alloc | apply Kd.R_drewN | apply Kd.R_drew)); exact HO537.out))) (below_size (by repeat (first | (with_reducible first | exact HB.out | apply below_alloc | apply pw_below_drewN | apply below_drew1) | exact HB.out)))); have n3_ := Aside0.mk (below_step (by repeat (first | (with_reducible first | exact HB.out | apply below_alloc | apply pw_below_drewN | apply below_drew1) | exact HB.out)) hb); clear HO_6; clear HO537; clear HB; have HO_6 := n0_; have HO537 := n1_; have HO540 := n2_; have HB := n3_; clear n0_ n1_ n2_ n3_; clear hb ho45; obtain ⟨Ao46, co46, eo46⟩ := Kd.R_slice HO537.out; subst eo46; obtain ⟨Ao47, co47, eo47⟩ := Kd.R_slice HO540.out; subst eo47) | (go_at_call 20; (with_reducible refine (tremaref01_SameRunes.calls kj26 _ _ t535 _ _ y538 true _ ?side1 ?side2 ?side3 ?side4 A40.out).mono ?_); (case side1 => repeat (first | exact (Kd.R_reads' HO537.out).2.2 | (with_reducible refine Kd.C_alloc ?_ _) | (with_reducible refine Kd.C_drewN ?_ _) | (with_reducible refine Kd.C_drew ?_))); (case side2 => exact (Kd.R_reads' HO537.out).2.1); (case side3 => repeat (first | exact (Kd.R_reads' HO540.out).2.2 | (with_reducible refine Kd.C_alloc ?_ _) | (with_reducible refine Kd.C_drewN ?_ _) | (with_reducible refine Kd.C_drew ?_))); (case side4 => exact (Kd.R_reads' HO540.out).2.1); rintro e w' ⟨rfl, ⟨nd, rfl⟩⟩; (try first | exact ⟨rfl, _, World.drewN_drewN _ _ _⟩ | exact ⟨rfl, _, Eq.trans (World.drewN_drewN _ _ _) (congrArg (World.drewN _) (Nat.add_assoc _ _ _))⟩)))
                   repeat (go_quiet (first | (go_at_call 23; (with_reducible refine (ucd_Opens.calls (wrap32 (44032 + (Int.tmod (wrap32 (rd l0 x12_1)) 11172))) true _ A34.out (by first | exact HG.out | exact Va.G.below HG.out (by repeat (first | (with_reducible first | exact HB.out | apply below_alloc | apply pw_below_drewN | apply below_drew1) | exact HB.out)))).mono ?_); rintro e w42 ⟨rfl, hb⟩; have n0_ := Aside0.mk (Kd.R_below (by (with_reducible repeat (first | apply Kd.R_alloc | apply Kd.R_drewN | apply Kd.R_drew)); exact HO_6.out) hb); have n1_ := Aside0.mk (below_step (by repeat (first | (with_reducible first | exact HB.out | apply below_alloc | apply pw_below_drewN | apply below_drew1) | exact HB.out)) hb); clear HO_6; clear HB; have HO_6 := n0_; have HB := n1_; clear n0_ n1_; (try clear hb); (try clear hb2); (try clear hk); (try clear hi); have p533 : 0 ≤ (1 : Int) := (by omega); have q533 : 1 < (t520.length : Int) := of_decide_eq_true (by first | (with_reducible assumption) | assumption); obtain ⟨ad533, e533, hx533_0⟩ := Kd.at_int (Kd.R_reads' HO_6.out).2.2 1 p533 q533; obtain rfl : ad527 = ad533 := (by injection e533); (try simp only [show (1 : Int).toNat = 1 from rfl, Nat.reduceMul, Nat.reduceEqDiff, Go.Addr.add, ↓reduceIte] at hx533_0); have qi533 : (1 < t520.length) = True := eq_true (by omega); (try rw [show ((1 : Int)).toNat = 1 from rfl] at hx533_0); replace p533 := eq_true p533; replace q533 := eq_true q533) | (go_at_call 16; (with_reducible refine (ucd_Trailing.calls (rd t520 1) true _ A37.out).mono ?_); rintro e w' ⟨rfl, ⟨nd, rfl⟩⟩; (try first | exact ⟨rfl, _, World.drewN_drewN _ _ _⟩ | exact ⟨rfl, _, Eq.trans (World.drewN_drewN _ _ _) (congrArg (World.drewN _) (Nat.add_assoc _ _ _))⟩)) | (go_at_call 25; (with_reducible refine (ucd_Fold.calls kj26 (wrap32 (44032 + (Int.tmod (wrap32 (rd l0 x12_1)) 11172))) t535 _ A39.out).mono ?_); rintro e w43 ⟨v536, rfl, ho0, hb⟩; have n0_ := Aside0.mk (Kd.R_elder' (by (with_reducible repeat (first | apply Kd.R_alloc | apply Kd.R_drewN | apply Kd.R_drew)); exact HO_6.out) (Kd.R_base ho0) hb); have n1_ := Aside0.mk (Kd.R_lower (Kd.R_new' ho0 (Kd.R_lt (by (with_reducible repeat (first | apply Kd.R_alloc | apply Kd.R_drewN | apply Kd.R_drew)); exact HO_6.out))) (below_size (by repeat (first | (with_reducible first | exact HB.out | apply below_alloc | apply pw_below_drewN | apply below_drew1) | exact HB.out)))); have n2_ := Aside0.mk (below_step (by repeat (first | (with_reducible first | exact HB.out | apply below_alloc | apply pw_below_drewN | apply below_drew1) | exact HB.out)) hb); clear HO_6; clear HB; have HO_6 := n0_; have HO537 := n1_; have HB := n2_; clear n0_ n1_ n2_; (try clear hb); (try clear hb2); (try clear hk); (try clear hi); (try clear ho0)) | ((with_reducible refine gate_dst (N := 104) rfl ?_); (try (refine gate_guard (by rfl) ?_; dsimp only)); refine Kd.R_lit (Kd.int .i32) _ 21 ?hg (N := 104) ?hd (xs := ([(wrap32 (44032 + (Int.tmod (wrap32 (rd l0 x12_1)) 11172)))] : List Int)) (inner := [.int .i32 (wrap32 (44032 + (Int.tmod (wrap32 (rd l0 x12_1)) 11172)))]) (ok := fun _ => True) (okp := fun _ => True) ?hr ?hp (fun _ hk => hk) trivial (Below.refl _ _) (Nat.le_refl _) (by simp) ?_; (case hd => rfl); (case hg => rfl); (case hr => first | (go_simp; done) | (go_simp; rfl)); (case hp => exact (Reps.one (show Kd.M (Kd.int .i32) _ _ _ (wrap32 (44032 + (Int.tmod (wrap32 (rd l0 x12_1)) 11172))) [.int .i32 (wrap32 (44032 + (Int.tmod (wrap32 (rd l0 x12_1)) 11172)))] from rfl) (Reps.none _ _))); intro v539 w44 ho45 hb hg_ hnew_; clear hg_ hnew_; (first | rw [← Ny538.out] at ho45 | (simp only [Int.reduceToNat] at ho45; rw [← Ny538.out] at ho45)); have n0_ := Aside0.mk (Kd.R_elder' (by (with_reducible repeat (first | apply Kd.R_alloc | apply Kd.R_drewN | apply Kd.R_drew)); exact HO_6.out) (Kd.R_base ho45) hb); have n1_ := Aside0.mk (Kd.R_elder' (by (with_reducible repeat (first | apply Kd.R_alloc | apply Kd.R_drewN | apply Kd.R_drew)); exact HO537.out) (Kd.R_base ho45) hb); have n2_ := Aside0.mk (Kd.R_lower (Kd.R_new' (Kd.R_new' ho45 (Kd.R_lt (by (with_reducible repeat (first | apply Kd.R_alloc | apply Kd.R_drewN | apply Kd.R_drew)); exact HO_6.out))) (Kd.R_lt (by (with_reducible repeat (first | apply Kd.R_alloc | apply Kd.R_drewN | apply Kd.R_drew)); exact HO537.out))) (below_size (by repeat (first | (with_reducible first | exact HB.out | apply below_alloc | apply pw_below_drewN | apply below_drew1) | exact HB.out)))); have n3_ := Aside0.mk (below_step (by repeat (first | (with_reducible first | exact HB.out | apply below_alloc | apply pw_below_drewN | apply below_drew1) | exact HB.out)) hb); clear HO_6; clear HO537; clear HB; have HO_6 := n0_; have HO537 := n1_; have HO540 := n2_; have HB := n3_; clear n0_ n1_ n2_ n3_; clear hb ho45; obtain ⟨Ao46, co46, eo46⟩ := Kd.R_slice HO537.out; subst eo46; obtain ⟨Ao47, co47, eo47⟩ := Kd.R_slice HO540.out; subst eo47) | (go_at_call 20; (with_reducible refine (tremaref01_SameRunes.calls kj26 _ _ t535 _ _ y538 true _ ?side1 ?side2 ?side3 ?side4 A40.out).mono ?_); (case side1 => repeat (first | exact (Kd.R_reads' HO537.out).2.2 | (with_reducible refine Kd.C_alloc ?_ _) | (with_reducible refine Kd.C_drewN ?_ _) | (with_reducible refine Kd.C_drew ?_))); (case side2 => exact (Kd.R_reads' HO537.out).2.1); (case side3 => repeat (first | exact (Kd.R_reads' HO540.out).2.2 | (with_reducible refine Kd.C_alloc ?_ _) | (with_reducible refine Kd.C_drewN ?_ _) | (with_reducible refine Kd.C_drew ?_))); (case side4 => exact (Kd.R_reads' HO540.out).2.1); rintro e w' ⟨rfl, ⟨nd, rfl⟩⟩; (try first | exact ⟨rfl, _, World.drewN_drewN _ _ _⟩ | exact ⟨rfl, _, Eq.trans (World.drewN_drewN _ _ _) (congrArg (World.drewN _) (Nat.add_assoc _ _ _))⟩))); try go_wp2_with (first | (go_at_call 23; (with_reducible refine (ucd_Opens.calls (wrap32 (44032 + (Int.tmod (wrap32 (rd l0 x12_1)) 11172))) true _ A34.out (by first | exact HG.out | exact Va.G.below HG.out (by repeat (first | (with_reducible first | exact HB.out | apply below_alloc | apply pw_below_drewN | apply below_drew1) | exact HB.out)))).mono ?_); rintro e w42 ⟨rfl, hb⟩; have n0_ := Aside0.mk (Kd.R_below (by (with_reducible repeat (first | apply Kd.R_alloc | apply Kd.R_drewN | apply Kd.R_drew)); exact HO_6.out) hb); have n1_ := Aside0.mk (below_step (by repeat (first | (with_reducible first | exact HB.out | apply below_alloc | apply pw_below_drewN | apply below_drew1) | exact HB.out)) hb); clear HO_6; clear HB; have HO_6 := n0_; have HB := n1_; clear n0_ n1_; (try clear hb); (try clear hb2); (try clear hk); (try clear hi); have p533 : 0 ≤ (1 : Int) := (by omega); have q533 : 1 < (t520.length : Int) := of_decide_eq_true (by first | (with_reducible assumption) | assumption); obtain ⟨ad533, e533, hx533_0⟩ := Kd.at_int (Kd.R_reads' HO_6.out).2.2 1 p533 q533; obtain rfl : ad527 = ad533 := (by injection e533); (try simp only [show (1 : Int).toNat = 1 from rfl, Nat.reduceMul, Nat.reduceEqDiff, Go.Addr.add, ↓reduceIte] at hx533_0); have qi533 : (1 < t520.length) = True := eq_true (by omega); (try rw [show ((1 : Int)).toNat = 1 from rfl] at hx533_0); replace p533 := eq_true p533; replace q533 := eq_true q533) | (go_at_call 16; (with_reducible refine (ucd_Trailing.calls (rd t520 1) true _ A37.out).mono ?_); rintro e w' ⟨rfl, ⟨nd, rfl⟩⟩; (try first | exact ⟨rfl, _, World.drewN_drewN _ _ _⟩ | exact ⟨rfl, _, Eq.trans (World.drewN_drewN _ _ _) (congrArg (World.drewN _) (Nat.add_assoc _ _ _))⟩)) | (go_at_call 25; (with_reducible refine (ucd_Fold.calls kj26 (wrap32 (44032 + (Int.tmod (wrap32 (rd l0 x12_1)) 11172))) t535 _ A39.out).mono ?_); rintro e w43 ⟨v536, rfl, ho0, hb⟩; have n0_ := Aside0.mk (Kd.R_elder' (by (with_reducible repeat (first | apply Kd.R_alloc | apply Kd.R_drewN | apply Kd.R_drew)); exact HO_6.out) (Kd.R_base ho0) hb); have n1_ := Aside0.mk (Kd.R_lower (Kd.R_new' ho0 (Kd.R_lt (by (with_reducible repeat (first | apply Kd.R_alloc | apply Kd.R_drewN | apply Kd.R_drew)); exact HO_6.out))) (below_size (by repeat (first | (with_reducible first | exact HB.out | apply below_alloc | apply pw_below_drewN | apply below_drew1) | exact HB.out)))); have n2_ := Aside0.mk (below_step (by repeat (first | (with_reducible first | exact HB.out | apply below_alloc | apply pw_below_drewN | apply below_drew1) | exact HB.out)) hb); clear HO_6; clear HB; have HO_6 := n0_; have HO537 := n1_; have HB := n2_; clear n0_ n1_ n2_; (try clear hb); (try clear hb2); (try clear hk); (try clear hi); (try clear ho0)) | ((with_reducible refine gate_dst (N := 104) rfl ?_); (try (refine gate_guard (by rfl) ?_; dsimp only)); refine Kd.R_lit (Kd.int .i32) _ 21 ?hg (N := 104) ?hd (xs := ([(wrap32 (44032 + (Int.tmod (wrap32 (rd l0 x12_1)) 11172)))] : List Int)) (inner := [.int .i32 (wrap32 (44032 + (Int.tmod (wrap32 (rd l0 x12_1)) 11172)))]) (ok := fun _ => True) (okp := fun _ => True) ?hr ?hp (fun _ hk => hk) trivial (Below.refl _ _) (Nat.le_refl _) (by simp) ?_; (case hd => rfl); (case hg => rfl); (case hr => first | (go_simp; done) | (go_simp; rfl)); (case hp => exact (Reps.one (show Kd.M (Kd.int .i32) _ _ _ (wrap32 (44032 + (Int.tmod (wrap32 (rd l0 x12_1)) 11172))) [.int .i32 (wrap32 (44032 + (Int.tmod (wrap32 (rd l0 x12_1)) 11172)))] from rfl) (Reps.none _ _))); intro v539 w44 ho45 hb hg_ hnew_; clear hg_ hnew_; (first | rw [← Ny538.out] at ho45 | (simp only [Int.reduceToNat] at ho45; rw [← Ny538.out] at ho45)); have n0_ := Aside0.mk (Kd.R_elder' (by (with_reducible repeat (first | apply Kd.R_alloc | apply Kd.R_drewN | apply Kd.R_drew)); exact HO_6.out) (Kd.R_base ho45) hb); have n1_ := Aside0.mk (Kd.R_elder' (by (with_reducible repeat (first | apply Kd.R_alloc | apply Kd.R_drewN | apply Kd.R_drew)); exact HO537.out) (Kd.R_base ho45) hb); have n2_ := Aside0.mk (Kd.R_lower (Kd.R_new' (Kd.R_new' ho45 (Kd.R_lt (by (with_reducible repeat (first | apply Kd.R_alloc | apply Kd.R_drewN | apply Kd.R_drew)); exact HO_6.out))) (Kd.R_lt (by (with_reducible repeat (first | apply Kd.R_alloc | apply Kd.R_drewN | apply Kd.R_drew)); exact HO537.out))) (below_size (by repeat (first | (with_reducible first | exact HB.out | apply below_alloc | apply pw_below_drewN | apply below_drew1) | exact HB.out)))); have n3_ := Aside0.mk (below_step (by repeat (first | (with_reducible first | exact HB.out | apply below_alloc | apply pw_below_drewN | apply below_drew1) | exact HB.out)) hb); clear HO_6; clear HO537; clear HB; have HO_6 := n0_; have HO537 := n1_; have HO540 := n2_; have HB := n3_; clear n0_ n1_ n2_ n3_; clear hb ho45; obtain ⟨Ao46, co46, eo46⟩ := Kd.R_slice HO537.out; subst eo46; obtain ⟨Ao47, co47, eo47⟩ := Kd.R_slice HO540.out; subst eo47) | (go_at_call 20; (with_reducible refine (tremaref01_SameRunes.calls kj26 _ _ t535 _ _ y538 true _ ?side1 ?side2 ?side3 ?side4 A40.out).mono ?_); (case side1 => repeat (first | exact (Kd.R_reads' HO537.out).2.2 | (with_reducible refine Kd.C_alloc ?_ _) | (with_reducible refine Kd.C_drewN ?_ _) | (with_reducible refine Kd.C_drew ?_))); (case side2 => exact (Kd.R_reads' HO537.out).2.1); (case side3 => repeat (first | exact (Kd.R_reads' HO540.out).2.2 | (with_reducible refine Kd.C_alloc ?_ _) | (with_reducible refine Kd.C_drewN ?_ _) | (with_reducible refine Kd.C_drew ?_))); (case side4 => exact (Kd.R_reads' HO540.out).2.1); rintro e w' ⟨rfl, ⟨nd, rfl⟩⟩; (try first | exact ⟨rfl, _, World.drewN_drewN _ _ _⟩ | exact ⟨rfl, _, Eq.trans (World.drewN_drewN _ _ _) (congrArg (World.drewN _) (Nat.add_assoc _ _ _))⟩))))
                   go_roundg kj26
                   case measure => have := HK1.out; have := HJ8.out; have := HJ26.out; omega
                   case rel => exact ⟨(wrap64 (x12_1 + 1)), (by first | rfl | (simp; done) | (simp [*]; done)), H', ⟨by have := HK1.out; have := HJ8.out; have := HJ26.out; omega⟩, ⟨by repeat (first | (with_reducible first | exact HB.out | apply below_alloc | apply pw_below_drewN | apply below_drew1) | exact HB.out)⟩⟩
                  ·replace c41 := Bool.eq_false_iff.mpr c41
                   subst c41
                   have H1 : (some false) = some r := by rw [if_neg (show ¬ (false = true) by decide)] at H; exact H
                   clear H
                   have H := H1
                   clear H1
                   obtain rfl := Option.some.inj H
                   go_wp2_with (first | (go_at_call 23; (with_reducible refine (ucd_Opens.calls (wrap32 (44032 + (Int.tmod (wrap32 (rd l0 x12_1)) 11172))) true _ A34.out (by first | exact HG.out | exact Va.G.below HG.out (by repeat (first | (with_reducible first | exact HB.out | apply below_alloc | apply pw_below_drewN | apply below_drew1) | exact HB.out)))).mono ?_); rintro e w48 ⟨rfl, hb⟩; have n0_ := Aside0.mk (Kd.R_below (by (with_reducible repeat (first | apply Kd.R_alloc | apply Kd.R_drewN | apply Kd.R_drew)); exact HO_6.out) hb); have n1_ := Aside0.mk (below_step (by repeat (first | (with_reducible first | exact HB.out | apply below_alloc | apply pw_below_drewN | apply below_drew1) | exact HB.out)) hb); clear HO_6; clear HB; have HO_6 := n0_; have HB := n1_; clear n0_ n1_; (try clear hb); (try clear hb2); (try clear hk); (try clear hi); have p533 : 0 ≤ (1 : Int) := (by omega); have q533 : 1 < (t520.length : Int) := of_decide_eq_true (by first | (with_reducible assumption) | assumption); obtain ⟨ad533, e533, hx533_0⟩ := Kd.at_int (Kd.R_reads' HO_6.out).2.2 1 p533 q533; obtain rfl : ad527 = ad533 := (by injection e533); (try simp only [show (1 : Int).toNat = 1 from rfl, Nat.reduceMul, Nat.reduceEqDiff, Go.Addr.add, ↓reduceIte] at hx533_0); have qi533 : (1 < t520.length) = True := eq_true (by omega); (try rw [show ((1 : Int)).toNat = 1 from rfl] at hx533_0); replace p533 := eq_true p533; replace q533 := eq_true q533) | (go_at_call 16; (with_reducible refine (ucd_Trailing.calls (rd t520 1) true _ A37.out).mono ?_); rintro e w' ⟨rfl, ⟨nd, rfl⟩⟩; (try first | exact ⟨rfl, _, World.drewN_drewN _ _ _⟩ | exact ⟨rfl, _, Eq.trans (World.drewN_drewN _ _ _) (congrArg (World.drewN _) (Nat.add_assoc _ _ _))⟩)) | (go_at_call 25; (with_reducible refine (ucd_Fold.calls kj26 (wrap32 (44032 + (Int.tmod (wrap32 (rd l0 x12_1)) 11172))) t535 _ A39.out).mono ?_); rintro e w49 ⟨v536, rfl, ho0, hb⟩; have n0_ := Aside0.mk (Kd.R_elder' (by (with_reducible repeat (first | apply Kd.R_alloc | apply Kd.R_drewN | apply Kd.R_drew)); exact HO_6.out) (Kd.R_base ho0) hb); have n1_ := Aside0.mk (Kd.R_lower (Kd.R_new' ho0 (Kd.R_lt (by (with_reducible repeat (first | apply Kd.R_alloc | apply Kd.R_drewN | apply Kd.R_drew)); exact HO_6.out))) (below_size (by repeat (first | (with_reducible first | exact HB.out | apply below_alloc | apply pw_below_drewN | apply below_drew1) | exact HB.out)))); have n2_ := Aside0.mk (below_step (by repeat (first | (with_reducible first | exact HB.out | apply below_alloc | apply pw_below_drewN | apply below_drew1) | exact HB.out)) hb); clear HO_6; clear HB; have HO_6 := n0_; have HO537 := n1_; have HB := n2_; clear n0_ n1_ n2_; (try clear hb); (try clear hb2); (try clear hk); (try clear hi); (try clear ho0)) | ((with_reducible refine gate_dst (N := 104) rfl ?_); (try (refine gate_guard (by rfl) ?_; dsimp only)); refine Kd.R_lit (Kd.int .i32) _ 21 ?hg (N := 104) ?hd (xs := ([(wrap32 (44032 + (Int.tmod (wrap32 (rd l0 x12_1)) 11172)))] : List Int)) (inner := [.int .i32 (wrap32 (44032 + (Int.tmod (wrap32 (rd l0 x12_1)) 11172)))]) (ok := fun _ => True) (okp := fun _ => True) ?hr ?hp (fun _ hk => hk) trivial (Below.refl _ _) (Nat.le_refl _) (by simp) ?_; (case hd => rfl); (case hg => rfl); (case hr => first | (go_simp; done) | (go_simp; rfl)); (case hp => exact (Reps.one (show Kd.M (Kd.int .i32) _ _ _ (wrap32 (44032 + (Int.tmod (wrap32 (rd l0 x12_1)) 11172))) [.int .i32 (wrap32 (44032 + (Int.tmod (wrap32 (rd l0 x12_1)) 11172)))] from rfl) (Reps.none _ _))); intro v539 w50 ho51 hb hg_ hnew_; clear hg_ hnew_; (first | rw [← Ny538.out] at ho51 | (simp only [Int.reduceToNat] at ho51; rw [← Ny538.out] at ho51)); have n0_ := Aside0.mk (Kd.R_elder' (by (with_reducible repeat (first | apply Kd.R_alloc | apply Kd.R_drewN | apply Kd.R_drew)); exact HO_6.out) (Kd.R_base ho51) hb); have n1_ := Aside0.mk (Kd.R_elder' (by (with_reducible repeat (first | apply Kd.R_alloc | apply Kd.R_drewN | apply Kd.R_drew)); exact HO537.out) (Kd.R_base ho51) hb); have n2_ := Aside0.mk (Kd.R_lower (Kd.R_new' (Kd.R_new' ho51 (Kd.R_lt (by (with_reducible repeat (first | apply Kd.R_alloc | apply Kd.R_drewN | apply Kd.R_drew)); exact HO_6.out))) (Kd.R_lt (by (with_reducible repeat (first | apply Kd.R_alloc | apply Kd.R_drewN | apply Kd.R_drew)); exact HO537.out))) (below_size (by repeat (first | (with_reducible first | exact HB.out | apply below_alloc | apply pw_below_drewN | apply below_drew1) | exact HB.out)))); have n3_ := Aside0.mk (below_step (by repeat (first | (with_reducible first | exact HB.out | apply below_alloc | apply pw_below_drewN | apply below_drew1) | exact HB.out)) hb); clear HO_6; clear HO537; clear HB; have HO_6 := n0_; have HO537 := n1_; have HO540 := n2_; have HB := n3_; clear n0_ n1_ n2_ n3_; clear hb ho51; obtain ⟨Ao52, co52, eo52⟩ := Kd.R_slice HO537.out; subst eo52; obtain ⟨Ao53, co53, eo53⟩ := Kd.R_slice HO540.out; subst eo53) | (go_at_call 20; (with_reducible refine (tremaref01_SameRunes.calls kj26 _ _ t535 _ _ y538 false _ ?side1 ?side2 ?side3 ?side4 A40.out).mono ?_); (case side1 => repeat (first | exact (Kd.R_reads' HO537.out).2.2 | (with_reducible refine Kd.C_alloc ?_ _) | (with_reducible refine Kd.C_drewN ?_ _) | (with_reducible refine Kd.C_drew ?_))); (case side2 => exact (Kd.R_reads' HO537.out).2.1); (case side3 => repeat (first | exact (Kd.R_reads' HO540.out).2.2 | (with_reducible refine Kd.C_alloc ?_ _) | (with_reducible refine Kd.C_drewN ?_ _) | (with_reducible refine Kd.C_drew ?_))); (case side4 => exact (Kd.R_reads' HO540.out).2.1); rintro e w' ⟨rfl, ⟨nd, rfl⟩⟩; (try first | exact ⟨rfl, _, World.drewN_drewN _ _ _⟩ | exact ⟨rfl, _, Eq.trans (World.drewN_drewN _ _ _) (congrArg (World.drewN _) (Nat.add_assoc _ _ _))⟩)))
                   repeat (go_quiet (first | (go_at_call 23; (with_reducible refine (ucd_Opens.calls (wrap32 (44032 + (Int.tmod (wrap32 (rd l0 x12_1)) 11172))) true _ A34.out (by first | exact HG.out | exact Va.G.below HG.out (by repeat (first | (with_reducible first | exact HB.out | apply below_alloc | apply pw_below_drewN | apply below_drew1) | exact HB.out)))).mono ?_); rintro e w48 ⟨rfl, hb⟩; have n0_ := Aside0.mk (Kd.R_below (by (with_reducible repeat (first | apply Kd.R_alloc | apply Kd.R_drewN | apply Kd.R_drew)); exact HO_6.out) hb); have n1_ := Aside0.mk (below_step (by repeat (first | (with_reducible first | exact HB.out | apply below_alloc | apply pw_below_drewN | apply below_drew1) | exact HB.out)) hb); clear HO_6; clear HB; have HO_6 := n0_; have HB := n1_; clear n0_ n1_; (try clear hb); (try clear hb2); (try clear hk); (try clear hi); have p533 : 0 ≤ (1 : Int) := (by omega); have q533 : 1 < (t520.length : Int) := of_decide_eq_true (by first | (with_reducible assumption) | assumption); obtain ⟨ad533, e533, hx533_0⟩ := Kd.at_int (Kd.R_reads' HO_6.out).2.2 1 p533 q533; obtain rfl : ad527 = ad533 := (by injection e533); (try simp only [show (1 : Int).toNat = 1 from rfl, Nat.reduceMul, Nat.reduceEqDiff, Go.Addr.add, ↓reduceIte] at hx533_0); have qi533 : (1 < t520.length) = True := eq_true (by omega); (try rw [show ((1 : Int)).toNat = 1 from rfl] at hx533_0); replace p533 := eq_true p533; replace q533 := eq_true q533) | (go_at_call 16; (with_reducible refine (ucd_Trailing.calls (rd t520 1) true _ A37.out).mono ?_); rintro e w' ⟨rfl, ⟨nd, rfl⟩⟩; (try first | exact ⟨rfl, _, World.drewN_drewN _ _ _⟩ | exact ⟨rfl, _, Eq.trans (World.drewN_drewN _ _ _) (congrArg (World.drewN _) (Nat.add_assoc _ _ _))⟩)) | (go_at_call 25; (with_reducible refine (ucd_Fold.calls kj26 (wrap32 (44032 + (Int.tmod (wrap32 (rd l0 x12_1)) 11172))) t535 _ A39.out).mono ?_); rintro e w49 ⟨v536, rfl, ho0, hb⟩; have n0_ := Aside0.mk (Kd.R_elder' (by (with_reducible repeat (first | apply Kd.R_alloc | apply Kd.R_drewN | apply Kd.R_drew)); exact HO_6.out) (Kd.R_base ho0) hb); have n1_ := Aside0.mk (Kd.R_lower (Kd.R_new' ho0 (Kd.R_lt (by (with_reducible repeat (first | apply Kd.R_alloc | apply Kd.R_drewN | apply Kd.R_drew)); exact HO_6.out))) (below_size (by repeat (first | (with_reducible first | exact HB.out | apply below_alloc | apply pw_below_drewN | apply below_drew1) | exact HB.out)))); have n2_ := Aside0.mk (below_step (by repeat (first | (with_reducible first | exact HB.out | apply below_alloc | apply pw_below_drewN | apply below_drew1) | exact HB.out)) hb); clear HO_6; clear HB; have HO_6 := n0_; have HO537 := n1_; have HB := n2_; clear n0_ n1_ n2_; (try clear hb); (try clear hb2); (try clear hk); (try clear hi); (try clear ho0)) | ((with_reducible refine gate_dst (N := 104) rfl ?_); (try (refine gate_guard (by rfl) ?_; dsimp only)); refine Kd.R_lit (Kd.int .i32) _ 21 ?hg (N := 104) ?hd (xs := ([(wrap32 (44032 + (Int.tmod (wrap32 (rd l0 x12_1)) 11172)))] : List Int)) (inner := [.int .i32 (wrap32 (44032 + (Int.tmod (wrap32 (rd l0 x12_1)) 11172)))]) (ok := fun _ => True) (okp := fun _ => True) ?hr ?hp (fun _ hk => hk) trivial (Below.refl _ _) (Nat.le_refl _) (by simp) ?_; (case hd => rfl); (case hg => rfl); (case hr => first | (go_simp; done) | (go_simp; rfl)); (case hp => exact (Reps.one (show Kd.M (Kd.int .i32) _ _ _ (wrap32 (44032 + (Int.tmod (wrap32 (rd l0 x12_1)) 11172))) [.int .i32 (wrap32 (44032 + (Int.tmod (wrap32 (rd l0 x12_1)) 11172)))] from rfl) (Reps.none _ _))); intro v539 w50 ho51 hb hg_ hnew_; clear hg_ hnew_; (first | rw [← Ny538.out] at ho51 | (simp only [Int.reduceToNat] at ho51; rw [← Ny538.out] at ho51)); have n0_ := Aside0.mk (Kd.R_elder' (by (with_reducible repeat (first | apply Kd.R_alloc | apply Kd.R_drewN | apply Kd.R_drew)); exact HO_6.out) (Kd.R_base ho51) hb); have n1_ := Aside0.mk (Kd.R_elder' (by (with_reducible repeat (first | apply Kd.R_alloc | apply Kd.R_drewN | apply Kd.R_drew)); exact HO537.out) (Kd.R_base ho51) hb); have n2_ := Aside0.mk (Kd.R_lower (Kd.R_new' (Kd.R_new' ho51 (Kd.R_lt (by (with_reducible repeat (first | apply Kd.R_alloc | apply Kd.R_drewN | apply Kd.R_drew)); exact HO_6.out))) (Kd.R_lt (by (with_reducible repeat (first | apply Kd.R_alloc | apply Kd.R_drewN | apply Kd.R_drew)); exact HO537.out))) (below_size (by repeat (first | (with_reducible first | exact HB.out | apply below_alloc | apply pw_below_drewN | apply below_drew1) | exact HB.out)))); have n3_ := Aside0.mk (below_step (by repeat (first | (with_reducible first | exact HB.out | apply below_alloc | apply pw_below_drewN | apply below_drew1) | exact HB.out)) hb); clear HO_6; clear HO537; clear HB; have HO_6 := n0_; have HO537 := n1_; have HO540 := n2_; have HB := n3_; clear n0_ n1_ n2_ n3_; clear hb ho51; obtain ⟨Ao52, co52, eo52⟩ := Kd.R_slice HO537.out; subst eo52; obtain ⟨Ao53, co53, eo53⟩ := Kd.R_slice HO540.out; subst eo53) | (go_at_call 20; (with_reducible refine (tremaref01_SameRunes.calls kj26 _ _ t535 _ _ y538 false _ ?side1 ?side2 ?side3 ?side4 A40.out).mono ?_); (case side1 => repeat (first | exact (Kd.R_reads' HO537.out).2.2 | (with_reducible refine Kd.C_alloc ?_ _) | (with_reducible refine Kd.C_drewN ?_ _) | (with_reducible refine Kd.C_drew ?_))); (case side2 => exact (Kd.R_reads' HO537.out).2.1); (case side3 => repeat (first | exact (Kd.R_reads' HO540.out).2.2 | (with_reducible refine Kd.C_alloc ?_ _) | (with_reducible refine Kd.C_drewN ?_ _) | (with_reducible refine Kd.C_drew ?_))); (case side4 => exact (Kd.R_reads' HO540.out).2.1); rintro e w' ⟨rfl, ⟨nd, rfl⟩⟩; (try first | exact ⟨rfl, _, World.drewN_drewN _ _ _⟩ | exact ⟨rfl, _, Eq.trans (World.drewN_drewN _ _ _) (congrArg (World.drewN _) (Nat.add_assoc _ _ _))⟩))); try go_wp2_with (first | (go_at_call 23; (with_reducible refine (ucd_Opens.calls (wrap32 (44032 + (Int.tmod (wrap32 (rd l0 x12_1)) 11172))) true _ A34.out (by first | exact HG.out | exact Va.G.below HG.out (by repeat (first | (with_reducible first | exact HB.out | apply below_alloc | apply pw_below_drewN | apply below_drew1) | exact HB.out)))).mono ?_); rintro e w48 ⟨rfl, hb⟩; have n0_ := Aside0.mk (Kd.R_below (by (with_reducible repeat (first | apply Kd.R_alloc | apply Kd.R_drewN | apply Kd.R_drew)); exact HO_6.out) hb); have n1_ := Aside0.mk (below_step (by repeat (first | (with_reducible first | exact HB.out | apply below_alloc | apply pw_below_drewN | apply below_drew1) | exact HB.out)) hb); clear HO_6; clear HB; have HO_6 := n0_; have HB := n1_; clear n0_ n1_; (try clear hb); (try clear hb2); (try clear hk); (try clear hi); have p533 : 0 ≤ (1 : Int) := (by omega); have q533 : 1 < (t520.length : Int) := of_decide_eq_true (by first | (with_reducible assumption) | assumption); obtain ⟨ad533, e533, hx533_0⟩ := Kd.at_int (Kd.R_reads' HO_6.out).2.2 1 p533 q533; obtain rfl : ad527 = ad533 := (by injection e533); (try simp only [show (1 : Int).toNat = 1 from rfl, Nat.reduceMul, Nat.reduceEqDiff, Go.Addr.add, ↓reduceIte] at hx533_0); have qi533 : (1 < t520.length) = True := eq_true (by omega); (try rw [show ((1 : Int)).toNat = 1 from rfl] at hx533_0); replace p533 := eq_true p533; replace q533 := eq_true q533) | (go_at_call 16; (with_reducible refine (ucd_Trailing.calls (rd t520 1) true _ A37.out).mono ?_); rintro e w' ⟨rfl, ⟨nd, rfl⟩⟩; (try first | exact ⟨rfl, _, World.drewN_drewN _ _ _⟩ | exact ⟨rfl, _, Eq.trans (World.drewN_drewN _ _ _) (congrArg (World.drewN _) (Nat.add_assoc _ _ _))⟩)) | (go_at_call 25; (with_reducible refine (ucd_Fold.calls kj26 (wrap32 (44032 + (Int.tmod (wrap32 (rd l0 x12_1)) 11172))) t535 _ A39.out).mono ?_); rintro e w49 ⟨v536, rfl, ho0, hb⟩; have n0_ := Aside0.mk (Kd.R_elder' (by (with_reducible repeat (first | apply Kd.R_alloc | apply Kd.R_drewN | apply Kd.R_drew)); exact HO_6.out) (Kd.R_base ho0) hb); have n1_ := Aside0.mk (Kd.R_lower (Kd.R_new' ho0 (Kd.R_lt (by (with_reducible repeat (first | apply Kd.R_alloc | apply Kd.R_drewN | apply Kd.R_drew)); exact HO_6.out))) (below_size (by repeat (first | (with_reducible first | exact HB.out | apply below_alloc | apply pw_below_drewN | apply below_drew1) | exact HB.out)))); have n2_ := Aside0.mk (below_step (by repeat (first | (with_reducible first | exact HB.out | apply below_alloc | apply pw_below_drewN | apply below_drew1) | exact HB.out)) hb); clear HO_6; clear HB; have HO_6 := n0_; have HO537 := n1_; have HB := n2_; clear n0_ n1_ n2_; (try clear hb); (try clear hb2); (try clear hk); (try clear hi); (try clear ho0)) | ((with_reducible refine gate_dst (N := 104) rfl ?_); (try (refine gate_guard (by rfl) ?_; dsimp only)); refine Kd.R_lit (Kd.int .i32) _ 21 ?hg (N := 104) ?hd (xs := ([(wrap32 (44032 + (Int.tmod (wrap32 (rd l0 x12_1)) 11172)))] : List Int)) (inner := [.int .i32 (wrap32 (44032 + (Int.tmod (wrap32 (rd l0 x12_1)) 11172)))]) (ok := fun _ => True) (okp := fun _ => True) ?hr ?hp (fun _ hk => hk) trivial (Below.refl _ _) (Nat.le_refl _) (by simp) ?_; (case hd => rfl); (case hg => rfl); (case hr => first | (go_simp; done) | (go_simp; rfl)); (case hp => exact (Reps.one (show Kd.M (Kd.int .i32) _ _ _ (wrap32 (44032 + (Int.tmod (wrap32 (rd l0 x12_1)) 11172))) [.int .i32 (wrap32 (44032 + (Int.tmod (wrap32 (rd l0 x12_1)) 11172)))] from rfl) (Reps.none _ _))); intro v539 w50 ho51 hb hg_ hnew_; clear hg_ hnew_; (first | rw [← Ny538.out] at ho51 | (simp only [Int.reduceToNat] at ho51; rw [← Ny538.out] at ho51)); have n0_ := Aside0.mk (Kd.R_elder' (by (with_reducible repeat (first | apply Kd.R_alloc | apply Kd.R_drewN | apply Kd.R_drew)); exact HO_6.out) (Kd.R_base ho51) hb); have n1_ := Aside0.mk (Kd.R_elder' (by (with_reducible repeat (first | apply Kd.R_alloc | apply Kd.R_drewN | apply Kd.R_drew)); exact HO537.out) (Kd.R_base ho51) hb); have n2_ := Aside0.mk (Kd.R_lower (Kd.R_new' (Kd.R_new' ho51 (Kd.R_lt (by (with_reducible repeat (first | apply Kd.R_alloc | apply Kd.R_drewN | apply Kd.R_drew)); exact HO_6.out))) (Kd.R_lt (by (with_reducible repeat (first | apply Kd.R_alloc | apply Kd.R_drewN | apply Kd.R_drew)); exact HO537.out))) (below_size (by repeat (first | (with_reducible first | exact HB.out | apply below_alloc | apply pw_below_drewN | apply below_drew1) | exact HB.out)))); have n3_ := Aside0.mk (below_step (by repeat (first | (with_reducible first | exact HB.out | apply below_alloc | apply pw_below_drewN | apply below_drew1) | exact HB.out)) hb); clear HO_6; clear HO537; clear HB; have HO_6 := n0_; have HO537 := n1_; have HO540 := n2_; have HB := n3_; clear n0_ n1_ n2_ n3_; clear hb ho51; obtain ⟨Ao52, co52, eo52⟩ := Kd.R_slice HO537.out; subst eo52; obtain ⟨Ao53, co53, eo53⟩ := Kd.R_slice HO540.out; subst eo53) | (go_at_call 20; (with_reducible refine (tremaref01_SameRunes.calls kj26 _ _ t535 _ _ y538 false _ ?side1 ?side2 ?side3 ?side4 A40.out).mono ?_); (case side1 => repeat (first | exact (Kd.R_reads' HO537.out).2.2 | (with_reducible refine Kd.C_alloc ?_ _) | (with_reducible refine Kd.C_drewN ?_ _) | (with_reducible refine Kd.C_drew ?_))); (case side2 => exact (Kd.R_reads' HO537.out).2.1); (case side3 => repeat (first | exact (Kd.R_reads' HO540.out).2.2 | (with_reducible refine Kd.C_alloc ?_ _) | (with_reducible refine Kd.C_drewN ?_ _) | (with_reducible refine Kd.C_drew ?_))); (case side4 => exact (Kd.R_reads' HO540.out).2.1); rintro e w' ⟨rfl, ⟨nd, rfl⟩⟩; (try first | exact ⟨rfl, _, World.drewN_drewN _ _ _⟩ | exact ⟨rfl, _, Eq.trans (World.drewN_drewN _ _ _) (congrArg (World.drewN _) (Nat.add_assoc _ _ _))⟩))))
                   go_ret
                   exact ⟨by first | rfl | (simp [errW_none, errW_some] <;> rfl) | (simp [*, errW_none, errW_some] <;> rfl), by repeat (first | (with_reducible first | exact HB.out | apply below_alloc | apply pw_below_drewN | apply below_drew1) | exact HB.out)⟩
                 ·replace c38 := Bool.eq_false_iff.mpr c38
                  subst c38
                  have H1 : (some false) = some r := by rw [if_neg (show ¬ (false = true) by decide)] at H; exact H
                  clear H
                  have H := H1
                  clear H1
                  obtain rfl := Option.some.inj H
                  go_wp2_with (first | (go_at_call 23; (with_reducible refine (ucd_Opens.calls (wrap32 (44032 + (Int.tmod (wrap32 (rd l0 x12_1)) 11172))) true _ A34.out (by first | exact HG.out | exact Va.G.below HG.out (by repeat (first | (with_reducible first | exact HB.out | apply below_alloc | apply pw_below_drewN | apply below_drew1) | exact HB.out)))).mono ?_); rintro e w54 ⟨rfl, hb⟩; have n0_ := Aside0.mk (Kd.R_below (by (with_reducible repeat (first | apply Kd.R_alloc | apply Kd.R_drewN | apply Kd.R_drew)); exact HO_6.out) hb); have n1_ := Aside0.mk (below_step (by repeat (first | (with_reducible first | exact HB.out | apply below_alloc | apply pw_below_drewN | apply below_drew1) | exact HB.out)) hb); clear HO_6; clear HB; have HO_6 := n0_; have HB := n1_; clear n0_ n1_; (try clear hb); (try clear hb2); (try clear hk); (try clear hi); have p533 : 0 ≤ (1 : Int) := (by omega); have q533 : 1 < (t520.length : Int) := of_decide_eq_true (by first | (with_reducible assumption) | assumption); obtain ⟨ad533, e533, hx533_0⟩ := Kd.at_int (Kd.R_reads' HO_6.out).2.2 1 p533 q533; obtain rfl : ad527 = ad533 := (by injection e533); (try simp only [show (1 : Int).toNat = 1 from rfl, Nat.reduceMul, Nat.reduceEqDiff, Go.Addr.add, ↓reduceIte] at hx533_0); have qi533 : (1 < t520.length) = True := eq_true (by omega); (try rw [show ((1 : Int)).toNat = 1 from rfl] at hx533_0); replace p533 := eq_true p533; replace q533 := eq_true q533) | (go_at_call 16; (with_reducible refine (ucd_Trailing.calls (rd t520 1) false _ A37.out).mono ?_); rintro e w' ⟨rfl, ⟨nd, rfl⟩⟩; (try first | exact ⟨rfl, _, World.drewN_drewN _ _ _⟩ | exact ⟨rfl, _, Eq.trans (World.drewN_drewN _ _ _) (congrArg (World.drewN _) (Nat.add_assoc _ _ _))⟩)))
                  repeat (go_quiet (first | (go_at_call 23; (with_reducible refine (ucd_Opens.calls (wrap32 (44032 + (Int.tmod (wrap32 (rd l0 x12_1)) 11172))) true _ A34.out (by first | exact HG.out | exact Va.G.below HG.out (by repeat (first | (with_reducible first | exact HB.out | apply below_alloc | apply pw_below_drewN | apply below_drew1) | exact HB.out)))).mono ?_); rintro e w54 ⟨rfl, hb⟩; have n0_ := Aside0.mk (Kd.R_below (by (with_reducible repeat (first | apply Kd.R_alloc | apply Kd.R_drewN | apply Kd.R_drew)); exact HO_6.out) hb); have n1_ := Aside0.mk (below_step (by repeat (first | (with_reducible first | exact HB.out | apply below_alloc | apply pw_below_drewN | apply below_drew1) | exact HB.out)) hb); clear HO_6; clear HB; have HO_6 := n0_; have HB := n1_; clear n0_ n1_; (try clear hb); (try clear hb2); (try clear hk); (try clear hi); have p533 : 0 ≤ (1 : Int) := (by omega); have q533 : 1 < (t520.length : Int) := of_decide_eq_true (by first | (with_reducible assumption) | assumption); obtain ⟨ad533, e533, hx533_0⟩ := Kd.at_int (Kd.R_reads' HO_6.out).2.2 1 p533 q533; obtain rfl : ad527 = ad533 := (by injection e533); (try simp only [show (1 : Int).toNat = 1 from rfl, Nat.reduceMul, Nat.reduceEqDiff, Go.Addr.add, ↓reduceIte] at hx533_0); have qi533 : (1 < t520.length) = True := eq_true (by omega); (try rw [show ((1 : Int)).toNat = 1 from rfl] at hx533_0); replace p533 := eq_true p533; replace q533 := eq_true q533) | (go_at_call 16; (with_reducible refine (ucd_Trailing.calls (rd t520 1) false _ A37.out).mono ?_); rintro e w' ⟨rfl, ⟨nd, rfl⟩⟩; (try first | exact ⟨rfl, _, World.drewN_drewN _ _ _⟩ | exact ⟨rfl, _, Eq.trans (World.drewN_drewN _ _ _) (congrArg (World.drewN _) (Nat.add_assoc _ _ _))⟩))); try go_wp2_with (first | (go_at_call 23; (with_reducible refine (ucd_Opens.calls (wrap32 (44032 + (Int.tmod (wrap32 (rd l0 x12_1)) 11172))) true _ A34.out (by first | exact HG.out | exact Va.G.below HG.out (by repeat (first | (with_reducible first | exact HB.out | apply below_alloc | apply pw_below_drewN | apply below_drew1) | exact HB.out)))).mono ?_); rintro e w54 ⟨rfl, hb⟩; have n0_ := Aside0.mk (Kd.R_below (by (with_reducible repeat (first | apply Kd.R_alloc | apply Kd.R_drewN | apply Kd.R_drew)); exact HO_6.out) hb); have n1_ := Aside0.mk (below_step (by repeat (first | (with_reducible first | exact HB.out | apply below_alloc | apply pw_below_drewN | apply below_drew1) | exact HB.out)) hb); clear HO_6; clear HB; have HO_6 := n0_; have HB := n1_; clear n0_ n1_; (try clear hb); (try clear hb2); (try clear hk); (try clear hi); have p533 : 0 ≤ (1 : Int) := (by omega); have q533 : 1 < (t520.length : Int) := of_decide_eq_true (by first | (with_reducible assumption) | assumption); obtain ⟨ad533, e533, hx533_0⟩ := Kd.at_int (Kd.R_reads' HO_6.out).2.2 1 p533 q533; obtain rfl : ad527 = ad533 := (by injection e533); (try simp only [show (1 : Int).toNat = 1 from rfl, Nat.reduceMul, Nat.reduceEqDiff, Go.Addr.add, ↓reduceIte] at hx533_0); have qi533 : (1 < t520.length) = True := eq_true (by omega); (try rw [show ((1 : Int)).toNat = 1 from rfl] at hx533_0); replace p533 := eq_true p533; replace q533 := eq_true q533) | (go_at_call 16; (with_reducible refine (ucd_Trailing.calls (rd t520 1) false _ A37.out).mono ?_); rintro e w' ⟨rfl, ⟨nd, rfl⟩⟩; (try first | exact ⟨rfl, _, World.drewN_drewN _ _ _⟩ | exact ⟨rfl, _, Eq.trans (World.drewN_drewN _ _ _) (congrArg (World.drewN _) (Nat.add_assoc _ _ _))⟩))))
                  go_ret
                  exact ⟨by first | rfl | (simp [errW_none, errW_some] <;> rfl) | (simp [*, errW_none, errW_some] <;> rfl), by repeat (first | (with_reducible first | exact HB.out | apply below_alloc | apply pw_below_drewN | apply below_drew1) | exact HB.out)⟩
                ·rw [if_neg c36] at H
                 exact absurd H (by simp)
               ·replace c35 := Bool.eq_false_iff.mpr c35
                subst c35
                have H1 : (some false) = some r := by rw [if_neg (show ¬ (false = true) by decide)] at H; exact H
                clear H
                have H := H1
                clear H1
                obtain rfl := Option.some.inj H
                go_wp2_with (first | (go_at_call 23; (with_reducible refine (ucd_Opens.calls (wrap32 (44032 + (Int.tmod (wrap32 (rd l0 x12_1)) 11172))) false _ A34.out (by first | exact HG.out | exact Va.G.below HG.out (by repeat (first | (with_reducible first | exact HB.out | apply below_alloc | apply pw_below_drewN | apply below_drew1) | exact HB.out)))).mono ?_); rintro e w55 ⟨rfl, hb⟩; have n0_ := Aside0.mk (Kd.R_below (by (with_reducible repeat (first | apply Kd.R_alloc | apply Kd.R_drewN | apply Kd.R_drew)); exact HO_6.out) hb); have n1_ := Aside0.mk (below_step (by repeat (first | (with_reducible first | exact HB.out | apply below_alloc | apply pw_below_drewN | apply below_drew1) | exact HB.out)) hb); clear HO_6; clear HB; have HO_6 := n0_; have HB := n1_; clear n0_ n1_; (try clear hb); (try clear hb2); (try clear hk); (try clear hi)))
                repeat (go_quiet (first | (go_at_call 23; (with_reducible refine (ucd_Opens.calls (wrap32 (44032 + (Int.tmod (wrap32 (rd l0 x12_1)) 11172))) false _ A34.out (by first | exact HG.out | exact Va.G.below HG.out (by repeat (first | (with_reducible first | exact HB.out | apply below_alloc | apply pw_below_drewN | apply below_drew1) | exact HB.out)))).mono ?_); rintro e w55 ⟨rfl, hb⟩; have n0_ := Aside0.mk (Kd.R_below (by (with_reducible repeat (first | apply Kd.R_alloc | apply Kd.R_drewN | apply Kd.R_drew)); exact HO_6.out) hb); have n1_ := Aside0.mk (below_step (by repeat (first | (with_reducible first | exact HB.out | apply below_alloc | apply pw_below_drewN | apply below_drew1) | exact HB.out)) hb); clear HO_6; clear HB; have HO_6 := n0_; have HB := n1_; clear n0_ n1_; (try clear hb); (try clear hb2); (try clear hk); (try clear hi))); try go_wp2_with (first | (go_at_call 23; (with_reducible refine (ucd_Opens.calls (wrap32 (44032 + (Int.tmod (wrap32 (rd l0 x12_1)) 11172))) false _ A34.out (by first | exact HG.out | exact Va.G.below HG.out (by repeat (first | (with_reducible first | exact HB.out | apply below_alloc | apply pw_below_drewN | apply below_drew1) | exact HB.out)))).mono ?_); rintro e w55 ⟨rfl, hb⟩; have n0_ := Aside0.mk (Kd.R_below (by (with_reducible repeat (first | apply Kd.R_alloc | apply Kd.R_drewN | apply Kd.R_drew)); exact HO_6.out) hb); have n1_ := Aside0.mk (below_step (by repeat (first | (with_reducible first | exact HB.out | apply below_alloc | apply pw_below_drewN | apply below_drew1) | exact HB.out)) hb); clear HO_6; clear HB; have HO_6 := n0_; have HB := n1_; clear n0_ n1_; (try clear hb); (try clear hb2); (try clear hk); (try clear hi))))
                go_ret
                exact ⟨by first | rfl | (simp [errW_none, errW_some] <;> rfl) | (simp [*, errW_none, errW_some] <;> rfl), by repeat (first | (with_reducible first | exact HB.out | apply below_alloc | apply pw_below_drewN | apply below_drew1) | exact HB.out)⟩
              ·rw [if_neg c33] at H
               have c33b0 : (x7_26 == (wrap32 (44032 + (Int.tmod (wrap32 (rd l0 x12_1)) 11172)))) = false := beq_eq_false_iff_ne.mpr c33
               have c33b1 : (x7_26 != (wrap32 (44032 + (Int.tmod (wrap32 (rd l0 x12_1)) 11172)))) = true := bne_iff_ne.mpr c33
               obtain rfl := Option.some.inj H
               go_wp2
               repeat (go_quiet (fail); try go_wp2)
               go_ret
               exact ⟨by first | rfl | (simp [errW_none, errW_some] <;> rfl) | (simp [*, errW_none, errW_some] <;> rfl), by repeat (first | (with_reducible first | exact HB.out | apply below_alloc | apply pw_below_drewN | apply below_drew1) | exact HB.out)⟩
           ·rw [if_neg c26] at H
            exact absurd H (by simp)
          ·rw [if_neg c25] at H
           exact absurd H (by simp)
      ·rw [if_neg c7] at H
       exact absurd H (by simp)
     ·rw [if_neg c6] at H
      exact absurd H (by simp)
    ·rw [if_neg c5] at H
     have c5b0 : decide (x12_1 < (l0.length : Int)) = false := decide_eq_false c5
     clear c5
     obtain rfl := Option.some.inj H
     go_wp2
     repeat (go_quiet (fail); try go_wp2)
     go_ret
     exact ⟨by first | rfl | (simp [errW_none, errW_some] <;> rfl) | (simp [*, errW_none, errW_some] <;> rfl), by repeat (first | (with_reducible first | exact HB.out | apply below_alloc | apply pw_below_drewN | apply below_drew1) | exact HB.out)⟩
 ·replace c3 := Bool.eq_false_iff.mpr c3
  subst c3
  have H1 : (some false) = some r := by rw [if_neg (show ¬ (false = true) by decide)] at H; exact H
  clear H
  have H := H1
  clear H1
  obtain rfl := Option.some.inj H
  go_enter Tryd.func9, Tryd.ntmps9
  go_wp2_with (first | (go_at_call 11; (with_reducible refine (tremalaw02_fixed.calls k  false _ A2.out (by first | exact HG.out | exact Va.G.below HG.out (by repeat (first | (with_reducible first | exact HB.out | apply below_alloc | apply pw_below_drewN | apply below_drew1) | exact HB.out)))).mono ?_); rintro e w56 ⟨rfl, hb⟩; have n0_ := Aside0.mk (below_step (by repeat (first | (with_reducible first | exact HB.out | apply below_alloc | apply pw_below_drewN | apply below_drew1) | exact HB.out)) hb); clear HB; have HB := n0_; clear n0_; (try clear hb); (try clear hb2); (try clear hk); (try clear hi)))
  repeat (go_quiet (first | (go_at_call 11; (with_reducible refine (tremalaw02_fixed.calls k  false _ A2.out (by first | exact HG.out | exact Va.G.below HG.out (by repeat (first | (with_reducible first | exact HB.out | apply below_alloc | apply pw_below_drewN | apply below_drew1) | exact HB.out)))).mono ?_); rintro e w56 ⟨rfl, hb⟩; have n0_ := Aside0.mk (below_step (by repeat (first | (with_reducible first | exact HB.out | apply below_alloc | apply pw_below_drewN | apply below_drew1) | exact HB.out)) hb); clear HB; have HB := n0_; clear n0_; (try clear hb); (try clear hb2); (try clear hk); (try clear hi))); try go_wp2_with (first | (go_at_call 11; (with_reducible refine (tremalaw02_fixed.calls k  false _ A2.out (by first | exact HG.out | exact Va.G.below HG.out (by repeat (first | (with_reducible first | exact HB.out | apply below_alloc | apply pw_below_drewN | apply below_drew1) | exact HB.out)))).mono ?_); rintro e w56 ⟨rfl, hb⟩; have n0_ := Aside0.mk (below_step (by repeat (first | (with_reducible first | exact HB.out | apply below_alloc | apply pw_below_drewN | apply below_drew1) | exact HB.out)) hb); clear HB; have HB := n0_; clear n0_; (try clear hb); (try clear hb2); (try clear hk); (try clear hi))))
  go_ret
  exact ⟨by first | rfl | (simp [errW_none, errW_some] <;> rfl) | (simp [*, errW_none, errW_some] <;> rfl), by repeat (first | (with_reducible first | exact HB.out | apply below_alloc | apply pw_below_drewN | apply below_drew1) | exact HB.out)⟩

end Go.Proofs.YtfiihlgigeijcaaDoor.X
