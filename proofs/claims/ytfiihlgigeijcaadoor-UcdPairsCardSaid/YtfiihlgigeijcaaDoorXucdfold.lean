-- Written by a program of this session (xprint.py), over the kit's print.
import Derived.Test.YtfiihlgigeijcaaDoorX0
namespace Go.Proofs.YtfiihlgigeijcaaDoor.X
open Go.RowKit Go.Proofs.YtfiihlgigeijcaaDoorW.PrintWords Go.Proofs.YtfiihlgigeijcaaDoorW.PrintLast Go.Proofs.YtfiihlgigeijcaaDoorW.PrintMore
attribute [local go_sem] max2_int min2_int max_two min_two max_three min_three max_four min_four   -- for this text's walks alone
set_option linter.unusedVariables false
set_option linter.unusedSimpArgs false

/-! ### ucd_fold: function 41 -/
mutual
def ucd_fold.j8 : Nat → Int → Option (Int)
 | 0, _ => none
 | k + 1, x0 => if x0 = 181 then (some 956) else (if x0 = 376 then (some 255) else (if x0 = 383 then (some 115) else (if x0 = 837 then (some 953) else (if x0 = 902 then (some 940) else (if x0 = 962 then (some 963) else (if x0 = 8486 then (some 969) else (if x0 = 8490 then (some 107) else (if x0 = 8491 then (some 229) else (some x0)))))))))
def ucd_fold.j0 : Nat → Int → Bool → Option (Int)
 | 0, _, _ => none
 | k + 1, x0, x3 => if x3 = true then (ucd_fold.j2 k x0 x3) else (if x0 ≥ 192 then (if x0 ≤ 222 then (ucd_fold.j1 k x0 (x0 != 215)) else (ucd_fold.j1 k x0 false)) else (ucd_fold.j1 k x0 false))
def ucd_fold.j2 : Nat → Int → Bool → Option (Int)
 | 0, _, _ => none
 | k + 1, x0, x3 => if x3 = true then (some (wrap32 (x0 + 32))) else (if x0 ≥ 1024 then (ucd_fold.j3 k x0 (decide (x0 ≤ 1039))) else (ucd_fold.j3 k x0 false))
def ucd_fold.j3 : Nat → Int → Bool → Option (Int)
 | 0, _, _ => none
 | k + 1, x0, x38 => if x38 = true then (some (wrap32 (x0 + 80))) else (if x0 ≥ 256 then (ucd_fold.j4 k x0 (decide (x0 ≤ 302))) else (ucd_fold.j4 k x0 false))
def ucd_fold.j4 : Nat → Int → Bool → Option (Int)
 | 0, _, _ => none
 | k + 1, x0, x47 => if x47 = true then (ucd_fold.j6 k x0 x47) else (if x0 ≥ 306 then (ucd_fold.j5 k x0 (decide (x0 ≤ 310))) else (ucd_fold.j5 k x0 false))
def ucd_fold.j6 : Nat → Int → Bool → Option (Int)
 | 0, _, _ => none
 | k + 1, x0, x47 => if x47 = true then (some (Go.bits .or .i32 x0 1)) else (if x0 ≥ 313 then (ucd_fold.j7 k x0 (decide (x0 ≤ 327))) else (ucd_fold.j7 k x0 false))
def ucd_fold.j7 : Nat → Int → Bool → Option (Int)
 | 0, _, _ => none
 | k + 1, x0, x74 => if x74 = true then (some (wrap32 (x0 + (Go.bits .and .i32 x0 1)))) else (if x0 ≥ 377 then (if x0 ≤ 381 then (some (wrap32 (x0 + (Go.bits .and .i32 x0 1)))) else (ucd_fold.j8 k x0)) else (ucd_fold.j8 k x0))
def ucd_fold.j5 : Nat → Int → Bool → Option (Int)
 | 0, _, _ => none
 | k + 1, x0, x47 => if x47 = true then (ucd_fold.j6 k x0 x47) else (if x0 ≥ 330 then (if x0 ≤ 374 then (ucd_fold.j6 k x0 (decide (x0 ≤ 374))) else (if x0 ≥ 7680 then (ucd_fold.j6 k x0 (decide (x0 ≤ 7828))) else (ucd_fold.j6 k x0 false))) else (if x0 ≥ 7680 then (ucd_fold.j6 k x0 (decide (x0 ≤ 7828))) else (ucd_fold.j6 k x0 false)))
def ucd_fold.j1 : Nat → Int → Bool → Option (Int)
 | 0, _, _ => none
 | k + 1, x0, x3 => if x3 = true then (ucd_fold.j2 k x0 x3) else (if x0 ≥ 913 then (if x0 ≤ 937 then (if x0 = 930 then (if x0 ≥ 1040 then (ucd_fold.j2 k x0 (decide (x0 ≤ 1071))) else (ucd_fold.j2 k x0 false)) else (ucd_fold.j2 k x0 (x0 != 930))) else (if x0 ≥ 1040 then (ucd_fold.j2 k x0 (decide (x0 ≤ 1071))) else (ucd_fold.j2 k x0 false))) else (if x0 ≥ 1040 then (ucd_fold.j2 k x0 (decide (x0 ≤ 1071))) else (ucd_fold.j2 k x0 false)))
end
def ucd_fold.f (k : Nat) (a0 : Int) : Option (Int) := if a0 ≥ 65 then (ucd_fold.j0 k a0 (decide (a0 ≤ 90))) else (ucd_fold.j0 k a0 false)
theorem ucd_fold.mono_l : ∀ k, (∀ y0, LeO (ucd_fold.j8 k y0) (ucd_fold.j8 (k + 1) y0)) ∧ (∀ y0 y1, LeO (ucd_fold.j0 k y0 y1) (ucd_fold.j0 (k + 1) y0 y1)) ∧ (∀ y0 y1, LeO (ucd_fold.j2 k y0 y1) (ucd_fold.j2 (k + 1) y0 y1)) ∧ (∀ y0 y1, LeO (ucd_fold.j3 k y0 y1) (ucd_fold.j3 (k + 1) y0 y1)) ∧ (∀ y0 y1, LeO (ucd_fold.j4 k y0 y1) (ucd_fold.j4 (k + 1) y0 y1)) ∧ (∀ y0 y1, LeO (ucd_fold.j6 k y0 y1) (ucd_fold.j6 (k + 1) y0 y1)) ∧ (∀ y0 y1, LeO (ucd_fold.j7 k y0 y1) (ucd_fold.j7 (k + 1) y0 y1)) ∧ (∀ y0 y1, LeO (ucd_fold.j5 k y0 y1) (ucd_fold.j5 (k + 1) y0 y1)) ∧ (∀ y0 y1, LeO (ucd_fold.j1 k y0 y1) (ucd_fold.j1 (k + 1) y0 y1))
 | 0 => ⟨fun _ r h => by simp [ucd_fold.j8] at h, fun _ _ r h => by simp [ucd_fold.j0] at h, fun _ _ r h => by simp [ucd_fold.j2] at h, fun _ _ r h => by simp [ucd_fold.j3] at h, fun _ _ r h => by simp [ucd_fold.j4] at h, fun _ _ r h => by simp [ucd_fold.j6] at h, fun _ _ r h => by simp [ucd_fold.j7] at h, fun _ _ r h => by simp [ucd_fold.j5] at h, fun _ _ r h => by simp [ucd_fold.j1] at h⟩
 | k + 1 => by
  obtain ⟨ih0, ih1, ih2, ih3, ih4, ih5, ih6, ih7, ih8⟩ := ucd_fold.mono_l k
  refine ⟨?_, ?_, ?_, ?_, ?_, ?_, ?_, ?_, ?_⟩
  ·intro y0
   unfold ucd_fold.j8
   repeat' first
   | (with_reducible exact ih0 _)
   | (with_reducible exact ih1 _ _)
   | (with_reducible exact ih2 _ _)
   | (with_reducible exact ih3 _ _)
   | (with_reducible exact ih4 _ _)
   | (with_reducible exact ih5 _ _)
   | (with_reducible exact ih6 _ _)
   | (with_reducible exact ih7 _ _)
   | (with_reducible exact ih8 _ _)
   | (with_reducible exact LeO.refl _)
   | (with_reducible exact LeO.none _)
   | (with_reducible refine LeO.ite ?_ ?_)
   | (with_reducible refine LeO.bind ?_ (fun _ => ?_))
   | exact ih0 _
   | exact ih1 _ _
   | exact ih2 _ _
   | exact ih3 _ _
   | exact ih4 _ _
   | exact ih5 _ _
   | exact ih6 _ _
   | exact ih7 _ _
   | exact ih8 _ _
   | exact LeO.none _
   | refine LeO.ite ?_ ?_
   | refine LeO.bind ?_ (fun _ => ?_)
  ·intro y0 y1
   unfold ucd_fold.j0
   repeat' first
   | (with_reducible exact ih0 _)
   | (with_reducible exact ih1 _ _)
   | (with_reducible exact ih2 _ _)
   | (with_reducible exact ih3 _ _)
   | (with_reducible exact ih4 _ _)
   | (with_reducible exact ih5 _ _)
   | (with_reducible exact ih6 _ _)
   | (with_reducible exact ih7 _ _)
   | (with_reducible exact ih8 _ _)
   | (with_reducible exact LeO.refl _)
   | (with_reducible exact LeO.none _)
   | (with_reducible refine LeO.ite ?_ ?_)
   | (with_reducible refine LeO.bind ?_ (fun _ => ?_))
   | exact ih0 _
   | exact ih1 _ _
   | exact ih2 _ _
   | exact ih3 _ _
   | exact ih4 _ _
   | exact ih5 _ _
   | exact ih6 _ _
   | exact ih7 _ _
   | exact ih8 _ _
   | exact LeO.none _
   | refine LeO.ite ?_ ?_
   | refine LeO.bind ?_ (fun _ => ?_)
  ·intro y0 y1
   unfold ucd_fold.j2
   repeat' first
   | (with_reducible exact ih0 _)
   | (with_reducible exact ih1 _ _)
   | (with_reducible exact ih2 _ _)
   | (with_reducible exact ih3 _ _)
   | (with_reducible exact ih4 _ _)
   | (with_reducible exact ih5 _ _)
   | (with_reducible exact ih6 _ _)
   | (with_reducible exact ih7 _ _)
   | (with_reducible exact ih8 _ _)
   | (with_reducible exact LeO.refl _)
   | (with_reducible exact LeO.none _)
   | (with_reducible refine LeO.ite ?_ ?_)
   | (with_reducible refine LeO.bind ?_ (fun _ => ?_))
   | exact ih0 _
   | exact ih1 _ _
   | exact ih2 _ _
   | exact ih3 _ _
   | exact ih4 _ _
   | exact ih5 _ _
   | exact ih6 _ _
   | exact ih7 _ _
   | exact ih8 _ _
   | exact LeO.none _
   | refine LeO.ite ?_ ?_
   | refine LeO.bind ?_ (fun _ => ?_)
  ·intro y0 y1
   unfold ucd_fold.j3
   repeat' first
   | (with_reducible exact ih0 _)
   | (with_reducible exact ih1 _ _)
   | (with_reducible exact ih2 _ _)
   | (with_reducible exact ih3 _ _)
   | (with_reducible exact ih4 _ _)
   | (with_reducible exact ih5 _ _)
   | (with_reducible exact ih6 _ _)
   | (with_reducible exact ih7 _ _)
   | (with_reducible exact ih8 _ _)
   | (with_reducible exact LeO.refl _)
   | (with_reducible exact LeO.none _)
   | (with_reducible refine LeO.ite ?_ ?_)
   | (with_reducible refine LeO.bind ?_ (fun _ => ?_))
   | exact ih0 _
   | exact ih1 _ _
   | exact ih2 _ _
   | exact ih3 _ _
   | exact ih4 _ _
   | exact ih5 _ _
   | exact ih6 _ _
   | exact ih7 _ _
   | exact ih8 _ _
   | exact LeO.none _
   | refine LeO.ite ?_ ?_
   | refine LeO.bind ?_ (fun _ => ?_)
  ·intro y0 y1
   unfold ucd_fold.j4
   repeat' first
   | (with_reducible exact ih0 _)
   | (with_reducible exact ih1 _ _)
   | (with_reducible exact ih2 _ _)
   | (with_reducible exact ih3 _ _)
   | (with_reducible exact ih4 _ _)
   | (with_reducible exact ih5 _ _)
   | (with_reducible exact ih6 _ _)
   | (with_reducible exact ih7 _ _)
   | (with_reducible exact ih8 _ _)
   | (with_reducible exact LeO.refl _)
   | (with_reducible exact LeO.none _)
   | (with_reducible refine LeO.ite ?_ ?_)
   | (with_reducible refine LeO.bind ?_ (fun _ => ?_))
   | exact ih0 _
   | exact ih1 _ _
   | exact ih2 _ _
   | exact ih3 _ _
   | exact ih4 _ _
   | exact ih5 _ _
   | exact ih6 _ _
   | exact ih7 _ _
   | exact ih8 _ _
   | exact LeO.none _
   | refine LeO.ite ?_ ?_
   | refine LeO.bind ?_ (fun _ => ?_)
  ·intro y0 y1
   unfold ucd_fold.j6
   repeat' first
   | (with_reducible exact ih0 _)
   | (with_reducible exact ih1 _ _)
   | (with_reducible exact ih2 _ _)
   | (with_reducible exact ih3 _ _)
   | (with_reducible exact ih4 _ _)
   | (with_reducible exact ih5 _ _)
   | (with_reducible exact ih6 _ _)
   | (with_reducible exact ih7 _ _)
   | (with_reducible exact ih8 _ _)
   | (with_reducible exact LeO.refl _)
   | (with_reducible exact LeO.none _)
   | (with_reducible refine LeO.ite ?_ ?_)
   | (with_reducible refine LeO.bind ?_ (fun _ => ?_))
   | exact ih0 _
   | exact ih1 _ _
   | exact ih2 _ _
   | exact ih3 _ _
   | exact ih4 _ _
   | exact ih5 _ _
   | exact ih6 _ _
   | exact ih7 _ _
   | exact ih8 _ _
   | exact LeO.none _
   | refine LeO.ite ?_ ?_
   | refine LeO.bind ?_ (fun _ => ?_)
  ·intro y0 y1
   unfold ucd_fold.j7
   repeat' first
   | (with_reducible exact ih0 _)
   | (with_reducible exact ih1 _ _)
   | (with_reducible exact ih2 _ _)
   | (with_reducible exact ih3 _ _)
   | (with_reducible exact ih4 _ _)
   | (with_reducible exact ih5 _ _)
   | (with_reducible exact ih6 _ _)
   | (with_reducible exact ih7 _ _)
   | (with_reducible exact ih8 _ _)
   | (with_reducible exact LeO.refl _)
   | (with_reducible exact LeO.none _)
   | (with_reducible refine LeO.ite ?_ ?_)
   | (with_reducible refine LeO.bind ?_ (fun _ => ?_))
   | exact ih0 _
   | exact ih1 _ _
   | exact ih2 _ _
   | exact ih3 _ _
   | exact ih4 _ _
   | exact ih5 _ _
   | exact ih6 _ _
   | exact ih7 _ _
   | exact ih8 _ _
   | exact LeO.none _
   | refine LeO.ite ?_ ?_
   | refine LeO.bind ?_ (fun _ => ?_)
  ·intro y0 y1
   unfold ucd_fold.j5
   repeat' first
   | (with_reducible exact ih0 _)
   | (with_reducible exact ih1 _ _)
   | (with_reducible exact ih2 _ _)
   | (with_reducible exact ih3 _ _)
   | (with_reducible exact ih4 _ _)
   | (with_reducible exact ih5 _ _)
   | (with_reducible exact ih6 _ _)
   | (with_reducible exact ih7 _ _)
   | (with_reducible exact ih8 _ _)
   | (with_reducible exact LeO.refl _)
   | (with_reducible exact LeO.none _)
   | (with_reducible refine LeO.ite ?_ ?_)
   | (with_reducible refine LeO.bind ?_ (fun _ => ?_))
   | exact ih0 _
   | exact ih1 _ _
   | exact ih2 _ _
   | exact ih3 _ _
   | exact ih4 _ _
   | exact ih5 _ _
   | exact ih6 _ _
   | exact ih7 _ _
   | exact ih8 _ _
   | exact LeO.none _
   | refine LeO.ite ?_ ?_
   | refine LeO.bind ?_ (fun _ => ?_)
  ·intro y0 y1
   unfold ucd_fold.j1
   repeat' first
   | (with_reducible exact ih0 _)
   | (with_reducible exact ih1 _ _)
   | (with_reducible exact ih2 _ _)
   | (with_reducible exact ih3 _ _)
   | (with_reducible exact ih4 _ _)
   | (with_reducible exact ih5 _ _)
   | (with_reducible exact ih6 _ _)
   | (with_reducible exact ih7 _ _)
   | (with_reducible exact ih8 _ _)
   | (with_reducible exact LeO.refl _)
   | (with_reducible exact LeO.none _)
   | (with_reducible refine LeO.ite ?_ ?_)
   | (with_reducible refine LeO.bind ?_ (fun _ => ?_))
   | exact ih0 _
   | exact ih1 _ _
   | exact ih2 _ _
   | exact ih3 _ _
   | exact ih4 _ _
   | exact ih5 _ _
   | exact ih6 _ _
   | exact ih7 _ _
   | exact ih8 _ _
   | exact LeO.none _
   | refine LeO.ite ?_ ?_
   | refine LeO.bind ?_ (fun _ => ?_)
theorem ucd_fold.mono : ∀ a0 k, LeO (ucd_fold.f k a0) (ucd_fold.f (k + 1) a0) := by
 intro a0 k
 obtain ⟨ih0, ih1, ih2, ih3, ih4, ih5, ih6, ih7, ih8⟩ := ucd_fold.mono_l k
 unfold ucd_fold.f
 repeat' first
   | (with_reducible exact ih0 _)
   | (with_reducible exact ih1 _ _)
   | (with_reducible exact ih2 _ _)
   | (with_reducible exact ih3 _ _)
   | (with_reducible exact ih4 _ _)
   | (with_reducible exact ih5 _ _)
   | (with_reducible exact ih6 _ _)
   | (with_reducible exact ih7 _ _)
   | (with_reducible exact ih8 _ _)
   | (with_reducible exact LeO.refl _)
   | (with_reducible exact LeO.none _)
   | (with_reducible refine LeO.ite ?_ ?_)
   | (with_reducible refine LeO.bind ?_ (fun _ => ?_))
   | exact ih0 _
   | exact ih1 _ _
   | exact ih2 _ _
   | exact ih3 _ _
   | exact ih4 _ _
   | exact ih5 _ _
   | exact ih6 _ _
   | exact ih7 _ _
   | exact ih8 _ _
   | exact LeO.none _
   | refine LeO.ite ?_ ?_
   | refine LeO.bind ?_ (fun _ => ?_)
set_option maxHeartbeats 8000000 in
set_option maxRecDepth 100000 in
theorem ucd_fold.calls (k : Nat) (a0 : Int) (r : Int) (w : World) (h : ucd_fold.f k a0 = some r) :
  Calls Tryd.prog 41 #[.int .i32 a0] w fun e w' => e = .returned (.int .i32 r) ∧ Drawn0 w w' := by
 have H : (if a0 ≥ 65 then (ucd_fold.j0 k a0 (decide (a0 ≤ 90))) else (ucd_fold.j0 k a0 false)) = some r := h
 clear h
 have HC2 := Aside0.mk H
 clear H
 go_enter Tryd.func41, Tryd.ntmps41
 go_upto_block 0 with (fail)
 go_cut [] (fun wc => ∃ (kq : Nat), Aside0 (ucd_fold.j8 kq a0 = some r) ∧ Aside0 (kq ≤ k) ∧ Drawn0 w wc)
 case first =>
  have H := HC2.out
  clear HC2
  have HC3 := Aside0.mk H
  clear H
  go_upto_region 1 with (fail)
  go_cut [3] (fun v3 wc => ∃ (kq : Nat) (x3_2 : Bool), v3 = .bool x3_2 ∧ Aside0 (ucd_fold.j0 kq a0 x3_2 = some r) ∧ Aside0 (kq ≤ k) ∧ Drawn0 w wc)
  case first =>
   have H := HC3.out
   clear HC3
   by_cases c4 : a0 ≥ 65
   ·rw [if_pos c4] at H
    have c4b0 : decide (65 ≤ a0) = true := decide_eq_true c4
    clear c4
    (first | rw [c4b0] | (simp only [i64_w, i32_w]; rw [c4b0]) | skip)
    have H' := Aside0.mk H
    clear H
    go_wp2
    go_meet
    case rel => exact ⟨_, (decide (a0 ≤ 90)), (by first | rfl | (simp; done) | (simp [*]; done)), H', ⟨by first | omega | exact Nat.le_refl _⟩, by repeat (first | exact Drawn0.refl _ | apply Drawn0.step)⟩
   ·rw [if_neg c4] at H
    have c4b0 : decide (65 ≤ a0) = false := decide_eq_false c4
    clear c4
    (first | rw [c4b0] | (simp only [i64_w, i32_w]; rw [c4b0]) | skip)
    have H' := Aside0.mk H
    clear H
    go_wp2
    go_meet
    case rel => exact ⟨_, (false), (by first | rfl | (simp; done) | (simp [*]; done)), H', ⟨by first | omega | exact Nat.le_refl _⟩, by repeat (first | exact Drawn0.refl _ | apply Drawn0.step)⟩
  case rest =>
   clear HC3
   try clear p2
   try clear c4
   try clear c4b0
   obtain ⟨kq, x3_2, rfl, HA, HJ2, ⟨mc2, rfl⟩⟩ := hcut
   cases kq with
   | zero => exact absurd HA.out (by simp [ucd_fold.j0])
   | succ kj2 =>
    have H := HA.out
    clear HA
    simp only [ucd_fold.j0] at H
    have HC5 := Aside0.mk H
    clear H
    go_upto_if 3 with (fail)
    go_cut [3] (fun v3 wc => ∃ (kq : Nat) (x3_4 : Bool), v3 = .bool x3_4 ∧ Aside0 (ucd_fold.j2 kq a0 x3_4 = some r) ∧ Aside0 (kq ≤ kj2) ∧ Drawn0 w wc)
    case first =>
     have H := HC5.out
     clear HC5
     by_cases c6 : x3_2 = true
     ·subst c6
      have H1 : (ucd_fold.j2 kj2 a0 true) = some r := by rw [if_pos rfl] at H; exact H
      clear H
      have H := H1
      clear H1
      have H' := Aside0.mk H
      clear H
      go_wp2
      go_meet
      case rel => exact ⟨_, (true), (by first | rfl | (simp; done) | (simp [*]; done)), H', ⟨by have := HJ2.out; first | omega | exact Nat.le_refl _⟩, by repeat (first | exact Drawn0.refl _ | apply Drawn0.step)⟩
     ·replace c6 := Bool.eq_false_iff.mpr c6
      subst c6
      have H1 : (if a0 ≥ 192 then (if a0 ≤ 222 then (ucd_fold.j1 kj2 a0 (a0 != 215)) else (ucd_fold.j1 kj2 a0 false)) else (ucd_fold.j1 kj2 a0 false)) = some r := by rw [if_neg (show ¬ (false = true) by decide)] at H; exact H
      clear H
      have H := H1
      clear H1
      have HC7 := Aside0.mk H
      clear H
      go_upto_region 2 with (fail)
      go_cut [3] (fun v3 wc => ∃ (kq : Nat) (x3_6 : Bool), v3 = .bool x3_6 ∧ Aside0 (ucd_fold.j1 kq a0 x3_6 = some r) ∧ Aside0 (kq ≤ kj2) ∧ Drawn0 w wc)
      case first =>
       have H := HC7.out
       clear HC7
       by_cases c8 : a0 ≥ 192
       ·rw [if_pos c8] at H
        have c8b0 : decide (192 ≤ a0) = true := decide_eq_true c8
        clear c8
        (first | rw [c8b0] | (simp only [i64_w, i32_w]; rw [c8b0]) | skip)
        by_cases c9 : a0 ≤ 222
        ·rw [if_pos c9] at H
         have c9b0 : decide (a0 ≤ 222) = true := decide_eq_true c9
         clear c9
         have H' := Aside0.mk H
         clear H
         go_wp2
         go_meet
         case rel => exact ⟨_, ((a0 != 215)), (by first | rfl | (simp; done) | (simp [*]; done)), H', ⟨by have := HJ2.out; first | omega | exact Nat.le_refl _⟩, by repeat (first | exact Drawn0.refl _ | apply Drawn0.step)⟩
        ·rw [if_neg c9] at H
         have c9b0 : decide (a0 ≤ 222) = false := decide_eq_false c9
         clear c9
         have H' := Aside0.mk H
         clear H
         go_wp2
         go_meet
         case rel => exact ⟨_, (false), (by first | rfl | (simp; done) | (simp [*]; done)), H', ⟨by have := HJ2.out; first | omega | exact Nat.le_refl _⟩, by repeat (first | exact Drawn0.refl _ | apply Drawn0.step)⟩
       ·rw [if_neg c8] at H
        have c8b0 : decide (192 ≤ a0) = false := decide_eq_false c8
        clear c8
        (first | rw [c8b0] | (simp only [i64_w, i32_w]; rw [c8b0]) | skip)
        have H' := Aside0.mk H
        clear H
        go_wp2
        go_meet
        case rel => exact ⟨_, (false), (by first | rfl | (simp; done) | (simp [*]; done)), H', ⟨by have := HJ2.out; first | omega | exact Nat.le_refl _⟩, by repeat (first | exact Drawn0.refl _ | apply Drawn0.step)⟩
      case rest =>
       clear HC7
       try clear c2
       try clear p2
       try clear c4
       try clear c4b0
       try clear c6
       try clear c8
       try clear c8b0
       try clear c9
       try clear c9b0
       try clear p2
       obtain ⟨kq, x3_6, rfl, HA, HJ6, ⟨mc6, rfl⟩⟩ := hcut
       cases kq with
       | zero => exact absurd HA.out (by simp [ucd_fold.j1])
       | succ kj6 =>
        have H := HA.out
        clear HA
        simp only [ucd_fold.j1] at H
        by_cases c10 : x3_6 = true
        ·subst c10
         have H1 : (ucd_fold.j2 kj6 a0 true) = some r := by rw [if_pos rfl] at H; exact H
         clear H
         have H := H1
         clear H1
         have H' := Aside0.mk H
         clear H
         go_wp2
         go_meet
         case rel => exact ⟨_, (true), (by first | rfl | (simp; done) | (simp [*]; done)), H', ⟨by have := HJ2.out; have := HJ6.out; first | omega | exact Nat.le_refl _⟩, by repeat (first | exact Drawn0.refl _ | apply Drawn0.step)⟩
        ·replace c10 := Bool.eq_false_iff.mpr c10
         subst c10
         have H1 : (if a0 ≥ 913 then (if a0 ≤ 937 then (if a0 = 930 then (if a0 ≥ 1040 then (ucd_fold.j2 kj6 a0 (decide (a0 ≤ 1071))) else (ucd_fold.j2 kj6 a0 false)) else (ucd_fold.j2 kj6 a0 (a0 != 930))) else (if a0 ≥ 1040 then (ucd_fold.j2 kj6 a0 (decide (a0 ≤ 1071))) else (ucd_fold.j2 kj6 a0 false))) else (if a0 ≥ 1040 then (ucd_fold.j2 kj6 a0 (decide (a0 ≤ 1071))) else (ucd_fold.j2 kj6 a0 false))) = some r := by rw [if_neg (show ¬ (false = true) by decide)] at H; exact H
         clear H
         have H := H1
         clear H1
         by_cases c11 : a0 ≥ 913
         ·rw [if_pos c11] at H
          have c11b0 : decide (913 ≤ a0) = true := decide_eq_true c11
          clear c11
          by_cases c12 : a0 ≤ 937
          ·rw [if_pos c12] at H
           have c12b0 : decide (a0 ≤ 937) = true := decide_eq_true c12
           clear c12
           by_cases c13 : a0 = 930
           ·rw [if_pos c13] at H
            have c13b0 : (a0 == 930) = true := beq_iff_eq.mpr c13
            have c13b1 : (a0 != 930) = false := bne_eq_false_iff_eq.mpr c13
            clear c13
            by_cases c14 : a0 ≥ 1040
            ·rw [if_pos c14] at H
             have c14b0 : decide (1040 ≤ a0) = true := decide_eq_true c14
             clear c14
             have H' := Aside0.mk H
             clear H
             go_wp2
             go_meet
             case rel => exact ⟨_, (decide (a0 ≤ 1071)), (by first | rfl | (simp; done) | (simp [*]; done)), H', ⟨by have := HJ2.out; have := HJ6.out; first | omega | exact Nat.le_refl _⟩, by repeat (first | exact Drawn0.refl _ | apply Drawn0.step)⟩
            ·rw [if_neg c14] at H
             have c14b0 : decide (1040 ≤ a0) = false := decide_eq_false c14
             clear c14
             have H' := Aside0.mk H
             clear H
             go_wp2
             go_meet
             case rel => exact ⟨_, (false), (by first | rfl | (simp; done) | (simp [*]; done)), H', ⟨by have := HJ2.out; have := HJ6.out; first | omega | exact Nat.le_refl _⟩, by repeat (first | exact Drawn0.refl _ | apply Drawn0.step)⟩
           ·rw [if_neg c13] at H
            have c13b0 : (a0 == 930) = false := beq_eq_false_iff_ne.mpr c13
            have c13b1 : (a0 != 930) = true := bne_iff_ne.mpr c13
            have H' := Aside0.mk H
            clear H
            go_wp2
            go_meet
            case rel => exact ⟨_, ((a0 != 930)), (by first | rfl | (simp; done) | (simp [*]; done)), H', ⟨by have := HJ2.out; have := HJ6.out; first | omega | exact Nat.le_refl _⟩, by repeat (first | exact Drawn0.refl _ | apply Drawn0.step)⟩
          ·rw [if_neg c12] at H
           have c12b0 : decide (a0 ≤ 937) = false := decide_eq_false c12
           clear c12
           by_cases c15 : a0 ≥ 1040
           ·rw [if_pos c15] at H
            have c15b0 : decide (1040 ≤ a0) = true := decide_eq_true c15
            clear c15
            have H' := Aside0.mk H
            clear H
            go_wp2
            go_meet
            case rel => exact ⟨_, (decide (a0 ≤ 1071)), (by first | rfl | (simp; done) | (simp [*]; done)), H', ⟨by have := HJ2.out; have := HJ6.out; first | omega | exact Nat.le_refl _⟩, by repeat (first | exact Drawn0.refl _ | apply Drawn0.step)⟩
           ·rw [if_neg c15] at H
            have c15b0 : decide (1040 ≤ a0) = false := decide_eq_false c15
            clear c15
            have H' := Aside0.mk H
            clear H
            go_wp2
            go_meet
            case rel => exact ⟨_, (false), (by first | rfl | (simp; done) | (simp [*]; done)), H', ⟨by have := HJ2.out; have := HJ6.out; first | omega | exact Nat.le_refl _⟩, by repeat (first | exact Drawn0.refl _ | apply Drawn0.step)⟩
         ·rw [if_neg c11] at H
          have c11b0 : decide (913 ≤ a0) = false := decide_eq_false c11
          clear c11
          by_cases c16 : a0 ≥ 1040
          ·rw [if_pos c16] at H
           have c16b0 : decide (1040 ≤ a0) = true := decide_eq_true c16
           clear c16
           have H' := Aside0.mk H
           clear H
           go_wp2
           go_meet
           case rel => exact ⟨_, (decide (a0 ≤ 1071)), (by first | rfl | (simp; done) | (simp [*]; done)), H', ⟨by have := HJ2.out; have := HJ6.out; first | omega | exact Nat.le_refl _⟩, by repeat (first | exact Drawn0.refl _ | apply Drawn0.step)⟩
          ·rw [if_neg c16] at H
           have c16b0 : decide (1040 ≤ a0) = false := decide_eq_false c16
           clear c16
           have H' := Aside0.mk H
           clear H
           go_wp2
           go_meet
           case rel => exact ⟨_, (false), (by first | rfl | (simp; done) | (simp [*]; done)), H', ⟨by have := HJ2.out; have := HJ6.out; first | omega | exact Nat.le_refl _⟩, by repeat (first | exact Drawn0.refl _ | apply Drawn0.step)⟩
    case rest =>
     clear HC5
     try clear c1
     try clear c2
     try clear p2
     try clear c4
     try clear c4b0
     try clear c6
     try clear c8
     try clear c8b0
     try clear c9
     try clear c9b0
     try clear c10
     try clear c11
     try clear c11b0
     try clear c12
     try clear c12b0
     try clear c13
     try clear c13b0
     try clear c13b1
     try clear c14
     try clear c14b0
     try clear c15
     try clear c15b0
     try clear c16
     try clear c16b0
     try clear p2
     obtain ⟨kq, x3_4, rfl, HA, HJ4, ⟨mc4, rfl⟩⟩ := hcut
     cases kq with
     | zero => exact absurd HA.out (by simp [ucd_fold.j2])
     | succ kj4 =>
      have H := HA.out
      clear HA
      simp only [ucd_fold.j2] at H
      by_cases c17 : x3_4 = true
      ·subst c17
       have H1 : (some (wrap32 (a0 + 32))) = some r := by rw [if_pos rfl] at H; exact H
       clear H
       have H := H1
       clear H1
       obtain rfl := Option.some.inj H
       go_wp2
       go_ret
       exact ⟨by first | rfl | (simp; done) | (simp [*]; done), by repeat (first | exact Drawn0.refl _ | apply Drawn0.step)⟩
      ·replace c17 := Bool.eq_false_iff.mpr c17
       subst c17
       have H1 : (if a0 ≥ 1024 then (ucd_fold.j3 kj4 a0 (decide (a0 ≤ 1039))) else (ucd_fold.j3 kj4 a0 false)) = some r := by rw [if_neg (show ¬ (false = true) by decide)] at H; exact H
       clear H
       have H := H1
       clear H1
       have HC18 := Aside0.mk H
       clear H
       go_upto_region 6 with (fail)
       go_cut [38] (fun v38 wc => ∃ (kq : Nat) (x38_17 : Bool), v38 = .bool x38_17 ∧ Aside0 (ucd_fold.j3 kq a0 x38_17 = some r) ∧ Aside0 (kq ≤ kj4) ∧ Drawn0 w wc)
       case first =>
        have H := HC18.out
        clear HC18
        by_cases c19 : a0 ≥ 1024
        ·rw [if_pos c19] at H
         have c19b0 : decide (1024 ≤ a0) = true := decide_eq_true c19
         clear c19
         (first | rw [c19b0] | (simp only [i64_w, i32_w]; rw [c19b0]) | skip)
         have H' := Aside0.mk H
         clear H
         go_wp2
         go_meet
         case rel => exact ⟨_, (decide (a0 ≤ 1039)), (by first | rfl | (simp; done) | (simp [*]; done)), H', ⟨by have := HJ2.out; have := HJ4.out; first | omega | exact Nat.le_refl _⟩, by repeat (first | exact Drawn0.refl _ | apply Drawn0.step)⟩
        ·rw [if_neg c19] at H
         have c19b0 : decide (1024 ≤ a0) = false := decide_eq_false c19
         clear c19
         (first | rw [c19b0] | (simp only [i64_w, i32_w]; rw [c19b0]) | skip)
         have H' := Aside0.mk H
         clear H
         go_wp2
         go_meet
         case rel => exact ⟨_, (false), (by first | rfl | (simp; done) | (simp [*]; done)), H', ⟨by have := HJ2.out; have := HJ4.out; first | omega | exact Nat.le_refl _⟩, by repeat (first | exact Drawn0.refl _ | apply Drawn0.step)⟩
       case rest =>
        clear HC18
        try clear c1
        try clear c2
        try clear p2
        try clear p3
        try clear c4
        try clear c4b0
        try clear c6
        try clear c8
        try clear c8b0
        try clear c9
        try clear c9b0
        try clear c10
        try clear c11
        try clear c11b0
        try clear c12
        try clear c12b0
        try clear c13
        try clear c13b0
        try clear c13b1
        try clear c14
        try clear c14b0
        try clear c15
        try clear c15b0
        try clear c16
        try clear c16b0
        try clear c17
        try clear c19
        try clear c19b0
        try clear p2
        obtain ⟨kq, x38_17, rfl, HA, HJ17, ⟨mc17, rfl⟩⟩ := hcut
        cases kq with
        | zero => exact absurd HA.out (by simp [ucd_fold.j3])
        | succ kj17 =>
         have H := HA.out
         clear HA
         simp only [ucd_fold.j3] at H
         by_cases c20 : x38_17 = true
         ·subst c20
          have H1 : (some (wrap32 (a0 + 80))) = some r := by rw [if_pos rfl] at H; exact H
          clear H
          have H := H1
          clear H1
          obtain rfl := Option.some.inj H
          go_wp2
          go_ret
          exact ⟨by first | rfl | (simp; done) | (simp [*]; done), by repeat (first | exact Drawn0.refl _ | apply Drawn0.step)⟩
         ·replace c20 := Bool.eq_false_iff.mpr c20
          subst c20
          have H1 : (if a0 ≥ 256 then (ucd_fold.j4 kj17 a0 (decide (a0 ≤ 302))) else (ucd_fold.j4 kj17 a0 false)) = some r := by rw [if_neg (show ¬ (false = true) by decide)] at H; exact H
          clear H
          have H := H1
          clear H1
          have HC21 := Aside0.mk H
          clear H
          go_upto_region 8 with (fail)
          go_cut [47] (fun v47 wc => ∃ (kq : Nat) (x47_20 : Bool), v47 = .bool x47_20 ∧ Aside0 (ucd_fold.j4 kq a0 x47_20 = some r) ∧ Aside0 (kq ≤ kj17) ∧ Drawn0 w wc)
          case first =>
           have H := HC21.out
           clear HC21
           by_cases c22 : a0 ≥ 256
           ·rw [if_pos c22] at H
            have c22b0 : decide (256 ≤ a0) = true := decide_eq_true c22
            clear c22
            (first | rw [c22b0] | (simp only [i64_w, i32_w]; rw [c22b0]) | skip)
            have H' := Aside0.mk H
            clear H
            go_wp2
            go_meet
            case rel => exact ⟨_, (decide (a0 ≤ 302)), (by first | rfl | (simp; done) | (simp [*]; done)), H', ⟨by have := HJ2.out; have := HJ4.out; have := HJ17.out; first | omega | exact Nat.le_refl _⟩, by repeat (first | exact Drawn0.refl _ | apply Drawn0.step)⟩
           ·rw [if_neg c22] at H
            have c22b0 : decide (256 ≤ a0) = false := decide_eq_false c22
            clear c22
            (first | rw [c22b0] | (simp only [i64_w, i32_w]; rw [c22b0]) | skip)
            have H' := Aside0.mk H
            clear H
            go_wp2
            go_meet
            case rel => exact ⟨_, (false), (by first | rfl | (simp; done) | (simp [*]; done)), H', ⟨by have := HJ2.out; have := HJ4.out; have := HJ17.out; first | omega | exact Nat.le_refl _⟩, by repeat (first | exact Drawn0.refl _ | apply Drawn0.step)⟩
          case rest =>
           clear HC21
           try clear c1
           try clear c2
           try clear p2
           try clear p3
           try clear c4
           try clear c4b0
           try clear c6
           try clear c8
           try clear c8b0
           try clear c9
           try clear c9b0
           try clear c10
           try clear c11
           try clear c11b0
           try clear c12
           try clear c12b0
           try clear c13
           try clear c13b0
           try clear c13b1
           try clear c14
           try clear c14b0
           try clear c15
           try clear c15b0
           try clear c16
           try clear c16b0
           try clear c17
           try clear c19
           try clear c19b0
           try clear c20
           try clear c22
           try clear c22b0
           try clear p2
           try clear p3
           obtain ⟨kq, x47_20, rfl, HA, HJ20, ⟨mc20, rfl⟩⟩ := hcut
           cases kq with
           | zero => exact absurd HA.out (by simp [ucd_fold.j4])
           | succ kj20 =>
            have H := HA.out
            clear HA
            simp only [ucd_fold.j4] at H
            have HC23 := Aside0.mk H
            clear H
            go_upto_if 47 with (fail)
            go_cut [47] (fun v47 wc => ∃ (kq : Nat) (x47_22 : Bool), v47 = .bool x47_22 ∧ Aside0 (ucd_fold.j6 kq a0 x47_22 = some r) ∧ Aside0 (kq ≤ kj20) ∧ Drawn0 w wc)
            case first =>
             have H := HC23.out
             clear HC23
             by_cases c24 : x47_20 = true
             ·subst c24
              have H1 : (ucd_fold.j6 kj20 a0 true) = some r := by rw [if_pos rfl] at H; exact H
              clear H
              have H := H1
              clear H1
              have H' := Aside0.mk H
              clear H
              go_wp2
              go_meet
              case rel => exact ⟨_, (true), (by first | rfl | (simp; done) | (simp [*]; done)), H', ⟨by have := HJ2.out; have := HJ4.out; have := HJ17.out; have := HJ20.out; first | omega | exact Nat.le_refl _⟩, by repeat (first | exact Drawn0.refl _ | apply Drawn0.step)⟩
             ·replace c24 := Bool.eq_false_iff.mpr c24
              subst c24
              have H1 : (if a0 ≥ 306 then (ucd_fold.j5 kj20 a0 (decide (a0 ≤ 310))) else (ucd_fold.j5 kj20 a0 false)) = some r := by rw [if_neg (show ¬ (false = true) by decide)] at H; exact H
              clear H
              have H := H1
              clear H1
              have HC25 := Aside0.mk H
              clear H
              go_upto_region 9 with (fail)
              go_cut [47] (fun v47 wc => ∃ (kq : Nat) (x47_24 : Bool), v47 = .bool x47_24 ∧ Aside0 (ucd_fold.j5 kq a0 x47_24 = some r) ∧ Aside0 (kq ≤ kj20) ∧ Drawn0 w wc)
              case first =>
               have H := HC25.out
               clear HC25
               by_cases c26 : a0 ≥ 306
               ·rw [if_pos c26] at H
                have c26b0 : decide (306 ≤ a0) = true := decide_eq_true c26
                clear c26
                (first | rw [c26b0] | (simp only [i64_w, i32_w]; rw [c26b0]) | skip)
                have H' := Aside0.mk H
                clear H
                go_wp2
                go_meet
                case rel => exact ⟨_, (decide (a0 ≤ 310)), (by first | rfl | (simp; done) | (simp [*]; done)), H', ⟨by have := HJ2.out; have := HJ4.out; have := HJ17.out; have := HJ20.out; first | omega | exact Nat.le_refl _⟩, by repeat (first | exact Drawn0.refl _ | apply Drawn0.step)⟩
               ·rw [if_neg c26] at H
                have c26b0 : decide (306 ≤ a0) = false := decide_eq_false c26
                clear c26
                (first | rw [c26b0] | (simp only [i64_w, i32_w]; rw [c26b0]) | skip)
                have H' := Aside0.mk H
                clear H
                go_wp2
                go_meet
                case rel => exact ⟨_, (false), (by first | rfl | (simp; done) | (simp [*]; done)), H', ⟨by have := HJ2.out; have := HJ4.out; have := HJ17.out; have := HJ20.out; first | omega | exact Nat.le_refl _⟩, by repeat (first | exact Drawn0.refl _ | apply Drawn0.step)⟩
              case rest =>
               clear HC25
               try clear c1
               try clear c2
               try clear p2
               try clear p3
               try clear c4
               try clear c4b0
               try clear c6
               try clear c8
               try clear c8b0
               try clear c9
               try clear c9b0
               try clear c10
               try clear c11
               try clear c11b0
               try clear c12
               try clear c12b0
               try clear c13
               try clear c13b0
               try clear c13b1
               try clear c14
               try clear c14b0
               try clear c15
               try clear c15b0
               try clear c16
               try clear c16b0
               try clear c17
               try clear c19
               try clear c19b0
               try clear c20
               try clear c22
               try clear c22b0
               try clear c24
               try clear c26
               try clear c26b0
               try clear p2
               try clear p3
               obtain ⟨kq, x47_24, rfl, HA, HJ24, ⟨mc24, rfl⟩⟩ := hcut
               cases kq with
               | zero => exact absurd HA.out (by simp [ucd_fold.j5])
               | succ kj24 =>
                have H := HA.out
                clear HA
                simp only [ucd_fold.j5] at H
                by_cases c27 : x47_24 = true
                ·subst c27
                 have H1 : (ucd_fold.j6 kj24 a0 true) = some r := by rw [if_pos rfl] at H; exact H
                 clear H
                 have H := H1
                 clear H1
                 have H' := Aside0.mk H
                 clear H
                 go_wp2
                 go_meet
                 case rel => exact ⟨_, (true), (by first | rfl | (simp; done) | (simp [*]; done)), H', ⟨by have := HJ2.out; have := HJ4.out; have := HJ17.out; have := HJ20.out; have := HJ24.out; first | omega | exact Nat.le_refl _⟩, by repeat (first | exact Drawn0.refl _ | apply Drawn0.step)⟩
                ·replace c27 := Bool.eq_false_iff.mpr c27
                 subst c27
                 have H1 : (if a0 ≥ 330 then (if a0 ≤ 374 then (ucd_fold.j6 kj24 a0 (decide (a0 ≤ 374))) else (if a0 ≥ 7680 then (ucd_fold.j6 kj24 a0 (decide (a0 ≤ 7828))) else (ucd_fold.j6 kj24 a0 false))) else (if a0 ≥ 7680 then (ucd_fold.j6 kj24 a0 (decide (a0 ≤ 7828))) else (ucd_fold.j6 kj24 a0 false))) = some r := by rw [if_neg (show ¬ (false = true) by decide)] at H; exact H
                 clear H
                 have H := H1
                 clear H1
                 by_cases c28 : a0 ≥ 330
                 ·rw [if_pos c28] at H
                  have c28b0 : decide (330 ≤ a0) = true := decide_eq_true c28
                  clear c28
                  by_cases c29 : a0 ≤ 374
                  ·rw [if_pos c29] at H
                   have c29b0 : decide (a0 ≤ 374) = true := decide_eq_true c29
                   clear c29
                   have H' := Aside0.mk H
                   clear H
                   go_wp2
                   go_meet
                   case rel => exact ⟨_, (decide (a0 ≤ 374)), (by first | rfl | (simp; done) | (simp [*]; done)), H', ⟨by have := HJ2.out; have := HJ4.out; have := HJ17.out; have := HJ20.out; have := HJ24.out; first | omega | exact Nat.le_refl _⟩, by repeat (first | exact Drawn0.refl _ | apply Drawn0.step)⟩
                  ·rw [if_neg c29] at H
                   have c29b0 : decide (a0 ≤ 374) = false := decide_eq_false c29
                   clear c29
                   by_cases c30 : a0 ≥ 7680
                   ·rw [if_pos c30] at H
                    have c30b0 : decide (7680 ≤ a0) = true := decide_eq_true c30
                    clear c30
                    have H' := Aside0.mk H
                    clear H
                    go_wp2
                    go_meet
                    case rel => exact ⟨_, (decide (a0 ≤ 7828)), (by first | rfl | (simp; done) | (simp [*]; done)), H', ⟨by have := HJ2.out; have := HJ4.out; have := HJ17.out; have := HJ20.out; have := HJ24.out; first | omega | exact Nat.le_refl _⟩, by repeat (first | exact Drawn0.refl _ | apply Drawn0.step)⟩
                   ·rw [if_neg c30] at H
                    have c30b0 : decide (7680 ≤ a0) = false := decide_eq_false c30
                    clear c30
                    have H' := Aside0.mk H
                    clear H
                    go_wp2
                    go_meet
                    case rel => exact ⟨_, (false), (by first | rfl | (simp; done) | (simp [*]; done)), H', ⟨by have := HJ2.out; have := HJ4.out; have := HJ17.out; have := HJ20.out; have := HJ24.out; first | omega | exact Nat.le_refl _⟩, by repeat (first | exact Drawn0.refl _ | apply Drawn0.step)⟩
                 ·rw [if_neg c28] at H
                  have c28b0 : decide (330 ≤ a0) = false := decide_eq_false c28
                  clear c28
                  by_cases c31 : a0 ≥ 7680
                  ·rw [if_pos c31] at H
                   have c31b0 : decide (7680 ≤ a0) = true := decide_eq_true c31
                   clear c31
                   have H' := Aside0.mk H
                   clear H
                   go_wp2
                   go_meet
                   case rel => exact ⟨_, (decide (a0 ≤ 7828)), (by first | rfl | (simp; done) | (simp [*]; done)), H', ⟨by have := HJ2.out; have := HJ4.out; have := HJ17.out; have := HJ20.out; have := HJ24.out; first | omega | exact Nat.le_refl _⟩, by repeat (first | exact Drawn0.refl _ | apply Drawn0.step)⟩
                  ·rw [if_neg c31] at H
                   have c31b0 : decide (7680 ≤ a0) = false := decide_eq_false c31
                   clear c31
                   have H' := Aside0.mk H
                   clear H
                   go_wp2
                   go_meet
                   case rel => exact ⟨_, (false), (by first | rfl | (simp; done) | (simp [*]; done)), H', ⟨by have := HJ2.out; have := HJ4.out; have := HJ17.out; have := HJ20.out; have := HJ24.out; first | omega | exact Nat.le_refl _⟩, by repeat (first | exact Drawn0.refl _ | apply Drawn0.step)⟩
            case rest =>
             clear HC23
             try clear c1
             try clear c2
             try clear p2
             try clear c3
             try clear p3
             try clear c4
             try clear c4b0
             try clear c6
             try clear c8
             try clear c8b0
             try clear c9
             try clear c9b0
             try clear c10
             try clear c11
             try clear c11b0
             try clear c12
             try clear c12b0
             try clear c13
             try clear c13b0
             try clear c13b1
             try clear c14
             try clear c14b0
             try clear c15
             try clear c15b0
             try clear c16
             try clear c16b0
             try clear c17
             try clear c19
             try clear c19b0
             try clear c20
             try clear c22
             try clear c22b0
             try clear c24
             try clear c26
             try clear c26b0
             try clear c27
             try clear c28
             try clear c28b0
             try clear c29
             try clear c29b0
             try clear c30
             try clear c30b0
             try clear c31
             try clear c31b0
             try clear p2
             try clear p3
             obtain ⟨kq, x47_22, rfl, HA, HJ22, ⟨mc22, rfl⟩⟩ := hcut
             cases kq with
             | zero => exact absurd HA.out (by simp [ucd_fold.j6])
             | succ kj22 =>
              have H := HA.out
              clear HA
              simp only [ucd_fold.j6] at H
              by_cases c32 : x47_22 = true
              ·subst c32
               have H1 : (some (Go.bits .or .i32 a0 1)) = some r := by rw [if_pos rfl] at H; exact H
               clear H
               have H := H1
               clear H1
               obtain rfl := Option.some.inj H
               go_wp2
               go_ret
               exact ⟨by first | rfl | (simp; done) | (simp [*]; done), by repeat (first | exact Drawn0.refl _ | apply Drawn0.step)⟩
              ·replace c32 := Bool.eq_false_iff.mpr c32
               subst c32
               have H1 : (if a0 ≥ 313 then (ucd_fold.j7 kj22 a0 (decide (a0 ≤ 327))) else (ucd_fold.j7 kj22 a0 false)) = some r := by rw [if_neg (show ¬ (false = true) by decide)] at H; exact H
               clear H
               have H := H1
               clear H1
               have HC33 := Aside0.mk H
               clear H
               go_upto_region 13 with (fail)
               go_cut [74] (fun v74 wc => ∃ (kq : Nat) (x74_32 : Bool), v74 = .bool x74_32 ∧ Aside0 (ucd_fold.j7 kq a0 x74_32 = some r) ∧ Aside0 (kq ≤ kj22) ∧ Drawn0 w wc)
               case first =>
                have H := HC33.out
                clear HC33
                by_cases c34 : a0 ≥ 313
                ·rw [if_pos c34] at H
                 have c34b0 : decide (313 ≤ a0) = true := decide_eq_true c34
                 clear c34
                 (first | rw [c34b0] | (simp only [i64_w, i32_w]; rw [c34b0]) | skip)
                 have H' := Aside0.mk H
                 clear H
                 go_wp2
                 go_meet
                 case rel => exact ⟨_, (decide (a0 ≤ 327)), (by first | rfl | (simp; done) | (simp [*]; done)), H', ⟨by have := HJ2.out; have := HJ4.out; have := HJ17.out; have := HJ20.out; have := HJ22.out; first | omega | exact Nat.le_refl _⟩, by repeat (first | exact Drawn0.refl _ | apply Drawn0.step)⟩
                ·rw [if_neg c34] at H
                 have c34b0 : decide (313 ≤ a0) = false := decide_eq_false c34
                 clear c34
                 (first | rw [c34b0] | (simp only [i64_w, i32_w]; rw [c34b0]) | skip)
                 have H' := Aside0.mk H
                 clear H
                 go_wp2
                 go_meet
                 case rel => exact ⟨_, (false), (by first | rfl | (simp; done) | (simp [*]; done)), H', ⟨by have := HJ2.out; have := HJ4.out; have := HJ17.out; have := HJ20.out; have := HJ22.out; first | omega | exact Nat.le_refl _⟩, by repeat (first | exact Drawn0.refl _ | apply Drawn0.step)⟩
               case rest =>
                clear HC33
                try clear c1
                try clear c2
                try clear p2
                try clear c3
                try clear p3
                try clear c4
                try clear c4b0
                try clear c6
                try clear c8
                try clear c8b0
                try clear c9
                try clear c9b0
                try clear c10
                try clear c11
                try clear c11b0
                try clear c12
                try clear c12b0
                try clear c13
                try clear c13b0
                try clear c13b1
                try clear c14
                try clear c14b0
                try clear c15
                try clear c15b0
                try clear c16
                try clear c16b0
                try clear c17
                try clear c19
                try clear c19b0
                try clear c20
                try clear c22
                try clear c22b0
                try clear c24
                try clear c26
                try clear c26b0
                try clear c27
                try clear c28
                try clear c28b0
                try clear c29
                try clear c29b0
                try clear c30
                try clear c30b0
                try clear c31
                try clear c31b0
                try clear c32
                try clear p32
                try clear c34
                try clear c34b0
                try clear p2
                try clear p3
                obtain ⟨kq, x74_32, rfl, HA, HJ32, ⟨mc32, rfl⟩⟩ := hcut
                cases kq with
                | zero => exact absurd HA.out (by simp [ucd_fold.j7])
                | succ kj32 =>
                 have H := HA.out
                 clear HA
                 simp only [ucd_fold.j7] at H
                 by_cases c35 : x74_32 = true
                 ·subst c35
                  have H1 : (some (wrap32 (a0 + (Go.bits .and .i32 a0 1)))) = some r := by rw [if_pos rfl] at H; exact H
                  clear H
                  have H := H1
                  clear H1
                  obtain rfl := Option.some.inj H
                  go_wp2
                  go_ret
                  exact ⟨by first | rfl | (simp; done) | (simp [*]; done), by repeat (first | exact Drawn0.refl _ | apply Drawn0.step)⟩
                 ·replace c35 := Bool.eq_false_iff.mpr c35
                  subst c35
                  have H1 : (if a0 ≥ 377 then (if a0 ≤ 381 then (some (wrap32 (a0 + (Go.bits .and .i32 a0 1)))) else (ucd_fold.j8 kj32 a0)) else (ucd_fold.j8 kj32 a0)) = some r := by rw [if_neg (show ¬ (false = true) by decide)] at H; exact H
                  clear H
                  have H := H1
                  clear H1
                  by_cases c36 : a0 ≥ 377
                  ·rw [if_pos c36] at H
                   have c36b0 : decide (377 ≤ a0) = true := decide_eq_true c36
                   clear c36
                   by_cases c37 : a0 ≤ 381
                   ·rw [if_pos c37] at H
                    have c37b0 : decide (a0 ≤ 381) = true := decide_eq_true c37
                    clear c37
                    obtain rfl := Option.some.inj H
                    go_wp2
                    go_ret
                    exact ⟨by first | rfl | (simp; done) | (simp [*]; done), by repeat (first | exact Drawn0.refl _ | apply Drawn0.step)⟩
                   ·rw [if_neg c37] at H
                    have c37b0 : decide (a0 ≤ 381) = false := decide_eq_false c37
                    clear c37
                    have H' := Aside0.mk H
                    clear H
                    go_wp2
                    go_meet
                    case rel => exact ⟨_, H', ⟨by have := HJ2.out; have := HJ4.out; have := HJ17.out; have := HJ20.out; have := HJ22.out; have := HJ32.out; first | omega | exact Nat.le_refl _⟩, by repeat (first | exact Drawn0.refl _ | apply Drawn0.step)⟩
                  ·rw [if_neg c36] at H
                   have c36b0 : decide (377 ≤ a0) = false := decide_eq_false c36
                   clear c36
                   have H' := Aside0.mk H
                   clear H
                   go_wp2
                   go_meet
                   case rel => exact ⟨_, H', ⟨by have := HJ2.out; have := HJ4.out; have := HJ17.out; have := HJ20.out; have := HJ22.out; have := HJ32.out; first | omega | exact Nat.le_refl _⟩, by repeat (first | exact Drawn0.refl _ | apply Drawn0.step)⟩
 case rest =>
  clear HC2
  try clear c1
  try clear c2
  try clear p2
  try clear c3
  try clear p3
  try clear c4
  try clear c4b0
  try clear c6
  try clear c8
  try clear c8b0
  try clear c9
  try clear c9b0
  try clear c10
  try clear c11
  try clear c11b0
  try clear c12
  try clear c12b0
  try clear c13
  try clear c13b0
  try clear c13b1
  try clear c14
  try clear c14b0
  try clear c15
  try clear c15b0
  try clear c16
  try clear c16b0
  try clear c17
  try clear c19
  try clear c19b0
  try clear c20
  try clear c22
  try clear c22b0
  try clear c24
  try clear c26
  try clear c26b0
  try clear c27
  try clear c28
  try clear c28b0
  try clear c29
  try clear c29b0
  try clear c30
  try clear c30b0
  try clear c31
  try clear c31b0
  try clear c32
  try clear p32
  try clear c34
  try clear c34b0
  try clear c35
  try clear c36
  try clear c36b0
  try clear c37
  try clear c37b0
  try clear p2
  try clear p3
  try clear p32
  obtain ⟨kq, HA, HJ1, ⟨mc1, rfl⟩⟩ := hcut
  cases kq with
  | zero => exact absurd HA.out (by simp [ucd_fold.j8])
  | succ kj1 =>
   have H := HA.out
   clear HA
   simp only [ucd_fold.j8] at H
   by_cases c38 : a0 = 181
   ·rw [if_pos c38] at H
    have c38b0 : (a0 == 181) = true := beq_iff_eq.mpr c38
    have c38b1 : (a0 != 181) = false := bne_eq_false_iff_eq.mpr c38
    clear c38
    obtain rfl := Option.some.inj H
    go_wp2
    go_ret
    exact ⟨by first | rfl | (simp; done) | (simp [*]; done), by repeat (first | exact Drawn0.refl _ | apply Drawn0.step)⟩
   ·rw [if_neg c38] at H
    have c38b0 : (a0 == 181) = false := beq_eq_false_iff_ne.mpr c38
    have c38b1 : (a0 != 181) = true := bne_iff_ne.mpr c38
    by_cases c39 : a0 = 376
    ·rw [if_pos c39] at H
     have c39b0 : (a0 == 376) = true := beq_iff_eq.mpr c39
     have c39b1 : (a0 != 376) = false := bne_eq_false_iff_eq.mpr c39
     clear c39
     obtain rfl := Option.some.inj H
     go_wp2
     go_ret
     exact ⟨by first | rfl | (simp; done) | (simp [*]; done), by repeat (first | exact Drawn0.refl _ | apply Drawn0.step)⟩
    ·rw [if_neg c39] at H
     have c39b0 : (a0 == 376) = false := beq_eq_false_iff_ne.mpr c39
     have c39b1 : (a0 != 376) = true := bne_iff_ne.mpr c39
     by_cases c40 : a0 = 383
     ·rw [if_pos c40] at H
      have c40b0 : (a0 == 383) = true := beq_iff_eq.mpr c40
      have c40b1 : (a0 != 383) = false := bne_eq_false_iff_eq.mpr c40
      clear c40
      obtain rfl := Option.some.inj H
      go_wp2
      go_ret
      exact ⟨by first | rfl | (simp; done) | (simp [*]; done), by repeat (first | exact Drawn0.refl _ | apply Drawn0.step)⟩
     ·rw [if_neg c40] at H
      have c40b0 : (a0 == 383) = false := beq_eq_false_iff_ne.mpr c40
      have c40b1 : (a0 != 383) = true := bne_iff_ne.mpr c40
      by_cases c41 : a0 = 837
      ·rw [if_pos c41] at H
       have c41b0 : (a0 == 837) = true := beq_iff_eq.mpr c41
       have c41b1 : (a0 != 837) = false := bne_eq_false_iff_eq.mpr c41
       clear c41
       obtain rfl := Option.some.inj H
       go_wp2
       go_ret
       exact ⟨by first | rfl | (simp; done) | (simp [*]; done), by repeat (first | exact Drawn0.refl _ | apply Drawn0.step)⟩
      ·rw [if_neg c41] at H
       have c41b0 : (a0 == 837) = false := beq_eq_false_iff_ne.mpr c41
       have c41b1 : (a0 != 837) = true := bne_iff_ne.mpr c41
       by_cases c42 : a0 = 902
       ·rw [if_pos c42] at H
        have c42b0 : (a0 == 902) = true := beq_iff_eq.mpr c42
        have c42b1 : (a0 != 902) = false := bne_eq_false_iff_eq.mpr c42
        clear c42
        obtain rfl := Option.some.inj H
        go_wp2
        go_ret
        exact ⟨by first | rfl | (simp; done) | (simp [*]; done), by repeat (first | exact Drawn0.refl _ | apply Drawn0.step)⟩
       ·rw [if_neg c42] at H
        have c42b0 : (a0 == 902) = false := beq_eq_false_iff_ne.mpr c42
        have c42b1 : (a0 != 902) = true := bne_iff_ne.mpr c42
        by_cases c43 : a0 = 962
        ·rw [if_pos c43] at H
         have c43b0 : (a0 == 962) = true := beq_iff_eq.mpr c43
         have c43b1 : (a0 != 962) = false := bne_eq_false_iff_eq.mpr c43
         clear c43
         obtain rfl := Option.some.inj H
         go_wp2
         go_ret
         exact ⟨by first | rfl | (simp; done) | (simp [*]; done), by repeat (first | exact Drawn0.refl _ | apply Drawn0.step)⟩
        ·rw [if_neg c43] at H
         have c43b0 : (a0 == 962) = false := beq_eq_false_iff_ne.mpr c43
         have c43b1 : (a0 != 962) = true := bne_iff_ne.mpr c43
         by_cases c44 : a0 = 8486
         ·rw [if_pos c44] at H
          have c44b0 : (a0 == 8486) = true := beq_iff_eq.mpr c44
          have c44b1 : (a0 != 8486) = false := bne_eq_false_iff_eq.mpr c44
          clear c44
          obtain rfl := Option.some.inj H
          go_wp2
          go_ret
          exact ⟨by first | rfl | (simp; done) | (simp [*]; done), by repeat (first | exact Drawn0.refl _ | apply Drawn0.step)⟩
         ·rw [if_neg c44] at H
          have c44b0 : (a0 == 8486) = false := beq_eq_false_iff_ne.mpr c44
          have c44b1 : (a0 != 8486) = true := bne_iff_ne.mpr c44
          by_cases c45 : a0 = 8490
          ·rw [if_pos c45] at H
           have c45b0 : (a0 == 8490) = true := beq_iff_eq.mpr c45
           have c45b1 : (a0 != 8490) = false := bne_eq_false_iff_eq.mpr c45
           clear c45
           obtain rfl := Option.some.inj H
           go_wp2
           go_ret
           exact ⟨by first | rfl | (simp; done) | (simp [*]; done), by repeat (first | exact Drawn0.refl _ | apply Drawn0.step)⟩
          ·rw [if_neg c45] at H
           have c45b0 : (a0 == 8490) = false := beq_eq_false_iff_ne.mpr c45
           have c45b1 : (a0 != 8490) = true := bne_iff_ne.mpr c45
           by_cases c46 : a0 = 8491
           ·rw [if_pos c46] at H
            have c46b0 : (a0 == 8491) = true := beq_iff_eq.mpr c46
            have c46b1 : (a0 != 8491) = false := bne_eq_false_iff_eq.mpr c46
            clear c46
            obtain rfl := Option.some.inj H
            go_wp2
            go_ret
            exact ⟨by first | rfl | (simp; done) | (simp [*]; done), by repeat (first | exact Drawn0.refl _ | apply Drawn0.step)⟩
           ·rw [if_neg c46] at H
            have c46b0 : (a0 == 8491) = false := beq_eq_false_iff_ne.mpr c46
            have c46b1 : (a0 != 8491) = true := bne_iff_ne.mpr c46
            obtain rfl := Option.some.inj H
            go_wp2
            go_ret
            exact ⟨by first | rfl | (simp; done) | (simp [*]; done), by repeat (first | exact Drawn0.refl _ | apply Drawn0.step)⟩

end Go.Proofs.YtfiihlgigeijcaaDoor.X
