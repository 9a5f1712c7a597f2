/-
  Several texts of this claim in one: what its law's proof uses.
-/
import Derived.Test.YthffpkdadffinaaDoorMWT2
import Derived.Test.YthffpkdadffinaaDoorMWT5
import Derived.Test.YthffpkdadffinaaDoorMWT6
import Derived.Test.YthffpkdadffinaaDoorMWT13
import Derived.Test.YthffpkdadffinaaDoorMWT3
import Derived.WalkSpells
namespace Go.Proofs.YthffpkdadffinaaDoor.X
open Go.RowKit YthffpkdadffinaaDoorW.PrintWords YthffpkdadffinaaDoorW.PrintLast YthffpkdadffinaaDoorW.PrintMore
attribute [local go_sem] max2_int min2_int max_two min_two max_three min_three max_four min_four   
set_option linter.unusedVariables false
set_option linter.unusedSimpArgs false
mutual
def ucd_fold.j8 : Nat → Int → Option (Int)
 | 0, _ => none
 | k + 1, x0 => if x0 = 181 then (some 956) else (if x0 = 376 then (some 255) else (if x0 = 383 then (some 115) else (if x0 = 837 then (some 953) else (if x0 = 902 then (some 940) else (if x0 = 962 then (some 963) else (if x0 = 8486 then (some 969) else (if x0 = 8490 then (some 107) else (if x0 = 8491 then (some 229) else (some x0)))))))))
def ucd_fold.j0 : Nat → Int → Bool → Option (Int)
 | 0, _, _ => none
 | k + 1, x0, x3 => if x3 = true then (ucd_fold.j2 k x0 x3) else (if x0 ≥ 192 then (if x0 ≤ 222 then (ucd_fold.j1 k x0 (x0 != 215)) else (ucd_fold.j1 k x0 false)) else (ucd_fold.j1 k x0 false))
def ucd_fold.j2 : Nat → Int → Bool → Option (Int)
 | 0, _, _ => none
 | k + 1, x0, x3 => if x3 = true then (some (wrap32 (x0 + 32))) else (if x0 ≥ 1024 then (ucd_fold.j3 k x0 (decide (x0 ≤ 1039))) else (ucd_fold.j3 k x0 false))
def ucd_fold.j3 : Nat → Int → Bool → Option (Int)
 | 0, _, _ => none
 | k + 1, x0, x38 => if x38 = true then (some (wrap32 (x0 + 80))) else (if x0 ≥ 256 then (ucd_fold.j4 k x0 (decide (x0 ≤ 302))) else (ucd_fold.j4 k x0 false))
def ucd_fold.j4 : Nat → Int → Bool → Option (Int)
 | 0, _, _ => none
 | k + 1, x0, x47 => if x47 = true then (ucd_fold.j6 k x0 x47) else (if x0 ≥ 306 then (ucd_fold.j5 k x0 (decide (x0 ≤ 310))) else (ucd_fold.j5 k x0 false))
def ucd_fold.j6 : Nat → Int → Bool → Option (Int)
 | 0, _, _ => none
 | k + 1, x0, x47 => if x47 = true then (some (Go.bits .or .i32 x0 1)) else (if x0 ≥ 313 then (ucd_fold.j7 k x0 (decide (x0 ≤ 327))) else (ucd_fold.j7 k x0 false))
def ucd_fold.j7 : Nat → Int → Bool → Option (Int)
 | 0, _, _ => none
 | k + 1, x0, x74 => if x74 = true then (some (wrap32 (x0 + (Go.bits .and .i32 x0 1)))) else (if x0 ≥ 377 then (if x0 ≤ 381 then (some (wrap32 (x0 + (Go.bits .and .i32 x0 1)))) else (ucd_fold.j8 k x0)) else (ucd_fold.j8 k x0))
def ucd_fold.j5 : Nat → Int → Bool → Option (Int)
 | 0, _, _ => none
 | k + 1, x0, x47 => if x47 = true then (ucd_fold.j6 k x0 x47) else (if x0 ≥ 330 then (if x0 ≤ 374 then (ucd_fold.j6 k x0 (decide (x0 ≤ 374))) else (if x0 ≥ 7680 then (ucd_fold.j6 k x0 (decide (x0 ≤ 7828))) else (ucd_fold.j6 k x0 false))) else (if x0 ≥ 7680 then (ucd_fold.j6 k x0 (decide (x0 ≤ 7828))) else (ucd_fold.j6 k x0 false)))
def ucd_fold.j1 : Nat → Int → Bool → Option (Int)
 | 0, _, _ => none
 | k + 1, x0, x3 => if x3 = true then (ucd_fold.j2 k x0 x3) else (if x0 ≥ 913 then (if x0 ≤ 937 then (if x0 = 930 then (if x0 ≥ 1040 then (ucd_fold.j2 k x0 (decide (x0 ≤ 1071))) else (ucd_fold.j2 k x0 false)) else (ucd_fold.j2 k x0 (x0 != 930))) else (if x0 ≥ 1040 then (ucd_fold.j2 k x0 (decide (x0 ≤ 1071))) else (ucd_fold.j2 k x0 false))) else (if x0 ≥ 1040 then (ucd_fold.j2 k x0 (decide (x0 ≤ 1071))) else (ucd_fold.j2 k x0 false)))
end
def ucd_fold.f (k : Nat) (a0 : Int) : Option (Int) := if a0 ≥ 65 then (ucd_fold.j0 k a0 (decide (a0 ≤ 90))) else (ucd_fold.j0 k a0 false)
theorem ucd_fold.mono_l : ∀ k, (∀ y0, LeO (ucd_fold.j8 k y0) (ucd_fold.j8 (k + 1) y0)) ∧ (∀ y0 y1, LeO (ucd_fold.j0 k y0 y1) (ucd_fold.j0 (k + 1) y0 y1)) ∧ (∀ y0 y1, LeO (ucd_fold.j2 k y0 y1) (ucd_fold.j2 (k + 1) y0 y1)) ∧ (∀ y0 y1, LeO (ucd_fold.j3 k y0 y1) (ucd_fold.j3 (k + 1) y0 y1)) ∧ (∀ y0 y1, LeO (ucd_fold.j4 k y0 y1) (ucd_fold.j4 (k + 1) y0 y1)) ∧ (∀ y0 y1, LeO (ucd_fold.j6 k y0 y1) (ucd_fold.j6 (k + 1) y0 y1)) ∧ (∀ y0 y1, LeO (ucd_fold.j7 k y0 y1) (ucd_fold.j7 (k + 1) y0 y1)) ∧ (∀ y0 y1, LeO (ucd_fold.j5 k y0 y1) (ucd_fold.j5 (k + 1) y0 y1)) ∧ (∀ y0 y1, LeO (ucd_fold.j1 k y0 y1) (ucd_fold.j1 (k + 1) y0 y1))
 | 0 => ⟨fun _ r h => by simp [ucd_fold.j8] at h, fun _ _ r h => by simp [ucd_fold.j0] at h, fun _ _ r h => by simp [ucd_fold.j2] at h, fun _ _ r h => by simp [ucd_fold.j3] at h, fun _ _ r h => by simp [ucd_fold.j4] at h, fun _ _ r h => by simp [ucd_fold.j6] at h, fun _ _ r h => by simp [ucd_fold.j7] at h, fun _ _ r h => by simp [ucd_fold.j5] at h, fun _ _ r h => by simp [ucd_fold.j1] at h⟩
 | k + 1 => by
  obtain ⟨ih0, ih1, ih2, ih3, ih4, ih5, ih6, ih7, ih8⟩ := ucd_fold.mono_l k; refine ⟨?_, ?_, ?_, ?_, ?_, ?_, ?_, ?_, ?_⟩
  ·intro y0; unfold ucd_fold.j8; repeat' first | (with_reducible exact ih0 _) | (with_reducible exact ih1 _ _) | (with_reducible exact ih2 _ _) | (with_reducible exact ih3 _ _) | (with_reducible exact ih4 _ _) | (with_reducible exact ih5 _ _) | (with_reducible exact ih6 _ _) | (with_reducible exact ih7 _ _) | (with_reducible exact ih8 _ _) | (with_reducible exact LeO.refl _) | (with_reducible exact LeO.none _) | (with_reducible refine LeO.ite ?_ ?_) | (with_reducible refine LeO.bind ?_ (fun _ => ?_)) | exact ih0 _ | exact ih1 _ _ | exact ih2 _ _ | exact ih3 _ _ | exact ih4 _ _ | exact ih5 _ _ | exact ih6 _ _ | exact ih7 _ _ | exact ih8 _ _ | exact LeO.none _ | refine LeO.ite ?_ ?_ | refine LeO.bind ?_ (fun _ => ?_)
  ·intro y0 y1; unfold ucd_fold.j0; repeat' first | (with_reducible exact ih0 _) | (with_reducible exact ih1 _ _) | (with_reducible exact ih2 _ _) | (with_reducible exact ih3 _ _) | (with_reducible exact ih4 _ _) | (with_reducible exact ih5 _ _) | (with_reducible exact ih6 _ _) | (with_reducible exact ih7 _ _) | (with_reducible exact ih8 _ _) | (with_reducible exact LeO.refl _) | (with_reducible exact LeO.none _) | (with_reducible refine LeO.ite ?_ ?_) | (with_reducible refine LeO.bind ?_ (fun _ => ?_)) | exact ih0 _ | exact ih1 _ _ | exact ih2 _ _ | exact ih3 _ _ | exact ih4 _ _ | exact ih5 _ _ | exact ih6 _ _ | exact ih7 _ _ | exact ih8 _ _ | exact LeO.none _ | refine LeO.ite ?_ ?_ | refine LeO.bind ?_ (fun _ => ?_)
  ·intro y0 y1; unfold ucd_fold.j2; repeat' first | (with_reducible exact ih0 _) | (with_reducible exact ih1 _ _) | (with_reducible exact ih2 _ _) | (with_reducible exact ih3 _ _) | (with_reducible exact ih4 _ _) | (with_reducible exact ih5 _ _) | (with_reducible exact ih6 _ _) | (with_reducible exact ih7 _ _) | (with_reducible exact ih8 _ _) | (with_reducible exact LeO.refl _) | (with_reducible exact LeO.none _) | (with_reducible refine LeO.ite ?_ ?_) | (with_reducible refine LeO.bind ?_ (fun _ => ?_)) | exact ih0 _ | exact ih1 _ _ | exact ih2 _ _ | exact ih3 _ _ | exact ih4 _ _ | exact ih5 _ _ | exact ih6 _ _ | exact ih7 _ _ | exact ih8 _ _ | exact LeO.none _ | refine LeO.ite ?_ ?_ | refine LeO.bind ?_ (fun _ => ?_)
  ·intro y0 y1; unfold ucd_fold.j3; repeat' first | (with_reducible exact ih0 _) | (with_reducible exact ih1 _ _) | (with_reducible exact ih2 _ _) | (with_reducible exact ih3 _ _) | (with_reducible exact ih4 _ _) | (with_reducible exact ih5 _ _) | (with_reducible exact ih6 _ _) | (with_reducible exact ih7 _ _) | (with_reducible exact ih8 _ _) | (with_reducible exact LeO.refl _) | (with_reducible exact LeO.none _) | (with_reducible refine LeO.ite ?_ ?_) | (with_reducible refine LeO.bind ?_ (fun _ => ?_)) | exact ih0 _ | exact ih1 _ _ | exact ih2 _ _ | exact ih3 _ _ | exact ih4 _ _ | exact ih5 _ _ | exact ih6 _ _ | exact ih7 _ _ | exact ih8 _ _ | exact LeO.none _ | refine LeO.ite ?_ ?_ | refine LeO.bind ?_ (fun _ => ?_)
  ·intro y0 y1; unfold ucd_fold.j4; repeat' first | (with_reducible exact ih0 _) | (with_reducible exact ih1 _ _) | (with_reducible exact ih2 _ _) | (with_reducible exact ih3 _ _) | (with_reducible exact ih4 _ _) | (with_reducible exact ih5 _ _) | (with_reducible exact ih6 _ _) | (with_reducible exact ih7 _ _) | (with_reducible exact ih8 _ _) | (with_reducible exact LeO.refl _) | (with_reducible exact LeO.none _) | (with_reducible refine LeO.ite ?_ ?_) | (with_reducible refine LeO.bind ?_ (fun _ => ?_)) | exact ih0 _ | exact ih1 _ _ | exact ih2 _ _ | exact ih3 _ _ | exact ih4 _ _ | exact ih5 _ _ | exact ih6 _ _ | exact ih7 _ _ | exact ih8 _ _ | exact LeO.none _ | refine LeO.ite ?_ ?_ | refine LeO.bind ?_ (fun _ => ?_)
  ·intro y0 y1; unfold ucd_fold.j6; repeat' first | (with_reducible exact ih0 _) | (with_reducible exact ih1 _ _) | (with_reducible exact ih2 _ _) | (with_reducible exact ih3 _ _) | (with_reducible exact ih4 _ _) | (with_reducible exact ih5 _ _) | (with_reducible exact ih6 _ _) | (with_reducible exact ih7 _ _) | (with_reducible exact ih8 _ _) | (with_reducible exact LeO.refl _) | (with_reducible exact LeO.none _) | (with_reducible refine LeO.ite ?_ ?_) | (with_reducible refine LeO.bind ?_ (fun _ => ?_)) | exact ih0 _ | exact ih1 _ _ | exact ih2 _ _ | exact ih3 _ _ | exact ih4 _ _ | exact ih5 _ _ | exact ih6 _ _ | exact ih7 _ _ | exact ih8 _ _ | exact LeO.none _ | refine LeO.ite ?_ ?_ | refine LeO.bind ?_ (fun _ => ?_)
  ·intro y0 y1; unfold ucd_fold.j7; repeat' first | (with_reducible exact ih0 _) | (with_reducible exact ih1 _ _) | (with_reducible exact ih2 _ _) | (with_reducible exact ih3 _ _) | (with_reducible exact ih4 _ _) | (with_reducible exact ih5 _ _) | (with_reducible exact ih6 _ _) | (with_reducible exact ih7 _ _) | (with_reducible exact ih8 _ _) | (with_reducible exact LeO.refl _) | (with_reducible exact LeO.none _) | (with_reducible refine LeO.ite ?_ ?_) | (with_reducible refine LeO.bind ?_ (fun _ => ?_)) | exact ih0 _ | exact ih1 _ _ | exact ih2 _ _ | exact ih3 _ _ | exact ih4 _ _ | exact ih5 _ _ | exact ih6 _ _ | exact ih7 _ _ | exact ih8 _ _ | exact LeO.none _ | refine LeO.ite ?_ ?_ | refine LeO.bind ?_ (fun _ => ?_)
  ·intro y0 y1; unfold ucd_fold.j5; repeat' first | (with_reducible exact ih0 _) | (with_reducible exact ih1 _ _) | (with_reducible exact ih2 _ _) | (with_reducible exact ih3 _ _) | (with_reducible exact ih4 _ _) | (with_reducible exact ih5 _ _) | (with_reducible exact ih6 _ _) | (with_reducible exact ih7 _ _) | (with_reducible exact ih8 _ _) | (with_reducible exact LeO.refl _) | (with_reducible exact LeO.none _) | (with_reducible refine LeO.ite ?_ ?_) | (with_reducible refine LeO.bind ?_ (fun _ => ?_)) | exact ih0 _ | exact ih1 _ _ | exact ih2 _ _ | exact ih3 _ _ | exact ih4 _ _ | exact ih5 _ _ | exact ih6 _ _ | exact ih7 _ _ | exact ih8 _ _ | exact LeO.none _ | refine LeO.ite ?_ ?_ | refine LeO.bind ?_ (fun _ => ?_)
  ·intro y0 y1; unfold ucd_fold.j1; repeat' first | (with_reducible exact ih0 _) | (with_reducible exact ih1 _ _) | (with_reducible exact ih2 _ _) | (with_reducible exact ih3 _ _) | (with_reducible exact ih4 _ _) | (with_reducible exact ih5 _ _) | (with_reducible exact ih6 _ _) | (with_reducible exact ih7 _ _) | (with_reducible exact ih8 _ _) | (with_reducible exact LeO.refl _) | (with_reducible exact LeO.none _) | (with_reducible refine LeO.ite ?_ ?_) | (with_reducible refine LeO.bind ?_ (fun _ => ?_)) | exact ih0 _ | exact ih1 _ _ | exact ih2 _ _ | exact ih3 _ _ | exact ih4 _ _ | exact ih5 _ _ | exact ih6 _ _ | exact ih7 _ _ | exact ih8 _ _ | exact LeO.none _ | refine LeO.ite ?_ ?_ | refine LeO.bind ?_ (fun _ => ?_)
theorem ucd_fold.mono : ∀ a0 k, LeO (ucd_fold.f k a0) (ucd_fold.f (k + 1) a0) := by
 intro a0 k; obtain ⟨ih0, ih1, ih2, ih3, ih4, ih5, ih6, ih7, ih8⟩ := ucd_fold.mono_l k; unfold ucd_fold.f; repeat' first | (with_reducible exact ih0 _) | (with_reducible exact ih1 _ _) | (with_reducible exact ih2 _ _) | (with_reducible exact ih3 _ _) | (with_reducible exact ih4 _ _) | (with_reducible exact ih5 _ _) | (with_reducible exact ih6 _ _) | (with_reducible exact ih7 _ _) | (with_reducible exact ih8 _ _) | (with_reducible exact LeO.refl _) | (with_reducible exact LeO.none _) | (with_reducible refine LeO.ite ?_ ?_) | (with_reducible refine LeO.bind ?_ (fun _ => ?_)) | exact ih0 _ | exact ih1 _ _ | exact ih2 _ _ | exact ih3 _ _ | exact ih4 _ _ | exact ih5 _ _ | exact ih6 _ _ | exact ih7 _ _ | exact ih8 _ _ | exact LeO.none _ | refine LeO.ite ?_ ?_ | refine LeO.bind ?_ (fun _ => ?_)
set_option maxHeartbeats 8000000 in
set_option maxRecDepth 100000 in
theorem ucd_fold.calls (k : Nat) (a0 : Int) (r : Int) (w : World) (h : ucd_fold.f k a0 = some r) :
  Calls Tryd.prog 84 #[.int .i32 a0] w fun e w' => e = .returned (.int .i32 r) ∧ Drawn0 w w' := by
 have H : (if a0 ≥ 65 then (ucd_fold.j0 k a0 (decide (a0 ≤ 90))) else (ucd_fold.j0 k a0 false)) = some r := h; clear h; have HC2 := Aside0.mk H; clear H; go_enter Tryd.func84, Tryd.ntmps84
 go_upto_block 0 with (fail)
 go_cut [] (fun wc => ∃ (kq : Nat), Aside0 (ucd_fold.j8 kq a0 = some r) ∧ Aside0 (kq ≤ k) ∧ Drawn0 w wc)
 case first =>
  have H := HC2.out; clear HC2; have HC3 := Aside0.mk H; clear H; go_upto_region 1 with (fail); go_cut [3] (fun v3 wc => ∃ (kq : Nat) (x3_2 : Bool), v3 = .bool x3_2 ∧ Aside0 (ucd_fold.j0 kq a0 x3_2 = some r) ∧ Aside0 (kq ≤ k) ∧ Drawn0 w wc)
  case first =>
   have H := HC3.out; clear HC3; by_cases c4 : a0 ≥ 65
   ·rw [if_pos c4] at H; have c4b0 : decide (65 ≤ a0) = true := decide_eq_true c4; clear c4
    (first | rw [c4b0] | (simp only [i64_w, i32_w]; rw [c4b0]) | skip)
    have H' := Aside0.mk H; clear H; go_wp2; go_meet
    case rel => exact ⟨_, (decide (a0 ≤ 90)), (by first | rfl | (simp; done) | (simp [*]; done)), H', ⟨by first | omega | exact Nat.le_refl _⟩, by repeat (first | exact Drawn0.refl _ | apply Drawn0.step)⟩
   ·rw [if_neg c4] at H; have c4b0 : decide (65 ≤ a0) = false := decide_eq_false c4; clear c4
    (first | rw [c4b0] | (simp only [i64_w, i32_w]; rw [c4b0]) | skip)
    have H' := Aside0.mk H; clear H; go_wp2; go_meet
    case rel => exact ⟨_, (false), (by first | rfl | (simp; done) | (simp [*]; done)), H', ⟨by first | omega | exact Nat.le_refl _⟩, by repeat (first | exact Drawn0.refl _ | apply Drawn0.step)⟩
  case rest =>
   clear HC3; (try clear p2); (try clear c4); (try clear c4b0); obtain ⟨kq, x3_2, rfl, HA, HJ2, ⟨mc2, rfl⟩⟩ := hcut
   cases kq with
   | zero => exact absurd HA.out (by simp [ucd_fold.j0])
   | succ kj2 =>
    have H := HA.out; clear HA; simp only [ucd_fold.j0] at H; have HC5 := Aside0.mk H; clear H; go_upto_if 3 with (fail); go_cut [3] (fun v3 wc => ∃ (kq : Nat) (x3_4 : Bool), v3 = .bool x3_4 ∧ Aside0 (ucd_fold.j2 kq a0 x3_4 = some r) ∧ Aside0 (kq ≤ kj2) ∧ Drawn0 w wc)
    case first =>
     have H := HC5.out; clear HC5; by_cases c6 : x3_2 = true
     ·subst c6; rw [if_pos rfl] at H; have H' := Aside0.mk H; clear H; go_wp2; go_meet
      case rel => exact ⟨_, (true), (by first | rfl | (simp; done) | (simp [*]; done)), H', ⟨by have := HJ2.out; first | omega | exact Nat.le_refl _⟩, by repeat (first | exact Drawn0.refl _ | apply Drawn0.step)⟩
     ·replace c6 := Bool.eq_false_iff.mpr c6; subst c6; rw [if_neg (show ¬ (false = true) by decide)] at H; have HC7 := Aside0.mk H; clear H; go_upto_region 2 with (fail); go_cut [3] (fun v3 wc => ∃ (kq : Nat) (x3_6 : Bool), v3 = .bool x3_6 ∧ Aside0 (ucd_fold.j1 kq a0 x3_6 = some r) ∧ Aside0 (kq ≤ kj2) ∧ Drawn0 w wc)
      case first =>
       have H := HC7.out; clear HC7; by_cases c8 : a0 ≥ 192
       ·rw [if_pos c8] at H; have c8b0 : decide (192 ≤ a0) = true := decide_eq_true c8; clear c8
        (first | rw [c8b0] | (simp only [i64_w, i32_w]; rw [c8b0]) | skip)
        by_cases c9 : a0 ≤ 222
        ·rw [if_pos c9] at H; have c9b0 : decide (a0 ≤ 222) = true := decide_eq_true c9; clear c9; have H' := Aside0.mk H; clear H; go_wp2; go_meet
         case rel => exact ⟨_, ((a0 != 215)), (by first | rfl | (simp; done) | (simp [*]; done)), H', ⟨by have := HJ2.out; first | omega | exact Nat.le_refl _⟩, by repeat (first | exact Drawn0.refl _ | apply Drawn0.step)⟩
        ·rw [if_neg c9] at H; have c9b0 : decide (a0 ≤ 222) = false := decide_eq_false c9; clear c9; have H' := Aside0.mk H; clear H; go_wp2; go_meet
         case rel => exact ⟨_, (false), (by first | rfl | (simp; done) | (simp [*]; done)), H', ⟨by have := HJ2.out; first | omega | exact Nat.le_refl _⟩, by repeat (first | exact Drawn0.refl _ | apply Drawn0.step)⟩
       ·rw [if_neg c8] at H; have c8b0 : decide (192 ≤ a0) = false := decide_eq_false c8; clear c8
        (first | rw [c8b0] | (simp only [i64_w, i32_w]; rw [c8b0]) | skip)
        have H' := Aside0.mk H; clear H; go_wp2; go_meet
        case rel => exact ⟨_, (false), (by first | rfl | (simp; done) | (simp [*]; done)), H', ⟨by have := HJ2.out; first | omega | exact Nat.le_refl _⟩, by repeat (first | exact Drawn0.refl _ | apply Drawn0.step)⟩
      case rest =>
       clear HC7; (try clear c2); (try clear p2); (try clear c4); (try clear c4b0); (try clear c6); (try clear c8); (try clear c8b0); (try clear c9); (try clear c9b0); (try clear p2); obtain ⟨kq, x3_6, rfl, HA, HJ6, ⟨mc6, rfl⟩⟩ := hcut
       cases kq with
       | zero => exact absurd HA.out (by simp [ucd_fold.j1])
       | succ kj6 =>
        have H := HA.out; clear HA; simp only [ucd_fold.j1] at H; by_cases c10 : x3_6 = true
        ·subst c10; rw [if_pos rfl] at H; have H' := Aside0.mk H; clear H; go_wp2; go_meet
         case rel => exact ⟨_, (true), (by first | rfl | (simp; done) | (simp [*]; done)), H', ⟨by have := HJ2.out; have := HJ6.out; first | omega | exact Nat.le_refl _⟩, by repeat (first | exact Drawn0.refl _ | apply Drawn0.step)⟩
        ·replace c10 := Bool.eq_false_iff.mpr c10; subst c10; rw [if_neg (show ¬ (false = true) by decide)] at H; by_cases c11 : a0 ≥ 913
         ·rw [if_pos c11] at H; have c11b0 : decide (913 ≤ a0) = true := decide_eq_true c11; clear c11; by_cases c12 : a0 ≤ 937
          ·rw [if_pos c12] at H; have c12b0 : decide (a0 ≤ 937) = true := decide_eq_true c12; clear c12; by_cases c13 : a0 = 930
           ·rw [if_pos c13] at H; have c13b0 : (a0 == 930) = true := beq_iff_eq.mpr c13; have c13b1 : (a0 != 930) = false := bne_eq_false_iff_eq.mpr c13; clear c13; by_cases c14 : a0 ≥ 1040
            ·rw [if_pos c14] at H; have c14b0 : decide (1040 ≤ a0) = true := decide_eq_true c14; clear c14; have H' := Aside0.mk H; clear H; go_wp2; go_meet
             case rel => exact ⟨_, (decide (a0 ≤ 1071)), (by first | rfl | (simp; done) | (simp [*]; done)), H', ⟨by have := HJ2.out; have := HJ6.out; first | omega | exact Nat.le_refl _⟩, by repeat (first | exact Drawn0.refl _ | apply Drawn0.step)⟩
            ·rw [if_neg c14] at H; have c14b0 : decide (1040 ≤ a0) = false := decide_eq_false c14; clear c14; have H' := Aside0.mk H; clear H; go_wp2; go_meet
             case rel => exact ⟨_, (false), (by first | rfl | (simp; done) | (simp [*]; done)), H', ⟨by have := HJ2.out; have := HJ6.out; first | omega | exact Nat.le_refl _⟩, by repeat (first | exact Drawn0.refl _ | apply Drawn0.step)⟩
           ·rw [if_neg c13] at H; have c13b0 : (a0 == 930) = false := beq_eq_false_iff_ne.mpr c13; have c13b1 : (a0 != 930) = true := bne_iff_ne.mpr c13; have H' := Aside0.mk H; clear H; go_wp2; go_meet
            case rel => exact ⟨_, ((a0 != 930)), (by first | rfl | (simp; done) | (simp [*]; done)), H', ⟨by have := HJ2.out; have := HJ6.out; first | omega | exact Nat.le_refl _⟩, by repeat (first | exact Drawn0.refl _ | apply Drawn0.step)⟩
          ·rw [if_neg c12] at H; have c12b0 : decide (a0 ≤ 937) = false := decide_eq_false c12; clear c12; by_cases c15 : a0 ≥ 1040
           ·rw [if_pos c15] at H; have c15b0 : decide (1040 ≤ a0) = true := decide_eq_true c15; clear c15; have H' := Aside0.mk H; clear H; go_wp2; go_meet
            case rel => exact ⟨_, (decide (a0 ≤ 1071)), (by first | rfl | (simp; done) | (simp [*]; done)), H', ⟨by have := HJ2.out; have := HJ6.out; first | omega | exact Nat.le_refl _⟩, by repeat (first | exact Drawn0.refl _ | apply Drawn0.step)⟩
           ·rw [if_neg c15] at H; have c15b0 : decide (1040 ≤ a0) = false := decide_eq_false c15; clear c15; have H' := Aside0.mk H; clear H; go_wp2; go_meet
            case rel => exact ⟨_, (false), (by first | rfl | (simp; done) | (simp [*]; done)), H', ⟨by have := HJ2.out; have := HJ6.out; first | omega | exact Nat.le_refl _⟩, by repeat (first | exact Drawn0.refl _ | apply Drawn0.step)⟩
         ·rw [if_neg c11] at H; have c11b0 : decide (913 ≤ a0) = false := decide_eq_false c11; clear c11; by_cases c16 : a0 ≥ 1040
          ·rw [if_pos c16] at H; have c16b0 : decide (1040 ≤ a0) = true := decide_eq_true c16; clear c16; have H' := Aside0.mk H; clear H; go_wp2; go_meet
           case rel => exact ⟨_, (decide (a0 ≤ 1071)), (by first | rfl | (simp; done) | (simp [*]; done)), H', ⟨by have := HJ2.out; have := HJ6.out; first | omega | exact Nat.le_refl _⟩, by repeat (first | exact Drawn0.refl _ | apply Drawn0.step)⟩
          ·rw [if_neg c16] at H; have c16b0 : decide (1040 ≤ a0) = false := decide_eq_false c16; clear c16; have H' := Aside0.mk H; clear H; go_wp2; go_meet
           case rel => exact ⟨_, (false), (by first | rfl | (simp; done) | (simp [*]; done)), H', ⟨by have := HJ2.out; have := HJ6.out; first | omega | exact Nat.le_refl _⟩, by repeat (first | exact Drawn0.refl _ | apply Drawn0.step)⟩
    case rest =>
     clear HC5; (try clear c1); (try clear c2); (try clear p2); (try clear c4); (try clear c4b0); (try clear c6); (try clear c8); (try clear c8b0); (try clear c9); (try clear c9b0); (try clear c10); (try clear c11); (try clear c11b0); (try clear c12); (try clear c12b0); (try clear c13); (try clear c13b0); (try clear c13b1); (try clear c14); (try clear c14b0); (try clear c15); (try clear c15b0); (try clear c16); (try clear c16b0); (try clear p2); obtain ⟨kq, x3_4, rfl, HA, HJ4, ⟨mc4, rfl⟩⟩ := hcut
     cases kq with
     | zero => exact absurd HA.out (by simp [ucd_fold.j2])
     | succ kj4 =>
      have H := HA.out; clear HA; simp only [ucd_fold.j2] at H; by_cases c17 : x3_4 = true
      ·subst c17; rw [if_pos rfl] at H; obtain rfl := Option.some.inj H; go_wp2; go_ret; exact ⟨by first | rfl | (simp; done) | (simp [*]; done), by repeat (first | exact Drawn0.refl _ | apply Drawn0.step)⟩
      ·replace c17 := Bool.eq_false_iff.mpr c17; subst c17; rw [if_neg (show ¬ (false = true) by decide)] at H; have HC18 := Aside0.mk H; clear H; go_upto_region 6 with (fail); go_cut [38] (fun v38 wc => ∃ (kq : Nat) (x38_17 : Bool), v38 = .bool x38_17 ∧ Aside0 (ucd_fold.j3 kq a0 x38_17 = some r) ∧ Aside0 (kq ≤ kj4) ∧ Drawn0 w wc)
       case first =>
        have H := HC18.out; clear HC18; by_cases c19 : a0 ≥ 1024
        ·rw [if_pos c19] at H; have c19b0 : decide (1024 ≤ a0) = true := decide_eq_true c19; clear c19
         (first | rw [c19b0] | (simp only [i64_w, i32_w]; rw [c19b0]) | skip)
         have H' := Aside0.mk H; clear H; go_wp2; go_meet
         case rel => exact ⟨_, (decide (a0 ≤ 1039)), (by first | rfl | (simp; done) | (simp [*]; done)), H', ⟨by have := HJ2.out; have := HJ4.out; first | omega | exact Nat.le_refl _⟩, by repeat (first | exact Drawn0.refl _ | apply Drawn0.step)⟩
        ·rw [if_neg c19] at H; have c19b0 : decide (1024 ≤ a0) = false := decide_eq_false c19; clear c19
         (first | rw [c19b0] | (simp only [i64_w, i32_w]; rw [c19b0]) | skip)
         have H' := Aside0.mk H; clear H; go_wp2; go_meet
         case rel => exact ⟨_, (false), (by first | rfl | (simp; done) | (simp [*]; done)), H', ⟨by have := HJ2.out; have := HJ4.out; first | omega | exact Nat.le_refl _⟩, by repeat (first | exact Drawn0.refl _ | apply Drawn0.step)⟩
       case rest =>
        clear HC18; (try clear c1); (try clear c2); (try clear p2); (try clear p3); (try clear c4); (try clear c4b0); (try clear c6); (try clear c8); (try clear c8b0); (try clear c9); (try clear c9b0); (try clear c10); (try clear c11); (try clear c11b0); (try clear c12); (try clear c12b0); (try clear c13); (try clear c13b0); (try clear c13b1); (try clear c14); (try clear c14b0); (try clear c15); (try clear c15b0); (try clear c16); (try clear c16b0); (try clear c17); (try clear c19); (try clear c19b0); (try clear p2); obtain ⟨kq, x38_17, rfl, HA, HJ17, ⟨mc17, rfl⟩⟩ := hcut
        cases kq with
        | zero => exact absurd HA.out (by simp [ucd_fold.j3])
        | succ kj17 =>
         have H := HA.out; clear HA; simp only [ucd_fold.j3] at H; by_cases c20 : x38_17 = true
         ·subst c20; rw [if_pos rfl] at H; obtain rfl := Option.some.inj H; go_wp2; go_ret; exact ⟨by first | rfl | (simp; done) | (simp [*]; done), by repeat (first | exact Drawn0.refl _ | apply Drawn0.step)⟩
         ·replace c20 := Bool.eq_false_iff.mpr c20; subst c20; rw [if_neg (show ¬ (false = true) by decide)] at H; have HC21 := Aside0.mk H; clear H; go_upto_region 8 with (fail); go_cut [47] (fun v47 wc => ∃ (kq : Nat) (x47_20 : Bool), v47 = .bool x47_20 ∧ Aside0 (ucd_fold.j4 kq a0 x47_20 = some r) ∧ Aside0 (kq ≤ kj17) ∧ Drawn0 w wc)
          case first =>
           have H := HC21.out; clear HC21; by_cases c22 : a0 ≥ 256
           ·rw [if_pos c22] at H; have c22b0 : decide (256 ≤ a0) = true := decide_eq_true c22; clear c22
            (first | rw [c22b0] | (simp only [i64_w, i32_w]; rw [c22b0]) | skip)
            have H' := Aside0.mk H; clear H; go_wp2; go_meet
            case rel => exact ⟨_, (decide (a0 ≤ 302)), (by first | rfl | (simp; done) | (simp [*]; done)), H', ⟨by have := HJ2.out; have := HJ4.out; have := HJ17.out; first | omega | exact Nat.le_refl _⟩, by repeat (first | exact Drawn0.refl _ | apply Drawn0.step)⟩
           ·rw [if_neg c22] at H; have c22b0 : decide (256 ≤ a0) = false := decide_eq_false c22; clear c22
            (first | rw [c22b0] | (simp only [i64_w, i32_w]; rw [c22b0]) | skip)
            have H' := Aside0.mk H; clear H; go_wp2; go_meet
            case rel => exact ⟨_, (false), (by first | rfl | (simp; done) | (simp [*]; done)), H', ⟨by have := HJ2.out; have := HJ4.out; have := HJ17.out; first | omega | exact Nat.le_refl _⟩, by repeat (first | exact Drawn0.refl _ | apply Drawn0.step)⟩
          case rest =>
           clear HC21; (try clear c1); (try clear c2); (try clear p2); (try clear p3); (try clear c4); (try clear c4b0); (try clear c6); (try clear c8); (try clear c8b0); (try clear c9); (try clear c9b0); (try clear c10); (try clear c11); (try clear c11b0); (try clear c12); (try clear c12b0); (try clear c13); (try clear c13b0); (try clear c13b1); (try clear c14); (try clear c14b0); (try clear c15); (try clear c15b0); (try clear c16); (try clear c16b0); (try clear c17); (try clear c19); (try clear c19b0); (try clear c20); (try clear c22); (try clear c22b0); (try clear p2); (try clear p3); obtain ⟨kq, x47_20, rfl, HA, HJ20, ⟨mc20, rfl⟩⟩ := hcut
           cases kq with
           | zero => exact absurd HA.out (by simp [ucd_fold.j4])
           | succ kj20 =>
            have H := HA.out; clear HA; simp only [ucd_fold.j4] at H; have HC23 := Aside0.mk H; clear H; go_upto_if 47 with (fail); go_cut [47] (fun v47 wc => ∃ (kq : Nat) (x47_22 : Bool), v47 = .bool x47_22 ∧ Aside0 (ucd_fold.j6 kq a0 x47_22 = some r) ∧ Aside0 (kq ≤ kj20) ∧ Drawn0 w wc)
            case first =>
             have H := HC23.out; clear HC23; by_cases c24 : x47_20 = true
             ·subst c24; rw [if_pos rfl] at H; have H' := Aside0.mk H; clear H; go_wp2; go_meet
              case rel => exact ⟨_, (true), (by first | rfl | (simp; done) | (simp [*]; done)), H', ⟨by have := HJ2.out; have := HJ4.out; have := HJ17.out; have := HJ20.out; first | omega | exact Nat.le_refl _⟩, by repeat (first | exact Drawn0.refl _ | apply Drawn0.step)⟩
             ·replace c24 := Bool.eq_false_iff.mpr c24; subst c24; rw [if_neg (show ¬ (false = true) by decide)] at H; have HC25 := Aside0.mk H; clear H; go_upto_region 9 with (fail); go_cut [47] (fun v47 wc => ∃ (kq : Nat) (x47_24 : Bool), v47 = .bool x47_24 ∧ Aside0 (ucd_fold.j5 kq a0 x47_24 = some r) ∧ Aside0 (kq ≤ kj20) ∧ Drawn0 w wc)
              case first =>
               have H := HC25.out; clear HC25; by_cases c26 : a0 ≥ 306
               ·rw [if_pos c26] at H; have c26b0 : decide (306 ≤ a0) = true := decide_eq_true c26; clear c26
                (first | rw [c26b0] | (simp only [i64_w, i32_w]; rw [c26b0]) | skip)
                have H' := Aside0.mk H; clear H; go_wp2; go_meet
                case rel => exact ⟨_, (decide (a0 ≤ 310)), (by first | rfl | (simp; done) | (simp [*]; done)), H', ⟨by have := HJ2.out; have := HJ4.out; have := HJ17.out; have := HJ20.out; first | omega | exact Nat.le_refl _⟩, by repeat (first | exact Drawn0.refl _ | apply Drawn0.step)⟩
               ·rw [if_neg c26] at H; have c26b0 : decide (306 ≤ a0) = false := decide_eq_false c26; clear c26
                (first | rw [c26b0] | (simp only [i64_w, i32_w]; rw [c26b0]) | skip)
                have H' := Aside0.mk H; clear H; go_wp2; go_meet
                case rel => exact ⟨_, (false), (by first | rfl | (simp; done) | (simp [*]; done)), H', ⟨by have := HJ2.out; have := HJ4.out; have := HJ17.out; have := HJ20.out; first | omega | exact Nat.le_refl _⟩, by repeat (first | exact Drawn0.refl _ | apply Drawn0.step)⟩
              case rest =>
               clear HC25; (try clear c1); (try clear c2); (try clear p2); (try clear p3); (try clear c4); (try clear c4b0); (try clear c6); (try clear c8); (try clear c8b0); (try clear c9); (try clear c9b0); (try clear c10); (try clear c11); (try clear c11b0); (try clear c12); (try clear c12b0); (try clear c13); (try clear c13b0); (try clear c13b1); (try clear c14); (try clear c14b0); (try clear c15); (try clear c15b0); (try clear c16); (try clear c16b0); (try clear c17); (try clear c19); (try clear c19b0); (try clear c20); (try clear c22); (try clear c22b0); (try clear c24); (try clear c26); (try clear c26b0); (try clear p2); (try clear p3); obtain ⟨kq, x47_24, rfl, HA, HJ24, ⟨mc24, rfl⟩⟩ := hcut
               cases kq with
               | zero => exact absurd HA.out (by simp [ucd_fold.j5])
               | succ kj24 =>
                have H := HA.out; clear HA; simp only [ucd_fold.j5] at H; by_cases c27 : x47_24 = true
                ·subst c27; rw [if_pos rfl] at H; have H' := Aside0.mk H; clear H; go_wp2; go_meet
                 case rel => exact ⟨_, (true), (by first | rfl | (simp; done) | (simp [*]; done)), H', ⟨by have := HJ2.out; have := HJ4.out; have := HJ17.out; have := HJ20.out; have := HJ24.out; first | omega | exact Nat.le_refl _⟩, by repeat (first | exact Drawn0.refl _ | apply Drawn0.step)⟩
                ·replace c27 := Bool.eq_false_iff.mpr c27; subst c27; rw [if_neg (show ¬ (false = true) by decide)] at H; by_cases c28 : a0 ≥ 330
                 ·rw [if_pos c28] at H; have c28b0 : decide (330 ≤ a0) = true := decide_eq_true c28; clear c28; by_cases c29 : a0 ≤ 374
                  ·rw [if_pos c29] at H; have c29b0 : decide (a0 ≤ 374) = true := decide_eq_true c29; clear c29; have H' := Aside0.mk H; clear H; go_wp2; go_meet
                   case rel => exact ⟨_, (decide (a0 ≤ 374)), (by first | rfl | (simp; done) | (simp [*]; done)), H', ⟨by have := HJ2.out; have := HJ4.out; have := HJ17.out; have := HJ20.out; have := HJ24.out; first | omega | exact Nat.le_refl _⟩, by repeat (first | exact Drawn0.refl _ | apply Drawn0.step)⟩
                  ·rw [if_neg c29] at H; have c29b0 : decide (a0 ≤ 374) = false := decide_eq_false c29; clear c29; by_cases c30 : a0 ≥ 7680
                   ·rw [if_pos c30] at H; have c30b0 : decide (7680 ≤ a0) = true := decide_eq_true c30; clear c30; have H' := Aside0.mk H; clear H; go_wp2; go_meet
                    case rel => exact ⟨_, (decide (a0 ≤ 7828)), (by first | rfl | (simp; done) | (simp [*]; done)), H', ⟨by have := HJ2.out; have := HJ4.out; have := HJ17.out; have := HJ20.out; have := HJ24.out; first | omega | exact Nat.le_refl _⟩, by repeat (first | exact Drawn0.refl _ | apply Drawn0.step)⟩
                   ·rw [if_neg c30] at H; have c30b0 : decide (7680 ≤ a0) = false := decide_eq_false c30; clear c30; have H' := Aside0.mk H; clear H; go_wp2; go_meet
                    case rel => exact ⟨_, (false), (by first | rfl | (simp; done) | (simp [*]; done)), H', ⟨by have := HJ2.out; have := HJ4.out; have := HJ17.out; have := HJ20.out; have := HJ24.out; first | omega | exact Nat.le_refl _⟩, by repeat (first | exact Drawn0.refl _ | apply Drawn0.step)⟩
                 ·rw [if_neg c28] at H; have c28b0 : decide (330 ≤ a0) = false := decide_eq_false c28; clear c28; by_cases c31 : a0 ≥ 7680
                  ·rw [if_pos c31] at H; have c31b0 : decide (7680 ≤ a0) = true := decide_eq_true c31; clear c31; have H' := Aside0.mk H; clear H; go_wp2; go_meet
                   case rel => exact ⟨_, (decide (a0 ≤ 7828)), (by first | rfl | (simp; done) | (simp [*]; done)), H', ⟨by have := HJ2.out; have := HJ4.out; have := HJ17.out; have := HJ20.out; have := HJ24.out; first | omega | exact Nat.le_refl _⟩, by repeat (first | exact Drawn0.refl _ | apply Drawn0.step)⟩
                  ·rw [if_neg c31] at H; have c31b0 : decide (7680 ≤ a0) = false := decide_eq_false c31; clear c31; have H' := Aside0.mk H; clear H; go_wp2; go_meet
                   case rel => exact ⟨_, (false), (by first | rfl | (simp; done) | (simp [*]; done)), H', ⟨by have := HJ2.out; have := HJ4.out; have := HJ17.out; have := HJ20.out; have := HJ24.out; first | omega | exact Nat.le_refl _⟩, by repeat (first | exact Drawn0.refl _ | apply Drawn0.step)⟩
            case rest =>
             clear HC23; (try clear c1); (try clear c2); (try clear p2); (try clear c3); (try clear p3); (try clear c4); (try clear c4b0); (try clear c6); (try clear c8); (try clear c8b0); (try clear c9); (try clear c9b0); (try clear c10); (try clear c11); (try clear c11b0); (try clear c12); (try clear c12b0); (try clear c13); (try clear c13b0); (try clear c13b1); (try clear c14); (try clear c14b0); (try clear c15); (try clear c15b0); (try clear c16); (try clear c16b0); (try clear c17); (try clear c19); (try clear c19b0); (try clear c20); (try clear c22); (try clear c22b0); (try clear c24); (try clear c26); (try clear c26b0); (try clear c27); (try clear c28); (try clear c28b0); (try clear c29); (try clear c29b0); (try clear c30); (try clear c30b0); (try clear c31); (try clear c31b0); (try clear p2); (try clear p3); obtain ⟨kq, x47_22, rfl, HA, HJ22, ⟨mc22, rfl⟩⟩ := hcut
             cases kq with
             | zero => exact absurd HA.out (by simp [ucd_fold.j6])
             | succ kj22 =>
              have H := HA.out; clear HA; simp only [ucd_fold.j6] at H; by_cases c32 : x47_22 = true
              ·subst c32; rw [if_pos rfl] at H; obtain rfl := Option.some.inj H; go_wp2; go_ret; exact ⟨by first | rfl | (simp; done) | (simp [*]; done), by repeat (first | exact Drawn0.refl _ | apply Drawn0.step)⟩
              ·replace c32 := Bool.eq_false_iff.mpr c32; subst c32; rw [if_neg (show ¬ (false = true) by decide)] at H; have HC33 := Aside0.mk H; clear H; go_upto_region 13 with (fail); go_cut [74] (fun v74 wc => ∃ (kq : Nat) (x74_32 : Bool), v74 = .bool x74_32 ∧ Aside0 (ucd_fold.j7 kq a0 x74_32 = some r) ∧ Aside0 (kq ≤ kj22) ∧ Drawn0 w wc)
               case first =>
                have H := HC33.out; clear HC33; by_cases c34 : a0 ≥ 313
                ·rw [if_pos c34] at H; have c34b0 : decide (313 ≤ a0) = true := decide_eq_true c34; clear c34
                 (first | rw [c34b0] | (simp only [i64_w, i32_w]; rw [c34b0]) | skip)
                 have H' := Aside0.mk H; clear H; go_wp2; go_meet
                 case rel => exact ⟨_, (decide (a0 ≤ 327)), (by first | rfl | (simp; done) | (simp [*]; done)), H', ⟨by have := HJ2.out; have := HJ4.out; have := HJ17.out; have := HJ20.out; have := HJ22.out; first | omega | exact Nat.le_refl _⟩, by repeat (first | exact Drawn0.refl _ | apply Drawn0.step)⟩
                ·rw [if_neg c34] at H; have c34b0 : decide (313 ≤ a0) = false := decide_eq_false c34; clear c34
                 (first | rw [c34b0] | (simp only [i64_w, i32_w]; rw [c34b0]) | skip)
                 have H' := Aside0.mk H; clear H; go_wp2; go_meet
                 case rel => exact ⟨_, (false), (by first | rfl | (simp; done) | (simp [*]; done)), H', ⟨by have := HJ2.out; have := HJ4.out; have := HJ17.out; have := HJ20.out; have := HJ22.out; first | omega | exact Nat.le_refl _⟩, by repeat (first | exact Drawn0.refl _ | apply Drawn0.step)⟩
               case rest =>
                clear HC33; (try clear c1); (try clear c2); (try clear p2); (try clear c3); (try clear p3); (try clear c4); (try clear c4b0); (try clear c6); (try clear c8); (try clear c8b0); (try clear c9); (try clear c9b0); (try clear c10); (try clear c11); (try clear c11b0); (try clear c12); (try clear c12b0); (try clear c13); (try clear c13b0); (try clear c13b1); (try clear c14); (try clear c14b0); (try clear c15); (try clear c15b0); (try clear c16); (try clear c16b0); (try clear c17); (try clear c19); (try clear c19b0); (try clear c20); (try clear c22); (try clear c22b0); (try clear c24); (try clear c26); (try clear c26b0); (try clear c27); (try clear c28); (try clear c28b0); (try clear c29); (try clear c29b0); (try clear c30); (try clear c30b0); (try clear c31); (try clear c31b0); (try clear c32); (try clear p32); (try clear c34); (try clear c34b0); (try clear p2); (try clear p3); obtain ⟨kq, x74_32, rfl, HA, HJ32, ⟨mc32, rfl⟩⟩ := hcut
                cases kq with
                | zero => exact absurd HA.out (by simp [ucd_fold.j7])
                | succ kj32 =>
                 have H := HA.out; clear HA; simp only [ucd_fold.j7] at H; by_cases c35 : x74_32 = true
                 ·subst c35; rw [if_pos rfl] at H; obtain rfl := Option.some.inj H; go_wp2; go_ret; exact ⟨by first | rfl | (simp; done) | (simp [*]; done), by repeat (first | exact Drawn0.refl _ | apply Drawn0.step)⟩
                 ·replace c35 := Bool.eq_false_iff.mpr c35; subst c35; rw [if_neg (show ¬ (false = true) by decide)] at H; by_cases c36 : a0 ≥ 377
                  ·rw [if_pos c36] at H; have c36b0 : decide (377 ≤ a0) = true := decide_eq_true c36; clear c36; by_cases c37 : a0 ≤ 381
                   ·rw [if_pos c37] at H; have c37b0 : decide (a0 ≤ 381) = true := decide_eq_true c37; clear c37; obtain rfl := Option.some.inj H; go_wp2; go_ret; exact ⟨by first | rfl | (simp; done) | (simp [*]; done), by repeat (first | exact Drawn0.refl _ | apply Drawn0.step)⟩
                   ·rw [if_neg c37] at H; have c37b0 : decide (a0 ≤ 381) = false := decide_eq_false c37; clear c37; have H' := Aside0.mk H; clear H; go_wp2; go_meet
                    case rel => exact ⟨_, H', ⟨by have := HJ2.out; have := HJ4.out; have := HJ17.out; have := HJ20.out; have := HJ22.out; have := HJ32.out; first | omega | exact Nat.le_refl _⟩, by repeat (first | exact Drawn0.refl _ | apply Drawn0.step)⟩
                  ·rw [if_neg c36] at H; have c36b0 : decide (377 ≤ a0) = false := decide_eq_false c36; clear c36; have H' := Aside0.mk H; clear H; go_wp2; go_meet
                   case rel => exact ⟨_, H', ⟨by have := HJ2.out; have := HJ4.out; have := HJ17.out; have := HJ20.out; have := HJ22.out; have := HJ32.out; first | omega | exact Nat.le_refl _⟩, by repeat (first | exact Drawn0.refl _ | apply Drawn0.step)⟩
 case rest =>
  clear HC2; (try clear c1); (try clear c2); (try clear p2); (try clear c3); (try clear p3); (try clear c4); (try clear c4b0); (try clear c6); (try clear c8); (try clear c8b0); (try clear c9); (try clear c9b0); (try clear c10); (try clear c11); (try clear c11b0); (try clear c12); (try clear c12b0); (try clear c13); (try clear c13b0); (try clear c13b1); (try clear c14); (try clear c14b0); (try clear c15); (try clear c15b0); (try clear c16); (try clear c16b0); (try clear c17); (try clear c19); (try clear c19b0); (try clear c20); (try clear c22); (try clear c22b0); (try clear c24); (try clear c26); (try clear c26b0); (try clear c27); (try clear c28); (try clear c28b0); (try clear c29); (try clear c29b0); (try clear c30); (try clear c30b0); (try clear c31); (try clear c31b0); (try clear c32); (try clear p32); (try clear c34); (try clear c34b0); (try clear c35); (try clear c36); (try clear c36b0); (try clear c37); (try clear c37b0); (try clear p2); (try clear p3); (try clear p32); obtain ⟨kq, HA, HJ1, ⟨mc1, rfl⟩⟩ := hcut
  cases kq with
  | zero => exact absurd HA.out (by simp [ucd_fold.j8])
  | succ kj1 =>
   have H := HA.out; clear HA; simp only [ucd_fold.j8] at H; by_cases c38 : a0 = 181
   ·rw [if_pos c38] at H; have c38b0 : (a0 == 181) = true := beq_iff_eq.mpr c38; have c38b1 : (a0 != 181) = false := bne_eq_false_iff_eq.mpr c38; clear c38; obtain rfl := Option.some.inj H; go_wp2; go_ret; exact ⟨by first | rfl | (simp; done) | (simp [*]; done), by repeat (first | exact Drawn0.refl _ | apply Drawn0.step)⟩
   ·rw [if_neg c38] at H; have c38b0 : (a0 == 181) = false := beq_eq_false_iff_ne.mpr c38; have c38b1 : (a0 != 181) = true := bne_iff_ne.mpr c38; by_cases c39 : a0 = 376
    ·rw [if_pos c39] at H; have c39b0 : (a0 == 376) = true := beq_iff_eq.mpr c39; have c39b1 : (a0 != 376) = false := bne_eq_false_iff_eq.mpr c39; clear c39; obtain rfl := Option.some.inj H; go_wp2; go_ret; exact ⟨by first | rfl | (simp; done) | (simp [*]; done), by repeat (first | exact Drawn0.refl _ | apply Drawn0.step)⟩
    ·rw [if_neg c39] at H; have c39b0 : (a0 == 376) = false := beq_eq_false_iff_ne.mpr c39; have c39b1 : (a0 != 376) = true := bne_iff_ne.mpr c39; by_cases c40 : a0 = 383
     ·rw [if_pos c40] at H; have c40b0 : (a0 == 383) = true := beq_iff_eq.mpr c40; have c40b1 : (a0 != 383) = false := bne_eq_false_iff_eq.mpr c40; clear c40; obtain rfl := Option.some.inj H; go_wp2; go_ret; exact ⟨by first | rfl | (simp; done) | (simp [*]; done), by repeat (first | exact Drawn0.refl _ | apply Drawn0.step)⟩
     ·rw [if_neg c40] at H; have c40b0 : (a0 == 383) = false := beq_eq_false_iff_ne.mpr c40; have c40b1 : (a0 != 383) = true := bne_iff_ne.mpr c40; by_cases c41 : a0 = 837
      ·rw [if_pos c41] at H; have c41b0 : (a0 == 837) = true := beq_iff_eq.mpr c41; have c41b1 : (a0 != 837) = false := bne_eq_false_iff_eq.mpr c41; clear c41; obtain rfl := Option.some.inj H; go_wp2; go_ret; exact ⟨by first | rfl | (simp; done) | (simp [*]; done), by repeat (first | exact Drawn0.refl _ | apply Drawn0.step)⟩
      ·rw [if_neg c41] at H; have c41b0 : (a0 == 837) = false := beq_eq_false_iff_ne.mpr c41; have c41b1 : (a0 != 837) = true := bne_iff_ne.mpr c41; by_cases c42 : a0 = 902
       ·rw [if_pos c42] at H; have c42b0 : (a0 == 902) = true := beq_iff_eq.mpr c42; have c42b1 : (a0 != 902) = false := bne_eq_false_iff_eq.mpr c42; clear c42; obtain rfl := Option.some.inj H; go_wp2; go_ret; exact ⟨by first | rfl | (simp; done) | (simp [*]; done), by repeat (first | exact Drawn0.refl _ | apply Drawn0.step)⟩
       ·rw [if_neg c42] at H; have c42b0 : (a0 == 902) = false := beq_eq_false_iff_ne.mpr c42; have c42b1 : (a0 != 902) = true := bne_iff_ne.mpr c42; by_cases c43 : a0 = 962
        ·rw [if_pos c43] at H; have c43b0 : (a0 == 962) = true := beq_iff_eq.mpr c43; have c43b1 : (a0 != 962) = false := bne_eq_false_iff_eq.mpr c43; clear c43; obtain rfl := Option.some.inj H; go_wp2; go_ret; exact ⟨by first | rfl | (simp; done) | (simp [*]; done), by repeat (first | exact Drawn0.refl _ | apply Drawn0.step)⟩
        ·rw [if_neg c43] at H; have c43b0 : (a0 == 962) = false := beq_eq_false_iff_ne.mpr c43; have c43b1 : (a0 != 962) = true := bne_iff_ne.mpr c43; by_cases c44 : a0 = 8486
         ·rw [if_pos c44] at H; have c44b0 : (a0 == 8486) = true := beq_iff_eq.mpr c44; have c44b1 : (a0 != 8486) = false := bne_eq_false_iff_eq.mpr c44; clear c44; obtain rfl := Option.some.inj H; go_wp2; go_ret; exact ⟨by first | rfl | (simp; done) | (simp [*]; done), by repeat (first | exact Drawn0.refl _ | apply Drawn0.step)⟩
         ·rw [if_neg c44] at H; have c44b0 : (a0 == 8486) = false := beq_eq_false_iff_ne.mpr c44; have c44b1 : (a0 != 8486) = true := bne_iff_ne.mpr c44; by_cases c45 : a0 = 8490
          ·rw [if_pos c45] at H; have c45b0 : (a0 == 8490) = true := beq_iff_eq.mpr c45; have c45b1 : (a0 != 8490) = false := bne_eq_false_iff_eq.mpr c45; clear c45; obtain rfl := Option.some.inj H; go_wp2; go_ret; exact ⟨by first | rfl | (simp; done) | (simp [*]; done), by repeat (first | exact Drawn0.refl _ | apply Drawn0.step)⟩
          ·rw [if_neg c45] at H; have c45b0 : (a0 == 8490) = false := beq_eq_false_iff_ne.mpr c45; have c45b1 : (a0 != 8490) = true := bne_iff_ne.mpr c45; by_cases c46 : a0 = 8491
           ·rw [if_pos c46] at H; have c46b0 : (a0 == 8491) = true := beq_iff_eq.mpr c46; have c46b1 : (a0 != 8491) = false := bne_eq_false_iff_eq.mpr c46; clear c46; obtain rfl := Option.some.inj H; go_wp2; go_ret; exact ⟨by first | rfl | (simp; done) | (simp [*]; done), by repeat (first | exact Drawn0.refl _ | apply Drawn0.step)⟩
           ·rw [if_neg c46] at H; have c46b0 : (a0 == 8491) = false := beq_eq_false_iff_ne.mpr c46; have c46b1 : (a0 != 8491) = true := bne_iff_ne.mpr c46; obtain rfl := Option.some.inj H; go_wp2; go_ret; exact ⟨by first | rfl | (simp; done) | (simp [*]; done), by repeat (first | exact Drawn0.refl _ | apply Drawn0.step)⟩
end Go.Proofs.YthffpkdadffinaaDoor.X
namespace Go.Proofs.YthffpkdadffinaaDoor.X
open Go.RowKit YthffpkdadffinaaDoorW.PrintWords YthffpkdadffinaaDoorW.PrintLast YthffpkdadffinaaDoorW.PrintMore
attribute [local go_sem] max2_int min2_int max_two min_two max_three min_three max_four min_four   
set_option linter.unusedVariables false
set_option linter.unusedSimpArgs false
def ucd_Fold.j0 : Nat → Int → Int → Bool → Option (List Int)
 | 0, _, _, _ => none
 | k + 1, x0, x3, x4 => if x4 = true then (some (([115, 115] : List Int))) else (if x3 = 304 then (some (([105, 775] : List Int))) else ((ucd_fold.f k x0).bind fun t249 => (some (([t249] : List Int)))))
def ucd_Fold.f (k : Nat) (a0 : Int) : Option (List Int) := if a0 = 223 then (ucd_Fold.j0 k a0 a0 (a0 == 223)) else (ucd_Fold.j0 k a0 a0 (a0 == 7838))
theorem ucd_Fold.mono_l : ∀ k, (∀ y0 y1 y2, LeO (ucd_Fold.j0 k y0 y1 y2) (ucd_Fold.j0 (k + 1) y0 y1 y2))
 | 0 => fun _ _ _ r h => by simp [ucd_Fold.j0] at h
 | k + 1 => by
  have ih0 := ucd_Fold.mono_l k
  ·intro y0 y1 y2; unfold ucd_Fold.j0; repeat' first | (with_reducible exact ih0 _ _ _) | (with_reducible exact ucd_fold.mono _ _) | (with_reducible exact LeO.refl _) | (with_reducible exact LeO.none _) | (with_reducible refine LeO.ite ?_ ?_) | (with_reducible refine LeO.bind ?_ (fun _ => ?_)) | exact ih0 _ _ _ | exact ucd_fold.mono _ _ | exact LeO.none _ | refine LeO.ite ?_ ?_ | refine LeO.bind ?_ (fun _ => ?_)
theorem ucd_Fold.mono : ∀ a0 k, LeO (ucd_Fold.f k a0) (ucd_Fold.f (k + 1) a0) := by
 intro a0 k; have ih0 := ucd_Fold.mono_l k; unfold ucd_Fold.f; repeat' first | (with_reducible exact ih0 _ _ _) | (with_reducible exact ucd_fold.mono _ _) | (with_reducible exact LeO.refl _) | (with_reducible exact LeO.none _) | (with_reducible refine LeO.ite ?_ ?_) | (with_reducible refine LeO.bind ?_ (fun _ => ?_)) | exact ih0 _ _ _ | exact ucd_fold.mono _ _ | exact LeO.none _ | refine LeO.ite ?_ ?_ | refine LeO.bind ?_ (fun _ => ?_)
set_option maxHeartbeats 8000000 in
set_option maxRecDepth 100000 in
theorem ucd_Fold.calls (k : Nat) (a0 : Int) (r : List Int) (w : World) (h : ucd_Fold.f k a0 = some r) :
  Calls Tryd.prog 58 #[.int .i32 a0] w fun e w' => ∃ v0_ : Value, e = .returned (v0_) ∧ Kd.R (Kd.int .i32) 21 w' w.heap.size (fun _ => True) v0_ r ∧ Below w.heap.size w w' := by
 have HB := Aside0.mk (Below.refl w.heap.size w); have H : (if a0 = 223 then (ucd_Fold.j0 k a0 a0 (a0 == 223)) else (ucd_Fold.j0 k a0 a0 (a0 == 7838))) = some r := h; clear h; have HC2 := Aside0.mk H; clear H; go_enter Tryd.func58, Tryd.ntmps58; go_upto_if 4 with (fail); go_cut [4] (fun v4 wc => ∃ (kq : Nat) (x4_1 : Bool), v4 = .bool x4_1 ∧ Aside0 (ucd_Fold.j0 kq a0 a0 x4_1 = some r) ∧ Aside0 (kq ≤ k) ∧ Aside0 (Below w.heap.size w wc))
 case first =>
  have H := HC2.out; clear HC2; by_cases c3 : a0 = 223
  ·rw [if_pos c3] at H; have c3b0 : (a0 == 223) = true := beq_iff_eq.mpr c3; have c3b1 : (a0 != 223) = false := bne_eq_false_iff_eq.mpr c3; clear c3
   (first | rw [c3b0] | (simp only [i64_w, i32_w]; rw [c3b0]) | skip)
   have H' := Aside0.mk H; clear H; go_wp2; go_meet
   case rel => exact ⟨_, ((a0 == 223)), (by first | rfl | (simp; done) | (simp [*]; done)), H', ⟨by first | omega | exact Nat.le_refl _⟩, ⟨by repeat (first | (with_reducible first | exact HB.out | apply below_alloc | apply pw_below_drewN | apply below_drew1) | exact HB.out)⟩⟩
  ·rw [if_neg c3] at H; have c3b0 : (a0 == 223) = false := beq_eq_false_iff_ne.mpr c3; have c3b1 : (a0 != 223) = true := bne_iff_ne.mpr c3
   (first | rw [c3b0] | (simp only [i64_w, i32_w]; rw [c3b0]) | skip)
   have H' := Aside0.mk H; clear H; go_wp2; go_meet
   case rel => exact ⟨_, ((a0 == 7838)), (by first | rfl | (simp; done) | (simp [*]; done)), H', ⟨by first | omega | exact Nat.le_refl _⟩, ⟨by repeat (first | (with_reducible first | exact HB.out | apply below_alloc | apply pw_below_drewN | apply below_drew1) | exact HB.out)⟩⟩
 case rest =>
  clear HC2; (try clear p2); (try clear c3); (try clear c3b0); (try clear c3b1); obtain ⟨kq, x4_1, rfl, HA, HJ1, HB⟩ := hcut
  cases kq with
  | zero => exact absurd HA.out (by simp [ucd_Fold.j0])
  | succ kj1 =>
   have H := HA.out; clear HA; simp only [ucd_Fold.j0] at H; by_cases c4 : x4_1 = true
   ·subst c4; rw [if_pos rfl] at H; obtain ⟨y243, hy243⟩ : ∃ y_ : List Int, y_ = (([115, 115] : List Int)) := ⟨_, rfl⟩; (replace H : (some y243) = some r := by first | (rw [hy243]; with_reducible exact H) | (have H2_ := (Option.bind_some _ _).symm.trans H; rw [hy243]; with_reducible exact H2_) | (have H2_ := (Option.bind_some _ _).symm.trans H; with_reducible exact H2_) | with_reducible exact H | (rw [hy243]; exact H) | exact H); have Ny243 := Aside0.mk hy243; clear hy243; obtain rfl := Option.some.inj H; go_wp2_with (first | ((with_reducible refine gate_dst (N := 7) rfl ?_); refine Kd.R_lit (Kd.int .i32) _ 21 ?hg (N := 7) ?hd (xs := ([115, 115] : List Int)) (inner := [.int .i32 115, .int .i32 115]) (ok := fun _ => True) (okp := fun _ => True) ?hr ?hp (fun _ hk => hk) trivial (Below.refl _ _) (Nat.le_refl _) (by simp) ?_; (case hd => rfl); (case hg => rfl); (case hr => first | (go_simp; done) | (go_simp; rfl)); (case hp => exact (Reps.one (show Kd.M (Kd.int .i32) _ _ _ 115 [.int .i32 115] from rfl) (Reps.one (show Kd.M (Kd.int .i32) _ _ _ 115 [.int .i32 115] from rfl) (Reps.none _ _)))); intro v244 w5 ho6 hb hg_ hnew_; clear hg_ hnew_; (first | rw [← Ny243.out] at ho6 | (simp only [Int.reduceToNat] at ho6; rw [← Ny243.out] at ho6)); have n0_ := Aside0.mk (Kd.R_lower ho6 (below_size (by repeat (first | (with_reducible first | exact HB.out | apply below_alloc | apply pw_below_drewN | apply below_drew1) | exact HB.out)))); have n1_ := Aside0.mk (below_step (by repeat (first | (with_reducible first | exact HB.out | apply below_alloc | apply pw_below_drewN | apply below_drew1) | exact HB.out)) hb); clear HB; have HO245 := n0_; have HB := n1_; clear n0_ n1_; clear hb ho6)); go_ret; exact ⟨_, by first | rfl | (simp [errW_none, errW_some] <;> rfl) | (simp [*, errW_none, errW_some] <;> rfl), by (with_reducible repeat (first | apply Kd.R_alloc | apply Kd.R_drewN | apply Kd.R_drew)); exact HO245.out, by repeat (first | (with_reducible first | exact HB.out | apply below_alloc | apply pw_below_drewN | apply below_drew1) | exact HB.out)⟩
   ·replace c4 := Bool.eq_false_iff.mpr c4; subst c4; rw [if_neg (show ¬ (false = true) by decide)] at H; by_cases c7 : a0 = 304
    ·rw [if_pos c7] at H; have c7b0 : (a0 == 304) = true := beq_iff_eq.mpr c7; have c7b1 : (a0 != 304) = false := bne_eq_false_iff_eq.mpr c7; clear c7; obtain ⟨y246, hy246⟩ : ∃ y_ : List Int, y_ = (([105, 775] : List Int)) := ⟨_, rfl⟩; (replace H : (some y246) = some r := by first | (rw [hy246]; with_reducible exact H) | (have H2_ := (Option.bind_some _ _).symm.trans H; rw [hy246]; with_reducible exact H2_) | (have H2_ := (Option.bind_some _ _).symm.trans H; with_reducible exact H2_) | with_reducible exact H | (rw [hy246]; exact H) | exact H); have Ny246 := Aside0.mk hy246; clear hy246; obtain rfl := Option.some.inj H; go_wp2_with (first | ((with_reducible refine gate_dst (N := 10) rfl ?_); refine Kd.R_lit (Kd.int .i32) _ 21 ?hg (N := 10) ?hd (xs := ([105, 775] : List Int)) (inner := [.int .i32 105, .int .i32 775]) (ok := fun _ => True) (okp := fun _ => True) ?hr ?hp (fun _ hk => hk) trivial (Below.refl _ _) (Nat.le_refl _) (by simp) ?_; (case hd => rfl); (case hg => rfl); (case hr => first | (go_simp; done) | (go_simp; rfl)); (case hp => exact (Reps.one (show Kd.M (Kd.int .i32) _ _ _ 105 [.int .i32 105] from rfl) (Reps.one (show Kd.M (Kd.int .i32) _ _ _ 775 [.int .i32 775] from rfl) (Reps.none _ _)))); intro v247 w8 ho9 hb hg_ hnew_; clear hg_ hnew_; (first | rw [← Ny246.out] at ho9 | (simp only [Int.reduceToNat] at ho9; rw [← Ny246.out] at ho9)); have n0_ := Aside0.mk (Kd.R_lower ho9 (below_size (by repeat (first | (with_reducible first | exact HB.out | apply below_alloc | apply pw_below_drewN | apply below_drew1) | exact HB.out)))); have n1_ := Aside0.mk (below_step (by repeat (first | (with_reducible first | exact HB.out | apply below_alloc | apply pw_below_drewN | apply below_drew1) | exact HB.out)) hb); clear HB; have HO248 := n0_; have HB := n1_; clear n0_ n1_; clear hb ho9)); go_ret; exact ⟨_, by first | rfl | (simp [errW_none, errW_some] <;> rfl) | (simp [*, errW_none, errW_some] <;> rfl), by (with_reducible repeat (first | apply Kd.R_alloc | apply Kd.R_drewN | apply Kd.R_drew)); exact HO248.out, by repeat (first | (with_reducible first | exact HB.out | apply below_alloc | apply pw_below_drewN | apply below_drew1) | exact HB.out)⟩
    ·rw [if_neg c7] at H; have c7b0 : (a0 == 304) = false := beq_eq_false_iff_ne.mpr c7; have c7b1 : (a0 != 304) = true := bne_iff_ne.mpr c7; replace H := Option.bind_eq_some_iff.mp H; obtain ⟨t249, A100, H⟩ := H; replace H : (some (([t249] : List Int))) = some r := H; have A10 := Aside0.mk A100; clear A100; obtain ⟨y250, hy250⟩ : ∃ y_ : List Int, y_ = (([t249] : List Int)) := ⟨_, rfl⟩; (replace H : (some y250) = some r := by first | (rw [hy250]; with_reducible exact H) | (have H2_ := (Option.bind_some _ _).symm.trans H; rw [hy250]; with_reducible exact H2_) | (have H2_ := (Option.bind_some _ _).symm.trans H; with_reducible exact H2_) | with_reducible exact H | (rw [hy250]; exact H) | exact H); have Ny250 := Aside0.mk hy250; clear hy250; obtain rfl := Option.some.inj H; go_wp2_with (first | ((with_reducible refine gate_callee (f := 84) rfl ?_); refine goesL_ (some 12) rfl rfl Tryd.func84 (by kernel_rfl) rfl #[.int .i32 a0] rfl (by (try simp only [List.map_toArray, List.map_cons, List.map_nil]); first | done | rfl | (simp only [List.length_drop, List.length_take]; rfl)) ?_; (with_reducible refine (ucd_fold.calls kj1 a0 t249 _ A10.out).mono ?_); rintro e w' ⟨rfl, ⟨nd, rfl⟩⟩; refine ⟨_, rfl, ?_⟩) | ((with_reducible refine gate_dst (N := 13) rfl ?_); refine Kd.R_lit (Kd.int .i32) _ 21 ?hg (N := 13) ?hd (xs := ([t249] : List Int)) (inner := [.int .i32 t249]) (ok := fun _ => True) (okp := fun _ => True) ?hr ?hp (fun _ hk => hk) trivial (Below.refl _ _) (Nat.le_refl _) (by simp) ?_; (case hd => rfl); (case hg => rfl); (case hr => first | (go_simp; done) | (go_simp; rfl)); (case hp => exact (Reps.one (show Kd.M (Kd.int .i32) _ _ _ t249 [.int .i32 t249] from rfl) (Reps.none _ _))); intro v251 w11 ho12 hb hg_ hnew_; clear hg_ hnew_; (first | rw [← Ny250.out] at ho12 | (simp only [Int.reduceToNat] at ho12; rw [← Ny250.out] at ho12)); have n0_ := Aside0.mk (Kd.R_lower ho12 (below_size (by repeat (first | (with_reducible first | exact HB.out | apply below_alloc | apply pw_below_drewN | apply below_drew1) | exact HB.out)))); have n1_ := Aside0.mk (below_step (by repeat (first | (with_reducible first | exact HB.out | apply below_alloc | apply pw_below_drewN | apply below_drew1) | exact HB.out)) hb); clear HB; have HO252 := n0_; have HB := n1_; clear n0_ n1_; clear hb ho12)); go_ret; exact ⟨_, by first | rfl | (simp [errW_none, errW_some] <;> rfl) | (simp [*, errW_none, errW_some] <;> rfl), by (with_reducible repeat (first | apply Kd.R_alloc | apply Kd.R_drewN | apply Kd.R_drew)); exact HO252.out, by repeat (first | (with_reducible first | exact HB.out | apply below_alloc | apply pw_below_drewN | apply below_drew1) | exact HB.out)⟩
end Go.Proofs.YthffpkdadffinaaDoor.X
namespace Go.Proofs.YthffpkdadffinaaDoor.Vef
set_option linter.unusedVariables false
set_option linter.unusedSimpArgs false
open Go.RowKit YthffpkdadffinaaDoorW.PrintWords Hp Va Vc Vd X Ve
def allB (p : Int → Bool) : Nat → Int → Bool
  | 0, a => p a
  | d + 1, a => allB p d a && allB p d (a + 2 ^ d)
theorem allB_at (p : Int → Bool) : ∀ (d : Nat) (a : Int), allB p d a = true → ∀ r, a ≤ r → r < a + 2 ^ d → p r = true
  | 0, a, h, r, h1, h2 => by
    (have : r = a := by simp at h2; omega); subst this; exact h
  | d + 1, a, h, r, h1, h2 => by
    rw [allB, Bool.and_eq_true] at h; rw [Int.pow_succ] at h2; by_cases h3 : r < a + 2 ^ d
    · exact allB_at p d a h.1 r h1 h3
    · exact allB_at p d (a + 2 ^ d) h.2 r (by omega) (by omega)
def foldU (r : Int) : List Int := (ucd_Fold.f 20 r).getD []
theorem fold_out (r : Int) (h : r < 65 ∨ 8492 ≤ r) : ucd_Fold.f 20 r = some [r] := by
  have b1 : decide (r ≤ 90) = decide (r < 65) := by rw [decide_eq_decide]; omega
  have h1 : ucd_fold.f 19 r = some r := by
    rcases h with h | h
    · simp only [ucd_fold.f, ucd_fold.j0, ucd_fold.j1, ucd_fold.j2, ucd_fold.j3, ucd_fold.j4, ucd_fold.j5, ucd_fold.j6, ucd_fold.j7, ucd_fold.j8]; (have e : ∀ k : Int, 65 ≤ k → (r ≥ k) = False := fun k hk => by simp; omega); (have e2 : ∀ k : Int, 65 ≤ k → (r = k) = False := fun k hk => by simp; omega); simp [e, e2]
    · simp only [ucd_fold.f, ucd_fold.j0, ucd_fold.j1, ucd_fold.j2, ucd_fold.j3, ucd_fold.j4, ucd_fold.j5, ucd_fold.j6, ucd_fold.j7, ucd_fold.j8]; (have e : ∀ k : Int, k ≤ 8491 → (r ≤ k) = False := fun k hk => by simp; omega); (have e2 : ∀ k : Int, k ≤ 8491 → (r = k) = False := fun k hk => by simp; omega); simp [e, e2]
  (have n1 : r ≠ 223 := by omega); (have n2 : r ≠ 7838 := by omega); (have n3 : r ≠ 304 := by omega); unfold ucd_Fold.f; rw [if_neg n1, beq_eq_false_iff_ne.2 n2, ucd_Fold.j0, if_neg (by decide), if_neg n3, h1]
  rfl
def foldT (r : Int) : Bool := match ucd_Fold.f 20 r with
  | some l => l.all (fun x => (ucd_Fold.f 20 x == some [x]) && decide (0 ≤ x ∧ x < 10000))
  | none => false
theorem fold_in1 : allB foldT 13 0 = true := by decide +kernel
theorem fold_in2 : allB foldT 9 8192 = true := by decide +kernel
end Go.Proofs.YthffpkdadffinaaDoor.Vef
namespace Go.Proofs.YthffpkdadffinaaDoor.Vf
set_option linter.unusedVariables false
set_option linter.unusedSimpArgs false
open Go.RowKit YthffpkdadffinaaDoorW.PrintWords Hp Va Vc Vd Ve Vef X
theorem fold_some (r : Int) : ucd_Fold.f 20 r = some (foldU r) := by
  unfold foldU; by_cases h : r < 65 ∨ 8492 ≤ r
  · rw [fold_out r h]; rfl
  · have h1 : foldT r = true := by
      by_cases h2 : r < 8192
      · exact allB_at foldT 13 0 fold_in1 r (by omega) (by omega)
      · exact allB_at foldT 9 8192 fold_in2 r (by omega) (by omega)
    unfold foldT at h1
    cases h3 : ucd_Fold.f 20 r with
    | none => rw [h3] at h1; cases h1
    | some l => rfl
theorem fold_range (r : Int) (hr : -2147483648 ≤ r ∧ r ≤ 2147483647) : ∀ x ∈ foldU r, -2147483648 ≤ x ∧ x ≤ 2147483647 := by
  by_cases h : r < 65 ∨ 8492 ≤ r
  · intro x hx; (have : foldU r = [r] := by unfold foldU; rw [fold_out r h]; rfl); rw [this] at hx; obtain rfl := List.mem_singleton.1 hx; exact hr
  · have h1 : foldT r = true := by
      by_cases h2 : r < 8192
      · exact allB_at foldT 13 0 fold_in1 r (by omega) (by omega)
      · exact allB_at foldT 9 8192 fold_in2 r (by omega) (by omega)
    unfold foldT at h1; rw [fold_some r] at h1; intro x hx; have h2 := List.all_eq_true.1 h1 x hx; rw [Bool.and_eq_true, decide_eq_true_eq] at h2; omega
end Go.Proofs.YthffpkdadffinaaDoor.Vf
namespace Go.Proofs.YthffpkdadffinaaDoor.X
set_option linter.unusedVariables false
set_option linter.unusedSimpArgs false
open Go.RowKit YthffpkdadffinaaDoorW.PrintWords
end Go.Proofs.YthffpkdadffinaaDoor.X
namespace Go.Proofs.YthffpkdadffinaaDoor.Vp
set_option linter.unusedVariables false
set_option linter.unusedSimpArgs false
open Go.RowKit YthffpkdadffinaaDoorW.PrintWords Ev0 X Va Vb Vc Vd Ve Vef Vf Vp0
theorem foldEv (r : Int) : Ev (fun k => ucd_Fold.f k r) (foldU r) := Ev.of (ucd_Fold.mono r) (fold_some r)
theorem fold_len1 : allB (fun r => decide ((foldU r).length ≤ 2)) 13 0 = true := by decide +kernel
theorem fold_len2 : allB (fun r => decide ((foldU r).length ≤ 2)) 9 8192 = true := by decide +kernel
theorem fold_len (r : Int) : (foldU r).length ≤ 2 := by
  by_cases h : r < 65 ∨ 8492 ≤ r
  · (have : foldU r = [r] := by unfold foldU; rw [fold_out r h]; rfl); rw [this]; simp
  · by_cases h2 : r < 8192
    · exact of_decide_eq_true (allB_at _ 13 0 fold_len1 r (by omega) (by omega))
    · exact of_decide_eq_true (allB_at _ 9 8192 fold_len2 r (by omega) (by omega))
end Go.Proofs.YthffpkdadffinaaDoor.Vp
namespace Go.Proofs.YthffpkdadffinaaDoor.Wa
set_option linter.unusedVariables false
set_option linter.unusedSimpArgs false
open Go.Proofs.YthffpkdadffinaaDoor.Ux (Bytes full)
open Go.Proofs.YthffpkdadffinaaDoor.Ve (opn)
open Go.Proofs.YthffpkdadffinaaDoor.Vd (decU)
open Go.Proofs.YthffpkdadffinaaDoor.Vef (foldU allB allB_at fold_out)
open Go.Proofs.YthffpkdadffinaaDoor.Vp (fold_len)
open Go.Proofs.YthffpkdadffinaaDoor.Vf (fold_range)
open Go.Proofs.YthffpkdadffinaaDoor.Ot (rns)
open Go.Proofs.YthffpkdadffinaaDoor.En (vld enc enc_len enc_byte enc_append)
open Go.Proofs.YthffpkdadffinaaDoor.Na (ordL_mem ordL)
open Go.RowKit YthffpkdadffinaaDoorW.PrintWords Ev0 X Oa Vp0 Sga Sgp Sgt Sgv Sgw Sgu
def fl2 (l : List Int) : List Int := l.flatMap foldU
theorem fl2_len (l : List Int) : (fl2 l).length ≤ 2 * l.length := by
  induction l with
  | nil => simp [fl2]
  | cons x t ih =>
    have := fold_len x; unfold fl2 at ih ⊢; rw [List.flatMap_cons, List.length_append, List.length_cons]; omega
theorem fl2_32 (l : List Int) (h : ∀ x ∈ l, I32 x) : ∀ x ∈ fl2 l, I32 x := fun y hy => by
  obtain ⟨x, hx, hy⟩ := List.mem_flatMap.1 hy; exact fold_range x (h x hx) y hy
def keyU (l : List Int) : List Int := nrm (fl2 (nrm l))
theorem nrm_32 (l : List Int) (h : ∀ x ∈ l, I32 x) : ∀ x ∈ nrm l, I32 x := fun x hx => (nrm_bot l h x hx).2
def keyB (b : List Int) : List Int := enc (keyU (rns b))
def keyS (b : List Int) : ByteArray := strOfNums (keyB b)
theorem txt_nfd (b : List Int) : txt (rns b) = strOfNums (nfd b) := rfl
theorem str_size {l : List Int} (h : Bytes l) : (strOfNums l).size = l.length := by rw [← bytesOf_length, Ot.bytes_str l h]
end Go.Proofs.YthffpkdadffinaaDoor.Wa
namespace Go.Proofs.YthffpkdadffinaaDoor.Wb
set_option linter.unusedVariables false
set_option linter.unusedSimpArgs false
open Go.Proofs.YthffpkdadffinaaDoor.Ux (Bytes full)
open Go.Proofs.YthffpkdadffinaaDoor.Ve (opn)
open Go.Proofs.YthffpkdadffinaaDoor.Vb (cat)
open Go.Proofs.YthffpkdadffinaaDoor.Ot (rns)
open Go.RowKit YthffpkdadffinaaDoorW.PrintWords X Vp0 Sga Sgb Sgp Sgt Sgv Sgw Wa
def kindU : List Int → Int
  | [] => 0
  | x :: _ => if x = 95 then 3 else if cat x = 1 then 1 else if cat x = 3 then 2 else 0
def kindF (s : ByteArray) : Int := kindU (rns (bytesOf s))
def jointF (s : ByteArray) : Int := if s = ⟨#[39]⟩ ∨ s = ⟨#[226, 128, 153]⟩ ∨ s = ⟨#[194, 183]⟩ then 1 else if s = ⟨#[46]⟩ ∨ s = ⟨#[44]⟩ then 2 else 0
def T (l : List ByteArray) (i : Nat) : ByteArray := l.getD i ⟨#[]⟩
def inW (l : List ByteArray) (i : Nat) : Bool := decide (kindF (T l i) ≠ 0) || (decide (jointF (T l i) ≠ 0) && decide (0 < i) && decide (i + 1 < l.length) && decide (kindF (T l (i - 1)) = jointF (T l i)) && decide (kindF (T l (i + 1)) = jointF (T l i)))
def runs (fl : Nat → Bool) : Nat → Nat → Option Nat → List (Nat × Nat)
  | 0, _, none => []
  | 0, i, some f => [(f, i)]
  | q + 1, i, none => if fl i = true then runs fl q (i + 1) (some i) else runs fl q (i + 1) none
  | q + 1, i, some f => if fl i = true then runs fl q (i + 1) (some f) else (f, i) :: runs fl q (i + 1) none
def Apart (N : Nat) : Nat → List (Nat × Nat) → Prop
  | _, [] => True
  | n, p :: r => n ≤ p.1 ∧ p.1 < p.2 ∧ p.2 ≤ N ∧ Apart N (p.2 + 1) r
theorem Apart.low {N : Nat} {n m : Nat} {l : List (Nat × Nat)} (h : Apart N n l) (hm : m ≤ n) : Apart N m l := by
  cases l with
  | nil => trivial
  | cons p r => exact ⟨Nat.le_trans hm h.1, h.2⟩
theorem runs_apart (fl : Nat → Bool) : ∀ (q i : Nat), Apart (i + q) i (runs fl q i none) ∧ ∀ f, f < i → Apart (i + q) f (runs fl q i (some f))
  | 0, i => ⟨trivial, fun f h => ⟨Nat.le_refl _, h, Nat.le_refl _, trivial⟩⟩
  | q + 1, i => by
    have ih := runs_apart fl q (i + 1); rw [show i + 1 + q = i + (q + 1) by omega] at ih; constructor
    · rw [runs]; split
      · exact ih.2 i (Nat.lt_succ_self _)
      · exact ih.1.low (Nat.le_succ _)
    · intro f hf; rw [runs]; split
      · exact ih.2 f (Nat.lt_succ_of_lt hf)
      · exact ⟨Nat.le_refl _, hf, by omega, ih.1⟩
theorem runs_len (fl : Nat → Bool) : ∀ (q i : Nat), (runs fl q i none).length ≤ q ∧ ∀ f, (runs fl q i (some f)).length ≤ q + 1
  | 0, i => ⟨Nat.le_refl _, fun f => Nat.le_refl _⟩
  | q + 1, i => by
    have ih := runs_len fl q (i + 1); constructor
    · rw [runs]; split
      · exact ih.2 i
      · exact Nat.le_succ_of_le ih.1
    · intro f; rw [runs]; split
      · exact Nat.le_succ_of_le (ih.2 f)
      · rw [List.length_cons]; omega
def runsT (l : List ByteArray) : List (Nat × Nat) := runs (inW l) l.length 0 none
def catR (l : List ByteArray) (f t : Nat) : ByteArray := catB ((l.take t).drop f)
def keyR (l : List ByteArray) (f t : Nat) : ByteArray := keyS (bytesOf (catR l f t))
theorem runsT_apart (l : List ByteArray) : Apart l.length 0 (runsT l) := by
  have h := (runs_apart (inW l) l.length 0).1; rw [Nat.zero_add] at h; exact h
theorem Apart.mem {N : Nat} : ∀ {l : List (Nat × Nat)} {n : Nat}, Apart N n l → ∀ p ∈ l, n ≤ p.1 ∧ p.1 < p.2 ∧ p.2 ≤ N
  | [], _, _, p, hp => by cases hp
  | q :: r, n, h, p, hp => by
    rcases List.mem_cons.1 hp with rfl | hp
    · exact ⟨h.1, h.2.1, h.2.2.1⟩
    · have := Apart.mem h.2.2.2 p hp; exact ⟨by have := h.1; have := h.2.1; omega, this.2⟩
theorem Apart.next {N : Nat} : ∀ {l : List (Nat × Nat)} {n : Nat}, Apart N n l → ∀ i (h : i + 1 < l.length), l[i].2 < l[i + 1].1
  | [], _, _, i, h => by simp at h
  | [p], _, _, i, h => by simp at h
  | p :: q :: r, n, hh, 0, h => hh.2.2.2.1
  | p :: q :: r, n, hh, i + 1, h => Apart.next hh.2.2.2 i (by simpa using h)
def FillO (b : List Int) : Nat → Bool → List SG → Prop
  | a, _, [] => a ≤ b.length
  | a, o, s :: l => s.f1 = a ∧ ∃ (e : Nat) (rs : List Int), s.f2 = e ∧ a < e ∧ e ≤ b.length ∧ s.f0 = txt rs ∧ Inv b a e rs ∧ (o = true → ∃ x u, rs = x :: u ∧ opn x = true) ∧ FillO b e true l
theorem FillO.take {b : List Int} : ∀ {l : List SG} {a : Nat} {o : Bool} (k : Nat), FillO b a o l → FillO b a o (l.take k)
  | [], a, o, k, h => by rw [List.take_nil]; exact h
  | s :: l, a, o, 0, h => by
    obtain ⟨-, e, rs, -, h2, h3, -⟩ := h; (show a ≤ b.length); omega
  | s :: l, a, o, k + 1, h => by
    obtain ⟨h1, e, rs, h2, h3, h4, h5, h6, h7, h8⟩ := h; exact ⟨h1, e, rs, h2, h3, h4, h5, h6, h7, h8.take k⟩
theorem inv_app {b : List Int} {a e d : Nat} {r s : List Int} (h : Inv b a e r) (h2 : Inv b e d s) (hed : e ≤ d) : Inv b a d (r ++ s) := by
  intro m hm; rw [h m (by omega), h2 m hm, List.append_assoc]
theorem FillO.range {b : List Int} : ∀ {l : List SG} {a : Nat} {o : Bool}, FillO b a o l → ∀ m (hm : m < l.length), ∃ (e : Nat) (rs : List Int), l[m].f2 = e ∧ a < e ∧ e ≤ b.length ∧ catB ((l.take (m + 1)).map (·.f0)) = txt rs ∧ Inv b a e rs ∧ (o = true → ∃ x u, rs = x :: u ∧ opn x = true) ∧ FillO b e true (l.drop (m + 1))
  | [], a, o, h, m, hm => by simp at hm
  | s :: l, a, o, h, 0, hm => by
    obtain ⟨h1, e, rs, h2, h3, h4, h5, h6, h7, h8⟩ := h; refine ⟨e, rs, h2, h3, h4, ?_, h6, h7, h8⟩; rw [← h5]; refine ba_ext ?_; (show (s.f0 ++ (⟨#[]⟩ : ByteArray)).data.toList = _); rw [ba_app]; simp
  | s :: l, a, o, h, m + 1, hm => by
    obtain ⟨h1, e, rs, h2, h3, h4, h5, h6, h7, h8⟩ := h; obtain ⟨e2, rs2, q2, q3, q4, q5, q6, q7, q8⟩ := FillO.range h8 m (by simpa using hm); obtain ⟨x, u, rfl, hx⟩ := q7 rfl; refine ⟨e2, rs ++ x :: u, q2, by omega, q4, ?_, inv_app h6 q6 (by omega), fun ho => ?_, q8⟩
    · rw [txt_app rs (x :: u) x u rfl hx, ← q5, ← h5]
      rfl
    · obtain ⟨y, v, rfl, hy⟩ := h7 ho; exact ⟨y, v ++ x :: u, rfl, hy⟩
theorem FillO.at {b : List Int} : ∀ {l : List SG} {a : Nat} {o : Bool}, FillO b a o l → ∀ m (hm : m < l.length), ∃ (c : Nat) (p : Bool), l[m].f1 = c ∧ a ≤ c ∧ FillO b c p (l.drop m)
  | [], a, o, h, m, hm => by simp at hm
  | s :: l, a, o, h, 0, hm => ⟨a, o, h.1, Nat.le_refl _, h⟩
  | s :: l, a, o, h, m + 1, hm => by
    obtain ⟨h1, e, rs, h2, h3, h4, h5, h6, h7, h8⟩ := h; obtain ⟨c, p, q1, q2, q3⟩ := FillO.at h8 m (by simpa using hm); exact ⟨c, p, q1, by omega, q3⟩
end Go.Proofs.YthffpkdadffinaaDoor.Wb
namespace Go.Proofs.YthffpkdadffinaaDoor.Vtf
set_option linter.unusedVariables false
set_option linter.unusedSimpArgs false
open Go.Proofs.YthffpkdadffinaaDoor.Vef (foldU allB allB_at fold_out)
open Go.RowKit YthffpkdadffinaaDoorW.PrintWords Hp X
open Go.Proofs.YthffpkdadffinaaDoor.Vin (inB in_some)
abbrev KI : Kd Int := Kd.int .i32
abbrev T3 : Nat := 21
theorem InP (w : World) (r lo hi : Int) : Calls Tryd.prog 88 #[.int .i32 r, .int .i32 lo, .int .i32 hi] w fun e w' => e = .returned (.bool (inB r lo hi)) ∧ Below w.heap.size w w' :=
  (tremaref02_in.calls r lo hi _ w (in_some r lo hi)).mono fun _ _ ⟨h1, h2⟩ => ⟨h1, h2.below⟩
def fromL : List Int := [181, 376, 383, 837, 902, 962, 8486, 8490, 8491]
def toL : List Int := [956, 255, 115, 953, 940, 963, 969, 107, 229]
def refL (r : Int) : List Int → List Int → List Int
  | f :: fs, t :: ts => if r = f then [t] else refL r fs ts
  | _, _ => [r]
def q1 (r : Int) : Bool := inB r 65 90 || inB r 192 214 || inB r 216 222 || inB r 913 929 || inB r 931 937 || inB r 1040 1071
def q3 (r : Int) : Bool := (Int.tmod r 2 == 0) && (inB r 256 302 || inB r 306 310 || inB r 330 374 || inB r 7680 7828)
def q4 (r : Int) : Bool := (Int.tmod r 2 == 1) && (inB r 313 327 || inB r 377 381)
def refF (r : Int) : List Int := if q1 r = true then [r + 32] else if inB r 1024 1039 = true then [r + 80] else if q3 r = true then [r + 1] else if q4 r = true then [r + 1] else if r = 223 ∨ r = 7838 then [115, 115] else if r = 304 then [105, 775] else refL r fromL toL
theorem ref_1 : allB (fun r => refF r == foldU r) 13 0 = true := by decide +kernel
theorem ref_2 : allB (fun r => refF r == foldU r) 9 8192 = true := by decide +kernel
theorem inB_out {r lo hi : Int} (h : r < 65 ∨ 8492 ≤ r) (h1 : 65 ≤ lo) (h2 : hi ≤ 8491) : inB r lo hi = false := by
  unfold inB; by_cases c : lo ≤ r
  · rw [decide_eq_false (show ¬ r ≤ hi by omega), Bool.and_false]
  · rw [decide_eq_false c, Bool.false_and]
theorem ref_fold (r : Int) : refF r = foldU r := by
  by_cases h : r < 65 ∨ 8492 ≤ r
  · (have e : foldU r = [r] := by unfold foldU; rw [fold_out r h]; rfl); (have n : ∀ k : Int, 65 ≤ k → k ≤ 8491 → (r = k) = False := fun k h1 h2 => by simp; omega); rw [e]; unfold refF q1 q3 q4; simp [inB_out h, n, refL, fromL, toL]
  · by_cases h2 : r < 8192
    · exact eq_of_beq (allB_at _ 13 0 ref_1 r (by omega) (by omega))
    · exact eq_of_beq (allB_at _ 9 8192 ref_2 r (by omega) (by omega))
end Go.Proofs.YthffpkdadffinaaDoor.Vtf
