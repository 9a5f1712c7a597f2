/-
  Several texts of this claim in one: what its law's proof uses.
-/
import Derived.Test.YtiggjbclbdikmaaDoorMSG2
import Derived.Test.YtiggjbclbdikmaaDoorMSG12
import Derived.Test.YtiggjbclbdikmaaDoorMSG7
import Derived.Test.YtiggjbclbdikmaaDoorMSG14
import Derived.Test.YtiggjbclbdikmaaDoorMSG13
import Derived.Test.YtiggjbclbdikmaaDoorRows
import Derived.Test.YtiggjbclbdikmaaDoorTie
import Derived.Test.YtiggjbclbdikmaaDoorCards
import Derived.WalkKit
import Derived.ProofKit
import Derived.OpenShut
import Derived.ShutString
import Derived.ChangeOld
import Derived.Below
import Derived.SizedLaws
import Derived.JoinedCond
import Derived.SevenTiedAt
import Derived.LaidMore
import Derived.Stop.Joined
import Derived.Deep.DeepHandedRow
import Derived.Deep.DeepWitnessRowRef
namespace Go.Proofs.YtiggjbclbdikmaaDoor.X
open Go.RowKit Go.Proofs.YtiggjbclbdikmaaDoorW.PrintWords Go.Proofs.YtiggjbclbdikmaaDoorW.PrintLast Go.Proofs.YtiggjbclbdikmaaDoorW.PrintMore
attribute [local go_sem] max2_int min2_int max_two min_two max_three min_three max_four min_four   
set_option linter.unusedVariables false
set_option linter.unusedSimpArgs false
def tremalaw04_SegCounts.l0 : Nat → List Int → Int → List Int → Int → Int → Option (Bool)
 | 0, _, _, _, _, _ => none
 | k + 1, x0, x3, x9, x10, x11 => if x11 < x10 then (if 0 ≤ x11 then (if x11 < (x9.length : Int) then ((tremaref02_Opens.f k (rd x9 x11)).bind fun t526 => (if t526 = true then (tremalaw04_SegCounts.l0 k x0 (wrap64 (x3 + 1)) x9 x10 (wrap64 (x11 + 1))) else (if x11 = 0 then (tremalaw04_SegCounts.l0 k x0 (wrap64 (x3 + 1)) x9 x10 (wrap64 (x11 + 1))) else (tremalaw04_SegCounts.l0 k x0 x3 x9 x10 (wrap64 (x11 + 1)))))) else (none)) else (none)) else ((seg_Texts.f x0).bind fun t527 => (some ((t527.length : Int) == x3)))
def tremalaw04_SegCounts.f (k : Nat) (l0 : List Int) : Option (Bool) := (tremalaw04_fixed.f).bind fun t521 => (if t521 = true then ((tremaref01_Runes.f k l0).bind fun t522 => (tremalaw04_SegCounts.l0 k l0 0 t522 (t522.length : Int) 0)) else (some false))
theorem tremalaw04_SegCounts.mono_l : ∀ k, (∀ y0 y1 y2 y3 y4, LeO (tremalaw04_SegCounts.l0 k y0 y1 y2 y3 y4) (tremalaw04_SegCounts.l0 (k + 1) y0 y1 y2 y3 y4))
 | 0 => fun _ _ _ _ _ r h => by simp [tremalaw04_SegCounts.l0] at h
 | k + 1 => by
  have ih0 := tremalaw04_SegCounts.mono_l k
  ·intro y0 y1 y2 y3 y4
   unfold tremalaw04_SegCounts.l0
   repeat' first
   | (with_reducible exact ih0 _ _ _ _ _)
   | (with_reducible exact tremaref01_Runes.mono _ _)
   | (with_reducible exact tremaref02_Opens.mono _ _)
   | (with_reducible exact LeO.refl _)
   | (with_reducible exact LeO.none _)
   | (with_reducible refine LeO.ite ?_ ?_)
   | (with_reducible refine LeO.bind ?_ (fun _ => ?_))
   | exact ih0 _ _ _ _ _
   | exact tremaref01_Runes.mono _ _
   | exact tremaref02_Opens.mono _ _
   | exact LeO.none _
   | refine LeO.ite ?_ ?_
   | refine LeO.bind ?_ (fun _ => ?_)
theorem tremalaw04_SegCounts.mono : ∀ a0 k, LeO (tremalaw04_SegCounts.f k a0) (tremalaw04_SegCounts.f (k + 1) a0) := by
 intro a0 k
 have ih0 := tremalaw04_SegCounts.mono_l k
 unfold tremalaw04_SegCounts.f
 repeat' first
   | (with_reducible exact ih0 _ _ _ _ _)
   | (with_reducible exact tremaref01_Runes.mono _ _)
   | (with_reducible exact tremaref02_Opens.mono _ _)
   | (with_reducible exact LeO.refl _)
   | (with_reducible exact LeO.none _)
   | (with_reducible refine LeO.ite ?_ ?_)
   | (with_reducible refine LeO.bind ?_ (fun _ => ?_))
   | exact ih0 _ _ _ _ _
   | exact tremaref01_Runes.mono _ _
   | exact tremaref02_Opens.mono _ _
   | exact LeO.none _
   | refine LeO.ite ?_ ?_
   | refine LeO.bind ?_ (fun _ => ?_)
set_option maxHeartbeats 8000000 in
set_option maxRecDepth 100000 in
theorem tremalaw04_SegCounts.calls (k : Nat) (A0 : Option Addr) (c0 : Nat) (l0 : List Int) (r : Bool) (w : World) (hr0 : Kd.C (Kd.int .u8) w A0 l0.length l0) (hc0 : l0.length ≤ c0) (h : tremalaw04_SegCounts.f k l0 = some r) (hG0 : Va.G w) :
  Calls Tryd.prog 17 #[.slice A0 l0.length c0] w fun e w' => e = .returned (.bool r) ∧ Below w.heap.size w w' := by
 have HG := Aside0.mk hG0
 clear hG0
 have HR0 := Aside0.mk hr0
 have HC0 := Aside0.mk hc0
 clear hr0 hc0
 have HB := Aside0.mk (Below.refl w.heap.size w)
 have H : ((tremalaw04_fixed.f).bind fun t521 => (if t521 = true then ((tremaref01_Runes.f k l0).bind fun t522 => (tremalaw04_SegCounts.l0 k l0 0 t522 (t522.length : Int) 0)) else (some false))) = some r := h
 clear h
 replace H := Option.bind_eq_some_iff.mp H
 obtain ⟨t521, A20, H⟩ := H
 replace H : (if t521 = true then ((tremaref01_Runes.f k l0).bind fun t522 => (tremalaw04_SegCounts.l0 k l0 0 t522 (t522.length : Int) 0)) else (some false)) = some r := H
 have A2 := Aside0.mk A20
 clear A20
 by_cases c3 : t521 = true
 ·subst c3
  have H1 : ((tremaref01_Runes.f k l0).bind fun t522 => (tremalaw04_SegCounts.l0 k l0 0 t522 (t522.length : Int) 0)) = some r := by rw [if_pos rfl] at H; exact H
  clear H
  have H := H1
  clear H1
  replace H := Option.bind_eq_some_iff.mp H
  obtain ⟨t522, A40, H⟩ := H
  replace H : (tremalaw04_SegCounts.l0 k l0 0 t522 (t522.length : Int) 0) = some r := H
  have A4 := Aside0.mk A40
  clear A40
  have H' := Aside0.mk H
  clear H
  go_enter Tryd.func17, Tryd.ntmps17
  go_wp2_with (first | ((with_reducible refine gate_callee (f := 38) rfl ?_); refine goesL_ (some 6) rfl rfl Tryd.func38 (by kernel_rfl) rfl #[] rfl (by (try simp only [List.map_toArray, List.map_cons, List.map_nil]); first | done | rfl | (simp only [List.length_drop, List.length_take]; rfl)) ?_; (with_reducible refine (tremalaw04_fixed.calls  true _ A2.out (by first | exact HG.out | exact Va.G.below HG.out (by repeat (first | (with_reducible first | exact HB.out | apply below_alloc | apply pw_below_drewN | apply below_drew1) | exact HB.out)))).mono ?_); rintro e w5 ⟨rfl, hb⟩; refine ⟨_, rfl, ?_⟩; have n0_ := Aside0.mk (below_step (by repeat (first | (with_reducible first | exact HB.out | apply below_alloc | apply pw_below_drewN | apply below_drew1) | exact HB.out)) hb); clear HB; have HB := n0_; clear n0_; (try clear hb); (try clear hb2); (try clear hk); (try clear hi)) | ((with_reducible refine gate_callee (f := 28) rfl ?_); refine goesL_ (some 9) rfl rfl Tryd.func28 (by kernel_rfl) rfl #[.slice A0 l0.length c0] rfl (by (try simp only [List.map_toArray, List.map_cons, List.map_nil]); first | done | rfl | (simp only [List.length_drop, List.length_take]; rfl)) ?_; (with_reducible refine (tremaref01_Runes.calls k _ _ l0 t522 _ ?side1 ?side2 A4.out).mono ?_); (case side1 => repeat (first | exact (Kd.C_below HR0.out HB.out) | (with_reducible refine Kd.C_alloc ?_ _) | (with_reducible refine Kd.C_drewN ?_ _) | (with_reducible refine Kd.C_drew ?_))); (case side2 => exact HC0.out); rintro e w6 ⟨v523, rfl, ho0, hb⟩; refine ⟨_, rfl, ?_⟩; have n0_ := Aside0.mk (Kd.R_lower ho0 (below_size (by repeat (first | (with_reducible first | exact HB.out | apply below_alloc | apply pw_below_drewN | apply below_drew1) | exact HB.out)))); have n1_ := Aside0.mk (below_step (by repeat (first | (with_reducible first | exact HB.out | apply below_alloc | apply pw_below_drewN | apply below_drew1) | exact HB.out)) hb); clear HB; have HO524 := n0_; have HB := n1_; clear n0_ n1_; (try clear hb); (try clear hb2); (try clear hk); (try clear hi); (try clear ho0); obtain ⟨Ao7, co7, eo7⟩ := Kd.R_slice HO524.out; subst eo7))
  go_loopg [3, 11] k (fun kq v3 v11 w' => ∃ (x3_1 : Int) (x11_1 : Int), v3 = .int .i64 x3_1 ∧ v11 = .int .i64 x11_1 ∧ Aside0 (tremalaw04_SegCounts.l0 kq l0 x3_1 t522 (t522.length : Int) x11_1 = some r) ∧ Aside0 (kq ≤ k) ∧ Aside0 (Kd.R (Kd.int .i32) 21 w' w.heap.size (fun _ => True) (.slice Ao7 t522.length co7) t522) ∧ Aside0 (Below w.heap.size w w'))
  case atStart => exact ⟨(0), (0), (by first | rfl | (simp; done) | (simp [*]; done)), (by first | rfl | (simp; done) | (simp [*]; done)), H', ⟨Nat.le_refl _⟩, ⟨by (with_reducible repeat (first | apply Kd.R_alloc | apply Kd.R_drewN | apply Kd.R_drew)); exact HO524.out⟩, ⟨by repeat (first | (with_reducible first | exact HB.out | apply below_alloc | apply pw_below_drewN | apply below_drew1) | exact HB.out)⟩⟩
  case round =>
   clear H'
   try clear c1
   try clear c2
   try clear p2
   try clear c3
   obtain ⟨x3_1, x11_1, rfl, rfl, HA, HK1, HO_9, HB⟩ := hrel
   cases gk with
   | zero => exact absurd HA.out (by simp [tremalaw04_SegCounts.l0])
   | succ k1 =>
    have H := HA.out
    clear HA
    simp only [tremalaw04_SegCounts.l0] at H
    by_cases c8 : x11_1 < (t522.length : Int)
    ·rw [if_pos c8] at H
     have c8b0 : decide (x11_1 < (t522.length : Int)) = true := decide_eq_true c8
     clear c8
     by_cases c9 : 0 ≤ x11_1
     ·rw [if_pos c9] at H
      have c9b0 : decide (0 ≤ x11_1) = true := decide_eq_true c9
      clear c9
      by_cases c10 : x11_1 < (t522.length : Int)
      ·rw [if_pos c10] at H
       have c10b0 : decide (x11_1 < (t522.length : Int)) = true := decide_eq_true c10
       clear c10
       replace H := Option.bind_eq_some_iff.mp H
       obtain ⟨t526, A110, H⟩ := H
       replace H : (if t526 = true then (tremalaw04_SegCounts.l0 k1 l0 (wrap64 (x3_1 + 1)) t522 (t522.length : Int) (wrap64 (x11_1 + 1))) else (if x11_1 = 0 then (tremalaw04_SegCounts.l0 k1 l0 (wrap64 (x3_1 + 1)) t522 (t522.length : Int) (wrap64 (x11_1 + 1))) else (tremalaw04_SegCounts.l0 k1 l0 x3_1 t522 (t522.length : Int) (wrap64 (x11_1 + 1))))) = some r := H
       have A11 := Aside0.mk A110
       clear A110
       by_cases c12 : t526 = true
       ·subst c12
        have H1 : (tremalaw04_SegCounts.l0 k1 l0 (wrap64 (x3_1 + 1)) t522 (t522.length : Int) (wrap64 (x11_1 + 1))) = some r := by rw [if_pos rfl] at H; exact H
        clear H
        have H := H1
        clear H1
        have H' := Aside0.mk H
        clear H
        have p525 : 0 ≤ (x11_1 : Int) := of_decide_eq_true (by first | (with_reducible assumption) | assumption)
        have q525 : x11_1 < (t522.length : Int) := of_decide_eq_true (by first | (with_reducible assumption) | assumption)
        obtain ⟨ad525, e525, hx525_0⟩ := Kd.at_int (Kd.R_reads' HO_9.out).2.2 x11_1 p525 q525
        cases e525
        replace p525 := eq_true p525
        replace q525 := eq_true q525
        go_wp2_with (first | ((with_reducible refine gate_callee (f := 35) rfl ?_); refine goesL_ (some 17) rfl rfl Tryd.func35 (by kernel_rfl) rfl #[.int .i32 (rd t522 x11_1)] rfl (by (try simp only [List.map_toArray, List.map_cons, List.map_nil]); first | done | rfl | (simp only [List.length_drop, List.length_take]; rfl)) ?_; (with_reducible refine (tremaref02_Opens.calls k1 (rd t522 x11_1) true _ A11.out).mono ?_); rintro e w13 ⟨rfl, hb⟩; refine ⟨_, rfl, ?_⟩; have n0_ := Aside0.mk (Kd.R_below (by (with_reducible repeat (first | apply Kd.R_alloc | apply Kd.R_drewN | apply Kd.R_drew)); exact HO_9.out) hb); have n1_ := Aside0.mk (below_step (by repeat (first | (with_reducible first | exact HB.out | apply below_alloc | apply pw_below_drewN | apply below_drew1) | exact HB.out)) hb); clear HO_9; clear HB; have HO_9 := n0_; have HB := n1_; clear n0_ n1_; (try clear hb); (try clear hb2); (try clear hk); (try clear hi)))
        go_roundg k1
        case measure => have := HK1.out; omega
        case rel => exact ⟨(wrap64 (x3_1 + 1)), (wrap64 (x11_1 + 1)), (by first | rfl | (simp; done) | (simp [*]; done)), (by first | rfl | (simp; done) | (simp [*]; done)), H', ⟨by have := HK1.out; omega⟩, ⟨by (with_reducible repeat (first | apply Kd.R_alloc | apply Kd.R_drewN | apply Kd.R_drew)); exact HO_9.out⟩, ⟨by repeat (first | (with_reducible first | exact HB.out | apply below_alloc | apply pw_below_drewN | apply below_drew1) | exact HB.out)⟩⟩
       ·replace c12 := Bool.eq_false_iff.mpr c12
        subst c12
        have H1 : (if x11_1 = 0 then (tremalaw04_SegCounts.l0 k1 l0 (wrap64 (x3_1 + 1)) t522 (t522.length : Int) (wrap64 (x11_1 + 1))) else (tremalaw04_SegCounts.l0 k1 l0 x3_1 t522 (t522.length : Int) (wrap64 (x11_1 + 1)))) = some r := by rw [if_neg (show ¬ (false = true) by decide)] at H; exact H
        clear H
        have H := H1
        clear H1
        by_cases c14 : x11_1 = 0
        ·rw [if_pos c14] at H
         have c14b0 : (x11_1 == 0) = true := beq_iff_eq.mpr c14
         have c14b1 : (x11_1 != 0) = false := bne_eq_false_iff_eq.mpr c14
         clear c14
         have H' := Aside0.mk H
         clear H
         have p525 : 0 ≤ (x11_1 : Int) := of_decide_eq_true (by first | (with_reducible assumption) | assumption)
         have q525 : x11_1 < (t522.length : Int) := of_decide_eq_true (by first | (with_reducible assumption) | assumption)
         obtain ⟨ad525, e525, hx525_0⟩ := Kd.at_int (Kd.R_reads' HO_9.out).2.2 x11_1 p525 q525
         cases e525
         replace p525 := eq_true p525
         replace q525 := eq_true q525
         go_wp2_with (first | ((with_reducible refine gate_callee (f := 35) rfl ?_); refine goesL_ (some 17) rfl rfl Tryd.func35 (by kernel_rfl) rfl #[.int .i32 (rd t522 x11_1)] rfl (by (try simp only [List.map_toArray, List.map_cons, List.map_nil]); first | done | rfl | (simp only [List.length_drop, List.length_take]; rfl)) ?_; (with_reducible refine (tremaref02_Opens.calls k1 (rd t522 x11_1) false _ A11.out).mono ?_); rintro e w15 ⟨rfl, hb⟩; refine ⟨_, rfl, ?_⟩; have n0_ := Aside0.mk (Kd.R_below (by (with_reducible repeat (first | apply Kd.R_alloc | apply Kd.R_drewN | apply Kd.R_drew)); exact HO_9.out) hb); have n1_ := Aside0.mk (below_step (by repeat (first | (with_reducible first | exact HB.out | apply below_alloc | apply pw_below_drewN | apply below_drew1) | exact HB.out)) hb); clear HO_9; clear HB; have HO_9 := n0_; have HB := n1_; clear n0_ n1_; (try clear hb); (try clear hb2); (try clear hk); (try clear hi)))
         go_roundg k1
         case measure => have := HK1.out; omega
         case rel => exact ⟨(wrap64 (x3_1 + 1)), (wrap64 (x11_1 + 1)), (by first | rfl | (simp; done) | (simp [*]; done)), (by first | rfl | (simp; done) | (simp [*]; done)), H', ⟨by have := HK1.out; omega⟩, ⟨by (with_reducible repeat (first | apply Kd.R_alloc | apply Kd.R_drewN | apply Kd.R_drew)); exact HO_9.out⟩, ⟨by repeat (first | (with_reducible first | exact HB.out | apply below_alloc | apply pw_below_drewN | apply below_drew1) | exact HB.out)⟩⟩
        ·rw [if_neg c14] at H
         have c14b0 : (x11_1 == 0) = false := beq_eq_false_iff_ne.mpr c14
         have c14b1 : (x11_1 != 0) = true := bne_iff_ne.mpr c14
         have H' := Aside0.mk H
         clear H
         have p525 : 0 ≤ (x11_1 : Int) := of_decide_eq_true (by first | (with_reducible assumption) | assumption)
         have q525 : x11_1 < (t522.length : Int) := of_decide_eq_true (by first | (with_reducible assumption) | assumption)
         obtain ⟨ad525, e525, hx525_0⟩ := Kd.at_int (Kd.R_reads' HO_9.out).2.2 x11_1 p525 q525
         cases e525
         replace p525 := eq_true p525
         replace q525 := eq_true q525
         go_wp2_with (first | ((with_reducible refine gate_callee (f := 35) rfl ?_); refine goesL_ (some 17) rfl rfl Tryd.func35 (by kernel_rfl) rfl #[.int .i32 (rd t522 x11_1)] rfl (by (try simp only [List.map_toArray, List.map_cons, List.map_nil]); first | done | rfl | (simp only [List.length_drop, List.length_take]; rfl)) ?_; (with_reducible refine (tremaref02_Opens.calls k1 (rd t522 x11_1) false _ A11.out).mono ?_); rintro e w16 ⟨rfl, hb⟩; refine ⟨_, rfl, ?_⟩; have n0_ := Aside0.mk (Kd.R_below (by (with_reducible repeat (first | apply Kd.R_alloc | apply Kd.R_drewN | apply Kd.R_drew)); exact HO_9.out) hb); have n1_ := Aside0.mk (below_step (by repeat (first | (with_reducible first | exact HB.out | apply below_alloc | apply pw_below_drewN | apply below_drew1) | exact HB.out)) hb); clear HO_9; clear HB; have HO_9 := n0_; have HB := n1_; clear n0_ n1_; (try clear hb); (try clear hb2); (try clear hk); (try clear hi)))
         go_roundg k1
         case measure => have := HK1.out; omega
         case rel => exact ⟨(x3_1), (wrap64 (x11_1 + 1)), (by first | rfl | (simp; done) | (simp [*]; done)), (by first | rfl | (simp; done) | (simp [*]; done)), H', ⟨by have := HK1.out; omega⟩, ⟨by (with_reducible repeat (first | apply Kd.R_alloc | apply Kd.R_drewN | apply Kd.R_drew)); exact HO_9.out⟩, ⟨by repeat (first | (with_reducible first | exact HB.out | apply below_alloc | apply pw_below_drewN | apply below_drew1) | exact HB.out)⟩⟩
      ·rw [if_neg c10] at H
       exact absurd H (by simp)
     ·rw [if_neg c9] at H
      exact absurd H (by simp)
    ·rw [if_neg c8] at H
     have c8b0 : decide (x11_1 < (t522.length : Int)) = false := decide_eq_false c8
     clear c8
     replace H := Option.bind_eq_some_iff.mp H
     obtain ⟨t527, A170, H⟩ := H
     replace H : (some ((t527.length : Int) == x3_1)) = some r := H
     have A17 := Aside0.mk A170
     clear A170
     obtain rfl := Option.some.inj H
     go_wp2_with (first | ((with_reducible refine gate_callee (f := 43) rfl ?_); refine goesL_ (some 26) rfl rfl Tryd.func43 (by kernel_rfl) rfl #[.slice A0 l0.length c0] rfl (by (try simp only [List.map_toArray, List.map_cons, List.map_nil]); first | done | rfl | (simp only [List.length_drop, List.length_take]; rfl)) ?_; (with_reducible refine (seg_Texts.calls _ _ l0 t527 _ ?side1 ?side2 A17.out (by first | exact HG.out | exact Va.G.below HG.out (by repeat (first | (with_reducible first | exact HB.out | apply below_alloc | apply pw_below_drewN | apply below_drew1) | exact HB.out)))).mono ?_); (case side1 => repeat (first | exact (Kd.C_below HR0.out HB.out) | (with_reducible refine Kd.C_alloc ?_ _) | (with_reducible refine Kd.C_drewN ?_ _) | (with_reducible refine Kd.C_drew ?_))); (case side2 => exact HC0.out); rintro e w18 ⟨v528, rfl, ho0, hb⟩; refine ⟨_, rfl, ?_⟩; have n0_ := Aside0.mk (Kd.R_below (by (with_reducible repeat (first | apply Kd.R_alloc | apply Kd.R_drewN | apply Kd.R_drew)); exact HO_9.out) hb); have n1_ := Aside0.mk (Kd.R_lower ho0 (below_size (by repeat (first | (with_reducible first | exact HB.out | apply below_alloc | apply pw_below_drewN | apply below_drew1) | exact HB.out)))); have n2_ := Aside0.mk (below_step (by repeat (first | (with_reducible first | exact HB.out | apply below_alloc | apply pw_below_drewN | apply below_drew1) | exact HB.out)) hb); clear HO_9; clear HB; have HO_9 := n0_; have HO529 := n1_; have HB := n2_; clear n0_ n1_ n2_; (try clear hb); (try clear hb2); (try clear hk); (try clear hi); (try clear ho0); obtain ⟨Ao19, co19, eo19⟩ := Kd.R_slice HO529.out; subst eo19))
     go_ret
     exact ⟨by first | rfl | (simp [errW_none, errW_some] <;> rfl) | (simp [*, errW_none, errW_some] <;> rfl), by repeat (first | (with_reducible first | exact HB.out | apply below_alloc | apply pw_below_drewN | apply below_drew1) | exact HB.out)⟩
 ·replace c3 := Bool.eq_false_iff.mpr c3
  subst c3
  have H1 : (some false) = some r := by rw [if_neg (show ¬ (false = true) by decide)] at H; exact H
  clear H
  have H := H1
  clear H1
  obtain rfl := Option.some.inj H
  go_enter Tryd.func17, Tryd.ntmps17
  go_wp2_with (first | ((with_reducible refine gate_callee (f := 38) rfl ?_); refine goesL_ (some 6) rfl rfl Tryd.func38 (by kernel_rfl) rfl #[] rfl (by (try simp only [List.map_toArray, List.map_cons, List.map_nil]); first | done | rfl | (simp only [List.length_drop, List.length_take]; rfl)) ?_; (with_reducible refine (tremalaw04_fixed.calls  false _ A2.out (by first | exact HG.out | exact Va.G.below HG.out (by repeat (first | (with_reducible first | exact HB.out | apply below_alloc | apply pw_below_drewN | apply below_drew1) | exact HB.out)))).mono ?_); rintro e w20 ⟨rfl, hb⟩; refine ⟨_, rfl, ?_⟩; have n0_ := Aside0.mk (below_step (by repeat (first | (with_reducible first | exact HB.out | apply below_alloc | apply pw_below_drewN | apply below_drew1) | exact HB.out)) hb); clear HB; have HB := n0_; clear n0_; (try clear hb); (try clear hb2); (try clear hk); (try clear hi)))
  go_ret
  exact ⟨by first | rfl | (simp [errW_none, errW_some] <;> rfl) | (simp [*, errW_none, errW_some] <;> rfl), by repeat (first | (with_reducible first | exact HB.out | apply below_alloc | apply pw_below_drewN | apply below_drew1) | exact HB.out)⟩
end Go.Proofs.YtiggjbclbdikmaaDoor.X
namespace Go.Proofs.YtiggjbclbdikmaaDoor.Sgs
set_option linter.unusedVariables false
set_option linter.unusedSimpArgs false
open Go.Proofs.YtiggjbclbdikmaaDoor.Ux (Bytes one1 dc rest1 full dec)
open Go.Proofs.YtiggjbclbdikmaaDoor.Ve (opn)
open Go.RowKit Go.Proofs.YtiggjbclbdikmaaDoorW.PrintWords Go.Proofs.YtiggjbclbdikmaaDoor.Ev0 Go.Proofs.YtiggjbclbdikmaaDoor.X Go.Proofs.YtiggjbclbdikmaaDoor.Oa Go.Proofs.YtiggjbclbdikmaaDoor.Ob Go.Proofs.YtiggjbclbdikmaaDoor.Vp0 Go.Proofs.YtiggjbclbdikmaaDoor.Vr Go.Proofs.YtiggjbclbdikmaaDoor.Vu Go.Proofs.YtiggjbclbdikmaaDoor.Sga Go.Proofs.YtiggjbclbdikmaaDoor.Sgb Go.Proofs.YtiggjbclbdikmaaDoor.Sgc Go.Proofs.YtiggjbclbdikmaaDoor.Sgd Go.Proofs.YtiggjbclbdikmaaDoor.Sgp Go.Proofs.YtiggjbclbdikmaaDoor.Sgq Go.Proofs.YtiggjbclbdikmaaDoor.Sgr
theorem cutR_len : ∀ (t : List SP) (rs : List Int) (a e : Int), (cutR t rs a e).length = 1 + (t.filter (fun p => opn p.f0)).length
  | [], rs, a, e => by simp [cutR]
  | p :: t, rs, a, e => by
    rw [cutR, List.filter_cons]
    by_cases h : opn p.f0 = true
    · rw [if_pos h, if_pos h, List.length_cons, List.length_cons, cutR_len t]
      omega
    · rw [if_neg h, if_neg h, cutR_len t]
def cnt : Nat → List Int → Nat
  | _, [] => 0
  | i, x :: t => (if opn x = true ∨ i = 0 then 1 else 0) + cnt (i + 1) t
theorem cnt_pos : ∀ (t : List Int) (i : Nat), 0 < i → cnt i t = (t.filter opn).length
  | [], i, h => rfl
  | x :: t, i, h => by
    rw [cnt, cnt_pos t (i + 1) (by omega), List.filter_cons]
    by_cases hx : opn x = true
    · rw [if_pos (Or.inl hx), if_pos hx, List.length_cons]; omega
    · rw [if_neg (fun hh => hh.elim hx (fun h0 => by omega)), if_neg hx]; omega
theorem cnt_cut (ps : List SP) : cnt 0 (ps.map (·.f0)) = (cutS ps).length := by
  cases ps with
  | nil => rfl
  | cons p t =>
    show (if opn p.f0 = true ∨ 0 = 0 then 1 else 0) + cnt 1 (t.map (·.f0)) = (cutR t [p.f0] p.f1 (p.f1 + p.f2)).length
    rw [if_pos (Or.inr rfl), cutR_len, cnt_pos _ 1 (by omega), List.filter_map, List.length_map]
    rfl
theorem SegCounts (l : List Int) (hwf : ∀ x ∈ l, (Lit.int .u8 x).wf = true) (hl : l.length ≤ 1048576) : ∃ k, tremalaw04_SegCounts.f k l = some true := by
  have hb := Ot.wf_bytes hwf
  have e2 : seg_Texts.f l = some (textsF l) := by unfold seg_Texts.f; rw [if_pos ⟨Sgr.bytesB_mk hb, by omega⟩]
  apply Ev.rounds (g := fun k => tremalaw04_SegCounts.f k l)
  unfold tremalaw04_SegCounts.f tremalaw04_fixed.f
  simp only [Option.bind_some, if_true]
  refine Ev.bind (Ot.runesEv l hb (by omega)) ?_
  have h32 : ∀ x ∈ Ot.rns l, I32 x := Ot.runes32 l hb
  have hrl : (Ot.rns l).length ≤ l.length := by unfold Ot.rns; rw [List.length_map]; exact Ud.full_len l
  have hcl : cnt 0 (Ot.rns l) = (textsF l).length := by
    rw [texts_cut l hb (by omega), List.length_map]
    exact cnt_cut (full l)
  obtain ⟨R, hR⟩ : ∃ R, R = Ot.rns l := ⟨_, rfl⟩
  rw [← hR] at h32 hrl hcl ⊢
  clear hR
  have key : ∀ q i n : Nat, i + q = R.length → n + cnt i (R.drop i) = (textsF l).length → n ≤ i → Ev (fun k => tremalaw04_SegCounts.l0 k l (n : Int) R (R.length : Int) (i : Int)) true := by
    intro q
    induction q with
    | zero =>
      intro i n hi hn hni
      obtain rfl : i = R.length := hi
      refine Ev.step (fun k => tremalaw04_SegCounts.l0.eq_2 ..) ?_
      rw [List.drop_length] at hn
      simp only [if_neg (Int.lt_irrefl _), e2, Option.bind_some]
      rw [show (((textsF l).length : Int) == (n : Int)) = true by rw [beq_iff_eq]; simp only [cnt] at hn; omega]
      exact Ev.now _
    | succ q ih =>
      intro i n hi hn hni
      have hil : i < R.length := by omega
      rw [List.drop_eq_getElem_cons hil, cnt] at hn
      refine Ev.step (fun k => tremalaw04_SegCounts.l0.eq_2 ..) ?_
      simp only [if_pos (getLt hil), if_pos (show (0 : Int) ≤ (i : Int) by omega), rd_nat hil, w64 (i := i) (by omega), w64 (i := n) (by omega)]
      refine Ev.bind (refopn _ (h32 _ (List.getElem_mem hil))) ?_
      by_cases ho : opn R[i] = true
      · rw [if_pos (Or.inl ho)] at hn
        simp only [ho, if_true]
        exact ih (i + 1) (n + 1) (by omega) (by omega) (by omega)
      · by_cases h0 : i = 0
        · rw [if_pos (Or.inr h0)] at hn
          simp only [if_neg ho, if_pos (show (i : Int) = 0 by omega)]
          exact ih (i + 1) (n + 1) (by omega) (by omega) (by omega)
        · rw [if_neg (fun hh => hh.elim ho h0)] at hn
          simp only [if_neg ho, if_neg (show ¬ (i : Int) = 0 by omega)]
          exact ih (i + 1) n (by omega) (by omega) (by omega)
  exact key R.length 0 0 (by omega) (by rw [List.drop_zero]; omega) (Nat.le_refl _)
end Go.Proofs.YtiggjbclbdikmaaDoor.Sgs
namespace Go.Proofs.YtiggjbclbdikmaaDoor.segCounts
open Go.ChangeShapes Go.WideShapes Go.ChangeAt Go.RowKit
open Go.ChangeMaps (open_string shut_string)
set_option linter.unusedVariables false
set_option linter.unusedSimpArgs false
theorem own : ownKnob Tryd.prog.godebug = none := by kernel_rfl
theorem laidOut : laidOutB Tryd.prog = true := by kernel_rfl
set_option maxRecDepth 100000 in
theorem contract (H : Type) (enc : TypeId × Value → H) (W : World) (base : Nat) (args : Array Value) (ds gs : List (DataW H)) (before : List MemPlace)
    (hval0 : ∀ (j : Nat) t v, Tryd.f17.params[j]? = some t → args[j]? = some v → Value.okWide Tryd.prog W .any base t v)
    (hW : DataW.Whole enc Tryd.prog Tryd.f17.params.toList Rows.segCountsSpec.vars false W args.toList ds gs before)
    (hL : laidMetH Tryd.prog Lv.laid W)
    (hk0 : Rows.uptoSmall H (ds ++ gs) = true) :
    Calls Tryd.prog 17 args W fun e W' => ∃ v, e = .returned v ∧ Rows.segCountsSpec.post enc Tryd.prog Tryd.f17 false true false false W args v W' := by
  have hkb : Rows.uptoBulkAll (ds ++ gs) ≤ 1048576 := of_decide_eq_true hk0
  have hval : ∀ (j : Nat) t v, Tryd.f17.params[j]? = some t → args[j]? = some v → Value.okWide Tryd.prog W .any base t v := hval0
  have hW' := hW
  obtain ⟨p, q, hA0, hV, rfl, hfz, hnd⟩ := hW
  have hA : DataW.TrodAll enc Tryd.prog W 0 (fun _ => true) true Tryd.f17.params.toList args.toList ds p := hA0
  rw [Tryd.params17] at hA hval
  obtain ⟨v0, vs0, d0, ds0, p0, q0, hargs, rfl, rfl, h0, r0⟩ := trodAll_cons hA
  obtain ⟨rfl, rfl, rfl⟩ := trodAll_nil r0
  obtain rfl : args = #[v0] := by cases args; simp_all
  obtain ⟨rfl, rfl⟩ := trodVars_none hV
  have k0 := h0
  have lt0 : ∀ x ∈ p0, x.block < W.heap.size := by obtain ⟨m, hm⟩ := k0; exact DataW.trod_lt m _ _ _ hm
  obtain ⟨A0, xs0, c0, rfl, hc0, hC0, hw0, hb0, hz0⟩ := Od.arg_slice Tryd.underlying27 (by kernel_rfl) (Od.opens_int Tryd.underlying5) (hval 0 27 v0 rfl rfl) h0
  simp only [List.append_nil, Rows.uptoBulkAll] at hkb
  have hB0 := Nat.le_trans (Nat.le_trans (Nat.le_succ _) hb0) (show Rows.uptoBulk d0 ≤ 1048576 by omega)
  clear hA0 hval0 hk0
  obtain ⟨k, hk⟩ := Go.Proofs.YtiggjbclbdikmaaDoor.Sgs.SegCounts xs0 hw0 (Nat.le_trans (Od.sumB_len (fun _ => Nat.le_refl _) _) hB0)
  refine (Go.Proofs.YtiggjbclbdikmaaDoor.X.tremalaw04_SegCounts.calls k A0 c0 xs0 true W hC0 hc0 hk (Lv.of_laid hL)).mono fun e W' ⟨he, bel⟩ => ?_
  subst he
  exact ⟨_, rfl, _, _, _, [], _, [], hW', trodAll_mk1 (shut_bool Tryd.underlying4 _), (trodAll_cons_mk (Below.trod laidOut (by kernel_rfl) (of_decide_eq_true (by kernel_rfl)) k0 bel lt0) trodAll_mk0), rfl, bel.frame _, fun h => by cases h⟩
set_option maxRecDepth 100000 in
theorem lifted (os : Os) (started : os.Started) (H : Type) (enc : TypeId × Value → H) (F : Stop.Interp) :
    ReturnsInHanded {} Tryd.checked os 17 .any ((Rows.OpenSpec.upto Rows.segCountsSpec).preRow enc Tryd.prog Tryd.f17 Rows.segCountsUptoRow.domain false Rows.segCountsUptoRow.laid) (((Rows.OpenSpec.upto Rows.segCountsSpec).at F).post enc Tryd.prog Tryd.f17 false true false false) := by
  refine returnsInHanded_of_row (C := Tryd.checked) (s := Rows.OpenSpec.upto Rows.segCountsSpec) own started (by kernel_rfl) Tryd.func17
    (witness_row_atRef (enc := enc) (C := Tryd.checked) false (World.doorLaid Tryd.prog 400 os) #[(.slice none 0 0)] rfl (by kernel_rfl) (by kernel_rfl) (by kernel_rfl)
      (OpenSpec.preRow_of_cond (x := ([.nil], [], [])) 8 (by kernel_rfl) (by kernel_rfl) (fun k hk => by cases hk; kernel_rfl) (by kernel_rfl) (Lv.door_met os _))) ?_
  intro W base args ds gs before hval hW _ hcond _ hL _ _
  exact contract H enc W base args ds gs before hval hW hL (hcond _ rfl)
theorem proved : Rows.SegCountsUptoSaid :=
  OpenClaim.holds_of_cond 17 Tryd.f17 rfl rfl rfl rfl rfl rfl rfl ⟨rfl, rfl, rfl, rfl, rfl⟩ rfl rfl rfl rfl rfl (by kernel_rfl) Tryd.func17 (by kernel_rfl)
    (of_decide_eq_true (by kernel_rfl)) (by unfold Func.isWrapper; first | (rw [if_pos (by decide +kernel)]; kernel_rfl) | (rw [if_neg (by decide +kernel)]; exact ⟨rfl, rfl⟩))
    (fun os started H enc _ F => by rw [OpenClaim.pre_eq_preRow]; exact lifted os started H enc F)
end Go.Proofs.YtiggjbclbdikmaaDoor.segCounts
namespace Go.Proofs.YtiggjbclbdikmaaDoor
theorem segCounts_holds : Rows.SegCountsUptoCardSaid :=
  Claim7.holds_tied_plain_at .later [] [.data, .data, .data] true (true, "fdf6c36acc2ff838e2b06de7c88b3a207dcf6760465f25f192835ebb1407940d") false
    segCounts.proved (fun _ h => by cases h) (by kernel_rfl) (fun _ h => by cases h) segCountsUpto_row_tie rfl ⟨rfl, rfl⟩ (by kernel_rfl) rfl
    (fun f fn hf hfn => by
      obtain rfl : f = 17 := Option.some.inj ((show Tryd.prog.funcNamed "trema/tremalaw04.SegCounts" = some 17 by kernel_rfl).symm.trans hf) |>.symm
      obtain rfl : fn = Tryd.f17 := (Option.some.inj (Tryd.func17.symm.trans hfn)).symm
      exact ⟨by kernel_rfl, fun j t ht => by
        rw [Tryd.params17] at ht
        have hm : t ∈ [27] := by simpa using Array.mem_of_getElem? ht
        have hall : ([27].all fun u => !Tryd.prog.wantsStandIn u) = true := by kernel_rfl
        exact (show Tryd.prog.wantsStandIn t = false by simpa using List.all_eq_true.1 hall t hm)⟩)
    (by kernel_rfl)
#print axioms segCounts_holds
end Go.Proofs.YtiggjbclbdikmaaDoor
