/-
  NormOnce: for every input of bulk at most 1048576 the law returns true and its arguments read as before.
-/
import Derived.Test.YtiggjbclbdikmaaDoorMN0
import Derived.Test.YtiggjbclbdikmaaDoorMN1
import Derived.Test.YtiggjbclbdikmaaDoorMN2
import Derived.Test.YtiggjbclbdikmaaDoorMN4
import Derived.Test.YtiggjbclbdikmaaDoorMN3
import Derived.Test.YtiggjbclbdikmaaDoorRows
import Derived.Test.YtiggjbclbdikmaaDoorTie
import Derived.Test.YtiggjbclbdikmaaDoorCards
import Derived.WalkKit
import Derived.ProofKit
import Derived.OpenShut
import Derived.ShutString
import Derived.ChangeOld
import Derived.Below
import Derived.SizedLaws
import Derived.JoinedCond
import Derived.SevenTiedAt
import Derived.LaidMore
import Derived.Stop.Joined
import Derived.Deep.DeepHandedRow
import Derived.Deep.DeepWitnessRowRef
-- Written by a program of this session (xprint.py), over the kit's print.
namespace Go.Proofs.YtiggjbclbdikmaaDoor.X
open Go.RowKit Go.Proofs.YtiggjbclbdikmaaDoorW.PrintWords Go.Proofs.YtiggjbclbdikmaaDoorW.PrintLast Go.Proofs.YtiggjbclbdikmaaDoorW.PrintMore
attribute [local go_sem] max2_int min2_int max_two min_two max_three min_three max_four min_four   -- for this text's walks alone
set_option linter.unusedVariables false
set_option linter.unusedSimpArgs false

/-! ### tremalaw03_NormOnce: function 5 -/
def tremalaw03_NormOnce.l0 : Nat → List Int → List Int → Int → Option (Bool)
 | 0, _, _, _ => none
 | k + 1, x0, x3, x4 => if x4 < (x3.length : Int) then (if 0 ≤ x4 then ((tremaref02_Class.f k (rd x3 x4)).bind fun t350 => (if t350 = 0 then (tremalaw03_NormOnce.l0 k x0 x3 (wrap64 (x4 + 1))) else (if 0 ≤ (wrap64 (x4 - 1)) then (if (wrap64 (x4 - 1)) < (x3.length : Int) then ((tremaref02_Class.f k (rd x3 (wrap64 (x4 - 1)))).bind fun t352 => (if t352 > t350 then (some false) else (tremalaw03_NormOnce.l0 k x0 x3 (wrap64 (x4 + 1))))) else (none)) else (none)))) else (none)) else ((norm_Is.f k x3).bind fun t353 => (if t353 = true then ((norm_Same.f k x0 x3).bind fun t354 => (if t354 = true then ((norm_Same.f k x3 x0).bind fun t355 => (if t355 = true then ((norm_Normal.f k x3).bind fun t356 => ((tremaref01_SameRunes.f k t356 x3).bind fun t359 => (some t359))) else (some false))) else (some false))) else (some false)))
def tremalaw03_NormOnce.f (k : Nat) (l0 : List Int) : Option (Bool) := (tremalaw03_fixed.f).bind fun t345 => (if t345 = true then ((norm_Normal.f k l0).bind fun t346 => (tremalaw03_NormOnce.l0 k l0 t346 1)) else (some false))
theorem tremalaw03_NormOnce.mono_l : ∀ k, (∀ y0 y1 y2, LeO (tremalaw03_NormOnce.l0 k y0 y1 y2) (tremalaw03_NormOnce.l0 (k + 1) y0 y1 y2))
 | 0 => fun _ _ _ r h => by simp [tremalaw03_NormOnce.l0] at h
 | k + 1 => by
  have ih0 := tremalaw03_NormOnce.mono_l k
  ·intro y0 y1 y2
   unfold tremalaw03_NormOnce.l0
   repeat' first
   | (with_reducible exact ih0 _ _ _)
   | (with_reducible exact norm_Is.mono _ _)
   | (with_reducible exact norm_Normal.mono _ _)
   | (with_reducible exact norm_Same.mono _ _ _)
   | (with_reducible exact tremaref01_SameRunes.mono _ _ _)
   | (with_reducible exact tremaref02_Class.mono _ _)
   | (with_reducible exact LeO.refl _)
   | (with_reducible exact LeO.none _)
   | (with_reducible refine LeO.ite ?_ ?_)
   | (with_reducible refine LeO.bind ?_ (fun _ => ?_))
   | exact ih0 _ _ _
   | exact norm_Is.mono _ _
   | exact norm_Normal.mono _ _
   | exact norm_Same.mono _ _ _
   | exact tremaref01_SameRunes.mono _ _ _
   | exact tremaref02_Class.mono _ _
   | exact LeO.none _
   | refine LeO.ite ?_ ?_
   | refine LeO.bind ?_ (fun _ => ?_)
theorem tremalaw03_NormOnce.mono : ∀ a0 k, LeO (tremalaw03_NormOnce.f k a0) (tremalaw03_NormOnce.f (k + 1) a0) := by
 intro a0 k
 have ih0 := tremalaw03_NormOnce.mono_l k
 unfold tremalaw03_NormOnce.f
 repeat' first
   | (with_reducible exact ih0 _ _ _)
   | (with_reducible exact norm_Is.mono _ _)
   | (with_reducible exact norm_Normal.mono _ _)
   | (with_reducible exact norm_Same.mono _ _ _)
   | (with_reducible exact tremaref01_SameRunes.mono _ _ _)
   | (with_reducible exact tremaref02_Class.mono _ _)
   | (with_reducible exact LeO.refl _)
   | (with_reducible exact LeO.none _)
   | (with_reducible refine LeO.ite ?_ ?_)
   | (with_reducible refine LeO.bind ?_ (fun _ => ?_))
   | exact ih0 _ _ _
   | exact norm_Is.mono _ _
   | exact norm_Normal.mono _ _
   | exact norm_Same.mono _ _ _
   | exact tremaref01_SameRunes.mono _ _ _
   | exact tremaref02_Class.mono _ _
   | exact LeO.none _
   | refine LeO.ite ?_ ?_
   | refine LeO.bind ?_ (fun _ => ?_)
set_option maxHeartbeats 8000000 in
set_option maxRecDepth 100000 in
theorem tremalaw03_NormOnce.calls (k : Nat) (A0 : Option Addr) (c0 : Nat) (l0 : List Int) (r : Bool) (w : World) (hr0 : Kd.C (Kd.int .i32) w A0 l0.length l0) (hc0 : l0.length ≤ c0) (h : tremalaw03_NormOnce.f k l0 = some r) (hG0 : Va.G w) :
  Calls Tryd.prog 5 #[.slice A0 l0.length c0] w fun e w' => e = .returned (.bool r) ∧ Below w.heap.size w w' := by
 have HG := Aside0.mk hG0
 clear hG0
 have HR0 := Aside0.mk hr0
 have HC0 := Aside0.mk hc0
 clear hr0 hc0
 have HB := Aside0.mk (Below.refl w.heap.size w)
 have H : ((tremalaw03_fixed.f).bind fun t345 => (if t345 = true then ((norm_Normal.f k l0).bind fun t346 => (tremalaw03_NormOnce.l0 k l0 t346 1)) else (some false))) = some r := h
 clear h
 replace H := Option.bind_eq_some_iff.mp H
 obtain ⟨t345, A20, H⟩ := H
 replace H : (if t345 = true then ((norm_Normal.f k l0).bind fun t346 => (tremalaw03_NormOnce.l0 k l0 t346 1)) else (some false)) = some r := H
 have A2 := Aside0.mk A20
 clear A20
 by_cases c3 : t345 = true
 ·subst c3
  have H1 : ((norm_Normal.f k l0).bind fun t346 => (tremalaw03_NormOnce.l0 k l0 t346 1)) = some r := by rw [if_pos rfl] at H; exact H
  clear H
  have H := H1
  clear H1
  replace H := Option.bind_eq_some_iff.mp H
  obtain ⟨t346, A40, H⟩ := H
  replace H : (tremalaw03_NormOnce.l0 k l0 t346 1) = some r := H
  have A4 := Aside0.mk A40
  clear A40
  have H' := Aside0.mk H
  clear H
  go_enter Tryd.func5, Tryd.ntmps5
  go_wp2_with (first | ((with_reducible refine gate_callee (f := 19) rfl ?_); refine goesL_ (some 6) rfl rfl Tryd.func19 (by kernel_rfl) rfl #[] rfl (by (try simp only [List.map_toArray, List.map_cons, List.map_nil]); first | done | rfl | (simp only [List.length_drop, List.length_take]; rfl)) ?_; (with_reducible refine (tremalaw03_fixed.calls  true _ A2.out (by first | exact HG.out | exact Va.G.below HG.out (by repeat (first | (with_reducible first | exact HB.out | apply below_alloc | apply pw_below_drewN | apply below_drew1) | exact HB.out)))).mono ?_); rintro e w5 ⟨rfl, hb⟩; refine ⟨_, rfl, ?_⟩; have n0_ := Aside0.mk (below_step (by repeat (first | (with_reducible first | exact HB.out | apply below_alloc | apply pw_below_drewN | apply below_drew1) | exact HB.out)) hb); clear HB; have HB := n0_; clear n0_; (try clear hb); (try clear hb2); (try clear hk); (try clear hi)) | ((with_reducible refine gate_callee (f := 22) rfl ?_); refine goesL_ (some 9) rfl rfl Tryd.func22 (by kernel_rfl) rfl #[.slice A0 l0.length c0] rfl (by (try simp only [List.map_toArray, List.map_cons, List.map_nil]); first | done | rfl | (simp only [List.length_drop, List.length_take]; rfl)) ?_; (with_reducible refine (norm_Normal.calls k _ _ l0 t346 _ ?side1 ?side2 A4.out (by first | exact HG.out | exact Va.G.below HG.out (by repeat (first | (with_reducible first | exact HB.out | apply below_alloc | apply pw_below_drewN | apply below_drew1) | exact HB.out)))).mono ?_); (case side1 => repeat (first | exact (Kd.C_below HR0.out HB.out) | (with_reducible refine Kd.C_alloc ?_ _) | (with_reducible refine Kd.C_drewN ?_ _) | (with_reducible refine Kd.C_drew ?_))); (case side2 => exact HC0.out); rintro e w6 ⟨v347, rfl, ho0, hb⟩; refine ⟨_, rfl, ?_⟩; have n0_ := Aside0.mk (Kd.R_lower ho0 (below_size (by repeat (first | (with_reducible first | exact HB.out | apply below_alloc | apply pw_below_drewN | apply below_drew1) | exact HB.out)))); have n1_ := Aside0.mk (below_step (by repeat (first | (with_reducible first | exact HB.out | apply below_alloc | apply pw_below_drewN | apply below_drew1) | exact HB.out)) hb); clear HB; have HO348 := n0_; have HB := n1_; clear n0_ n1_; (try clear hb); (try clear hb2); (try clear hk); (try clear hi); (try clear ho0)))
  go_loopg [4] k (fun kq v4 w' => ∃ (x4_1 : Int), v4 = .int .i64 x4_1 ∧ Aside0 (tremalaw03_NormOnce.l0 kq l0 t346 x4_1 = some r) ∧ Aside0 (kq ≤ k) ∧ Aside0 (Kd.R (Kd.int .i32) 21 w' w.heap.size (fun _ => True) v347 t346) ∧ Aside0 (Below w.heap.size w w'))
  case atStart => exact ⟨(1), (by first | rfl | (simp; done) | (simp [*]; done)), H', ⟨Nat.le_refl _⟩, ⟨by (with_reducible repeat (first | apply Kd.R_alloc | apply Kd.R_drewN | apply Kd.R_drew)); exact HO348.out⟩, ⟨by repeat (first | (with_reducible first | exact HB.out | apply below_alloc | apply pw_below_drewN | apply below_drew1) | exact HB.out)⟩⟩
  case round =>
   clear H'
   try clear c1
   try clear c2
   try clear p2
   try clear c3
   try clear c5
   obtain ⟨x4_1, rfl, HA, HK1, HO_3, HB⟩ := hrel
   cases gk with
   | zero => exact absurd HA.out (by simp [tremalaw03_NormOnce.l0])
   | succ k1 =>
    have H := HA.out
    clear HA
    simp only [tremalaw03_NormOnce.l0] at H
    by_cases c7 : x4_1 < (t346.length : Int)
    ·rw [if_pos c7] at H
     have c7b0 : decide (x4_1 < (t346.length : Int)) = true := decide_eq_true c7
     clear c7
     by_cases c8 : 0 ≤ x4_1
     ·rw [if_pos c8] at H
      have c8b0 : decide (0 ≤ x4_1) = true := decide_eq_true c8
      clear c8
      replace H := Option.bind_eq_some_iff.mp H
      obtain ⟨t350, A90, H⟩ := H
      replace H : (if t350 = 0 then (tremalaw03_NormOnce.l0 k1 l0 t346 (wrap64 (x4_1 + 1))) else (if 0 ≤ (wrap64 (x4_1 - 1)) then (if (wrap64 (x4_1 - 1)) < (t346.length : Int) then ((tremaref02_Class.f k1 (rd t346 (wrap64 (x4_1 - 1)))).bind fun t352 => (if t352 > t350 then (some false) else (tremalaw03_NormOnce.l0 k1 l0 t346 (wrap64 (x4_1 + 1))))) else (none)) else (none))) = some r := H
      have A9 := Aside0.mk A90
      clear A90
      by_cases c10 : t350 = 0
      ·rw [if_pos c10] at H
       have c10b0 : (t350 == 0) = true := beq_iff_eq.mpr c10
       have c10b1 : (t350 != 0) = false := bne_eq_false_iff_eq.mpr c10
       clear c10
       have H' := Aside0.mk H
       clear H
       obtain ⟨Ao11, co11, eo11⟩ := Kd.R_slice HO_3.out
       subst eo11
       have p349 : 0 ≤ (x4_1 : Int) := of_decide_eq_true (by first | (with_reducible assumption) | assumption)
       have q349 : x4_1 < (t346.length : Int) := of_decide_eq_true (by first | (with_reducible assumption) | assumption)
       obtain ⟨ad349, e349, hx349_0⟩ := Kd.at_int (Kd.R_reads' HO_3.out).2.2 x4_1 p349 q349
       cases e349
       replace p349 := eq_true p349
       replace q349 := eq_true q349
       go_wp2_with (first | ((with_reducible refine gate_callee (f := 29) rfl ?_); refine goesL_ (some 20) rfl rfl Tryd.func29 (by kernel_rfl) rfl #[.int .i32 (rd t346 x4_1)] rfl (by (try simp only [List.map_toArray, List.map_cons, List.map_nil]); first | done | rfl | (simp only [List.length_drop, List.length_take]; rfl)) ?_; (with_reducible refine (tremaref02_Class.calls k1 (rd t346 x4_1) t350 _ A9.out).mono ?_); rintro e w' ⟨rfl, ⟨nd, rfl⟩⟩; refine ⟨_, rfl, ?_⟩))
       go_roundg k1
       case measure => have := HK1.out; omega
       case rel => exact ⟨(wrap64 (x4_1 + 1)), (by first | rfl | (simp; done) | (simp [*]; done)), H', ⟨by have := HK1.out; omega⟩, ⟨by (with_reducible repeat (first | apply Kd.R_alloc | apply Kd.R_drewN | apply Kd.R_drew)); exact HO_3.out⟩, ⟨by repeat (first | (with_reducible first | exact HB.out | apply below_alloc | apply pw_below_drewN | apply below_drew1) | exact HB.out)⟩⟩
      ·rw [if_neg c10] at H
       have c10b0 : (t350 == 0) = false := beq_eq_false_iff_ne.mpr c10
       have c10b1 : (t350 != 0) = true := bne_iff_ne.mpr c10
       obtain ⟨ji12, hji12⟩ : ∃ j_ : Int, (wrap64 (x4_1 - 1)) = j_ := ⟨_, rfl⟩
       replace H : (if 0 ≤ (ji12) then (if (ji12) < (t346.length : Int) then ((tremaref02_Class.f k1 (rd t346 (ji12))).bind fun t352 => (if t352 > t350 then (some false) else (tremalaw03_NormOnce.l0 k1 l0 t346 (wrap64 (x4_1 + 1))))) else (none)) else (none)) = some r := by first | (rw [hji12] at H; exact H) | (simp only [hji12] at H ⊢; exact H)
       (try rw [hji12] at A9)
       have hji12w : (IntKind.i64.wrap (x4_1 - 1)) = ji12 := (i64_w _).trans hji12
       by_cases c13 : 0 ≤ (ji12)
       ·rw [if_pos c13] at H
        have c13b0 : decide (0 ≤ (ji12)) = true := decide_eq_true c13
        clear c13
        by_cases c14 : (ji12) < (t346.length : Int)
        ·rw [if_pos c14] at H
         have c14b0 : decide ((ji12) < (t346.length : Int)) = true := decide_eq_true c14
         clear c14
         replace H := Option.bind_eq_some_iff.mp H
         obtain ⟨t352, A150, H⟩ := H
         replace H : (if t352 > t350 then (some false) else (tremalaw03_NormOnce.l0 k1 l0 t346 (wrap64 (x4_1 + 1)))) = some r := H
         have A15 := Aside0.mk A150
         clear A150
         by_cases c16 : t352 > t350
         ·rw [if_pos c16] at H
          have c16b0 : decide (t350 < t352) = true := decide_eq_true c16
          clear c16
          obtain rfl := Option.some.inj H
          obtain ⟨Ao17, co17, eo17⟩ := Kd.R_slice HO_3.out
          subst eo17
          have p349 : 0 ≤ (x4_1 : Int) := of_decide_eq_true (by first | (with_reducible assumption) | assumption)
          have q349 : x4_1 < (t346.length : Int) := of_decide_eq_true (by first | (with_reducible assumption) | assumption)
          obtain ⟨ad349, e349, hx349_0⟩ := Kd.at_int (Kd.R_reads' HO_3.out).2.2 x4_1 p349 q349
          cases e349
          replace p349 := eq_true p349
          replace q349 := eq_true q349
          go_wp2_with (first | ((with_reducible refine gate_callee (f := 29) rfl ?_); refine goesL_ (some 20) rfl rfl Tryd.func29 (by kernel_rfl) rfl #[.int .i32 (rd t346 x4_1)] rfl (by (try simp only [List.map_toArray, List.map_cons, List.map_nil]); first | done | rfl | (simp only [List.length_drop, List.length_take]; rfl)) ?_; (with_reducible refine (tremaref02_Class.calls k1 (rd t346 x4_1) t350 _ A9.out).mono ?_); rintro e w' ⟨rfl, ⟨nd, rfl⟩⟩; refine ⟨_, rfl, ?_⟩; have p351 : 0 ≤ ((ji12) : Int) := of_decide_eq_true (by first | (with_reducible assumption) | assumption); have q351 : (ji12) < (t346.length : Int) := of_decide_eq_true (by first | (with_reducible assumption) | assumption); obtain ⟨ad351, e351, hx351_0⟩ := Kd.at_int (Kd.R_reads' HO_3.out).2.2 (ji12) p351 q351; obtain rfl : ad349 = ad351 := (by injection e351); replace p351 := eq_true p351; replace q351 := eq_true q351) | (go_at_call 29; (with_reducible refine (tremaref02_Class.calls k1 (rd t346 (ji12)) t352 _ A15.out).mono ?_); rintro e w' ⟨rfl, ⟨nd, rfl⟩⟩))
          go_ret
          exact ⟨by first | rfl | (simp [errW_none, errW_some] <;> rfl) | (simp only [← hji12]; first | rfl | (simp [errW_none, errW_some] <;> rfl)) | (simp [*, errW_none, errW_some] <;> rfl), by repeat (first | (with_reducible first | exact HB.out | apply below_alloc | apply pw_below_drewN | apply below_drew1) | exact HB.out)⟩
         ·rw [if_neg c16] at H
          have c16b0 : decide (t350 < t352) = false := decide_eq_false c16
          clear c16
          have H' := Aside0.mk H
          clear H
          obtain ⟨Ao18, co18, eo18⟩ := Kd.R_slice HO_3.out
          subst eo18
          have p349 : 0 ≤ (x4_1 : Int) := of_decide_eq_true (by first | (with_reducible assumption) | assumption)
          have q349 : x4_1 < (t346.length : Int) := of_decide_eq_true (by first | (with_reducible assumption) | assumption)
          obtain ⟨ad349, e349, hx349_0⟩ := Kd.at_int (Kd.R_reads' HO_3.out).2.2 x4_1 p349 q349
          cases e349
          replace p349 := eq_true p349
          replace q349 := eq_true q349
          go_wp2_with (first | ((with_reducible refine gate_callee (f := 29) rfl ?_); refine goesL_ (some 20) rfl rfl Tryd.func29 (by kernel_rfl) rfl #[.int .i32 (rd t346 x4_1)] rfl (by (try simp only [List.map_toArray, List.map_cons, List.map_nil]); first | done | rfl | (simp only [List.length_drop, List.length_take]; rfl)) ?_; (with_reducible refine (tremaref02_Class.calls k1 (rd t346 x4_1) t350 _ A9.out).mono ?_); rintro e w' ⟨rfl, ⟨nd, rfl⟩⟩; refine ⟨_, rfl, ?_⟩; have p351 : 0 ≤ ((ji12) : Int) := of_decide_eq_true (by first | (with_reducible assumption) | assumption); have q351 : (ji12) < (t346.length : Int) := of_decide_eq_true (by first | (with_reducible assumption) | assumption); obtain ⟨ad351, e351, hx351_0⟩ := Kd.at_int (Kd.R_reads' HO_3.out).2.2 (ji12) p351 q351; obtain rfl : ad349 = ad351 := (by injection e351); replace p351 := eq_true p351; replace q351 := eq_true q351) | (go_at_call 29; (with_reducible refine (tremaref02_Class.calls k1 (rd t346 (ji12)) t352 _ A15.out).mono ?_); rintro e w' ⟨rfl, ⟨nd, rfl⟩⟩))
          go_roundg k1
          case measure => have := HK1.out; omega
          case rel => exact ⟨(wrap64 (x4_1 + 1)), (by first | rfl | (simp; done) | (simp [*]; done)), H', ⟨by have := HK1.out; omega⟩, ⟨by (with_reducible repeat (first | apply Kd.R_alloc | apply Kd.R_drewN | apply Kd.R_drew)); exact HO_3.out⟩, ⟨by repeat (first | (with_reducible first | exact HB.out | apply below_alloc | apply pw_below_drewN | apply below_drew1) | exact HB.out)⟩⟩
        ·rw [if_neg c14] at H
         exact absurd H (by simp)
       ·rw [if_neg c13] at H
        exact absurd H (by simp)
     ·rw [if_neg c8] at H
      exact absurd H (by simp)
    ·rw [if_neg c7] at H
     have c7b0 : decide (x4_1 < (t346.length : Int)) = false := decide_eq_false c7
     clear c7
     replace H := Option.bind_eq_some_iff.mp H
     obtain ⟨t353, A190, H⟩ := H
     replace H : (if t353 = true then ((norm_Same.f k1 l0 t346).bind fun t354 => (if t354 = true then ((norm_Same.f k1 t346 l0).bind fun t355 => (if t355 = true then ((norm_Normal.f k1 t346).bind fun t356 => ((tremaref01_SameRunes.f k1 t356 t346).bind fun t359 => (some t359))) else (some false))) else (some false))) else (some false)) = some r := H
     have A19 := Aside0.mk A190
     clear A190
     by_cases c20 : t353 = true
     ·subst c20
      have H1 : ((norm_Same.f k1 l0 t346).bind fun t354 => (if t354 = true then ((norm_Same.f k1 t346 l0).bind fun t355 => (if t355 = true then ((norm_Normal.f k1 t346).bind fun t356 => ((tremaref01_SameRunes.f k1 t356 t346).bind fun t359 => (some t359))) else (some false))) else (some false))) = some r := by rw [if_pos rfl] at H; exact H
      clear H
      have H := H1
      clear H1
      replace H := Option.bind_eq_some_iff.mp H
      obtain ⟨t354, A210, H⟩ := H
      replace H : (if t354 = true then ((norm_Same.f k1 t346 l0).bind fun t355 => (if t355 = true then ((norm_Normal.f k1 t346).bind fun t356 => ((tremaref01_SameRunes.f k1 t356 t346).bind fun t359 => (some t359))) else (some false))) else (some false)) = some r := H
      have A21 := Aside0.mk A210
      clear A210
      by_cases c22 : t354 = true
      ·subst c22
       have H1 : ((norm_Same.f k1 t346 l0).bind fun t355 => (if t355 = true then ((norm_Normal.f k1 t346).bind fun t356 => ((tremaref01_SameRunes.f k1 t356 t346).bind fun t359 => (some t359))) else (some false))) = some r := by rw [if_pos rfl] at H; exact H
       clear H
       have H := H1
       clear H1
       replace H := Option.bind_eq_some_iff.mp H
       obtain ⟨t355, A230, H⟩ := H
       replace H : (if t355 = true then ((norm_Normal.f k1 t346).bind fun t356 => ((tremaref01_SameRunes.f k1 t356 t346).bind fun t359 => (some t359))) else (some false)) = some r := H
       have A23 := Aside0.mk A230
       clear A230
       by_cases c24 : t355 = true
       ·subst c24
        have H1 : ((norm_Normal.f k1 t346).bind fun t356 => ((tremaref01_SameRunes.f k1 t356 t346).bind fun t359 => (some t359))) = some r := by rw [if_pos rfl] at H; exact H
        clear H
        have H := H1
        clear H1
        replace H := Option.bind_eq_some_iff.mp H
        obtain ⟨t356, A250, H⟩ := H
        replace H : ((tremaref01_SameRunes.f k1 t356 t346).bind fun t359 => (some t359)) = some r := H
        have A25 := Aside0.mk A250
        clear A250
        replace H := Option.bind_eq_some_iff.mp H
        obtain ⟨t359, A260, H⟩ := H
        replace H : (some t359) = some r := H
        have A26 := Aside0.mk A260
        clear A260
        obtain rfl := Option.some.inj H
        obtain ⟨Ao27, co27, eo27⟩ := Kd.R_slice HO_3.out
        subst eo27
        go_wp2_with (first | ((with_reducible refine gate_callee (f := 23) rfl ?_); refine goesL_ (some 34) rfl rfl Tryd.func23 (by kernel_rfl) rfl #[.slice Ao27 t346.length co27] rfl (by (try simp only [List.map_toArray, List.map_cons, List.map_nil]); first | done | rfl | (simp only [List.length_drop, List.length_take]; rfl)) ?_; (with_reducible refine (norm_Is.calls k1 _ _ t346 true _ ?side1 ?side2 A19.out (by first | exact HG.out | exact Va.G.below HG.out (by repeat (first | (with_reducible first | exact HB.out | apply below_alloc | apply pw_below_drewN | apply below_drew1) | exact HB.out)))).mono ?_); (case side1 => repeat (first | exact (Kd.R_reads' HO_3.out).2.2 | (with_reducible refine Kd.C_alloc ?_ _) | (with_reducible refine Kd.C_drewN ?_ _) | (with_reducible refine Kd.C_drew ?_))); (case side2 => exact (Kd.R_reads' HO_3.out).2.1); rintro e w28 ⟨rfl, hb⟩; refine ⟨_, rfl, ?_⟩; have n0_ := Aside0.mk (Kd.R_below (by (with_reducible repeat (first | apply Kd.R_alloc | apply Kd.R_drewN | apply Kd.R_drew)); exact HO_3.out) hb); have n1_ := Aside0.mk (below_step (by repeat (first | (with_reducible first | exact HB.out | apply below_alloc | apply pw_below_drewN | apply below_drew1) | exact HB.out)) hb); clear HO_3; clear HB; have HO_3 := n0_; have HB := n1_; clear n0_ n1_; (try clear hb); (try clear hb2); (try clear hk); (try clear hi)) | (go_at_call 24; (with_reducible refine (norm_Same.calls k1 _ _ l0 _ _ t346 true _ ?side1 ?side2 ?side3 ?side4 A21.out (by first | exact HG.out | exact Va.G.below HG.out (by repeat (first | (with_reducible first | exact HB.out | apply below_alloc | apply pw_below_drewN | apply below_drew1) | exact HB.out)))).mono ?_); (case side1 => repeat (first | exact (Kd.C_below HR0.out HB.out) | (with_reducible refine Kd.C_alloc ?_ _) | (with_reducible refine Kd.C_drewN ?_ _) | (with_reducible refine Kd.C_drew ?_))); (case side2 => exact HC0.out); (case side3 => repeat (first | exact (Kd.R_reads' HO_3.out).2.2 | (with_reducible refine Kd.C_alloc ?_ _) | (with_reducible refine Kd.C_drewN ?_ _) | (with_reducible refine Kd.C_drew ?_))); (case side4 => exact (Kd.R_reads' HO_3.out).2.1); rintro e w29 ⟨rfl, hb⟩; have n0_ := Aside0.mk (Kd.R_below (by (with_reducible repeat (first | apply Kd.R_alloc | apply Kd.R_drewN | apply Kd.R_drew)); exact HO_3.out) hb); have n1_ := Aside0.mk (below_step (by repeat (first | (with_reducible first | exact HB.out | apply below_alloc | apply pw_below_drewN | apply below_drew1) | exact HB.out)) hb); clear HO_3; clear HB; have HO_3 := n0_; have HB := n1_; clear n0_ n1_; (try clear hb); (try clear hb2); (try clear hk); (try clear hi)) | (go_at_call 24; (with_reducible refine (norm_Same.calls k1 _ _ t346 _ _ l0 true _ ?side1 ?side2 ?side3 ?side4 A23.out (by first | exact HG.out | exact Va.G.below HG.out (by repeat (first | (with_reducible first | exact HB.out | apply below_alloc | apply pw_below_drewN | apply below_drew1) | exact HB.out)))).mono ?_); (case side1 => repeat (first | exact (Kd.R_reads' HO_3.out).2.2 | (with_reducible refine Kd.C_alloc ?_ _) | (with_reducible refine Kd.C_drewN ?_ _) | (with_reducible refine Kd.C_drew ?_))); (case side2 => exact (Kd.R_reads' HO_3.out).2.1); (case side3 => repeat (first | exact (Kd.C_below HR0.out HB.out) | (with_reducible refine Kd.C_alloc ?_ _) | (with_reducible refine Kd.C_drewN ?_ _) | (with_reducible refine Kd.C_drew ?_))); (case side4 => exact HC0.out); rintro e w30 ⟨rfl, hb⟩; have n0_ := Aside0.mk (Kd.R_below (by (with_reducible repeat (first | apply Kd.R_alloc | apply Kd.R_drewN | apply Kd.R_drew)); exact HO_3.out) hb); have n1_ := Aside0.mk (below_step (by repeat (first | (with_reducible first | exact HB.out | apply below_alloc | apply pw_below_drewN | apply below_drew1) | exact HB.out)) hb); clear HO_3; clear HB; have HO_3 := n0_; have HB := n1_; clear n0_ n1_; (try clear hb); (try clear hb2); (try clear hk); (try clear hi)) | (go_at_call 22; (with_reducible refine (norm_Normal.calls k1 _ _ t346 t356 _ ?side1 ?side2 A25.out (by first | exact HG.out | exact Va.G.below HG.out (by repeat (first | (with_reducible first | exact HB.out | apply below_alloc | apply pw_below_drewN | apply below_drew1) | exact HB.out)))).mono ?_); (case side1 => repeat (first | exact (Kd.R_reads' HO_3.out).2.2 | (with_reducible refine Kd.C_alloc ?_ _) | (with_reducible refine Kd.C_drewN ?_ _) | (with_reducible refine Kd.C_drew ?_))); (case side2 => exact (Kd.R_reads' HO_3.out).2.1); rintro e w31 ⟨v357, rfl, ho0, hb⟩; have n0_ := Aside0.mk (Kd.R_elder' (by (with_reducible repeat (first | apply Kd.R_alloc | apply Kd.R_drewN | apply Kd.R_drew)); exact HO_3.out) (Kd.R_base ho0) hb); have n1_ := Aside0.mk (Kd.R_lower (Kd.R_new' ho0 (Kd.R_lt (by (with_reducible repeat (first | apply Kd.R_alloc | apply Kd.R_drewN | apply Kd.R_drew)); exact HO_3.out))) (below_size (by repeat (first | (with_reducible first | exact HB.out | apply below_alloc | apply pw_below_drewN | apply below_drew1) | exact HB.out)))); have n2_ := Aside0.mk (below_step (by repeat (first | (with_reducible first | exact HB.out | apply below_alloc | apply pw_below_drewN | apply below_drew1) | exact HB.out)) hb); clear HO_3; clear HB; have HO_3 := n0_; have HO358 := n1_; have HB := n2_; clear n0_ n1_ n2_; (try clear hb); (try clear hb2); (try clear hk); (try clear hi); (try clear ho0); obtain ⟨Ao32, co32, eo32⟩ := Kd.R_slice HO358.out; subst eo32) | (go_at_call 21; (with_reducible refine (tremaref01_SameRunes.calls k1 _ _ t356 _ _ t346 t359 _ ?side1 ?side2 ?side3 ?side4 A26.out).mono ?_); (case side1 => repeat (first | exact (Kd.R_reads' HO358.out).2.2 | (with_reducible refine Kd.C_alloc ?_ _) | (with_reducible refine Kd.C_drewN ?_ _) | (with_reducible refine Kd.C_drew ?_))); (case side2 => exact (Kd.R_reads' HO358.out).2.1); (case side3 => repeat (first | exact (Kd.R_reads' HO_3.out).2.2 | (with_reducible refine Kd.C_alloc ?_ _) | (with_reducible refine Kd.C_drewN ?_ _) | (with_reducible refine Kd.C_drew ?_))); (case side4 => exact (Kd.R_reads' HO_3.out).2.1); rintro e w' ⟨rfl, ⟨nd, rfl⟩⟩))
        go_ret
        exact ⟨by first | rfl | (simp [errW_none, errW_some] <;> rfl) | (simp [*, errW_none, errW_some] <;> rfl), by repeat (first | (with_reducible first | exact HB.out | apply below_alloc | apply pw_below_drewN | apply below_drew1) | exact HB.out)⟩
       ·replace c24 := Bool.eq_false_iff.mpr c24
        subst c24
        have H1 : (some false) = some r := by rw [if_neg (show ¬ (false = true) by decide)] at H; exact H
        clear H
        have H := H1
        clear H1
        obtain rfl := Option.some.inj H
        obtain ⟨Ao33, co33, eo33⟩ := Kd.R_slice HO_3.out
        subst eo33
        go_wp2_with (first | ((with_reducible refine gate_callee (f := 23) rfl ?_); refine goesL_ (some 34) rfl rfl Tryd.func23 (by kernel_rfl) rfl #[.slice Ao33 t346.length co33] rfl (by (try simp only [List.map_toArray, List.map_cons, List.map_nil]); first | done | rfl | (simp only [List.length_drop, List.length_take]; rfl)) ?_; (with_reducible refine (norm_Is.calls k1 _ _ t346 true _ ?side1 ?side2 A19.out (by first | exact HG.out | exact Va.G.below HG.out (by repeat (first | (with_reducible first | exact HB.out | apply below_alloc | apply pw_below_drewN | apply below_drew1) | exact HB.out)))).mono ?_); (case side1 => repeat (first | exact (Kd.R_reads' HO_3.out).2.2 | (with_reducible refine Kd.C_alloc ?_ _) | (with_reducible refine Kd.C_drewN ?_ _) | (with_reducible refine Kd.C_drew ?_))); (case side2 => exact (Kd.R_reads' HO_3.out).2.1); rintro e w34 ⟨rfl, hb⟩; refine ⟨_, rfl, ?_⟩; have n0_ := Aside0.mk (Kd.R_below (by (with_reducible repeat (first | apply Kd.R_alloc | apply Kd.R_drewN | apply Kd.R_drew)); exact HO_3.out) hb); have n1_ := Aside0.mk (below_step (by repeat (first | (with_reducible first | exact HB.out | apply below_alloc | apply pw_below_drewN | apply below_drew1) | exact HB.out)) hb); clear HO_3; clear HB; have HO_3 := n0_; have HB := n1_; clear n0_ n1_; (try clear hb); (try clear hb2); (try clear hk); (try clear hi)) | (go_at_call 24; (with_reducible refine (norm_Same.calls k1 _ _ l0 _ _ t346 true _ ?side1 ?side2 ?side3 ?side4 A21.out (by first | exact HG.out | exact Va.G.below HG.out (by repeat (first | (with_reducible first | exact HB.out | apply below_alloc | apply pw_below_drewN | apply below_drew1) | exact HB.out)))).mono ?_); (case side1 => repeat (first | exact (Kd.C_below HR0.out HB.out) | (with_reducible refine Kd.C_alloc ?_ _) | (with_reducible refine Kd.C_drewN ?_ _) | (with_reducible refine Kd.C_drew ?_))); (case side2 => exact HC0.out); (case side3 => repeat (first | exact (Kd.R_reads' HO_3.out).2.2 | (with_reducible refine Kd.C_alloc ?_ _) | (with_reducible refine Kd.C_drewN ?_ _) | (with_reducible refine Kd.C_drew ?_))); (case side4 => exact (Kd.R_reads' HO_3.out).2.1); rintro e w35 ⟨rfl, hb⟩; have n0_ := Aside0.mk (Kd.R_below (by (with_reducible repeat (first | apply Kd.R_alloc | apply Kd.R_drewN | apply Kd.R_drew)); exact HO_3.out) hb); have n1_ := Aside0.mk (below_step (by repeat (first | (with_reducible first | exact HB.out | apply below_alloc | apply pw_below_drewN | apply below_drew1) | exact HB.out)) hb); clear HO_3; clear HB; have HO_3 := n0_; have HB := n1_; clear n0_ n1_; (try clear hb); (try clear hb2); (try clear hk); (try clear hi)) | (go_at_call 24; (with_reducible refine (norm_Same.calls k1 _ _ t346 _ _ l0 false _ ?side1 ?side2 ?side3 ?side4 A23.out (by first | exact HG.out | exact Va.G.below HG.out (by repeat (first | (with_reducible first | exact HB.out | apply below_alloc | apply pw_below_drewN | apply below_drew1) | exact HB.out)))).mono ?_); (case side1 => repeat (first | exact (Kd.R_reads' HO_3.out).2.2 | (with_reducible refine Kd.C_alloc ?_ _) | (with_reducible refine Kd.C_drewN ?_ _) | (with_reducible refine Kd.C_drew ?_))); (case side2 => exact (Kd.R_reads' HO_3.out).2.1); (case side3 => repeat (first | exact (Kd.C_below HR0.out HB.out) | (with_reducible refine Kd.C_alloc ?_ _) | (with_reducible refine Kd.C_drewN ?_ _) | (with_reducible refine Kd.C_drew ?_))); (case side4 => exact HC0.out); rintro e w36 ⟨rfl, hb⟩; have n0_ := Aside0.mk (Kd.R_below (by (with_reducible repeat (first | apply Kd.R_alloc | apply Kd.R_drewN | apply Kd.R_drew)); exact HO_3.out) hb); have n1_ := Aside0.mk (below_step (by repeat (first | (with_reducible first | exact HB.out | apply below_alloc | apply pw_below_drewN | apply below_drew1) | exact HB.out)) hb); clear HO_3; clear HB; have HO_3 := n0_; have HB := n1_; clear n0_ n1_; (try clear hb); (try clear hb2); (try clear hk); (try clear hi)))
        go_ret
        exact ⟨by first | rfl | (simp [errW_none, errW_some] <;> rfl) | (simp [*, errW_none, errW_some] <;> rfl), by repeat (first | (with_reducible first | exact HB.out | apply below_alloc | apply pw_below_drewN | apply below_drew1) | exact HB.out)⟩
      ·replace c22 := Bool.eq_false_iff.mpr c22
       subst c22
       have H1 : (some false) = some r := by rw [if_neg (show ¬ (false = true) by decide)] at H; exact H
       clear H
       have H := H1
       clear H1
       obtain rfl := Option.some.inj H
       obtain ⟨Ao37, co37, eo37⟩ := Kd.R_slice HO_3.out
       subst eo37
       go_wp2_with (first | ((with_reducible refine gate_callee (f := 23) rfl ?_); refine goesL_ (some 34) rfl rfl Tryd.func23 (by kernel_rfl) rfl #[.slice Ao37 t346.length co37] rfl (by (try simp only [List.map_toArray, List.map_cons, List.map_nil]); first | done | rfl | (simp only [List.length_drop, List.length_take]; rfl)) ?_; (with_reducible refine (norm_Is.calls k1 _ _ t346 true _ ?side1 ?side2 A19.out (by first | exact HG.out | exact Va.G.below HG.out (by repeat (first | (with_reducible first | exact HB.out | apply below_alloc | apply pw_below_drewN | apply below_drew1) | exact HB.out)))).mono ?_); (case side1 => repeat (first | exact (Kd.R_reads' HO_3.out).2.2 | (with_reducible refine Kd.C_alloc ?_ _) | (with_reducible refine Kd.C_drewN ?_ _) | (with_reducible refine Kd.C_drew ?_))); (case side2 => exact (Kd.R_reads' HO_3.out).2.1); rintro e w38 ⟨rfl, hb⟩; refine ⟨_, rfl, ?_⟩; have n0_ := Aside0.mk (Kd.R_below (by (with_reducible repeat (first | apply Kd.R_alloc | apply Kd.R_drewN | apply Kd.R_drew)); exact HO_3.out) hb); have n1_ := Aside0.mk (below_step (by repeat (first | (with_reducible first | exact HB.out | apply below_alloc | apply pw_below_drewN | apply below_drew1) | exact HB.out)) hb); clear HO_3; clear HB; have HO_3 := n0_; have HB := n1_; clear n0_ n1_; (try clear hb); (try clear hb2); (try clear hk); (try clear hi)) | (go_at_call 24; (with_reducible refine (norm_Same.calls k1 _ _ l0 _ _ t346 false _ ?side1 ?side2 ?side3 ?side4 A21.out (by first | exact HG.out | exact Va.G.below HG.out (by repeat (first | (with_reducible first | exact HB.out | apply below_alloc | apply pw_below_drewN | apply below_drew1) | exact HB.out)))).mono ?_); (case side1 => repeat (first | exact (Kd.C_below HR0.out HB.out) | (with_reducible refine Kd.C_alloc ?_ _) | (with_reducible refine Kd.C_drewN ?_ _) | (with_reducible refine Kd.C_drew ?_))); (case side2 => exact HC0.out); (case side3 => repeat (first | exact (Kd.R_reads' HO_3.out).2.2 | (with_reducible refine Kd.C_alloc ?_ _) | (with_reducible refine Kd.C_drewN ?_ _) | (with_reducible refine Kd.C_drew ?_))); (case side4 => exact (Kd.R_reads' HO_3.out).2.1); rintro e w39 ⟨rfl, hb⟩; have n0_ := Aside0.mk (Kd.R_below (by (with_reducible repeat (first | apply Kd.R_alloc | apply Kd.R_drewN | apply Kd.R_drew)); exact HO_3.out) hb); have n1_ := Aside0.mk (below_step (by repeat (first | (with_reducible first | exact HB.out | apply below_alloc | apply pw_below_drewN | apply below_drew1) | exact HB.out)) hb); clear HO_3; clear HB; have HO_3 := n0_; have HB := n1_; clear n0_ n1_; (try clear hb); (try clear hb2); (try clear hk); (try clear hi)))
       go_ret
       exact ⟨by first | rfl | (simp [errW_none, errW_some] <;> rfl) | (simp [*, errW_none, errW_some] <;> rfl), by repeat (first | (with_reducible first | exact HB.out | apply below_alloc | apply pw_below_drewN | apply below_drew1) | exact HB.out)⟩
     ·replace c20 := Bool.eq_false_iff.mpr c20
      subst c20
      have H1 : (some false) = some r := by rw [if_neg (show ¬ (false = true) by decide)] at H; exact H
      clear H
      have H := H1
      clear H1
      obtain rfl := Option.some.inj H
      obtain ⟨Ao40, co40, eo40⟩ := Kd.R_slice HO_3.out
      subst eo40
      go_wp2_with (first | ((with_reducible refine gate_callee (f := 23) rfl ?_); refine goesL_ (some 34) rfl rfl Tryd.func23 (by kernel_rfl) rfl #[.slice Ao40 t346.length co40] rfl (by (try simp only [List.map_toArray, List.map_cons, List.map_nil]); first | done | rfl | (simp only [List.length_drop, List.length_take]; rfl)) ?_; (with_reducible refine (norm_Is.calls k1 _ _ t346 false _ ?side1 ?side2 A19.out (by first | exact HG.out | exact Va.G.below HG.out (by repeat (first | (with_reducible first | exact HB.out | apply below_alloc | apply pw_below_drewN | apply below_drew1) | exact HB.out)))).mono ?_); (case side1 => repeat (first | exact (Kd.R_reads' HO_3.out).2.2 | (with_reducible refine Kd.C_alloc ?_ _) | (with_reducible refine Kd.C_drewN ?_ _) | (with_reducible refine Kd.C_drew ?_))); (case side2 => exact (Kd.R_reads' HO_3.out).2.1); rintro e w41 ⟨rfl, hb⟩; refine ⟨_, rfl, ?_⟩; have n0_ := Aside0.mk (Kd.R_below (by (with_reducible repeat (first | apply Kd.R_alloc | apply Kd.R_drewN | apply Kd.R_drew)); exact HO_3.out) hb); have n1_ := Aside0.mk (below_step (by repeat (first | (with_reducible first | exact HB.out | apply below_alloc | apply pw_below_drewN | apply below_drew1) | exact HB.out)) hb); clear HO_3; clear HB; have HO_3 := n0_; have HB := n1_; clear n0_ n1_; (try clear hb); (try clear hb2); (try clear hk); (try clear hi)))
      go_ret
      exact ⟨by first | rfl | (simp [errW_none, errW_some] <;> rfl) | (simp [*, errW_none, errW_some] <;> rfl), by repeat (first | (with_reducible first | exact HB.out | apply below_alloc | apply pw_below_drewN | apply below_drew1) | exact HB.out)⟩
 ·replace c3 := Bool.eq_false_iff.mpr c3
  subst c3
  have H1 : (some false) = some r := by rw [if_neg (show ¬ (false = true) by decide)] at H; exact H
  clear H
  have H := H1
  clear H1
  obtain rfl := Option.some.inj H
  go_enter Tryd.func5, Tryd.ntmps5
  go_wp2_with (first | ((with_reducible refine gate_callee (f := 19) rfl ?_); refine goesL_ (some 6) rfl rfl Tryd.func19 (by kernel_rfl) rfl #[] rfl (by (try simp only [List.map_toArray, List.map_cons, List.map_nil]); first | done | rfl | (simp only [List.length_drop, List.length_take]; rfl)) ?_; (with_reducible refine (tremalaw03_fixed.calls  false _ A2.out (by first | exact HG.out | exact Va.G.below HG.out (by repeat (first | (with_reducible first | exact HB.out | apply below_alloc | apply pw_below_drewN | apply below_drew1) | exact HB.out)))).mono ?_); rintro e w42 ⟨rfl, hb⟩; refine ⟨_, rfl, ?_⟩; have n0_ := Aside0.mk (below_step (by repeat (first | (with_reducible first | exact HB.out | apply below_alloc | apply pw_below_drewN | apply below_drew1) | exact HB.out)) hb); clear HB; have HB := n0_; clear n0_; (try clear hb); (try clear hb2); (try clear hk); (try clear hi)))
  go_ret
  exact ⟨by first | rfl | (simp [errW_none, errW_some] <;> rfl) | (simp [*, errW_none, errW_some] <;> rfl), by repeat (first | (with_reducible first | exact HB.out | apply below_alloc | apply pw_below_drewN | apply below_drew1) | exact HB.out)⟩

end Go.Proofs.YtiggjbclbdikmaaDoor.X

/-
  The plain law NormOnce.
-/
namespace Go.Proofs.YtiggjbclbdikmaaDoor.Oo
set_option linter.unusedVariables false
set_option linter.unusedSimpArgs false
open Go.RowKit Go.Proofs.YtiggjbclbdikmaaDoorW.PrintWords Go.Proofs.YtiggjbclbdikmaaDoor.Ev0 Go.Proofs.YtiggjbclbdikmaaDoor.X Go.Proofs.YtiggjbclbdikmaaDoor.Va Go.Proofs.YtiggjbclbdikmaaDoor.Ve Go.Proofs.YtiggjbclbdikmaaDoor.Vp0 Go.Proofs.YtiggjbclbdikmaaDoor.Vr Go.Proofs.YtiggjbclbdikmaaDoor.Vu Go.Proofs.YtiggjbclbdikmaaDoor.Na Go.Proofs.YtiggjbclbdikmaaDoor.Oa Go.Proofs.YtiggjbclbdikmaaDoor.Ob

theorem rd_at : ∀ (r : List Int), Rd r → ∀ i (h : i + 1 < r.length), cls r[i] = 0 ∨ cls r[i + 1] ≤ cls r[i]
  | [], _, i, h => by simp at h
  | [x], _, i, h => by simp at h
  | y :: x :: t, hr, 0, _ => hr.1
  | y :: x :: t, hr, i + 1, h => rd_at (x :: t) hr.2 i (by simpa using h)
theorem rise0 (r : List Int) (hr : Rd r) (i : Nat) (h : i + 1 < r.reverse.length) : cls r.reverse[i + 1] = 0 ∨ cls r.reverse[i] ≤ cls r.reverse[i + 1] := by
  have h1 : i + 1 < r.length := by simpa using h
  have := rd_at r hr (r.length - 1 - (i + 1)) (by omega)
  rw [List.getElem_reverse, List.getElem_reverse]
  have e : r.length - 1 - i = r.length - 1 - (i + 1) + 1 := by omega
  simp only [e]
  exact this
theorem rise (l : List Int) (M : List Int) (hM : M = nrm l) (i : Nat) (h : i + 1 < M.length) : cls M[i + 1] = 0 ∨ cls M[i] ≤ cls M[i + 1] := by
  subst hM
  exact rise0 (ordR (flat l)) (ordR_rd _) i h
theorem NormOnce (l : List Int) (hwf : ∀ x ∈ l, (Lit.int .i32 x).wf = true) (hl : l.length ≤ 1048576) : ∃ k, tremalaw03_NormOnce.f k l = some true := by
  have h1 : ∀ x ∈ l, I32 x := fun x hx => wf32 (hwf x hx)
  have n1 := nrm_len3 l h1
  have h2 : ∀ x ∈ nrm l, I32 x := fun x hx => (nrm_bot l h1 x hx).2
  have hid := nrm_id l h1
  apply Ev.rounds (g := fun k => tremalaw03_NormOnce.f k l)
  unfold tremalaw03_NormOnce.f tremalaw03_fixed.f
  simp only [Option.bind_some, if_true]
  refine Ev.bind (normEv l h1 (by omega)) ?_
  obtain ⟨N, hN⟩ : ∃ N, N = nrm l := ⟨_, rfl⟩
  have hend : Ev (fun k => (norm_Is.f k N).bind fun t353 => (if t353 = true then ((norm_Same.f k l N).bind fun t354 => (if t354 = true then ((norm_Same.f k N l).bind fun t355 => (if t355 = true then ((norm_Normal.f k N).bind fun t356 => ((tremaref01_SameRunes.f k t356 N).bind fun t359 => (some t359))) else (some false))) else (some false))) else (some false))) true := by
    have e1 := isEv N (by rw [hN]; exact h2) (by rw [hN]; omega)
    have e2 := sameNEv l N h1 (by omega) (by rw [hN]; exact h2) (by rw [hN]; omega)
    have e3 := sameNEv N l (by rw [hN]; exact h2) (by rw [hN]; omega) h1 (by omega)
    have e4 := normEv N (by rw [hN]; exact h2) (by rw [hN]; omega)
    have hd : nrm N = N := by rw [hN, hid]
    rw [hd] at e1 e2 e3 e4
    rw [decide_eq_true rfl] at e1
    rw [decide_eq_true hN.symm] at e2
    rw [decide_eq_true hN] at e3
    refine Ev.bind e1 ?_
    simp only [if_true]
    refine Ev.bind e2 ?_
    simp only [if_true]
    refine Ev.bind e3 ?_
    simp only [if_true]
    refine Ev.bind e4 ?_
    refine Ev.bind (sameEv N N (by rw [hN]; omega)) ?_
    rw [decide_eq_true rfl]
    exact Ev.now _
  have hrise := rise l N hN
  rw [← hN] at n1 ⊢
  clear hN hid h2
  have key : ∀ q i : Nat, 0 < i → i + q = max 1 N.length → Ev (fun k => tremalaw03_NormOnce.l0 k l N (i : Int)) true := by
    intro q
    induction q with
    | zero =>
      intro i h0 hi
      refine Ev.step (fun k => tremalaw03_NormOnce.l0.eq_2 ..) ?_
      simp only [if_neg (show ¬ (i : Int) < (N.length : Int) by omega)]
      exact hend
    | succ q ih =>
      intro i h0 hi
      have hil : i < N.length := by omega
      have hw := w64d (a := i) h0 (by omega)
      have hi1 : i - 1 < N.length := by omega
      have ih := ih (i + 1) (by omega) (by omega)
      refine Ev.step (fun k => tremalaw03_NormOnce.l0.eq_2 ..) ?_
      simp only [if_pos (getLt hil), if_pos (show (0 : Int) ≤ (i : Int) by omega), rd_nat hil, hw, if_pos (getLt hi1), if_pos (show (0 : Int) ≤ ((i - 1 : Nat) : Int) by omega), rd_nat hi1, w64 (i := i) (by omega)]
      refine Ev.bind (clsEv _) ?_
      by_cases hc : cls N[i] = 0
      · simp only [if_pos hc]
        exact ih
      · simp only [if_neg hc]
        refine Ev.bind (clsEv _) ?_
        have hr := hrise (i - 1) (by omega)
        have e : i - 1 + 1 = i := by omega
        simp only [e] at hr
        simp only [if_neg (show ¬ cls N[i - 1] > cls N[i] by rcases hr with hr | hr; (· exact absurd hr hc); (· omega))]
        exact ih
  exact key (max 1 N.length - 1) 1 (by omega) (by omega)
end Go.Proofs.YtiggjbclbdikmaaDoor.Oo

/-
  NormOnce: for every input the law returns true and its arguments read as before (arguments of bulk at most 1048576).
-/
namespace Go.Proofs.YtiggjbclbdikmaaDoor.normOnce
open Go.ChangeShapes Go.WideShapes Go.ChangeAt Go.RowKit
open Go.ChangeMaps (open_string shut_string)
set_option linter.unusedVariables false
set_option linter.unusedSimpArgs false
theorem own : ownKnob Tryd.prog.godebug = none := by kernel_rfl
theorem laidOut : laidOutB Tryd.prog = true := by kernel_rfl
set_option maxRecDepth 100000 in
theorem contract (H : Type) (enc : TypeId × Value → H) (W : World) (base : Nat) (args : Array Value) (ds gs : List (DataW H)) (before : List MemPlace)
    (hval0 : ∀ (j : Nat) t v, Tryd.f5.params[j]? = some t → args[j]? = some v → Value.okWide Tryd.prog W .any base t v)
    (hW : DataW.Whole enc Tryd.prog Tryd.f5.params.toList Rows.normOnceSpec.vars false W args.toList ds gs before)
    (hL : laidMetH Tryd.prog Lv.laid W)
    (hk0 : Rows.uptoSmall H (ds ++ gs) = true) :
    Calls Tryd.prog 5 args W fun e W' => ∃ v, e = .returned v ∧ Rows.normOnceSpec.post enc Tryd.prog Tryd.f5 false true false false W args v W' := by
  have hkb : Rows.uptoBulkAll (ds ++ gs) ≤ 1048576 := of_decide_eq_true hk0
  have hval : ∀ (j : Nat) t v, Tryd.f5.params[j]? = some t → args[j]? = some v → Value.okWide Tryd.prog W .any base t v := hval0
  have hW' := hW
  obtain ⟨p, q, hA0, hV, rfl, hfz, hnd⟩ := hW
  have hA : DataW.TrodAll enc Tryd.prog W 0 (fun _ => true) true Tryd.f5.params.toList args.toList ds p := hA0
  rw [Tryd.params5] at hA hval
  obtain ⟨v0, vs0, d0, ds0, p0, q0, hargs, rfl, rfl, h0, r0⟩ := trodAll_cons hA
  obtain ⟨rfl, rfl, rfl⟩ := trodAll_nil r0
  obtain rfl : args = #[v0] := by cases args; simp_all
  obtain ⟨rfl, rfl⟩ := trodVars_none hV
  have k0 := h0
  have lt0 : ∀ x ∈ p0, x.block < W.heap.size := by obtain ⟨m, hm⟩ := k0; exact DataW.trod_lt m _ _ _ hm
  obtain ⟨A0, xs0, c0, rfl, hc0, hC0, hw0, hb0, hz0⟩ := Od.arg_slice Tryd.underlying22 (by kernel_rfl) (Od.opens_int Tryd.underlying21) (hval 0 22 v0 rfl rfl) h0
  simp only [List.append_nil, Rows.uptoBulkAll] at hkb
  have hB0 := Nat.le_trans (Nat.le_trans (Nat.le_succ _) hb0) (show Rows.uptoBulk d0 ≤ 1048576 by omega)
  clear hA0 hval0 hk0
  obtain ⟨k, hk⟩ := Go.Proofs.YtiggjbclbdikmaaDoor.Oo.NormOnce xs0 hw0 (Nat.le_trans (Od.sumB_len (fun _ => Nat.le_refl _) _) hB0)
  refine (Go.Proofs.YtiggjbclbdikmaaDoor.X.tremalaw03_NormOnce.calls k A0 c0 xs0 true W hC0 hc0 hk (Lv.of_laid hL)).mono fun e W' ⟨he, bel⟩ => ?_
  subst he
  exact ⟨_, rfl, _, _, _, [], _, [], hW', trodAll_mk1 (shut_bool Tryd.underlying4 _), (trodAll_cons_mk (Below.trod laidOut (by kernel_rfl) (of_decide_eq_true (by kernel_rfl)) k0 bel lt0) trodAll_mk0), rfl, bel.frame _, fun h => by cases h⟩
set_option maxRecDepth 100000 in
theorem lifted (os : Os) (started : os.Started) (H : Type) (enc : TypeId × Value → H) (F : Stop.Interp) :
    ReturnsInHanded {} Tryd.checked os 5 .any ((Rows.OpenSpec.upto Rows.normOnceSpec).preRow enc Tryd.prog Tryd.f5 Rows.normOnceUptoRow.domain false Rows.normOnceUptoRow.laid) (((Rows.OpenSpec.upto Rows.normOnceSpec).at F).post enc Tryd.prog Tryd.f5 false true false false) := by
  refine returnsInHanded_of_row (C := Tryd.checked) (s := Rows.OpenSpec.upto Rows.normOnceSpec) own started (by kernel_rfl) Tryd.func5
    (witness_row_atRef (enc := enc) (C := Tryd.checked) false (World.doorLaid Tryd.prog 400 os) #[(.slice none 0 0)] rfl (by kernel_rfl) (by kernel_rfl) (by kernel_rfl)
      (OpenSpec.preRow_of_cond (x := ([.nil], [], [])) 8 (by kernel_rfl) (by kernel_rfl) (fun k hk => by cases hk; kernel_rfl) (by kernel_rfl) (Lv.door_met os _))) ?_
  intro W base args ds gs before hval hW _ hcond _ hL _ _
  exact contract H enc W base args ds gs before hval hW hL (hcond _ rfl)
theorem proved : Rows.NormOnceUptoSaid :=
  OpenClaim.holds_of_cond 5 Tryd.f5 rfl rfl rfl rfl rfl rfl rfl ⟨rfl, rfl, rfl, rfl, rfl⟩ rfl rfl rfl rfl rfl (by kernel_rfl) Tryd.func5 (by kernel_rfl)
    (of_decide_eq_true (by kernel_rfl)) (by unfold Func.isWrapper; first | (rw [if_pos (by decide +kernel)]; kernel_rfl) | (rw [if_neg (by decide +kernel)]; exact ⟨rfl, rfl⟩))
    (fun os started H enc _ F => by rw [OpenClaim.pre_eq_preRow]; exact lifted os started H enc F)
end Go.Proofs.YtiggjbclbdikmaaDoor.normOnce
namespace Go.Proofs.YtiggjbclbdikmaaDoor
theorem normOnce_holds : Rows.NormOnceUptoCardSaid :=
  Claim7.holds_tied_plain_at .later [] [.data, .data, .data] true (true, "fdf6c36acc2ff838e2b06de7c88b3a207dcf6760465f25f192835ebb1407940d") false
    normOnce.proved (fun _ h => by cases h) (by kernel_rfl) (fun _ h => by cases h) normOnceUpto_row_tie rfl ⟨rfl, rfl⟩ (by kernel_rfl) rfl
    (fun f fn hf hfn => by
      obtain rfl : f = 5 := Option.some.inj ((show Tryd.prog.funcNamed "trema/tremalaw03.NormOnce" = some 5 by kernel_rfl).symm.trans hf) |>.symm
      obtain rfl : fn = Tryd.f5 := (Option.some.inj (Tryd.func5.symm.trans hfn)).symm
      exact ⟨by kernel_rfl, fun j t ht => by
        rw [Tryd.params5] at ht
        have hm : t ∈ [22] := by simpa using Array.mem_of_getElem? ht
        have hall : ([22].all fun u => !Tryd.prog.wantsStandIn u) = true := by kernel_rfl
        exact (show Tryd.prog.wantsStandIn t = false by simpa using List.all_eq_true.1 hall t hm)⟩)
    (by kernel_rfl)
#print axioms normOnce_holds
end Go.Proofs.YtiggjbclbdikmaaDoor
