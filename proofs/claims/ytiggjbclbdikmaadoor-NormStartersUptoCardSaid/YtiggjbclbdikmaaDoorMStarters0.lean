/-
  NormStarters: for every input of bulk at most 1048576 the law returns true and its arguments read as before.
-/
import Derived.Test.YtiggjbclbdikmaaDoorMN0
import Derived.Test.YtiggjbclbdikmaaDoorMN1
import Derived.Test.YtiggjbclbdikmaaDoorMN2
import Derived.Test.YtiggjbclbdikmaaDoorMN4
import Derived.Test.YtiggjbclbdikmaaDoorMN3
import Derived.Test.YtiggjbclbdikmaaDoorRows
import Derived.Test.YtiggjbclbdikmaaDoorTie
import Derived.Test.YtiggjbclbdikmaaDoorCards
import Derived.WalkKit
import Derived.ProofKit
import Derived.OpenShut
import Derived.ShutString
import Derived.ChangeOld
import Derived.Below
import Derived.SizedLaws
import Derived.JoinedCond
import Derived.SevenTiedAt
import Derived.LaidMore
import Derived.Stop.Joined
import Derived.Deep.DeepHandedRow
import Derived.Deep.DeepWitnessRowRef
-- Written by a program of this session (xprint.py), over the kit's print.
namespace Go.Proofs.YtiggjbclbdikmaaDoor.X
open Go.RowKit Go.Proofs.YtiggjbclbdikmaaDoorW.PrintWords Go.Proofs.YtiggjbclbdikmaaDoorW.PrintLast Go.Proofs.YtiggjbclbdikmaaDoorW.PrintMore
attribute [local go_sem] max2_int min2_int max_two min_two max_three min_three max_four min_four   -- for this text's walks alone
set_option linter.unusedVariables false
set_option linter.unusedSimpArgs false

/-! ### tremalaw03_NormStarters: function 10 -/
mutual
def tremalaw03_NormStarters.l0 : Nat → List Int → List Int → Int → List Int → Int → Int → Option (Bool)
 | 0, _, _, _, _, _, _ => none
 | k + 1, x0, x3, x5, x15, x16, x17 => if x17 < x16 then (if 0 ≤ x17 then (if x17 < (x15.length : Int) then ((tremaref02_Decompose.f k (rd x15 x17)).bind fun t395 => (tremalaw03_NormStarters.l1 k x0 x3 x5 x15 x16 x17 t395 (t395.length : Int) 0)) else (none)) else (none)) else ((norm_Normal.f k x0).bind fun t403 => (tremalaw03_NormStarters.l2 k x3 ([] : List Int) x5 t403 t403 (t403.length : Int) 0))
def tremalaw03_NormStarters.l1 : Nat → List Int → List Int → Int → List Int → Int → Int → List Int → Int → Int → Option (Bool)
 | 0, _, _, _, _, _, _, _, _, _ => none
 | k + 1, x0, x3, x5, x15, x16, x17, x22, x23, x24 => if x24 < x23 then (if 0 ≤ x24 then (if x24 < (x22.length : Int) then ((tremaref02_Class.f k (rd x22 x24)).bind fun t399 => (if t399 = 0 then (if x3.length < 35184372088832 then (tremalaw03_NormStarters.l1 k x0 (x3 ++ [rd x22 x24]) (wrap64 (x5 + 1)) x15 x16 x17 x22 x23 (wrap64 (x24 + 1))) else (none)) else (tremalaw03_NormStarters.l1 k x0 x3 (wrap64 (x5 + 1)) x15 x16 x17 x22 x23 (wrap64 (x24 + 1))))) else (none)) else (none)) else (tremalaw03_NormStarters.l0 k x0 x3 x5 x15 x16 (wrap64 (x17 + 1)))
def tremalaw03_NormStarters.l2 : Nat → List Int → List Int → Int → List Int → List Int → Int → Int → Option (Bool)
 | 0, _, _, _, _, _, _, _ => none
 | k + 1, x3, x4, x5, x10, x41, x42, x43 => if x43 < x42 then (if 0 ≤ x43 then (if x43 < (x41.length : Int) then ((tremaref02_Class.f k (rd x41 x43)).bind fun t407 => (if t407 = 0 then (if x4.length < 35184372088832 then (tremalaw03_NormStarters.l2 k x3 (x4 ++ [rd x41 x43]) x5 x10 x41 x42 (wrap64 (x43 + 1))) else (none)) else (tremalaw03_NormStarters.l2 k x3 x4 x5 x10 x41 x42 (wrap64 (x43 + 1))))) else (none)) else (none)) else (if (x10.length : Int) = x5 then ((tremaref01_SameRunes.f k x4 x3).bind fun t411 => (some t411)) else (some false))
end
def tremalaw03_NormStarters.f (k : Nat) (l0 : List Int) : Option (Bool) := (tremalaw03_fixed.f).bind fun t393 => (if t393 = true then (tremalaw03_NormStarters.l0 k l0 ([] : List Int) 0 l0 (l0.length : Int) 0) else (some false))
theorem tremalaw03_NormStarters.mono_l : ∀ k, (∀ y0 y1 y2 y3 y4 y5, LeO (tremalaw03_NormStarters.l0 k y0 y1 y2 y3 y4 y5) (tremalaw03_NormStarters.l0 (k + 1) y0 y1 y2 y3 y4 y5)) ∧ (∀ y0 y1 y2 y3 y4 y5 y6 y7 y8, LeO (tremalaw03_NormStarters.l1 k y0 y1 y2 y3 y4 y5 y6 y7 y8) (tremalaw03_NormStarters.l1 (k + 1) y0 y1 y2 y3 y4 y5 y6 y7 y8)) ∧ (∀ y0 y1 y2 y3 y4 y5 y6, LeO (tremalaw03_NormStarters.l2 k y0 y1 y2 y3 y4 y5 y6) (tremalaw03_NormStarters.l2 (k + 1) y0 y1 y2 y3 y4 y5 y6))
 | 0 => ⟨fun _ _ _ _ _ _ r h => by simp [tremalaw03_NormStarters.l0] at h, fun _ _ _ _ _ _ _ _ _ r h => by simp [tremalaw03_NormStarters.l1] at h, fun _ _ _ _ _ _ _ r h => by simp [tremalaw03_NormStarters.l2] at h⟩
 | k + 1 => by
  obtain ⟨ih0, ih1, ih2⟩ := tremalaw03_NormStarters.mono_l k
  refine ⟨?_, ?_, ?_⟩
  ·intro y0 y1 y2 y3 y4 y5
   unfold tremalaw03_NormStarters.l0
   repeat' first
   | (with_reducible exact ih0 _ _ _ _ _ _)
   | (with_reducible exact ih1 _ _ _ _ _ _ _ _ _)
   | (with_reducible exact ih2 _ _ _ _ _ _ _)
   | (with_reducible exact norm_Normal.mono _ _)
   | (with_reducible exact tremaref01_SameRunes.mono _ _ _)
   | (with_reducible exact tremaref02_Class.mono _ _)
   | (with_reducible exact tremaref02_Decompose.mono _ _)
   | (with_reducible exact LeO.refl _)
   | (with_reducible exact LeO.none _)
   | (with_reducible refine LeO.ite ?_ ?_)
   | (with_reducible refine LeO.bind ?_ (fun _ => ?_))
   | exact ih0 _ _ _ _ _ _
   | exact ih1 _ _ _ _ _ _ _ _ _
   | exact ih2 _ _ _ _ _ _ _
   | exact norm_Normal.mono _ _
   | exact tremaref01_SameRunes.mono _ _ _
   | exact tremaref02_Class.mono _ _
   | exact tremaref02_Decompose.mono _ _
   | exact LeO.none _
   | refine LeO.ite ?_ ?_
   | refine LeO.bind ?_ (fun _ => ?_)
  ·intro y0 y1 y2 y3 y4 y5 y6 y7 y8
   unfold tremalaw03_NormStarters.l1
   repeat' first
   | (with_reducible exact ih0 _ _ _ _ _ _)
   | (with_reducible exact ih1 _ _ _ _ _ _ _ _ _)
   | (with_reducible exact ih2 _ _ _ _ _ _ _)
   | (with_reducible exact norm_Normal.mono _ _)
   | (with_reducible exact tremaref01_SameRunes.mono _ _ _)
   | (with_reducible exact tremaref02_Class.mono _ _)
   | (with_reducible exact tremaref02_Decompose.mono _ _)
   | (with_reducible exact LeO.refl _)
   | (with_reducible exact LeO.none _)
   | (with_reducible refine LeO.ite ?_ ?_)
   | (with_reducible refine LeO.bind ?_ (fun _ => ?_))
   | exact ih0 _ _ _ _ _ _
   | exact ih1 _ _ _ _ _ _ _ _ _
   | exact ih2 _ _ _ _ _ _ _
   | exact norm_Normal.mono _ _
   | exact tremaref01_SameRunes.mono _ _ _
   | exact tremaref02_Class.mono _ _
   | exact tremaref02_Decompose.mono _ _
   | exact LeO.none _
   | refine LeO.ite ?_ ?_
   | refine LeO.bind ?_ (fun _ => ?_)
  ·intro y0 y1 y2 y3 y4 y5 y6
   unfold tremalaw03_NormStarters.l2
   repeat' first
   | (with_reducible exact ih0 _ _ _ _ _ _)
   | (with_reducible exact ih1 _ _ _ _ _ _ _ _ _)
   | (with_reducible exact ih2 _ _ _ _ _ _ _)
   | (with_reducible exact norm_Normal.mono _ _)
   | (with_reducible exact tremaref01_SameRunes.mono _ _ _)
   | (with_reducible exact tremaref02_Class.mono _ _)
   | (with_reducible exact tremaref02_Decompose.mono _ _)
   | (with_reducible exact LeO.refl _)
   | (with_reducible exact LeO.none _)
   | (with_reducible refine LeO.ite ?_ ?_)
   | (with_reducible refine LeO.bind ?_ (fun _ => ?_))
   | exact ih0 _ _ _ _ _ _
   | exact ih1 _ _ _ _ _ _ _ _ _
   | exact ih2 _ _ _ _ _ _ _
   | exact norm_Normal.mono _ _
   | exact tremaref01_SameRunes.mono _ _ _
   | exact tremaref02_Class.mono _ _
   | exact tremaref02_Decompose.mono _ _
   | exact LeO.none _
   | refine LeO.ite ?_ ?_
   | refine LeO.bind ?_ (fun _ => ?_)
theorem tremalaw03_NormStarters.mono : ∀ a0 k, LeO (tremalaw03_NormStarters.f k a0) (tremalaw03_NormStarters.f (k + 1) a0) := by
 intro a0 k
 obtain ⟨ih0, ih1, ih2⟩ := tremalaw03_NormStarters.mono_l k
 unfold tremalaw03_NormStarters.f
 repeat' first
   | (with_reducible exact ih0 _ _ _ _ _ _)
   | (with_reducible exact ih1 _ _ _ _ _ _ _ _ _)
   | (with_reducible exact ih2 _ _ _ _ _ _ _)
   | (with_reducible exact norm_Normal.mono _ _)
   | (with_reducible exact tremaref01_SameRunes.mono _ _ _)
   | (with_reducible exact tremaref02_Class.mono _ _)
   | (with_reducible exact tremaref02_Decompose.mono _ _)
   | (with_reducible exact LeO.refl _)
   | (with_reducible exact LeO.none _)
   | (with_reducible refine LeO.ite ?_ ?_)
   | (with_reducible refine LeO.bind ?_ (fun _ => ?_))
   | exact ih0 _ _ _ _ _ _
   | exact ih1 _ _ _ _ _ _ _ _ _
   | exact ih2 _ _ _ _ _ _ _
   | exact norm_Normal.mono _ _
   | exact tremaref01_SameRunes.mono _ _ _
   | exact tremaref02_Class.mono _ _
   | exact tremaref02_Decompose.mono _ _
   | exact LeO.none _
   | refine LeO.ite ?_ ?_
   | refine LeO.bind ?_ (fun _ => ?_)
set_option maxHeartbeats 8000000 in
set_option maxRecDepth 100000 in
theorem tremalaw03_NormStarters.calls (k : Nat) (A0 : Option Addr) (c0 : Nat) (l0 : List Int) (r : Bool) (w : World) (hr0 : Kd.C (Kd.int .i32) w A0 l0.length l0) (hc0 : l0.length ≤ c0) (h : tremalaw03_NormStarters.f k l0 = some r) (hG0 : Va.G w) :
  Calls Tryd.prog 10 #[.slice A0 l0.length c0] w fun e w' => e = .returned (.bool r) ∧ Below w.heap.size w w' := by
 have HG := Aside0.mk hG0
 clear hG0
 have HR0 := Aside0.mk hr0
 have HC0 := Aside0.mk hc0
 clear hr0 hc0
 have HB := Aside0.mk (Below.refl w.heap.size w)
 have H : ((tremalaw03_fixed.f).bind fun t393 => (if t393 = true then (tremalaw03_NormStarters.l0 k l0 ([] : List Int) 0 l0 (l0.length : Int) 0) else (some false))) = some r := h
 clear h
 replace H := Option.bind_eq_some_iff.mp H
 obtain ⟨t393, A20, H⟩ := H
 replace H : (if t393 = true then (tremalaw03_NormStarters.l0 k l0 ([] : List Int) 0 l0 (l0.length : Int) 0) else (some false)) = some r := H
 have A2 := Aside0.mk A20
 clear A20
 by_cases c3 : t393 = true
 ·subst c3
  have H1 : (tremalaw03_NormStarters.l0 k l0 ([] : List Int) 0 l0 (l0.length : Int) 0) = some r := by rw [if_pos rfl] at H; exact H
  clear H
  have H := H1
  clear H1
  have H' := Aside0.mk H
  clear H
  go_enter Tryd.func10, Tryd.ntmps10
  go_wp2_with (first | ((with_reducible refine gate_callee (f := 19) rfl ?_); refine goesL_ (some 13) rfl rfl Tryd.func19 (by kernel_rfl) rfl #[] rfl (by (try simp only [List.map_toArray, List.map_cons, List.map_nil]); first | done | rfl | (simp only [List.length_drop, List.length_take]; rfl)) ?_; (with_reducible refine (tremalaw03_fixed.calls  true _ A2.out (by first | exact HG.out | exact Va.G.below HG.out (by repeat (first | (with_reducible first | exact HB.out | apply below_alloc | apply pw_below_drewN | apply below_drew1) | exact HB.out)))).mono ?_); rintro e w4 ⟨rfl, hb⟩; refine ⟨_, rfl, ?_⟩; have n0_ := Aside0.mk (below_step (by repeat (first | (with_reducible first | exact HB.out | apply below_alloc | apply pw_below_drewN | apply below_drew1) | exact HB.out)) hb); clear HB; have HB := n0_; clear n0_; (try clear hb); (try clear hb2); (try clear hk); (try clear hi)))
  go_loopg [3, 5, 17] k (fun kq v3 v5 v17 w' => ∃ (x3_1 : List Int) (x5_1 : Int) (x17_1 : Int), v5 = .int .i64 x5_1 ∧ v17 = .int .i64 x17_1 ∧ Aside0 (tremalaw03_NormStarters.l0 kq l0 x3_1 x5_1 l0 (l0.length : Int) x17_1 = some r) ∧ Aside0 (kq ≤ k) ∧ Aside0 (Kd.R (Kd.int .i32) 21 w' w.heap.size (fun _ => True) v3 x3_1) ∧ Aside0 (Below w.heap.size w w'))
  case atStart => exact ⟨(([] : List Int)), (0), (0), (by first | rfl | (simp; done) | (simp [*]; done)), (by first | rfl | (simp; done) | (simp [*]; done)), H', ⟨Nat.le_refl _⟩, ⟨by first | exact Kd.R_nil _ _ _ _ _ | exact Kd.N_nil _ _ _ _ _ | exact Kd.V_nil _ _ _ _ _ | exact Kd.Q_nil _ _ _ _ _ | exact Kd.S_nil _ _ _ _ _⟩, ⟨by repeat (first | (with_reducible first | exact HB.out | apply below_alloc | apply pw_below_drewN | apply below_drew1) | exact HB.out)⟩⟩
  case round =>
   clear H'
   try clear c1
   try clear p2
   try clear c3
   obtain ⟨x3_1, x5_1, x17_1, rfl, rfl, HA, HK1, HO_3, HB⟩ := hrel
   cases gk with
   | zero => exact absurd HA.out (by simp [tremalaw03_NormStarters.l0])
   | succ k1 =>
    have H := HA.out
    clear HA
    simp only [tremalaw03_NormStarters.l0] at H
    by_cases c5 : x17_1 < (l0.length : Int)
    ·rw [if_pos c5] at H
     have c5b0 : decide (x17_1 < (l0.length : Int)) = true := decide_eq_true c5
     clear c5
     by_cases c6 : 0 ≤ x17_1
     ·rw [if_pos c6] at H
      have c6b0 : decide (0 ≤ x17_1) = true := decide_eq_true c6
      clear c6
      by_cases c7 : x17_1 < (l0.length : Int)
      ·rw [if_pos c7] at H
       have c7b0 : decide (x17_1 < (l0.length : Int)) = true := decide_eq_true c7
       clear c7
       replace H := Option.bind_eq_some_iff.mp H
       obtain ⟨t395, A80, H⟩ := H
       replace H : (tremalaw03_NormStarters.l1 k1 l0 x3_1 x5_1 l0 (l0.length : Int) x17_1 t395 (t395.length : Int) 0) = some r := H
       have A8 := Aside0.mk A80
       clear A80
       have H' := Aside0.mk H
       clear H
       have p394 : 0 ≤ (x17_1 : Int) := of_decide_eq_true (by first | (with_reducible assumption) | assumption)
       have q394 : x17_1 < (l0.length : Int) := of_decide_eq_true (by first | (with_reducible assumption) | assumption)
       obtain ⟨ad394, e394, hx394_0⟩ := Kd.at_int HR0.out x17_1 p394 q394
       cases e394
       replace hx394_0 := (HB.out.cell (World.block_lt_of_cell? w _ hx394_0)).trans hx394_0
       replace p394 := eq_true p394
       replace q394 := eq_true q394
       go_wp2_with (first | ((with_reducible refine gate_callee (f := 36) rfl ?_); refine goesL_ (some 22) rfl rfl Tryd.func36 (by kernel_rfl) rfl #[.int .i32 (rd l0 x17_1)] rfl (by (try simp only [List.map_toArray, List.map_cons, List.map_nil]); first | done | rfl | (simp only [List.length_drop, List.length_take]; rfl)) ?_; (with_reducible refine (tremaref02_Decompose.calls k1 (rd l0 x17_1) t395 _ A8.out).mono ?_); rintro e w9 ⟨v396, rfl, ho0, hb⟩; refine ⟨_, rfl, ?_⟩; have n0_ := Aside0.mk (Kd.R_elder' (by (with_reducible repeat (first | apply Kd.R_alloc | apply Kd.R_drewN | apply Kd.R_drew)); exact HO_3.out) (Kd.R_base ho0) hb); have n1_ := Aside0.mk (Kd.R_lower (Kd.R_new' ho0 (Kd.R_lt (by (with_reducible repeat (first | apply Kd.R_alloc | apply Kd.R_drewN | apply Kd.R_drew)); exact HO_3.out))) (below_size (by repeat (first | (with_reducible first | exact HB.out | apply below_alloc | apply pw_below_drewN | apply below_drew1) | exact HB.out)))); have n2_ := Aside0.mk (below_step (by repeat (first | (with_reducible first | exact HB.out | apply below_alloc | apply pw_below_drewN | apply below_drew1) | exact HB.out)) hb); clear HO_3; clear HB; have HO_3 := n0_; have HO397 := n1_; have HB := n2_; clear n0_ n1_ n2_; (try clear hb); (try clear hb2); (try clear hk); (try clear hi); (try clear ho0); obtain ⟨Ao10, co10, eo10⟩ := Kd.R_slice HO397.out; subst eo10))
       go_loopg [3, 5, 24] k1 (fun kq v3 v5 v24 w' => ∃ (x3_2 : List Int) (x5_2 : Int) (x24_2 : Int), v5 = .int .i64 x5_2 ∧ v24 = .int .i64 x24_2 ∧ Aside0 (tremalaw03_NormStarters.l1 kq l0 x3_2 x5_2 l0 (l0.length : Int) x17_1 t395 (t395.length : Int) x24_2 = some r) ∧ Aside0 (kq ≤ k1) ∧ Aside0 (Kd.R (Kd.int .i32) 21 w' w.heap.size (fun k_ => some k_ ≠ ((.slice Ao10 t395.length co10) : Value).ownBlock) v3 x3_2) ∧ Aside0 (Kd.R (Kd.int .i32) 21 w' w.heap.size (fun k_ => some k_ ≠ (v3 : Value).ownBlock) (.slice Ao10 t395.length co10) t395) ∧ Aside0 (Below w.heap.size w w'))
       case atStart => exact ⟨(x3_1), (x5_1), (0), (by first | rfl | (simp; done) | (simp [*]; done)), (by first | rfl | (simp; done) | (simp [*]; done)), H', ⟨Nat.le_refl _⟩, ⟨by (with_reducible repeat (first | apply Kd.R_alloc | apply Kd.R_drewN | apply Kd.R_drew)); exact Kd.R_mono HO_3.out (fun _ hk => hk.2)⟩, ⟨by (with_reducible repeat (first | apply Kd.R_alloc | apply Kd.R_drewN | apply Kd.R_drew)); exact Kd.R_mono HO397.out (fun _ hk => hk.2)⟩, ⟨by repeat (first | (with_reducible first | exact HB.out | apply below_alloc | apply pw_below_drewN | apply below_drew1) | exact HB.out)⟩⟩
       case round =>
        clear H'
        try clear c1
        try clear p2
        try clear c3
        try clear p3
        try clear q3
        try clear hx3
        try clear c5
        try clear c5b0
        try clear c6
        try clear c6b0
        try clear c7
        try clear c7b0
        try clear c10
        try clear hx394_0
        try clear p2
        try clear p394
        try clear q394
        obtain ⟨x3_2, x5_2, x24_2, rfl, rfl, HA, HK2, HO_3, HO_22, HB⟩ := hrel
        cases gk with
        | zero => exact absurd HA.out (by simp [tremalaw03_NormStarters.l1])
        | succ k2 =>
         have H := HA.out
         clear HA
         simp only [tremalaw03_NormStarters.l1] at H
         by_cases c11 : x24_2 < (t395.length : Int)
         ·rw [if_pos c11] at H
          have c11b0 : decide (x24_2 < (t395.length : Int)) = true := decide_eq_true c11
          clear c11
          by_cases c12 : 0 ≤ x24_2
          ·rw [if_pos c12] at H
           have c12b0 : decide (0 ≤ x24_2) = true := decide_eq_true c12
           clear c12
           by_cases c13 : x24_2 < (t395.length : Int)
           ·rw [if_pos c13] at H
            have c13b0 : decide (x24_2 < (t395.length : Int)) = true := decide_eq_true c13
            clear c13
            replace H := Option.bind_eq_some_iff.mp H
            obtain ⟨t399, A140, H⟩ := H
            replace H : (if t399 = 0 then (if x3_2.length < 35184372088832 then (tremalaw03_NormStarters.l1 k2 l0 (x3_2 ++ [rd t395 x24_2]) (wrap64 (x5_2 + 1)) l0 (l0.length : Int) x17_1 t395 (t395.length : Int) (wrap64 (x24_2 + 1))) else (none)) else (tremalaw03_NormStarters.l1 k2 l0 x3_2 (wrap64 (x5_2 + 1)) l0 (l0.length : Int) x17_1 t395 (t395.length : Int) (wrap64 (x24_2 + 1)))) = some r := H
            have A14 := Aside0.mk A140
            clear A140
            by_cases c15 : t399 = 0
            ·rw [if_pos c15] at H
             have c15b0 : (t399 == 0) = true := beq_iff_eq.mpr c15
             have c15b1 : (t399 != 0) = false := bne_eq_false_iff_eq.mpr c15
             clear c15
             by_cases c16 : x3_2.length < 35184372088832
             ·rw [if_pos c16] at H
              have LMc16 := Aside0.mk c16
              clear c16
              obtain ⟨y400, hy400⟩ : ∃ y_ : List Int, y_ = (x3_2 ++ [rd t395 x24_2]) := ⟨_, rfl⟩
              replace H : (tremalaw03_NormStarters.l1 k2 l0 y400 (wrap64 (x5_2 + 1)) l0 (l0.length : Int) x17_1 t395 (t395.length : Int) (wrap64 (x24_2 + 1))) = some r := by first | (rw [hy400]; with_reducible exact H) | (have H2_ := (Option.bind_some _ _).symm.trans H; rw [hy400]; with_reducible exact H2_) | (have H2_ := (Option.bind_some _ _).symm.trans H; with_reducible exact H2_) | with_reducible exact H | (rw [hy400]; exact H) | exact H
              have Ny400 := Aside0.mk hy400
              clear hy400
              have H' := Aside0.mk H
              clear H
              have p398 : 0 ≤ (x24_2 : Int) := of_decide_eq_true (by first | (with_reducible assumption) | assumption)
              have q398 : x24_2 < (t395.length : Int) := of_decide_eq_true (by first | (with_reducible assumption) | assumption)
              obtain ⟨ad398, e398, hx398_0⟩ := Kd.at_int (Kd.R_reads' HO_22.out).2.2 x24_2 p398 q398
              cases e398
              replace p398 := eq_true p398
              replace q398 := eq_true q398
              go_wp2_with (first | ((with_reducible refine gate_callee (f := 29) rfl ?_); refine goesL_ (some 31) rfl rfl Tryd.func29 (by kernel_rfl) rfl #[.int .i32 (rd t395 x24_2)] rfl (by (try simp only [List.map_toArray, List.map_cons, List.map_nil]); first | done | rfl | (simp only [List.length_drop, List.length_take]; rfl)) ?_; (with_reducible refine (tremaref02_Class.calls k2 (rd t395 x24_2) t399 _ A14.out).mono ?_); rintro e w' ⟨rfl, ⟨nd, rfl⟩⟩; refine ⟨_, rfl, ?_⟩) | ((with_reducible refine gate_builtin (b := .append) (xs := #[.tmp 33, .tmp 35]) rfl ?_); at_builtin; refine Kd.R_append (Kd.int .i32) (w0 := w) w.heap.size rfl (.tmp 33) (.tmp 35) 22 21 (.int .i32 0) 4 rfl Tryd.underlying22 info21 rfl (by decide) (by omega) u3 x3_2 (rd t395 x24_2) [.int .i32 (rd t395 x24_2)] (fun k_ => some k_ ≠ (.slice (some ad398) t395.length co10 : Value).ownBlock) (fun _ => False) rfl rfl ?aP (fun _ hk => hk.elim) ?aF ?aO ?aB ?aS ?aL ?_; (case aP => exact rfl); (case aB => exact (by repeat (first | (with_reducible first | exact HB.out | apply below_alloc | apply pw_below_drewN | apply below_drew1) | exact HB.out))); (case aF => exact (fun k_ hk => Kd.fresh' (Kd.R_lt (by (with_reducible repeat (first | apply Kd.R_alloc | apply Kd.R_drewN | apply Kd.R_drew)); exact HO_22.out)) k_ hk)); (case aO => exact (by (with_reducible repeat (first | apply Kd.R_alloc | apply Kd.R_drewN | apply Kd.R_drew)); exact HO_3.out)); (case aS => exact (below_size (by repeat (first | (with_reducible first | exact HB.out | apply below_alloc | apply pw_below_drewN | apply below_drew1) | exact HB.out)))); (case aL => have := LMc16.out; omega); intro v401 w17 ho hb hg hat; rw [← Ny400.out] at ho; have n0_ := Aside0.mk (Kd.R_after (ok := (fun _ => True)) (by (with_reducible repeat (first | apply Kd.R_alloc | apply Kd.R_drewN | apply Kd.R_drew)); exact Kd.R_mono HO_22.out (fun _ hk => ⟨trivial, hk⟩)) hg hat); have n1_ := Aside0.mk (hb); have n2_ := Aside0.mk (ho); clear HO_22; clear HB; clear HO_3; have HO_22 := n0_; have HB := n1_; have HO402 := n2_; clear n0_ n1_ n2_; clear ho hb hg hat))
              go_roundg k2
              case measure => have := HK1.out; have := HK2.out; omega
              case rel => exact ⟨(y400), (wrap64 (x5_2 + 1)), (wrap64 (x24_2 + 1)), (by first | rfl | (simp; done) | (simp [*]; done)), (by first | rfl | (simp; done) | (simp [*]; done)), H', ⟨by have := HK1.out; have := HK2.out; omega⟩, ⟨by (with_reducible repeat (first | apply Kd.R_alloc | apply Kd.R_drewN | apply Kd.R_drew)); exact HO402.out⟩, ⟨by (with_reducible repeat (first | apply Kd.R_alloc | apply Kd.R_drewN | apply Kd.R_drew)); exact Kd.R_mono HO_22.out (fun _ hk => hk.2)⟩, ⟨by repeat (first | (with_reducible first | exact HB.out | apply below_alloc | apply pw_below_drewN | apply below_drew1) | exact HB.out)⟩⟩
             ·rw [if_neg c16] at H
              exact absurd H (by simp)
            ·rw [if_neg c15] at H
             have c15b0 : (t399 == 0) = false := beq_eq_false_iff_ne.mpr c15
             have c15b1 : (t399 != 0) = true := bne_iff_ne.mpr c15
             have H' := Aside0.mk H
             clear H
             have p398 : 0 ≤ (x24_2 : Int) := of_decide_eq_true (by first | (with_reducible assumption) | assumption)
             have q398 : x24_2 < (t395.length : Int) := of_decide_eq_true (by first | (with_reducible assumption) | assumption)
             obtain ⟨ad398, e398, hx398_0⟩ := Kd.at_int (Kd.R_reads' HO_22.out).2.2 x24_2 p398 q398
             cases e398
             replace p398 := eq_true p398
             replace q398 := eq_true q398
             go_wp2_with (first | ((with_reducible refine gate_callee (f := 29) rfl ?_); refine goesL_ (some 31) rfl rfl Tryd.func29 (by kernel_rfl) rfl #[.int .i32 (rd t395 x24_2)] rfl (by (try simp only [List.map_toArray, List.map_cons, List.map_nil]); first | done | rfl | (simp only [List.length_drop, List.length_take]; rfl)) ?_; (with_reducible refine (tremaref02_Class.calls k2 (rd t395 x24_2) t399 _ A14.out).mono ?_); rintro e w' ⟨rfl, ⟨nd, rfl⟩⟩; refine ⟨_, rfl, ?_⟩))
             go_roundg k2
             case measure => have := HK1.out; have := HK2.out; omega
             case rel => exact ⟨(x3_2), (wrap64 (x5_2 + 1)), (wrap64 (x24_2 + 1)), (by first | rfl | (simp; done) | (simp [*]; done)), (by first | rfl | (simp; done) | (simp [*]; done)), H', ⟨by have := HK1.out; have := HK2.out; omega⟩, ⟨by (with_reducible repeat (first | apply Kd.R_alloc | apply Kd.R_drewN | apply Kd.R_drew)); exact HO_3.out⟩, ⟨by (with_reducible repeat (first | apply Kd.R_alloc | apply Kd.R_drewN | apply Kd.R_drew)); exact HO_22.out⟩, ⟨by repeat (first | (with_reducible first | exact HB.out | apply below_alloc | apply pw_below_drewN | apply below_drew1) | exact HB.out)⟩⟩
           ·rw [if_neg c13] at H
            exact absurd H (by simp)
          ·rw [if_neg c12] at H
           exact absurd H (by simp)
         ·rw [if_neg c11] at H
          have c11b0 : decide (x24_2 < (t395.length : Int)) = false := decide_eq_false c11
          clear c11
          have H' := Aside0.mk H
          clear H
          go_wp2
          go_roundg k2
          case measure => have := HK1.out; have := HK2.out; omega
          case rel => exact ⟨(x3_2), (x5_2), (wrap64 (x17_1 + 1)), (by first | rfl | (simp; done) | (simp [*]; done)), (by first | rfl | (simp; done) | (simp [*]; done)), H', ⟨by have := HK1.out; have := HK2.out; omega⟩, ⟨by (with_reducible repeat (first | apply Kd.R_alloc | apply Kd.R_drewN | apply Kd.R_drew)); exact Kd.R_mono HO_3.out (fun _ hk => trivial)⟩, ⟨by repeat (first | (with_reducible first | exact HB.out | apply below_alloc | apply pw_below_drewN | apply below_drew1) | exact HB.out)⟩⟩
      ·rw [if_neg c7] at H
       exact absurd H (by simp)
     ·rw [if_neg c6] at H
      exact absurd H (by simp)
    ·rw [if_neg c5] at H
     have c5b0 : decide (x17_1 < (l0.length : Int)) = false := decide_eq_false c5
     clear c5
     replace H := Option.bind_eq_some_iff.mp H
     obtain ⟨t403, A180, H⟩ := H
     replace H : (tremalaw03_NormStarters.l2 k1 x3_1 ([] : List Int) x5_1 t403 t403 (t403.length : Int) 0) = some r := H
     have A18 := Aside0.mk A180
     clear A180
     have H' := Aside0.mk H
     clear H
     go_wp2_with (first | ((with_reducible refine gate_callee (f := 22) rfl ?_); refine goesL_ (some 40) rfl rfl Tryd.func22 (by kernel_rfl) rfl #[.slice A0 l0.length c0] rfl (by (try simp only [List.map_toArray, List.map_cons, List.map_nil]); first | done | rfl | (simp only [List.length_drop, List.length_take]; rfl)) ?_; (with_reducible refine (norm_Normal.calls k1 _ _ l0 t403 _ ?side1 ?side2 A18.out (by first | exact HG.out | exact Va.G.below HG.out (by repeat (first | (with_reducible first | exact HB.out | apply below_alloc | apply pw_below_drewN | apply below_drew1) | exact HB.out)))).mono ?_); (case side1 => repeat (first | exact (Kd.C_below HR0.out HB.out) | (with_reducible refine Kd.C_alloc ?_ _) | (with_reducible refine Kd.C_drewN ?_ _) | (with_reducible refine Kd.C_drew ?_))); (case side2 => exact HC0.out); rintro e w19 ⟨v404, rfl, ho0, hb⟩; refine ⟨_, rfl, ?_⟩; have n0_ := Aside0.mk (Kd.R_elder' (by (with_reducible repeat (first | apply Kd.R_alloc | apply Kd.R_drewN | apply Kd.R_drew)); exact HO_3.out) (Kd.R_base ho0) hb); have n1_ := Aside0.mk (Kd.R_lower (Kd.R_new' ho0 (Kd.R_lt (by (with_reducible repeat (first | apply Kd.R_alloc | apply Kd.R_drewN | apply Kd.R_drew)); exact HO_3.out))) (below_size (by repeat (first | (with_reducible first | exact HB.out | apply below_alloc | apply pw_below_drewN | apply below_drew1) | exact HB.out)))); have n2_ := Aside0.mk (below_step (by repeat (first | (with_reducible first | exact HB.out | apply below_alloc | apply pw_below_drewN | apply below_drew1) | exact HB.out)) hb); clear HO_3; clear HB; have HO_3 := n0_; have HO405 := n1_; have HB := n2_; clear n0_ n1_ n2_; (try clear hb); (try clear hb2); (try clear hk); (try clear hi); (try clear ho0); obtain ⟨Ao20, co20, eo20⟩ := Kd.R_slice HO405.out; subst eo20))
     go_loopg [4, 43] k1 (fun kq v4 v43 w' => ∃ (x4_2 : List Int) (x43_2 : Int), v43 = .int .i64 x43_2 ∧ Aside0 (tremalaw03_NormStarters.l2 kq x3_1 x4_2 x5_1 t403 t403 (t403.length : Int) x43_2 = some r) ∧ Aside0 (kq ≤ k1) ∧ Aside0 (Kd.R (Kd.int .i32) 21 w' w.heap.size (fun k_ => some k_ ≠ (v4 : Value).ownBlock ∧ some k_ ≠ ((.slice Ao20 t403.length co20) : Value).ownBlock ∧ some k_ ≠ ((.slice Ao20 t403.length co20) : Value).ownBlock) u3 x3_1) ∧ Aside0 (Kd.R (Kd.int .i32) 21 w' w.heap.size (fun k_ => some k_ ≠ (u3 : Value).ownBlock ∧ some k_ ≠ ((.slice Ao20 t403.length co20) : Value).ownBlock ∧ some k_ ≠ ((.slice Ao20 t403.length co20) : Value).ownBlock) v4 x4_2) ∧ Aside0 (Kd.R (Kd.int .i32) 21 w' w.heap.size (fun k_ => some k_ ≠ (u3 : Value).ownBlock ∧ some k_ ≠ (v4 : Value).ownBlock) (.slice Ao20 t403.length co20) t403) ∧ Aside0 (Kd.R (Kd.int .i32) 21 w' w.heap.size (fun k_ => some k_ ≠ (u3 : Value).ownBlock ∧ some k_ ≠ (v4 : Value).ownBlock) (.slice Ao20 t403.length co20) t403) ∧ Aside0 (Below w.heap.size w w'))
     case atStart => exact ⟨(([] : List Int)), (0), (by first | rfl | (simp; done) | (simp [*]; done)), H', ⟨Nat.le_refl _⟩, ⟨by (with_reducible repeat (first | apply Kd.R_alloc | apply Kd.R_drewN | apply Kd.R_drew)); exact Kd.R_mono HO_3.out (fun _ hk => ⟨(by simp [Value.ownBlock]), ⟨hk.2, hk.2⟩⟩)⟩, ⟨by first | exact Kd.R_nil _ _ _ _ _ | exact Kd.N_nil _ _ _ _ _ | exact Kd.V_nil _ _ _ _ _ | exact Kd.Q_nil _ _ _ _ _ | exact Kd.S_nil _ _ _ _ _⟩, ⟨by (with_reducible repeat (first | apply Kd.R_alloc | apply Kd.R_drewN | apply Kd.R_drew)); exact Kd.R_mono HO405.out (fun _ hk => ⟨hk.2, (by simp [Value.ownBlock])⟩)⟩, ⟨by (with_reducible repeat (first | apply Kd.R_alloc | apply Kd.R_drewN | apply Kd.R_drew)); exact Kd.R_mono HO405.out (fun _ hk => ⟨hk.2, (by simp [Value.ownBlock])⟩)⟩, ⟨by repeat (first | (with_reducible first | exact HB.out | apply below_alloc | apply pw_below_drewN | apply below_drew1) | exact HB.out)⟩⟩
     case round =>
      clear H'
      try clear c1
      try clear c2
      try clear p2
      try clear c3
      try clear p3
      try clear q3
      try clear hx3
      try clear c5
      try clear c5b0
      try clear c6
      try clear c6b0
      try clear p6
      try clear c7
      try clear c7b0
      try clear c10
      try clear c11
      try clear c11b0
      try clear c12
      try clear c12b0
      try clear c13
      try clear c13b0
      try clear c15
      try clear c15b0
      try clear c15b1
      try clear c16
      try clear c19
      try clear hx394_0
      try clear hx398_0
      try clear p2
      try clear p3
      try clear p394
      try clear p398
      try clear q3
      try clear q394
      try clear q398
      obtain ⟨x4_2, x43_2, rfl, HA, HK2, HO_3, HO_4, HO_10, HO_41, HB⟩ := hrel
      cases gk with
      | zero => exact absurd HA.out (by simp [tremalaw03_NormStarters.l2])
      | succ k2 =>
       have H := HA.out
       clear HA
       simp only [tremalaw03_NormStarters.l2] at H
       by_cases c21 : x43_2 < (t403.length : Int)
       ·rw [if_pos c21] at H
        have c21b0 : decide (x43_2 < (t403.length : Int)) = true := decide_eq_true c21
        clear c21
        by_cases c22 : 0 ≤ x43_2
        ·rw [if_pos c22] at H
         have c22b0 : decide (0 ≤ x43_2) = true := decide_eq_true c22
         clear c22
         by_cases c23 : x43_2 < (t403.length : Int)
         ·rw [if_pos c23] at H
          have c23b0 : decide (x43_2 < (t403.length : Int)) = true := decide_eq_true c23
          clear c23
          replace H := Option.bind_eq_some_iff.mp H
          obtain ⟨t407, A240, H⟩ := H
          replace H : (if t407 = 0 then (if x4_2.length < 35184372088832 then (tremalaw03_NormStarters.l2 k2 x3_1 (x4_2 ++ [rd t403 x43_2]) x5_1 t403 t403 (t403.length : Int) (wrap64 (x43_2 + 1))) else (none)) else (tremalaw03_NormStarters.l2 k2 x3_1 x4_2 x5_1 t403 t403 (t403.length : Int) (wrap64 (x43_2 + 1)))) = some r := H
          have A24 := Aside0.mk A240
          clear A240
          by_cases c25 : t407 = 0
          ·rw [if_pos c25] at H
           have c25b0 : (t407 == 0) = true := beq_iff_eq.mpr c25
           have c25b1 : (t407 != 0) = false := bne_eq_false_iff_eq.mpr c25
           clear c25
           by_cases c26 : x4_2.length < 35184372088832
           ·rw [if_pos c26] at H
            have LMc26 := Aside0.mk c26
            clear c26
            obtain ⟨y408, hy408⟩ : ∃ y_ : List Int, y_ = (x4_2 ++ [rd t403 x43_2]) := ⟨_, rfl⟩
            replace H : (tremalaw03_NormStarters.l2 k2 x3_1 y408 x5_1 t403 t403 (t403.length : Int) (wrap64 (x43_2 + 1))) = some r := by first | (rw [hy408]; with_reducible exact H) | (have H2_ := (Option.bind_some _ _).symm.trans H; rw [hy408]; with_reducible exact H2_) | (have H2_ := (Option.bind_some _ _).symm.trans H; with_reducible exact H2_) | with_reducible exact H | (rw [hy408]; exact H) | exact H
            have Ny408 := Aside0.mk hy408
            clear hy408
            have H' := Aside0.mk H
            clear H
            have p406 : 0 ≤ (x43_2 : Int) := of_decide_eq_true (by first | (with_reducible assumption) | assumption)
            have q406 : x43_2 < (t403.length : Int) := of_decide_eq_true (by first | (with_reducible assumption) | assumption)
            obtain ⟨ad406, e406, hx406_0⟩ := Kd.at_int (Kd.R_reads' HO_41.out).2.2 x43_2 p406 q406
            cases e406
            replace p406 := eq_true p406
            replace q406 := eq_true q406
            go_wp2_with (first | ((with_reducible refine gate_callee (f := 29) rfl ?_); refine goesL_ (some 48) rfl rfl Tryd.func29 (by kernel_rfl) rfl #[.int .i32 (rd t403 x43_2)] rfl (by (try simp only [List.map_toArray, List.map_cons, List.map_nil]); first | done | rfl | (simp only [List.length_drop, List.length_take]; rfl)) ?_; (with_reducible refine (tremaref02_Class.calls k2 (rd t403 x43_2) t407 _ A24.out).mono ?_); rintro e w' ⟨rfl, ⟨nd, rfl⟩⟩; refine ⟨_, rfl, ?_⟩) | ((with_reducible refine gate_builtin (b := .append) (xs := #[.tmp 50, .tmp 52]) rfl ?_); at_builtin; refine Kd.R_append (Kd.int .i32) (w0 := w) w.heap.size rfl (.tmp 50) (.tmp 52) 22 21 (.int .i32 0) 4 rfl Tryd.underlying22 info21 rfl (by decide) (by omega) u4 x4_2 (rd t403 x43_2) [.int .i32 (rd t403 x43_2)] (fun k_ => some k_ ≠ (u3 : Value).ownBlock ∧ some k_ ≠ (.slice (some ad406) t403.length co20 : Value).ownBlock ∧ some k_ ≠ (.slice (some ad406) t403.length co20 : Value).ownBlock) (fun _ => False) rfl rfl ?aP (fun _ hk => hk.elim) ?aF ?aO ?aB ?aS ?aL ?_; (case aP => exact rfl); (case aB => exact (by repeat (first | (with_reducible first | exact HB.out | apply below_alloc | apply pw_below_drewN | apply below_drew1) | exact HB.out))); (case aF => exact (fun k_ hk => ⟨Kd.fresh' (Kd.R_lt (by (with_reducible repeat (first | apply Kd.R_alloc | apply Kd.R_drewN | apply Kd.R_drew)); exact HO_3.out)) k_ hk, Kd.fresh' (Kd.R_lt (by (with_reducible repeat (first | apply Kd.R_alloc | apply Kd.R_drewN | apply Kd.R_drew)); exact HO_10.out)) k_ hk, Kd.fresh' (Kd.R_lt (by (with_reducible repeat (first | apply Kd.R_alloc | apply Kd.R_drewN | apply Kd.R_drew)); exact HO_41.out)) k_ hk⟩)); (case aO => exact (by (with_reducible repeat (first | apply Kd.R_alloc | apply Kd.R_drewN | apply Kd.R_drew)); exact HO_4.out)); (case aS => exact (below_size (by repeat (first | (with_reducible first | exact HB.out | apply below_alloc | apply pw_below_drewN | apply below_drew1) | exact HB.out)))); (case aL => have := LMc26.out; omega); intro v409 w27 ho hb hg hat; rw [← Ny408.out] at ho; have n0_ := Aside0.mk (Kd.R_after (ok := (fun k_ => some k_ ≠ (.slice (some ad406) t403.length co20 : Value).ownBlock ∧ some k_ ≠ (.slice (some ad406) t403.length co20 : Value).ownBlock)) (by (with_reducible repeat (first | apply Kd.R_alloc | apply Kd.R_drewN | apply Kd.R_drew)); exact Kd.R_mono HO_3.out (fun _ hk => ⟨⟨hk.2.1, hk.2.2⟩, hk.1⟩)) hg hat); have n1_ := Aside0.mk (Kd.R_after (ok := (fun k_ => some k_ ≠ (u3 : Value).ownBlock)) (by (with_reducible repeat (first | apply Kd.R_alloc | apply Kd.R_drewN | apply Kd.R_drew)); exact HO_10.out) hg hat); have n2_ := Aside0.mk (Kd.R_after (ok := (fun k_ => some k_ ≠ (u3 : Value).ownBlock)) (by (with_reducible repeat (first | apply Kd.R_alloc | apply Kd.R_drewN | apply Kd.R_drew)); exact HO_41.out) hg hat); have n3_ := Aside0.mk (hb); have n4_ := Aside0.mk (ho); clear HO_3; clear HO_10; clear HO_41; clear HB; clear HO_4; have HO_3 := n0_; have HO_10 := n1_; have HO_41 := n2_; have HB := n3_; have HO410 := n4_; clear n0_ n1_ n2_ n3_ n4_; clear ho hb hg hat))
            go_roundg k2
            case measure => have := HK1.out; have := HK2.out; omega
            case rel => exact ⟨(y408), (wrap64 (x43_2 + 1)), (by first | rfl | (simp; done) | (simp [*]; done)), H', ⟨by have := HK1.out; have := HK2.out; omega⟩, ⟨by (with_reducible repeat (first | apply Kd.R_alloc | apply Kd.R_drewN | apply Kd.R_drew)); exact Kd.R_mono HO_3.out (fun _ hk => ⟨hk.2, ⟨hk.1.1, hk.1.2⟩⟩)⟩, ⟨by (with_reducible repeat (first | apply Kd.R_alloc | apply Kd.R_drewN | apply Kd.R_drew)); exact HO410.out⟩, ⟨by (with_reducible repeat (first | apply Kd.R_alloc | apply Kd.R_drewN | apply Kd.R_drew)); exact HO_10.out⟩, ⟨by (with_reducible repeat (first | apply Kd.R_alloc | apply Kd.R_drewN | apply Kd.R_drew)); exact HO_41.out⟩, ⟨by repeat (first | (with_reducible first | exact HB.out | apply below_alloc | apply pw_below_drewN | apply below_drew1) | exact HB.out)⟩⟩
           ·rw [if_neg c26] at H
            exact absurd H (by simp)
          ·rw [if_neg c25] at H
           have c25b0 : (t407 == 0) = false := beq_eq_false_iff_ne.mpr c25
           have c25b1 : (t407 != 0) = true := bne_iff_ne.mpr c25
           have H' := Aside0.mk H
           clear H
           have p406 : 0 ≤ (x43_2 : Int) := of_decide_eq_true (by first | (with_reducible assumption) | assumption)
           have q406 : x43_2 < (t403.length : Int) := of_decide_eq_true (by first | (with_reducible assumption) | assumption)
           obtain ⟨ad406, e406, hx406_0⟩ := Kd.at_int (Kd.R_reads' HO_41.out).2.2 x43_2 p406 q406
           cases e406
           replace p406 := eq_true p406
           replace q406 := eq_true q406
           go_wp2_with (first | ((with_reducible refine gate_callee (f := 29) rfl ?_); refine goesL_ (some 48) rfl rfl Tryd.func29 (by kernel_rfl) rfl #[.int .i32 (rd t403 x43_2)] rfl (by (try simp only [List.map_toArray, List.map_cons, List.map_nil]); first | done | rfl | (simp only [List.length_drop, List.length_take]; rfl)) ?_; (with_reducible refine (tremaref02_Class.calls k2 (rd t403 x43_2) t407 _ A24.out).mono ?_); rintro e w' ⟨rfl, ⟨nd, rfl⟩⟩; refine ⟨_, rfl, ?_⟩))
           go_roundg k2
           case measure => have := HK1.out; have := HK2.out; omega
           case rel => exact ⟨(x4_2), (wrap64 (x43_2 + 1)), (by first | rfl | (simp; done) | (simp [*]; done)), H', ⟨by have := HK1.out; have := HK2.out; omega⟩, ⟨by (with_reducible repeat (first | apply Kd.R_alloc | apply Kd.R_drewN | apply Kd.R_drew)); exact HO_3.out⟩, ⟨by (with_reducible repeat (first | apply Kd.R_alloc | apply Kd.R_drewN | apply Kd.R_drew)); exact HO_4.out⟩, ⟨by (with_reducible repeat (first | apply Kd.R_alloc | apply Kd.R_drewN | apply Kd.R_drew)); exact HO_10.out⟩, ⟨by (with_reducible repeat (first | apply Kd.R_alloc | apply Kd.R_drewN | apply Kd.R_drew)); exact HO_41.out⟩, ⟨by repeat (first | (with_reducible first | exact HB.out | apply below_alloc | apply pw_below_drewN | apply below_drew1) | exact HB.out)⟩⟩
         ·rw [if_neg c23] at H
          exact absurd H (by simp)
        ·rw [if_neg c22] at H
         exact absurd H (by simp)
       ·rw [if_neg c21] at H
        have c21b0 : decide (x43_2 < (t403.length : Int)) = false := decide_eq_false c21
        clear c21
        by_cases c28 : (t403.length : Int) = x5_1
        ·rw [if_pos c28] at H
         have c28b0 : ((t403.length : Int) == x5_1) = true := beq_iff_eq.mpr c28
         have c28b1 : ((t403.length : Int) != x5_1) = false := bne_eq_false_iff_eq.mpr c28
         clear c28
         replace H := Option.bind_eq_some_iff.mp H
         obtain ⟨t411, A290, H⟩ := H
         replace H : (some t411) = some r := H
         have A29 := Aside0.mk A290
         clear A290
         obtain rfl := Option.some.inj H
         obtain ⟨Ao30, co30, eo30⟩ := Kd.R_slice HO_4.out
         subst eo30
         obtain ⟨Ao31, co31, eo31⟩ := Kd.R_slice HO_3.out
         subst eo31
         go_wp2_with (first | (go_at_call 21; (with_reducible refine (tremaref01_SameRunes.calls k2 _ _ x4_2 _ _ x3_1 t411 _ ?side1 ?side2 ?side3 ?side4 A29.out).mono ?_); (case side1 => repeat (first | exact (Kd.R_reads' HO_4.out).2.2 | (with_reducible refine Kd.C_alloc ?_ _) | (with_reducible refine Kd.C_drewN ?_ _) | (with_reducible refine Kd.C_drew ?_))); (case side2 => exact (Kd.R_reads' HO_4.out).2.1); (case side3 => repeat (first | exact (Kd.R_reads' HO_3.out).2.2 | (with_reducible refine Kd.C_alloc ?_ _) | (with_reducible refine Kd.C_drewN ?_ _) | (with_reducible refine Kd.C_drew ?_))); (case side4 => exact (Kd.R_reads' HO_3.out).2.1); rintro e w' ⟨rfl, ⟨nd, rfl⟩⟩))
         go_ret
         exact ⟨by first | rfl | (simp [errW_none, errW_some] <;> rfl) | (simp [*, errW_none, errW_some] <;> rfl), by repeat (first | (with_reducible first | exact HB.out | apply below_alloc | apply pw_below_drewN | apply below_drew1) | exact HB.out)⟩
        ·rw [if_neg c28] at H
         have c28b0 : ((t403.length : Int) == x5_1) = false := beq_eq_false_iff_ne.mpr c28
         have c28b1 : ((t403.length : Int) != x5_1) = true := bne_iff_ne.mpr c28
         obtain rfl := Option.some.inj H
         go_wp2
         go_ret
         exact ⟨by first | rfl | (simp [errW_none, errW_some] <;> rfl) | (simp [*, errW_none, errW_some] <;> rfl), by repeat (first | (with_reducible first | exact HB.out | apply below_alloc | apply pw_below_drewN | apply below_drew1) | exact HB.out)⟩
 ·replace c3 := Bool.eq_false_iff.mpr c3
  subst c3
  have H1 : (some false) = some r := by rw [if_neg (show ¬ (false = true) by decide)] at H; exact H
  clear H
  have H := H1
  clear H1
  obtain rfl := Option.some.inj H
  go_enter Tryd.func10, Tryd.ntmps10
  go_wp2_with (first | ((with_reducible refine gate_callee (f := 19) rfl ?_); refine goesL_ (some 13) rfl rfl Tryd.func19 (by kernel_rfl) rfl #[] rfl (by (try simp only [List.map_toArray, List.map_cons, List.map_nil]); first | done | rfl | (simp only [List.length_drop, List.length_take]; rfl)) ?_; (with_reducible refine (tremalaw03_fixed.calls  false _ A2.out (by first | exact HG.out | exact Va.G.below HG.out (by repeat (first | (with_reducible first | exact HB.out | apply below_alloc | apply pw_below_drewN | apply below_drew1) | exact HB.out)))).mono ?_); rintro e w32 ⟨rfl, hb⟩; refine ⟨_, rfl, ?_⟩; have n0_ := Aside0.mk (below_step (by repeat (first | (with_reducible first | exact HB.out | apply below_alloc | apply pw_below_drewN | apply below_drew1) | exact HB.out)) hb); clear HB; have HB := n0_; clear n0_; (try clear hb); (try clear hb2); (try clear hk); (try clear hi)))
  go_ret
  exact ⟨by first | rfl | (simp [errW_none, errW_some] <;> rfl) | (simp [*, errW_none, errW_some] <;> rfl), by repeat (first | (with_reducible first | exact HB.out | apply below_alloc | apply pw_below_drewN | apply below_drew1) | exact HB.out)⟩

end Go.Proofs.YtiggjbclbdikmaaDoor.X

/-
  The plain law NormStarters.
-/
namespace Go.Proofs.YtiggjbclbdikmaaDoor.Os
set_option linter.unusedVariables false
set_option linter.unusedSimpArgs false
open Go.Proofs.YtiggjbclbdikmaaDoor.Vd (decU)
open Go.RowKit Go.Proofs.YtiggjbclbdikmaaDoorW.PrintWords Go.Proofs.YtiggjbclbdikmaaDoor.Ev0 Go.Proofs.YtiggjbclbdikmaaDoor.X Go.Proofs.YtiggjbclbdikmaaDoor.Va Go.Proofs.YtiggjbclbdikmaaDoor.Ve Go.Proofs.YtiggjbclbdikmaaDoor.Vp0 Go.Proofs.YtiggjbclbdikmaaDoor.Vr Go.Proofs.YtiggjbclbdikmaaDoor.Vu Go.Proofs.YtiggjbclbdikmaaDoor.Na Go.Proofs.YtiggjbclbdikmaaDoor.Oa Go.Proofs.YtiggjbclbdikmaaDoor.Ob

def strt (l : List Int) : List Int := l.filter (fun x => cls x == 0)
theorem strt_snoc (l : List Int) (x : Int) : strt (l ++ [x]) = if cls x = 0 then strt l ++ [x] else strt l := by
  unfold strt
  rw [List.filter_append]
  by_cases h : cls x = 0
  · rw [if_pos h]; simp [h]
  · rw [if_neg h]; simp [h]
theorem strt_le (l : List Int) : (strt l).length ≤ l.length := List.length_filter_le ..
theorem NormStarters (l : List Int) (hwf : ∀ x ∈ l, (Lit.int .i32 x).wf = true) (hl : l.length ≤ 1048576) : ∃ k, tremalaw03_NormStarters.f k l = some true := by
  have h1 : ∀ x ∈ l, I32 x := fun x hx => wf32 (hwf x hx)
  have n1 := nrm_len3 l h1
  have n2 := flat_len l h1
  apply Ev.rounds (g := fun k => tremalaw03_NormStarters.f k l)
  unfold tremalaw03_NormStarters.f tremalaw03_fixed.f
  simp only [Option.bind_some, if_true]
  -- the normal form's own starters
  have end2 : Ev (fun k => tremalaw03_NormStarters.l2 k (strt (flat l)) ([] : List Int) (((flat l).length : Nat) : Int) (nrm l) (nrm l) ((nrm l).length : Int) 0) true := by
    have hs : strt (nrm l) = strt (flat l) := ordL_sw (flat l) 0
    have hlen := nrm_len l
    obtain ⟨N, hN⟩ : ∃ N, N = nrm l := ⟨_, rfl⟩
    rw [← hN] at hs hlen n1 ⊢
    have key : ∀ q i : Nat, i + q = N.length → Ev (fun k => tremalaw03_NormStarters.l2 k (strt (flat l)) (strt (N.take i)) (((flat l).length : Nat) : Int) N N (N.length : Int) (i : Int)) true := by
      intro q
      induction q with
      | zero =>
        intro i hi
        obtain rfl : i = N.length := hi
        refine Ev.step (fun k => tremalaw03_NormStarters.l2.eq_2 ..) ?_
        simp only [if_neg (Int.lt_irrefl _), List.take_length, if_pos (show (N.length : Int) = (((flat l).length : Nat) : Int) by omega), hs]
        refine Ev.bind (sameEv _ _ (by have := strt_le (flat l); omega)) ?_
        rw [decide_eq_true rfl]
        exact Ev.now _
      | succ q ih =>
        intro i hi
        have hil : i < N.length := by omega
        have ih := ih (i + 1) (by omega)
        rw [List.take_succ_eq_append_getElem hil, strt_snoc] at ih
        have hle := strt_le (N.take i)
        rw [List.length_take] at hle
        refine Ev.step (fun k => tremalaw03_NormStarters.l2.eq_2 ..) ?_
        simp only [if_pos (getLt hil), if_pos (show (0 : Int) ≤ (i : Int) by omega), rd_nat hil, w64 (i := i) (by omega)]
        refine Ev.bind (clsEv _) ?_
        by_cases hc : cls N[i] = 0
        · simp only [if_pos hc, if_pos (show (strt (N.take i)).length < 35184372088832 by omega)]
          rw [if_pos hc] at ih
          exact ih
        · simp only [if_neg hc]
          rw [if_neg hc] at ih
          exact ih
    exact key N.length 0 (by omega)
  -- the decompositions' starters
  have key : ∀ q i : Nat, i + q = l.length → Ev (fun k => tremalaw03_NormStarters.l0 k l (strt (flat (l.take i))) (((flat (l.take i)).length : Nat) : Int) l (l.length : Int) (i : Int)) true := by
    intro q
    induction q with
    | zero =>
      intro i hi
      obtain rfl : i = l.length := hi
      refine Ev.step (fun k => tremalaw03_NormStarters.l0.eq_2 ..) ?_
      simp only [if_neg (Int.lt_irrefl _), List.take_length]
      refine Ev.bind (normEv l h1 (by omega)) ?_
      exact end2
    | succ q ih =>
      intro i hi
      have hil : i < l.length := by omega
      have hx := h1 l[i] (List.getElem_mem hil)
      have e : flat (l.take (i + 1)) = flat (l.take i) ++ decU l[i] := by
        rw [List.take_succ_eq_append_getElem hil, flat_app]
        simp [flat]
      have ih := ih (i + 1) (by omega)
      have n3 := flat_len (l.take (i + 1)) (fun x hx => h1 x (List.mem_of_mem_take hx))
      rw [e, List.length_take] at n3
      rw [e] at ih
      have hi5 : i ≤ 1048576 := by omega
      refine Ev.step (fun k => tremalaw03_NormStarters.l0.eq_2 ..) ?_
      simp only [if_pos (getLt hil), if_pos (show (0 : Int) ≤ (i : Int) by omega), rd_nat hil]
      refine Ev.bind (refdec _ hx) ?_
      obtain ⟨D, hD⟩ : ∃ D, D = decU l[i] := ⟨_, rfl⟩
      obtain ⟨F, hF⟩ : ∃ F, F = flat (l.take i) := ⟨_, rfl⟩
      rw [← hD, ← hF] at ih n3 ⊢
      rw [List.length_append] at n3
      have n3 : F.length + D.length ≤ 3145731 := by omega
      clear e hD hF hx end2
      have key1 : ∀ q j : Nat, j + q = D.length → Ev (fun k => tremalaw03_NormStarters.l1 k l (strt (F ++ D.take j)) (((F ++ D.take j).length : Nat) : Int) l (l.length : Int) (i : Int) D (D.length : Int) (j : Int)) true := by
        intro q
        induction q with
        | zero =>
          intro j hj
          obtain rfl : j = D.length := hj
          refine Ev.step (fun k => tremalaw03_NormStarters.l1.eq_2 ..) ?_
          simp only [if_neg (Int.lt_irrefl _), List.take_length, w64 (i := i) (by omega)]
          exact ih
        | succ q ih1 =>
          intro j hj
          have hjl : j < D.length := by omega
          have ih1 := ih1 (j + 1) (by omega)
          rw [List.take_succ_eq_append_getElem hjl, ← List.append_assoc, strt_snoc] at ih1
          have hle := strt_le (F ++ D.take j)
          have hlen : (F ++ D.take j).length = F.length + j := by rw [List.length_append, List.length_take]; omega
          have hw : wrap64 (((F ++ D.take j).length : Nat) + 1 : Int) = (((F ++ D.take j ++ [D[j]]).length : Nat) : Int) := by
            rw [List.length_append (bs := [D[j]]), List.length_singleton]
            exact w64 (by omega)
          refine Ev.step (fun k => tremalaw03_NormStarters.l1.eq_2 ..) ?_
          simp only [if_pos (getLt hjl), if_pos (show (0 : Int) ≤ (j : Int) by omega), rd_nat hjl, hw, w64 (i := j) (by omega)]
          refine Ev.bind (clsEv _) ?_
          by_cases hc : cls D[j] = 0
          · simp only [if_pos hc, if_pos (show (strt (F ++ D.take j)).length < 35184372088832 by omega)]
            rw [if_pos hc] at ih1
            exact ih1
          · simp only [if_neg hc]
            rw [if_neg hc] at ih1
            exact ih1
      have := key1 D.length 0 (by omega)
      rw [List.take_zero, List.append_nil] at this
      exact this
  exact key l.length 0 (by omega)
end Go.Proofs.YtiggjbclbdikmaaDoor.Os

/-
  NormStarters: for every input the law returns true and its arguments read as before (arguments of bulk at most 1048576).
-/
namespace Go.Proofs.YtiggjbclbdikmaaDoor.normStarters
open Go.ChangeShapes Go.WideShapes Go.ChangeAt Go.RowKit
open Go.ChangeMaps (open_string shut_string)
set_option linter.unusedVariables false
set_option linter.unusedSimpArgs false
theorem own : ownKnob Tryd.prog.godebug = none := by kernel_rfl
theorem laidOut : laidOutB Tryd.prog = true := by kernel_rfl
set_option maxRecDepth 100000 in
theorem contract (H : Type) (enc : TypeId × Value → H) (W : World) (base : Nat) (args : Array Value) (ds gs : List (DataW H)) (before : List MemPlace)
    (hval0 : ∀ (j : Nat) t v, Tryd.f10.params[j]? = some t → args[j]? = some v → Value.okWide Tryd.prog W .any base t v)
    (hW : DataW.Whole enc Tryd.prog Tryd.f10.params.toList Rows.normStartersSpec.vars false W args.toList ds gs before)
    (hL : laidMetH Tryd.prog Lv.laid W)
    (hk0 : Rows.uptoSmall H (ds ++ gs) = true) :
    Calls Tryd.prog 10 args W fun e W' => ∃ v, e = .returned v ∧ Rows.normStartersSpec.post enc Tryd.prog Tryd.f10 false true false false W args v W' := by
  have hkb : Rows.uptoBulkAll (ds ++ gs) ≤ 1048576 := of_decide_eq_true hk0
  have hval : ∀ (j : Nat) t v, Tryd.f10.params[j]? = some t → args[j]? = some v → Value.okWide Tryd.prog W .any base t v := hval0
  have hW' := hW
  obtain ⟨p, q, hA0, hV, rfl, hfz, hnd⟩ := hW
  have hA : DataW.TrodAll enc Tryd.prog W 0 (fun _ => true) true Tryd.f10.params.toList args.toList ds p := hA0
  rw [Tryd.params10] at hA hval
  obtain ⟨v0, vs0, d0, ds0, p0, q0, hargs, rfl, rfl, h0, r0⟩ := trodAll_cons hA
  obtain ⟨rfl, rfl, rfl⟩ := trodAll_nil r0
  obtain rfl : args = #[v0] := by cases args; simp_all
  obtain ⟨rfl, rfl⟩ := trodVars_none hV
  have k0 := h0
  have lt0 : ∀ x ∈ p0, x.block < W.heap.size := by obtain ⟨m, hm⟩ := k0; exact DataW.trod_lt m _ _ _ hm
  obtain ⟨A0, xs0, c0, rfl, hc0, hC0, hw0, hb0, hz0⟩ := Od.arg_slice Tryd.underlying22 (by kernel_rfl) (Od.opens_int Tryd.underlying21) (hval 0 22 v0 rfl rfl) h0
  simp only [List.append_nil, Rows.uptoBulkAll] at hkb
  have hB0 := Nat.le_trans (Nat.le_trans (Nat.le_succ _) hb0) (show Rows.uptoBulk d0 ≤ 1048576 by omega)
  clear hA0 hval0 hk0
  obtain ⟨k, hk⟩ := Go.Proofs.YtiggjbclbdikmaaDoor.Os.NormStarters xs0 hw0 (Nat.le_trans (Od.sumB_len (fun _ => Nat.le_refl _) _) hB0)
  refine (Go.Proofs.YtiggjbclbdikmaaDoor.X.tremalaw03_NormStarters.calls k A0 c0 xs0 true W hC0 hc0 hk (Lv.of_laid hL)).mono fun e W' ⟨he, bel⟩ => ?_
  subst he
  exact ⟨_, rfl, _, _, _, [], _, [], hW', trodAll_mk1 (shut_bool Tryd.underlying4 _), (trodAll_cons_mk (Below.trod laidOut (by kernel_rfl) (of_decide_eq_true (by kernel_rfl)) k0 bel lt0) trodAll_mk0), rfl, bel.frame _, fun h => by cases h⟩
set_option maxRecDepth 100000 in
theorem lifted (os : Os) (started : os.Started) (H : Type) (enc : TypeId × Value → H) (F : Stop.Interp) :
    ReturnsInHanded {} Tryd.checked os 10 .any ((Rows.OpenSpec.upto Rows.normStartersSpec).preRow enc Tryd.prog Tryd.f10 Rows.normStartersUptoRow.domain false Rows.normStartersUptoRow.laid) (((Rows.OpenSpec.upto Rows.normStartersSpec).at F).post enc Tryd.prog Tryd.f10 false true false false) := by
  refine returnsInHanded_of_row (C := Tryd.checked) (s := Rows.OpenSpec.upto Rows.normStartersSpec) own started (by kernel_rfl) Tryd.func10
    (witness_row_atRef (enc := enc) (C := Tryd.checked) false (World.doorLaid Tryd.prog 400 os) #[(.slice none 0 0)] rfl (by kernel_rfl) (by kernel_rfl) (by kernel_rfl)
      (OpenSpec.preRow_of_cond (x := ([.nil], [], [])) 8 (by kernel_rfl) (by kernel_rfl) (fun k hk => by cases hk; kernel_rfl) (by kernel_rfl) (Lv.door_met os _))) ?_
  intro W base args ds gs before hval hW _ hcond _ hL _ _
  exact contract H enc W base args ds gs before hval hW hL (hcond _ rfl)
theorem proved : Rows.NormStartersUptoSaid :=
  OpenClaim.holds_of_cond 10 Tryd.f10 rfl rfl rfl rfl rfl rfl rfl ⟨rfl, rfl, rfl, rfl, rfl⟩ rfl rfl rfl rfl rfl (by kernel_rfl) Tryd.func10 (by kernel_rfl)
    (of_decide_eq_true (by kernel_rfl)) (by unfold Func.isWrapper; first | (rw [if_pos (by decide +kernel)]; kernel_rfl) | (rw [if_neg (by decide +kernel)]; exact ⟨rfl, rfl⟩))
    (fun os started H enc _ F => by rw [OpenClaim.pre_eq_preRow]; exact lifted os started H enc F)
end Go.Proofs.YtiggjbclbdikmaaDoor.normStarters
namespace Go.Proofs.YtiggjbclbdikmaaDoor
theorem normStarters_holds : Rows.NormStartersUptoCardSaid :=
  Claim7.holds_tied_plain_at .later [] [.data, .data, .data] true (true, "fdf6c36acc2ff838e2b06de7c88b3a207dcf6760465f25f192835ebb1407940d") false
    normStarters.proved (fun _ h => by cases h) (by kernel_rfl) (fun _ h => by cases h) normStartersUpto_row_tie rfl ⟨rfl, rfl⟩ (by kernel_rfl) rfl
    (fun f fn hf hfn => by
      obtain rfl : f = 10 := Option.some.inj ((show Tryd.prog.funcNamed "trema/tremalaw03.NormStarters" = some 10 by kernel_rfl).symm.trans hf) |>.symm
      obtain rfl : fn = Tryd.f10 := (Option.some.inj (Tryd.func10.symm.trans hfn)).symm
      exact ⟨by kernel_rfl, fun j t ht => by
        rw [Tryd.params10] at ht
        have hm : t ∈ [22] := by simpa using Array.mem_of_getElem? ht
        have hall : ([22].all fun u => !Tryd.prog.wantsStandIn u) = true := by kernel_rfl
        exact (show Tryd.prog.wantsStandIn t = false by simpa using List.all_eq_true.1 hall t hm)⟩)
    (by kernel_rfl)
#print axioms normStarters_holds
end Go.Proofs.YtiggjbclbdikmaaDoor
