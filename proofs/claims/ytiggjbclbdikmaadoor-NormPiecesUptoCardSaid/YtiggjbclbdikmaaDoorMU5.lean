/-
  Several texts of this claim in one: what its law's proof uses.
-/
import Derived.Test.YtiggjbclbdikmaaDoorMU1
import Derived.Test.YtiggjbclbdikmaaDoorMU4
import Derived.Test.YtiggjbclbdikmaaDoorMU2
import Derived.Test.YtiggjbclbdikmaaDoorMU3
import Derived.Test.YtiggjbclbdikmaaDoorRows
import Derived.Deep.Slices
import Derived.ChangeArms
import Derived.ChangeMaps
import Derived.SizedLaws
import Derived.OpenShut
import Derived.ProofKit
import Derived.BigQuiet
import Derived.LaidMore
import Derived.Stop.Joined
import Derived.Test.YtiggjbclbdikmaaDoorTie
import Derived.Test.YtiggjbclbdikmaaDoorCards
import Derived.WalkKit
import Derived.ShutString
import Derived.ChangeOld
import Derived.Below
import Derived.JoinedCond
import Derived.SevenTiedAt
import Derived.Deep.DeepHandedRow
import Derived.Deep.DeepWitnessRowRef
namespace Go.Proofs.YtiggjbclbdikmaaDoor.X
open Go.RowKit Go.Proofs.YtiggjbclbdikmaaDoorW.PrintWords Go.Proofs.YtiggjbclbdikmaaDoorW.PrintLast Go.Proofs.YtiggjbclbdikmaaDoorW.PrintMore
attribute [local go_sem] max2_int min2_int max_two min_two max_three min_three max_four min_four   
set_option linter.unusedVariables false
set_option linter.unusedSimpArgs false
mutual
def tremaref03_Normal.l0 : Nat → List Int → List Int → Int → Int → Option (List Int)
 | 0, _, _, _, _ => none
 | k + 1, x0, x3, x4, x5 => if x5 < (x0.length : Int) then (if 0 ≤ x5 then ((tremaref02_Decompose.f k (rd x0 x5)).bind fun t147 => (tremaref03_Normal.l1 k x0 x3 x4 x5 t147 0)) else (none)) else (some x3)
def tremaref03_Normal.l1 : Nat → List Int → List Int → Int → Int → List Int → Int → Option (List Int)
 | 0, _, _, _, _, _, _ => none
 | k + 1, x0, x3, x4, x5, x6, x7 => if x7 < (x6.length : Int) then (if 0 ≤ x7 then ((tremaref02_Class.f k (rd x6 x7)).bind fun t151 => (if x3.length < 35184372088832 then ((some (x3 ++ [rd x6 x7] : List Int)).bind fun y153 => (if t151 = 0 then (tremaref03_Normal.l1 k x0 y153 (y153.length : Int) x5 x6 (wrap64 (x7 + 1))) else (tremaref03_Normal.l2 k x0 y153 x4 x5 x6 x7 t151 x4 (wrap64 ((y153.length : Int) - 1))))) else (none))) else (none)) else (tremaref03_Normal.l0 k x0 x3 x4 (wrap64 (x5 + 1)))
def tremaref03_Normal.l2 : Nat → List Int → List Int → Int → Int → List Int → Int → Int → Int → Int → Option (List Int)
 | 0, _, _, _, _, _, _, _, _, _ => none
 | k + 1, x0, x3, x4, x5, x6, x7, x8, x9, x10 => if x9 < x10 then (if 0 ≤ (wrap64 (Int.tdiv (wrap64 (x9 + x10)) 2)) then (if (wrap64 (Int.tdiv (wrap64 (x9 + x10)) 2)) < (x3.length : Int) then ((tremaref02_Class.f k (rd x3 (wrap64 (Int.tdiv (wrap64 (x9 + x10)) 2)))).bind fun t157 => (if t157 > x8 then (tremaref03_Normal.l2 k x0 x3 x4 x5 x6 x7 x8 x9 (wrap64 (Int.tdiv (wrap64 (x9 + x10)) 2))) else (tremaref03_Normal.l2 k x0 x3 x4 x5 x6 x7 x8 (wrap64 ((wrap64 (Int.tdiv (wrap64 (x9 + x10)) 2)) + 1)) x10))) else (none)) else (none)) else (tremaref03_Normal.l3 k x0 x3 x4 x5 x6 x7 x9 (wrap64 ((x3.length : Int) - 1)))
def tremaref03_Normal.l3 : Nat → List Int → List Int → Int → Int → List Int → Int → Int → Int → Option (List Int)
 | 0, _, _, _, _, _, _, _, _ => none
 | k + 1, x0, x3, x4, x5, x6, x7, x9, x12 => if x12 > x9 then (if 0 ≤ (wrap64 (x12 - 1)) then (if (wrap64 (x12 - 1)) < (x3.length : Int) then (if 0 ≤ x12 then (if x12 < (x3.length : Int) then (tremaref03_Normal.l3 k x0 (x3.set (x12 : Int).toNat (rd x3 (wrap64 (x12 - 1)))) x4 x5 x6 x7 x9 (wrap64 (x12 - 1))) else (none)) else (none)) else (none)) else (none)) else (if 0 ≤ x7 then (if x7 < (x6.length : Int) then (if 0 ≤ x9 then (if x9 < (x3.length : Int) then (tremaref03_Normal.l1 k x0 (x3.set (x9 : Int).toNat (rd x6 x7)) x4 x5 x6 (wrap64 (x7 + 1))) else (none)) else (none)) else (none)) else (none))
end
def tremaref03_Normal.f (k : Nat) (l0 : List Int) : Option (List Int) := tremaref03_Normal.l0 k l0 ([] : List Int) 0 0
theorem tremaref03_Normal.mono_l : ∀ k, (∀ y0 y1 y2 y3, LeO (tremaref03_Normal.l0 k y0 y1 y2 y3) (tremaref03_Normal.l0 (k + 1) y0 y1 y2 y3)) ∧ (∀ y0 y1 y2 y3 y4 y5, LeO (tremaref03_Normal.l1 k y0 y1 y2 y3 y4 y5) (tremaref03_Normal.l1 (k + 1) y0 y1 y2 y3 y4 y5)) ∧ (∀ y0 y1 y2 y3 y4 y5 y6 y7 y8, LeO (tremaref03_Normal.l2 k y0 y1 y2 y3 y4 y5 y6 y7 y8) (tremaref03_Normal.l2 (k + 1) y0 y1 y2 y3 y4 y5 y6 y7 y8)) ∧ (∀ y0 y1 y2 y3 y4 y5 y6 y7, LeO (tremaref03_Normal.l3 k y0 y1 y2 y3 y4 y5 y6 y7) (tremaref03_Normal.l3 (k + 1) y0 y1 y2 y3 y4 y5 y6 y7))
 | 0 => ⟨fun _ _ _ _ r h => by simp [tremaref03_Normal.l0] at h, fun _ _ _ _ _ _ r h => by simp [tremaref03_Normal.l1] at h, fun _ _ _ _ _ _ _ _ _ r h => by simp [tremaref03_Normal.l2] at h, fun _ _ _ _ _ _ _ _ r h => by simp [tremaref03_Normal.l3] at h⟩
 | k + 1 => by
  obtain ⟨ih0, ih1, ih2, ih3⟩ := tremaref03_Normal.mono_l k
  refine ⟨?_, ?_, ?_, ?_⟩
  ·intro y0 y1 y2 y3
   unfold tremaref03_Normal.l0
   repeat' first
   | (with_reducible exact ih0 _ _ _ _)
   | (with_reducible exact ih1 _ _ _ _ _ _)
   | (with_reducible exact ih2 _ _ _ _ _ _ _ _ _)
   | (with_reducible exact ih3 _ _ _ _ _ _ _ _)
   | (with_reducible exact tremaref02_Class.mono _ _)
   | (with_reducible exact tremaref02_Decompose.mono _ _)
   | (with_reducible exact LeO.refl _)
   | (with_reducible exact LeO.none _)
   | (with_reducible refine LeO.ite ?_ ?_)
   | (with_reducible refine LeO.bind ?_ (fun _ => ?_))
   | exact ih0 _ _ _ _
   | exact ih1 _ _ _ _ _ _
   | exact ih2 _ _ _ _ _ _ _ _ _
   | exact ih3 _ _ _ _ _ _ _ _
   | exact tremaref02_Class.mono _ _
   | exact tremaref02_Decompose.mono _ _
   | exact LeO.none _
   | refine LeO.ite ?_ ?_
   | refine LeO.bind ?_ (fun _ => ?_)
  ·intro y0 y1 y2 y3 y4 y5
   unfold tremaref03_Normal.l1
   repeat' first
   | (with_reducible exact ih0 _ _ _ _)
   | (with_reducible exact ih1 _ _ _ _ _ _)
   | (with_reducible exact ih2 _ _ _ _ _ _ _ _ _)
   | (with_reducible exact ih3 _ _ _ _ _ _ _ _)
   | (with_reducible exact tremaref02_Class.mono _ _)
   | (with_reducible exact tremaref02_Decompose.mono _ _)
   | (with_reducible exact LeO.refl _)
   | (with_reducible exact LeO.none _)
   | (with_reducible refine LeO.ite ?_ ?_)
   | (with_reducible refine LeO.bind ?_ (fun _ => ?_))
   | exact ih0 _ _ _ _
   | exact ih1 _ _ _ _ _ _
   | exact ih2 _ _ _ _ _ _ _ _ _
   | exact ih3 _ _ _ _ _ _ _ _
   | exact tremaref02_Class.mono _ _
   | exact tremaref02_Decompose.mono _ _
   | exact LeO.none _
   | refine LeO.ite ?_ ?_
   | refine LeO.bind ?_ (fun _ => ?_)
  ·intro y0 y1 y2 y3 y4 y5 y6 y7 y8
   unfold tremaref03_Normal.l2
   repeat' first
   | (with_reducible exact ih0 _ _ _ _)
   | (with_reducible exact ih1 _ _ _ _ _ _)
   | (with_reducible exact ih2 _ _ _ _ _ _ _ _ _)
   | (with_reducible exact ih3 _ _ _ _ _ _ _ _)
   | (with_reducible exact tremaref02_Class.mono _ _)
   | (with_reducible exact tremaref02_Decompose.mono _ _)
   | (with_reducible exact LeO.refl _)
   | (with_reducible exact LeO.none _)
   | (with_reducible refine LeO.ite ?_ ?_)
   | (with_reducible refine LeO.bind ?_ (fun _ => ?_))
   | exact ih0 _ _ _ _
   | exact ih1 _ _ _ _ _ _
   | exact ih2 _ _ _ _ _ _ _ _ _
   | exact ih3 _ _ _ _ _ _ _ _
   | exact tremaref02_Class.mono _ _
   | exact tremaref02_Decompose.mono _ _
   | exact LeO.none _
   | refine LeO.ite ?_ ?_
   | refine LeO.bind ?_ (fun _ => ?_)
  ·intro y0 y1 y2 y3 y4 y5 y6 y7
   unfold tremaref03_Normal.l3
   repeat' first
   | (with_reducible exact ih0 _ _ _ _)
   | (with_reducible exact ih1 _ _ _ _ _ _)
   | (with_reducible exact ih2 _ _ _ _ _ _ _ _ _)
   | (with_reducible exact ih3 _ _ _ _ _ _ _ _)
   | (with_reducible exact tremaref02_Class.mono _ _)
   | (with_reducible exact tremaref02_Decompose.mono _ _)
   | (with_reducible exact LeO.refl _)
   | (with_reducible exact LeO.none _)
   | (with_reducible refine LeO.ite ?_ ?_)
   | (with_reducible refine LeO.bind ?_ (fun _ => ?_))
   | exact ih0 _ _ _ _
   | exact ih1 _ _ _ _ _ _
   | exact ih2 _ _ _ _ _ _ _ _ _
   | exact ih3 _ _ _ _ _ _ _ _
   | exact tremaref02_Class.mono _ _
   | exact tremaref02_Decompose.mono _ _
   | exact LeO.none _
   | refine LeO.ite ?_ ?_
   | refine LeO.bind ?_ (fun _ => ?_)
theorem tremaref03_Normal.mono : ∀ a0 k, LeO (tremaref03_Normal.f k a0) (tremaref03_Normal.f (k + 1) a0) := by
 intro a0 k
 obtain ⟨ih0, ih1, ih2, ih3⟩ := tremaref03_Normal.mono_l k
 unfold tremaref03_Normal.f
 repeat' first
   | (with_reducible exact ih0 _ _ _ _)
   | (with_reducible exact ih1 _ _ _ _ _ _)
   | (with_reducible exact ih2 _ _ _ _ _ _ _ _ _)
   | (with_reducible exact ih3 _ _ _ _ _ _ _ _)
   | (with_reducible exact tremaref02_Class.mono _ _)
   | (with_reducible exact tremaref02_Decompose.mono _ _)
   | (with_reducible exact LeO.refl _)
   | (with_reducible exact LeO.none _)
   | (with_reducible refine LeO.ite ?_ ?_)
   | (with_reducible refine LeO.bind ?_ (fun _ => ?_))
   | exact ih0 _ _ _ _
   | exact ih1 _ _ _ _ _ _
   | exact ih2 _ _ _ _ _ _ _ _ _
   | exact ih3 _ _ _ _ _ _ _ _
   | exact tremaref02_Class.mono _ _
   | exact tremaref02_Decompose.mono _ _
   | exact LeO.none _
   | refine LeO.ite ?_ ?_
   | refine LeO.bind ?_ (fun _ => ?_)
set_option maxHeartbeats 8000000 in
set_option maxRecDepth 100000 in
theorem tremaref03_Normal.calls (k : Nat) (A0 : Option Addr) (c0 : Nat) (l0 : List Int) (r : List Int) (w : World) (hr0 : Kd.C (Kd.int .i32) w A0 l0.length l0) (hc0 : l0.length ≤ c0) (h : tremaref03_Normal.f k l0 = some r) :
  Calls Tryd.prog 20 #[.slice A0 l0.length c0] w fun e w' => ∃ v0_ : Value, e = .returned (v0_) ∧ Kd.R (Kd.int .i32) 21 w' w.heap.size (fun _ => True) v0_ r ∧ Below w.heap.size w w' := by
 have HR0 := Aside0.mk hr0
 have HC0 := Aside0.mk hc0
 clear hr0 hc0
 have HB := Aside0.mk (Below.refl w.heap.size w)
 have H : (tremaref03_Normal.l0 k l0 ([] : List Int) 0 0) = some r := h
 clear h
 have H' := Aside0.mk H
 clear H
 go_enter Tryd.func20, Tryd.ntmps20
 go_wp2
 go_loopg [3, 4, 5] k (fun kq v3 v4 v5 w' => ∃ (x3_1 : List Int) (x4_1 : Int) (x5_1 : Int), v4 = .int .i64 x4_1 ∧ v5 = .int .i64 x5_1 ∧ Aside0 (tremaref03_Normal.l0 kq l0 x3_1 x4_1 x5_1 = some r) ∧ Aside0 (kq ≤ k) ∧ Aside0 (Kd.R (Kd.int .i32) 21 w' w.heap.size (fun _ => True) v3 x3_1) ∧ Aside0 (Below w.heap.size w w'))
 case atStart => exact ⟨(([] : List Int)), (0), (0), (by first | rfl | (simp; done) | (simp [*]; done)), (by first | rfl | (simp; done) | (simp [*]; done)), H', ⟨Nat.le_refl _⟩, ⟨by first | exact Kd.R_nil _ _ _ _ _ | exact Kd.N_nil _ _ _ _ _ | exact Kd.V_nil _ _ _ _ _ | exact Kd.Q_nil _ _ _ _ _ | exact Kd.S_nil _ _ _ _ _⟩, ⟨by repeat (first | (with_reducible first | exact HB.out | apply below_alloc | apply pw_below_drewN | apply below_drew1) | exact HB.out)⟩⟩
 case round =>
  clear H'
  obtain ⟨x3_1, x4_1, x5_1, rfl, rfl, HA, HK1, HO_3, HB⟩ := hrel
  cases gk with
  | zero => exact absurd HA.out (by simp [tremaref03_Normal.l0])
  | succ k1 =>
   have H := HA.out
   clear HA
   simp only [tremaref03_Normal.l0] at H
   by_cases c2 : x5_1 < (l0.length : Int)
   ·rw [if_pos c2] at H
    have c2b0 : decide (x5_1 < (l0.length : Int)) = true := decide_eq_true c2
    clear c2
    by_cases c3 : 0 ≤ x5_1
    ·rw [if_pos c3] at H
     have c3b0 : decide (0 ≤ x5_1) = true := decide_eq_true c3
     clear c3
     replace H := Option.bind_eq_some_iff.mp H
     obtain ⟨t147, A40, H⟩ := H
     replace H : (tremaref03_Normal.l1 k1 l0 x3_1 x4_1 x5_1 t147 0) = some r := H
     have A4 := Aside0.mk A40
     clear A40
     have H' := Aside0.mk H
     clear H
     have p146 : 0 ≤ (x5_1 : Int) := of_decide_eq_true (by first | (with_reducible assumption) | assumption)
     have q146 : x5_1 < (l0.length : Int) := of_decide_eq_true (by first | (with_reducible assumption) | assumption)
     obtain ⟨ad146, e146, hx146_0⟩ := Kd.at_int HR0.out x5_1 p146 q146
     cases e146
     replace hx146_0 := (HB.out.cell (World.block_lt_of_cell? w _ hx146_0)).trans hx146_0
     replace p146 := eq_true p146
     replace q146 := eq_true q146
     go_wp2_with (first | ((with_reducible refine gate_callee (f := 36) rfl ?_); refine goesL_ (some 23) rfl rfl Tryd.func36 (by kernel_rfl) rfl #[.int .i32 (rd l0 x5_1)] rfl (by (try simp only [List.map_toArray, List.map_cons, List.map_nil]); first | done | rfl | (simp only [List.length_drop, List.length_take]; rfl)) ?_; (with_reducible refine (tremaref02_Decompose.calls k1 (rd l0 x5_1) t147 _ A4.out).mono ?_); rintro e w5 ⟨v148, rfl, ho0, hb⟩; refine ⟨_, rfl, ?_⟩; have n0_ := Aside0.mk (Kd.R_elder' (by (with_reducible repeat (first | apply Kd.R_alloc | apply Kd.R_drewN | apply Kd.R_drew)); exact HO_3.out) (Kd.R_base ho0) hb); have n1_ := Aside0.mk (Kd.R_lower (Kd.R_new' ho0 (Kd.R_lt (by (with_reducible repeat (first | apply Kd.R_alloc | apply Kd.R_drewN | apply Kd.R_drew)); exact HO_3.out))) (below_size (by repeat (first | (with_reducible first | exact HB.out | apply below_alloc | apply pw_below_drewN | apply below_drew1) | exact HB.out)))); have n2_ := Aside0.mk (below_step (by repeat (first | (with_reducible first | exact HB.out | apply below_alloc | apply pw_below_drewN | apply below_drew1) | exact HB.out)) hb); clear HO_3; clear HB; have HO_3 := n0_; have HO149 := n1_; have HB := n2_; clear n0_ n1_ n2_; (try clear hb); (try clear hb2); (try clear hk); (try clear hi); (try clear ho0)))
     go_loopg [3, 4, 7] k1 (fun kq v3 v4 v7 w' => ∃ (x3_2 : List Int) (x4_2 : Int) (x6_2 : List Int) (x7_2 : Int), v4 = .int .i64 x4_2 ∧ v7 = .int .i64 x7_2 ∧ Aside0 (tremaref03_Normal.l1 kq l0 x3_2 x4_2 x5_1 x6_2 x7_2 = some r) ∧ Aside0 (kq ≤ k1) ∧ Aside0 (Kd.R (Kd.int .i32) 21 w' w.heap.size (fun k_ => some k_ ≠ (v148 : Value).ownBlock) v3 x3_2) ∧ Aside0 (Kd.R (Kd.int .i32) 21 w' w.heap.size (fun k_ => some k_ ≠ (v3 : Value).ownBlock) v148 x6_2) ∧ Aside0 (Below w.heap.size w w'))
     case atStart => exact ⟨(x3_1), (x4_1), (t147), (0), (by first | rfl | (simp; done) | (simp [*]; done)), (by first | rfl | (simp; done) | (simp [*]; done)), H', ⟨Nat.le_refl _⟩, ⟨by (with_reducible repeat (first | apply Kd.R_alloc | apply Kd.R_drewN | apply Kd.R_drew)); exact Kd.R_mono HO_3.out (fun _ hk => hk.2)⟩, ⟨by (with_reducible repeat (first | apply Kd.R_alloc | apply Kd.R_drewN | apply Kd.R_drew)); exact Kd.R_mono HO149.out (fun _ hk => hk.2)⟩, ⟨by repeat (first | (with_reducible first | exact HB.out | apply below_alloc | apply pw_below_drewN | apply below_drew1) | exact HB.out)⟩⟩
     case round =>
      clear H'
      try clear p1
      try clear q1
      try clear hx1
      try clear c2
      try clear c2b0
      try clear p2
      try clear c3
      try clear c3b0
      try clear hx146_0
      try clear p146
      try clear q146
      obtain ⟨x3_2, x4_2, x6_2, x7_2, rfl, rfl, HA, HK2, HO_3, HO_6, HB⟩ := hrel
      cases gk with
      | zero => exact absurd HA.out (by simp [tremaref03_Normal.l1])
      | succ k2 =>
       have H := HA.out
       clear HA
       simp only [tremaref03_Normal.l1] at H
       by_cases c6 : x7_2 < (x6_2.length : Int)
       ·rw [if_pos c6] at H
        have c6b0 : decide (x7_2 < (x6_2.length : Int)) = true := decide_eq_true c6
        clear c6
        by_cases c7 : 0 ≤ x7_2
        ·rw [if_pos c7] at H
         have c7b0 : decide (0 ≤ x7_2) = true := decide_eq_true c7
         clear c7
         replace H := Option.bind_eq_some_iff.mp H
         obtain ⟨t151, A80, H⟩ := H
         replace H : (if x3_2.length < 35184372088832 then ((some (x3_2 ++ [rd x6_2 x7_2] : List Int)).bind fun y153 => (if t151 = 0 then (tremaref03_Normal.l1 k2 l0 y153 (y153.length : Int) x5_1 x6_2 (wrap64 (x7_2 + 1))) else (tremaref03_Normal.l2 k2 l0 y153 x4_2 x5_1 x6_2 x7_2 t151 x4_2 (wrap64 ((y153.length : Int) - 1))))) else (none)) = some r := H
         have A8 := Aside0.mk A80
         clear A80
         by_cases c9 : x3_2.length < 35184372088832
         ·rw [if_pos c9] at H
          have LMc9 := Aside0.mk c9
          clear c9
          obtain ⟨y153, hy153⟩ : ∃ y_ : List Int, y_ = (x3_2 ++ [rd x6_2 x7_2]) := ⟨_, rfl⟩
          replace H : (if t151 = 0 then (tremaref03_Normal.l1 k2 l0 y153 (y153.length : Int) x5_1 x6_2 (wrap64 (x7_2 + 1))) else (tremaref03_Normal.l2 k2 l0 y153 x4_2 x5_1 x6_2 x7_2 t151 x4_2 (wrap64 ((y153.length : Int) - 1)))) = some r := by first | (rw [hy153]; with_reducible exact H) | (have H2_ := (Option.bind_some _ _).symm.trans H; rw [hy153]; with_reducible exact H2_) | (have H2_ := (Option.bind_some _ _).symm.trans H; with_reducible exact H2_) | with_reducible exact H | (rw [hy153]; exact H) | exact H
          have Ny153 := Aside0.mk hy153
          clear hy153
          by_cases c10 : t151 = 0
          ·rw [if_pos c10] at H
           have c10b0 : (t151 == 0) = true := beq_iff_eq.mpr c10
           have c10b1 : (t151 != 0) = false := bne_eq_false_iff_eq.mpr c10
           clear c10
           have H' := Aside0.mk H
           clear H
           obtain ⟨Ao11, co11, eo11⟩ := Kd.R_slice HO_6.out
           subst eo11
           have p150 : 0 ≤ (x7_2 : Int) := of_decide_eq_true (by first | (with_reducible assumption) | assumption)
           have q150 : x7_2 < (x6_2.length : Int) := of_decide_eq_true (by first | (with_reducible assumption) | assumption)
           obtain ⟨ad150, e150, hx150_0⟩ := Kd.at_int (Kd.R_reads' HO_6.out).2.2 x7_2 p150 q150
           cases e150
           replace p150 := eq_true p150
           replace q150 := eq_true q150
           go_wp2_with (first | ((with_reducible refine gate_callee (f := 29) rfl ?_); refine goesL_ (some 34) rfl rfl Tryd.func29 (by kernel_rfl) rfl #[.int .i32 (rd x6_2 x7_2)] rfl (by (try simp only [List.map_toArray, List.map_cons, List.map_nil]); first | done | rfl | (simp only [List.length_drop, List.length_take]; rfl)) ?_; (with_reducible refine (tremaref02_Class.calls k2 (rd x6_2 x7_2) t151 _ A8.out).mono ?_); rintro e w' ⟨rfl, ⟨nd, rfl⟩⟩; refine ⟨_, rfl, ?_⟩; have p152 : 0 ≤ (x7_2 : Int) := of_decide_eq_true (by first | (with_reducible assumption) | assumption); have q152 : x7_2 < (x6_2.length : Int) := of_decide_eq_true (by first | (with_reducible assumption) | assumption); obtain ⟨ad152, e152, hx152_0⟩ := Kd.at_int (Kd.R_reads' HO_6.out).2.2 x7_2 p152 q152; obtain rfl : ad150 = ad152 := (by injection e152); replace p152 := eq_true p152; replace q152 := eq_true q152) | ((with_reducible refine gate_builtin (b := .append) (xs := #[.tmp 35, .tmp 40]) rfl ?_); at_builtin; refine Kd.R_append (Kd.int .i32) (w0 := w) w.heap.size rfl (.tmp 35) (.tmp 40) 22 21 (.int .i32 0) 4 rfl Tryd.underlying22 info21 rfl (by decide) (by omega) u3 x3_2 (rd x6_2 x7_2) [.int .i32 (rd x6_2 x7_2)] (fun k_ => some k_ ≠ (.slice (some ad150) x6_2.length co11 : Value).ownBlock) (fun _ => False) rfl rfl ?aP (fun _ hk => hk.elim) ?aF ?aO ?aB ?aS ?aL ?_; (case aP => exact rfl); (case aB => exact (by repeat (first | (with_reducible first | exact HB.out | apply below_alloc | apply pw_below_drewN | apply below_drew1) | exact HB.out))); (case aF => exact (fun k_ hk => Kd.fresh' (Kd.R_lt (by (with_reducible repeat (first | apply Kd.R_alloc | apply Kd.R_drewN | apply Kd.R_drew)); exact HO_6.out)) k_ hk)); (case aO => exact (by (with_reducible repeat (first | apply Kd.R_alloc | apply Kd.R_drewN | apply Kd.R_drew)); exact HO_3.out)); (case aS => exact (below_size (by repeat (first | (with_reducible first | exact HB.out | apply below_alloc | apply pw_below_drewN | apply below_drew1) | exact HB.out)))); (case aL => have := LMc9.out; omega); intro v154 w12 ho hb hg hat; rw [← Ny153.out] at ho; have n0_ := Aside0.mk (Kd.R_after (ok := (fun _ => True)) (by (with_reducible repeat (first | apply Kd.R_alloc | apply Kd.R_drewN | apply Kd.R_drew)); exact Kd.R_mono HO_6.out (fun _ hk => ⟨trivial, hk⟩)) hg hat); have n1_ := Aside0.mk (hb); have n2_ := Aside0.mk (ho); clear HO_6; clear HB; clear HO_3; have HO_6 := n0_; have HB := n1_; have HO155 := n2_; clear n0_ n1_ n2_; clear ho hb hg hat; obtain ⟨Ao13, co13, eo13⟩ := Kd.R_slice HO155.out; subst eo13))
           go_roundg k2
           case measure => have := HK1.out; have := HK2.out; omega
           case rel => exact ⟨(y153), ((y153.length : Int)), (x6_2), (wrap64 (x7_2 + 1)), (by first | rfl | (simp; done) | (simp [*]; done)), (by first | rfl | (simp; done) | (simp [*]; done)), H', ⟨by have := HK1.out; have := HK2.out; omega⟩, ⟨by (with_reducible repeat (first | apply Kd.R_alloc | apply Kd.R_drewN | apply Kd.R_drew)); exact HO155.out⟩, ⟨by (with_reducible repeat (first | apply Kd.R_alloc | apply Kd.R_drewN | apply Kd.R_drew)); exact Kd.R_mono HO_6.out (fun _ hk => hk.2)⟩, ⟨by repeat (first | (with_reducible first | exact HB.out | apply below_alloc | apply pw_below_drewN | apply below_drew1) | exact HB.out)⟩⟩
          ·rw [if_neg c10] at H
           have c10b0 : (t151 == 0) = false := beq_eq_false_iff_ne.mpr c10
           have c10b1 : (t151 != 0) = true := bne_iff_ne.mpr c10
           have H' := Aside0.mk H
           clear H
           obtain ⟨Ao14, co14, eo14⟩ := Kd.R_slice HO_6.out
           subst eo14
           have p150 : 0 ≤ (x7_2 : Int) := of_decide_eq_true (by first | (with_reducible assumption) | assumption)
           have q150 : x7_2 < (x6_2.length : Int) := of_decide_eq_true (by first | (with_reducible assumption) | assumption)
           obtain ⟨ad150, e150, hx150_0⟩ := Kd.at_int (Kd.R_reads' HO_6.out).2.2 x7_2 p150 q150
           cases e150
           replace p150 := eq_true p150
           replace q150 := eq_true q150
           go_wp2_with (first | ((with_reducible refine gate_callee (f := 29) rfl ?_); refine goesL_ (some 34) rfl rfl Tryd.func29 (by kernel_rfl) rfl #[.int .i32 (rd x6_2 x7_2)] rfl (by (try simp only [List.map_toArray, List.map_cons, List.map_nil]); first | done | rfl | (simp only [List.length_drop, List.length_take]; rfl)) ?_; (with_reducible refine (tremaref02_Class.calls k2 (rd x6_2 x7_2) t151 _ A8.out).mono ?_); rintro e w' ⟨rfl, ⟨nd, rfl⟩⟩; refine ⟨_, rfl, ?_⟩; have p152 : 0 ≤ (x7_2 : Int) := of_decide_eq_true (by first | (with_reducible assumption) | assumption); have q152 : x7_2 < (x6_2.length : Int) := of_decide_eq_true (by first | (with_reducible assumption) | assumption); obtain ⟨ad152, e152, hx152_0⟩ := Kd.at_int (Kd.R_reads' HO_6.out).2.2 x7_2 p152 q152; obtain rfl : ad150 = ad152 := (by injection e152); replace p152 := eq_true p152; replace q152 := eq_true q152) | ((with_reducible refine gate_builtin (b := .append) (xs := #[.tmp 35, .tmp 40]) rfl ?_); at_builtin; refine Kd.R_append (Kd.int .i32) (w0 := w) w.heap.size rfl (.tmp 35) (.tmp 40) 22 21 (.int .i32 0) 4 rfl Tryd.underlying22 info21 rfl (by decide) (by omega) u3 x3_2 (rd x6_2 x7_2) [.int .i32 (rd x6_2 x7_2)] (fun k_ => some k_ ≠ (.slice (some ad150) x6_2.length co14 : Value).ownBlock) (fun _ => False) rfl rfl ?aP (fun _ hk => hk.elim) ?aF ?aO ?aB ?aS ?aL ?_; (case aP => exact rfl); (case aB => exact (by repeat (first | (with_reducible first | exact HB.out | apply below_alloc | apply pw_below_drewN | apply below_drew1) | exact HB.out))); (case aF => exact (fun k_ hk => Kd.fresh' (Kd.R_lt (by (with_reducible repeat (first | apply Kd.R_alloc | apply Kd.R_drewN | apply Kd.R_drew)); exact HO_6.out)) k_ hk)); (case aO => exact (by (with_reducible repeat (first | apply Kd.R_alloc | apply Kd.R_drewN | apply Kd.R_drew)); exact HO_3.out)); (case aS => exact (below_size (by repeat (first | (with_reducible first | exact HB.out | apply below_alloc | apply pw_below_drewN | apply below_drew1) | exact HB.out)))); (case aL => have := LMc9.out; omega); intro v154 w15 ho hb hg hat; rw [← Ny153.out] at ho; have n0_ := Aside0.mk (Kd.R_after (ok := (fun _ => True)) (by (with_reducible repeat (first | apply Kd.R_alloc | apply Kd.R_drewN | apply Kd.R_drew)); exact Kd.R_mono HO_6.out (fun _ hk => ⟨trivial, hk⟩)) hg hat); have n1_ := Aside0.mk (hb); have n2_ := Aside0.mk (ho); clear HO_6; clear HB; clear HO_3; have HO_6 := n0_; have HB := n1_; have HO155 := n2_; clear n0_ n1_ n2_; clear ho hb hg hat; obtain ⟨Ao16, co16, eo16⟩ := Kd.R_slice HO155.out; subst eo16))
           go_loopg [9, 10] k2 (fun kq v9 v10 w' => ∃ (x9_3 : Int) (x10_3 : Int), v9 = .int .i64 x9_3 ∧ v10 = .int .i64 x10_3 ∧ Aside0 (tremaref03_Normal.l2 kq l0 y153 x4_2 x5_1 x6_2 x7_2 t151 x9_3 x10_3 = some r) ∧ Aside0 (kq ≤ k2) ∧ Aside0 (Kd.R (Kd.int .i32) 21 w' w.heap.size (fun k_ => some k_ ≠ ((.slice (some ad150) x6_2.length co14) : Value).ownBlock) (.slice Ao16 y153.length co16) y153) ∧ Aside0 (Kd.R (Kd.int .i32) 21 w' w.heap.size (fun k_ => some k_ ≠ ((.slice Ao16 y153.length co16) : Value).ownBlock) (.slice (some ad150) x6_2.length co14) x6_2) ∧ Aside0 (Below w.heap.size w w'))
           case atStart => exact ⟨(x4_2), (wrap64 ((y153.length : Int) - 1)), (by first | rfl | (simp; done) | (simp [*]; done)), (by first | rfl | (simp; done) | (simp [*]; done)), H', ⟨Nat.le_refl _⟩, ⟨by (with_reducible repeat (first | apply Kd.R_alloc | apply Kd.R_drewN | apply Kd.R_drew)); exact HO155.out⟩, ⟨by (with_reducible repeat (first | apply Kd.R_alloc | apply Kd.R_drewN | apply Kd.R_drew)); exact Kd.R_mono HO_6.out (fun _ hk => hk.2)⟩, ⟨by repeat (first | (with_reducible first | exact HB.out | apply below_alloc | apply pw_below_drewN | apply below_drew1) | exact HB.out)⟩⟩
           case round =>
            clear H'
            try clear c1
            try clear p1
            try clear q1
            try clear hx1
            try clear c2
            try clear c2b0
            try clear p2
            try clear c3
            try clear c3b0
            try clear c6
            try clear c6b0
            try clear p6
            try clear c7
            try clear c7b0
            try clear c9
            try clear c10
            try clear c10b0
            try clear c10b1
            try clear p14
            try clear q14
            try clear hx14
            try clear p15
            try clear q15
            try clear hx15
            try clear hx146_0
            try clear hx150_0
            try clear hx152_0
            try clear p1
            try clear p146
            try clear p150
            try clear p152
            try clear p2
            try clear q1
            try clear q146
            try clear q150
            try clear q152
            obtain ⟨x9_3, x10_3, rfl, rfl, HA, HK3, HO_3, HO_6, HB⟩ := hrel
            cases gk with
            | zero => exact absurd HA.out (by simp [tremaref03_Normal.l2])
            | succ k3 =>
             have H := HA.out
             clear HA
             simp only [tremaref03_Normal.l2] at H
             by_cases c17 : x9_3 < x10_3
             ·rw [if_pos c17] at H
              have c17b0 : decide (x9_3 < x10_3) = true := decide_eq_true c17
              clear c17
              obtain ⟨ji18, hji18⟩ : ∃ j_ : Int, (wrap64 (Int.tdiv (wrap64 (x9_3 + x10_3)) 2)) = j_ := ⟨_, rfl⟩
              replace H : (if 0 ≤ (ji18) then (if (ji18) < (y153.length : Int) then ((tremaref02_Class.f k3 (rd y153 (ji18))).bind fun t157 => (if t157 > t151 then (tremaref03_Normal.l2 k3 l0 y153 x4_2 x5_1 x6_2 x7_2 t151 x9_3 ji18) else (tremaref03_Normal.l2 k3 l0 y153 x4_2 x5_1 x6_2 x7_2 t151 (wrap64 ((ji18) + 1)) x10_3))) else (none)) else (none)) = some r := by first | (rw [hji18] at H; exact H) | (simp only [hji18] at H ⊢; exact H)
              have hji18w : (IntKind.i64.wrap (Int.tdiv (wrap64 (x9_3 + x10_3)) 2)) = ji18 := (i64_w _).trans hji18
              by_cases c19 : 0 ≤ (ji18)
              ·rw [if_pos c19] at H
               have c19b0 : decide (0 ≤ (ji18)) = true := decide_eq_true c19
               clear c19
               by_cases c20 : (ji18) < (y153.length : Int)
               ·rw [if_pos c20] at H
                have c20b0 : decide ((ji18) < (y153.length : Int)) = true := decide_eq_true c20
                clear c20
                replace H := Option.bind_eq_some_iff.mp H
                obtain ⟨t157, A210, H⟩ := H
                replace H : (if t157 > t151 then (tremaref03_Normal.l2 k3 l0 y153 x4_2 x5_1 x6_2 x7_2 t151 x9_3 ji18) else (tremaref03_Normal.l2 k3 l0 y153 x4_2 x5_1 x6_2 x7_2 t151 (wrap64 ((ji18) + 1)) x10_3)) = some r := H
                have A21 := Aside0.mk A210
                clear A210
                by_cases c22 : t157 > t151
                ·rw [if_pos c22] at H
                 have c22b0 : decide (t151 < t157) = true := decide_eq_true c22
                 clear c22
                 have H' := Aside0.mk H
                 clear H
                 have p156 : 0 ≤ ((ji18) : Int) := of_decide_eq_true (by first | (with_reducible assumption) | assumption)
                 have q156 : (ji18) < (y153.length : Int) := of_decide_eq_true (by first | (with_reducible assumption) | assumption)
                 obtain ⟨ad156, e156, hx156_0⟩ := Kd.at_int (Kd.R_reads' HO_3.out).2.2 (ji18) p156 q156
                 cases e156
                 replace p156 := eq_true p156
                 replace q156 := eq_true q156
                 go_wp2_with (first | ((with_reducible refine gate_callee (f := 29) rfl ?_); refine goesL_ (some 61) rfl rfl Tryd.func29 (by kernel_rfl) rfl #[.int .i32 (rd y153 (ji18))] rfl (by (try simp only [List.map_toArray, List.map_cons, List.map_nil]); first | done | (simp only [hji18]; rfl) | rfl | (simp only [List.length_drop, List.length_take]; rfl)) ?_; (with_reducible refine (tremaref02_Class.calls k3 (rd y153 (ji18)) t157 _ A21.out).mono ?_); rintro e w' ⟨rfl, ⟨nd, rfl⟩⟩; refine ⟨_, rfl, ?_⟩))
                 go_roundg k3
                 case measure => have := HK1.out; have := HK2.out; have := HK3.out; omega
                 case rel => exact ⟨(x9_3), (ji18), (by first | rfl | (simp; done) | (simp [*]; done)), (by first | rfl | (simp; done) | (simp only [← hji18] <;> (first | rfl | simp)) | (simp [*]; done)), H', ⟨by have := HK1.out; have := HK2.out; have := HK3.out; omega⟩, ⟨by (with_reducible repeat (first | apply Kd.R_alloc | apply Kd.R_drewN | apply Kd.R_drew)); exact HO_3.out⟩, ⟨by (with_reducible repeat (first | apply Kd.R_alloc | apply Kd.R_drewN | apply Kd.R_drew)); exact HO_6.out⟩, ⟨by repeat (first | (with_reducible first | exact HB.out | apply below_alloc | apply pw_below_drewN | apply below_drew1) | exact HB.out)⟩⟩
                ·rw [if_neg c22] at H
                 have c22b0 : decide (t151 < t157) = false := decide_eq_false c22
                 clear c22
                 have H' := Aside0.mk H
                 clear H
                 have p156 : 0 ≤ ((ji18) : Int) := of_decide_eq_true (by first | (with_reducible assumption) | assumption)
                 have q156 : (ji18) < (y153.length : Int) := of_decide_eq_true (by first | (with_reducible assumption) | assumption)
                 obtain ⟨ad156, e156, hx156_0⟩ := Kd.at_int (Kd.R_reads' HO_3.out).2.2 (ji18) p156 q156
                 cases e156
                 replace p156 := eq_true p156
                 replace q156 := eq_true q156
                 go_wp2_with (first | ((with_reducible refine gate_callee (f := 29) rfl ?_); refine goesL_ (some 61) rfl rfl Tryd.func29 (by kernel_rfl) rfl #[.int .i32 (rd y153 (ji18))] rfl (by (try simp only [List.map_toArray, List.map_cons, List.map_nil]); first | done | (simp only [hji18]; rfl) | rfl | (simp only [List.length_drop, List.length_take]; rfl)) ?_; (with_reducible refine (tremaref02_Class.calls k3 (rd y153 (ji18)) t157 _ A21.out).mono ?_); rintro e w' ⟨rfl, ⟨nd, rfl⟩⟩; refine ⟨_, rfl, ?_⟩))
                 go_roundg k3
                 case measure => have := HK1.out; have := HK2.out; have := HK3.out; omega
                 case rel => exact ⟨(wrap64 ((ji18) + 1)), (x10_3), (by first | rfl | (simp; done) | (simp only [← hji18] <;> (first | rfl | simp)) | (simp [*]; done)), (by first | rfl | (simp; done) | (simp [*]; done)), H', ⟨by have := HK1.out; have := HK2.out; have := HK3.out; omega⟩, ⟨by (with_reducible repeat (first | apply Kd.R_alloc | apply Kd.R_drewN | apply Kd.R_drew)); exact HO_3.out⟩, ⟨by (with_reducible repeat (first | apply Kd.R_alloc | apply Kd.R_drewN | apply Kd.R_drew)); exact HO_6.out⟩, ⟨by repeat (first | (with_reducible first | exact HB.out | apply below_alloc | apply pw_below_drewN | apply below_drew1) | exact HB.out)⟩⟩
               ·rw [if_neg c20] at H
                exact absurd H (by simp)
              ·rw [if_neg c19] at H
               exact absurd H (by simp)
             ·rw [if_neg c17] at H
              have c17b0 : decide (x9_3 < x10_3) = false := decide_eq_false c17
              clear c17
              have H' := Aside0.mk H
              clear H
              go_wp2
              go_loopg [12] k3 (fun kq v12 w' => ∃ (x3_4 : List Int) (x12_4 : Int), v12 = .int .i64 x12_4 ∧ Aside0 (tremaref03_Normal.l3 kq l0 x3_4 x4_2 x5_1 x6_2 x7_2 x9_3 x12_4 = some r) ∧ Aside0 (kq ≤ k3) ∧ Aside0 (Kd.R (Kd.int .i32) 21 w' w.heap.size (fun k_ => some k_ ≠ ((.slice (some ad150) x6_2.length co14) : Value).ownBlock) (.slice Ao16 y153.length co16) x3_4) ∧ Aside0 (Kd.R (Kd.int .i32) 21 w' w.heap.size (fun k_ => some k_ ≠ ((.slice Ao16 y153.length co16) : Value).ownBlock) (.slice (some ad150) x6_2.length co14) x6_2) ∧ Aside0 (Below w.heap.size w w'))
              case atStart => exact ⟨(y153), (wrap64 ((y153.length : Int) - 1)), (by first | rfl | (simp; done) | (simp [*]; done)), H', ⟨Nat.le_refl _⟩, ⟨by (with_reducible repeat (first | apply Kd.R_alloc | apply Kd.R_drewN | apply Kd.R_drew)); exact HO_3.out⟩, ⟨by (with_reducible repeat (first | apply Kd.R_alloc | apply Kd.R_drewN | apply Kd.R_drew)); exact HO_6.out⟩, ⟨by repeat (first | (with_reducible first | exact HB.out | apply below_alloc | apply pw_below_drewN | apply below_drew1) | exact HB.out)⟩⟩
              case round =>
               clear H'
               try clear c1
               try clear p1
               try clear q1
               try clear hx1
               try clear c2
               try clear c2b0
               try clear p2
               try clear c3
               try clear c3b0
               try clear c6
               try clear c6b0
               try clear p6
               try clear c7
               try clear c7b0
               try clear c9
               try clear c10
               try clear c10b0
               try clear c10b1
               try clear p14
               try clear q14
               try clear hx14
               try clear p15
               try clear q15
               try clear hx15
               try clear c17
               try clear c17b0
               try clear c19
               try clear c19b0
               try clear c20
               try clear c20b0
               try clear c22
               try clear c22b0
               try clear hx146_0
               try clear hx150_0
               try clear hx152_0
               try clear hx156_0
               try clear p1
               try clear p14
               try clear p146
               try clear p15
               try clear p150
               try clear p152
               try clear p156
               try clear p2
               try clear p6
               try clear q1
               try clear q14
               try clear q146
               try clear q15
               try clear q150
               try clear q152
               try clear q156
               obtain ⟨x3_4, x12_4, rfl, HA, HK4, HO_3, HO_6, HB⟩ := hrel
               have hl3_4 := (Kd.R_reads' HO_3.out).1
               rw [hl3_4] at HO_3
               (try simp only [hl3_4])
               (try simp only [hl3_4] at HO_6)
               cases gk with
               | zero => exact absurd HA.out (by simp [tremaref03_Normal.l3])
               | succ k4 =>
                have H := HA.out
                clear HA
                simp only [tremaref03_Normal.l3] at H
                by_cases c23 : x12_4 > x9_3
                ·rw [if_pos c23] at H
                 have c23b0 : decide (x9_3 < x12_4) = true := decide_eq_true c23
                 clear c23
                 obtain ⟨ji24, hji24⟩ : ∃ j_ : Int, (wrap64 (x12_4 - 1)) = j_ := ⟨_, rfl⟩
                 replace H : (if 0 ≤ (ji24) then (if (ji24) < (x3_4.length : Int) then (if 0 ≤ x12_4 then (if x12_4 < (x3_4.length : Int) then (tremaref03_Normal.l3 k4 l0 (x3_4.set (x12_4 : Int).toNat (rd x3_4 (ji24))) x4_2 x5_1 x6_2 x7_2 x9_3 ji24) else (none)) else (none)) else (none)) else (none)) = some r := by first | (rw [hji24] at H; exact H) | (simp only [hji24] at H ⊢; exact H)
                 have hji24w : (IntKind.i64.wrap (x12_4 - 1)) = ji24 := (i64_w _).trans hji24
                 by_cases c25 : 0 ≤ (ji24)
                 ·rw [if_pos c25] at H
                  have c25b0 : decide (0 ≤ (ji24)) = true := decide_eq_true c25
                  clear c25
                  by_cases c26 : (ji24) < (x3_4.length : Int)
                  ·rw [if_pos c26] at H
                   have c26b0 : decide ((ji24) < (x3_4.length : Int)) = true := decide_eq_true c26
                   clear c26
                   by_cases c27 : 0 ≤ x12_4
                   ·rw [if_pos c27] at H
                    have c27b0 : decide (0 ≤ x12_4) = true := decide_eq_true c27
                    clear c27
                    by_cases c28 : x12_4 < (x3_4.length : Int)
                    ·rw [if_pos c28] at H
                     have c28b0 : decide (x12_4 < (x3_4.length : Int)) = true := decide_eq_true c28
                     clear c28
                     obtain ⟨y159, hy159⟩ : ∃ y_ : List Int, y_ = (x3_4.set (x12_4 : Int).toNat (rd x3_4 (ji24))) := ⟨_, rfl⟩
                     replace H : (tremaref03_Normal.l3 k4 l0 y159 x4_2 x5_1 x6_2 x7_2 x9_3 ji24) = some r := by first | (rw [hy159]; with_reducible exact H) | (have H2_ := (Option.bind_some _ _).symm.trans H; rw [hy159]; with_reducible exact H2_) | (have H2_ := (Option.bind_some _ _).symm.trans H; with_reducible exact H2_) | with_reducible exact H | (rw [hy159]; exact H) | exact H
                     have Ny159 := Aside0.mk hy159
                     clear hy159
                     have H' := Aside0.mk H
                     clear H
                     have p158 : 0 ≤ ((ji24) : Int) := of_decide_eq_true (by first | (with_reducible assumption) | assumption)
                     have q158 : (ji24) < (x3_4.length : Int) := of_decide_eq_true (by first | (with_reducible assumption) | assumption)
                     obtain ⟨ad158, e158, hx158_0⟩ := Kd.at_int (Kd.R_reads' HO_3.out).2.2 (ji24) p158 q158
                     cases e158
                     replace p158 := eq_true p158
                     replace q158 := eq_true q158
                     have p29 : 0 ≤ (x12_4 : Int) := of_decide_eq_true (by first | (with_reducible assumption) | assumption)
                     have q29 : (x12_4 : Int) < ((x3_4.length : Int) : Int) := of_decide_eq_true (by first | (with_reducible assumption) | assumption)
                     obtain ⟨go29, co29, eo29, gb29, gl29, cl29, HG29⟩ := Kd.R_form HO_3.out (by omega)
                     (first | cases eo29 | (injection eo29 with ea_ en_ ec_; (first | subst ea_ | (injection ea_ with ea_; subst ea_)); subst ec_; clear en_))
                     have GB29 := Aside0.mk gb29
                     have GG29 := Aside0.mk HG29
                     clear gb29 gl29 HG29
                     (first | simp only [add_plain] at hx158_0 | skip)
                     obtain ⟨hx29_0, hf29_0⟩ := Kd.R_celln 0 HO_3.out (x12_4 : Int) p29 q29
                     replace p29 := eq_true p29
                     replace q29 := eq_true q29
                     have HP30 := Kd.R_putg HO_3.out (x12_4 : Int) (rd x3_4 (ji24))
                     go_wp2_with (first | ((with_reducible refine gate_store (t := 21) (p := 82) rfl ?_); refine store_event (t := 21) (p := 82) (v := ?vo_w31) (w1 := (wr.setCell ⟨go29, (x12_4 : Int).toNat, none⟩ (.int .i32 (rd x3_4 (ji24))))) ?hg ?ho ?hn ?hr ?_; (case ho => rfl); (case hg => rfl); (case hn => rfl); (case hr => first | (go_simp; done) | (go_simp; rfl)); intro w31 hw; have hg : wr.grownBy w31 (some go29) := (by rw [hw]; exact HP30.2); have hp_ : Kd.R (Kd.int .i32) 21 w31 w.heap.size (fun k_ => some k_ ≠ (.slice (some ad150) x6_2.length co14 : Value).ownBlock) (.slice (some ⟨go29, 0, none⟩) x3_4.length co16) y159 := (by rw [hw, Ny159.out]; exact HP30.1); clear HP30; have n0_ := Aside0.mk (hp_); have n1_ := Aside0.mk (Kd.R_after (v := (.slice (some ⟨go29, 0, none⟩) x3_4.length co16)) (v1 := (.slice (some ⟨go29, 0, none⟩) x3_4.length co16)) (ok := (fun _ => True)) (by (with_reducible repeat (first | apply Kd.R_alloc | apply Kd.R_drewN | apply Kd.R_drew)); exact Kd.R_mono HO_6.out (fun _ hk => ⟨trivial, hk⟩)) hg (.inl rfl)); have n2_ := Aside0.mk ((by rw [hw]; exact below_set (HB.out) GB29.out : Below w.heap.size w w31)); clear HO_3; clear HO_6; clear HB; have HO_3 := n0_; have HO_6 := n1_; have HB := n2_; clear n0_ n1_ n2_; clear hg hw hp_))
                     (try simp only [← hl3_4])
                     go_roundg k4
                     case measure => have := HK1.out; have := HK2.out; have := HK3.out; have := HK4.out; omega
                     case rel => exact ⟨(y159), (ji24), (by first | rfl | (simp; done) | (simp only [← hji24] <;> (first | rfl | simp)) | (simp [*]; done)), H', ⟨by have := HK1.out; have := HK2.out; have := HK3.out; have := HK4.out; omega⟩, ⟨by (try simp only [hl3_4]); (with_reducible repeat (first | apply Kd.R_alloc | apply Kd.R_drewN | apply Kd.R_drew)); exact HO_3.out⟩, ⟨by (try simp only [hl3_4]); (with_reducible repeat (first | apply Kd.R_alloc | apply Kd.R_drewN | apply Kd.R_drew)); exact Kd.R_mono HO_6.out (fun _ hk => hk.2)⟩, ⟨by repeat (first | (with_reducible first | exact HB.out | apply below_alloc | apply pw_below_drewN | apply below_drew1) | exact HB.out)⟩⟩
                    ·rw [if_neg c28] at H
                     exact absurd H (by simp)
                   ·rw [if_neg c27] at H
                    exact absurd H (by simp)
                  ·rw [if_neg c26] at H
                   exact absurd H (by simp)
                 ·rw [if_neg c25] at H
                  exact absurd H (by simp)
                ·rw [if_neg c23] at H
                 have c23b0 : decide (x9_3 < x12_4) = false := decide_eq_false c23
                 clear c23
                 by_cases c32 : 0 ≤ x7_2
                 ·rw [if_pos c32] at H
                  have c32b0 : decide (0 ≤ x7_2) = true := decide_eq_true c32
                  clear c32
                  by_cases c33 : x7_2 < (x6_2.length : Int)
                  ·rw [if_pos c33] at H
                   have c33b0 : decide (x7_2 < (x6_2.length : Int)) = true := decide_eq_true c33
                   clear c33
                   by_cases c34 : 0 ≤ x9_3
                   ·rw [if_pos c34] at H
                    have c34b0 : decide (0 ≤ x9_3) = true := decide_eq_true c34
                    clear c34
                    by_cases c35 : x9_3 < (x3_4.length : Int)
                    ·rw [if_pos c35] at H
                     have c35b0 : decide (x9_3 < (x3_4.length : Int)) = true := decide_eq_true c35
                     clear c35
                     obtain ⟨y161, hy161⟩ : ∃ y_ : List Int, y_ = (x3_4.set (x9_3 : Int).toNat (rd x6_2 x7_2)) := ⟨_, rfl⟩
                     replace H : (tremaref03_Normal.l1 k4 l0 y161 x4_2 x5_1 x6_2 (wrap64 (x7_2 + 1))) = some r := by first | (rw [hy161]; with_reducible exact H) | (have H2_ := (Option.bind_some _ _).symm.trans H; rw [hy161]; with_reducible exact H2_) | (have H2_ := (Option.bind_some _ _).symm.trans H; with_reducible exact H2_) | with_reducible exact H | (rw [hy161]; exact H) | exact H
                     have Ny161 := Aside0.mk hy161
                     clear hy161
                     have H' := Aside0.mk H
                     clear H
                     have p160 : 0 ≤ (x7_2 : Int) := of_decide_eq_true (by first | (with_reducible assumption) | assumption)
                     have q160 : x7_2 < (x6_2.length : Int) := of_decide_eq_true (by first | (with_reducible assumption) | assumption)
                     obtain ⟨ad160, e160, hx160_0⟩ := Kd.at_int (Kd.R_reads' HO_6.out).2.2 x7_2 p160 q160
                     obtain rfl : ad150 = ad160 := (by injection e160)
                     replace p160 := eq_true p160
                     replace q160 := eq_true q160
                     have p36 : 0 ≤ (x9_3 : Int) := of_decide_eq_true (by first | (with_reducible assumption) | assumption)
                     have q36 : (x9_3 : Int) < ((x3_4.length : Int) : Int) := of_decide_eq_true (by first | (with_reducible assumption) | assumption)
                     obtain ⟨go36, co36, eo36, gb36, gl36, cl36, HG36⟩ := Kd.R_form HO_3.out (by omega)
                     (first | cases eo36 | (injection eo36 with ea_ en_ ec_; (first | subst ea_ | (injection ea_ with ea_; subst ea_)); subst ec_; clear en_))
                     have GB36 := Aside0.mk gb36
                     have GG36 := Aside0.mk HG36
                     clear gb36 gl36 HG36
                     obtain ⟨hx36_0, hf36_0⟩ := Kd.R_celln 0 HO_3.out (x9_3 : Int) p36 q36
                     replace p36 := eq_true p36
                     replace q36 := eq_true q36
                     have HP37 := Kd.R_putg HO_3.out (x9_3 : Int) (rd x6_2 x7_2)
                     go_wp2_with (first | ((with_reducible refine gate_store (t := 21) (p := 89) rfl ?_); refine store_event (t := 21) (p := 89) (v := ?vo_w38) (w1 := (wr.setCell ⟨go36, (x9_3 : Int).toNat, none⟩ (.int .i32 (rd x6_2 x7_2)))) ?hg ?ho ?hn ?hr ?_; (case ho => rfl); (case hg => rfl); (case hn => rfl); (case hr => first | (go_simp; done) | (go_simp; rfl)); intro w38 hw; have hg : wr.grownBy w38 (some go36) := (by rw [hw]; exact HP37.2); have hp_ : Kd.R (Kd.int .i32) 21 w38 w.heap.size (fun k_ => some k_ ≠ (.slice (some ad150) x6_2.length co14 : Value).ownBlock) (.slice (some ⟨go36, 0, none⟩) x3_4.length co16) y161 := (by rw [hw, Ny161.out]; exact HP37.1); clear HP37; have n0_ := Aside0.mk (hp_); have n1_ := Aside0.mk (Kd.R_after (v := (.slice (some ⟨go36, 0, none⟩) x3_4.length co16)) (v1 := (.slice (some ⟨go36, 0, none⟩) x3_4.length co16)) (ok := (fun _ => True)) (by (with_reducible repeat (first | apply Kd.R_alloc | apply Kd.R_drewN | apply Kd.R_drew)); exact Kd.R_mono HO_6.out (fun _ hk => ⟨trivial, hk⟩)) hg (.inl rfl)); have n2_ := Aside0.mk ((by rw [hw]; exact below_set (HB.out) GB36.out : Below w.heap.size w w38)); clear HO_3; clear HO_6; clear HB; have HO_3 := n0_; have HO_6 := n1_; have HB := n2_; clear n0_ n1_ n2_; clear hg hw hp_))
                     (try simp only [← hl3_4])
                     go_roundg k4
                     case measure => have := HK1.out; have := HK2.out; have := HK3.out; have := HK4.out; omega
                     case rel => exact ⟨(y161), (x4_2), (x6_2), (wrap64 (x7_2 + 1)), (by first | rfl | (simp; done) | (simp [*]; done)), (by first | rfl | (simp; done) | (simp [*]; done)), H', ⟨by have := HK1.out; have := HK2.out; have := HK3.out; have := HK4.out; omega⟩, ⟨by (try simp only [hl3_4]); (with_reducible repeat (first | apply Kd.R_alloc | apply Kd.R_drewN | apply Kd.R_drew)); exact HO_3.out⟩, ⟨by (try simp only [hl3_4]); (with_reducible repeat (first | apply Kd.R_alloc | apply Kd.R_drewN | apply Kd.R_drew)); exact Kd.R_mono HO_6.out (fun _ hk => hk.2)⟩, ⟨by repeat (first | (with_reducible first | exact HB.out | apply below_alloc | apply pw_below_drewN | apply below_drew1) | exact HB.out)⟩⟩
                    ·rw [if_neg c35] at H
                     exact absurd H (by simp)
                   ·rw [if_neg c34] at H
                    exact absurd H (by simp)
                  ·rw [if_neg c33] at H
                   exact absurd H (by simp)
                 ·rw [if_neg c32] at H
                  exact absurd H (by simp)
         ·rw [if_neg c9] at H
          exact absurd H (by simp)
        ·rw [if_neg c7] at H
         exact absurd H (by simp)
       ·rw [if_neg c6] at H
        have c6b0 : decide (x7_2 < (x6_2.length : Int)) = false := decide_eq_false c6
        clear c6
        have H' := Aside0.mk H
        clear H
        obtain ⟨Ao39, co39, eo39⟩ := Kd.R_slice HO_6.out
        subst eo39
        go_wp2
        go_roundg k2
        case measure => have := HK1.out; have := HK2.out; omega
        case rel => exact ⟨(x3_2), (x4_2), (wrap64 (x5_1 + 1)), (by first | rfl | (simp; done) | (simp [*]; done)), (by first | rfl | (simp; done) | (simp [*]; done)), H', ⟨by have := HK1.out; have := HK2.out; omega⟩, ⟨by (with_reducible repeat (first | apply Kd.R_alloc | apply Kd.R_drewN | apply Kd.R_drew)); exact Kd.R_mono HO_3.out (fun _ hk => trivial)⟩, ⟨by repeat (first | (with_reducible first | exact HB.out | apply below_alloc | apply pw_below_drewN | apply below_drew1) | exact HB.out)⟩⟩
    ·rw [if_neg c3] at H
     exact absurd H (by simp)
   ·rw [if_neg c2] at H
    have c2b0 : decide (x5_1 < (l0.length : Int)) = false := decide_eq_false c2
    clear c2
    obtain rfl := Option.some.inj H
    go_wp2
    go_ret
    exact ⟨_, by first | rfl | (simp [errW_none, errW_some] <;> rfl) | (simp [*, errW_none, errW_some] <;> rfl), by (with_reducible repeat (first | apply Kd.R_alloc | apply Kd.R_drewN | apply Kd.R_drew)); exact HO_3.out, by repeat (first | (with_reducible first | exact HB.out | apply below_alloc | apply pw_below_drewN | apply below_drew1) | exact HB.out)⟩
end Go.Proofs.YtiggjbclbdikmaaDoor.X
namespace Go.Proofs.YtiggjbclbdikmaaDoor.Ob
set_option linter.unusedVariables false
set_option linter.unusedSimpArgs false
open Go.Proofs.YtiggjbclbdikmaaDoor.Vd (decU)
open Go.Proofs.YtiggjbclbdikmaaDoor.Fr (sure sure_of sure_spec)
open Go.Proofs.YtiggjbclbdikmaaDoor.Nc (K K_take K_drop K_left srt_le)
open Go.RowKit Go.Proofs.YtiggjbclbdikmaaDoorW.PrintWords Go.Proofs.YtiggjbclbdikmaaDoor.Ev0 Go.Proofs.YtiggjbclbdikmaaDoor.X Go.Proofs.YtiggjbclbdikmaaDoor.Va Go.Proofs.YtiggjbclbdikmaaDoor.Vc Go.Proofs.YtiggjbclbdikmaaDoor.Ve Go.Proofs.YtiggjbclbdikmaaDoor.Vp0 Go.Proofs.YtiggjbclbdikmaaDoor.Vr Go.Proofs.YtiggjbclbdikmaaDoor.Vu Go.Proofs.YtiggjbclbdikmaaDoor.Na Go.Proofs.YtiggjbclbdikmaaDoor.Oa
theorem ins_skip (d : Int) (hd : cls d ≠ 0) : ∀ (p s : List Int), (∀ y ∈ p, cls d < cls y) → (s = [] ∨ ∃ z t, s = z :: t ∧ cls z ≤ cls d) → ins d (p ++ s) = p ++ d :: s
  | [], s, _, hs => by
    rcases hs with rfl | ⟨z, t, rfl, hz⟩
    · rfl
    · rw [List.nil_append, ins, if_neg (fun k => by omega)]; rfl
  | y :: p, s, hp, hs => by
    rw [List.cons_append, ins, if_pos ⟨hd, hp y (List.mem_cons_self ..)⟩, ins_skip d hd p s (fun z hz => hp z (List.mem_cons_of_mem _ hz)) hs]
    rfl
theorem K_get {l : List Int} {i : Nat} (h : i < l.length) : K l i = cls l[i] := by unfold K; rw [List.getD_eq_getElem?_getD, List.getElem?_eq_getElem h]; rfl
theorem ins_at (acc : List Int) (d : Int) (hd : cls d ≠ 0) (lo : Nat) (hlo : lo ≤ acc.length) (h1 : ∀ i, lo ≤ i → i < acc.length → cls d < K acc i) (h2 : lo = 0 ∨ K acc (lo - 1) ≤ cls d) :
    (ins d acc.reverse).reverse = acc.take lo ++ d :: acc.drop lo := by
  have e : acc.reverse = (acc.drop lo).reverse ++ (acc.take lo).reverse := by rw [← List.reverse_append, List.take_append_drop]
  rw [e, ins_skip d hd]
  · simp
  · intro y hy
    obtain ⟨i, hi, rfl⟩ := List.getElem_of_mem (List.mem_reverse.1 hy)
    rw [List.length_drop] at hi
    rw [List.getElem_drop]
    have := h1 (lo + i) (by omega) (by omega)
    rwa [K_get (by omega)] at this
  · rcases h2 with rfl | h2
    · exact .inl (by simp)
    · rcases Nat.eq_zero_or_pos lo with rfl | h0
      · exact .inl (by simp)
      · refine .inr ⟨acc[lo - 1], (acc.take (lo - 1)).reverse, ?_, ?_⟩
        · have := List.take_succ_eq_append_getElem (i := lo - 1) (l := acc) (by omega)
          rw [show lo - 1 + 1 = lo by omega] at this
          rw [this]; simp
        · rwa [K_get (by omega)] at h2
theorem w64d {a : Nat} (h0 : 0 < a) (h : a < 4611686018427387904) : wrap64 ((a : Int) - 1) = ((a - 1 : Nat) : Int) := by unfold wrap64; omega
theorem wmid {a b : Nat} (h : a + b < 4611686018427387904) : wrap64 (Int.tdiv (wrap64 ((a : Int) + (b : Int))) 2) = (((a + b) / 2 : Nat) : Int) := by
  have e : wrap64 ((a : Int) + (b : Int)) = ((a + b : Nat) : Int) := by unfold wrap64; omega
  rw [e, show Int.tdiv ((a + b : Nat) : Int) 2 = (((a + b) / 2 : Nat) : Int) by rw [Int.tdiv_eq_ediv_of_nonneg (by omega)]; omega]
  unfold wrap64
  omega
section
variable {x0 : List Int} {x5 : Int} {x6 : List Int} {R : List Int} {acc : List Int} {j f : Nat}
theorem l3Ev (hj : j < x6.length) (hl : acc.length ≤ 1000000000) (hj5 : x6.length ≤ 1000) (lo : Nat) (hlo : lo ≤ acc.length)
    (next : Ev (fun k => tremaref03_Normal.l1 k x0 (acc.take lo ++ x6[j] :: acc.drop lo) (f : Int) x5 x6 ((j + 1 : Nat) : Int)) R) :
    ∀ (q at_ : Nat), at_ = lo + q → at_ ≤ acc.length → ∀ v, Ev (fun k => tremaref03_Normal.l3 k x0 (acc.take at_ ++ v :: acc.drop at_) (f : Int) x5 x6 (j : Int) (lo : Int) (at_ : Int)) R
  | 0, at_, ha, hal, v => by
    obtain rfl : at_ = lo := ha
    have hlen : (acc.take at_ ++ v :: acc.drop at_).length = acc.length + 1 := by simp <;> omega
    refine Ev.step (fun k => tremaref03_Normal.l3.eq_2 ..) ?_
    simp only [if_neg (Int.lt_irrefl _), gt_iff_lt, hlen, if_pos (getLt hj), if_pos (show (0 : Int) ≤ (j : Int) by omega), if_pos (show (0 : Int) ≤ (at_ : Int) by omega), if_pos (show (at_ : Int) < ((acc.length + 1 : Nat) : Int) by omega), rd_nat hj, w64 (i := j) (by omega), Int.toNat_natCast]
    have e : (acc.take at_ ++ v :: acc.drop at_).set at_ x6[j] = acc.take at_ ++ x6[j] :: acc.drop at_ := by
      have : at_ = (acc.take at_).length := by rw [List.length_take]; omega
      conv => lhs; arg 2; rw [this]
      rw [List.set_append_right _ _ (Nat.le_refl _), Nat.sub_self]
      rfl
    rw [e]
    exact next
  | q + 1, at_, ha, hal, v => by
    have hlen : (acc.take at_ ++ v :: acc.drop at_).length = acc.length + 1 := by simp <;> omega
    have hy : acc.take at_ = acc.take (at_ - 1) ++ [acc[at_ - 1]] := by
      have := List.take_succ_eq_append_getElem (i := at_ - 1) (l := acc) (by omega)
      rwa [show at_ - 1 + 1 = at_ by omega] at this
    have hrd : rd (acc.take at_ ++ v :: acc.drop at_) ((at_ - 1 : Nat) : Int) = acc[at_ - 1] := by
      rw [rd_nat (by rw [hlen]; omega), List.getElem_append_left (by rw [List.length_take]; omega), List.getElem_take]
    refine Ev.step (fun k => tremaref03_Normal.l3.eq_2 ..) ?_
    simp only [if_pos (show (at_ : Int) > (lo : Int) by omega), hlen, w64d (a := at_) (by omega) (by omega), hrd, if_pos (show (0 : Int) ≤ ((at_ - 1 : Nat) : Int) by omega), if_pos (show ((at_ - 1 : Nat) : Int) < ((acc.length + 1 : Nat) : Int) by omega), if_pos (show (0 : Int) ≤ (at_ : Int) by omega), if_pos (show (at_ : Int) < ((acc.length + 1 : Nat) : Int) by omega), Int.toNat_natCast]
    have e : (acc.take at_ ++ v :: acc.drop at_).set at_ acc[at_ - 1] = acc.take (at_ - 1) ++ acc[at_ - 1] :: acc.drop (at_ - 1) := by
      have h1 : at_ = (acc.take at_).length := by rw [List.length_take]; omega
      have h2 : acc.drop (at_ - 1) = acc[at_ - 1] :: acc.drop at_ := by
        have := List.drop_eq_getElem_cons (i := at_ - 1) (l := acc) (by omega)
        rwa [show at_ - 1 + 1 = at_ by omega] at this
      conv => lhs; arg 2; rw [h1]
      rw [List.set_append_right _ _ (Nat.le_refl _), Nat.sub_self, h2, List.set_cons_zero, hy, List.append_assoc]
      rfl
    rw [e]
    exact l3Ev hj hl hj5 lo hlo next q (at_ - 1) (by omega) (by omega) _
theorem l2Ev (hj : j < x6.length) (hl : acc.length ≤ 1000000000) (hj5 : x6.length ≤ 1000) (hs : Srt (acc.drop f)) (hf : f ≤ acc.length) (d : Int)
    (next : ∀ lo, f ≤ lo → lo ≤ acc.length → (∀ i, f ≤ i → i < lo → K acc i ≤ cls d) → (∀ i, lo ≤ i → i < acc.length → cls d < K acc i) → Ev (fun k => tremaref03_Normal.l1 k x0 (acc.take lo ++ x6[j] :: acc.drop lo) (f : Int) x5 x6 ((j + 1 : Nat) : Int)) R) :
    ∀ (q lo hi : Nat), hi - lo ≤ q → f ≤ lo → lo ≤ hi → hi ≤ acc.length → (∀ i, f ≤ i → i < lo → K acc i ≤ cls d) → (∀ i, hi ≤ i → i < acc.length → cls d < K acc i) →
      Ev (fun k => tremaref03_Normal.l2 k x0 (acc ++ [x6[j]]) (f : Int) x5 x6 (j : Int) (cls d) (lo : Int) (hi : Int)) R := by
  have stop : ∀ lo : Nat, f ≤ lo → lo ≤ acc.length → (∀ i, f ≤ i → i < lo → K acc i ≤ cls d) → (∀ i, lo ≤ i → i < acc.length → cls d < K acc i) → Ev (fun k => tremaref03_Normal.l2 k x0 (acc ++ [x6[j]]) (f : Int) x5 x6 (j : Int) (cls d) (lo : Int) (lo : Int)) R := by
    intro lo h1 h2 h3 h4
    refine Ev.step (fun k => tremaref03_Normal.l2.eq_2 ..) ?_
    simp only [if_neg (Int.lt_irrefl _), List.length_append, List.length_singleton, w64d (a := acc.length + 1) (by omega) (by omega), Nat.add_sub_cancel]
    have := l3Ev (x0 := x0) (x5 := x5) (R := R) (f := f) hj hl hj5 lo h2 (next lo h1 h2 h3 h4) (acc.length - lo) acc.length (by omega) (Nat.le_refl _) x6[j]
    rw [List.take_length, List.drop_length] at this
    exact this
  intro q
  induction q with
  | zero =>
    intro lo hi h0 h1 h2 h3 h4 h5
    obtain rfl : lo = hi := by omega
    exact stop lo h1 h3 h4 h5
  | succ q ih =>
    intro lo hi h0 h1 h2 h3 h4 h5
    by_cases hlt : lo < hi
    · obtain ⟨m, hm⟩ : ∃ m, m = (lo + hi) / 2 := ⟨_, rfl⟩
      have hm1 : lo ≤ m := by omega
      have hm2 : m < hi := by omega
      have hml : m < acc.length := Nat.lt_of_lt_of_le hm2 h3
      have hmid := wmid (a := lo) (b := hi) (by omega)
      rw [← hm] at hmid
      have hrd : rd (acc ++ [x6[j]]) (m : Int) = acc[m] := by rw [rd_nat (by rw [List.length_append]; exact Nat.lt_add_right _ hml), List.getElem_append_left hml]
      have hK := K_get (l := acc) (i := m) hml
      clear hm
      have hmono : ∀ i i' : Nat, f ≤ i → i ≤ i' → i' < acc.length → K acc i ≤ K acc i' := by
        intro i i' g1 g2 g3
        have := srt_le hs (i := i - f) (j := i' - f) (by omega) (by rw [List.length_drop]; omega)
        rwa [K_drop, K_drop, show f + (i - f) = i by omega, show f + (i' - f) = i' by omega] at this
      refine Ev.step (fun k => tremaref03_Normal.l2.eq_2 ..) ?_
      have g1 : (lo : Int) < (hi : Int) := by omega
      have g2 : (0 : Int) ≤ (m : Int) := by omega
      have g3 : (m : Int) < (((acc ++ [x6[j]]).length : Nat) : Int) := by rw [List.length_append, List.length_singleton]; omega
      simp only [if_pos g1, hmid, if_pos g2, if_pos g3, hrd]
      clear g1 g2 g3 hmid hrd
      refine Ev.bind (clsEv _) ?_
      by_cases hc : cls acc[m] > cls d
      · simp only [if_pos hc]
        exact ih lo m (by omega) h1 hm1 (by omega) h4 (fun i g1 g2 => by have := hmono m i (by omega) g1 g2; omega)
      · simp only [if_neg hc, w64 (i := m) (by omega)]
        exact ih (m + 1) hi (by omega) (by omega) (by omega) h3 (fun i g1 g2 => by have := hmono i m g1 (by omega) (by omega); omega) h5
    · obtain rfl : lo = hi := by omega
      exact stop lo h1 h3 h4 h5
end
def Sg (acc : List Int) (f : Nat) : Prop := f ≤ acc.length ∧ Srt (acc.drop f) ∧ (f = 0 ∨ K acc (f - 1) = 0)
theorem Sg.starter {acc : List Int} {d : Int} (hd : cls d = 0) : Sg (acc ++ [d]) (acc.length + 1) := by
  refine ⟨by simp, by rw [List.drop_eq_nil_of_le (by simp)]; exact List.Pairwise.nil, .inr ?_⟩
  rw [Nat.add_sub_cancel, K_get (by simp)]
  simpa using hd
theorem Sg.mark {acc : List Int} {d : Int} {f lo : Nat} (h : Sg acc f) (h1 : f ≤ lo) (h2 : lo ≤ acc.length) (h3 : ∀ i, f ≤ i → i < lo → K acc i ≤ cls d) (h4 : ∀ i, lo ≤ i → i < acc.length → cls d < K acc i) : Sg (acc.take lo ++ d :: acc.drop lo) f := by
  obtain ⟨g1, g2, g3⟩ := h
  refine ⟨by simp <;> omega, ?_, ?_⟩
  · have e : (acc.take lo ++ d :: acc.drop lo).drop f = (acc.drop f).take (lo - f) ++ d :: acc.drop lo := by
      rw [List.drop_append_of_le_length (by rw [List.length_take]; omega), List.drop_take]
    have e2 : acc.drop f = (acc.drop f).take (lo - f) ++ acc.drop lo := by
      have := (List.take_append_drop (lo - f) (acc.drop f)).symm
      rwa [List.drop_drop, show f + (lo - f) = lo by omega] at this
    rw [e]
    rw [e2] at g2
    obtain ⟨p1, p2, p3⟩ := List.pairwise_append.1 g2
    have q1 : ∀ x ∈ (acc.drop f).take (lo - f), cls x ≤ cls d := fun x hx => by
      obtain ⟨i, hi, rfl⟩ := List.getElem_of_mem hx
      rw [List.length_take, List.length_drop] at hi
      rw [List.getElem_take, List.getElem_drop]
      have := h3 (f + i) (by omega) (by omega)
      rwa [K_get (by omega)] at this
    have q2 : ∀ y ∈ acc.drop lo, cls d < cls y := fun x hx => by
      obtain ⟨i, hi, rfl⟩ := List.getElem_of_mem hx
      rw [List.length_drop] at hi
      rw [List.getElem_drop]
      have := h4 (lo + i) (by omega) (by omega)
      rwa [K_get (by omega)] at this
    refine List.pairwise_append.2 ⟨p1, List.pairwise_cons.2 ⟨fun y hy => Int.le_of_lt (q2 y hy), p2⟩, fun x hx y hy => ?_⟩
    rcases List.mem_cons.1 hy with rfl | hy
    · exact q1 x hx
    · exact p3 x hx y hy
  · rcases g3 with g3 | g3
    · exact .inl g3
    · rcases Nat.eq_zero_or_pos f with h0 | h0
      · exact .inl h0
      · refine .inr ?_
        rw [K_left (by rw [List.length_take]; omega), K_take (by omega)]
        exact g3
theorem ordL_snoc (l : List Int) (d : Int) : ordL (l ++ [d]) = (ins d (ordL l).reverse).reverse := by
  unfold ordL
  rw [ordR_snoc, List.reverse_reverse]
theorem l1Ev {x0 : List Int} {i : Nat} {x6 : List Int} {R : List Int} (done : List Int) (hl : (done ++ x6).length ≤ 1000000000) (hj5 : x6.length ≤ 1000)
    (next : ∀ f, Sg (ordL (done ++ x6)) f → Ev (fun k => tremaref03_Normal.l0 k x0 (ordL (done ++ x6)) (f : Int) (wrap64 ((i : Int) + 1))) R) :
    ∀ q j : Nat, j + q = x6.length → ∀ f, Sg (ordL (done ++ x6.take j)) f → Ev (fun k => tremaref03_Normal.l1 k x0 (ordL (done ++ x6.take j)) (f : Int) (i : Int) x6 (j : Int)) R := by
  intro q
  induction q with
  | zero =>
    intro j hj f hs
    obtain rfl : j = x6.length := hj
    rw [List.take_length] at hs ⊢
    refine Ev.step (fun k => tremaref03_Normal.l1.eq_2 ..) ?_
    simp only [if_neg (Int.lt_irrefl _)]
    exact next f hs
  | succ q ih =>
    intro j hj f hs
    have hjl : j < x6.length := by omega
    have hal : (ordL (done ++ x6.take j)).length ≤ 1000000000 := by
      rw [ordL_len]
      rw [List.length_append] at hl ⊢
      rw [List.length_take]
      omega
    have e : ordL (done ++ x6.take (j + 1)) = (ins x6[j] (ordL (done ++ x6.take j)).reverse).reverse := by rw [List.take_succ_eq_append_getElem hjl, ← List.append_assoc, ordL_snoc]
    have ih := ih (j + 1) (by omega)
    obtain ⟨acc, hacc⟩ : ∃ acc, acc = ordL (done ++ x6.take j) := ⟨_, rfl⟩
    rw [← hacc] at hs hal e ⊢
    rw [e] at ih
    clear e hacc
    refine Ev.step (fun k => tremaref03_Normal.l1.eq_2 ..) ?_
    simp only [if_pos (getLt hjl), if_pos (show (0 : Int) ≤ (j : Int) by omega), rd_nat hjl]
    refine Ev.bind (clsEv _) ?_
    simp only [if_pos (show acc.length < 35184372088832 by omega), Option.bind_some]
    by_cases hd : cls x6[j] = 0
    · simp only [if_pos hd, w64 (i := j) (by omega)]
      have e2 : (ins x6[j] acc.reverse).reverse = acc ++ [x6[j]] := by rw [ins_zero hd]; simp
      rw [e2] at ih
      have := ih (acc.length + 1) (Sg.starter hd)
      rw [List.length_append, List.length_singleton]
      exact this
    · simp only [if_neg hd, List.length_append, List.length_singleton, w64d (a := acc.length + 1) (by omega) (by omega), Nat.add_sub_cancel]
      refine l2Ev hjl hal hj5 hs.2.1 hs.1 x6[j] ?_ (acc.length - f) f acc.length (by omega) (Nat.le_refl _) hs.1 (Nat.le_refl _) (fun i g1 g2 => by omega) (fun i g1 g2 => by omega)
      intro lo g1 g2 g3 g4
      have e2 := ins_at acc x6[j] hd lo g2 g4 (by
        rcases Nat.eq_zero_or_pos lo with h | h
        · exact .inl h
        · refine .inr ?_
          rcases Nat.lt_or_ge f lo with h2 | h2
          · exact g3 (lo - 1) (by omega) (by omega)
          · obtain rfl : lo = f := by omega
            rcases hs.2.2 with h3 | h3
            · omega
            · rw [h3]; exact cls_nonneg _)
      rw [e2] at ih
      exact ih f (hs.mark g1 g2 g3 g4)
theorem refNEv (l : List Int) (hwf : ∀ x ∈ l, I32 x) (hl : l.length ≤ 100000000) : Ev (fun k => tremaref03_Normal.f k l) (nrm l) := by
  unfold tremaref03_Normal.f
  have key : ∀ q i : Nat, i + q = l.length → ∀ f, Sg (ordL (flat (l.take i))) f → Ev (fun k => tremaref03_Normal.l0 k l (ordL (flat (l.take i))) (f : Int) (i : Int)) (nrm l) := by
    intro q
    induction q with
    | zero =>
      intro i hi f hs
      obtain rfl : i = l.length := hi
      rw [List.take_length]
      refine Ev.step (fun k => tremaref03_Normal.l0.eq_2 ..) ?_
      simp only [if_neg (Int.lt_irrefl _)]
      exact Ev.now _
    | succ q ih =>
      intro i hi f hs
      have hil : i < l.length := by omega
      have hx := hwf l[i] (List.getElem_mem hil)
      have e : flat (l.take (i + 1)) = flat (l.take i) ++ decU l[i] := by
        rw [List.take_succ_eq_append_getElem hil, flat_app]
        simp [flat]
      have h1 := flat_len (l.take (i + 1)) (fun x hx => hwf x (List.mem_of_mem_take hx))
      rw [e, List.length_take] at h1
      have h2 := dec_len3 l[i] hx
      have ih := ih (i + 1) (by omega)
      rw [e] at ih
      refine Ev.step (fun k => tremaref03_Normal.l0.eq_2 ..) ?_
      simp only [if_pos (getLt hil), if_pos (show (0 : Int) ≤ (i : Int) by omega), rd_nat hil]
      refine Ev.bind (refdec _ hx) ?_
      have := l1Ev (x0 := l) (i := i) (x6 := decU l[i]) (R := nrm l) (flat (l.take i)) (by omega) (by omega) (fun f hf => by rw [w64 (i := i) (by omega)]; exact ih f hf) (decU l[i]).length 0 (by omega) f (by rw [List.take_zero, List.append_nil]; exact hs)
      rw [List.take_zero, List.append_nil] at this
      exact this
  exact key l.length 0 (by omega) 0 ⟨Nat.zero_le _, List.Pairwise.nil, .inl rfl⟩
end Go.Proofs.YtiggjbclbdikmaaDoor.Ob
namespace Go.Proofs.YtiggjbclbdikmaaDoor.X
open Go.RowKit Go.Proofs.YtiggjbclbdikmaaDoorW.PrintWords Go.Proofs.YtiggjbclbdikmaaDoorW.PrintLast Go.Proofs.YtiggjbclbdikmaaDoorW.PrintMore
attribute [local go_sem] max2_int min2_int max_two min_two max_three min_three max_four min_four   
set_option linter.unusedVariables false
set_option linter.unusedSimpArgs false
def tremaref03_Sure.l0 : Nat → List Int → Int → Int → Option (Int)
 | 0, _, _, _ => none
 | k + 1, x0, x3, x4 => if x4 < (x0.length : Int) then (if 0 ≤ x4 then ((tremaref02_Class.f k (rd x0 x4)).bind fun t345 => (if t345 = 0 then (tremaref03_Sure.l0 k x0 (wrap64 (x4 + 1)) (wrap64 (x4 + 1))) else (tremaref03_Sure.l0 k x0 x3 (wrap64 (x4 + 1))))) else (none)) else (some x3)
def tremaref03_Sure.f (k : Nat) (l0 : List Int) : Option (Int) := tremaref03_Sure.l0 k l0 0 0
theorem tremaref03_Sure.mono_l : ∀ k, (∀ y0 y1 y2, LeO (tremaref03_Sure.l0 k y0 y1 y2) (tremaref03_Sure.l0 (k + 1) y0 y1 y2))
 | 0 => fun _ _ _ r h => by simp [tremaref03_Sure.l0] at h
 | k + 1 => by
  have ih0 := tremaref03_Sure.mono_l k
  ·intro y0 y1 y2
   unfold tremaref03_Sure.l0
   repeat' first
   | (with_reducible exact ih0 _ _ _)
   | (with_reducible exact tremaref02_Class.mono _ _)
   | (with_reducible exact LeO.refl _)
   | (with_reducible exact LeO.none _)
   | (with_reducible refine LeO.ite ?_ ?_)
   | (with_reducible refine LeO.bind ?_ (fun _ => ?_))
   | exact ih0 _ _ _
   | exact tremaref02_Class.mono _ _
   | exact LeO.none _
   | refine LeO.ite ?_ ?_
   | refine LeO.bind ?_ (fun _ => ?_)
theorem tremaref03_Sure.mono : ∀ a0 k, LeO (tremaref03_Sure.f k a0) (tremaref03_Sure.f (k + 1) a0) := by
 intro a0 k
 have ih0 := tremaref03_Sure.mono_l k
 unfold tremaref03_Sure.f
 repeat' first
   | (with_reducible exact ih0 _ _ _)
   | (with_reducible exact tremaref02_Class.mono _ _)
   | (with_reducible exact LeO.refl _)
   | (with_reducible exact LeO.none _)
   | (with_reducible refine LeO.ite ?_ ?_)
   | (with_reducible refine LeO.bind ?_ (fun _ => ?_))
   | exact ih0 _ _ _
   | exact tremaref02_Class.mono _ _
   | exact LeO.none _
   | refine LeO.ite ?_ ?_
   | refine LeO.bind ?_ (fun _ => ?_)
set_option maxHeartbeats 8000000 in
set_option maxRecDepth 100000 in
theorem tremaref03_Sure.calls (k : Nat) (A0 : Option Addr) (c0 : Nat) (l0 : List Int) (r : Int) (w : World) (hr0 : Kd.C (Kd.int .i32) w A0 l0.length l0) (hc0 : l0.length ≤ c0) (h : tremaref03_Sure.f k l0 = some r) :
  Calls Tryd.prog 32 #[.slice A0 l0.length c0] w fun e w' => e = .returned (.int .i64 r) ∧ Drawn0 w w' := by
 have HR0 := Aside0.mk hr0
 have HC0 := Aside0.mk hc0
 clear hr0 hc0
 have H : (tremaref03_Sure.l0 k l0 0 0) = some r := h
 clear h
 have H' := Aside0.mk H
 clear H
 go_enter Tryd.func32, Tryd.ntmps32
 go_wp2
 go_loopg [3, 4] k (fun kq v3 v4 w' => ∃ (x3_1 : Int) (x4_1 : Int), v3 = .int .i64 x3_1 ∧ v4 = .int .i64 x4_1 ∧ Aside0 (tremaref03_Sure.l0 kq l0 x3_1 x4_1 = some r) ∧ Aside0 (kq ≤ k) ∧ Drawn0 w w')
 case atStart => exact ⟨(0), (0), (by first | rfl | (simp; done) | (simp [*]; done)), (by first | rfl | (simp; done) | (simp [*]; done)), H', ⟨Nat.le_refl _⟩, by repeat (first | exact Drawn0.refl _ | apply Drawn0.step)⟩
 case round =>
  clear H'
  obtain ⟨x3_1, x4_1, rfl, rfl, HA, HK1, ⟨m1, rfl⟩⟩ := hrel
  cases gk with
  | zero => exact absurd HA.out (by simp [tremaref03_Sure.l0])
  | succ k1 =>
   have H := HA.out
   clear HA
   simp only [tremaref03_Sure.l0] at H
   by_cases c2 : x4_1 < (l0.length : Int)
   ·rw [if_pos c2] at H
    have c2b0 : decide (x4_1 < (l0.length : Int)) = true := decide_eq_true c2
    clear c2
    by_cases c3 : 0 ≤ x4_1
    ·rw [if_pos c3] at H
     have c3b0 : decide (0 ≤ x4_1) = true := decide_eq_true c3
     clear c3
     replace H := Option.bind_eq_some_iff.mp H
     obtain ⟨t345, A40, H⟩ := H
     replace H : (if t345 = 0 then (tremaref03_Sure.l0 k1 l0 (wrap64 (x4_1 + 1)) (wrap64 (x4_1 + 1))) else (tremaref03_Sure.l0 k1 l0 x3_1 (wrap64 (x4_1 + 1)))) = some r := H
     have A4 := Aside0.mk A40
     clear A40
     by_cases c5 : t345 = 0
     ·rw [if_pos c5] at H
      have c5b0 : (t345 == 0) = true := beq_iff_eq.mpr c5
      have c5b1 : (t345 != 0) = false := bne_eq_false_iff_eq.mpr c5
      clear c5
      have H' := Aside0.mk H
      clear H
      have p344 : 0 ≤ (x4_1 : Int) := of_decide_eq_true (by first | (with_reducible assumption) | assumption)
      have q344 : x4_1 < (l0.length : Int) := of_decide_eq_true (by first | (with_reducible assumption) | assumption)
      obtain ⟨ad344, e344, hx344_0⟩ := Kd.at_int HR0.out x4_1 p344 q344
      cases e344
      replace p344 := eq_true p344
      replace q344 := eq_true q344
      go_wp2_with (first | ((with_reducible refine gate_callee (f := 29) rfl ?_); refine goesL_ (some 15) rfl rfl Tryd.func29 (by kernel_rfl) rfl #[.int .i32 (rd l0 x4_1)] rfl (by (try simp only [List.map_toArray, List.map_cons, List.map_nil]); first | done | rfl | (simp only [List.length_drop, List.length_take]; rfl)) ?_; (with_reducible refine (tremaref02_Class.calls k1 (rd l0 x4_1) t345 _ A4.out).mono ?_); rintro e w' ⟨rfl, ⟨nd, rfl⟩⟩; refine ⟨_, rfl, ?_⟩))
      go_roundg k1
      case measure => have := HK1.out; omega
      case rel => exact ⟨(wrap64 (x4_1 + 1)), (wrap64 (x4_1 + 1)), (by first | rfl | (simp; done) | (simp [*]; done)), (by first | rfl | (simp; done) | (simp [*]; done)), H', ⟨by have := HK1.out; omega⟩, by repeat (first | exact Drawn0.refl _ | apply Drawn0.step)⟩
     ·rw [if_neg c5] at H
      have c5b0 : (t345 == 0) = false := beq_eq_false_iff_ne.mpr c5
      have c5b1 : (t345 != 0) = true := bne_iff_ne.mpr c5
      have H' := Aside0.mk H
      clear H
      have p344 : 0 ≤ (x4_1 : Int) := of_decide_eq_true (by first | (with_reducible assumption) | assumption)
      have q344 : x4_1 < (l0.length : Int) := of_decide_eq_true (by first | (with_reducible assumption) | assumption)
      obtain ⟨ad344, e344, hx344_0⟩ := Kd.at_int HR0.out x4_1 p344 q344
      cases e344
      replace p344 := eq_true p344
      replace q344 := eq_true q344
      go_wp2_with (first | ((with_reducible refine gate_callee (f := 29) rfl ?_); refine goesL_ (some 15) rfl rfl Tryd.func29 (by kernel_rfl) rfl #[.int .i32 (rd l0 x4_1)] rfl (by (try simp only [List.map_toArray, List.map_cons, List.map_nil]); first | done | rfl | (simp only [List.length_drop, List.length_take]; rfl)) ?_; (with_reducible refine (tremaref02_Class.calls k1 (rd l0 x4_1) t345 _ A4.out).mono ?_); rintro e w' ⟨rfl, ⟨nd, rfl⟩⟩; refine ⟨_, rfl, ?_⟩))
      go_roundg k1
      case measure => have := HK1.out; omega
      case rel => exact ⟨(x3_1), (wrap64 (x4_1 + 1)), (by first | rfl | (simp; done) | (simp [*]; done)), (by first | rfl | (simp; done) | (simp [*]; done)), H', ⟨by have := HK1.out; omega⟩, by repeat (first | exact Drawn0.refl _ | apply Drawn0.step)⟩
    ·rw [if_neg c3] at H
     exact absurd H (by simp)
   ·rw [if_neg c2] at H
    have c2b0 : decide (x4_1 < (l0.length : Int)) = false := decide_eq_false c2
    clear c2
    obtain rfl := Option.some.inj H
    go_wp2
    go_ret
    exact ⟨by first | rfl | (simp; done) | (simp [*]; done), by repeat (first | exact Drawn0.refl _ | apply Drawn0.step)⟩
end Go.Proofs.YtiggjbclbdikmaaDoor.X
namespace Go.Proofs.YtiggjbclbdikmaaDoor.Cn
set_option linter.unusedVariables false
set_option linter.unusedSimpArgs false
open Go.Proofs.YtiggjbclbdikmaaDoor.Vd (decU)
open Go.Proofs.YtiggjbclbdikmaaDoor.Fr (sure sure_of sure_spec K3 T3)
open Go.RowKit Go.Proofs.YtiggjbclbdikmaaDoorW.PrintWords Go.Proofs.YtiggjbclbdikmaaDoor.Ev0 Go.Proofs.YtiggjbclbdikmaaDoor.X Go.Proofs.YtiggjbclbdikmaaDoor.Va Go.Proofs.YtiggjbclbdikmaaDoor.Vp0 Go.Proofs.YtiggjbclbdikmaaDoor.Vr Go.Proofs.YtiggjbclbdikmaaDoor.Vu Go.Proofs.YtiggjbclbdikmaaDoor.Na Go.Proofs.YtiggjbclbdikmaaDoor.Oa Go.Proofs.YtiggjbclbdikmaaDoor.Ob
def ok32 (l : List Int) : Bool := l.all fun x => decide (-2147483648 ≤ x) && decide (x ≤ 2147483647)
theorem ok32_of {l : List Int} (h : ok32 l = true) : ∀ x ∈ l, I32 x := fun x hx => by
  have := List.all_eq_true.1 h x hx
  simp only [Bool.and_eq_true, decide_eq_true_eq] at this
  exact this
theorem ok32_mk {l : List Int} (h : ∀ x ∈ l, I32 x) : ok32 l = true := List.all_eq_true.2 fun x hx => by
  have := h x hx
  simp only [Bool.and_eq_true, decide_eq_true_eq]
  exact this
theorem NormR (w : World) (hG : G w) (A : Option Addr) (n c : Nat) (l : List Int) (hC : K3.C w A n l) (hn : n = l.length) (hc : n ≤ c) (hwf : ∀ x ∈ l, I32 x) (hl : n ≤ 100000000) :
    Calls Tryd.prog 22 #[.slice A n c] w fun e w' => ∃ v, e = .returned v ∧ K3.R T3 w' w.heap.size (fun _ => True) v (nrm l) ∧ Below w.heap.size w w' := by
  subst hn
  obtain ⟨k, hk⟩ := Ev.rounds (normEv l hwf hl)
  exact norm_Normal.calls k A c l _ w hC hc hk hG
theorem RNormR (w : World) (A : Option Addr) (n c : Nat) (l : List Int) (hC : K3.C w A n l) (hn : n = l.length) (hc : n ≤ c) (hwf : ∀ x ∈ l, I32 x) (hl : n ≤ 100000000) :
    Calls Tryd.prog 20 #[.slice A n c] w fun e w' => ∃ v, e = .returned v ∧ K3.R T3 w' w.heap.size (fun _ => True) v (nrm l) ∧ Below w.heap.size w w' := by
  subst hn
  obtain ⟨k, hk⟩ := Ev.rounds (refNEv l hwf hl)
  exact tremaref03_Normal.calls k A c l _ w hC hc hk
theorem SameR (w : World) (A B : Option Addr) (n c m d : Nat) (l k : List Int) (hC : K3.C w A n l) (hn : n = l.length) (hc : n ≤ c) (hD : K3.C w B m k) (hm : m = k.length) (hd : m ≤ d) (hl : n ≤ 1000000000) (b : Bool) (hb : decide (l = k) = b) :
    Calls Tryd.prog 21 #[.slice A n c, .slice B m d] w fun e w' => e = .returned (.bool b) ∧ Below w.heap.size w w' := by
  subst hn hm hb
  obtain ⟨q, hq⟩ := Ev.rounds (sameEv l k hl)
  exact (tremaref01_SameRunes.calls q A c l B d k _ w hC hc hD hd hq).mono fun e w' ⟨h1, h2⟩ => ⟨h1, h2.below⟩
theorem sure_take (l : List Int) (i : Nat) (hi : i < l.length) : sure (l.take (i + 1)) = if cls l[i] = 0 then i + 1 else sure (l.take i) := by
  unfold sure
  rw [List.take_succ_eq_append_getElem hi, List.reverse_append, List.reverse_singleton, List.singleton_append]
  by_cases h : cls l[i] = 0
  · rw [if_pos h, List.dropWhile_cons_of_neg (by simp [h]), List.length_cons, List.length_reverse, List.length_take]
    omega
  · rw [if_neg h, List.dropWhile_cons_of_pos (by simpa using h)]
theorem sureEv (l : List Int) (hl : l.length ≤ 1000000000) : Ev (fun k => tremaref03_Sure.f k l) (sure l : Int) := by
  unfold tremaref03_Sure.f
  have key : ∀ q i : Nat, i + q = l.length → Ev (fun k => tremaref03_Sure.l0 k l (sure (l.take i) : Int) (i : Int)) (sure l : Int) := by
    intro q
    induction q with
    | zero =>
      intro i hi
      obtain rfl : i = l.length := hi
      refine Ev.step (fun k => tremaref03_Sure.l0.eq_2 ..) ?_
      simp only [if_neg (Int.lt_irrefl _), List.take_length]
      exact Ev.now _
    | succ q ih =>
      intro i hi
      have hil : i < l.length := by omega
      have ih := ih (i + 1) (by omega)
      rw [sure_take l i hil] at ih
      refine Ev.step (fun k => tremaref03_Sure.l0.eq_2 ..) ?_
      simp only [if_pos (getLt hil), if_pos (show (0 : Int) ≤ (i : Int) by omega), rd_nat hil, w64 (i := i) (by omega)]
      refine Ev.bind (clsEv _) ?_
      by_cases hc : cls l[i] = 0
      · simp only [if_pos hc]
        rw [if_pos hc] at ih
        exact ih
      · simp only [if_neg hc]
        rw [if_neg hc] at ih
        exact ih
  have := key l.length 0 (by omega)
  rw [show sure (l.take 0) = 0 from rfl] at this
  exact this
theorem SureR (w : World) (A : Option Addr) (n c : Nat) (l : List Int) (hC : K3.C w A n l) (hn : n = l.length) (hc : n ≤ c) (hl : n ≤ 1000000000) :
    Calls Tryd.prog 32 #[.slice A n c] w fun e w' => e = .returned (.int .i64 (sure l : Int)) ∧ Below w.heap.size w w' := by
  subst hn
  obtain ⟨k, hk⟩ := Ev.rounds (sureEv l hl)
  exact (tremaref03_Sure.calls k A c l _ w hC hc hk).mono fun e w' ⟨h1, h2⟩ => ⟨h1, h2.below⟩
end Go.Proofs.YtiggjbclbdikmaaDoor.Cn
namespace Go.Proofs.YtiggjbclbdikmaaDoor.Dn
set_option linter.unusedVariables false
set_option linter.unusedSimpArgs false
open Go.Proofs.YtiggjbclbdikmaaDoor.Vd (decU)
open Go.Proofs.YtiggjbclbdikmaaDoor.Fr
open Go.RowKit Go.Proofs.YtiggjbclbdikmaaDoorW.PrintWords Go.Proofs.YtiggjbclbdikmaaDoor.Hp Go.Proofs.YtiggjbclbdikmaaDoor.Fm Go.Proofs.YtiggjbclbdikmaaDoor.X Go.Proofs.YtiggjbclbdikmaaDoor.Va Go.Proofs.YtiggjbclbdikmaaDoor.Na Go.Proofs.YtiggjbclbdikmaaDoor.Oa Go.Proofs.YtiggjbclbdikmaaDoor.Vp0 Go.Proofs.YtiggjbclbdikmaaDoor.Vr Go.Proofs.YtiggjbclbdikmaaDoor.Vu Go.Proofs.YtiggjbclbdikmaaDoor.Nb Go.Proofs.YtiggjbclbdikmaaDoor.Ng
theorem IsForm.bound {g base : Nat} {kept : List Int} {closed : Bool} {ok : Nat → Prop} {w : World} (h : IsForm g base kept closed ok w) : IsForm g base kept closed (fun k => ok k ∧ k < w.heap.size) w := by
  obtain ⟨kv, h1, h2, h3, h4⟩ := h
  exact ⟨kv, h1, h2, ⟨h3, blk_lt h1⟩, Kd.R_mono (Kd.R_bound h4) (fun b hb => ⟨⟨hb.1.1, hb.2.2.1⟩, hb.1.2⟩)⟩
theorem IsForm.lower {g base base' : Nat} {kept : List Int} {closed : Bool} {ok : Nat → Prop} {w : World} (h : IsForm g base kept closed ok w) (hb : base' ≤ base) : IsForm g base' kept closed ok w := by
  obtain ⟨kv, h1, h2, h3, h4⟩ := h
  exact ⟨kv, h1, Nat.le_trans hb h2, h3, Kd.R_lower h4 hb⟩
def formT (g base : Nat) (kept : List Int) (closed : Bool) : Th :=
  ⟨fun ok w => IsForm g base kept closed ok w, fun h hm => h.step hm, fun h => IsForm.bound h⟩
section
variable {w0 w w' : World} {L : List Th}
theorem NewS (h : Sep w0 L w) : Calls Tryd.prog 30 #[] w fun e w' => ∃ g, e = .returned (.pointer (some ⟨g, 0, none⟩)) ∧ Sep w0 (L ++ [formT g w0.heap.size [] false]) w' := by
  refine (NewF w).mono ?_
  rintro e w' ⟨g, rfl, hg, hd, hb⟩
  exact ⟨g, rfl, h.new (formT g w0.heap.size [] false) (ok := fun b => b = g) (IsForm.lower hd h.below.size) (fun b hb => by rw [hb]; exact hg) hb⟩
theorem WriteS (hG : G w0) (h : Sep w0 L w) (i : Nat) {g : Nat} {kept : List Int} (hi : L[i]? = some (formT g w0.heap.size kept false)) (A : Option Addr) (n c : Nat) (l : List Int) (hC : K3.C w A n l) (hnc : n ≤ c) (hwf : ∀ x ∈ l, I32 x)
    (hsz : (kept ++ flat l).length ≤ 1000000000000) (N : Nat) (told rest : List Int) (hN : N = sure (kept ++ flat l)) (ht : told = ordL ((kept ++ flat l).take N)) (hr : rest = (kept ++ flat l).drop N) :
    Calls Tryd.prog 31 #[.pointer (some ⟨g, 0, none⟩), .slice A n c] w fun e w' => ∃ A', e = .returned (.slice A' N N) ∧ K3.C w' A' N told ∧ Sep w0 (L.set i (formT g w0.heap.size rest false)) w' := by
  subst hN ht hr
  obtain ⟨ok, h1, h2, h3⟩ := h.op i _ hi
  have h1' : IsForm g w0.heap.size kept false ok w := h1
  refine (Write w (hG.below h.below) g w0.heap.size kept ok h1' (G_size hG) A n c l hC hnc hwf hsz).mono ?_
  rintro e w' ⟨A', rfl, q1, q2, q3, q4⟩
  have hle := (sure_spec (kept ++ flat l)).1
  have hlt : (ordL ((kept ++ flat l).take (sure (kept ++ flat l)))).length = sure (kept ++ flat l) := by rw [ordL_len, List.length_take]; omega
  have hc := q1.C (by show (ordL ((kept ++ flat l).take (sure (kept ++ flat l)))).length ≤ _; rw [hlt]; omega)
  refine ⟨A', rfl, ?_, h3 w' (formT g w0.heap.size _ false) (fun b => b = g ∨ (w.heap.size ≤ b ∧ ∀ ad, A' = some ad → b ≠ ad.block)) (show IsForm g w0.heap.size ((kept ++ flat l).drop (sure (kept ++ flat l))) false _ w' from q3) (fun b hb => ?_) (q4.mono (fun k _ hk => by rw [hk]; exact h1'.lt.2.2))⟩
  · have : (ordL ((kept ++ List.flatMap decU l).take (sure (kept ++ List.flatMap decU l)))).length = sure (kept ++ flat l) := hlt
    rw [this] at hc
    exact hc
  · rcases hb with rfl | hb
    · exact .inl h1'.lt.2.2
    · exact .inr hb.1
theorem CloseS (hG : G w0) (h : Sep w0 L w) (i : Nat) {g : Nat} {kept : List Int} (hi : L[i]? = some (formT g w0.heap.size kept false)) (hk : kept.length ≤ 1000000000000000) (N : Nat) (told : List Int) (hN : N = kept.length) (ht : told = ordL kept) :
    Calls Tryd.prog 34 #[.pointer (some ⟨g, 0, none⟩)] w fun e w' => ∃ A' c', e = .returned (.slice A' N c') ∧ N ≤ c' ∧ K3.C w' A' N told ∧ Sep w0 (L.set i (formT g w0.heap.size [] true)) w' := by
  subst hN ht
  obtain ⟨ok, h1, h2, h3⟩ := h.op i _ hi
  have h1' : IsForm g w0.heap.size kept false ok w := h1
  refine (Close w (hG.below h.below) g w0.heap.size kept ok h1' (G_size hG) hk).mono ?_
  rintro e w' ⟨A', c', rfl, q0, q1, q2, q3, q4⟩
  have hc := q1.C (by rw [ordL_len]; omega)
  rw [ordL_len] at hc
  exact ⟨A', c', rfl, q0, hc, h3 w' (formT g w0.heap.size [] true) (fun b => b = g) q3 (fun b hb => .inl (by rw [hb]; exact h1'.lt.2.2)) q4⟩
theorem PendS (h : Sep w0 L w) (i : Nat) {g : Nat} {kept : List Int} {cl : Bool} (hi : L[i]? = some (formT g w0.heap.size kept cl)) (N : Nat) (hN : N = kept.length) :
    Calls Tryd.prog 33 #[.pointer (some ⟨g, 0, none⟩)] w fun e w' => e = .returned (.int .i64 N) ∧ w = w' := by
  subst hN
  obtain ⟨ok, h1⟩ := h.one i _ hi
  exact PendF w g w0.heap.size kept cl ok h1
theorem CloseClosedS (h : Sep w0 L w) (i : Nat) {g : Nat} {kept : List Int} (hi : L[i]? = some (formT g w0.heap.size kept true)) :
    Calls Tryd.prog 34 #[.pointer (some ⟨g, 0, none⟩)] w fun e w' => e = .returned (.slice none 0 0) ∧ w = w' := by
  obtain ⟨ok, h1⟩ := h.one i _ hi
  exact CloseClosed w g w0.heap.size kept ok h1
theorem WriteClosedS (h : Sep w0 L w) (i : Nat) {g : Nat} {kept : List Int} (hi : L[i]? = some (formT g w0.heap.size kept true)) (A : Option Addr) (n c : Nat) :
    Calls Tryd.prog 31 #[.pointer (some ⟨g, 0, none⟩), .slice A n c] w fun e w' => e = .returned (.slice none 0 0) ∧ w = w' := by
  obtain ⟨ok, h1⟩ := h.one i _ hi
  exact WriteClosed w g w0.heap.size kept ok A n c h1
end
def tl (F : List Int) : List Int := ordL (F.take (sure F))
def kp (F : List Int) : List Int := F.drop (sure F)
theorem ordL_two (a b : List Int) (h : a = [] ∨ ∃ P z, a = P ++ [z] ∧ cls z = 0) : ordL (a ++ b) = ordL a ++ ordL b := by
  have key : ordR (a ++ b) = ordR b ++ ordR a := by
    rcases h with rfl | ⟨P, z, rfl, hz⟩
    · rw [List.nil_append, show ordR [] = [] from rfl, List.append_nil]
    · have e : ordR (P ++ [z]) = z :: ordR P := by rw [ordR_snoc, ins_zero hz]
      have := fold_append (s := ordR (P ++ [z])) (.inr ⟨z, ordR P, e, hz⟩) b []
      rw [List.nil_append] at this
      show List.foldl _ [] (P ++ [z] ++ b) = _
      rw [List.foldl_append]
      exact this
  unfold ordL
  rw [key, List.reverse_append]
theorem sure_cut (F : List Int) : F.take (sure F) = [] ∨ ∃ P z, F.take (sure F) = P ++ [z] ∧ cls z = 0 := by
  rcases (sure_spec F).2.2 with h | h
  · exact .inl (by rw [h, List.take_zero])
  · exact .inr h
theorem tl_kp (F : List Int) : tl F ++ ordL (kp F) = ordL F := by
  unfold tl kp
  rw [← ordL_two _ _ (sure_cut F), List.take_append_drop]
theorem app_cut (F Q : List Int) : F ++ Q = F.take (sure F) ++ (kp F ++ Q) := by
  unfold kp
  rw [← List.append_assoc, List.take_append_drop]
theorem take_len (F : List Int) : (F.take (sure F)).length = sure F := by
  rw [List.length_take]
  have := (sure_spec F).1
  omega
theorem take_more (F Q : List Int) (k : Nat) : (F ++ Q).take (sure F + k) = F.take (sure F) ++ (kp F ++ Q).take k := by
  have h := take_len F
  rw [app_cut, List.take_append, h, List.take_of_length_le (by rw [h]; omega), show sure F + k - sure F = k by omega]
theorem drop_more (F Q : List Int) (k : Nat) : (F ++ Q).drop (sure F + k) = (kp F ++ Q).drop k := by
  have h := take_len F
  rw [app_cut, List.drop_append, h, List.drop_eq_nil_of_le (by rw [h]; omega), show sure F + k - sure F = k by omega, List.nil_append]
theorem sure_app (F Q : List Int) : sure (F ++ Q) = sure F + sure (kp F ++ Q) := by
  obtain ⟨h1, h2, h3⟩ := sure_spec (kp F ++ Q)
  refine sure_of ?_ ?_ ?_
  · have e := congrArg List.length (app_cut F Q)
    rw [show (F.take (sure F) ++ (kp F ++ Q)).length = (F.take (sure F)).length + (kp F ++ Q).length from List.length_append, take_len] at e
    omega
  · rw [drop_more]; exact h2
  · rw [take_more]
    rcases h3 with h3 | ⟨P, z, h3, hz⟩
    · rw [h3, List.take_zero, List.append_nil, Nat.add_zero]
      exact (sure_spec F).2.2
    · exact .inr ⟨F.take (sure F) ++ P, z, by rw [h3, List.append_assoc], hz⟩
theorem tl_app (F Q : List Int) : tl (F ++ Q) = tl F ++ ordL ((kp F ++ Q).take (sure (kp F ++ Q))) := by
  unfold tl
  rw [sure_app, take_more, ordL_two _ _ (sure_cut F)]
theorem kp_app (F Q : List Int) : kp (F ++ Q) = (kp F ++ Q).drop (sure (kp F ++ Q)) := by
  show (F ++ Q).drop (sure (F ++ Q)) = _
  rw [sure_app, drop_more]
theorem tl_len (F : List Int) : (tl F).length = sure F := by unfold tl; rw [ordL_len, take_len]
theorem take_ord (F : List Int) : (ordL F).take (sure F) = tl F := by
  rw [← tl_kp F, List.take_left' (tl_len F)]
theorem drop_ord (F : List Int) : (ordL F).drop (sure F) = ordL (kp F) := by
  conv => lhs; arg 2; rw [← tl_kp F]
  rw [List.drop_left' (tl_len F)]
theorem sure_ord (F : List Int) : sure (ordL F) = sure F := by
  refine sure_of ?_ ?_ ?_
  · rw [ordL_len]; exact (sure_spec F).1
  · rw [drop_ord]
    intro x hx
    exact (sure_spec F).2.1 x ((ordL_mem _ _).1 hx)
  · rcases (sure_spec F).2.2 with h | ⟨P, z, h, hz⟩
    · exact .inl h
    · refine .inr ⟨ordL P, z, ?_, hz⟩
      rw [take_ord]
      unfold tl
      rw [h]
      show (ordR (P ++ [z])).reverse = _
      rw [ordR_snoc, ins_zero hz, List.reverse_cons]
      rfl
theorem kp_len (F : List Int) : (kp F).length = F.length - sure F := List.length_drop
end Go.Proofs.YtiggjbclbdikmaaDoor.Dn
namespace Go.Proofs.YtiggjbclbdikmaaDoor.Od
set_option linter.unusedVariables false
set_option linter.unusedSimpArgs false
open Go.RowKit Go.Proofs.YtiggjbclbdikmaaDoorW.PrintWords Go.Proofs.YtiggjbclbdikmaaDoor.Hp Go.ChangeShapes Go.WideShapes
def Opens {α : Type} (P : Program) (t : TypeId) (d : Kd α) (wf : α → Prop) (bulk : α → Nat) : Prop :=
  ∀ (H : Type) (enc : TypeId × Value → H) (w : World) (base : Nat) (spare : Nat → Bool) (held : Bool) (fuel : Nat) (cs : List Value) (x : DataW H × List MemPlace),
    DataW.trod enc P w base spare held fuel t cs = some x → ∃ a, d.K w a cs ∧ wf a ∧ bulk a ≤ Rows.uptoBulk x.1
def sumB {α : Type} (bulk : α → Nat) : List α → Nat
  | [] => 0
  | a :: l => bulk a + sumB bulk l
theorem sumB_len {α : Type} {bulk : α → Nat} (h1 : ∀ a, 1 ≤ bulk a) (l : List α) : l.length ≤ sumB bulk l := by
  induction l with
  | nil => simp [sumB]
  | cons x l ih => simp only [sumB, List.length_cons]; have := h1 x; omega
theorem bulkAll_append {H : Type} (l r : List (DataW H)) : Rows.uptoBulkAll (l ++ r) = Rows.uptoBulkAll l + Rows.uptoBulkAll r := by
  induction l with
  | nil => simp [Rows.uptoBulkAll]
  | cons x l ih => simp only [List.cons_append, Rows.uptoBulkAll, ih]; omega
section
variable {P : Program}
theorem opens_int {t : TypeId} {k : IntKind} (ht : P.underlying t = some (.int k)) : Opens P t (Kd.int k) (fun n => (Lit.int k n).wf = true) (fun _ => 1) := by
  intro H enc w base spare held fuel cs x h
  obtain ⟨n, rfl, rfl, hw⟩ := DataW.trod_int ht h
  exact ⟨n, rfl, hw, by simp [Rows.uptoBulk]⟩
theorem slice_list {α : Type} {d : Kd α} {wf : α → Prop} {bulk : α → Nat} {e : TypeId} {H : Type} {enc : TypeId × Value → H} {w : World} {base : Nat} {spare : Nat → Bool} {held : Bool} (ho : Opens P e d wf bulk) (hC : P.cellsOf e = d.sz) {a : Addr} {m n : Nat} {D : Nat → DataW H} {Pl : Nat → List MemPlace}
    (hx : ∀ i, i < m → ∃ cs', w.cells? base (a.add (i * P.cellsOf e)) (P.cellsOf e) = some cs' ∧ DataW.trod enc P w base spare held n e cs' = some (D i, Pl i)) (len : Nat) (hl : len ≤ m) (hM : len ≤ 9223372036854775807) :
    ∃ xs : List α, xs.length = len ∧ d.C w (some a) len xs ∧ (∀ x, x ∈ xs → wf x) ∧ sumB bulk xs ≤ Rows.uptoBulkAll ((List.range len).map D) := by
  have key : ∀ k, k ≤ len → ∃ xs : List α, xs.length = k ∧ (∀ j p, xs[j]? = some p → ∃ c, c.length = d.sz ∧ d.K w p c ∧ ∀ i u, c[i]? = some u → w.cell? (a.add (j * d.sz + i)) = some u) ∧ (∀ x, x ∈ xs → wf x) ∧ sumB bulk xs ≤ Rows.uptoBulkAll ((List.range k).map D) := by
    intro k
    induction k with
    | zero => exact fun _ => ⟨[], rfl, by simp, by simp, by simp [sumB]⟩
    | succ k ih =>
      intro hk
      obtain ⟨xs, h1, h2, h3, h4⟩ := ih (by omega)
      obtain ⟨cs', hc, ht⟩ := hx k (by omega)
      obtain ⟨p, hK, hw, hb⟩ := ho H enc w base spare held n cs' _ ht
      obtain ⟨_, hcl, hcell⟩ := World.cells?_some hc
      refine ⟨xs ++ [p], by simp [h1], ?_, ?_, ?_⟩
      · intro j q hq
        rw [List.getElem?_append] at hq
        split at hq
        · exact h2 j q hq
        · rename_i hge
          rcases Nat.lt_or_ge (j - xs.length) 1 with h5 | h5
          · have hj : j = k := by omega
            subst hj
            rw [h1, Nat.sub_self] at hq
            simp at hq
            subst hq
            refine ⟨cs', by rw [hcl, hC], hK, fun i u hu => ?_⟩
            have hi : i < P.cellsOf e := by rw [← hcl]; exact (List.getElem?_eq_some_iff.1 hu).1
            have := hcell i hi
            rw [Go.Deep.add_add, hC] at this
            rw [this, hu]
          · rw [List.getElem?_eq_none (by simpa using h5)] at hq; cases hq
      · intro x hx
        rcases List.mem_append.1 hx with hx | hx
        · exact h3 x hx
        · rw [List.mem_singleton.1 hx]; exact hw
      · have e2 : sumB bulk (xs ++ [p]) = sumB bulk xs + bulk p := by
          clear h1 h2 h3 h4
          induction xs with
          | nil => simp [sumB]
          | cons y ys ih2 => simp only [List.cons_append, sumB, ih2]; omega
        rw [e2, List.range_succ, List.map_append, bulkAll_append]
        simp only [List.map_cons, List.map_nil, Rows.uptoBulkAll]
        have hb2 : bulk p ≤ Rows.uptoBulk (D k) := hb
        omega
  obtain ⟨xs, h1, h2, h3, h4⟩ := key len (Nat.le_refl _)
  exact ⟨xs, h1, ⟨h1, hM, fun _ => ⟨a, rfl, h2⟩⟩, h3, h4⟩
theorem opens_slice {α : Type} {d : Kd α} {wf : α → Prop} {bulk : α → Nat} {t e : TypeId} (ht : P.underlying t = some (.slice e)) (hC : P.cellsOf e = d.sz) (ho : Opens P e d wf bulk) :
    Opens P t (Kd.slice e d) (fun xs => ∀ x, x ∈ xs → wf x) (fun xs => sumB bulk xs + 1) := by
  intro H enc w base spare held fuel cs x h
  rcases Go.Deep.open_slice ht h with ⟨rfl, rfl⟩ | ⟨a, len, cap, m, n, D, Pl, rfl, hb, hl, hm, hmm, rfl, hx⟩
  · exact ⟨[], ⟨none, 0, rfl, Nat.le_refl _, Kd.C_nil d w⟩, by simp, by simp [sumB, Rows.uptoBulk]⟩
  · obtain ⟨xs, h1, h2, h3, h4⟩ := slice_list ho hC hx len (by rw [hmm]; split <;> omega) (by simp only [maxLen] at hm; omega)
    subst h1
    refine ⟨xs, ⟨some a, cap, rfl, hl, h2⟩, h3, ?_⟩
    simp only [Rows.uptoBulk]
    omega
theorem arg_slice {α : Type} {d : Kd α} {wf : α → Prop} {bulk : α → Nat} {t e : TypeId} (ht : P.underlying t = some (.slice e)) (hC : P.cellsOf e = d.sz) (ho : Opens P e d wf bulk)
    {H : Type} {enc : TypeId × Value → H} {w : World} {base : Nat} {spare : Nat → Bool} {held : Bool} {v : Value} {data : DataW H} {ps : List MemPlace} {r : Reach} {b0 : Nat} (hv : Value.okWide P w r b0 t v) (h : DataW.Trod enc P w base spare held t v data ps) :
    ∃ A xs c, v = .slice A xs.length c ∧ xs.length ≤ c ∧ d.C w A xs.length xs ∧ (∀ x, x ∈ xs → wf x) ∧ sumB bulk xs + 1 ≤ Rows.uptoBulk data ∧
      (∀ (ts : List TypeId) (ds : List (DataW H)) (j B : Nat), (DataW.weightsEach P ts ds).all (· ≤ reachBytes) = true → ts[j]? = some t → ds[j]? = some data → P.bytesOf e = B → xs.length * B ≤ 140737488351232) := by
  obtain ⟨a0, len0, cap0, rfl⟩ := okWide_slice ht hv
  obtain ⟨fuel, hf⟩ := h
  rcases Go.Deep.open_slice ht hf with ⟨hcs, hx⟩ | ⟨a, len, cap, m, n, D, Pl, hcs, hb, hl, hm, hmm, hx, hi⟩
  · simp [Value.cells] at hcs
    obtain ⟨rfl, rfl, rfl⟩ := hcs
    obtain ⟨rfl, rfl⟩ := Prod.mk.inj hx
    exact ⟨none, [], 0, rfl, Nat.le_refl _, Kd.C_nil d w, by simp, by simp [sumB, Rows.uptoBulk], by simp⟩
  · simp [Value.cells] at hcs
    obtain ⟨rfl, rfl, rfl⟩ := hcs
    obtain ⟨rfl, rfl⟩ := Prod.mk.inj hx
    obtain ⟨xs, h1, h2, h3, h4⟩ := slice_list ho hC hi len0 (by rw [hmm]; split <;> omega) (by simp only [maxLen] at hm; omega)
    subst h1
    refine ⟨some a, xs, cap0, rfl, hl, h2, h3, by simp only [Rows.uptoBulk]; omega, ?_⟩
    intro ts ds j B hsz htj hdj hB
    have z := sized_slice hsz htj hdj ht
    rw [hB] at z
    have hr : reachBytes = 140737488351232 := by decide
    simp only [List.length_map, List.length_range] at z
    rw [hr] at z
    exact Nat.le_trans (Nat.mul_le_mul_right _ (by omega)) z
end
end Go.Proofs.YtiggjbclbdikmaaDoor.Od
namespace Go.Proofs.YtiggjbclbdikmaaDoor.Lpc
set_option linter.unusedVariables false
set_option linter.unusedSimpArgs false
open Go.Proofs.YtiggjbclbdikmaaDoor.Vd (decU)
open Go.Proofs.YtiggjbclbdikmaaDoor.Fr (sure sure_of sure_spec K3 T3)
open Go.RowKit Go.Proofs.YtiggjbclbdikmaaDoorW.PrintWords Go.Proofs.YtiggjbclbdikmaaDoor.Hp Go.Proofs.YtiggjbclbdikmaaDoor.Fm Go.Proofs.YtiggjbclbdikmaaDoor.X Go.Proofs.YtiggjbclbdikmaaDoor.Va Go.Proofs.YtiggjbclbdikmaaDoor.Na Go.Proofs.YtiggjbclbdikmaaDoor.Oa Go.Proofs.YtiggjbclbdikmaaDoor.Vp0 Go.Proofs.YtiggjbclbdikmaaDoor.Cn Go.Proofs.YtiggjbclbdikmaaDoor.Dn
theorem row_at {w : World} {A : Option Addr} {e : Nat} {xs : List (List Int)} (h : (Kd.slice e K3).C w A xs.length xs) (k : Nat) (hk : k < xs.length) :
    ∃ ad Ak ck, A = some ad ∧ w.cell? (ad.add k) = some (.slice Ak xs[k].length ck) ∧ xs[k].length ≤ ck ∧ K3.C w Ak xs[k].length xs[k] := by
  obtain ⟨ad, e1, hc⟩ := h.2.2 (by omega)
  obtain ⟨cs, hl, hK, hcell⟩ := hc k xs[k] (List.getElem?_eq_getElem hk)
  obtain ⟨Ak, ck, rfl, h1, h2⟩ := hK
  refine ⟨ad, Ak, ck, e1, ?_, h1, h2⟩
  have := hcell 0 _ rfl
  have e2 : k * (Kd.slice e K3).sz + 0 = k := by show k * 1 + 0 = k; omega
  rw [e2] at this
  exact this
theorem flat_sum (xs : List (List Int)) : xs.flatten.length ≤ Od.sumB (fun l => Od.sumB (fun _ => 1) l + 1) xs := by
  induction xs with
  | nil => simp [Od.sumB]
  | cons x l ih =>
    have := Od.sumB_len (bulk := fun _ : Int => 1) (fun _ => Nat.le_refl _) x
    simp only [List.flatten_cons, List.length_append, Od.sumB]
    omega
theorem flat_take (xs : List (List Int)) (k : Nat) : (xs.take k).flatten.length ≤ xs.flatten.length := by
  have : xs.flatten = (xs.take k).flatten ++ (xs.drop k).flatten := by rw [← List.flatten_append, List.take_append_drop]
  rw [this, List.length_append]
  omega
theorem flat_succ (xs : List (List Int)) (k : Nat) (hk : k < xs.length) : (xs.take (k + 1)).flatten = (xs.take k).flatten ++ xs[k] := by
  rw [List.take_succ_eq_append_getElem hk, List.flatten_append]
  simp
theorem flat_mem {xs : List (List Int)} (h : ∀ x, x ∈ xs → ∀ y ∈ x, I32 y) (k : Nat) : ∀ y ∈ (xs.take k).flatten, I32 y := by
  intro y hy
  obtain ⟨l, hl, hyl⟩ := List.mem_flatten.1 hy
  exact h l (List.mem_of_mem_take hl) y hyl
theorem reads' {α : Type} {d : Kd α} {e base : Nat} {A : Option Addr} {m c : Nat} {xs : List α} {w0 w : World} {L : List Th} (h : Sep w0 L w) (i : Nat) (hi : L[i]? = some (rowT d e base (.slice A m c) xs)) : m = xs.length ∧ m ≤ c ∧ d.C w A m xs := by
  obtain ⟨ok, h1⟩ := h.one i _ hi
  have := Kd.R_reads' (show d.R e w base ok (.slice A m c) xs from h1)
  exact ⟨this.1, this.2.1, this.1 ▸ this.2.2⟩
theorem cut_take (A : Option Addr) (n c N : Nat) (hN : N ≤ n) (hc : n ≤ c) : ∀ W : World, (Instr.slice 22 (.slice A n c) none (some (.int .i64 (N : Int))) none).run Tryd.prog W = .ok (.slice A N c) W := by
  obtain ⟨i2, hi2, hsz2⟩ := Option.map_eq_some_iff.1 info21
  have hsz2 : i2.size = 1 := by have := congrArg (fun q => q.2.1) hsz2; simpa using this
  obtain ⟨hct, -, -⟩ := print_take_of (P := Tryd.prog) (Value.int .i32) 0 22 21 .i64 Tryd.underlying22 hi2 hsz2 A c (List.replicate n 0) (N : Int) (by omega) (by simpa using hN) (by simpa using hc)
  simp only [Int.toNat_natCast, List.length_take, List.length_replicate, Nat.min_eq_left hN] at hct
  exact hct
theorem C_take {w : World} {A : Option Addr} {n N : Nat} {l : List Int} (h : K3.C w A n l) (hN : N ≤ n) : K3.C w A N (l.take N) := rdC ((rdint h).take_ N hN)
def Inv (w1 : World) (g : Nat) (done : List Int) (allv toldv : Value) (wr : World) : Prop :=
  Sep w1 [formT g w1.heap.size (kp (flat done)) false, rowT K3 T3 w1.heap.size allv done, rowT K3 T3 w1.heap.size toldv (tl (flat done))] wr
set_option maxRecDepth 100000 in
set_option maxHeartbeats 8000000 in
theorem pieces (w : World) (hG : G w) (A : Option Addr) (xs : List (List Int)) (c : Nat) (hC : (Kd.slice 21 K3).C w A xs.length xs) (hc : xs.length ≤ c) (hw : ∀ x, x ∈ xs → ∀ y, y ∈ x → I32 y) (hF : xs.flatten.length ≤ 1048576)
    (A2 : Option Addr) (late : List Int) (c2 : Nat) :
    Calls Tryd.prog 6 #[.slice A xs.length c, .slice A2 late.length c2] w fun e w' => e = .returned (.bool true) ∧ Below w.heap.size w w' := by
  have hm : xs.length ≤ 9223372036854775807 := hC.2.1
  obtain ⟨n, hn⟩ : ∃ n, n = xs.length := ⟨_, rfl⟩
  rw [← hn] at hm
  rw [← hn]
  have HN := Aside0.mk hn
  have HC := Aside0.mk hC
  have HF := Aside0.mk hF
  have HBY := Aside0.mk hw
  have HG := Aside0.mk hG
  clear hC hw hF hc hn hG
  go_enter Tryd.func6, Tryd.ntmps6
  go_wp2_with (first | (go_at_call 19; refine (Nf.fixedP w HG.out).mono ?_; rintro e w1 ⟨rfl, h1⟩; have H1 := Aside0.mk h1; clear h1) | (go_at_call 30; go_must (refine (NewS (Sep.start (Below.refl _ w1))).mono ?_; rintro e w2 ⟨g, rfl, p1⟩; have S0 := Aside0.mk (show Inv w1 g [] (.slice none 0 0) (.slice none 0 0) w2 from (p1.empty K3 T3 w1.heap.size).empty K3 T3 w1.heap.size); clear p1)))
  have HG1 := Aside0.mk (HG.out.below H1.out)
  go_loopw [6, 7, 17] (fun allv toldv i wr => ∃ k : Nat, k ≤ n ∧ i = .int .i64 k ∧ Aside0 (Inv w1 g (xs.take k).flatten allv toldv wr)) (fun _ _ i _ => n - (intOf i).toNat)
  case atStart => exact ⟨0, Nat.zero_le _, rfl, ⟨by simpa using S0.out⟩⟩
  case round =>
    clear S0
    obtain ⟨k, hk, rfl, HI⟩ := hrel
    by_cases hlt : k < n
    · have hd : decide (k < n) = true := by simpa using hlt
      have hbl : Below w.heap.size w wr := below_then H1.out H1.out.size HI.out.below
      have hkx : k < xs.length := by have := HN.out; omega
      obtain ⟨ad, Ak, ck, rfl, hcell0, hlk, hrd⟩ := row_at HC.out k hkx
      have hcell := cell_later hbl hcell0
      have hys : ∀ y ∈ xs[k], I32 y := HBY.out _ (List.getElem_mem hkx)
      have hsucc := flat_succ xs k hkx
      have hfl := flat_take xs (k + 1)
      have hF := HF.out
      have hda32 := flat_mem HBY.out k
      obtain ⟨ys, hyy⟩ : ∃ ys, ys = xs[k] := ⟨_, rfl⟩
      rw [← hyy] at hcell0 hcell hlk hrd hys hsucc
      obtain ⟨done, hdn⟩ : ∃ done, done = (xs.take k).flatten := ⟨_, rfl⟩
      rw [← hdn] at HI hsucc hda32
      rw [hsucc, List.length_append] at hfl
      have HSU := Aside0.mk hsucc
      have HRD := Aside0.mk hrd
      have HBL := Aside0.mk hbl
      have HYS := Aside0.mk hys
      obtain ⟨all, hall⟩ : ∃ all, all = done ++ ys := ⟨_, rfl⟩
      have hall32 : ∀ y ∈ all, I32 y := fun y hy => by rw [hall] at hy; exact (List.mem_append.1 hy).elim (hda32 y) (hys y)
      obtain ⟨La, hLa⟩ : ∃ La, La = all.length := ⟨_, rfl⟩
      have hlen : La = done.length + ys.length := by rw [hLa, hall, List.length_append]
      have hfa := flat_len all hall32
      have hfapp : flat all = flat done ++ flat ys := by rw [hall, flat_app]
      have hkp := kp_app (flat done) (flat ys)
      have htl := tl_app (flat done) (flat ys)
      have hsa := sure_app (flat done) (flat ys)
      rw [← hfapp] at hkp htl hsa
      obtain ⟨N, hN⟩ : ∃ N, N = sure (kp (flat done) ++ flat ys) := ⟨_, rfl⟩
      rw [← hN] at hkp htl hsa
      obtain ⟨told, htold⟩ : ∃ told, told = ordL ((kp (flat done) ++ flat ys).take N) := ⟨_, rfl⟩
      rw [← htold] at htl
      have hkl := kp_len (flat all)
      have hsl := (sure_spec (flat all)).1
      have hNl : told.length = N := by rw [htold, ordL_len, List.length_take]; have := (sure_spec (kp (flat done) ++ flat ys)).1; omega
      have htll := tl_len (flat all)
      have htld := tl_len (flat done)
      have hwr := nrm_len all
      obtain ⟨q, hq⟩ : ∃ q, q = (nrm all).length := ⟨_, rfl⟩
      obtain ⟨m, hmm⟩ : ∃ m, m = sure (flat all) := ⟨_, rfl⟩
      have hsz : (kp (flat done) ++ flat ys).length ≤ 1000000000000 := by
        have h1 : (flat all).length = (flat done).length + (flat ys).length := by rw [hfapp, List.length_append]
        have h2 := kp_len (flat done)
        rw [List.length_append]; omega
      have hm5 : m ≤ q := by rw [hmm, hq, hwr]; exact hsl
      have hq5 : q ≤ 4000000 := by rw [hq, hwr]; omega
      have hmx : m = (tl (flat all)).length := by rw [htll, hmm]
      have HM := Aside0.mk hmx
      have HTD := Aside0.mk (show (tl (flat done)).length + N ≤ 4000000 by rw [htld]; omega)
      have HQ := Aside0.mk hq
      have HNN := Aside0.mk hN
      have HTO := Aside0.mk htold
      have HTL := Aside0.mk htl
      have HKP := Aside0.mk hkp
      have HAL := Aside0.mk hall
      have HALL32 := Aside0.mk hall32
      have HLA := Aside0.mk hLa
      have HSZ := Aside0.mk hsz
      have HMM := Aside0.mk (show (sure (nrm all) : Int) = (m : Int) by unfold nrm; rw [sure_ord, hmm])
      have HTK := Aside0.mk (show (nrm all).take m = tl (flat all) by unfold nrm; rw [hmm, take_ord])
      have HPD := Aside0.mk (show q - m = (kp (flat all)).length by rw [hkl, hq, hwr, hmm])
      have HSUB := Aside0.mk (show (q : Int) - (m : Int) = ((q - m : Nat) : Int) by omega)
      have HLT := Aside0.mk (show (done.length + ys.length) * 4 ≤ 140737488355328 by omega)
      have hLb : La ≤ 1048576 := by omega
      have HNT := Aside0.mk hNl.symm
      clear hyy hdn hsucc hrd hcell0 hbl hkx hys hda32 hall32 hall hfl hlen hfa hfapp hkp htl hsa hN htold hkl hsl hNl htll htld hwr hq hmm hsz hmx hLa hF
      obtain ⟨ok1, hR1, hf1, hN1⟩ := Sep.row (show Sep w1 [formT g w1.heap.size (kp (flat done)) false, rowT K3 T3 w1.heap.size u6 done, rowT K3 T3 w1.heap.size u7 (tl (flat done))] wr from HI.out) 1 rfl
      have hszw := HI.out.below.size
      have HR1 := Aside0.mk hR1
      have HF1 := Aside0.mk hf1
      have HN1 := Aside0.mk hN1
      clear hR1 hf1 hN1
      go_wp2_with (at_builtin; go_must (refine Kd.R_append_rows K3 (Rr := K3.K wr) (w0 := wr) w1.heap.size rfl (.tmp 21) (.tmp 22) 22 T3 (.int .i32 0) 4 rfl Tryd.underlying22 info21 rfl (by decide) (by decide) u6 done ys Ak ys.length ck ok1 (fun _ => False) rfl rfl HR1.out (Kd.C_below HRD.out HBL.out) (fun _ _ h => h) (fun _ h => h.elim) HF1.out (Below.refl _ _) hszw HLT.out ?hh))
      case hh =>
        intro v1 w3 hR3 hb3 hg3 hat3
        have hS1 := HN1.out v1 w3 _ hR3 hg3
        rw [← HAL.out] at hS1
        have HS1 := Aside0.mk (show Sep w1 [formT g w1.heap.size (kp (flat done)) false, rowT K3 T3 w1.heap.size v1 all, rowT K3 T3 w1.heap.size u7 (tl (flat done))] w3 from hS1)
        obtain ⟨Aa, ca, rfl, hca, _⟩ := HS1.out.reads 1 rfl
        rw [← HLA.out] at hca HS1 ⊢
        have HCA := Aside0.mk hca
        have HB3 := Aside0.mk (below_then H1.out H1.out.size HS1.out.below)
        clear hS1 hR3 hb3 hg3 hat3 HR1 HF1 HN1 hca HI
        go_wp2_with (first | (go_at_call 31; go_must (refine (WriteS HG1.out HS1.out 0 rfl Ak ys.length ck ys (Kd.C_below HRD.out HB3.out) hlk HYS.out HSZ.out N told (kp (flat all)) HNN.out HTO.out HKP.out).mono ?_; rintro e w4 ⟨A4, rfl, p0, p4⟩; have HC4 := Aside0.mk p0; have HS2 := Aside0.mk (show Sep w1 [formT g w1.heap.size (kp (flat all)) false, rowT K3 T3 w1.heap.size (.slice Aa La ca) all, rowT K3 T3 w1.heap.size u7 (tl (flat done))] w4 from p4); clear p0 p4; have hs4 := HS2.out.below.size; obtain ⟨ok2, hR2, hf2, hN2⟩ := HS2.out.row 2 rfl; have HR2 := Aside0.mk hR2; have HF2 := Aside0.mk hf2; have HN2 := Aside0.mk hN2; clear hR2 hf2 hN2)) | (at_builtin; go_must (refine Kd.R_append_rows K3 (Rr := K3.K w4) (w0 := w4) w1.heap.size rfl (.tmp 24) (.tmp 27) 22 T3 (.int .i32 0) 4 rfl Tryd.underlying22 info21 rfl (by decide) (by decide) u7 (tl (flat done)) told A4 N N ok2 (fun _ => False) rfl rfl HR2.out HC4.out (fun _ _ h => h) (fun _ h => h.elim) HF2.out (Below.refl _ _) hs4 ?hl2 ?h2; (case hl2 => have := HTD.out; omega))))
        case h2 =>
          intro v5 w5 hR5 hb5 hg5 hat5
          have hS5 := HN2.out v5 w5 _ hR5 hg5
          rw [← HTL.out] at hS5
          have HS5 := Aside0.mk (show Sep w1 [formT g w1.heap.size (kp (flat all)) false, rowT K3 T3 w1.heap.size (.slice Aa La ca) all, rowT K3 T3 w1.heap.size v5 (tl (flat all))] w5 from hS5)
          obtain ⟨At, ct, rfl, hct, _⟩ := HS5.out.reads 2 rfl
          have HCT := Aside0.mk hct
          clear hS5 hR5 hb5 hg5 hat5 HR2 HF2 HN2 hct HC4 HS2
          rw [← HM.out] at HCT HS5 ⊢
          go_upto_region 12 with (first | (go_at_call 20; go_must (refine (RNormR w5 Aa La ca all (reads' HS5.out 1 rfl).2.2 HLA.out HCA.out HALL32.out (by omega)).mono ?_; rintro e w6 ⟨v6, rfl, p1, p2⟩; obtain ⟨A6, c6, e6, hc6, hC6⟩ := Kd.R_reads p1; rw [← HQ.out] at e6 hc6 hC6; subst e6; have HC6 := Aside0.mk hC6; have HS6 := Aside0.mk (HS5.out.later p2); clear hC6 p1 p2 HS5)) | (go_at_call 32; go_must (refine (SureR w6 A6 q c6 (nrm all) HC6.out HQ.out hc6 (by omega)).mono ?_; rintro e w7 ⟨rfl, p2⟩; rw [HMM.out]; have HC7 := Aside0.mk (Kd.C_below HC6.out p2); have HS7 := Aside0.mk (HS6.out.later p2); clear p2 HC6 HS6)))
          have hcut := cut_take A6 q c6 m hm5 hc6
          have HC8 := Aside0.mk (by have := C_take HC7.out hm5; rw [HTK.out] at this; exact this)
          have hsub := HSUB.out
          have HMC := Aside0.mk (show m ≤ c6 by omega)
          clear HC7
          go_wp2_with (first | (go_at_call 21; go_must (refine (SameR w7 At A6 m ct m c6 (tl (flat all)) (tl (flat all)) (reads' HS7.out 2 rfl).2.2 HM.out HCT.out HC8.out HM.out HMC.out (by omega) true (decide_eq_true rfl)).mono ?_; rintro e w8 ⟨rfl, p1⟩; have HS8 := Aside0.mk (HS7.out.later p1); clear p1 HS7)) | (go_at_call 33; go_must (refine (PendS HS8.out 0 rfl (q - m) HPD.out).mono ?_; rintro e w9 ⟨rfl, rfl⟩)))
          go_roundw
          case rel => exact ⟨k + 1, by omega, by go_num, ⟨by rw [HSU.out, ← HAL.out]; exact HS8.out⟩⟩
          case measure => simp [intOf]; omega
    · have hd : decide (k < n) = false := by simpa using hlt
      have hkn : (xs.take k).flatten = xs.flatten := by rw [List.take_of_length_le (by have := HN.out; omega)]
      obtain ⟨all, hall⟩ : ∃ all, all = xs.flatten := ⟨_, rfl⟩
      rw [hkn, ← hall] at HI
      have ha32 := flat_mem HBY.out k
      rw [hkn, ← hall] at ha32
      have hF := HF.out
      rw [← hall] at hF
      obtain ⟨La, hLa⟩ : ∃ La, La = all.length := ⟨_, rfl⟩
      have hLb : La ≤ 1048576 := by omega
      have hfa := flat_len all ha32
      have hwr := nrm_len all
      obtain ⟨q, hq⟩ : ∃ q, q = (nrm all).length := ⟨_, rfl⟩
      obtain ⟨kl, hkl⟩ : ∃ kl, kl = (kp (flat all)).length := ⟨_, rfl⟩
      have hkll := kp_len (flat all)
      have htll := tl_len (flat all)
      have hsl := (sure_spec (flat all)).1
      obtain ⟨told, htold⟩ : ∃ told, told = ordL (kp (flat all)) := ⟨_, rfl⟩
      have htk : tl (flat all) ++ told = nrm all := by rw [htold]; exact tl_kp _
      obtain ⟨m, hmm⟩ : ∃ m, m = (tl (flat all)).length := ⟨_, rfl⟩
      have HM := Aside0.mk hmm
      have HQ := Aside0.mk hq
      have HKL := Aside0.mk hkl
      have HTO := Aside0.mk htold
      have HTK := Aside0.mk htk
      have HLA := Aside0.mk hLa
      have HA32 := Aside0.mk ha32
      have HKS := Aside0.mk (show (kp (flat all)).length ≤ 4000000 by omega)
      have HLT := Aside0.mk (show ((tl (flat all)).length + kl) * 4 ≤ 140737488355328 by omega)
      have hq5 : q ≤ 4000000 := by omega
      have HS0 := Aside0.mk (show Sep w1 [formT g w1.heap.size (kp (flat all)) false, rowT K3 T3 w1.heap.size u6 all, rowT K3 T3 w1.heap.size u7 (tl (flat all))] wr from HI.out)
      obtain ⟨Aa, ca, rfl, hca, _⟩ := HS0.out.reads 1 rfl
      rw [← hLa] at HS0 hca ⊢
      have HCA := Aside0.mk hca
      clear hkn hall HI ha32 hF hLa hfa hwr hq hkl hkll htll hsl htold htk hmm hca
      go_wp2_with (first | (go_at_call 34; go_must (refine (CloseS HG1.out HS0.out 0 rfl (by have := HKS.out; omega) kl told HKL.out HTO.out).mono ?_; rintro e w4 ⟨A4, c4, rfl, p0, p1, p4⟩; have HC4 := Aside0.mk p1; have HS2 := Aside0.mk (show Sep w1 [formT g w1.heap.size [] true, rowT K3 T3 w1.heap.size (.slice Aa La ca) all, rowT K3 T3 w1.heap.size u7 (tl (flat all))] w4 from p4); clear p1 p4; have hs4 := HS2.out.below.size; obtain ⟨ok2, hR2, hf2, hN2⟩ := HS2.out.row 2 rfl; have HR2 := Aside0.mk hR2; have HF2 := Aside0.mk hf2; have HN2 := Aside0.mk hN2; clear hR2 hf2 hN2)) | (at_builtin; go_must (refine Kd.R_append_rows K3 (Rr := K3.K w4) (w0 := w4) w1.heap.size rfl (.tmp 49) (.tmp 51) 22 T3 (.int .i32 0) 4 rfl Tryd.underlying22 info21 rfl (by decide) (by decide) u7 (tl (flat all)) told A4 kl c4 ok2 (fun _ => False) rfl rfl HR2.out HC4.out (fun _ _ h => h) (fun _ h => h.elim) HF2.out (Below.refl _ _) hs4 HLT.out ?h2)))
      case h2 =>
        intro v5 w5 hR5 hb5 hg5 hat5
        have hS5 := HN2.out v5 w5 _ hR5 hg5
        rw [HTK.out] at hS5
        have HS5 := Aside0.mk (show Sep w1 [formT g w1.heap.size [] true, rowT K3 T3 w1.heap.size (.slice Aa La ca) all, rowT K3 T3 w1.heap.size v5 (nrm all)] w5 from hS5)
        obtain ⟨At2, ct2, rfl, hct, _⟩ := HS5.out.reads 2 rfl
        rw [← HQ.out] at hct HS5 ⊢
        have HCT := Aside0.mk hct
        clear hS5 hR5 hb5 hg5 hat5 HR2 HF2 HN2 hct HC4 HS2 HS0
        go_wp2_with (first | (go_at_call 22; go_must (refine (NormR w5 (HG1.out.below HS5.out.below) Aa La ca all (reads' HS5.out 1 rfl).2.2 HLA.out HCA.out HA32.out (by omega)).mono ?_; rintro e w6 ⟨v6, rfl, p1, p2⟩; obtain ⟨A6, c6, e6, hc6, hC6⟩ := Kd.R_reads p1; rw [← HQ.out] at e6 hc6 hC6; subst e6; have HC6 := Aside0.mk hC6; have HS6 := Aside0.mk (HS5.out.later p2); clear hC6 p1 p2)) | (go_at_call 21; go_must (refine (SameR w6 At2 A6 q ct2 q c6 (nrm all) (nrm all) (reads' HS6.out 2 rfl).2.2 HQ.out HCT.out HC6.out HQ.out hc6 (by omega) true (decide_eq_true rfl)).mono ?_; rintro e w7 ⟨rfl, p1⟩; have HS7 := Aside0.mk (HS6.out.later p1); clear p1)) | (go_at_call 31; go_must (refine (WriteClosedS HS7.out 0 rfl _ _ _).mono ?_; rintro e w8 ⟨rfl, rfl⟩)) | (go_at_call 34; go_must (refine (CloseClosedS HS7.out 0 rfl).mono ?_; rintro e w8 ⟨rfl, rfl⟩)) | (go_at_call 33; go_must (refine (PendS HS7.out 0 rfl 0 rfl).mono ?_; rintro e w8 ⟨rfl, rfl⟩)))
        go_ret
        exact ⟨rfl, below_then H1.out H1.out.size HS7.out.below⟩
end Go.Proofs.YtiggjbclbdikmaaDoor.Lpc
namespace Go.Proofs.YtiggjbclbdikmaaDoor.X
set_option linter.unusedVariables false
set_option linter.unusedSimpArgs false
open Go.RowKit Go.Proofs.YtiggjbclbdikmaaDoorW.PrintWords Go.Proofs.YtiggjbclbdikmaaDoor.Vp0
def tremalaw03_NormPieces.f (xs : List (List Int)) (late : List Int) : Option Bool := if xs.all Cn.ok32 = true ∧ xs.flatten.length ≤ 1048576 then some true else none
theorem tremalaw03_NormPieces.calls (A0 : Option Addr) (c0 : Nat) (xs : List (List Int)) (A1 : Option Addr) (c1 : Nat) (late : List Int) (r : Bool) (w : World) (hr0 : Kd.C (Kd.slice 21 (Kd.int .i32)) w A0 xs.length xs) (hc0 : xs.length ≤ c0) (hr1 : Kd.C (Kd.int .i32) w A1 late.length late) (hc1 : late.length ≤ c1) (h : tremalaw03_NormPieces.f xs late = some r) (hG0 : Va.G w) :
  Calls Tryd.prog 6 #[.slice A0 xs.length c0, .slice A1 late.length c1] w fun e w' => e = .returned (.bool r) ∧ Below w.heap.size w w' := by
  unfold tremalaw03_NormPieces.f at h
  split at h
  · rename_i hh
    cases Option.some.inj h
    exact Lpc.pieces w hG0 A0 xs c0 hr0 hc0 (fun x hx => Cn.ok32_of (List.all_eq_true.1 hh.1 x hx)) hh.2 A1 late c1
  · cases h
theorem tremalaw03_NormPieces.pure (xs : List (List Int)) (hwf : ∀ x ∈ xs, ∀ y ∈ x, (Lit.int .i32 y).wf = true) (hl : Od.sumB (fun l => Od.sumB (fun _ => 1) l + 1) xs ≤ 1048576) (late : List Int) (hw2 : ∀ y ∈ late, (Lit.int .i32 y).wf = true) (hl2 : late.length ≤ 1048576) : tremalaw03_NormPieces.f xs late = some true := by
  unfold tremalaw03_NormPieces.f
  rw [if_pos ⟨List.all_eq_true.2 fun x hx => Cn.ok32_mk (fun y hy => wf32 (hwf x hx y hy)), Nat.le_trans (Lpc.flat_sum xs) hl⟩]
end Go.Proofs.YtiggjbclbdikmaaDoor.X
namespace Go.Proofs.YtiggjbclbdikmaaDoor.Lv
set_option linter.unusedVariables false
set_option linter.unusedSimpArgs false
open Go.ChangeShapes Go.WideShapes Go.ChangeAt Go.RowKit Go.Proofs.YtiggjbclbdikmaaDoorW.PrintWords Go.Proofs.YtiggjbclbdikmaaDoor.Va
theorem ints_of_array {H : Type} {enc : TypeId × Value → H} {P : Program} {w : World} {base : Nat} {sp : Nat → Bool} {held : Bool} {fuel : Nat} {t e : TypeId} {k : IntKind} {n : Nat} {cs : List Value} {l : List Int} {p : List MemPlace}
    (ht : P.underlying t = some (.array n e)) (he : P.underlying e = some (.int k)) (hC : P.cellsOf e = 1) (hT : P.cellsOf t = n) (h : DataW.trod enc P w base sp held fuel t cs = some (.agg (l.map fun x => .lit (.int k x)), p)) : cs = nums k l := by
  obtain ⟨xs, m, -, hx, hl, hxl, hi⟩ := DataW.trod_array ht h
  obtain ⟨hx1, -⟩ := Prod.mk.inj hx
  injection hx1 with hx1
  have hln : l.length = n := by have := congrArg List.length hx1; simpa [hxl] using this
  rw [hT] at hl
  unfold nums
  refine List.ext_getElem (by simp [hl, hln]) fun i h1 h2 => ?_
  have hin : i < n := by omega
  have hxi := hi i hin
  rw [hC, Nat.mul_one, List.getElem?_eq_getElem (by omega : i < xs.length)] at hxi
  obtain ⟨z, e1, e2, -⟩ := DataW.trod_int he hxi
  have e3 : (xs[i]'(by omega)).1 = DataW.lit (.int k (l[i]'(by omega))) := by
    have := congrArg (fun q => q[i]?) hx1
    simp [List.getElem?_eq_getElem (show i < l.length by omega), List.getElem?_eq_getElem (show i < xs.length by omega)] at this
    exact this.symm
  rw [e2] at e3
  injection e3 with e3
  injection e3 with _ e3
  have e4 : cs[i]'h1 = .int k z := by
    rw [List.drop_eq_getElem_cons h1, List.take_succ_cons, List.take_zero] at e1
    exact (List.cons.inj e1).1
  rw [e4, List.getElem_map, e3]
theorem triples_of_array {H : Type} {enc : TypeId × Value → H} {P : Program} {w : World} {base : Nat} {sp : Nat → Bool} {held : Bool} {fuel : Nat} {t e e3 : TypeId} {n : Nat} {cs : List Value} {l : List (Int × Int × Int)} {p : List MemPlace}
    (ht : P.underlying t = some (.array n e)) (he : P.underlying e = some (.array 3 e3)) (he3 : P.underlying e3 = some (.int .i32)) (hC3 : P.cellsOf e3 = 1) (hC : P.cellsOf e = 3) (hT : P.cellsOf t = n * 3) (h : DataW.trod enc P w base sp held fuel t cs = some (.agg (l.map fun x => .agg ([x.1, x.2.1, x.2.2].map fun y => .lit (.int .i32 y))), p)) : cs = cells3 l := by
  obtain ⟨xs, m, -, hx, hl, hxl, hi⟩ := DataW.trod_array ht h
  obtain ⟨hx1, -⟩ := Prod.mk.inj hx
  injection hx1 with hx1
  have hln : l.length = n := by have := congrArg List.length hx1; simpa [hxl] using this
  rw [hT] at hl
  have key : ∀ i (hin : i < l.length), (cs.drop (i * 3)).take 3 = nums .i32 [l[i].1, l[i].2.1, l[i].2.2] := by
    intro i hin
    have hxi := hi i (by omega)
    rw [hC, List.getElem?_eq_getElem (by omega : i < xs.length)] at hxi
    have e3' : (xs[i]'(by omega)).1 = DataW.agg ([l[i].1, l[i].2.1, l[i].2.2].map fun y => .lit (.int .i32 y)) := by
      have := congrArg (fun q => q[i]?) hx1
      simp [List.getElem?_eq_getElem (show i < l.length by omega), List.getElem?_eq_getElem (show i < xs.length by omega)] at this
      exact this.symm
    rw [show xs[i]'(by omega) = ((xs[i]'(by omega)).1, (xs[i]'(by omega)).2) from rfl, e3'] at hxi
    exact ints_of_array he he3 hC3 hC hxi
  clear hi hx1 hx hxl ht h
  have go : ∀ (l : List (Int × Int × Int)) (cs : List Value), cs.length = l.length * 3 → (∀ i (hin : i < l.length), (cs.drop (i * 3)).take 3 = nums .i32 [l[i].1, l[i].2.1, l[i].2.2]) → cs = cells3 l := by
    intro l
    induction l with
    | nil => intro cs h1 _; exact List.eq_nil_of_length_eq_zero (by simpa using h1)
    | cons x r ih =>
      intro cs h1 h2
      have h0 := h2 0 (by simp)
      have hr := ih (cs.drop 3) (by rw [List.length_drop, h1]; simp; omega) (fun i hin => by
        have := h2 (i + 1) (by simp; omega)
        rw [List.drop_drop, show 3 + i * 3 = (i + 1) * 3 by omega]
        exact this)
      rw [Nat.zero_mul, List.drop_zero] at h0
      rw [← List.take_append_drop 3 cs, h0, hr]
      rfl
  exact go l cs (by omega) key
abbrev laid : List (String × DataW Unit) := [("trema/ucd.classes", Rows.laid_trema_ucd_classes), ("trema/ucd.pairs", Rows.laid_trema_ucd_pairs), ("trema/ucd.marks", Rows.laid_trema_ucd_marks)]
theorem d0 : (Rows.laid_trema_ucd_classes : DataW Unit) = .agg (clsT.map fun x => .agg ([x.1, x.2.1, x.2.2].map fun y => .lit (.int .i32 y))) := by kernel_rfl
theorem d1 : (Rows.laid_trema_ucd_pairs : DataW Unit) = .agg (prsT.map fun x => .agg ([x.1, x.2.1, x.2.2].map fun y => .lit (.int .i32 y))) := by kernel_rfl
theorem d2 : (Rows.laid_trema_ucd_marks : DataW Unit) = .agg (mksT.map fun y => .lit (.int .i32 y)) := by kernel_rfl
theorem door_met (os : Os) (args : Array Value) : laidMetH Tryd.prog laid ((World.doorLaid Tryd.prog 400 os).forCall (fun _ _ => 0) ⟨#[], args, []⟩).memory :=
  laidMetH_of_parts3 (fuel := 8) (laidMet_of_run' 8 (by kernel_rfl) (by kernel_rfl)) (by kernel_rfl) (by kernel_rfl)
theorem of_laid {W : World} (h : laidMetH Tryd.prog laid W) : G W := by
  rw [MakeChecks.laidMetH_plain _ _ _ (by kernel_rfl)] at h
  obtain ⟨ps, ⟨g0, t0, cs0, f0, p0, q0, hg0, ht0, hv0, hd0, ⟨g1, t1, cs1, f1, p1, q1, hg1, ht1, hv1, hd1, ⟨g2, t2, cs2, f2, p2, q2, hg2, ht2, hv2, hd2, _, _⟩, _⟩, _⟩, _, _⟩ := h
  obtain rfl := Option.some.inj ((show Tryd.prog.globalNamed "trema/ucd.classes" = some 0 by kernel_rfl).symm.trans hg0)
  obtain rfl := Option.some.inj ((show Tryd.prog.globalNamed "trema/ucd.pairs" = some 1 by kernel_rfl).symm.trans hg1)
  obtain rfl := Option.some.inj ((show Tryd.prog.globalNamed "trema/ucd.marks" = some 2 by kernel_rfl).symm.trans hg2)
  obtain rfl := Option.some.inj ((show (Tryd.prog.globals[0]?).map (·.type) = some 100 by kernel_rfl).symm.trans ht0)
  obtain rfl := Option.some.inj ((show (Tryd.prog.globals[1]?).map (·.type) = some 106 by kernel_rfl).symm.trans ht1)
  obtain rfl := Option.some.inj ((show (Tryd.prog.globals[2]?).map (·.type) = some 114 by kernel_rfl).symm.trans ht2)
  rw [d0] at hd0
  rw [d1] at hd1
  rw [d2] at hd2
  have c0 := triples_of_array Tryd.underlying100 Tryd.underlying99 Tryd.underlying21 (by kernel_rfl) (by kernel_rfl) (by kernel_rfl) hd0
  have c1 := triples_of_array Tryd.underlying106 Tryd.underlying99 Tryd.underlying21 (by kernel_rfl) (by kernel_rfl) (by kernel_rfl) hd1
  have c2 := ints_of_array Tryd.underlying114 Tryd.underlying21 (by kernel_rfl) (by kernel_rfl) hd2
  refine ⟨fun j v hv => ?_, fun j v hv => ?_, fun j v hv => ?_⟩
  · have := World.var?_cell hg0 hv0 j
    rw [← Array.getElem?_toList, c0, hv] at this
    simpa using this
  · have := World.var?_cell hg1 hv1 j
    rw [← Array.getElem?_toList, c1, hv] at this
    simpa using this
  · have := World.var?_cell hg2 hv2 j
    rw [← Array.getElem?_toList, c2, hv] at this
    simpa using this
end Go.Proofs.YtiggjbclbdikmaaDoor.Lv
namespace Go.Proofs.YtiggjbclbdikmaaDoor.normPieces
open Go.ChangeShapes Go.WideShapes Go.ChangeAt Go.RowKit
open Go.ChangeMaps (open_string shut_string)
set_option linter.unusedVariables false
set_option linter.unusedSimpArgs false
theorem own : ownKnob Tryd.prog.godebug = none := by kernel_rfl
theorem laidOut : laidOutB Tryd.prog = true := by kernel_rfl
set_option maxRecDepth 100000 in
theorem contract (H : Type) (enc : TypeId × Value → H) (W : World) (base : Nat) (args : Array Value) (ds gs : List (DataW H)) (before : List MemPlace)
    (hval0 : ∀ (j : Nat) t v, Tryd.f6.params[j]? = some t → args[j]? = some v → Value.okWide Tryd.prog W .any base t v)
    (hW : DataW.Whole enc Tryd.prog Tryd.f6.params.toList Rows.normPiecesSpec.vars false W args.toList ds gs before)
    (hL : laidMetH Tryd.prog Lv.laid W)
    (hk0 : Rows.uptoSmall H (ds ++ gs) = true) :
    Calls Tryd.prog 6 args W fun e W' => ∃ v, e = .returned v ∧ Rows.normPiecesSpec.post enc Tryd.prog Tryd.f6 false true false false W args v W' := by
  have hkb : Rows.uptoBulkAll (ds ++ gs) ≤ 1048576 := of_decide_eq_true hk0
  have hval : ∀ (j : Nat) t v, Tryd.f6.params[j]? = some t → args[j]? = some v → Value.okWide Tryd.prog W .any base t v := hval0
  have hW' := hW
  obtain ⟨p, q, hA0, hV, rfl, hfz, hnd⟩ := hW
  have hA : DataW.TrodAll enc Tryd.prog W 0 (fun _ => true) true Tryd.f6.params.toList args.toList ds p := hA0
  rw [Tryd.params6] at hA hval
  obtain ⟨v0, vs0, d0, ds0, p0, q0, hargs, rfl, rfl, h0, r0⟩ := trodAll_cons hA
  obtain ⟨v1, vs1, d1, ds1, p1, q1, rfl, rfl, rfl, h1, r1⟩ := trodAll_cons r0
  obtain ⟨rfl, rfl, rfl⟩ := trodAll_nil r1
  obtain rfl : args = #[v0, v1] := by cases args; simp_all
  obtain ⟨rfl, rfl⟩ := trodVars_none hV
  have k0 := h0
  have lt0 : ∀ x ∈ p0, x.block < W.heap.size := by obtain ⟨m, hm⟩ := k0; exact DataW.trod_lt m _ _ _ hm
  obtain ⟨A0, xs0, c0, rfl, hc0, hC0, hw0, hb0, hz0⟩ := Od.arg_slice Tryd.underlying33 (by kernel_rfl) (Od.opens_slice Tryd.underlying22 (by kernel_rfl) (Od.opens_int Tryd.underlying21)) (hval 0 33 v0 rfl rfl) h0
  have k1 := h1
  have lt1 : ∀ x ∈ p1, x.block < W.heap.size := by obtain ⟨m, hm⟩ := k1; exact DataW.trod_lt m _ _ _ hm
  obtain ⟨A1, xs1, c1, rfl, hc1, hC1, hw1, hb1, hz1⟩ := Od.arg_slice Tryd.underlying22 (by kernel_rfl) (Od.opens_int Tryd.underlying21) (hval 1 22 v1 rfl rfl) h1
  simp only [List.append_nil, Rows.uptoBulkAll] at hkb
  have hB0 := Nat.le_trans (Nat.le_trans (Nat.le_succ _) hb0) (show Rows.uptoBulk d0 ≤ 1048576 by omega)
  have hB1 := Nat.le_trans (Nat.le_trans (Nat.le_succ _) hb1) (show Rows.uptoBulk d1 ≤ 1048576 by omega)
  clear hA0 hval0 hk0
  have hk := Go.Proofs.YtiggjbclbdikmaaDoor.X.tremalaw03_NormPieces.pure xs0 hw0 hB0 xs1 hw1 (Nat.le_trans (Od.sumB_len (fun _ => Nat.le_refl _) _) hB1)
  refine (Go.Proofs.YtiggjbclbdikmaaDoor.X.tremalaw03_NormPieces.calls A0 c0 xs0 A1 c1 xs1 true W hC0 hc0 hC1 hc1 hk (Lv.of_laid hL)).mono fun e W' ⟨he, bel⟩ => ?_
  subst he
  exact ⟨_, rfl, _, _, _, [], _, [], hW', trodAll_mk1 (shut_bool Tryd.underlying4 _), (trodAll_cons_mk (Below.trod laidOut (by kernel_rfl) (of_decide_eq_true (by kernel_rfl)) k0 bel lt0) (trodAll_cons_mk (Below.trod laidOut (by kernel_rfl) (of_decide_eq_true (by kernel_rfl)) k1 bel lt1) trodAll_mk0)), rfl, bel.frame _, fun h => by cases h⟩
set_option maxRecDepth 100000 in
theorem lifted (os : Os) (started : os.Started) (H : Type) (enc : TypeId × Value → H) (F : Stop.Interp) :
    ReturnsInHanded {} Tryd.checked os 6 .any ((Rows.OpenSpec.upto Rows.normPiecesSpec).preRow enc Tryd.prog Tryd.f6 Rows.normPiecesUptoRow.domain false Rows.normPiecesUptoRow.laid) (((Rows.OpenSpec.upto Rows.normPiecesSpec).at F).post enc Tryd.prog Tryd.f6 false true false false) := by
  refine returnsInHanded_of_row (C := Tryd.checked) (s := Rows.OpenSpec.upto Rows.normPiecesSpec) own started (by kernel_rfl) Tryd.func6
    (witness_row_atRef (enc := enc) (C := Tryd.checked) false (World.doorLaid Tryd.prog 400 os) #[(.slice none 0 0), (.slice none 0 0)] rfl (by kernel_rfl) (by kernel_rfl) (by kernel_rfl)
      (OpenSpec.preRow_of_cond (x := ([.nil, .nil], [], [])) 8 (by kernel_rfl) (by kernel_rfl) (fun k hk => by cases hk; kernel_rfl) (by kernel_rfl) (Lv.door_met os _))) ?_
  intro W base args ds gs before hval hW _ hcond _ hL _ _
  exact contract H enc W base args ds gs before hval hW hL (hcond _ rfl)
theorem proved : Rows.NormPiecesUptoSaid :=
  OpenClaim.holds_of_cond 6 Tryd.f6 rfl rfl rfl rfl rfl rfl rfl ⟨rfl, rfl, rfl, rfl, rfl⟩ rfl rfl rfl rfl rfl (by kernel_rfl) Tryd.func6 (by kernel_rfl)
    (of_decide_eq_true (by kernel_rfl)) (by unfold Func.isWrapper; first | (rw [if_pos (by decide +kernel)]; kernel_rfl) | (rw [if_neg (by decide +kernel)]; exact ⟨rfl, rfl⟩))
    (fun os started H enc _ F => by rw [OpenClaim.pre_eq_preRow]; exact lifted os started H enc F)
end Go.Proofs.YtiggjbclbdikmaaDoor.normPieces
namespace Go.Proofs.YtiggjbclbdikmaaDoor
theorem normPieces_holds : Rows.NormPiecesUptoCardSaid :=
  Claim7.holds_tied_plain_at .later [] [.data, .data, .data] true (true, "fdf6c36acc2ff838e2b06de7c88b3a207dcf6760465f25f192835ebb1407940d") false
    normPieces.proved (fun _ h => by cases h) (by kernel_rfl) (fun _ h => by cases h) normPiecesUpto_row_tie rfl ⟨rfl, rfl⟩ (by kernel_rfl) rfl
    (fun f fn hf hfn => by
      obtain rfl : f = 6 := Option.some.inj ((show Tryd.prog.funcNamed "trema/tremalaw03.NormPieces" = some 6 by kernel_rfl).symm.trans hf) |>.symm
      obtain rfl : fn = Tryd.f6 := (Option.some.inj (Tryd.func6.symm.trans hfn)).symm
      exact ⟨by kernel_rfl, fun j t ht => by
        rw [Tryd.params6] at ht
        have hm : t ∈ [33, 22] := by simpa using Array.mem_of_getElem? ht
        have hall : ([33, 22].all fun u => !Tryd.prog.wantsStandIn u) = true := by kernel_rfl
        exact (show Tryd.prog.wantsStandIn t = false by simpa using List.all_eq_true.1 hall t hm)⟩)
    (by kernel_rfl)
#print axioms normPieces_holds
end Go.Proofs.YtiggjbclbdikmaaDoor
