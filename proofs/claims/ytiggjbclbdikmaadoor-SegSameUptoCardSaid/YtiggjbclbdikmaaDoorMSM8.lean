/-
  Several texts of this claim in one: what its law's proof uses.
-/
import Derived.Test.YtiggjbclbdikmaaDoorMSM2
import Derived.Test.YtiggjbclbdikmaaDoorMSM5
import Derived.Test.YtiggjbclbdikmaaDoorMSM7
import Derived.Test.YtiggjbclbdikmaaDoorMSM4
namespace Go.Proofs.YtiggjbclbdikmaaDoor.X
open Go.RowKit Go.Proofs.YtiggjbclbdikmaaDoorW.PrintWords Go.Proofs.YtiggjbclbdikmaaDoorW.PrintLast Go.Proofs.YtiggjbclbdikmaaDoorW.PrintMore
attribute [local go_sem] max2_int min2_int max_two min_two max_three min_three max_four min_four   
set_option linter.unusedVariables false
set_option linter.unusedSimpArgs false
mutual
def tremaref03_Normal.l0 : Nat → List Int → List Int → Int → Int → Option (List Int)
 | 0, _, _, _, _ => none
 | k + 1, x0, x3, x4, x5 => if x5 < (x0.length : Int) then (if 0 ≤ x5 then ((tremaref02_Decompose.f k (rd x0 x5)).bind fun t147 => (tremaref03_Normal.l1 k x0 x3 x4 x5 t147 0)) else (none)) else (some x3)
def tremaref03_Normal.l1 : Nat → List Int → List Int → Int → Int → List Int → Int → Option (List Int)
 | 0, _, _, _, _, _, _ => none
 | k + 1, x0, x3, x4, x5, x6, x7 => if x7 < (x6.length : Int) then (if 0 ≤ x7 then ((tremaref02_Class.f k (rd x6 x7)).bind fun t151 => (if x3.length < 35184372088832 then ((some (x3 ++ [rd x6 x7] : List Int)).bind fun y153 => (if t151 = 0 then (tremaref03_Normal.l1 k x0 y153 (y153.length : Int) x5 x6 (wrap64 (x7 + 1))) else (tremaref03_Normal.l2 k x0 y153 x4 x5 x6 x7 t151 x4 (wrap64 ((y153.length : Int) - 1))))) else (none))) else (none)) else (tremaref03_Normal.l0 k x0 x3 x4 (wrap64 (x5 + 1)))
def tremaref03_Normal.l2 : Nat → List Int → List Int → Int → Int → List Int → Int → Int → Int → Int → Option (List Int)
 | 0, _, _, _, _, _, _, _, _, _ => none
 | k + 1, x0, x3, x4, x5, x6, x7, x8, x9, x10 => if x9 < x10 then (if 0 ≤ (wrap64 (Int.tdiv (wrap64 (x9 + x10)) 2)) then (if (wrap64 (Int.tdiv (wrap64 (x9 + x10)) 2)) < (x3.length : Int) then ((tremaref02_Class.f k (rd x3 (wrap64 (Int.tdiv (wrap64 (x9 + x10)) 2)))).bind fun t157 => (if t157 > x8 then (tremaref03_Normal.l2 k x0 x3 x4 x5 x6 x7 x8 x9 (wrap64 (Int.tdiv (wrap64 (x9 + x10)) 2))) else (tremaref03_Normal.l2 k x0 x3 x4 x5 x6 x7 x8 (wrap64 ((wrap64 (Int.tdiv (wrap64 (x9 + x10)) 2)) + 1)) x10))) else (none)) else (none)) else (tremaref03_Normal.l3 k x0 x3 x4 x5 x6 x7 x9 (wrap64 ((x3.length : Int) - 1)))
def tremaref03_Normal.l3 : Nat → List Int → List Int → Int → Int → List Int → Int → Int → Int → Option (List Int)
 | 0, _, _, _, _, _, _, _, _ => none
 | k + 1, x0, x3, x4, x5, x6, x7, x9, x12 => if x12 > x9 then (if 0 ≤ (wrap64 (x12 - 1)) then (if (wrap64 (x12 - 1)) < (x3.length : Int) then (if 0 ≤ x12 then (if x12 < (x3.length : Int) then (tremaref03_Normal.l3 k x0 (x3.set (x12 : Int).toNat (rd x3 (wrap64 (x12 - 1)))) x4 x5 x6 x7 x9 (wrap64 (x12 - 1))) else (none)) else (none)) else (none)) else (none)) else (if 0 ≤ x7 then (if x7 < (x6.length : Int) then (if 0 ≤ x9 then (if x9 < (x3.length : Int) then (tremaref03_Normal.l1 k x0 (x3.set (x9 : Int).toNat (rd x6 x7)) x4 x5 x6 (wrap64 (x7 + 1))) else (none)) else (none)) else (none)) else (none))
end
def tremaref03_Normal.f (k : Nat) (l0 : List Int) : Option (List Int) := tremaref03_Normal.l0 k l0 ([] : List Int) 0 0
theorem tremaref03_Normal.mono_l : ∀ k, (∀ y0 y1 y2 y3, LeO (tremaref03_Normal.l0 k y0 y1 y2 y3) (tremaref03_Normal.l0 (k + 1) y0 y1 y2 y3)) ∧ (∀ y0 y1 y2 y3 y4 y5, LeO (tremaref03_Normal.l1 k y0 y1 y2 y3 y4 y5) (tremaref03_Normal.l1 (k + 1) y0 y1 y2 y3 y4 y5)) ∧ (∀ y0 y1 y2 y3 y4 y5 y6 y7 y8, LeO (tremaref03_Normal.l2 k y0 y1 y2 y3 y4 y5 y6 y7 y8) (tremaref03_Normal.l2 (k + 1) y0 y1 y2 y3 y4 y5 y6 y7 y8)) ∧ (∀ y0 y1 y2 y3 y4 y5 y6 y7, LeO (tremaref03_Normal.l3 k y0 y1 y2 y3 y4 y5 y6 y7) (tremaref03_Normal.l3 (k + 1) y0 y1 y2 y3 y4 y5 y6 y7))
 | 0 => ⟨fun _ _ _ _ r h => by simp [tremaref03_Normal.l0] at h, fun _ _ _ _ _ _ r h => by simp [tremaref03_Normal.l1] at h, fun _ _ _ _ _ _ _ _ _ r h => by simp [tremaref03_Normal.l2] at h, fun _ _ _ _ _ _ _ _ r h => by simp [tremaref03_Normal.l3] at h⟩
 | k + 1 => by
  obtain ⟨ih0, ih1, ih2, ih3⟩ := tremaref03_Normal.mono_l k
  refine ⟨?_, ?_, ?_, ?_⟩
  ·intro y0 y1 y2 y3
   unfold tremaref03_Normal.l0
   repeat' first
   | (with_reducible exact ih0 _ _ _ _)
   | (with_reducible exact ih1 _ _ _ _ _ _)
   | (with_reducible exact ih2 _ _ _ _ _ _ _ _ _)
   | (with_reducible exact ih3 _ _ _ _ _ _ _ _)
   | (with_reducible exact tremaref02_Class.mono _ _)
   | (with_reducible exact tremaref02_Decompose.mono _ _)
   | (with_reducible exact LeO.refl _)
   | (with_reducible exact LeO.none _)
   | (with_reducible refine LeO.ite ?_ ?_)
   | (with_reducible refine LeO.bind ?_ (fun _ => ?_))
   | exact ih0 _ _ _ _
   | exact ih1 _ _ _ _ _ _
   | exact ih2 _ _ _ _ _ _ _ _ _
   | exact ih3 _ _ _ _ _ _ _ _
   | exact tremaref02_Class.mono _ _
   | exact tremaref02_Decompose.mono _ _
   | exact LeO.none _
   | refine LeO.ite ?_ ?_
   | refine LeO.bind ?_ (fun _ => ?_)
  ·intro y0 y1 y2 y3 y4 y5
   unfold tremaref03_Normal.l1
   repeat' first
   | (with_reducible exact ih0 _ _ _ _)
   | (with_reducible exact ih1 _ _ _ _ _ _)
   | (with_reducible exact ih2 _ _ _ _ _ _ _ _ _)
   | (with_reducible exact ih3 _ _ _ _ _ _ _ _)
   | (with_reducible exact tremaref02_Class.mono _ _)
   | (with_reducible exact tremaref02_Decompose.mono _ _)
   | (with_reducible exact LeO.refl _)
   | (with_reducible exact LeO.none _)
   | (with_reducible refine LeO.ite ?_ ?_)
   | (with_reducible refine LeO.bind ?_ (fun _ => ?_))
   | exact ih0 _ _ _ _
   | exact ih1 _ _ _ _ _ _
   | exact ih2 _ _ _ _ _ _ _ _ _
   | exact ih3 _ _ _ _ _ _ _ _
   | exact tremaref02_Class.mono _ _
   | exact tremaref02_Decompose.mono _ _
   | exact LeO.none _
   | refine LeO.ite ?_ ?_
   | refine LeO.bind ?_ (fun _ => ?_)
  ·intro y0 y1 y2 y3 y4 y5 y6 y7 y8
   unfold tremaref03_Normal.l2
   repeat' first
   | (with_reducible exact ih0 _ _ _ _)
   | (with_reducible exact ih1 _ _ _ _ _ _)
   | (with_reducible exact ih2 _ _ _ _ _ _ _ _ _)
   | (with_reducible exact ih3 _ _ _ _ _ _ _ _)
   | (with_reducible exact tremaref02_Class.mono _ _)
   | (with_reducible exact tremaref02_Decompose.mono _ _)
   | (with_reducible exact LeO.refl _)
   | (with_reducible exact LeO.none _)
   | (with_reducible refine LeO.ite ?_ ?_)
   | (with_reducible refine LeO.bind ?_ (fun _ => ?_))
   | exact ih0 _ _ _ _
   | exact ih1 _ _ _ _ _ _
   | exact ih2 _ _ _ _ _ _ _ _ _
   | exact ih3 _ _ _ _ _ _ _ _
   | exact tremaref02_Class.mono _ _
   | exact tremaref02_Decompose.mono _ _
   | exact LeO.none _
   | refine LeO.ite ?_ ?_
   | refine LeO.bind ?_ (fun _ => ?_)
  ·intro y0 y1 y2 y3 y4 y5 y6 y7
   unfold tremaref03_Normal.l3
   repeat' first
   | (with_reducible exact ih0 _ _ _ _)
   | (with_reducible exact ih1 _ _ _ _ _ _)
   | (with_reducible exact ih2 _ _ _ _ _ _ _ _ _)
   | (with_reducible exact ih3 _ _ _ _ _ _ _ _)
   | (with_reducible exact tremaref02_Class.mono _ _)
   | (with_reducible exact tremaref02_Decompose.mono _ _)
   | (with_reducible exact LeO.refl _)
   | (with_reducible exact LeO.none _)
   | (with_reducible refine LeO.ite ?_ ?_)
   | (with_reducible refine LeO.bind ?_ (fun _ => ?_))
   | exact ih0 _ _ _ _
   | exact ih1 _ _ _ _ _ _
   | exact ih2 _ _ _ _ _ _ _ _ _
   | exact ih3 _ _ _ _ _ _ _ _
   | exact tremaref02_Class.mono _ _
   | exact tremaref02_Decompose.mono _ _
   | exact LeO.none _
   | refine LeO.ite ?_ ?_
   | refine LeO.bind ?_ (fun _ => ?_)
theorem tremaref03_Normal.mono : ∀ a0 k, LeO (tremaref03_Normal.f k a0) (tremaref03_Normal.f (k + 1) a0) := by
 intro a0 k
 obtain ⟨ih0, ih1, ih2, ih3⟩ := tremaref03_Normal.mono_l k
 unfold tremaref03_Normal.f
 repeat' first
   | (with_reducible exact ih0 _ _ _ _)
   | (with_reducible exact ih1 _ _ _ _ _ _)
   | (with_reducible exact ih2 _ _ _ _ _ _ _ _ _)
   | (with_reducible exact ih3 _ _ _ _ _ _ _ _)
   | (with_reducible exact tremaref02_Class.mono _ _)
   | (with_reducible exact tremaref02_Decompose.mono _ _)
   | (with_reducible exact LeO.refl _)
   | (with_reducible exact LeO.none _)
   | (with_reducible refine LeO.ite ?_ ?_)
   | (with_reducible refine LeO.bind ?_ (fun _ => ?_))
   | exact ih0 _ _ _ _
   | exact ih1 _ _ _ _ _ _
   | exact ih2 _ _ _ _ _ _ _ _ _
   | exact ih3 _ _ _ _ _ _ _ _
   | exact tremaref02_Class.mono _ _
   | exact tremaref02_Decompose.mono _ _
   | exact LeO.none _
   | refine LeO.ite ?_ ?_
   | refine LeO.bind ?_ (fun _ => ?_)
set_option maxHeartbeats 8000000 in
set_option maxRecDepth 100000 in
theorem tremaref03_Normal.calls (k : Nat) (A0 : Option Addr) (c0 : Nat) (l0 : List Int) (r : List Int) (w : World) (hr0 : Kd.C (Kd.int .i32) w A0 l0.length l0) (hc0 : l0.length ≤ c0) (h : tremaref03_Normal.f k l0 = some r) :
  Calls Tryd.prog 20 #[.slice A0 l0.length c0] w fun e w' => ∃ v0_ : Value, e = .returned (v0_) ∧ Kd.R (Kd.int .i32) 21 w' w.heap.size (fun _ => True) v0_ r ∧ Below w.heap.size w w' := by
 have HR0 := Aside0.mk hr0
 have HC0 := Aside0.mk hc0
 clear hr0 hc0
 have HB := Aside0.mk (Below.refl w.heap.size w)
 have H : (tremaref03_Normal.l0 k l0 ([] : List Int) 0 0) = some r := h
 clear h
 have H' := Aside0.mk H
 clear H
 go_enter Tryd.func20, Tryd.ntmps20
 go_wp2
 go_loopg [3, 4, 5] k (fun kq v3 v4 v5 w' => ∃ (x3_1 : List Int) (x4_1 : Int) (x5_1 : Int), v4 = .int .i64 x4_1 ∧ v5 = .int .i64 x5_1 ∧ Aside0 (tremaref03_Normal.l0 kq l0 x3_1 x4_1 x5_1 = some r) ∧ Aside0 (kq ≤ k) ∧ Aside0 (Kd.R (Kd.int .i32) 21 w' w.heap.size (fun _ => True) v3 x3_1) ∧ Aside0 (Below w.heap.size w w'))
 case atStart => exact ⟨(([] : List Int)), (0), (0), (by first | rfl | (simp; done) | (simp [*]; done)), (by first | rfl | (simp; done) | (simp [*]; done)), H', ⟨Nat.le_refl _⟩, ⟨by first | exact Kd.R_nil _ _ _ _ _ | exact Kd.N_nil _ _ _ _ _ | exact Kd.V_nil _ _ _ _ _ | exact Kd.Q_nil _ _ _ _ _ | exact Kd.S_nil _ _ _ _ _⟩, ⟨by repeat (first | (with_reducible first | exact HB.out | apply below_alloc | apply pw_below_drewN | apply below_drew1) | exact HB.out)⟩⟩
 case round =>
  clear H'
  obtain ⟨x3_1, x4_1, x5_1, rfl, rfl, HA, HK1, HO_3, HB⟩ := hrel
  cases gk with
  | zero => exact absurd HA.out (by simp [tremaref03_Normal.l0])
  | succ k1 =>
   have H := HA.out
   clear HA
   simp only [tremaref03_Normal.l0] at H
   by_cases c2 : x5_1 < (l0.length : Int)
   ·rw [if_pos c2] at H
    have c2b0 : decide (x5_1 < (l0.length : Int)) = true := decide_eq_true c2
    clear c2
    by_cases c3 : 0 ≤ x5_1
    ·rw [if_pos c3] at H
     have c3b0 : decide (0 ≤ x5_1) = true := decide_eq_true c3
     clear c3
     replace H := Option.bind_eq_some_iff.mp H
     obtain ⟨t147, A40, H⟩ := H
     replace H : (tremaref03_Normal.l1 k1 l0 x3_1 x4_1 x5_1 t147 0) = some r := H
     have A4 := Aside0.mk A40
     clear A40
     have H' := Aside0.mk H
     clear H
     have p146 : 0 ≤ (x5_1 : Int) := of_decide_eq_true (by first | (with_reducible assumption) | assumption)
     have q146 : x5_1 < (l0.length : Int) := of_decide_eq_true (by first | (with_reducible assumption) | assumption)
     obtain ⟨ad146, e146, hx146_0⟩ := Kd.at_int HR0.out x5_1 p146 q146
     cases e146
     replace hx146_0 := (HB.out.cell (World.block_lt_of_cell? w _ hx146_0)).trans hx146_0
     replace p146 := eq_true p146
     replace q146 := eq_true q146
     go_wp2_with (first | ((with_reducible refine gate_callee (f := 36) rfl ?_); refine goesL_ (some 23) rfl rfl Tryd.func36 (by kernel_rfl) rfl #[.int .i32 (rd l0 x5_1)] rfl (by (try simp only [List.map_toArray, List.map_cons, List.map_nil]); first | done | rfl | (simp only [List.length_drop, List.length_take]; rfl)) ?_; (with_reducible refine (tremaref02_Decompose.calls k1 (rd l0 x5_1) t147 _ A4.out).mono ?_); rintro e w5 ⟨v148, rfl, ho0, hb⟩; refine ⟨_, rfl, ?_⟩; have n0_ := Aside0.mk (Kd.R_elder' (by (with_reducible repeat (first | apply Kd.R_alloc | apply Kd.R_drewN | apply Kd.R_drew)); exact HO_3.out) (Kd.R_base ho0) hb); have n1_ := Aside0.mk (Kd.R_lower (Kd.R_new' ho0 (Kd.R_lt (by (with_reducible repeat (first | apply Kd.R_alloc | apply Kd.R_drewN | apply Kd.R_drew)); exact HO_3.out))) (below_size (by repeat (first | (with_reducible first | exact HB.out | apply below_alloc | apply pw_below_drewN | apply below_drew1) | exact HB.out)))); have n2_ := Aside0.mk (below_step (by repeat (first | (with_reducible first | exact HB.out | apply below_alloc | apply pw_below_drewN | apply below_drew1) | exact HB.out)) hb); clear HO_3; clear HB; have HO_3 := n0_; have HO149 := n1_; have HB := n2_; clear n0_ n1_ n2_; (try clear hb); (try clear hb2); (try clear hk); (try clear hi); (try clear ho0)))
     go_loopg [3, 4, 7] k1 (fun kq v3 v4 v7 w' => ∃ (x3_2 : List Int) (x4_2 : Int) (x6_2 : List Int) (x7_2 : Int), v4 = .int .i64 x4_2 ∧ v7 = .int .i64 x7_2 ∧ Aside0 (tremaref03_Normal.l1 kq l0 x3_2 x4_2 x5_1 x6_2 x7_2 = some r) ∧ Aside0 (kq ≤ k1) ∧ Aside0 (Kd.R (Kd.int .i32) 21 w' w.heap.size (fun k_ => some k_ ≠ (v148 : Value).ownBlock) v3 x3_2) ∧ Aside0 (Kd.R (Kd.int .i32) 21 w' w.heap.size (fun k_ => some k_ ≠ (v3 : Value).ownBlock) v148 x6_2) ∧ Aside0 (Below w.heap.size w w'))
     case atStart => exact ⟨(x3_1), (x4_1), (t147), (0), (by first | rfl | (simp; done) | (simp [*]; done)), (by first | rfl | (simp; done) | (simp [*]; done)), H', ⟨Nat.le_refl _⟩, ⟨by (with_reducible repeat (first | apply Kd.R_alloc | apply Kd.R_drewN | apply Kd.R_drew)); exact Kd.R_mono HO_3.out (fun _ hk => hk.2)⟩, ⟨by (with_reducible repeat (first | apply Kd.R_alloc | apply Kd.R_drewN | apply Kd.R_drew)); exact Kd.R_mono HO149.out (fun _ hk => hk.2)⟩, ⟨by repeat (first | (with_reducible first | exact HB.out | apply below_alloc | apply pw_below_drewN | apply below_drew1) | exact HB.out)⟩⟩
     case round =>
      clear H'
      try clear p1
      try clear q1
      try clear hx1
      try clear c2
      try clear c2b0
      try clear p2
      try clear c3
      try clear c3b0
      try clear hx146_0
      try clear p146
      try clear q146
      obtain ⟨x3_2, x4_2, x6_2, x7_2, rfl, rfl, HA, HK2, HO_3, HO_6, HB⟩ := hrel
      cases gk with
      | zero => exact absurd HA.out (by simp [tremaref03_Normal.l1])
      | succ k2 =>
       have H := HA.out
       clear HA
       simp only [tremaref03_Normal.l1] at H
       by_cases c6 : x7_2 < (x6_2.length : Int)
       ·rw [if_pos c6] at H
        have c6b0 : decide (x7_2 < (x6_2.length : Int)) = true := decide_eq_true c6
        clear c6
        by_cases c7 : 0 ≤ x7_2
        ·rw [if_pos c7] at H
         have c7b0 : decide (0 ≤ x7_2) = true := decide_eq_true c7
         clear c7
         replace H := Option.bind_eq_some_iff.mp H
         obtain ⟨t151, A80, H⟩ := H
         replace H : (if x3_2.length < 35184372088832 then ((some (x3_2 ++ [rd x6_2 x7_2] : List Int)).bind fun y153 => (if t151 = 0 then (tremaref03_Normal.l1 k2 l0 y153 (y153.length : Int) x5_1 x6_2 (wrap64 (x7_2 + 1))) else (tremaref03_Normal.l2 k2 l0 y153 x4_2 x5_1 x6_2 x7_2 t151 x4_2 (wrap64 ((y153.length : Int) - 1))))) else (none)) = some r := H
         have A8 := Aside0.mk A80
         clear A80
         by_cases c9 : x3_2.length < 35184372088832
         ·rw [if_pos c9] at H
          have LMc9 := Aside0.mk c9
          clear c9
          obtain ⟨y153, hy153⟩ : ∃ y_ : List Int, y_ = (x3_2 ++ [rd x6_2 x7_2]) := ⟨_, rfl⟩
          replace H : (if t151 = 0 then (tremaref03_Normal.l1 k2 l0 y153 (y153.length : Int) x5_1 x6_2 (wrap64 (x7_2 + 1))) else (tremaref03_Normal.l2 k2 l0 y153 x4_2 x5_1 x6_2 x7_2 t151 x4_2 (wrap64 ((y153.length : Int) - 1)))) = some r := by first | (rw [hy153]; with_reducible exact H) | (have H2_ := (Option.bind_some _ _).symm.trans H; rw [hy153]; with_reducible exact H2_) | (have H2_ := (Option.bind_some _ _).symm.trans H; with_reducible exact H2_) | with_reducible exact H | (rw [hy153]; exact H) | exact H
          have Ny153 := Aside0.mk hy153
          clear hy153
          by_cases c10 : t151 = 0
          ·rw [if_pos c10] at H
           have c10b0 : (t151 == 0) = true := beq_iff_eq.mpr c10
           have c10b1 : (t151 != 0) = false := bne_eq_false_iff_eq.mpr c10
           clear c10
           have H' := Aside0.mk H
           clear H
           obtain ⟨Ao11, co11, eo11⟩ := Kd.R_slice HO_6.out
           subst eo11
           have p150 : 0 ≤ (x7_2 : Int) := of_decide_eq_true (by first | (with_reducible assumption) | assumption)
           have q150 : x7_2 < (x6_2.length : Int) := of_decide_eq_true (by first | (with_reducible assumption) | assumption)
           obtain ⟨ad150, e150, hx150_0⟩ := Kd.at_int (Kd.R_reads' HO_6.out).2.2 x7_2 p150 q150
           cases e150
           replace p150 := eq_true p150
           replace q150 := eq_true q150
           go_wp2_with (first | ((with_reducible refine gate_callee (f := 29) rfl ?_); refine goesL_ (some 34) rfl rfl Tryd.func29 (by kernel_rfl) rfl #[.int .i32 (rd x6_2 x7_2)] rfl (by (try simp only [List.map_toArray, List.map_cons, List.map_nil]); first | done | rfl | (simp only [List.length_drop, List.length_take]; rfl)) ?_; (with_reducible refine (tremaref02_Class.calls k2 (rd x6_2 x7_2) t151 _ A8.out).mono ?_); rintro e w' ⟨rfl, ⟨nd, rfl⟩⟩; refine ⟨_, rfl, ?_⟩; have p152 : 0 ≤ (x7_2 : Int) := of_decide_eq_true (by first | (with_reducible assumption) | assumption); have q152 : x7_2 < (x6_2.length : Int) := of_decide_eq_true (by first | (with_reducible assumption) | assumption); obtain ⟨ad152, e152, hx152_0⟩ := Kd.at_int (Kd.R_reads' HO_6.out).2.2 x7_2 p152 q152; obtain rfl : ad150 = ad152 := (by injection e152); replace p152 := eq_true p152; replace q152 := eq_true q152) | ((with_reducible refine gate_builtin (b := .append) (xs := #[.tmp 35, .tmp 40]) rfl ?_); at_builtin; refine Kd.R_append (Kd.int .i32) (w0 := w) w.heap.size rfl (.tmp 35) (.tmp 40) 22 21 (.int .i32 0) 4 rfl Tryd.underlying22 info21 rfl (by decide) (by omega) u3 x3_2 (rd x6_2 x7_2) [.int .i32 (rd x6_2 x7_2)] (fun k_ => some k_ ≠ (.slice (some ad150) x6_2.length co11 : Value).ownBlock) (fun _ => False) rfl rfl ?aP (fun _ hk => hk.elim) ?aF ?aO ?aB ?aS ?aL ?_; (case aP => exact rfl); (case aB => exact (by repeat (first | (with_reducible first | exact HB.out | apply below_alloc | apply pw_below_drewN | apply below_drew1) | exact HB.out))); (case aF => exact (fun k_ hk => Kd.fresh' (Kd.R_lt (by (with_reducible repeat (first | apply Kd.R_alloc | apply Kd.R_drewN | apply Kd.R_drew)); exact HO_6.out)) k_ hk)); (case aO => exact (by (with_reducible repeat (first | apply Kd.R_alloc | apply Kd.R_drewN | apply Kd.R_drew)); exact HO_3.out)); (case aS => exact (below_size (by repeat (first | (with_reducible first | exact HB.out | apply below_alloc | apply pw_below_drewN | apply below_drew1) | exact HB.out)))); (case aL => have := LMc9.out; omega); intro v154 w12 ho hb hg hat; rw [← Ny153.out] at ho; have n0_ := Aside0.mk (Kd.R_after (ok := (fun _ => True)) (by (with_reducible repeat (first | apply Kd.R_alloc | apply Kd.R_drewN | apply Kd.R_drew)); exact Kd.R_mono HO_6.out (fun _ hk => ⟨trivial, hk⟩)) hg hat); have n1_ := Aside0.mk (hb); have n2_ := Aside0.mk (ho); clear HO_6; clear HB; clear HO_3; have HO_6 := n0_; have HB := n1_; have HO155 := n2_; clear n0_ n1_ n2_; clear ho hb hg hat; obtain ⟨Ao13, co13, eo13⟩ := Kd.R_slice HO155.out; subst eo13))
           go_roundg k2
           case measure => have := HK1.out; have := HK2.out; omega
           case rel => exact ⟨(y153), ((y153.length : Int)), (x6_2), (wrap64 (x7_2 + 1)), (by first | rfl | (simp; done) | (simp [*]; done)), (by first | rfl | (simp; done) | (simp [*]; done)), H', ⟨by have := HK1.out; have := HK2.out; omega⟩, ⟨by (with_reducible repeat (first | apply Kd.R_alloc | apply Kd.R_drewN | apply Kd.R_drew)); exact HO155.out⟩, ⟨by (with_reducible repeat (first | apply Kd.R_alloc | apply Kd.R_drewN | apply Kd.R_drew)); exact Kd.R_mono HO_6.out (fun _ hk => hk.2)⟩, ⟨by repeat (first | (with_reducible first | exact HB.out | apply below_alloc | apply pw_below_drewN | apply below_drew1) | exact HB.out)⟩⟩
          ·rw [if_neg c10] at H
           have c10b0 : (t151 == 0) = false := beq_eq_false_iff_ne.mpr c10
           have c10b1 : (t151 != 0) = true := bne_iff_ne.mpr c10
           have H' := Aside0.mk H
           clear H
           obtain ⟨Ao14, co14, eo14⟩ := Kd.R_slice HO_6.out
           subst eo14
           have p150 : 0 ≤ (x7_2 : Int) := of_decide_eq_true (by first | (with_reducible assumption) | assumption)
           have q150 : x7_2 < (x6_2.length : Int) := of_decide_eq_true (by first | (with_reducible assumption) | assumption)
           obtain ⟨ad150, e150, hx150_0⟩ := Kd.at_int (Kd.R_reads' HO_6.out).2.2 x7_2 p150 q150
           cases e150
           replace p150 := eq_true p150
           replace q150 := eq_true q150
           go_wp2_with (first | ((with_reducible refine gate_callee (f := 29) rfl ?_); refine goesL_ (some 34) rfl rfl Tryd.func29 (by kernel_rfl) rfl #[.int .i32 (rd x6_2 x7_2)] rfl (by (try simp only [List.map_toArray, List.map_cons, List.map_nil]); first | done | rfl | (simp only [List.length_drop, List.length_take]; rfl)) ?_; (with_reducible refine (tremaref02_Class.calls k2 (rd x6_2 x7_2) t151 _ A8.out).mono ?_); rintro e w' ⟨rfl, ⟨nd, rfl⟩⟩; refine ⟨_, rfl, ?_⟩; have p152 : 0 ≤ (x7_2 : Int) := of_decide_eq_true (by first | (with_reducible assumption) | assumption); have q152 : x7_2 < (x6_2.length : Int) := of_decide_eq_true (by first | (with_reducible assumption) | assumption); obtain ⟨ad152, e152, hx152_0⟩ := Kd.at_int (Kd.R_reads' HO_6.out).2.2 x7_2 p152 q152; obtain rfl : ad150 = ad152 := (by injection e152); replace p152 := eq_true p152; replace q152 := eq_true q152) | ((with_reducible refine gate_builtin (b := .append) (xs := #[.tmp 35, .tmp 40]) rfl ?_); at_builtin; refine Kd.R_append (Kd.int .i32) (w0 := w) w.heap.size rfl (.tmp 35) (.tmp 40) 22 21 (.int .i32 0) 4 rfl Tryd.underlying22 info21 rfl (by decide) (by omega) u3 x3_2 (rd x6_2 x7_2) [.int .i32 (rd x6_2 x7_2)] (fun k_ => some k_ ≠ (.slice (some ad150) x6_2.length co14 : Value).ownBlock) (fun _ => False) rfl rfl ?aP (fun _ hk => hk.elim) ?aF ?aO ?aB ?aS ?aL ?_; (case aP => exact rfl); (case aB => exact (by repeat (first | (with_reducible first | exact HB.out | apply below_alloc | apply pw_below_drewN | apply below_drew1) | exact HB.out))); (case aF => exact (fun k_ hk => Kd.fresh' (Kd.R_lt (by (with_reducible repeat (first | apply Kd.R_alloc | apply Kd.R_drewN | apply Kd.R_drew)); exact HO_6.out)) k_ hk)); (case aO => exact (by (with_reducible repeat (first | apply Kd.R_alloc | apply Kd.R_drewN | apply Kd.R_drew)); exact HO_3.out)); (case aS => exact (below_size (by repeat (first | (with_reducible first | exact HB.out | apply below_alloc | apply pw_below_drewN | apply below_drew1) | exact HB.out)))); (case aL => have := LMc9.out; omega); intro v154 w15 ho hb hg hat; rw [← Ny153.out] at ho; have n0_ := Aside0.mk (Kd.R_after (ok := (fun _ => True)) (by (with_reducible repeat (first | apply Kd.R_alloc | apply Kd.R_drewN | apply Kd.R_drew)); exact Kd.R_mono HO_6.out (fun _ hk => ⟨trivial, hk⟩)) hg hat); have n1_ := Aside0.mk (hb); have n2_ := Aside0.mk (ho); clear HO_6; clear HB; clear HO_3; have HO_6 := n0_; have HB := n1_; have HO155 := n2_; clear n0_ n1_ n2_; clear ho hb hg hat; obtain ⟨Ao16, co16, eo16⟩ := Kd.R_slice HO155.out; subst eo16))
           go_loopg [9, 10] k2 (fun kq v9 v10 w' => ∃ (x9_3 : Int) (x10_3 : Int), v9 = .int .i64 x9_3 ∧ v10 = .int .i64 x10_3 ∧ Aside0 (tremaref03_Normal.l2 kq l0 y153 x4_2 x5_1 x6_2 x7_2 t151 x9_3 x10_3 = some r) ∧ Aside0 (kq ≤ k2) ∧ Aside0 (Kd.R (Kd.int .i32) 21 w' w.heap.size (fun k_ => some k_ ≠ ((.slice (some ad150) x6_2.length co14) : Value).ownBlock) (.slice Ao16 y153.length co16) y153) ∧ Aside0 (Kd.R (Kd.int .i32) 21 w' w.heap.size (fun k_ => some k_ ≠ ((.slice Ao16 y153.length co16) : Value).ownBlock) (.slice (some ad150) x6_2.length co14) x6_2) ∧ Aside0 (Below w.heap.size w w'))
           case atStart => exact ⟨(x4_2), (wrap64 ((y153.length : Int) - 1)), (by first | rfl | (simp; done) | (simp [*]; done)), (by first | rfl | (simp; done) | (simp [*]; done)), H', ⟨Nat.le_refl _⟩, ⟨by (with_reducible repeat (first | apply Kd.R_alloc | apply Kd.R_drewN | apply Kd.R_drew)); exact HO155.out⟩, ⟨by (with_reducible repeat (first | apply Kd.R_alloc | apply Kd.R_drewN | apply Kd.R_drew)); exact Kd.R_mono HO_6.out (fun _ hk => hk.2)⟩, ⟨by repeat (first | (with_reducible first | exact HB.out | apply below_alloc | apply pw_below_drewN | apply below_drew1) | exact HB.out)⟩⟩
           case round =>
            clear H'
            try clear c1
            try clear p1
            try clear q1
            try clear hx1
            try clear c2
            try clear c2b0
            try clear p2
            try clear c3
            try clear c3b0
            try clear c6
            try clear c6b0
            try clear p6
            try clear c7
            try clear c7b0
            try clear c9
            try clear c10
            try clear c10b0
            try clear c10b1
            try clear p14
            try clear q14
            try clear hx14
            try clear p15
            try clear q15
            try clear hx15
            try clear hx146_0
            try clear hx150_0
            try clear hx152_0
            try clear p1
            try clear p146
            try clear p150
            try clear p152
            try clear p2
            try clear q1
            try clear q146
            try clear q150
            try clear q152
            obtain ⟨x9_3, x10_3, rfl, rfl, HA, HK3, HO_3, HO_6, HB⟩ := hrel
            cases gk with
            | zero => exact absurd HA.out (by simp [tremaref03_Normal.l2])
            | succ k3 =>
             have H := HA.out
             clear HA
             simp only [tremaref03_Normal.l2] at H
             by_cases c17 : x9_3 < x10_3
             ·rw [if_pos c17] at H
              have c17b0 : decide (x9_3 < x10_3) = true := decide_eq_true c17
              clear c17
              obtain ⟨ji18, hji18⟩ : ∃ j_ : Int, (wrap64 (Int.tdiv (wrap64 (x9_3 + x10_3)) 2)) = j_ := ⟨_, rfl⟩
              replace H : (if 0 ≤ (ji18) then (if (ji18) < (y153.length : Int) then ((tremaref02_Class.f k3 (rd y153 (ji18))).bind fun t157 => (if t157 > t151 then (tremaref03_Normal.l2 k3 l0 y153 x4_2 x5_1 x6_2 x7_2 t151 x9_3 ji18) else (tremaref03_Normal.l2 k3 l0 y153 x4_2 x5_1 x6_2 x7_2 t151 (wrap64 ((ji18) + 1)) x10_3))) else (none)) else (none)) = some r := by first | (rw [hji18] at H; exact H) | (simp only [hji18] at H ⊢; exact H)
              have hji18w : (IntKind.i64.wrap (Int.tdiv (wrap64 (x9_3 + x10_3)) 2)) = ji18 := (i64_w _).trans hji18
              by_cases c19 : 0 ≤ (ji18)
              ·rw [if_pos c19] at H
               have c19b0 : decide (0 ≤ (ji18)) = true := decide_eq_true c19
               clear c19
               by_cases c20 : (ji18) < (y153.length : Int)
               ·rw [if_pos c20] at H
                have c20b0 : decide ((ji18) < (y153.length : Int)) = true := decide_eq_true c20
                clear c20
                replace H := Option.bind_eq_some_iff.mp H
                obtain ⟨t157, A210, H⟩ := H
                replace H : (if t157 > t151 then (tremaref03_Normal.l2 k3 l0 y153 x4_2 x5_1 x6_2 x7_2 t151 x9_3 ji18) else (tremaref03_Normal.l2 k3 l0 y153 x4_2 x5_1 x6_2 x7_2 t151 (wrap64 ((ji18) + 1)) x10_3)) = some r := H
                have A21 := Aside0.mk A210
                clear A210
                by_cases c22 : t157 > t151
                ·rw [if_pos c22] at H
                 have c22b0 : decide (t151 < t157) = true := decide_eq_true c22
                 clear c22
                 have H' := Aside0.mk H
                 clear H
                 have p156 : 0 ≤ ((ji18) : Int) := of_decide_eq_true (by first | (with_reducible assumption) | assumption)
                 have q156 : (ji18) < (y153.length : Int) := of_decide_eq_true (by first | (with_reducible assumption) | assumption)
                 obtain ⟨ad156, e156, hx156_0⟩ := Kd.at_int (Kd.R_reads' HO_3.out).2.2 (ji18) p156 q156
                 cases e156
                 replace p156 := eq_true p156
                 replace q156 := eq_true q156
                 go_wp2_with (first | ((with_reducible refine gate_callee (f := 29) rfl ?_); refine goesL_ (some 61) rfl rfl Tryd.func29 (by kernel_rfl) rfl #[.int .i32 (rd y153 (ji18))] rfl (by (try simp only [List.map_toArray, List.map_cons, List.map_nil]); first | done | (simp only [hji18]; rfl) | rfl | (simp only [List.length_drop, List.length_take]; rfl)) ?_; (with_reducible refine (tremaref02_Class.calls k3 (rd y153 (ji18)) t157 _ A21.out).mono ?_); rintro e w' ⟨rfl, ⟨nd, rfl⟩⟩; refine ⟨_, rfl, ?_⟩))
                 go_roundg k3
                 case measure => have := HK1.out; have := HK2.out; have := HK3.out; omega
                 case rel => exact ⟨(x9_3), (ji18), (by first | rfl | (simp; done) | (simp [*]; done)), (by first | rfl | (simp; done) | (simp only [← hji18] <;> (first | rfl | simp)) | (simp [*]; done)), H', ⟨by have := HK1.out; have := HK2.out; have := HK3.out; omega⟩, ⟨by (with_reducible repeat (first | apply Kd.R_alloc | apply Kd.R_drewN | apply Kd.R_drew)); exact HO_3.out⟩, ⟨by (with_reducible repeat (first | apply Kd.R_alloc | apply Kd.R_drewN | apply Kd.R_drew)); exact HO_6.out⟩, ⟨by repeat (first | (with_reducible first | exact HB.out | apply below_alloc | apply pw_below_drewN | apply below_drew1) | exact HB.out)⟩⟩
                ·rw [if_neg c22] at H
                 have c22b0 : decide (t151 < t157) = false := decide_eq_false c22
                 clear c22
                 have H' := Aside0.mk H
                 clear H
                 have p156 : 0 ≤ ((ji18) : Int) := of_decide_eq_true (by first | (with_reducible assumption) | assumption)
                 have q156 : (ji18) < (y153.length : Int) := of_decide_eq_true (by first | (with_reducible assumption) | assumption)
                 obtain ⟨ad156, e156, hx156_0⟩ := Kd.at_int (Kd.R_reads' HO_3.out).2.2 (ji18) p156 q156
                 cases e156
                 replace p156 := eq_true p156
                 replace q156 := eq_true q156
                 go_wp2_with (first | ((with_reducible refine gate_callee (f := 29) rfl ?_); refine goesL_ (some 61) rfl rfl Tryd.func29 (by kernel_rfl) rfl #[.int .i32 (rd y153 (ji18))] rfl (by (try simp only [List.map_toArray, List.map_cons, List.map_nil]); first | done | (simp only [hji18]; rfl) | rfl | (simp only [List.length_drop, List.length_take]; rfl)) ?_; (with_reducible refine (tremaref02_Class.calls k3 (rd y153 (ji18)) t157 _ A21.out).mono ?_); rintro e w' ⟨rfl, ⟨nd, rfl⟩⟩; refine ⟨_, rfl, ?_⟩))
                 go_roundg k3
                 case measure => have := HK1.out; have := HK2.out; have := HK3.out; omega
                 case rel => exact ⟨(wrap64 ((ji18) + 1)), (x10_3), (by first | rfl | (simp; done) | (simp only [← hji18] <;> (first | rfl | simp)) | (simp [*]; done)), (by first | rfl | (simp; done) | (simp [*]; done)), H', ⟨by have := HK1.out; have := HK2.out; have := HK3.out; omega⟩, ⟨by (with_reducible repeat (first | apply Kd.R_alloc | apply Kd.R_drewN | apply Kd.R_drew)); exact HO_3.out⟩, ⟨by (with_reducible repeat (first | apply Kd.R_alloc | apply Kd.R_drewN | apply Kd.R_drew)); exact HO_6.out⟩, ⟨by repeat (first | (with_reducible first | exact HB.out | apply below_alloc | apply pw_below_drewN | apply below_drew1) | exact HB.out)⟩⟩
               ·rw [if_neg c20] at H
                exact absurd H (by simp)
              ·rw [if_neg c19] at H
               exact absurd H (by simp)
             ·rw [if_neg c17] at H
              have c17b0 : decide (x9_3 < x10_3) = false := decide_eq_false c17
              clear c17
              have H' := Aside0.mk H
              clear H
              go_wp2
              go_loopg [12] k3 (fun kq v12 w' => ∃ (x3_4 : List Int) (x12_4 : Int), v12 = .int .i64 x12_4 ∧ Aside0 (tremaref03_Normal.l3 kq l0 x3_4 x4_2 x5_1 x6_2 x7_2 x9_3 x12_4 = some r) ∧ Aside0 (kq ≤ k3) ∧ Aside0 (Kd.R (Kd.int .i32) 21 w' w.heap.size (fun k_ => some k_ ≠ ((.slice (some ad150) x6_2.length co14) : Value).ownBlock) (.slice Ao16 y153.length co16) x3_4) ∧ Aside0 (Kd.R (Kd.int .i32) 21 w' w.heap.size (fun k_ => some k_ ≠ ((.slice Ao16 y153.length co16) : Value).ownBlock) (.slice (some ad150) x6_2.length co14) x6_2) ∧ Aside0 (Below w.heap.size w w'))
              case atStart => exact ⟨(y153), (wrap64 ((y153.length : Int) - 1)), (by first | rfl | (simp; done) | (simp [*]; done)), H', ⟨Nat.le_refl _⟩, ⟨by (with_reducible repeat (first | apply Kd.R_alloc | apply Kd.R_drewN | apply Kd.R_drew)); exact HO_3.out⟩, ⟨by (with_reducible repeat (first | apply Kd.R_alloc | apply Kd.R_drewN | apply Kd.R_drew)); exact HO_6.out⟩, ⟨by repeat (first | (with_reducible first | exact HB.out | apply below_alloc | apply pw_below_drewN | apply below_drew1) | exact HB.out)⟩⟩
              case round =>
               clear H'
               try clear c1
               try clear p1
               try clear q1
               try clear hx1
               try clear c2
               try clear c2b0
               try clear p2
               try clear c3
               try clear c3b0
               try clear c6
               try clear c6b0
               try clear p6
               try clear c7
               try clear c7b0
               try clear c9
               try clear c10
               try clear c10b0
               try clear c10b1
               try clear p14
               try clear q14
               try clear hx14
               try clear p15
               try clear q15
               try clear hx15
               try clear c17
               try clear c17b0
               try clear c19
               try clear c19b0
               try clear c20
               try clear c20b0
               try clear c22
               try clear c22b0
               try clear hx146_0
               try clear hx150_0
               try clear hx152_0
               try clear hx156_0
               try clear p1
               try clear p14
               try clear p146
               try clear p15
               try clear p150
               try clear p152
               try clear p156
               try clear p2
               try clear p6
               try clear q1
               try clear q14
               try clear q146
               try clear q15
               try clear q150
               try clear q152
               try clear q156
               obtain ⟨x3_4, x12_4, rfl, HA, HK4, HO_3, HO_6, HB⟩ := hrel
               have hl3_4 := (Kd.R_reads' HO_3.out).1
               rw [hl3_4] at HO_3
               (try simp only [hl3_4])
               (try simp only [hl3_4] at HO_6)
               cases gk with
               | zero => exact absurd HA.out (by simp [tremaref03_Normal.l3])
               | succ k4 =>
                have H := HA.out
                clear HA
                simp only [tremaref03_Normal.l3] at H
                by_cases c23 : x12_4 > x9_3
                ·rw [if_pos c23] at H
                 have c23b0 : decide (x9_3 < x12_4) = true := decide_eq_true c23
                 clear c23
                 obtain ⟨ji24, hji24⟩ : ∃ j_ : Int, (wrap64 (x12_4 - 1)) = j_ := ⟨_, rfl⟩
                 replace H : (if 0 ≤ (ji24) then (if (ji24) < (x3_4.length : Int) then (if 0 ≤ x12_4 then (if x12_4 < (x3_4.length : Int) then (tremaref03_Normal.l3 k4 l0 (x3_4.set (x12_4 : Int).toNat (rd x3_4 (ji24))) x4_2 x5_1 x6_2 x7_2 x9_3 ji24) else (none)) else (none)) else (none)) else (none)) = some r := by first | (rw [hji24] at H; exact H) | (simp only [hji24] at H ⊢; exact H)
                 have hji24w : (IntKind.i64.wrap (x12_4 - 1)) = ji24 := (i64_w _).trans hji24
                 by_cases c25 : 0 ≤ (ji24)
                 ·rw [if_pos c25] at H
                  have c25b0 : decide (0 ≤ (ji24)) = true := decide_eq_true c25
                  clear c25
                  by_cases c26 : (ji24) < (x3_4.length : Int)
                  ·rw [if_pos c26] at H
                   have c26b0 : decide ((ji24) < (x3_4.length : Int)) = true := decide_eq_true c26
                   clear c26
                   by_cases c27 : 0 ≤ x12_4
                   ·rw [if_pos c27] at H
                    have c27b0 : decide (0 ≤ x12_4) = true := decide_eq_true c27
                    clear c27
                    by_cases c28 : x12_4 < (x3_4.length : Int)
                    ·rw [if_pos c28] at H
                     have c28b0 : decide (x12_4 < (x3_4.length : Int)) = true := decide_eq_true c28
                     clear c28
                     obtain ⟨y159, hy159⟩ : ∃ y_ : List Int, y_ = (x3_4.set (x12_4 : Int).toNat (rd x3_4 (ji24))) := ⟨_, rfl⟩
                     replace H : (tremaref03_Normal.l3 k4 l0 y159 x4_2 x5_1 x6_2 x7_2 x9_3 ji24) = some r := by first | (rw [hy159]; with_reducible exact H) | (have H2_ := (Option.bind_some _ _).symm.trans H; rw [hy159]; with_reducible exact H2_) | (have H2_ := (Option.bind_some _ _).symm.trans H; with_reducible exact H2_) | with_reducible exact H | (rw [hy159]; exact H) | exact H
                     have Ny159 := Aside0.mk hy159
                     clear hy159
                     have H' := Aside0.mk H
                     clear H
                     have p158 : 0 ≤ ((ji24) : Int) := of_decide_eq_true (by first | (with_reducible assumption) | assumption)
                     have q158 : (ji24) < (x3_4.length : Int) := of_decide_eq_true (by first | (with_reducible assumption) | assumption)
                     obtain ⟨ad158, e158, hx158_0⟩ := Kd.at_int (Kd.R_reads' HO_3.out).2.2 (ji24) p158 q158
                     cases e158
                     replace p158 := eq_true p158
                     replace q158 := eq_true q158
                     have p29 : 0 ≤ (x12_4 : Int) := of_decide_eq_true (by first | (with_reducible assumption) | assumption)
                     have q29 : (x12_4 : Int) < ((x3_4.length : Int) : Int) := of_decide_eq_true (by first | (with_reducible assumption) | assumption)
                     obtain ⟨go29, co29, eo29, gb29, gl29, cl29, HG29⟩ := Kd.R_form HO_3.out (by omega)
                     (first | cases eo29 | (injection eo29 with ea_ en_ ec_; (first | subst ea_ | (injection ea_ with ea_; subst ea_)); subst ec_; clear en_))
                     have GB29 := Aside0.mk gb29
                     have GG29 := Aside0.mk HG29
                     clear gb29 gl29 HG29
                     (first | simp only [add_plain] at hx158_0 | skip)
                     obtain ⟨hx29_0, hf29_0⟩ := Kd.R_celln 0 HO_3.out (x12_4 : Int) p29 q29
                     replace p29 := eq_true p29
                     replace q29 := eq_true q29
                     have HP30 := Kd.R_putg HO_3.out (x12_4 : Int) (rd x3_4 (ji24))
                     go_wp2_with (first | ((with_reducible refine gate_store (t := 21) (p := 82) rfl ?_); refine store_event (t := 21) (p := 82) (v := ?vo_w31) (w1 := (wr.setCell ⟨go29, (x12_4 : Int).toNat, none⟩ (.int .i32 (rd x3_4 (ji24))))) ?hg ?ho ?hn ?hr ?_; (case ho => rfl); (case hg => rfl); (case hn => rfl); (case hr => first | (go_simp; done) | (go_simp; rfl)); intro w31 hw; have hg : wr.grownBy w31 (some go29) := (by rw [hw]; exact HP30.2); have hp_ : Kd.R (Kd.int .i32) 21 w31 w.heap.size (fun k_ => some k_ ≠ (.slice (some ad150) x6_2.length co14 : Value).ownBlock) (.slice (some ⟨go29, 0, none⟩) x3_4.length co16) y159 := (by rw [hw, Ny159.out]; exact HP30.1); clear HP30; have n0_ := Aside0.mk (hp_); have n1_ := Aside0.mk (Kd.R_after (v := (.slice (some ⟨go29, 0, none⟩) x3_4.length co16)) (v1 := (.slice (some ⟨go29, 0, none⟩) x3_4.length co16)) (ok := (fun _ => True)) (by (with_reducible repeat (first | apply Kd.R_alloc | apply Kd.R_drewN | apply Kd.R_drew)); exact Kd.R_mono HO_6.out (fun _ hk => ⟨trivial, hk⟩)) hg (.inl rfl)); have n2_ := Aside0.mk ((by rw [hw]; exact below_set (HB.out) GB29.out : Below w.heap.size w w31)); clear HO_3; clear HO_6; clear HB; have HO_3 := n0_; have HO_6 := n1_; have HB := n2_; clear n0_ n1_ n2_; clear hg hw hp_))
                     (try simp only [← hl3_4])
                     go_roundg k4
                     case measure => have := HK1.out; have := HK2.out; have := HK3.out; have := HK4.out; omega
                     case rel => exact ⟨(y159), (ji24), (by first | rfl | (simp; done) | (simp only [← hji24] <;> (first | rfl | simp)) | (simp [*]; done)), H', ⟨by have := HK1.out; have := HK2.out; have := HK3.out; have := HK4.out; omega⟩, ⟨by (try simp only [hl3_4]); (with_reducible repeat (first | apply Kd.R_alloc | apply Kd.R_drewN | apply Kd.R_drew)); exact HO_3.out⟩, ⟨by (try simp only [hl3_4]); (with_reducible repeat (first | apply Kd.R_alloc | apply Kd.R_drewN | apply Kd.R_drew)); exact Kd.R_mono HO_6.out (fun _ hk => hk.2)⟩, ⟨by repeat (first | (with_reducible first | exact HB.out | apply below_alloc | apply pw_below_drewN | apply below_drew1) | exact HB.out)⟩⟩
                    ·rw [if_neg c28] at H
                     exact absurd H (by simp)
                   ·rw [if_neg c27] at H
                    exact absurd H (by simp)
                  ·rw [if_neg c26] at H
                   exact absurd H (by simp)
                 ·rw [if_neg c25] at H
                  exact absurd H (by simp)
                ·rw [if_neg c23] at H
                 have c23b0 : decide (x9_3 < x12_4) = false := decide_eq_false c23
                 clear c23
                 by_cases c32 : 0 ≤ x7_2
                 ·rw [if_pos c32] at H
                  have c32b0 : decide (0 ≤ x7_2) = true := decide_eq_true c32
                  clear c32
                  by_cases c33 : x7_2 < (x6_2.length : Int)
                  ·rw [if_pos c33] at H
                   have c33b0 : decide (x7_2 < (x6_2.length : Int)) = true := decide_eq_true c33
                   clear c33
                   by_cases c34 : 0 ≤ x9_3
                   ·rw [if_pos c34] at H
                    have c34b0 : decide (0 ≤ x9_3) = true := decide_eq_true c34
                    clear c34
                    by_cases c35 : x9_3 < (x3_4.length : Int)
                    ·rw [if_pos c35] at H
                     have c35b0 : decide (x9_3 < (x3_4.length : Int)) = true := decide_eq_true c35
                     clear c35
                     obtain ⟨y161, hy161⟩ : ∃ y_ : List Int, y_ = (x3_4.set (x9_3 : Int).toNat (rd x6_2 x7_2)) := ⟨_, rfl⟩
                     replace H : (tremaref03_Normal.l1 k4 l0 y161 x4_2 x5_1 x6_2 (wrap64 (x7_2 + 1))) = some r := by first | (rw [hy161]; with_reducible exact H) | (have H2_ := (Option.bind_some _ _).symm.trans H; rw [hy161]; with_reducible exact H2_) | (have H2_ := (Option.bind_some _ _).symm.trans H; with_reducible exact H2_) | with_reducible exact H | (rw [hy161]; exact H) | exact H
                     have Ny161 := Aside0.mk hy161
                     clear hy161
                     have H' := Aside0.mk H
                     clear H
                     have p160 : 0 ≤ (x7_2 : Int) := of_decide_eq_true (by first | (with_reducible assumption) | assumption)
                     have q160 : x7_2 < (x6_2.length : Int) := of_decide_eq_true (by first | (with_reducible assumption) | assumption)
                     obtain ⟨ad160, e160, hx160_0⟩ := Kd.at_int (Kd.R_reads' HO_6.out).2.2 x7_2 p160 q160
                     obtain rfl : ad150 = ad160 := (by injection e160)
                     replace p160 := eq_true p160
                     replace q160 := eq_true q160
                     have p36 : 0 ≤ (x9_3 : Int) := of_decide_eq_true (by first | (with_reducible assumption) | assumption)
                     have q36 : (x9_3 : Int) < ((x3_4.length : Int) : Int) := of_decide_eq_true (by first | (with_reducible assumption) | assumption)
                     obtain ⟨go36, co36, eo36, gb36, gl36, cl36, HG36⟩ := Kd.R_form HO_3.out (by omega)
                     (first | cases eo36 | (injection eo36 with ea_ en_ ec_; (first | subst ea_ | (injection ea_ with ea_; subst ea_)); subst ec_; clear en_))
                     have GB36 := Aside0.mk gb36
                     have GG36 := Aside0.mk HG36
                     clear gb36 gl36 HG36
                     obtain ⟨hx36_0, hf36_0⟩ := Kd.R_celln 0 HO_3.out (x9_3 : Int) p36 q36
                     replace p36 := eq_true p36
                     replace q36 := eq_true q36
                     have HP37 := Kd.R_putg HO_3.out (x9_3 : Int) (rd x6_2 x7_2)
                     go_wp2_with (first | ((with_reducible refine gate_store (t := 21) (p := 89) rfl ?_); refine store_event (t := 21) (p := 89) (v := ?vo_w38) (w1 := (wr.setCell ⟨go36, (x9_3 : Int).toNat, none⟩ (.int .i32 (rd x6_2 x7_2)))) ?hg ?ho ?hn ?hr ?_; (case ho => rfl); (case hg => rfl); (case hn => rfl); (case hr => first | (go_simp; done) | (go_simp; rfl)); intro w38 hw; have hg : wr.grownBy w38 (some go36) := (by rw [hw]; exact HP37.2); have hp_ : Kd.R (Kd.int .i32) 21 w38 w.heap.size (fun k_ => some k_ ≠ (.slice (some ad150) x6_2.length co14 : Value).ownBlock) (.slice (some ⟨go36, 0, none⟩) x3_4.length co16) y161 := (by rw [hw, Ny161.out]; exact HP37.1); clear HP37; have n0_ := Aside0.mk (hp_); have n1_ := Aside0.mk (Kd.R_after (v := (.slice (some ⟨go36, 0, none⟩) x3_4.length co16)) (v1 := (.slice (some ⟨go36, 0, none⟩) x3_4.length co16)) (ok := (fun _ => True)) (by (with_reducible repeat (first | apply Kd.R_alloc | apply Kd.R_drewN | apply Kd.R_drew)); exact Kd.R_mono HO_6.out (fun _ hk => ⟨trivial, hk⟩)) hg (.inl rfl)); have n2_ := Aside0.mk ((by rw [hw]; exact below_set (HB.out) GB36.out : Below w.heap.size w w38)); clear HO_3; clear HO_6; clear HB; have HO_3 := n0_; have HO_6 := n1_; have HB := n2_; clear n0_ n1_ n2_; clear hg hw hp_))
                     (try simp only [← hl3_4])
                     go_roundg k4
                     case measure => have := HK1.out; have := HK2.out; have := HK3.out; have := HK4.out; omega
                     case rel => exact ⟨(y161), (x4_2), (x6_2), (wrap64 (x7_2 + 1)), (by first | rfl | (simp; done) | (simp [*]; done)), (by first | rfl | (simp; done) | (simp [*]; done)), H', ⟨by have := HK1.out; have := HK2.out; have := HK3.out; have := HK4.out; omega⟩, ⟨by (try simp only [hl3_4]); (with_reducible repeat (first | apply Kd.R_alloc | apply Kd.R_drewN | apply Kd.R_drew)); exact HO_3.out⟩, ⟨by (try simp only [hl3_4]); (with_reducible repeat (first | apply Kd.R_alloc | apply Kd.R_drewN | apply Kd.R_drew)); exact Kd.R_mono HO_6.out (fun _ hk => hk.2)⟩, ⟨by repeat (first | (with_reducible first | exact HB.out | apply below_alloc | apply pw_below_drewN | apply below_drew1) | exact HB.out)⟩⟩
                    ·rw [if_neg c35] at H
                     exact absurd H (by simp)
                   ·rw [if_neg c34] at H
                    exact absurd H (by simp)
                  ·rw [if_neg c33] at H
                   exact absurd H (by simp)
                 ·rw [if_neg c32] at H
                  exact absurd H (by simp)
         ·rw [if_neg c9] at H
          exact absurd H (by simp)
        ·rw [if_neg c7] at H
         exact absurd H (by simp)
       ·rw [if_neg c6] at H
        have c6b0 : decide (x7_2 < (x6_2.length : Int)) = false := decide_eq_false c6
        clear c6
        have H' := Aside0.mk H
        clear H
        obtain ⟨Ao39, co39, eo39⟩ := Kd.R_slice HO_6.out
        subst eo39
        go_wp2
        go_roundg k2
        case measure => have := HK1.out; have := HK2.out; omega
        case rel => exact ⟨(x3_2), (x4_2), (wrap64 (x5_1 + 1)), (by first | rfl | (simp; done) | (simp [*]; done)), (by first | rfl | (simp; done) | (simp [*]; done)), H', ⟨by have := HK1.out; have := HK2.out; omega⟩, ⟨by (with_reducible repeat (first | apply Kd.R_alloc | apply Kd.R_drewN | apply Kd.R_drew)); exact Kd.R_mono HO_3.out (fun _ hk => trivial)⟩, ⟨by repeat (first | (with_reducible first | exact HB.out | apply below_alloc | apply pw_below_drewN | apply below_drew1) | exact HB.out)⟩⟩
    ·rw [if_neg c3] at H
     exact absurd H (by simp)
   ·rw [if_neg c2] at H
    have c2b0 : decide (x5_1 < (l0.length : Int)) = false := decide_eq_false c2
    clear c2
    obtain rfl := Option.some.inj H
    go_wp2
    go_ret
    exact ⟨_, by first | rfl | (simp [errW_none, errW_some] <;> rfl) | (simp [*, errW_none, errW_some] <;> rfl), by (with_reducible repeat (first | apply Kd.R_alloc | apply Kd.R_drewN | apply Kd.R_drew)); exact HO_3.out, by repeat (first | (with_reducible first | exact HB.out | apply below_alloc | apply pw_below_drewN | apply below_drew1) | exact HB.out)⟩
end Go.Proofs.YtiggjbclbdikmaaDoor.X
namespace Go.Proofs.YtiggjbclbdikmaaDoor.Ob
set_option linter.unusedVariables false
set_option linter.unusedSimpArgs false
open Go.Proofs.YtiggjbclbdikmaaDoor.Vd (decU)
open Go.Proofs.YtiggjbclbdikmaaDoor.Fr (sure sure_of)
open Go.Proofs.YtiggjbclbdikmaaDoor.Nc (K K_take K_drop K_left srt_le)
open Go.RowKit Go.Proofs.YtiggjbclbdikmaaDoorW.PrintWords Go.Proofs.YtiggjbclbdikmaaDoor.Ev0 Go.Proofs.YtiggjbclbdikmaaDoor.X Go.Proofs.YtiggjbclbdikmaaDoor.Va Go.Proofs.YtiggjbclbdikmaaDoor.Vc Go.Proofs.YtiggjbclbdikmaaDoor.Ve Go.Proofs.YtiggjbclbdikmaaDoor.Vp0 Go.Proofs.YtiggjbclbdikmaaDoor.Vr Go.Proofs.YtiggjbclbdikmaaDoor.Vu Go.Proofs.YtiggjbclbdikmaaDoor.Na Go.Proofs.YtiggjbclbdikmaaDoor.Oa
theorem ins_skip (d : Int) (hd : cls d ≠ 0) : ∀ (p s : List Int), (∀ y ∈ p, cls d < cls y) → (s = [] ∨ ∃ z t, s = z :: t ∧ cls z ≤ cls d) → ins d (p ++ s) = p ++ d :: s
  | [], s, _, hs => by
    rcases hs with rfl | ⟨z, t, rfl, hz⟩
    · rfl
    · rw [List.nil_append, ins, if_neg (fun k => by omega)]; rfl
  | y :: p, s, hp, hs => by
    rw [List.cons_append, ins, if_pos ⟨hd, hp y (List.mem_cons_self ..)⟩, ins_skip d hd p s (fun z hz => hp z (List.mem_cons_of_mem _ hz)) hs]
    rfl
theorem K_get {l : List Int} {i : Nat} (h : i < l.length) : K l i = cls l[i] := by unfold K; rw [List.getD_eq_getElem?_getD, List.getElem?_eq_getElem h]; rfl
theorem ins_at (acc : List Int) (d : Int) (hd : cls d ≠ 0) (lo : Nat) (hlo : lo ≤ acc.length) (h1 : ∀ i, lo ≤ i → i < acc.length → cls d < K acc i) (h2 : lo = 0 ∨ K acc (lo - 1) ≤ cls d) :
    (ins d acc.reverse).reverse = acc.take lo ++ d :: acc.drop lo := by
  have e : acc.reverse = (acc.drop lo).reverse ++ (acc.take lo).reverse := by rw [← List.reverse_append, List.take_append_drop]
  rw [e, ins_skip d hd]
  · simp
  · intro y hy
    obtain ⟨i, hi, rfl⟩ := List.getElem_of_mem (List.mem_reverse.1 hy)
    rw [List.length_drop] at hi
    rw [List.getElem_drop]
    have := h1 (lo + i) (by omega) (by omega)
    rwa [K_get (by omega)] at this
  · rcases h2 with rfl | h2
    · exact .inl (by simp)
    · rcases Nat.eq_zero_or_pos lo with rfl | h0
      · exact .inl (by simp)
      · refine .inr ⟨acc[lo - 1], (acc.take (lo - 1)).reverse, ?_, ?_⟩
        · have := List.take_succ_eq_append_getElem (i := lo - 1) (l := acc) (by omega)
          rw [show lo - 1 + 1 = lo by omega] at this
          rw [this]; simp
        · rwa [K_get (by omega)] at h2
theorem w64d {a : Nat} (h0 : 0 < a) (h : a < 4611686018427387904) : wrap64 ((a : Int) - 1) = ((a - 1 : Nat) : Int) := by unfold wrap64; omega
theorem wmid {a b : Nat} (h : a + b < 4611686018427387904) : wrap64 (Int.tdiv (wrap64 ((a : Int) + (b : Int))) 2) = (((a + b) / 2 : Nat) : Int) := by
  have e : wrap64 ((a : Int) + (b : Int)) = ((a + b : Nat) : Int) := by unfold wrap64; omega
  rw [e, show Int.tdiv ((a + b : Nat) : Int) 2 = (((a + b) / 2 : Nat) : Int) by rw [Int.tdiv_eq_ediv_of_nonneg (by omega)]; omega]
  unfold wrap64
  omega
section
variable {x0 : List Int} {x5 : Int} {x6 : List Int} {R : List Int} {acc : List Int} {j f : Nat}
theorem l3Ev (hj : j < x6.length) (hl : acc.length ≤ 1000000000) (hj5 : x6.length ≤ 1000) (lo : Nat) (hlo : lo ≤ acc.length)
    (next : Ev (fun k => tremaref03_Normal.l1 k x0 (acc.take lo ++ x6[j] :: acc.drop lo) (f : Int) x5 x6 ((j + 1 : Nat) : Int)) R) :
    ∀ (q at_ : Nat), at_ = lo + q → at_ ≤ acc.length → ∀ v, Ev (fun k => tremaref03_Normal.l3 k x0 (acc.take at_ ++ v :: acc.drop at_) (f : Int) x5 x6 (j : Int) (lo : Int) (at_ : Int)) R
  | 0, at_, ha, hal, v => by
    obtain rfl : at_ = lo := ha
    have hlen : (acc.take at_ ++ v :: acc.drop at_).length = acc.length + 1 := by simp <;> omega
    refine Ev.step (fun k => tremaref03_Normal.l3.eq_2 ..) ?_
    simp only [if_neg (Int.lt_irrefl _), gt_iff_lt, hlen, if_pos (getLt hj), if_pos (show (0 : Int) ≤ (j : Int) by omega), if_pos (show (0 : Int) ≤ (at_ : Int) by omega), if_pos (show (at_ : Int) < ((acc.length + 1 : Nat) : Int) by omega), rd_nat hj, w64 (i := j) (by omega), Int.toNat_natCast]
    have e : (acc.take at_ ++ v :: acc.drop at_).set at_ x6[j] = acc.take at_ ++ x6[j] :: acc.drop at_ := by
      have : at_ = (acc.take at_).length := by rw [List.length_take]; omega
      conv => lhs; arg 2; rw [this]
      rw [List.set_append_right _ _ (Nat.le_refl _), Nat.sub_self]
      rfl
    rw [e]
    exact next
  | q + 1, at_, ha, hal, v => by
    have hlen : (acc.take at_ ++ v :: acc.drop at_).length = acc.length + 1 := by simp <;> omega
    have hy : acc.take at_ = acc.take (at_ - 1) ++ [acc[at_ - 1]] := by
      have := List.take_succ_eq_append_getElem (i := at_ - 1) (l := acc) (by omega)
      rwa [show at_ - 1 + 1 = at_ by omega] at this
    have hrd : rd (acc.take at_ ++ v :: acc.drop at_) ((at_ - 1 : Nat) : Int) = acc[at_ - 1] := by
      rw [rd_nat (by rw [hlen]; omega), List.getElem_append_left (by rw [List.length_take]; omega), List.getElem_take]
    refine Ev.step (fun k => tremaref03_Normal.l3.eq_2 ..) ?_
    simp only [if_pos (show (at_ : Int) > (lo : Int) by omega), hlen, w64d (a := at_) (by omega) (by omega), hrd, if_pos (show (0 : Int) ≤ ((at_ - 1 : Nat) : Int) by omega), if_pos (show ((at_ - 1 : Nat) : Int) < ((acc.length + 1 : Nat) : Int) by omega), if_pos (show (0 : Int) ≤ (at_ : Int) by omega), if_pos (show (at_ : Int) < ((acc.length + 1 : Nat) : Int) by omega), Int.toNat_natCast]
    have e : (acc.take at_ ++ v :: acc.drop at_).set at_ acc[at_ - 1] = acc.take (at_ - 1) ++ acc[at_ - 1] :: acc.drop (at_ - 1) := by
      have h1 : at_ = (acc.take at_).length := by rw [List.length_take]; omega
      have h2 : acc.drop (at_ - 1) = acc[at_ - 1] :: acc.drop at_ := by
        have := List.drop_eq_getElem_cons (i := at_ - 1) (l := acc) (by omega)
        rwa [show at_ - 1 + 1 = at_ by omega] at this
      conv => lhs; arg 2; rw [h1]
      rw [List.set_append_right _ _ (Nat.le_refl _), Nat.sub_self, h2, List.set_cons_zero, hy, List.append_assoc]
      rfl
    rw [e]
    exact l3Ev hj hl hj5 lo hlo next q (at_ - 1) (by omega) (by omega) _
theorem l2Ev (hj : j < x6.length) (hl : acc.length ≤ 1000000000) (hj5 : x6.length ≤ 1000) (hs : Srt (acc.drop f)) (hf : f ≤ acc.length) (d : Int)
    (next : ∀ lo, f ≤ lo → lo ≤ acc.length → (∀ i, f ≤ i → i < lo → K acc i ≤ cls d) → (∀ i, lo ≤ i → i < acc.length → cls d < K acc i) → Ev (fun k => tremaref03_Normal.l1 k x0 (acc.take lo ++ x6[j] :: acc.drop lo) (f : Int) x5 x6 ((j + 1 : Nat) : Int)) R) :
    ∀ (q lo hi : Nat), hi - lo ≤ q → f ≤ lo → lo ≤ hi → hi ≤ acc.length → (∀ i, f ≤ i → i < lo → K acc i ≤ cls d) → (∀ i, hi ≤ i → i < acc.length → cls d < K acc i) →
      Ev (fun k => tremaref03_Normal.l2 k x0 (acc ++ [x6[j]]) (f : Int) x5 x6 (j : Int) (cls d) (lo : Int) (hi : Int)) R := by
  have stop : ∀ lo : Nat, f ≤ lo → lo ≤ acc.length → (∀ i, f ≤ i → i < lo → K acc i ≤ cls d) → (∀ i, lo ≤ i → i < acc.length → cls d < K acc i) → Ev (fun k => tremaref03_Normal.l2 k x0 (acc ++ [x6[j]]) (f : Int) x5 x6 (j : Int) (cls d) (lo : Int) (lo : Int)) R := by
    intro lo h1 h2 h3 h4
    refine Ev.step (fun k => tremaref03_Normal.l2.eq_2 ..) ?_
    simp only [if_neg (Int.lt_irrefl _), List.length_append, List.length_singleton, w64d (a := acc.length + 1) (by omega) (by omega), Nat.add_sub_cancel]
    have := l3Ev (x0 := x0) (x5 := x5) (R := R) (f := f) hj hl hj5 lo h2 (next lo h1 h2 h3 h4) (acc.length - lo) acc.length (by omega) (Nat.le_refl _) x6[j]
    rw [List.take_length, List.drop_length] at this
    exact this
  intro q
  induction q with
  | zero =>
    intro lo hi h0 h1 h2 h3 h4 h5
    obtain rfl : lo = hi := by omega
    exact stop lo h1 h3 h4 h5
  | succ q ih =>
    intro lo hi h0 h1 h2 h3 h4 h5
    by_cases hlt : lo < hi
    · obtain ⟨m, hm⟩ : ∃ m, m = (lo + hi) / 2 := ⟨_, rfl⟩
      have hm1 : lo ≤ m := by omega
      have hm2 : m < hi := by omega
      have hml : m < acc.length := Nat.lt_of_lt_of_le hm2 h3
      have hmid := wmid (a := lo) (b := hi) (by omega)
      rw [← hm] at hmid
      have hrd : rd (acc ++ [x6[j]]) (m : Int) = acc[m] := by rw [rd_nat (by rw [List.length_append]; exact Nat.lt_add_right _ hml), List.getElem_append_left hml]
      have hK := K_get (l := acc) (i := m) hml
      clear hm
      have hmono : ∀ i i' : Nat, f ≤ i → i ≤ i' → i' < acc.length → K acc i ≤ K acc i' := by
        intro i i' g1 g2 g3
        have := srt_le hs (i := i - f) (j := i' - f) (by omega) (by rw [List.length_drop]; omega)
        rwa [K_drop, K_drop, show f + (i - f) = i by omega, show f + (i' - f) = i' by omega] at this
      refine Ev.step (fun k => tremaref03_Normal.l2.eq_2 ..) ?_
      have g1 : (lo : Int) < (hi : Int) := by omega
      have g2 : (0 : Int) ≤ (m : Int) := by omega
      have g3 : (m : Int) < (((acc ++ [x6[j]]).length : Nat) : Int) := by rw [List.length_append, List.length_singleton]; omega
      simp only [if_pos g1, hmid, if_pos g2, if_pos g3, hrd]
      clear g1 g2 g3 hmid hrd
      refine Ev.bind (clsEv _) ?_
      by_cases hc : cls acc[m] > cls d
      · simp only [if_pos hc]
        exact ih lo m (by omega) h1 hm1 (by omega) h4 (fun i g1 g2 => by have := hmono m i (by omega) g1 g2; omega)
      · simp only [if_neg hc, w64 (i := m) (by omega)]
        exact ih (m + 1) hi (by omega) (by omega) (by omega) h3 (fun i g1 g2 => by have := hmono i m g1 (by omega) (by omega); omega) h5
    · obtain rfl : lo = hi := by omega
      exact stop lo h1 h3 h4 h5
end
def Sg (acc : List Int) (f : Nat) : Prop := f ≤ acc.length ∧ Srt (acc.drop f) ∧ (f = 0 ∨ K acc (f - 1) = 0)
theorem Sg.starter {acc : List Int} {d : Int} (hd : cls d = 0) : Sg (acc ++ [d]) (acc.length + 1) := by
  refine ⟨by simp, by rw [List.drop_eq_nil_of_le (by simp)]; exact List.Pairwise.nil, .inr ?_⟩
  rw [Nat.add_sub_cancel, K_get (by simp)]
  simpa using hd
theorem Sg.mark {acc : List Int} {d : Int} {f lo : Nat} (h : Sg acc f) (h1 : f ≤ lo) (h2 : lo ≤ acc.length) (h3 : ∀ i, f ≤ i → i < lo → K acc i ≤ cls d) (h4 : ∀ i, lo ≤ i → i < acc.length → cls d < K acc i) : Sg (acc.take lo ++ d :: acc.drop lo) f := by
  obtain ⟨g1, g2, g3⟩ := h
  refine ⟨by simp <;> omega, ?_, ?_⟩
  · have e : (acc.take lo ++ d :: acc.drop lo).drop f = (acc.drop f).take (lo - f) ++ d :: acc.drop lo := by
      rw [List.drop_append_of_le_length (by rw [List.length_take]; omega), List.drop_take]
    have e2 : acc.drop f = (acc.drop f).take (lo - f) ++ acc.drop lo := by
      have := (List.take_append_drop (lo - f) (acc.drop f)).symm
      rwa [List.drop_drop, show f + (lo - f) = lo by omega] at this
    rw [e]
    rw [e2] at g2
    obtain ⟨p1, p2, p3⟩ := List.pairwise_append.1 g2
    have q1 : ∀ x ∈ (acc.drop f).take (lo - f), cls x ≤ cls d := fun x hx => by
      obtain ⟨i, hi, rfl⟩ := List.getElem_of_mem hx
      rw [List.length_take, List.length_drop] at hi
      rw [List.getElem_take, List.getElem_drop]
      have := h3 (f + i) (by omega) (by omega)
      rwa [K_get (by omega)] at this
    have q2 : ∀ y ∈ acc.drop lo, cls d < cls y := fun x hx => by
      obtain ⟨i, hi, rfl⟩ := List.getElem_of_mem hx
      rw [List.length_drop] at hi
      rw [List.getElem_drop]
      have := h4 (lo + i) (by omega) (by omega)
      rwa [K_get (by omega)] at this
    refine List.pairwise_append.2 ⟨p1, List.pairwise_cons.2 ⟨fun y hy => Int.le_of_lt (q2 y hy), p2⟩, fun x hx y hy => ?_⟩
    rcases List.mem_cons.1 hy with rfl | hy
    · exact q1 x hx
    · exact p3 x hx y hy
  · rcases g3 with g3 | g3
    · exact .inl g3
    · rcases Nat.eq_zero_or_pos f with h0 | h0
      · exact .inl h0
      · refine .inr ?_
        rw [K_left (by rw [List.length_take]; omega), K_take (by omega)]
        exact g3
theorem ordL_snoc (l : List Int) (d : Int) : ordL (l ++ [d]) = (ins d (ordL l).reverse).reverse := by
  unfold ordL
  rw [ordR_snoc, List.reverse_reverse]
theorem l1Ev {x0 : List Int} {i : Nat} {x6 : List Int} {R : List Int} (done : List Int) (hl : (done ++ x6).length ≤ 1000000000) (hj5 : x6.length ≤ 1000)
    (next : ∀ f, Sg (ordL (done ++ x6)) f → Ev (fun k => tremaref03_Normal.l0 k x0 (ordL (done ++ x6)) (f : Int) (wrap64 ((i : Int) + 1))) R) :
    ∀ q j : Nat, j + q = x6.length → ∀ f, Sg (ordL (done ++ x6.take j)) f → Ev (fun k => tremaref03_Normal.l1 k x0 (ordL (done ++ x6.take j)) (f : Int) (i : Int) x6 (j : Int)) R := by
  intro q
  induction q with
  | zero =>
    intro j hj f hs
    obtain rfl : j = x6.length := hj
    rw [List.take_length] at hs ⊢
    refine Ev.step (fun k => tremaref03_Normal.l1.eq_2 ..) ?_
    simp only [if_neg (Int.lt_irrefl _)]
    exact next f hs
  | succ q ih =>
    intro j hj f hs
    have hjl : j < x6.length := by omega
    have hal : (ordL (done ++ x6.take j)).length ≤ 1000000000 := by
      rw [ordL_len]
      rw [List.length_append] at hl ⊢
      rw [List.length_take]
      omega
    have e : ordL (done ++ x6.take (j + 1)) = (ins x6[j] (ordL (done ++ x6.take j)).reverse).reverse := by rw [List.take_succ_eq_append_getElem hjl, ← List.append_assoc, ordL_snoc]
    have ih := ih (j + 1) (by omega)
    obtain ⟨acc, hacc⟩ : ∃ acc, acc = ordL (done ++ x6.take j) := ⟨_, rfl⟩
    rw [← hacc] at hs hal e ⊢
    rw [e] at ih
    clear e hacc
    refine Ev.step (fun k => tremaref03_Normal.l1.eq_2 ..) ?_
    simp only [if_pos (getLt hjl), if_pos (show (0 : Int) ≤ (j : Int) by omega), rd_nat hjl]
    refine Ev.bind (clsEv _) ?_
    simp only [if_pos (show acc.length < 35184372088832 by omega), Option.bind_some]
    by_cases hd : cls x6[j] = 0
    · simp only [if_pos hd, w64 (i := j) (by omega)]
      have e2 : (ins x6[j] acc.reverse).reverse = acc ++ [x6[j]] := by rw [ins_zero hd]; simp
      rw [e2] at ih
      have := ih (acc.length + 1) (Sg.starter hd)
      rw [List.length_append, List.length_singleton]
      exact this
    · simp only [if_neg hd, List.length_append, List.length_singleton, w64d (a := acc.length + 1) (by omega) (by omega), Nat.add_sub_cancel]
      refine l2Ev hjl hal hj5 hs.2.1 hs.1 x6[j] ?_ (acc.length - f) f acc.length (by omega) (Nat.le_refl _) hs.1 (Nat.le_refl _) (fun i g1 g2 => by omega) (fun i g1 g2 => by omega)
      intro lo g1 g2 g3 g4
      have e2 := ins_at acc x6[j] hd lo g2 g4 (by
        rcases Nat.eq_zero_or_pos lo with h | h
        · exact .inl h
        · refine .inr ?_
          rcases Nat.lt_or_ge f lo with h2 | h2
          · exact g3 (lo - 1) (by omega) (by omega)
          · obtain rfl : lo = f := by omega
            rcases hs.2.2 with h3 | h3
            · omega
            · rw [h3]; exact cls_nonneg _)
      rw [e2] at ih
      exact ih f (hs.mark g1 g2 g3 g4)
theorem refNEv (l : List Int) (hwf : ∀ x ∈ l, I32 x) (hl : l.length ≤ 100000000) : Ev (fun k => tremaref03_Normal.f k l) (nrm l) := by
  unfold tremaref03_Normal.f
  have key : ∀ q i : Nat, i + q = l.length → ∀ f, Sg (ordL (flat (l.take i))) f → Ev (fun k => tremaref03_Normal.l0 k l (ordL (flat (l.take i))) (f : Int) (i : Int)) (nrm l) := by
    intro q
    induction q with
    | zero =>
      intro i hi f hs
      obtain rfl : i = l.length := hi
      rw [List.take_length]
      refine Ev.step (fun k => tremaref03_Normal.l0.eq_2 ..) ?_
      simp only [if_neg (Int.lt_irrefl _)]
      exact Ev.now _
    | succ q ih =>
      intro i hi f hs
      have hil : i < l.length := by omega
      have hx := hwf l[i] (List.getElem_mem hil)
      have e : flat (l.take (i + 1)) = flat (l.take i) ++ decU l[i] := by
        rw [List.take_succ_eq_append_getElem hil, flat_app]
        simp [flat]
      have h1 := flat_len (l.take (i + 1)) (fun x hx => hwf x (List.mem_of_mem_take hx))
      rw [e, List.length_take] at h1
      have h2 := dec_len3 l[i] hx
      have ih := ih (i + 1) (by omega)
      rw [e] at ih
      refine Ev.step (fun k => tremaref03_Normal.l0.eq_2 ..) ?_
      simp only [if_pos (getLt hil), if_pos (show (0 : Int) ≤ (i : Int) by omega), rd_nat hil]
      refine Ev.bind (refdec _ hx) ?_
      have := l1Ev (x0 := l) (i := i) (x6 := decU l[i]) (R := nrm l) (flat (l.take i)) (by omega) (by omega) (fun f hf => by rw [w64 (i := i) (by omega)]; exact ih f hf) (decU l[i]).length 0 (by omega) f (by rw [List.take_zero, List.append_nil]; exact hs)
      rw [List.take_zero, List.append_nil] at this
      exact this
  exact key l.length 0 (by omega) 0 ⟨Nat.zero_le _, List.Pairwise.nil, .inl rfl⟩
end Go.Proofs.YtiggjbclbdikmaaDoor.Ob
namespace Go.Proofs.YtiggjbclbdikmaaDoor.Fr
set_option linter.unusedVariables false
set_option linter.unusedSimpArgs false
open Go.RowKit Go.Proofs.YtiggjbclbdikmaaDoorW.PrintWords Go.Proofs.YtiggjbclbdikmaaDoorW.PrintLast Go.Proofs.YtiggjbclbdikmaaDoorW.PrintMore Go.Proofs.YtiggjbclbdikmaaDoor.Hp Go.Proofs.YtiggjbclbdikmaaDoor.Va Go.Proofs.YtiggjbclbdikmaaDoor.Vd Go.Proofs.YtiggjbclbdikmaaDoor.Ve Go.Proofs.YtiggjbclbdikmaaDoor.Na Go.Proofs.YtiggjbclbdikmaaDoor.Nb Go.Proofs.YtiggjbclbdikmaaDoor.Nc Go.Proofs.YtiggjbclbdikmaaDoor.Ns Go.Proofs.YtiggjbclbdikmaaDoor.Ng Go.Proofs.YtiggjbclbdikmaaDoor.X
def WritePost (w : World) (g base : Nat) (all : List Int) (e : Ending) (w' : World) : Prop :=
  ∃ A, e = .returned (.slice A (sure all) (sure all)) ∧ Row w' A (sure all) (ordL (all.take (sure all))) ∧ (∀ ad, A = some ad → w.heap.size ≤ ad.block) ∧
    IsForm g base (all.drop (sure all)) false (fun b => b = g ∨ (w.heap.size ≤ b ∧ ∀ ad, A = some ad → b ≠ ad.block)) w' ∧ Chg (fun b => b = g) w w'
theorem own_R {w : World} {base : Nat} {e : TypeId} {v : Value} {xs : List Int} (h : w.ownsRow base e 1 v xs.length (nums .i32 xs)) : K3.R e w base (fun b => base ≤ b) v xs :=
  Kd.R_of_own (enc := Value.int .i32) (h1 := fun _ => rfl) h (fun k hk => own_base h k hk)
theorem cut3 (A : Option Addr) (n c m : Nat) (hm : m ≤ n) : ∃ A' : Option Addr, (∀ W : World, (Instr.slice 22 (.slice A n c) (some (.int .i64 (m : Int))) none none).run Tryd.prog W = .ok (.slice A' (n - m) (c - m)) W) ∧
    ∀ (w : World) (xs : List Int), n ≤ c → ReadsInt w .i32 A n xs → ReadsInt w .i32 A' (n - m) (xs.drop m) := by
  obtain ⟨i, hi, hs⟩ := Option.map_eq_some_iff.1 info21
  have hsz : i.size = 1 := by have := congrArg (fun q => q.2.1) hs; simpa using this
  obtain ⟨A', h1, h2⟩ := print_cut (P := Tryd.prog) 22 21 .i64 Tryd.underlying22 hi hsz A n c m hm
  exact ⟨A', h1, fun w xs => h2 w .i32 xs⟩
theorem form_end {w w5 w6 wr : World} {g base : Nat} {kv v5 : Value} {ys : List Int} (F5 : w5.heap[g]? = some (.cells #[kv, .bool false] TF (0, 0))) (P1 : K3.R T3 w5 wr.heap.size (fun b => wr.heap.size ≤ b) v5 ys)
    (hg : g < w.heap.size) (hw : w.heap.size ≤ wr.heap.size) (hbg : base ≤ g) (A : Option Addr) (hA : ∀ ad, A = some ad → ad.block < wr.heap.size ∧ ad.block ≠ g)
    (c6 : Chg (fun b => ∃ ad, A = some ad ∧ b = ad.block) (w5.setCell ⟨g, 0, none⟩ v5) w6) : IsForm g base ys false (fun b => b = g ∨ (w.heap.size ≤ b ∧ ∀ ad, A = some ad → b ≠ ad.block)) w6 := by
  have ch5 : Chg (fun b => b = g) w5 (w5.setCell ⟨g, 0, none⟩ v5) := (Chg.refl (fun b => b = g) w5).setCell (p := ⟨g, 0, none⟩) (.inl rfl) _
  have b6 := c6.heap (blk_set F5 0 v5) (fun ⟨ad, e, h⟩ => (hA ad e).2 h.symm)
  refine ⟨v5, by simpa using b6, hbg, .inl rfl, ?_⟩
  have r1 := R_chg P1 ch5 (fun k hk h => by omega)
  have r2 := R_chg r1 c6 (fun k hk ⟨ad, e, h⟩ => by have := (hA ad e).1; omega)
  exact Kd.R_mono (Kd.R_lower r2 (by omega)) (fun k hk => ⟨.inr ⟨by omega, fun ad e h => by have := (hA ad e).1; omega⟩, by omega⟩)
set_option maxRecDepth 100000 in
set_option maxHeartbeats 8000000 in
theorem Write (w : World) (hG : G w) (g base : Nat) (kept : List Int) (ok : Nat → Prop) (h : IsForm g base kept false ok w) (hb3 : 3 ≤ base) (A : Option Addr) (n c : Nat) (l : List Int) (hC : K3.C w A n l) (hnc : n ≤ c) (hwf : ∀ x ∈ l, -2147483648 ≤ x ∧ x ≤ 2147483647) (hsz : (kept ++ l.flatMap decU).length ≤ 1000000000000) :
    Calls Tryd.prog 31 #[.pointer (some ⟨g, 0, none⟩), .slice A n c] w (WritePost w g base (kept ++ l.flatMap decU)) := by
  obtain ⟨all, hall⟩ : ∃ all, all = kept ++ l.flatMap decU := ⟨_, rfl⟩
  rw [← hall] at hsz ⊢
  have HALL := Aside0.mk hall
  obtain ⟨kv, h1, h2, h3, h4⟩ := h
  obtain ⟨A0, c0, rfl, hc0, hrow, hA⟩ := Row.of h4
  have hkl : kept.length ≤ 1000000000000 := by rw [hall, List.length_append] at hsz; omega
  have hr0 := rdint (hrow.C (by omega))
  have c1 : w.cell? ⟨g, 0, none⟩ = some (.slice A0 kept.length c0) := by simp [World.cell?, h1]
  have c2 : w.cell? ⟨g, 1, none⟩ = some (.bool false) := by simp [World.cell?, h1]
  have HCl := Aside0.mk (Clint32.clone w A0 kept.length c0 kept hr0 (by omega))
  have hn := (rdint hC).1
  obtain ⟨L, hL⟩ : ∃ L, L = kept.length := ⟨_, rfl⟩
  rw [← hL] at c1 HCl
  have HG := Aside0.mk hG
  have HF := Aside0.mk h1
  have HC := Aside0.mk hC
  have HWF := Aside0.mk hwf
  have HSZ := Aside0.mk hsz
  have HN := Aside0.mk hn
  have HL := Aside0.mk hL
  have H23 := Aside0.mk (And.intro h2 (And.intro h3 (And.intro hb3 (blk_lt h1))))
  have HLL := Aside0.mk (show l.length ≤ 1000000000000 by
    have : l.length ≤ (l.flatMap decU).length := by
      clear hall HALL hsz hwf hC hn HCl HC HWF HSZ HN
      induction l with
      | nil => simp
      | cons x t ih =>
        have := List.length_pos_iff.2 (decF_ne 4 x)
        have e : (decU x).length = (decF 4 x).length := rfl
        rw [List.flatMap_cons, List.length_append, List.length_cons, e]
        omega
    rw [hall, List.length_append] at hsz
    omega)
  clear hall hG h1 h2 h3 h4 hc0 hrow hA hkl hr0 hC hwf hsz hn hL hb3
  go_enter Tryd.func31, Tryd.ntmps31
  go_upto_region 4 with (first | (go_at_call 61; go_must (refine HCl.out.mono ?_; rintro e w1 ⟨v, rfl, p1, p2⟩; have HO := Aside0.mk (show K3.R T3 w1 w.heap.size (fun _ => True) v kept by have h := p1; rw [HL.out] at h; exact Kd.R_mono (own_R h) (fun _ _ => trivial)); have HB := Aside0.mk p2; clear p1 p2)))
  go_wp2
  go_loopw [5, 24] (fun v5 v24 wr => ∃ (i : Nat) (xs : List Int), v24 = .int .i64 i ∧ i ≤ n ∧ Aside0 (xs = kept ++ (l.take i).flatMap decU) ∧ Aside0 (K3.R T3 wr w.heap.size (fun _ => True) v5 xs) ∧ Aside0 (Below w.heap.size w wr)) (fun _ v24 _ => n - (intOf v24).toNat)
  case atStart => exact ⟨0, kept, rfl, Nat.zero_le _, ⟨by simp⟩, HO, HB⟩
  case round =>
    clear HO HB
    obtain ⟨i, xs, rfl, hi, HX, HO_3, HB⟩ := hrel
    by_cases hlt : i < n
    · have hd : decide ((i : Int) < (n : Int)) = true := decide_eq_true (by omega)
      have hd2 : decide (i < n) = true := decide_eq_true hlt
      have hil : i < l.length := by have := HN.out; omega
      obtain ⟨ad, rfl, hx⟩ := Kd.at_int HC.out (i : Int) (by omega) (by omega)
      rw [show rd l (i : Int) = l[i] by unfold rd; simp [List.getD_eq_getElem?_getD, List.getElem?_eq_getElem hil], Int.toNat_natCast] at hx
      have hx := (HB.out.cell (World.block_lt_of_cell? w _ hx)).trans hx
      have hn0 : (0 : Int) ≤ (i : Int) := by omega
      have hn1 : (i : Int) < (n : Int) := by omega
      have hnl : n ≤ 1000000000000 := by have := HN.out; have := HLL.out; omega
      obtain ⟨y, hy⟩ : ∃ y : List Int, y = xs ++ decU l[i] := ⟨_, rfl⟩
      have HY := Aside0.mk hy
      have hyl : y = kept ++ (l.take (i + 1)).flatMap decU := by rw [hy, HX.out, List.take_succ_eq_append_getElem hil, List.flatMap_append, List.append_assoc]; simp
      have HYl := Aside0.mk hyl
      have LM := Aside0.mk (show xs.length + (decU l[i]).length < 35184372088832 by
        have h1 := HSZ.out
        have h2 : all.length = y.length + ((l.drop (i + 1)).flatMap decU).length := by
          rw [HALL.out, hyl, ← List.take_append_drop (i + 1) l, List.flatMap_append]
          simp only [List.length_append, List.take_append_drop]
          omega
        have h3 : y.length = xs.length + (decU l[i]).length := by rw [hy, List.length_append]
        omega)
      have A5 := Aside0.mk (show ucd_Decompose.f l[i] = some (decU l[i]) by unfold ucd_Decompose.f; rw [if_pos (HWF.out _ (List.getElem_mem hil))])
      clear hy hyl
      go_wp2_with (first | (go_at_call 53; go_must ((with_reducible refine (ucd_Decompose.calls l[i] (decU l[i]) _ A5.out (Va.G.below HG.out HB.out)).mono ?_); rintro e w7 ⟨v232, rfl, ho0, hb⟩; have n0_ := Aside0.mk (Kd.R_elder' (by (with_reducible repeat (first | apply Kd.R_alloc | apply Kd.R_drewN | apply Kd.R_drew)); exact HO_3.out) (Kd.R_base ho0) hb); have n1_ := Aside0.mk (Kd.R_lower (Kd.R_new' ho0 (Kd.R_lt (by (with_reducible repeat (first | apply Kd.R_alloc | apply Kd.R_drewN | apply Kd.R_drew)); exact HO_3.out))) HB.out.size); have n2_ := Aside0.mk (below_step HB.out hb); clear HO_3; clear HB; have HO_3 := n0_; have HO233 := n1_; have HB := n2_; clear n0_ n1_ n2_; (try clear hb); (try clear ho0); obtain ⟨Ao9, co9, eo9⟩ := Kd.R_slice HO233.out; subst eo9)) | (at_builtin; go_must (refine Kd.R_append_rows K3 (w0 := w) w.heap.size rfl (.tmp 28) (.tmp 30) 22 21 (.int .i32 0) 4 rfl Tryd.underlying22 info21 rfl (by decide) (by omega) u5 xs (decU l[i]) _ _ _ (fun k_ => some k_ ≠ (.slice Ao9 (decU l[i]).length co9 : Value).ownBlock) (fun _ => False) rfl rfl ?aO ?aR (fun _ _ h => h) (fun _ h => h.elim) ?aF ?aB ?aS ?aL ?_; (case aR => exact (Kd.R_reads' HO233.out).2.2); (case aB => exact HB.out); (case aF => exact (fun k_ hk => Kd.fresh' (Kd.R_lt HO233.out) k_ hk)); (case aO => exact Kd.R_mono HO_3.out (fun _ hk => hk.2)); (case aS => exact HB.out.size); (case aL => have := LM.out; omega); intro v235 w8 ho hb hg hat; rw [← HY.out] at ho; have n1_ := Aside0.mk hb; have n2_ := Aside0.mk ho; clear HO233; clear HB; clear HO_3; have HB := n1_; have HO236 := n2_; clear n1_ n2_; clear ho hb hg hat)))
      go_roundw
      case rel => exact ⟨i + 1, y, by go_num, by omega, HYl, ⟨Kd.R_mono HO236.out (fun _ _ => trivial)⟩, HB⟩
      case measure => simp [intOf] <;> omega
    · have hd : decide ((i : Int) < (n : Int)) = false := decide_eq_false (by omega)
      have hd2 : decide (i < n) = false := decide_eq_false hlt
      go_upto_region 9 with (fail)
      have hxs : xs = all := by have := HN.out; rw [HX.out, HALL.out, List.take_of_length_le (by omega)]
      subst hxs
      obtain ⟨Aa, ca, rfl, hca, hrow, hAa⟩ := Row.of HO_3.out
      obtain ⟨M, hM⟩ : ∃ M, M = xs.length := ⟨_, rfl⟩
      have HM := Aside0.mk hM
      have hM5 : M ≤ 1000000000000 := by have := HSZ.out; omega
      rw [← hM]
      rw [← hM] at hca
      have HAa := Aside0.mk hAa
      clear HO_3 HX hM hAa HCl c1 c2 hd hd2 hlt hi
      rcases hrow with ⟨rfl, h0, rfl⟩ | ⟨ga, post, rfl, hR, h1, h2⟩
      · subst h0
        have hM0 : M = 0 := HM.out
        subst hM0
        go_wp2
        go_loopw [8] (fun v8 wr => v8 = .int .i64 0 ∧ Aside0 (Below w.heap.size w wr)) (fun _ _ => 0)
        case atStart => exact ⟨rfl, HB⟩
        case round =>
          clear HB
          obtain ⟨rfl, HB⟩ := hrel
          have HCl2 := Aside0.mk (Clint32.clone wr none 0 0 [] ⟨rfl, by omega, fun h => by omega⟩ (by omega))
          go_upto_region 13 with (first | (go_at_call 61; go_must (refine HCl2.out.mono ?_; rintro e w5 ⟨v5, rfl, p1, p2⟩; have P1 := Aside0.mk (own_R (xs := []) p1); have HB5 := Aside0.mk (below_step HB.out p2); have hb5 := blk_below HF.out HB5.out; have F5 := Aside0.mk hb5; (have c5 : w5.cell? ⟨g, 0, none⟩ = some (.slice A0 kept.length c0) := (by simp [World.cell?, hb5])); (have f5 : w5.frozen? ⟨g, 0, none⟩ = false := (by simp [World.frozen?, hb5])); clear p1 p2 hb5; obtain ⟨A5, ca5, e5⟩ := Kd.R_slice P1.out; subst e5)))
          have HCall := Aside0.mk (OrdN (w5.setCell ⟨g, 0, none⟩ (.slice A5 ([] : List Int).length ca5)))
          go_wp2_with (first | (go_at_call 54; go_must (refine HCall.out.mono ?_; rintro e w6 ⟨rfl, p1⟩; have HC6 := Aside0.mk p1; clear p1)))
          go_ret
          have ch5 : Chg (fun b => b = g) w5 (w5.setCell ⟨g, 0, none⟩ (.slice A5 ([] : List Int).length ca5)) := (Chg.refl (fun b => b = g) w5).setCell (p := ⟨g, 0, none⟩) (.inl rfl) _
          refine ⟨none, rfl, .inl ⟨rfl, rfl, rfl⟩, fun _ h => (by cases h), form_end F5.out P1.out H23.out.2.2.2 HB.out.size H23.out.1 none (fun _ h => (by cases h)) (HC6.out.mono (fun _ _ h => h.elim)), ?_⟩
          exact ((Chg.of_below HB5.out (fun k h1 h2 => by omega)).trans ch5 (fun _ _ h => h)).trans HC6.out (fun _ _ h => h.elim)
      · go_wp2
        go_loopw [8] (fun v8 wr => ∃ N : Nat, v8 = .int .i64 N ∧ N ≤ M ∧ Aside0 (∀ x ∈ xs.drop N, cls x ≠ 0) ∧ Aside0 (Reg wr ga [] post xs) ∧ Aside0 (Below w.heap.size w wr)) (fun v8 _ => (intOf v8).toNat)
        case atStart => exact ⟨M, rfl, Nat.le_refl _, ⟨by rw [HM.out]; simp⟩, ⟨hR⟩, HB⟩
        case round =>
          clear HB hR
          obtain ⟨N, rfl, hNM, HK, HR, HB⟩ := hrel
          rcases Nat.eq_zero_or_pos N with h0 | h0
          · subst h0
            have q1 : decide ((0 : Int) < ((0 : Nat) : Int)) = false := rfl
            have HS := Aside0.mk (sure_of (Nat.zero_le _) HK.out (.inl rfl))
            clear HK
            obtain ⟨A1, hcut, hA1⟩ := cut3 (some ⟨ga, 0, none⟩) M ca (0) (by omega)
            have hcut : ∀ W : World, (Instr.slice 22 (.slice (some ⟨ga, 0, none⟩) M ca) (some (.int .i64 (0))) none none).run Tryd.prog W = .ok (.slice A1 (M - (0)) (ca - (0))) W := fun W => by have := hcut W; simpa using this
            have hrd := hA1 _ xs hca (by rw [HM.out]; exact rdint (Row.C (.inr ⟨ga, post, rfl, HR.out, h1, h2⟩) (by have := HM.out; omega)))
            have HCl2 := Aside0.mk (Clint32.clone _ A1 (M - (0)) (ca - (0)) (xs.drop (0)) hrd (by omega))
            have hga : w.heap.size ≤ ga := (HAa.out _ rfl).1
            have HGA := Aside0.mk (And.intro hga HR.out.lt)
            have HMM := Aside0.mk (And.intro hca (And.intro h1 h2))
            have g1 : (0 : Int) ≤ (0 : Int) := by omega
            have g2 : (0 : Int) ≤ (M : Int) := by omega
            have g3 : (0 : Int) ≤ (ca : Int) := by omega
            clear hA1 hrd hga h1 h2
            go_upto_region 13 with (first | (go_at_call 61; go_must (refine HCl2.out.mono ?_; rintro e w5 ⟨v5, rfl, p1, p2⟩; have P1 := Aside0.mk (own_R p1); have HR5 := Aside0.mk (HR.out.below p2); have HB5 := Aside0.mk (below_step HB.out p2); have hb5 := blk_below HF.out HB5.out; have F5 := Aside0.mk hb5; (have c5 : w5.cell? ⟨g, 0, none⟩ = some (.slice A0 kept.length c0) := (by simp [World.cell?, hb5])); (have f5 : w5.frozen? ⟨g, 0, none⟩ = false := (by simp [World.frozen?, hb5])); clear p1 p2 hb5; obtain ⟨A5, ca5, e5⟩ := Kd.R_slice P1.out; obtain ⟨q5, hq5⟩ : ∃ q5, q5 = (xs.drop (0)).length := ⟨_, rfl⟩; rw [← hq5] at e5; subst e5; clear hq5)))
            have hne : ga ≠ g := by have := HGA.out.1; have := H23.out.2.2.2; omega
            have ch5 : Chg (fun b => b = g) w5 (w5.setCell ⟨g, 0, none⟩ (.slice A5 q5 ca5)) := (Chg.refl (fun b => b = g) w5).setCell (p := ⟨g, 0, none⟩) (.inl rfl) _
            have HCall := Aside0.mk (OrdC (w5.setCell ⟨g, 0, none⟩ (.slice A5 q5 ca5)) (G_chg (HG.out.below HB5.out) ch5 (fun k hk e => by have := H23.out.2.2.1; have := H23.out.1; omega)) (some ⟨ga, 0, none⟩) (0) (xs.take (0)) (.inr ⟨ga, nums .i32 (xs.drop (0)) ++ post, rfl, Reg.mid (pre := []) (P := []) (S := xs.take (0)) (Q := xs.drop (0)) (by rw [List.nil_append, List.take_append_drop]; exact HR5.out.chg ch5 hne), (by rw [List.length_take]; omega), (by have := HMM.out.2.2; omega)⟩) (fun ad e => by cases e; have := H23.out.2.2.1; have := H23.out.1; have := HGA.out.1; have := H23.out.2.2.2; show 3 ≤ ga; omega) (0) (by have := HM.out; rw [List.length_take]; omega) (by omega))
            have HCh5 := Aside0.mk ch5
            have HNE := Aside0.mk hne
            clear ch5 hne
            go_wp2_with (first | (go_at_call 54; go_must (refine HCall.out.mono ?_; rintro e w6 ⟨rfl, p1, p2⟩; have HC6 := Aside0.mk p1; have HR6 := Aside0.mk p2; clear p1 p2)))
            go_ret
            unfold WritePost
            rw [HS.out]
            refine ⟨some ⟨ga, 0, none⟩, rfl, HR6.out, fun ad e => (by cases e; exact HGA.out.1), form_end F5.out P1.out H23.out.2.2.2 HB.out.size H23.out.1 (some ⟨ga, 0, none⟩) (fun ad e => (by cases e; exact ⟨HGA.out.2, HNE.out⟩)) HC6.out, ?_⟩
            refine ((Chg.of_below HB5.out (fun k h1 h2 => by omega)).trans HCh5.out (fun _ _ h => h)).trans HC6.out (fun k hk h => ?_)
            obtain ⟨ad, e, rfl⟩ := h
            cases e
            exact absurd hk (by have := HGA.out.1; show ¬ ga < _; omega)
          · obtain ⟨P, rfl⟩ : ∃ P, N = P + 1 := ⟨N - 1, by omega⟩
            have q1 : decide ((0 : Int) < ((P + 1 : Nat) : Int)) = true := decide_eq_true (by omega)
            have q1b : decide (0 < P + 1) = true := decide_eq_true (by omega)
            have q2 : ((P + 1 : Nat) : Int) - 1 = (P : Int) := by omega
            have q3 : (P : Int) < (M : Int) := by omega
            obtain ⟨x, hx1, hx2, hx3, -⟩ := split_at (S := xs) (t := P) (by have := HM.out; omega)
            have k1 := HR.out
            rw [hx1] at k1
            have k1 := Reg.one k1 (off := 0) rfl (p := P) (by have := HM.out; rw [List.length_take]; omega)
            rw [Nat.zero_add] at k1
            have HX1 := Aside0.mk hx2
            have HX2 := Aside0.mk hx3
            clear hx1 hx2 hx3
            have HCx := Aside0.mk (ClassP wr (HG.out.below HB.out) x)
            by_cases hz : cls x = 0
            · have z1 : (cls x != 0) = false := by rw [hz]; rfl
              have z2 : (cls x == 0) = true := by rw [hz]; rfl
              have HS := Aside0.mk (sure_of (by have := HM.out; omega) HK.out (.inr ⟨_, x, HX2.out, hz⟩))
              clear hz HK
              go_upto_region 12 with (first | (go_at_call 62; go_must (refine HCx.out.mono ?_; rintro e w2 ⟨rfl, p1⟩; have HB2 := Aside0.mk (below_step HB.out p1); have HR2 := Aside0.mk (HR.out.below p1); clear p1 k1 HB HR)))
              have HB := HB2
              have HR := HR2
              clear HB2 HR2
              obtain ⟨A1, hcut, hA1⟩ := cut3 (some ⟨ga, 0, none⟩) M ca (P + 1) (by omega)
              have hcut : ∀ W : World, (Instr.slice 22 (.slice (some ⟨ga, 0, none⟩) M ca) (some (.int .i64 ((P : Int) + 1))) none none).run Tryd.prog W = .ok (.slice A1 (M - (P + 1)) (ca - (P + 1))) W := fun W => by have := hcut W; simpa using this
              have hrd := hA1 _ xs hca (by rw [HM.out]; exact rdint (Row.C (.inr ⟨ga, post, rfl, HR.out, h1, h2⟩) (by have := HM.out; omega)))
              have HCl2 := Aside0.mk (Clint32.clone _ A1 (M - (P + 1)) (ca - (P + 1)) (xs.drop (P + 1)) hrd (by omega))
              have hga : w.heap.size ≤ ga := (HAa.out _ rfl).1
              have HGA := Aside0.mk (And.intro hga HR.out.lt)
              have HMM := Aside0.mk (And.intro hca (And.intro h1 h2))
              have g1 : (0 : Int) ≤ ((P : Int) + 1 : Int) := by omega
              have g2 : ((P : Int) + 1 : Int) ≤ (M : Int) := by omega
              have g3 : ((P : Int) + 1 : Int) ≤ (ca : Int) := by omega
              clear hA1 hrd hga h1 h2
              go_upto_region 13 with (first | (go_at_call 61; go_must (refine HCl2.out.mono ?_; rintro e w5 ⟨v5, rfl, p1, p2⟩; have P1 := Aside0.mk (own_R p1); have HR5 := Aside0.mk (HR.out.below p2); have HB5 := Aside0.mk (below_step HB.out p2); have hb5 := blk_below HF.out HB5.out; have F5 := Aside0.mk hb5; (have c5 : w5.cell? ⟨g, 0, none⟩ = some (.slice A0 kept.length c0) := (by simp [World.cell?, hb5])); (have f5 : w5.frozen? ⟨g, 0, none⟩ = false := (by simp [World.frozen?, hb5])); clear p1 p2 hb5; obtain ⟨A5, ca5, e5⟩ := Kd.R_slice P1.out; obtain ⟨q5, hq5⟩ : ∃ q5, q5 = (xs.drop (P + 1)).length := ⟨_, rfl⟩; rw [← hq5] at e5; subst e5; clear hq5)))
              have hne : ga ≠ g := by have := HGA.out.1; have := H23.out.2.2.2; omega
              have ch5 : Chg (fun b => b = g) w5 (w5.setCell ⟨g, 0, none⟩ (.slice A5 q5 ca5)) := (Chg.refl (fun b => b = g) w5).setCell (p := ⟨g, 0, none⟩) (.inl rfl) _
              have HCall := Aside0.mk (OrdC (w5.setCell ⟨g, 0, none⟩ (.slice A5 q5 ca5)) (G_chg (HG.out.below HB5.out) ch5 (fun k hk e => by have := H23.out.2.2.1; have := H23.out.1; omega)) (some ⟨ga, 0, none⟩) (P + 1) (xs.take (P + 1)) (.inr ⟨ga, nums .i32 (xs.drop (P + 1)) ++ post, rfl, Reg.mid (pre := []) (P := []) (S := xs.take (P + 1)) (Q := xs.drop (P + 1)) (by rw [List.nil_append, List.take_append_drop]; exact HR5.out.chg ch5 hne), (by rw [List.length_take]; omega), (by have := HMM.out.2.2; omega)⟩) (fun ad e => by cases e; have := H23.out.2.2.1; have := H23.out.1; have := HGA.out.1; have := H23.out.2.2.2; show 3 ≤ ga; omega) (P + 1) (by have := HM.out; rw [List.length_take]; omega) (by omega))
              have HCh5 := Aside0.mk ch5
              have HNE := Aside0.mk hne
              clear ch5 hne
              go_wp2_with (first | (go_at_call 54; go_must (refine HCall.out.mono ?_; rintro e w6 ⟨rfl, p1, p2⟩; have HC6 := Aside0.mk p1; have HR6 := Aside0.mk p2; clear p1 p2)))
              go_ret
              unfold WritePost
              rw [HS.out]
              refine ⟨some ⟨ga, 0, none⟩, rfl, HR6.out, fun ad e => (by cases e; exact HGA.out.1), form_end F5.out P1.out H23.out.2.2.2 HB.out.size H23.out.1 (some ⟨ga, 0, none⟩) (fun ad e => (by cases e; exact ⟨HGA.out.2, HNE.out⟩)) HC6.out, ?_⟩
              refine ((Chg.of_below HB5.out (fun k h1 h2 => by omega)).trans HCh5.out (fun _ _ h => h)).trans HC6.out (fun k hk h => ?_)
              obtain ⟨ad, e, rfl⟩ := h
              cases e
              exact absurd hk (by have := HGA.out.1; show ¬ ga < _; omega)
            · have z1 : (cls x != 0) = true := by simpa using hz
              have z2 : (cls x == 0) = false := by simpa using hz
              have HZ := Aside0.mk hz
              clear hz
              go_wp2_with (first | (go_at_call 62; go_must (refine HCx.out.mono ?_; rintro e w2 ⟨rfl, p1⟩; have HB2 := Aside0.mk (below_step HB.out p1); have HR2 := Aside0.mk (HR.out.below p1); clear p1 k1 HB HR)))
              go_roundw
              case rel => exact ⟨P, by go_num, by omega, ⟨fun y hy => by rw [HX1.out] at hy; rcases List.mem_cons.1 hy with rfl | hy; (· exact HZ.out); (· exact HK.out y hy)⟩, HR2, HB2⟩
              case measure => simp [intOf] <;> omega
end Go.Proofs.YtiggjbclbdikmaaDoor.Fr
namespace Go.Proofs.YtiggjbclbdikmaaDoor.Cn
set_option linter.unusedVariables false
set_option linter.unusedSimpArgs false
open Go.Proofs.YtiggjbclbdikmaaDoor.Vd (decU)
open Go.Proofs.YtiggjbclbdikmaaDoor.Fr (sure sure_of K3 T3)
open Go.RowKit Go.Proofs.YtiggjbclbdikmaaDoorW.PrintWords Go.Proofs.YtiggjbclbdikmaaDoor.Ev0 Go.Proofs.YtiggjbclbdikmaaDoor.X Go.Proofs.YtiggjbclbdikmaaDoor.Va Go.Proofs.YtiggjbclbdikmaaDoor.Vp0 Go.Proofs.YtiggjbclbdikmaaDoor.Vr Go.Proofs.YtiggjbclbdikmaaDoor.Vu Go.Proofs.YtiggjbclbdikmaaDoor.Na Go.Proofs.YtiggjbclbdikmaaDoor.Oa Go.Proofs.YtiggjbclbdikmaaDoor.Ob
def ok32 (l : List Int) : Bool := l.all fun x => decide (-2147483648 ≤ x) && decide (x ≤ 2147483647)
theorem ok32_of {l : List Int} (h : ok32 l = true) : ∀ x ∈ l, I32 x := fun x hx => by
  have := List.all_eq_true.1 h x hx
  simp only [Bool.and_eq_true, decide_eq_true_eq] at this
  exact this
theorem NormR (w : World) (hG : G w) (A : Option Addr) (n c : Nat) (l : List Int) (hC : K3.C w A n l) (hn : n = l.length) (hc : n ≤ c) (hwf : ∀ x ∈ l, I32 x) (hl : n ≤ 100000000) :
    Calls Tryd.prog 22 #[.slice A n c] w fun e w' => ∃ v, e = .returned v ∧ K3.R T3 w' w.heap.size (fun _ => True) v (nrm l) ∧ Below w.heap.size w w' := by
  subst hn
  obtain ⟨k, hk⟩ := Ev.rounds (normEv l hwf hl)
  exact norm_Normal.calls k A c l _ w hC hc hk hG
theorem SameR (w : World) (A B : Option Addr) (n c m d : Nat) (l k : List Int) (hC : K3.C w A n l) (hn : n = l.length) (hc : n ≤ c) (hD : K3.C w B m k) (hm : m = k.length) (hd : m ≤ d) (hl : n ≤ 1000000000) (b : Bool) (hb : decide (l = k) = b) :
    Calls Tryd.prog 21 #[.slice A n c, .slice B m d] w fun e w' => e = .returned (.bool b) ∧ Below w.heap.size w w' := by
  subst hn hm hb
  obtain ⟨q, hq⟩ := Ev.rounds (sameEv l k hl)
  exact (tremaref01_SameRunes.calls q A c l B d k _ w hC hc hD hd hq).mono fun e w' ⟨h1, h2⟩ => ⟨h1, h2.below⟩
end Go.Proofs.YtiggjbclbdikmaaDoor.Cn
