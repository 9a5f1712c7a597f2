/-
  Several texts of this claim in one: what its law's proof uses.
-/
import Derived.Test.YtiggjbclbdikmaaDoorMSM2
import Derived.Test.YtiggjbclbdikmaaDoorMSM8
import Derived.Test.YtiggjbclbdikmaaDoorMSM11
import Derived.Test.YtiggjbclbdikmaaDoorMSM7
import Derived.Test.YtiggjbclbdikmaaDoorMSM10
import Derived.Test.YtiggjbclbdikmaaDoorMSM13
import Derived.Test.YtiggjbclbdikmaaDoorMSM14
namespace Go.Proofs.YtiggjbclbdikmaaDoor.X
open Go.RowKit Go.Proofs.YtiggjbclbdikmaaDoorW.PrintWords Go.Proofs.YtiggjbclbdikmaaDoorW.PrintLast Go.Proofs.YtiggjbclbdikmaaDoorW.PrintMore
attribute [local go_sem] max2_int min2_int max_two min_two max_three min_three max_four min_four   
set_option linter.unusedVariables false
set_option linter.unusedSimpArgs false
mutual
def tremaref04_cut.l0 : Nat → List (S75) → List (S69) → Int → Int → Option ((List (S69)))
 | 0, _, _, _, _ => none
 | k + 1, x0, x3, x4, x5 => if x5 ≤ (x0.length : Int) then (if x5 < (x0.length : Int) then (if 0 ≤ x5 then ((tremaref02_Opens.f k ((rd_T75 x0 x5).f0)).bind fun t405 => (tremaref04_cut.j1 k x0 x3 x4 x5 (!t405))) else (none)) else (tremaref04_cut.j1 k x0 x3 x4 x5 false)) else (some x3)
def tremaref04_cut.j1 : Nat → List (S75) → List (S69) → Int → Int → Bool → Option ((List (S69)))
 | 0, _, _, _, _, _ => none
 | k + 1, x0, x3, x4, x5, x26 => if x26 = true then (tremaref04_cut.l0 k x0 x3 x4 (wrap64 (x5 + 1))) else (tremaref04_cut.l1 k x0 x3 x4 x5 ([] : List Int) x4)
def tremaref04_cut.l1 : Nat → List (S75) → List (S69) → Int → Int → List Int → Int → Option ((List (S69)))
 | 0, _, _, _, _, _, _ => none
 | k + 1, x0, x3, x4, x5, x6, x7 => if x7 < x5 then (if 0 ≤ x7 then (if x7 < (x0.length : Int) then (if x6.length < 35184372088832 then (tremaref04_cut.l1 k x0 x3 x4 x5 (x6 ++ [(rd_T75 x0 x7).f0]) (wrap64 (x7 + 1))) else (none)) else (none)) else (none)) else ((tremaref03_Normal.f k x6).bind fun t410 => ((tremaref01_Encode.f k t410).bind fun t413 => (if 0 ≤ x4 then (if x4 < (x0.length : Int) then (if 0 ≤ (wrap64 (x5 - 1)) then (if (wrap64 (x5 - 1)) < (x0.length : Int) then (if x3.length < 4398046511104 then (tremaref04_cut.l0 k x0 (x3 ++ [(⟨strOfNums t413, (rd_T75 x0 x4).f1, wrap64 (((rd_T75 x0 (wrap64 (x5 - 1))).f1) + ((rd_T75 x0 (wrap64 (x5 - 1))).f2))⟩ : S69)]) x5 (wrap64 (x5 + 1))) else (none)) else (none)) else (none)) else (none)) else (none))))
end
def tremaref04_cut.f (k : Nat) (l0 : List (S75)) : Option ((List (S69))) := tremaref04_cut.l0 k l0 ([] : List (S69)) 0 1
theorem tremaref04_cut.mono_l : ∀ k, (∀ y0 y1 y2 y3, LeO (tremaref04_cut.l0 k y0 y1 y2 y3) (tremaref04_cut.l0 (k + 1) y0 y1 y2 y3)) ∧ (∀ y0 y1 y2 y3 y4, LeO (tremaref04_cut.j1 k y0 y1 y2 y3 y4) (tremaref04_cut.j1 (k + 1) y0 y1 y2 y3 y4)) ∧ (∀ y0 y1 y2 y3 y4 y5, LeO (tremaref04_cut.l1 k y0 y1 y2 y3 y4 y5) (tremaref04_cut.l1 (k + 1) y0 y1 y2 y3 y4 y5))
 | 0 => ⟨fun _ _ _ _ r h => by simp [tremaref04_cut.l0] at h, fun _ _ _ _ _ r h => by simp [tremaref04_cut.j1] at h, fun _ _ _ _ _ _ r h => by simp [tremaref04_cut.l1] at h⟩
 | k + 1 => by
  obtain ⟨ih0, ih1, ih2⟩ := tremaref04_cut.mono_l k
  refine ⟨?_, ?_, ?_⟩
  ·intro y0 y1 y2 y3
   unfold tremaref04_cut.l0
   repeat' first
   | (with_reducible exact ih0 _ _ _ _)
   | (with_reducible exact ih1 _ _ _ _ _)
   | (with_reducible exact ih2 _ _ _ _ _ _)
   | (with_reducible exact tremaref01_Encode.mono _ _)
   | (with_reducible exact tremaref02_Opens.mono _ _)
   | (with_reducible exact tremaref03_Normal.mono _ _)
   | (with_reducible exact LeO.refl _)
   | (with_reducible exact LeO.none _)
   | (with_reducible refine LeO.ite ?_ ?_)
   | (with_reducible refine LeO.bind ?_ (fun _ => ?_))
   | exact ih0 _ _ _ _
   | exact ih1 _ _ _ _ _
   | exact ih2 _ _ _ _ _ _
   | exact tremaref01_Encode.mono _ _
   | exact tremaref02_Opens.mono _ _
   | exact tremaref03_Normal.mono _ _
   | exact LeO.none _
   | refine LeO.ite ?_ ?_
   | refine LeO.bind ?_ (fun _ => ?_)
  ·intro y0 y1 y2 y3 y4
   unfold tremaref04_cut.j1
   repeat' first
   | (with_reducible exact ih0 _ _ _ _)
   | (with_reducible exact ih1 _ _ _ _ _)
   | (with_reducible exact ih2 _ _ _ _ _ _)
   | (with_reducible exact tremaref01_Encode.mono _ _)
   | (with_reducible exact tremaref02_Opens.mono _ _)
   | (with_reducible exact tremaref03_Normal.mono _ _)
   | (with_reducible exact LeO.refl _)
   | (with_reducible exact LeO.none _)
   | (with_reducible refine LeO.ite ?_ ?_)
   | (with_reducible refine LeO.bind ?_ (fun _ => ?_))
   | exact ih0 _ _ _ _
   | exact ih1 _ _ _ _ _
   | exact ih2 _ _ _ _ _ _
   | exact tremaref01_Encode.mono _ _
   | exact tremaref02_Opens.mono _ _
   | exact tremaref03_Normal.mono _ _
   | exact LeO.none _
   | refine LeO.ite ?_ ?_
   | refine LeO.bind ?_ (fun _ => ?_)
  ·intro y0 y1 y2 y3 y4 y5
   unfold tremaref04_cut.l1
   repeat' first
   | (with_reducible exact ih0 _ _ _ _)
   | (with_reducible exact ih1 _ _ _ _ _)
   | (with_reducible exact ih2 _ _ _ _ _ _)
   | (with_reducible exact tremaref01_Encode.mono _ _)
   | (with_reducible exact tremaref02_Opens.mono _ _)
   | (with_reducible exact tremaref03_Normal.mono _ _)
   | (with_reducible exact LeO.refl _)
   | (with_reducible exact LeO.none _)
   | (with_reducible refine LeO.ite ?_ ?_)
   | (with_reducible refine LeO.bind ?_ (fun _ => ?_))
   | exact ih0 _ _ _ _
   | exact ih1 _ _ _ _ _
   | exact ih2 _ _ _ _ _ _
   | exact tremaref01_Encode.mono _ _
   | exact tremaref02_Opens.mono _ _
   | exact tremaref03_Normal.mono _ _
   | exact LeO.none _
   | refine LeO.ite ?_ ?_
   | refine LeO.bind ?_ (fun _ => ?_)
theorem tremaref04_cut.mono : ∀ a0 k, LeO (tremaref04_cut.f k a0) (tremaref04_cut.f (k + 1) a0) := by
 intro a0 k
 obtain ⟨ih0, ih1, ih2⟩ := tremaref04_cut.mono_l k
 unfold tremaref04_cut.f
 repeat' first
   | (with_reducible exact ih0 _ _ _ _)
   | (with_reducible exact ih1 _ _ _ _ _)
   | (with_reducible exact ih2 _ _ _ _ _ _)
   | (with_reducible exact tremaref01_Encode.mono _ _)
   | (with_reducible exact tremaref02_Opens.mono _ _)
   | (with_reducible exact tremaref03_Normal.mono _ _)
   | (with_reducible exact LeO.refl _)
   | (with_reducible exact LeO.none _)
   | (with_reducible refine LeO.ite ?_ ?_)
   | (with_reducible refine LeO.bind ?_ (fun _ => ?_))
   | exact ih0 _ _ _ _
   | exact ih1 _ _ _ _ _
   | exact ih2 _ _ _ _ _ _
   | exact tremaref01_Encode.mono _ _
   | exact tremaref02_Opens.mono _ _
   | exact tremaref03_Normal.mono _ _
   | exact LeO.none _
   | refine LeO.ite ?_ ?_
   | refine LeO.bind ?_ (fun _ => ?_)
def tremaref04_cut.T12 : Bool × List (List Nat × List Nat) := (true, [([], []), ([], []), ([1], [1]), ([2, 2], [2]), ([3], [3]), ([], []), ([], []), ([5, 6], [5, 6]), ([7], [7]), ([8], [8]), ([], []), ([], []), ([11], [11]), ([10, 12], [10, 12]), ([13], [13]), ([14], [14]), ([], []), ([], []), ([17], [17]), ([16, 18], [16, 18]), ([19], [19]), ([20], [20]), ([15, 21], [15, 21]), ([4, 9, 22], [4, 9, 22]), ([23], [23]), ([0, 24, 3], [0, 24]), ([25, 25, 0, 1, 2, 3, 4, 5, 6, 7, 8, 9, 10, 11, 12, 13, 14, 15, 16, 17, 18, 19, 20, 21, 22, 23, 24, 25], [0, 25])])
def tremaref04_cut.B12 : List Nat := [0, 0, 2, 6, 14, 0, 0, 96, 224, 480, 0, 0, 2048, 7168, 15360, 31744, 0, 0, 131072, 458752, 983040, 2031616, 4193280, 8388606, 16777214, 33554431, 67108863]
theorem tremaref04_cut.tab12 : rtab .any (opsOf Tryd.f67 12) = tremaref04_cut.T12 := by kernel_rfl
theorem tremaref04_cut.bits12 : waitsOk tremaref04_cut.T12.2 tremaref04_cut.B12 = true := by kernel_rfl
set_option maxHeartbeats 8000000 in
set_option maxRecDepth 100000 in
theorem tremaref04_cut.calls (k : Nat) (A0 : Option Addr) (c0 : Nat) (l0 : List (S75)) (r : List (S69)) (w : World) (hr0 : Kd.C k75 w A0 l0.length l0) (hc0 : l0.length ≤ c0) (h : tremaref04_cut.f k l0 = some r) :
  Calls Tryd.prog 67 #[.slice A0 l0.length c0] w fun e w' => ∃ v0_ : Value, e = .returned (v0_) ∧ Kd.R k69 69 w' w.heap.size (fun _ => True) v0_ r ∧ Below w.heap.size w w' := by
 have hu69 := Tryd.underlying69
 have HR0 := Aside0.mk hr0
 have HC0 := Aside0.mk hc0
 clear hr0 hc0
 have HB := Aside0.mk (Below.refl w.heap.size w)
 have H : (tremaref04_cut.l0 k l0 ([] : List (S69)) 0 1) = some r := h
 clear h
 have H' := Aside0.mk H
 clear H
 go_enter Tryd.func67, Tryd.ntmps67
 go_wp2
 go_loopg [3, 4, 5] k (fun kq v3 v4 v5 w' => ∃ (x3_1 : List (S69)) (x4_1 : Int) (x5_1 : Int), v4 = .int .i64 x4_1 ∧ v5 = .int .i64 x5_1 ∧ Aside0 (tremaref04_cut.l0 kq l0 x3_1 x4_1 x5_1 = some r) ∧ Aside0 (kq ≤ k) ∧ Aside0 (Kd.R k69 69 w' w.heap.size (fun _ => True) v3 x3_1) ∧ Aside0 (Below w.heap.size w w'))
 case atStart => exact ⟨(([] : List (S69))), (0), (1), (by first | rfl | (simp; done) | (simp [*]; done)), (by first | rfl | (simp; done) | (simp [*]; done)), H', ⟨Nat.le_refl _⟩, ⟨by first | exact Kd.R_nil _ _ _ _ _ | exact Kd.N_nil _ _ _ _ _ | exact Kd.V_nil _ _ _ _ _ | exact Kd.Q_nil _ _ _ _ _ | exact Kd.S_nil _ _ _ _ _⟩, ⟨by repeat (first | (with_reducible first | exact HB.out | apply below_alloc | apply pw_below_drewN | apply below_drew1) | exact HB.out)⟩⟩
 case round =>
  clear H'
  obtain ⟨x3_1, x4_1, x5_1, rfl, rfl, HA, HK1, HO_3, HB⟩ := hrel
  cases gk with
  | zero => exact absurd HA.out (by simp [tremaref04_cut.l0])
  | succ k1 =>
   have H := HA.out
   clear HA
   simp only [tremaref04_cut.l0] at H
   by_cases c2 : x5_1 ≤ (l0.length : Int)
   ·rw [if_pos c2] at H
    have c2b0 : decide (x5_1 ≤ (l0.length : Int)) = true := decide_eq_true c2
    clear c2
    have HC3 := Aside0.mk H
    clear H
    go_upto_region 6 with (fail)
    go_cut [26] (fun v26 wc => ∃ (kq : Nat) (x26_2 : Bool), v26 = .bool x26_2 ∧ Aside0 (tremaref04_cut.j1 kq l0 x3_1 x4_1 x5_1 x26_2 = some r) ∧ Aside0 (kq ≤ k1) ∧ Aside0 (Kd.R k69 69 wc w.heap.size (fun _ => True) u3 x3_1) ∧ Aside0 (Below w.heap.size w wc))
    case first =>
     have H := HC3.out
     clear HC3
     by_cases c4 : x5_1 < (l0.length : Int)
     ·rw [if_pos c4] at H
      have c4b0 : decide (x5_1 < (l0.length : Int)) = true := decide_eq_true c4
      clear c4
      (first | rw [c4b0] | (simp only [i64_w, i32_w]; rw [c4b0]) | skip)
      by_cases c5 : 0 ≤ x5_1
      ·rw [if_pos c5] at H
       have c5b0 : decide (0 ≤ x5_1) = true := decide_eq_true c5
       clear c5
       replace H := Option.bind_eq_some_iff.mp H
       obtain ⟨t405, A60, H⟩ := H
       replace H : (tremaref04_cut.j1 k1 l0 x3_1 x4_1 x5_1 (!t405)) = some r := H
       have A6 := Aside0.mk A60
       clear A60
       have H' := Aside0.mk H
       clear H
       have p404 : 0 ≤ (x5_1 : Int) := of_decide_eq_true (by first | (with_reducible assumption) | assumption)
       have q404 : x5_1 < (l0.length : Int) := of_decide_eq_true (by first | (with_reducible assumption) | assumption)
       obtain ⟨ad404, e404, hx404_0, hx404_1, hx404_2⟩ := at_T75 HR0.out x5_1 p404 q404
       cases e404
       replace hx404_0 := (HB.out.cell (World.block_lt_of_cell? w _ hx404_0)).trans hx404_0
       replace hx404_1 := (HB.out.cell (World.block_lt_of_cell? w _ hx404_1)).trans hx404_1
       replace hx404_2 := (HB.out.cell (World.block_lt_of_cell? w _ hx404_2)).trans hx404_2
       replace p404 := eq_true p404
       replace q404 := eq_true q404
       go_wp2_with (first | (go_at_call 35; (with_reducible refine (tremaref02_Opens.calls k1 ((rd_T75 l0 x5_1).f0) t405 _ A6.out).mono ?_); rintro e w7 ⟨rfl, hb⟩; have n0_ := Aside0.mk (Kd.R_below (by (with_reducible repeat (first | apply Kd.R_alloc | apply Kd.R_drewN | apply Kd.R_drew)); exact HO_3.out) hb); have n1_ := Aside0.mk (below_step (by repeat (first | (with_reducible first | exact HB.out | apply below_alloc | apply pw_below_drewN | apply below_drew1) | exact HB.out)) hb); clear HO_3; clear HB; have HO_3 := n0_; have HB := n1_; clear n0_ n1_; (try clear hb); (try clear hb2); (try clear hk); (try clear hi)))
       go_meet
       case rel => exact ⟨_, (!t405), (by first | rfl | (simp; done) | (simp [*]; done)), H', ⟨by have := HK1.out; first | omega | exact Nat.le_refl _⟩, ⟨by (with_reducible repeat (first | apply Kd.R_alloc | apply Kd.R_drewN | apply Kd.R_drew)); exact HO_3.out⟩, ⟨by repeat (first | (with_reducible first | exact HB.out | apply below_alloc | apply pw_below_drewN | apply below_drew1) | exact HB.out)⟩⟩
      ·rw [if_neg c5] at H
       exact absurd H (by simp)
     ·rw [if_neg c4] at H
      have c4b0 : decide (x5_1 < (l0.length : Int)) = false := decide_eq_false c4
      clear c4
      (first | rw [c4b0] | (simp only [i64_w, i32_w]; rw [c4b0]) | skip)
      have H' := Aside0.mk H
      clear H
      go_wp2
      go_meet
      case rel => exact ⟨_, (false), (by first | rfl | (simp; done) | (simp [*]; done)), H', ⟨by have := HK1.out; first | omega | exact Nat.le_refl _⟩, ⟨by (with_reducible repeat (first | apply Kd.R_alloc | apply Kd.R_drewN | apply Kd.R_drew)); exact HO_3.out⟩, ⟨by repeat (first | (with_reducible first | exact HB.out | apply below_alloc | apply pw_below_drewN | apply below_drew1) | exact HB.out)⟩⟩
    case rest =>
     clear HC3
     try clear c2
     try clear c2b0
     try clear p2
     try clear c4
     try clear c4b0
     try clear p4
     try clear q4
     try clear hx4
     try clear c5
     try clear c5b0
     try clear c6
     try clear hx404_0
     try clear hx404_1
     try clear hx404_2
     try clear p404
     try clear q404
     obtain ⟨kq, x26_2, rfl, HA, HJ2, HO_3, HB⟩ := hcut
     cases kq with
     | zero => exact absurd HA.out (by simp [tremaref04_cut.j1])
     | succ kj2 =>
      have H := HA.out
      clear HA
      simp only [tremaref04_cut.j1] at H
      by_cases c8 : x26_2 = true
      ·subst c8
       have H1 : (tremaref04_cut.l0 kj2 l0 x3_1 x4_1 (wrap64 (x5_1 + 1))) = some r := by rw [if_pos rfl] at H; exact H
       clear H
       have H := H1
       clear H1
       have H' := Aside0.mk H
       clear H
       go_wp2
       go_roundg kj2
       case measure => have := HK1.out; have := HJ2.out; omega
       case rel => exact ⟨(x3_1), (x4_1), (wrap64 (x5_1 + 1)), (by first | rfl | (simp; done) | (simp [*]; done)), (by first | rfl | (simp; done) | (simp [*]; done)), H', ⟨by have := HK1.out; have := HJ2.out; omega⟩, ⟨by (with_reducible repeat (first | apply Kd.R_alloc | apply Kd.R_drewN | apply Kd.R_drew)); exact HO_3.out⟩, ⟨by repeat (first | (with_reducible first | exact HB.out | apply below_alloc | apply pw_below_drewN | apply below_drew1) | exact HB.out)⟩⟩
      ·replace c8 := Bool.eq_false_iff.mpr c8
       subst c8
       have H1 : (tremaref04_cut.l1 kj2 l0 x3_1 x4_1 x5_1 ([] : List Int) x4_1) = some r := by rw [if_neg (show ¬ (false = true) by decide)] at H; exact H
       clear H
       have H := H1
       clear H1
       have H' := Aside0.mk H
       clear H
       go_wp2
       go_loopg [6, 7] kj2 (fun kq v6 v7 w' => ∃ (x6_3 : List Int) (x7_3 : Int), v7 = .int .i64 x7_3 ∧ Aside0 (tremaref04_cut.l1 kq l0 x3_1 x4_1 x5_1 x6_3 x7_3 = some r) ∧ Aside0 (kq ≤ kj2) ∧ Aside0 (Kd.R k69 69 w' w.heap.size (fun _ => True) u3 x3_1) ∧ Aside0 (Kd.R (Kd.int .i32) 21 w' w.heap.size (fun _ => True) v6 x6_3) ∧ Aside0 (Below w.heap.size w w'))
       case atStart => exact ⟨(([] : List Int)), (x4_1), (by first | rfl | (simp; done) | (simp [*]; done)), H', ⟨Nat.le_refl _⟩, ⟨by (with_reducible repeat (first | apply Kd.R_alloc | apply Kd.R_drewN | apply Kd.R_drew)); exact HO_3.out⟩, ⟨by first | exact Kd.R_nil _ _ _ _ _ | exact Kd.N_nil _ _ _ _ _ | exact Kd.V_nil _ _ _ _ _ | exact Kd.Q_nil _ _ _ _ _ | exact Kd.S_nil _ _ _ _ _⟩, ⟨by repeat (first | (with_reducible first | exact HB.out | apply below_alloc | apply pw_below_drewN | apply below_drew1) | exact HB.out)⟩⟩
       case round =>
        clear H'
        try clear c2
        try clear c2b0
        try clear p2
        try clear c4
        try clear c4b0
        try clear p4
        try clear q4
        try clear hx4
        try clear c5
        try clear c5b0
        try clear c6
        try clear p6
        try clear c8
        try clear hx404_0
        try clear hx404_1
        try clear hx404_2
        try clear p2
        try clear p4
        try clear p404
        try clear q4
        try clear q404
        obtain ⟨x6_3, x7_3, rfl, HA, HK3, HO_3, HO_6, HB⟩ := hrel
        cases gk with
        | zero => exact absurd HA.out (by simp [tremaref04_cut.l1])
        | succ k3 =>
         have H := HA.out
         clear HA
         simp only [tremaref04_cut.l1] at H
         by_cases c9 : x7_3 < x5_1
         ·rw [if_pos c9] at H
          have c9b0 : decide (x7_3 < x5_1) = true := decide_eq_true c9
          clear c9
          by_cases c10 : 0 ≤ x7_3
          ·rw [if_pos c10] at H
           have c10b0 : decide (0 ≤ x7_3) = true := decide_eq_true c10
           clear c10
           by_cases c11 : x7_3 < (l0.length : Int)
           ·rw [if_pos c11] at H
            have c11b0 : decide (x7_3 < (l0.length : Int)) = true := decide_eq_true c11
            clear c11
            by_cases c12 : x6_3.length < 35184372088832
            ·rw [if_pos c12] at H
             have LMc12 := Aside0.mk c12
             clear c12
             obtain ⟨y407, hy407⟩ : ∃ y_ : List Int, y_ = (x6_3 ++ [(rd_T75 l0 x7_3).f0]) := ⟨_, rfl⟩
             replace H : (tremaref04_cut.l1 k3 l0 x3_1 x4_1 x5_1 y407 (wrap64 (x7_3 + 1))) = some r := by first | (rw [hy407]; with_reducible exact H) | (have H2_ := (Option.bind_some _ _).symm.trans H; rw [hy407]; with_reducible exact H2_) | (have H2_ := (Option.bind_some _ _).symm.trans H; with_reducible exact H2_) | with_reducible exact H | (rw [hy407]; exact H) | exact H
             have Ny407 := Aside0.mk hy407
             clear hy407
             have H' := Aside0.mk H
             clear H
             have p406 : 0 ≤ (x7_3 : Int) := of_decide_eq_true (by first | (with_reducible assumption) | assumption)
             have q406 : x7_3 < (l0.length : Int) := of_decide_eq_true (by first | (with_reducible assumption) | assumption)
             obtain ⟨ad406, e406, hx406_0, hx406_1, hx406_2⟩ := at_T75 HR0.out x7_3 p406 q406
             cases e406
             replace hx406_0 := (HB.out.cell (World.block_lt_of_cell? w _ hx406_0)).trans hx406_0
             replace hx406_1 := (HB.out.cell (World.block_lt_of_cell? w _ hx406_1)).trans hx406_1
             replace hx406_2 := (HB.out.cell (World.block_lt_of_cell? w _ hx406_2)).trans hx406_2
             replace p406 := eq_true p406
             replace q406 := eq_true q406
             go_wp2_with (first | ((with_reducible refine gate_builtin (b := .append) (xs := #[.tmp 33, .tmp 39]) rfl ?_); at_builtin; refine Kd.R_append (Kd.int .i32) (w0 := w) w.heap.size rfl (.tmp 33) (.tmp 39) 22 21 (.int .i32 0) 4 rfl Tryd.underlying22 info21 rfl (by decide) (by omega) u6 x6_3 ((rd_T75 l0 x7_3).f0) [.int .i32 ((rd_T75 l0 x7_3).f0)] (fun _ => True) (fun _ => False) rfl rfl ?aP (fun _ hk => hk.elim) ?aF ?aO ?aB ?aS ?aL ?_; (case aP => exact rfl); (case aB => exact (by repeat (first | (with_reducible first | exact HB.out | apply below_alloc | apply pw_below_drewN | apply below_drew1) | exact HB.out))); (case aF => exact (fun _ _ => trivial)); (case aO => exact (by (with_reducible repeat (first | apply Kd.R_alloc | apply Kd.R_drewN | apply Kd.R_drew)); exact HO_6.out)); (case aS => exact (below_size (by repeat (first | (with_reducible first | exact HB.out | apply below_alloc | apply pw_below_drewN | apply below_drew1) | exact HB.out)))); (case aL => have := LMc12.out; omega); intro v408 w13 ho hb hg hat; rw [← Ny407.out] at ho; have n0_ := Aside0.mk (Kd.R_over' (by (with_reducible repeat (first | apply Kd.R_alloc | apply Kd.R_drewN | apply Kd.R_drew)); exact HO_3.out) (Kd.R_typed (by (with_reducible repeat (first | apply Kd.R_alloc | apply Kd.R_drewN | apply Kd.R_drew)); exact HO_6.out)) (by decide) hg); have n1_ := Aside0.mk (hb); have n2_ := Aside0.mk (ho); clear HO_3; clear HB; clear HO_6; have HO_3 := n0_; have HB := n1_; have HO409 := n2_; clear n0_ n1_ n2_; clear ho hb hg hat))
             go_roundg k3
             case measure => have := HK1.out; have := HJ2.out; have := HK3.out; omega
             case rel => exact ⟨(y407), (wrap64 (x7_3 + 1)), (by first | rfl | (simp; done) | (simp [*]; done)), H', ⟨by have := HK1.out; have := HJ2.out; have := HK3.out; omega⟩, ⟨by (with_reducible repeat (first | apply Kd.R_alloc | apply Kd.R_drewN | apply Kd.R_drew)); exact HO_3.out⟩, ⟨by (with_reducible repeat (first | apply Kd.R_alloc | apply Kd.R_drewN | apply Kd.R_drew)); exact HO409.out⟩, ⟨by repeat (first | (with_reducible first | exact HB.out | apply below_alloc | apply pw_below_drewN | apply below_drew1) | exact HB.out)⟩⟩
            ·rw [if_neg c12] at H
             exact absurd H (by simp)
           ·rw [if_neg c11] at H
            exact absurd H (by simp)
          ·rw [if_neg c10] at H
           exact absurd H (by simp)
         ·rw [if_neg c9] at H
          have c9b0 : decide (x7_3 < x5_1) = false := decide_eq_false c9
          clear c9
          replace H := Option.bind_eq_some_iff.mp H
          obtain ⟨t410, A140, H⟩ := H
          replace H : ((tremaref01_Encode.f k3 t410).bind fun t413 => (if 0 ≤ x4_1 then (if x4_1 < (l0.length : Int) then (if 0 ≤ (wrap64 (x5_1 - 1)) then (if (wrap64 (x5_1 - 1)) < (l0.length : Int) then (if x3_1.length < 4398046511104 then (tremaref04_cut.l0 k3 l0 (x3_1 ++ [(⟨strOfNums t413, (rd_T75 l0 x4_1).f1, wrap64 (((rd_T75 l0 (wrap64 (x5_1 - 1))).f1) + ((rd_T75 l0 (wrap64 (x5_1 - 1))).f2))⟩ : S69)]) x5_1 (wrap64 (x5_1 + 1))) else (none)) else (none)) else (none)) else (none)) else (none))) = some r := H
          have A14 := Aside0.mk A140
          clear A140
          replace H := Option.bind_eq_some_iff.mp H
          obtain ⟨t413, A150, H⟩ := H
          replace H : (if 0 ≤ x4_1 then (if x4_1 < (l0.length : Int) then (if 0 ≤ (wrap64 (x5_1 - 1)) then (if (wrap64 (x5_1 - 1)) < (l0.length : Int) then (if x3_1.length < 4398046511104 then (tremaref04_cut.l0 k3 l0 (x3_1 ++ [(⟨strOfNums t413, (rd_T75 l0 x4_1).f1, wrap64 (((rd_T75 l0 (wrap64 (x5_1 - 1))).f1) + ((rd_T75 l0 (wrap64 (x5_1 - 1))).f2))⟩ : S69)]) x5_1 (wrap64 (x5_1 + 1))) else (none)) else (none)) else (none)) else (none)) else (none)) = some r := H
          have A15 := Aside0.mk A150
          clear A150
          by_cases c16 : 0 ≤ x4_1
          ·rw [if_pos c16] at H
           have c16b0 : decide (0 ≤ x4_1) = true := decide_eq_true c16
           clear c16
           by_cases c17 : x4_1 < (l0.length : Int)
           ·rw [if_pos c17] at H
            have c17b0 : decide (x4_1 < (l0.length : Int)) = true := decide_eq_true c17
            clear c17
            obtain ⟨ji18, hji18⟩ : ∃ j_ : Int, (wrap64 (x5_1 - 1)) = j_ := ⟨_, rfl⟩
            replace H : (if 0 ≤ (ji18) then (if (ji18) < (l0.length : Int) then (if x3_1.length < 4398046511104 then (tremaref04_cut.l0 k3 l0 (x3_1 ++ [(⟨strOfNums t413, (rd_T75 l0 x4_1).f1, wrap64 (((rd_T75 l0 (ji18)).f1) + ((rd_T75 l0 (ji18)).f2))⟩ : S69)]) x5_1 (wrap64 (x5_1 + 1))) else (none)) else (none)) else (none)) = some r := by first | (rw [hji18] at H; exact H) | (simp only [hji18] at H ⊢; exact H)
            (try rw [hji18] at A14)
            (try rw [hji18] at A15)
            have hji18w : (IntKind.i64.wrap (x5_1 - 1)) = ji18 := (i64_w _).trans hji18
            by_cases c19 : 0 ≤ (ji18)
            ·rw [if_pos c19] at H
             have c19b0 : decide (0 ≤ (ji18)) = true := decide_eq_true c19
             clear c19
             by_cases c20 : (ji18) < (l0.length : Int)
             ·rw [if_pos c20] at H
              have c20b0 : decide ((ji18) < (l0.length : Int)) = true := decide_eq_true c20
              clear c20
              by_cases c21 : x3_1.length < 4398046511104
              ·rw [if_pos c21] at H
               have LMc21 := Aside0.mk c21
               clear c21
               obtain ⟨y419, hy419⟩ : ∃ y_ : List (S69), y_ = (x3_1 ++ [(⟨strOfNums t413, (rd_T75 l0 x4_1).f1, wrap64 (((rd_T75 l0 (ji18)).f1) + ((rd_T75 l0 (ji18)).f2))⟩ : S69)]) := ⟨_, rfl⟩
               replace H : (tremaref04_cut.l0 k3 l0 y419 x5_1 (wrap64 (x5_1 + 1))) = some r := by first | (rw [hy419]; with_reducible exact H) | (have H2_ := (Option.bind_some _ _).symm.trans H; rw [hy419]; with_reducible exact H2_) | (have H2_ := (Option.bind_some _ _).symm.trans H; with_reducible exact H2_) | with_reducible exact H | (rw [hy419]; exact H) | exact H
               have Ny419 := Aside0.mk hy419
               clear hy419
               have H' := Aside0.mk H
               clear H
               try go_wp2
               have n0_ := Aside0.mk (Kd.R_drew HO_3.out)
               have n1_ := Aside0.mk (Kd.R_drew HO_6.out)
               have n2_ := Aside0.mk (below_drew1 HB.out)
               clear HO_3
               clear HO_6
               clear HB
               have HO_3 := n0_
               have HO_6 := n1_
               have HB := n2_
               clear n0_ n1_ n2_
               have p416 : 0 ≤ (x4_1 : Int) := of_decide_eq_true (by first | (with_reducible assumption) | assumption)
               have q416 : x4_1 < (l0.length : Int) := of_decide_eq_true (by first | (with_reducible assumption) | assumption)
               obtain ⟨ad416, e416, hx416_0, hx416_1, hx416_2⟩ := at_T75 HR0.out x4_1 p416 q416
               have hw416_2 := hx416_2
               have hw416_1 := hx416_1
               have hw416_0 := hx416_0
               cases e416
               replace hx416_0 := (HB.out.cell (World.block_lt_of_cell? w _ hx416_0)).trans hx416_0
               replace hx416_1 := (HB.out.cell (World.block_lt_of_cell? w _ hx416_1)).trans hx416_1
               replace hx416_2 := (HB.out.cell (World.block_lt_of_cell? w _ hx416_2)).trans hx416_2
               replace p416 := eq_true p416
               replace q416 := eq_true q416
               have p417 : 0 ≤ ((ji18) : Int) := of_decide_eq_true (by first | (with_reducible assumption) | assumption)
               have q417 : (ji18) < (l0.length : Int) := of_decide_eq_true (by first | (with_reducible assumption) | assumption)
               obtain ⟨ad417, e417, hx417_0, hx417_1, hx417_2⟩ := at_T75 HR0.out (ji18) p417 q417
               have hw417_2 := hx417_2
               have hw417_1 := hx417_1
               have hw417_0 := hx417_0
               obtain rfl : ad416 = ad417 := (by injection e417)
               replace hx417_0 := (HB.out.cell (World.block_lt_of_cell? w _ hx417_0)).trans hx417_0
               replace hx417_1 := (HB.out.cell (World.block_lt_of_cell? w _ hx417_1)).trans hx417_1
               replace hx417_2 := (HB.out.cell (World.block_lt_of_cell? w _ hx417_2)).trans hx417_2
               replace p417 := eq_true p417
               replace q417 := eq_true q417
               have p418 : 0 ≤ ((ji18) : Int) := of_decide_eq_true (by first | (with_reducible assumption) | assumption)
               have q418 : (ji18) < (l0.length : Int) := of_decide_eq_true (by first | (with_reducible assumption) | assumption)
               obtain ⟨ad418, e418, hx418_0, hx418_1, hx418_2⟩ := at_T75 HR0.out (ji18) p418 q418
               have hw418_2 := hx418_2
               have hw418_1 := hx418_1
               have hw418_0 := hx418_0
               obtain rfl : ad416 = ad418 := (by injection e418)
               replace hx418_0 := (HB.out.cell (World.block_lt_of_cell? w _ hx418_0)).trans hx418_0
               replace hx418_1 := (HB.out.cell (World.block_lt_of_cell? w _ hx418_1)).trans hx418_1
               replace hx418_2 := (HB.out.cell (World.block_lt_of_cell? w _ hx418_2)).trans hx418_2
               replace p418 := eq_true p418
               replace q418 := eq_true q418
               obtain ⟨Ao23, co23, eo23⟩ := Kd.R_slice HO_6.out
               (first | subst eo23 | (injection eo23 with f1_ f2_ f3_; have f4_ := f1_.symm; have f5_ := f3_.symm; clear f1_ f2_ f3_; subst f4_; subst f5_))
               refine start_ (n := 27) (S := fun w' => w'.cell? (ad416.add ((x4_1).toNat * 3)) = some (.int .i32 ((rd_T75 l0 x4_1).f0)) ∧ w'.cell? ⟨(ad416.add ((x4_1).toNat * 3)).block, (ad416.add ((x4_1).toNat * 3)).off + 1, none⟩ = some (.int .i64 ((rd_T75 l0 x4_1).f1)) ∧ w'.cell? ⟨(ad416.add ((x4_1).toNat * 3)).block, (ad416.add ((x4_1).toNat * 3)).off + 2, none⟩ = some (.int .i64 ((rd_T75 l0 x4_1).f2)) ∧ w'.cell? (ad416.add (((ji18)).toNat * 3)) = some (.int .i32 ((rd_T75 l0 (ji18)).f0)) ∧ w'.cell? ⟨(ad416.add (((ji18)).toNat * 3)).block, (ad416.add (((ji18)).toNat * 3)).off + 1, none⟩ = some (.int .i64 ((rd_T75 l0 (ji18)).f1)) ∧ w'.cell? ⟨(ad416.add (((ji18)).toNat * 3)).block, (ad416.add (((ji18)).toNat * 3)).off + 2, none⟩ = some (.int .i64 ((rd_T75 l0 (ji18)).f2)) ∧ w'.cell? (ad416.add (((ji18)).toNat * 3)) = some (.int .i32 ((rd_T75 l0 (ji18)).f0)) ∧ w'.cell? ⟨(ad416.add (((ji18)).toNat * 3)).block, (ad416.add (((ji18)).toNat * 3)).off + 1, none⟩ = some (.int .i64 ((rd_T75 l0 (ji18)).f1)) ∧ w'.cell? ⟨(ad416.add (((ji18)).toNat * 3)).block, (ad416.add (((ji18)).toNat * 3)).off + 2, none⟩ = some (.int .i64 ((rd_T75 l0 (ji18)).f2))) (ds := []) #[false, false, false, false, false, false, false, false, false, false, false, false, false, false, false, false, false, false, false, false, false, false, false, false, false, false, false] (by kernel_rfl) rfl rfl ⟨((HB.out.cell (World.block_lt_of_cell? w _ hw416_0)).trans hw416_0), ((HB.out.cell (World.block_lt_of_cell? w _ hw416_1)).trans hw416_1), ((HB.out.cell (World.block_lt_of_cell? w _ hw416_2)).trans hw416_2), ((HB.out.cell (World.block_lt_of_cell? w _ hw417_0)).trans hw417_0), ((HB.out.cell (World.block_lt_of_cell? w _ hw417_1)).trans hw417_1), ((HB.out.cell (World.block_lt_of_cell? w _ hw417_2)).trans hw417_2), ((HB.out.cell (World.block_lt_of_cell? w _ hw418_0)).trans hw418_0), ((HB.out.cell (World.block_lt_of_cell? w _ hw418_1)).trans hw418_1), ((HB.out.cell (World.block_lt_of_cell? w _ hw418_2)).trans hw418_2)⟩ (fun hHeld => ?_); refine with_tabW tremaref04_cut.tab12 tremaref04_cut.bits12 (fun HT_ HW_ => ?_)
               generalize wr.drew = w22 at HO_3 HO_6 HB hx416_0 hx416_1 hx416_2 hx417_0 hx417_1 hx417_2 hx418_0 hx418_1 hx418_2 hHeld ⊢
               refine pure_ (i := 0) (N := some 41) (v := ?_) (a' := ?_) #[true, false, false, false, false, false, false, false, false, false, false, false, false, false, false, false, false, false, false, false, false, false, false, false, false, false, false] rfl rfl (any_of HT_.out (by kernel_rfl)) (fun _ _ _ h => h) (Or.inl ⟨by rfl, ?_⟩) ?_ ?_
               rotate_left
               ·intro w'
                go_simp
                with_reducible rfl
               rotate_left
               ·simp only [Act.put, List.setIfInBounds_toArray, List.set_cons_zero, List.set_cons_succ, i64_w, i32_w]
                rfl
               refine pure_ (i := 1) (N := some 42) (v := ?_) (a' := ?_) #[true, true, false, false, false, false, false, false, false, false, false, false, false, false, false, false, false, false, false, false, false, false, false, false, false, false, false] rfl rfl (any_of HT_.out (by kernel_rfl)) (fun _ _ _ h => h) (Or.inl ⟨by rfl, ?_⟩) ?_ ?_
               rotate_left
               ·intro w'
                go_simp
                with_reducible rfl
               rotate_left
               ·simp only [Act.put, List.setIfInBounds_toArray, List.set_cons_zero, List.set_cons_succ, i64_w, i32_w]
                rfl
               refine pure_ (i := 5) (N := some 46) (v := ?_) (a' := ?_) #[true, true, false, false, false, true, false, false, false, false, false, false, false, false, false, false, false, false, false, false, false, false, false, false, false, false, false] rfl rfl (any_of HT_.out (by kernel_rfl)) (fun _ _ _ h => h) (Or.inl ⟨by rfl, ?_⟩) ?_ ?_
               rotate_left
               ·intro w'
                go_simp
                with_reducible rfl
               rotate_left
               ·simp only [Act.put, List.setIfInBounds_toArray, List.set_cons_zero, List.set_cons_succ, i64_w, i32_w]
                rfl
               refine pure_ (i := 6) (N := some 47) (v := ?_) (a' := ?_) #[true, true, false, false, false, true, true, false, false, false, false, false, false, false, false, false, false, false, false, false, false, false, false, false, false, false, false] rfl rfl (any_of HT_.out (by kernel_rfl)) (fun _ _ _ h => h) (Or.inl ⟨by rfl, ?_⟩) ?_ ?_
               rotate_left
               ·intro w'
                go_simp
                with_reducible rfl
               rotate_left
               ·simp only [Act.put, List.setIfInBounds_toArray, List.set_cons_zero, List.set_cons_succ, i64_w, i32_w]
                rfl
               refine pure_ (i := 7) (N := some 48) (v := ?_) (a' := ?_) #[true, true, false, false, false, true, true, true, false, false, false, false, false, false, false, false, false, false, false, false, false, false, false, false, false, false, false] rfl rfl (any_of HT_.out (by kernel_rfl)) (fun _ _ _ h => h) (Or.inl ⟨by rfl, ?_⟩) ?_ ?_
               rotate_left
               ·intro w'
                go_simp
                with_reducible rfl
               rotate_left
               ·simp only [Act.put, List.setIfInBounds_toArray, List.set_cons_zero, List.set_cons_succ, i64_w, i32_w]
                rfl
               refine pure_ (i := 8) (N := some 49) (v := ?_) (a' := ?_) #[true, true, false, false, false, true, true, true, true, false, false, false, false, false, false, false, false, false, false, false, false, false, false, false, false, false, false] rfl rfl (any_of HT_.out (by kernel_rfl)) (fun _ _ _ h => h) (Or.inl ⟨by rfl, ?_⟩) ?_ ?_
               rotate_left
               ·intro w'
                go_simp
                with_reducible rfl
               rotate_left
               ·simp only [Act.put, List.setIfInBounds_toArray, List.set_cons_zero, List.set_cons_succ, i64_w, i32_w]
                rfl
               refine pure_ (i := 10) (N := some 51) (v := ?_) (a' := ?_) #[true, true, false, false, false, true, true, true, true, false, true, false, false, false, false, false, false, false, false, false, false, false, false, false, false, false, false] rfl rfl (any_of HT_.out (by kernel_rfl)) (fun _ _ _ h => h) (Or.inl ⟨by rfl, ?_⟩) ?_ ?_
               rotate_left
               ·intro w'
                go_simp
                with_reducible rfl
               rotate_left
               ·simp only [Act.put, List.setIfInBounds_toArray, List.set_cons_zero, List.set_cons_succ, i64_w, i32_w]
                rfl
               refine pure_ (i := 11) (N := some 52) (v := ?_) (a' := ?_) #[true, true, false, false, false, true, true, true, true, false, true, true, false, false, false, false, false, false, false, false, false, false, false, false, false, false, false] rfl rfl (any_of HT_.out (by kernel_rfl)) (fun _ _ _ h => h) (Or.inl ⟨by rfl, ?_⟩) ?_ ?_
               rotate_left
               ·intro w'
                go_simp
                with_reducible rfl
               rotate_left
               ·simp only [Act.put, List.setIfInBounds_toArray, List.set_cons_zero, List.set_cons_succ, i64_w, i32_w]
                rfl
               refine pure_ (i := 12) (N := some 53) (v := ?_) (a' := ?_) #[true, true, false, false, false, true, true, true, true, false, true, true, true, false, false, false, false, false, false, false, false, false, false, false, false, false, false] rfl rfl (any_of HT_.out (by kernel_rfl)) (fun _ _ _ h => h) (Or.inl ⟨by rfl, ?_⟩) ?_ ?_
               rotate_left
               ·intro w'
                go_simp
                with_reducible rfl
               rotate_left
               ·simp only [Act.put, List.setIfInBounds_toArray, List.set_cons_zero, List.set_cons_succ, i64_w, i32_w]
                rfl
               refine pure_ (i := 13) (N := some 54) (v := ?_) (a' := ?_) #[true, true, false, false, false, true, true, true, true, false, true, true, true, true, false, false, false, false, false, false, false, false, false, false, false, false, false] rfl rfl (any_of HT_.out (by kernel_rfl)) (fun _ _ _ h => h) (Or.inl ⟨by rfl, ?_⟩) ?_ ?_
               rotate_left
               ·intro w'
                go_simp
                with_reducible rfl
               rotate_left
               ·simp only [Act.put, List.setIfInBounds_toArray, List.set_cons_zero, List.set_cons_succ, i64_w, i32_w]
                rfl
               refine pure_ (i := 14) (N := some 55) (v := ?_) (a' := ?_) #[true, true, false, false, false, true, true, true, true, false, true, true, true, true, true, false, false, false, false, false, false, false, false, false, false, false, false] rfl rfl (any_of HT_.out (by kernel_rfl)) (fun _ _ _ h => h) (Or.inl ⟨by rfl, ?_⟩) ?_ ?_
               rotate_left
               ·intro w'
                go_simp
                with_reducible rfl
               rotate_left
               ·simp only [Act.put, List.setIfInBounds_toArray, List.set_cons_zero, List.set_cons_succ, i64_w, i32_w]
                rfl
               refine pure_ (i := 16) (N := some 57) (v := ?_) (a' := ?_) #[true, true, false, false, false, true, true, true, true, false, true, true, true, true, true, false, true, false, false, false, false, false, false, false, false, false, false] rfl rfl (any_of HT_.out (by kernel_rfl)) (fun _ _ _ h => h) (Or.inl ⟨by rfl, ?_⟩) ?_ ?_
               rotate_left
               ·intro w'
                go_simp
                with_reducible rfl
               rotate_left
               ·simp only [Act.put, List.setIfInBounds_toArray, List.set_cons_zero, List.set_cons_succ, i64_w, i32_w]
                rfl
               refine pure_ (i := 17) (N := some 58) (v := ?_) (a' := ?_) #[true, true, false, false, false, true, true, true, true, false, true, true, true, true, true, false, true, true, false, false, false, false, false, false, false, false, false] rfl rfl (any_of HT_.out (by kernel_rfl)) (fun _ _ _ h => h) (Or.inl ⟨by rfl, ?_⟩) ?_ ?_
               rotate_left
               ·intro w'
                go_simp
                with_reducible rfl
               rotate_left
               ·simp only [Act.put, List.setIfInBounds_toArray, List.set_cons_zero, List.set_cons_succ, i64_w, i32_w]
                rfl
               refine pure_ (i := 18) (N := some 59) (v := ?_) (a' := ?_) #[true, true, false, false, false, true, true, true, true, false, true, true, true, true, true, false, true, true, true, false, false, false, false, false, false, false, false] rfl rfl (any_of HT_.out (by kernel_rfl)) (fun _ _ _ h => h) (Or.inl ⟨by rfl, ?_⟩) ?_ ?_
               rotate_left
               ·intro w'
                go_simp
                with_reducible rfl
               rotate_left
               ·simp only [Act.put, List.setIfInBounds_toArray, List.set_cons_zero, List.set_cons_succ, i64_w, i32_w]
                rfl
               refine pure_ (i := 19) (N := some 60) (v := ?_) (a' := ?_) #[true, true, false, false, false, true, true, true, true, false, true, true, true, true, true, false, true, true, true, true, false, false, false, false, false, false, false] rfl rfl (any_of HT_.out (by kernel_rfl)) (fun _ _ _ h => h) (Or.inl ⟨by rfl, ?_⟩) ?_ ?_
               rotate_left
               ·intro w'
                go_simp
                with_reducible rfl
               rotate_left
               ·simp only [Act.put, List.setIfInBounds_toArray, List.set_cons_zero, List.set_cons_succ, i64_w, i32_w]
                rfl
               refine pure_ (i := 20) (N := some 61) (v := ?_) (a' := ?_) #[true, true, false, false, false, true, true, true, true, false, true, true, true, true, true, false, true, true, true, true, true, false, false, false, false, false, false] rfl rfl (any_of HT_.out (by kernel_rfl)) (fun _ _ _ h => h) (Or.inl ⟨by rfl, ?_⟩) ?_ ?_
               rotate_left
               ·intro w'
                go_simp
                with_reducible rfl
               rotate_left
               ·simp only [Act.put, List.setIfInBounds_toArray, List.set_cons_zero, List.set_cons_succ, i64_w, i32_w]
                rfl
               refine take_ (i := 9) (N := some 50) (v := ?_) (a' := ?_) #[true, true, false, false, false, true, true, true, true, true, true, true, true, true, true, false, true, true, true, true, true, false, false, false, false, false, false] rfl rfl (take_ofW HT_.out HW_.out (by kernel_rfl)) (fun _ _ _ h => h) (Or.inl ⟨by rfl, ?_⟩) hHeld ?_ ?_
               rotate_left
               ·rintro w' ⟨s0, s1, s2, s3, s4, s5, s6, s7, s8⟩
                go_simp
                with_reducible rfl
               rotate_left
               ·simp only [Act.put, List.setIfInBounds_toArray, List.set_cons_zero, List.set_cons_succ, i64_w, i32_w]
                rfl
               refine take_ (i := 15) (N := some 56) (v := ?_) (a' := ?_) #[true, true, false, false, false, true, true, true, true, true, true, true, true, true, true, true, true, true, true, true, true, false, false, false, false, false, false] rfl rfl (take_ofW HT_.out HW_.out (by kernel_rfl)) (fun _ _ _ h => h) (Or.inl ⟨by rfl, ?_⟩) hHeld ?_ ?_
               rotate_left
               ·rintro w' ⟨s0, s1, s2, s3, s4, s5, s6, s7, s8⟩
                go_simp
                with_reducible rfl
               rotate_left
               ·simp only [Act.put, List.setIfInBounds_toArray, List.set_cons_zero, List.set_cons_succ, i64_w, i32_w]
                rfl
               refine take_ (i := 21) (N := some 62) (v := ?_) (a' := ?_) #[true, true, false, false, false, true, true, true, true, true, true, true, true, true, true, true, true, true, true, true, true, true, false, false, false, false, false] rfl rfl (take_ofW HT_.out HW_.out (by kernel_rfl)) (fun _ _ _ h => h) (Or.inl ⟨by rfl, ?_⟩) hHeld ?_ ?_
               rotate_left
               ·rintro w' ⟨s0, s1, s2, s3, s4, s5, s6, s7, s8⟩
                go_simp
                with_reducible rfl
               rotate_left
               ·simp only [Act.put, List.setIfInBounds_toArray, List.set_cons_zero, List.set_cons_succ, i64_w, i32_w]
                rfl
               refine pure_ (i := 22) (N := some 63) (v := ?_) (a' := ?_) #[true, true, false, false, false, true, true, true, true, true, true, true, true, true, true, true, true, true, true, true, true, true, true, false, false, false, false] rfl rfl (any_of HT_.out (by kernel_rfl)) (fun _ _ _ h => h) (Or.inl ⟨by rfl, ?_⟩) ?_ ?_
               rotate_left
               ·intro w'
                go_simp
                with_reducible rfl
               rotate_left
               ·simp only [Act.put, List.setIfInBounds_toArray, List.set_cons_zero, List.set_cons_succ, i64_w, i32_w]
                rfl
               refine one_ (i := 2) (N := some 43) #[true, true, true, false, false, true, true, true, true, true, true, true, true, true, true, true, true, true, true, true, true, true, true, false, false, false, false] rfl rfl (one_of HT_.out (by kernel_rfl)) (by decide) (fun K hK => ?_)
               refine goes_ Tryd.func20 (by kernel_rfl) rfl #[.slice Ao23 x6_3.length co23] (by rfl) rfl rfl (by (try simp only [List.map_toArray, List.map_cons, List.map_nil]); first | done | rfl | (simp only [List.length_drop, List.length_take]; rfl)) ?_
               with_reducible refine (tremaref03_Normal.calls k3 _ _ x6_3 t410 _ ?side1 ?side2 A14.out).mono ?_
               (case side1 => repeat (first | exact (Kd.R_reads' HO_6.out).2.2 | (with_reducible refine Kd.C_alloc ?_ _) | (with_reducible refine Kd.C_drewN ?_ _) | (with_reducible refine Kd.C_drew ?_)))
               (case side2 => exact (Kd.R_reads' HO_6.out).2.1)
               rintro e w24 ⟨v411, rfl, ho0, hb⟩
               refine ⟨_, rfl, ?_⟩
               have n0_ := Aside0.mk (Kd.R_below (by (with_reducible repeat (first | apply Kd.R_alloc | apply Kd.R_drewN | apply Kd.R_drew)); exact HO_3.out) hb)
               have n1_ := Aside0.mk (Kd.R_elder' (by (with_reducible repeat (first | apply Kd.R_alloc | apply Kd.R_drewN | apply Kd.R_drew)); exact HO_6.out) (Kd.R_base ho0) hb)
               have n2_ := Aside0.mk (Kd.R_lower (Kd.R_new' ho0 (Kd.R_lt (by (with_reducible repeat (first | apply Kd.R_alloc | apply Kd.R_drewN | apply Kd.R_drew)); exact HO_6.out))) (below_size (by repeat (first | (with_reducible first | exact HB.out | apply below_alloc | apply pw_below_drewN | apply below_drew1) | exact HB.out))))
               have n3_ := Aside0.mk (below_step (by repeat (first | (with_reducible first | exact HB.out | apply below_alloc | apply pw_below_drewN | apply below_drew1) | exact HB.out)) hb)
               clear HO_3
               clear HO_6
               clear HB
               have HO_3 := n0_
               have HO_6 := n1_
               have HO412 := n2_
               have HB := n3_
               clear n0_ n1_ n2_ n3_
               (try clear hb)
               (try clear hb2)
               (try clear hk)
               (try clear hi)
               (try clear ho0)
               obtain ⟨Ao25, co25, eo25⟩ := Kd.R_slice HO412.out
               (first | subst eo25 | (injection eo25 with f1_ f2_ f3_; have f4_ := f1_.symm; have f5_ := f3_.symm; clear f1_ f2_ f3_; subst f4_; subst f5_))
               refine hK.out _ _ ⟨((HB.out.cell (World.block_lt_of_cell? w _ hw416_0)).trans hw416_0), ((HB.out.cell (World.block_lt_of_cell? w _ hw416_1)).trans hw416_1), ((HB.out.cell (World.block_lt_of_cell? w _ hw416_2)).trans hw416_2), ((HB.out.cell (World.block_lt_of_cell? w _ hw417_0)).trans hw417_0), ((HB.out.cell (World.block_lt_of_cell? w _ hw417_1)).trans hw417_1), ((HB.out.cell (World.block_lt_of_cell? w _ hw417_2)).trans hw417_2), ((HB.out.cell (World.block_lt_of_cell? w _ hw418_0)).trans hw418_0), ((HB.out.cell (World.block_lt_of_cell? w _ hw418_1)).trans hw418_1), ((HB.out.cell (World.block_lt_of_cell? w _ hw418_2)).trans hw418_2)⟩ (fun hHeld => ?_)
               clear hK K
               refine norm_ (a' := ?_) ?_ ?_
               rotate_left
               ·show Act.put _ (some 43) _ = _
                simp only [Act.put, List.setIfInBounds_toArray, List.set_cons_zero, List.set_cons_succ, i64_w, i32_w]
                rfl
               refine one_ (i := 3) (N := some 44) #[true, true, true, true, false, true, true, true, true, true, true, true, true, true, true, true, true, true, true, true, true, true, true, false, false, false, false] rfl rfl (one_of HT_.out (by kernel_rfl)) (by decide) (fun K hK => ?_)
               refine goes_ Tryd.func57 (by kernel_rfl) rfl #[.slice Ao25 t410.length co25] (by rfl) rfl rfl (by (try simp only [List.map_toArray, List.map_cons, List.map_nil]); first | done | rfl | (simp only [List.length_drop, List.length_take]; rfl)) ?_
               with_reducible refine (tremaref01_Encode.calls k3 _ _ t410 t413 _ ?side1 ?side2 A15.out).mono ?_
               (case side1 => repeat (first | exact (Kd.R_reads' HO412.out).2.2 | (with_reducible refine Kd.C_alloc ?_ _) | (with_reducible refine Kd.C_drewN ?_ _) | (with_reducible refine Kd.C_drew ?_)))
               (case side2 => exact (Kd.R_reads' HO412.out).2.1)
               rintro e w26 ⟨v414, rfl, ho0, hb⟩
               refine ⟨_, rfl, ?_⟩
               have n0_ := Aside0.mk (Kd.R_below (by (with_reducible repeat (first | apply Kd.R_alloc | apply Kd.R_drewN | apply Kd.R_drew)); exact HO_3.out) hb)
               have n1_ := Aside0.mk (Kd.R_below (by (with_reducible repeat (first | apply Kd.R_alloc | apply Kd.R_drewN | apply Kd.R_drew)); exact HO_6.out) hb)
               have n2_ := Aside0.mk (Kd.R_below (by (with_reducible repeat (first | apply Kd.R_alloc | apply Kd.R_drewN | apply Kd.R_drew)); exact HO412.out) hb)
               have n3_ := Aside0.mk (Kd.R_lower ho0 (below_size (by repeat (first | (with_reducible first | exact HB.out | apply below_alloc | apply pw_below_drewN | apply below_drew1) | exact HB.out))))
               have n4_ := Aside0.mk (below_step (by repeat (first | (with_reducible first | exact HB.out | apply below_alloc | apply pw_below_drewN | apply below_drew1) | exact HB.out)) hb)
               clear HO_3
               clear HO_6
               clear HO412
               clear HB
               have HO_3 := n0_
               have HO_6 := n1_
               have HO412 := n2_
               have HO415 := n3_
               have HB := n4_
               clear n0_ n1_ n2_ n3_ n4_
               (try clear hb)
               (try clear hb2)
               (try clear hk)
               (try clear hi)
               (try clear ho0)
               refine hK.out _ _ ⟨((HB.out.cell (World.block_lt_of_cell? w _ hw416_0)).trans hw416_0), ((HB.out.cell (World.block_lt_of_cell? w _ hw416_1)).trans hw416_1), ((HB.out.cell (World.block_lt_of_cell? w _ hw416_2)).trans hw416_2), ((HB.out.cell (World.block_lt_of_cell? w _ hw417_0)).trans hw417_0), ((HB.out.cell (World.block_lt_of_cell? w _ hw417_1)).trans hw417_1), ((HB.out.cell (World.block_lt_of_cell? w _ hw417_2)).trans hw417_2), ((HB.out.cell (World.block_lt_of_cell? w _ hw418_0)).trans hw418_0), ((HB.out.cell (World.block_lt_of_cell? w _ hw418_1)).trans hw418_1), ((HB.out.cell (World.block_lt_of_cell? w _ hw418_2)).trans hw418_2)⟩ (fun hHeld => ?_)
               clear hK K
               refine norm_ (a' := ?_) ?_ ?_
               rotate_left
               ·show Act.put _ (some 44) _ = _
                simp only [Act.put, List.setIfInBounds_toArray, List.set_cons_zero, List.set_cons_succ, i64_w, i32_w]
                rfl
               refine one_ (i := 4) (N := some 45) #[true, true, true, true, true, true, true, true, true, true, true, true, true, true, true, true, true, true, true, true, true, true, true, false, false, false, false] rfl rfl (one_of HT_.out (by kernel_rfl)) (by decide) (fun K hK => ?_)
               have hcv27 := own_string (P := Tryd.prog) Tryd.underlying27 Tryd.underlying5 Tryd.underlying9 (Kd.own_of_R HO415.out)
               refine value_ (w1 := ?_) (v := ?_) (by rfl) rfl ?_ ?_
               rotate_left 2
               ·go_simp
                constructor
                ·rfl
                ·rfl
               clear hcv27
               refine hK.out _ _ ⟨((HB.out.cell (World.block_lt_of_cell? w _ hw416_0)).trans hw416_0), ((HB.out.cell (World.block_lt_of_cell? w _ hw416_1)).trans hw416_1), ((HB.out.cell (World.block_lt_of_cell? w _ hw416_2)).trans hw416_2), ((HB.out.cell (World.block_lt_of_cell? w _ hw417_0)).trans hw417_0), ((HB.out.cell (World.block_lt_of_cell? w _ hw417_1)).trans hw417_1), ((HB.out.cell (World.block_lt_of_cell? w _ hw417_2)).trans hw417_2), ((HB.out.cell (World.block_lt_of_cell? w _ hw418_0)).trans hw418_0), ((HB.out.cell (World.block_lt_of_cell? w _ hw418_1)).trans hw418_1), ((HB.out.cell (World.block_lt_of_cell? w _ hw418_2)).trans hw418_2)⟩ (fun hHeld => ?_)
               clear hK K
               refine norm_ (a' := ?_) ?_ ?_
               rotate_left
               ·show Act.put _ (some 45) _ = _
                simp only [Act.put, List.setIfInBounds_toArray, List.set_cons_zero, List.set_cons_succ, i64_w, i32_w]
                rfl
               refine pure_ (i := 23) (N := some 64) (v := ?_) (a' := ?_) #[true, true, true, true, true, true, true, true, true, true, true, true, true, true, true, true, true, true, true, true, true, true, true, true, false, false, false] rfl rfl (any_of HT_.out (by kernel_rfl)) (fun _ _ _ h => h) (Or.inl ⟨by rfl, ?_⟩) ?_ ?_
               rotate_left
               ·intro w'
                go_simp
                with_reducible rfl
               rotate_left
               ·simp only [Act.put, List.setIfInBounds_toArray, List.set_cons_zero, List.set_cons_succ, i64_w, i32_w]
                rfl
               refine one_ (i := 24) (N := some 65) #[true, true, true, true, true, true, true, true, true, true, true, true, true, true, true, true, true, true, true, true, true, true, true, true, true, false, false] rfl rfl (one_of HT_.out (by kernel_rfl)) (by decide) (fun K hK => ?_)
               refine value_ (w1 := ?_) (v := ?_) (by rfl) rfl ?_ ?_
               rotate_left 2
               ·go_simp
                constructor
                ·rfl
                ·rfl
               refine hK.out _ _ ⟨(World.cell?_alloc_lt _ _ _ (World.block_lt_of_cell? _ _ (((HB.out.cell (World.block_lt_of_cell? w _ hw416_0)).trans hw416_0)))).trans (((HB.out.cell (World.block_lt_of_cell? w _ hw416_0)).trans hw416_0)), (World.cell?_alloc_lt _ _ _ (World.block_lt_of_cell? _ _ (((HB.out.cell (World.block_lt_of_cell? w _ hw416_1)).trans hw416_1)))).trans (((HB.out.cell (World.block_lt_of_cell? w _ hw416_1)).trans hw416_1)), (World.cell?_alloc_lt _ _ _ (World.block_lt_of_cell? _ _ (((HB.out.cell (World.block_lt_of_cell? w _ hw416_2)).trans hw416_2)))).trans (((HB.out.cell (World.block_lt_of_cell? w _ hw416_2)).trans hw416_2)), (World.cell?_alloc_lt _ _ _ (World.block_lt_of_cell? _ _ (((HB.out.cell (World.block_lt_of_cell? w _ hw417_0)).trans hw417_0)))).trans (((HB.out.cell (World.block_lt_of_cell? w _ hw417_0)).trans hw417_0)), (World.cell?_alloc_lt _ _ _ (World.block_lt_of_cell? _ _ (((HB.out.cell (World.block_lt_of_cell? w _ hw417_1)).trans hw417_1)))).trans (((HB.out.cell (World.block_lt_of_cell? w _ hw417_1)).trans hw417_1)), (World.cell?_alloc_lt _ _ _ (World.block_lt_of_cell? _ _ (((HB.out.cell (World.block_lt_of_cell? w _ hw417_2)).trans hw417_2)))).trans (((HB.out.cell (World.block_lt_of_cell? w _ hw417_2)).trans hw417_2)), (World.cell?_alloc_lt _ _ _ (World.block_lt_of_cell? _ _ (((HB.out.cell (World.block_lt_of_cell? w _ hw418_0)).trans hw418_0)))).trans (((HB.out.cell (World.block_lt_of_cell? w _ hw418_0)).trans hw418_0)), (World.cell?_alloc_lt _ _ _ (World.block_lt_of_cell? _ _ (((HB.out.cell (World.block_lt_of_cell? w _ hw418_1)).trans hw418_1)))).trans (((HB.out.cell (World.block_lt_of_cell? w _ hw418_1)).trans hw418_1)), (World.cell?_alloc_lt _ _ _ (World.block_lt_of_cell? _ _ (((HB.out.cell (World.block_lt_of_cell? w _ hw418_2)).trans hw418_2)))).trans (((HB.out.cell (World.block_lt_of_cell? w _ hw418_2)).trans hw418_2))⟩ (fun hHeld => ?_)
               clear hK K
               refine norm_ (a' := ?_) ?_ ?_
               rotate_left
               ·show Act.put _ (some 65) _ = _
                simp only [Act.put, List.setIfInBounds_toArray, List.set_cons_zero, List.set_cons_succ, i64_w, i32_w]
                rfl
               refine one_ (i := 25) (N := some 66) #[true, true, true, true, true, true, true, true, true, true, true, true, true, true, true, true, true, true, true, true, true, true, true, true, true, true, false] rfl rfl (one_of HT_.out (by kernel_rfl)) (by decide) (fun K hK => ?_)
               refine Kd.R_append_step k69 (w0 := w) w.heap.size (by rfl) (.tmp 41) (.tmp 65) 47 69 (.agg #[(.string ⟨#[]⟩), (.int .i64 0), (.int .i64 0)]) 32 rfl Tryd.underlying47 info69 rfl (by decide) (by omega) u3 x3_1 (⟨strOfNums t413, (rd_T75 l0 x4_1).f1, wrap64 (((rd_T75 l0 (ji18)).f1) + ((rd_T75 l0 (ji18)).f2))⟩ : S69) [.string (strOfNums t413), .int .i64 ((rd_T75 l0 x4_1).f1), .int .i64 (wrap64 (((rd_T75 l0 (ji18)).f1) + ((rd_T75 l0 (ji18)).f2)))] (fun _ => True) (fun _ => False) rfl rfl ?aP (fun _ hk => hk.elim) ?aF ?aO ?aB ?aS ?aL ?_
               (case aP => exact k69_mkM _ _ _ (⟨strOfNums t413, (rd_T75 l0 x4_1).f1, wrap64 (((rd_T75 l0 (ji18)).f1) + ((rd_T75 l0 (ji18)).f2))⟩ : S69))
               (case aB => exact (by repeat (first | (with_reducible first | exact HB.out | apply below_alloc | apply pw_below_drewN | apply below_drew1) | exact HB.out)))
               (case aF => exact (fun _ _ => trivial))
               (case aO => exact (by (with_reducible repeat (first | apply Kd.R_alloc | apply Kd.R_drewN | apply Kd.R_drew)); exact HO_3.out))
               (case aS => exact (below_size (by repeat (first | (with_reducible first | exact HB.out | apply below_alloc | apply pw_below_drewN | apply below_drew1) | exact HB.out))))
               (case aL => have := LMc21.out; omega)
               intro v420 w28 ho hb hg hat
               rw [← Ny419.out] at ho
               have n0_ := Aside0.mk (Kd.R_over' (by (with_reducible repeat (first | apply Kd.R_alloc | apply Kd.R_drewN | apply Kd.R_drew)); exact HO_6.out) (Kd.R_typed (by (with_reducible repeat (first | apply Kd.R_alloc | apply Kd.R_drewN | apply Kd.R_drew)); exact HO_3.out)) (by decide) hg)
               have n1_ := Aside0.mk (Kd.R_over' (by (with_reducible repeat (first | apply Kd.R_alloc | apply Kd.R_drewN | apply Kd.R_drew)); exact HO412.out) (Kd.R_typed (by (with_reducible repeat (first | apply Kd.R_alloc | apply Kd.R_drewN | apply Kd.R_drew)); exact HO_3.out)) (by decide) hg)
               have n2_ := Aside0.mk (Kd.R_over' (by (with_reducible repeat (first | apply Kd.R_alloc | apply Kd.R_drewN | apply Kd.R_drew)); exact HO415.out) (Kd.R_typed (by (with_reducible repeat (first | apply Kd.R_alloc | apply Kd.R_drewN | apply Kd.R_drew)); exact HO_3.out)) (by decide) hg)
               have n3_ := Aside0.mk (hb)
               have n4_ := Aside0.mk (ho)
               clear HO_6
               clear HO412
               clear HO415
               clear HB
               clear HO_3
               have HO_6 := n0_
               have HO412 := n1_
               have HO415 := n2_
               have HB := n3_
               have HO421 := n4_
               clear n0_ n1_ n2_ n3_ n4_
               clear ho hb hg hat
               refine hK.out _ _ ⟨((HB.out.cell (World.block_lt_of_cell? w _ hw416_0)).trans hw416_0), ((HB.out.cell (World.block_lt_of_cell? w _ hw416_1)).trans hw416_1), ((HB.out.cell (World.block_lt_of_cell? w _ hw416_2)).trans hw416_2), ((HB.out.cell (World.block_lt_of_cell? w _ hw417_0)).trans hw417_0), ((HB.out.cell (World.block_lt_of_cell? w _ hw417_1)).trans hw417_1), ((HB.out.cell (World.block_lt_of_cell? w _ hw417_2)).trans hw417_2), ((HB.out.cell (World.block_lt_of_cell? w _ hw418_0)).trans hw418_0), ((HB.out.cell (World.block_lt_of_cell? w _ hw418_1)).trans hw418_1), ((HB.out.cell (World.block_lt_of_cell? w _ hw418_2)).trans hw418_2)⟩ (fun hHeld => ?_)
               clear hK K
               refine norm_ (a' := ?_) ?_ ?_
               rotate_left
               ·show Act.put _ (some 66) _ = _
                simp only [Act.put, List.setIfInBounds_toArray, List.set_cons_zero, List.set_cons_succ, i64_w, i32_w]
                rfl
               refine pure_ (i := 26) (N := some 3) (v := ?_) (a' := ?_) #[true, true, true, true, true, true, true, true, true, true, true, true, true, true, true, true, true, true, true, true, true, true, true, true, true, true, true] rfl rfl (any_of HT_.out (by kernel_rfl)) (fun _ _ _ h => h) (Or.inl ⟨by rfl, ?_⟩) ?_ ?_
               rotate_left
               ·intro w'
                go_simp
                with_reducible rfl
               rotate_left
               ·simp only [Act.put, List.setIfInBounds_toArray, List.set_cons_zero, List.set_cons_succ, i64_w, i32_w]
                rfl
               refine done_ (done_of HT_.out (by kernel_rfl)) ?_
               try go_wp2
               go_roundg k3
               case measure => have := HK1.out; have := HJ2.out; have := HK3.out; omega
               case rel => exact ⟨(y419), (x5_1), (wrap64 (x5_1 + 1)), (by first | rfl | (simp; done) | (simp [*]; done)), (by first | rfl | (simp; done) | (simp [*]; done)), H', ⟨by have := HK1.out; have := HJ2.out; have := HK3.out; omega⟩, ⟨by (with_reducible repeat (first | apply Kd.R_alloc | apply Kd.R_drewN | apply Kd.R_drew)); exact HO421.out⟩, ⟨by repeat (first | (with_reducible first | exact HB.out | apply below_alloc | apply pw_below_drewN | apply below_drew1) | exact HB.out)⟩⟩
              ·rw [if_neg c21] at H
               exact absurd H (by simp)
             ·rw [if_neg c20] at H
              exact absurd H (by simp)
            ·rw [if_neg c19] at H
             exact absurd H (by simp)
           ·rw [if_neg c17] at H
            exact absurd H (by simp)
          ·rw [if_neg c16] at H
           exact absurd H (by simp)
   ·rw [if_neg c2] at H
    have c2b0 : decide (x5_1 ≤ (l0.length : Int)) = false := decide_eq_false c2
    clear c2
    obtain rfl := Option.some.inj H
    go_wp2
    go_ret
    exact ⟨_, by first | rfl | (simp [errW_none, errW_some] <;> rfl) | (simp [*, errW_none, errW_some] <;> rfl), by (with_reducible repeat (first | apply Kd.R_alloc | apply Kd.R_drewN | apply Kd.R_drew)); exact HO_3.out, by repeat (first | (with_reducible first | exact HB.out | apply below_alloc | apply pw_below_drewN | apply below_drew1) | exact HB.out)⟩
end Go.Proofs.YtiggjbclbdikmaaDoor.X
namespace Go.Proofs.YtiggjbclbdikmaaDoor.X
open Go.RowKit Go.Proofs.YtiggjbclbdikmaaDoorW.PrintWords Go.Proofs.YtiggjbclbdikmaaDoorW.PrintLast Go.Proofs.YtiggjbclbdikmaaDoorW.PrintMore
attribute [local go_sem] max2_int min2_int max_two min_two max_three min_three max_four min_four   
set_option linter.unusedVariables false
set_option linter.unusedSimpArgs false
def tremaref04_All.f (k : Nat) (l0 : List Int) : Option ((List (S69))) := (tremaref01_Decode.f k l0 false).bind fun t422 => ((tremaref04_cut.f k t422).bind fun t425 => (some t425))
theorem tremaref04_All.mono : ∀ a0 k, LeO (tremaref04_All.f k a0) (tremaref04_All.f (k + 1) a0) := by
 intro a0 k
 unfold tremaref04_All.f
 repeat' first
   | (with_reducible exact tremaref01_Decode.mono _ _ _)
   | (with_reducible exact tremaref04_cut.mono _ _)
   | (with_reducible exact LeO.refl _)
   | (with_reducible exact LeO.none _)
   | (with_reducible refine LeO.ite ?_ ?_)
   | (with_reducible refine LeO.bind ?_ (fun _ => ?_))
   | exact tremaref01_Decode.mono _ _ _
   | exact tremaref04_cut.mono _ _
   | exact LeO.none _
   | refine LeO.ite ?_ ?_
   | refine LeO.bind ?_ (fun _ => ?_)
set_option maxHeartbeats 8000000 in
set_option maxRecDepth 100000 in
theorem tremaref04_All.calls (k : Nat) (A0 : Option Addr) (c0 : Nat) (l0 : List Int) (r : List (S69)) (w : World) (hr0 : Kd.C (Kd.int .u8) w A0 l0.length l0) (hc0 : l0.length ≤ c0) (h : tremaref04_All.f k l0 = some r) :
  Calls Tryd.prog 45 #[.slice A0 l0.length c0] w fun e w' => ∃ v0_ : Value, e = .returned (v0_) ∧ Kd.R k69 69 w' w.heap.size (fun _ => True) v0_ r ∧ Below w.heap.size w w' := by
 have HR0 := Aside0.mk hr0
 have HC0 := Aside0.mk hc0
 clear hr0 hc0
 have HB := Aside0.mk (Below.refl w.heap.size w)
 have H : ((tremaref01_Decode.f k l0 false).bind fun t422 => ((tremaref04_cut.f k t422).bind fun t425 => (some t425))) = some r := h
 clear h
 replace H := Option.bind_eq_some_iff.mp H
 obtain ⟨t422, A20, H⟩ := H
 replace H : ((tremaref04_cut.f k t422).bind fun t425 => (some t425)) = some r := H
 have A2 := Aside0.mk A20
 clear A20
 replace H := Option.bind_eq_some_iff.mp H
 obtain ⟨t425, A30, H⟩ := H
 replace H : (some t425) = some r := H
 have A3 := Aside0.mk A30
 clear A30
 obtain rfl := Option.some.inj H
 go_enter Tryd.func45, Tryd.ntmps45
 go_wp2_with (first | ((with_reducible refine gate_callee (f := 59) rfl ?_); refine goesL_ (some 4) rfl rfl Tryd.func59 (by kernel_rfl) rfl #[.slice A0 l0.length c0, .bool false] rfl (by (try simp only [List.map_toArray, List.map_cons, List.map_nil]); first | done | rfl | (simp only [List.length_drop, List.length_take]; rfl)) ?_; (with_reducible refine (tremaref01_Decode.calls k _ _ l0 false t422 _ ?side1 ?side2 A2.out).mono ?_); (case side1 => repeat (first | exact HR0.out | (with_reducible refine Kd.C_alloc ?_ _) | (with_reducible refine Kd.C_drewN ?_ _) | (with_reducible refine Kd.C_drew ?_))); (case side2 => exact HC0.out); rintro e w4 ⟨v423, rfl, ho0, hb⟩; refine ⟨_, rfl, ?_⟩; have n0_ := Aside0.mk (Kd.R_lower ho0 (below_size (by repeat (first | (with_reducible first | exact HB.out | apply below_alloc | apply pw_below_drewN | apply below_drew1) | exact HB.out)))); have n1_ := Aside0.mk (below_step (by repeat (first | (with_reducible first | exact HB.out | apply below_alloc | apply pw_below_drewN | apply below_drew1) | exact HB.out)) hb); clear HB; have HO424 := n0_; have HB := n1_; clear n0_ n1_; (try clear hb); (try clear hb2); (try clear hk); (try clear hi); (try clear ho0); obtain ⟨Ao5, co5, eo5⟩ := Kd.R_slice HO424.out; subst eo5) | ((with_reducible refine gate_callee (f := 67) rfl ?_); refine goesL_ (some 5) rfl rfl Tryd.func67 (by kernel_rfl) rfl #[.slice Ao5 t422.length co5] rfl (by (try simp only [List.map_toArray, List.map_cons, List.map_nil]); first | done | rfl | (simp only [List.length_drop, List.length_take]; rfl)) ?_; (with_reducible refine (tremaref04_cut.calls k _ _ t422 t425 _ ?side1 ?side2 A3.out).mono ?_); (case side1 => repeat (first | exact (Kd.R_reads' HO424.out).2.2 | (with_reducible refine Kd.C_alloc ?_ _) | (with_reducible refine Kd.C_drewN ?_ _) | (with_reducible refine Kd.C_drew ?_))); (case side2 => exact (Kd.R_reads' HO424.out).2.1); rintro e w6 ⟨v426, rfl, ho0, hb⟩; refine ⟨_, rfl, ?_⟩; have n0_ := Aside0.mk (Kd.R_below (by (with_reducible repeat (first | apply Kd.R_alloc | apply Kd.R_drewN | apply Kd.R_drew)); exact HO424.out) hb); have n1_ := Aside0.mk (Kd.R_lower ho0 (below_size (by repeat (first | (with_reducible first | exact HB.out | apply below_alloc | apply pw_below_drewN | apply below_drew1) | exact HB.out)))); have n2_ := Aside0.mk (below_step (by repeat (first | (with_reducible first | exact HB.out | apply below_alloc | apply pw_below_drewN | apply below_drew1) | exact HB.out)) hb); clear HO424; clear HB; have HO424 := n0_; have HO427 := n1_; have HB := n2_; clear n0_ n1_ n2_; (try clear hb); (try clear hb2); (try clear hk); (try clear hi); (try clear ho0)))
 go_ret
 exact ⟨_, by first | rfl | (simp [errW_none, errW_some] <;> rfl) | (simp [*, errW_none, errW_some] <;> rfl), by (with_reducible repeat (first | apply Kd.R_alloc | apply Kd.R_drewN | apply Kd.R_drew)); exact HO427.out, by repeat (first | (with_reducible first | exact HB.out | apply below_alloc | apply pw_below_drewN | apply below_drew1) | exact HB.out)⟩
end Go.Proofs.YtiggjbclbdikmaaDoor.X
namespace Go.Proofs.YtiggjbclbdikmaaDoor.X
open Go.RowKit Go.Proofs.YtiggjbclbdikmaaDoorW.PrintWords Go.Proofs.YtiggjbclbdikmaaDoorW.PrintLast Go.Proofs.YtiggjbclbdikmaaDoorW.PrintMore
attribute [local go_sem] max2_int min2_int max_two min_two max_three min_three max_four min_four   
set_option linter.unusedVariables false
set_option linter.unusedSimpArgs false
def tremaref01_SameTexts.l0 : Nat → List ByteArray → List ByteArray → Int → Option (Bool)
 | 0, _, _, _ => none
 | k + 1, x0, x1, x5 => if x5 < (x0.length : Int) then (if 0 ≤ x5 then (if x5 < (x1.length : Int) then (if (rdOf ByteArray.empty x0 x5).toList = (rdOf ByteArray.empty x1 x5).toList then (tremaref01_SameTexts.l0 k x0 x1 (wrap64 (x5 + 1))) else (some false)) else (none)) else (none)) else (some true)
def tremaref01_SameTexts.f (k : Nat) (l0 : List ByteArray) (l1 : List ByteArray) : Option (Bool) := if (l0.length : Int) = (l1.length : Int) then (tremaref01_SameTexts.l0 k l0 l1 0) else (some false)
theorem tremaref01_SameTexts.mono_l : ∀ k, (∀ y0 y1 y2, LeO (tremaref01_SameTexts.l0 k y0 y1 y2) (tremaref01_SameTexts.l0 (k + 1) y0 y1 y2))
 | 0 => fun _ _ _ r h => by simp [tremaref01_SameTexts.l0] at h
 | k + 1 => by
  have ih0 := tremaref01_SameTexts.mono_l k
  ·intro y0 y1 y2
   unfold tremaref01_SameTexts.l0
   repeat' first
   | (with_reducible exact ih0 _ _ _)
   | (with_reducible exact LeO.refl _)
   | (with_reducible exact LeO.none _)
   | (with_reducible refine LeO.ite ?_ ?_)
   | (with_reducible refine LeO.bind ?_ (fun _ => ?_))
   | exact ih0 _ _ _
   | exact LeO.none _
   | refine LeO.ite ?_ ?_
   | refine LeO.bind ?_ (fun _ => ?_)
theorem tremaref01_SameTexts.mono : ∀ a0 a1 k, LeO (tremaref01_SameTexts.f k a0 a1) (tremaref01_SameTexts.f (k + 1) a0 a1) := by
 intro a0 a1 k
 have ih0 := tremaref01_SameTexts.mono_l k
 unfold tremaref01_SameTexts.f
 repeat' first
   | (with_reducible exact ih0 _ _ _)
   | (with_reducible exact LeO.refl _)
   | (with_reducible exact LeO.none _)
   | (with_reducible refine LeO.ite ?_ ?_)
   | (with_reducible refine LeO.bind ?_ (fun _ => ?_))
   | exact ih0 _ _ _
   | exact LeO.none _
   | refine LeO.ite ?_ ?_
   | refine LeO.bind ?_ (fun _ => ?_)
set_option maxHeartbeats 8000000 in
set_option maxRecDepth 100000 in
theorem tremaref01_SameTexts.calls (k : Nat) (A0 : Option Addr) (c0 : Nat) (l0 : List ByteArray) (A1 : Option Addr) (c1 : Nat) (l1 : List ByteArray) (r : Bool) (w : World) (hr0 : Kd.C Kd.string w A0 l0.length l0) (hc0 : l0.length ≤ c0) (hr1 : Kd.C Kd.string w A1 l1.length l1) (hc1 : l1.length ≤ c1) (h : tremaref01_SameTexts.f k l0 l1 = some r) :
  Calls Tryd.prog 42 #[.slice A0 l0.length c0, .slice A1 l1.length c1] w fun e w' => e = .returned (.bool r) ∧ Drawn0 w w' := by
 have HR0 := Aside0.mk hr0
 have HC0 := Aside0.mk hc0
 clear hr0 hc0
 have HR1 := Aside0.mk hr1
 have HC1 := Aside0.mk hc1
 clear hr1 hc1
 have H : (if (l0.length : Int) = (l1.length : Int) then (tremaref01_SameTexts.l0 k l0 l1 0) else (some false)) = some r := h
 clear h
 by_cases c3 : (l0.length : Int) = (l1.length : Int)
 ·rw [if_pos c3] at H
  have c3b0 : ((l0.length : Int) == (l1.length : Int)) = true := beq_iff_eq.mpr c3
  have c3b1 : ((l0.length : Int) != (l1.length : Int)) = false := bne_eq_false_iff_eq.mpr c3
  have c3b2 : (l0.length == l1.length) = true := by first | simpa using c3 | (simp at c3 ⊢; omega)
  clear c3
  have H' := Aside0.mk H
  clear H
  go_enter Tryd.func42, Tryd.ntmps42
  go_wp2
  repeat (go_quiet (fail); try go_wp2)
  go_loopg [5] k (fun kq v5 w' => ∃ (x5_1 : Int), v5 = .int .i64 x5_1 ∧ Aside0 (tremaref01_SameTexts.l0 kq l0 l1 x5_1 = some r) ∧ Aside0 (kq ≤ k) ∧ Drawn0 w w')
  case atStart => exact ⟨(0), (by first | rfl | (simp; done) | (simp [*]; done)), H', ⟨Nat.le_refl _⟩, by repeat (first | exact Drawn0.refl _ | apply Drawn0.step)⟩
  case round =>
   clear H'
   try clear c1
   try clear p2
   try clear c3
   try clear c3b0
   try clear c3b1
   try clear c3b2
   obtain ⟨x5_1, rfl, HA, HK1, ⟨m1, rfl⟩⟩ := hrel
   cases gk with
   | zero => exact absurd HA.out (by simp [tremaref01_SameTexts.l0])
   | succ k1 =>
    have H := HA.out
    clear HA
    simp only [tremaref01_SameTexts.l0] at H
    by_cases c4 : x5_1 < (l0.length : Int)
    ·rw [if_pos c4] at H
     have c4b0 : decide (x5_1 < (l0.length : Int)) = true := decide_eq_true c4
     clear c4
     by_cases c5 : 0 ≤ x5_1
     ·rw [if_pos c5] at H
      have c5b0 : decide (0 ≤ x5_1) = true := decide_eq_true c5
      clear c5
      by_cases c6 : x5_1 < (l1.length : Int)
      ·rw [if_pos c6] at H
       have c6b0 : decide (x5_1 < (l1.length : Int)) = true := decide_eq_true c6
       clear c6
       by_cases c7 : (rdOf ByteArray.empty l0 x5_1).toList = (rdOf ByteArray.empty l1 x5_1).toList
       ·rw [if_pos c7] at H
        have c7b0 : ((rdOf ByteArray.empty l0 x5_1).toList == (rdOf ByteArray.empty l1 x5_1).toList) = true := beq_iff_eq.mpr c7
        have c7b1 : ((rdOf ByteArray.empty l0 x5_1).toList != (rdOf ByteArray.empty l1 x5_1).toList) = false := bne_eq_false_iff_eq.mpr c7
        clear c7
        have H' := Aside0.mk H
        clear H
        have p442 : 0 ≤ (x5_1 : Int) := of_decide_eq_true (by first | (with_reducible assumption) | assumption)
        have q442 : x5_1 < (l0.length : Int) := of_decide_eq_true (by first | (with_reducible assumption) | assumption)
        obtain ⟨ad442, e442, hx442_0⟩ := Kd.at_string HR0.out x5_1 p442 q442
        cases e442
        replace p442 := eq_true p442
        replace q442 := eq_true q442
        have p443 : 0 ≤ (x5_1 : Int) := of_decide_eq_true (by first | (with_reducible assumption) | assumption)
        have q443 : x5_1 < (l1.length : Int) := of_decide_eq_true (by first | (with_reducible assumption) | assumption)
        obtain ⟨ad443, e443, hx443_0⟩ := Kd.at_string HR1.out x5_1 p443 q443
        cases e443
        replace p443 := eq_true p443
        replace q443 := eq_true q443
        go_wp2
        repeat (go_quiet (fail); try go_wp2)
        go_roundg k1
        case measure => have := HK1.out; omega
        case rel => exact ⟨(wrap64 (x5_1 + 1)), (by first | rfl | (simp; done) | (simp [*]; done)), H', ⟨by have := HK1.out; omega⟩, by repeat (first | exact Drawn0.refl _ | apply Drawn0.step)⟩
       ·rw [if_neg c7] at H
        have c7b0 : ((rdOf ByteArray.empty l0 x5_1).toList == (rdOf ByteArray.empty l1 x5_1).toList) = false := beq_eq_false_iff_ne.mpr c7
        have c7b1 : ((rdOf ByteArray.empty l0 x5_1).toList != (rdOf ByteArray.empty l1 x5_1).toList) = true := bne_iff_ne.mpr c7
        obtain rfl := Option.some.inj H
        have p442 : 0 ≤ (x5_1 : Int) := of_decide_eq_true (by first | (with_reducible assumption) | assumption)
        have q442 : x5_1 < (l0.length : Int) := of_decide_eq_true (by first | (with_reducible assumption) | assumption)
        obtain ⟨ad442, e442, hx442_0⟩ := Kd.at_string HR0.out x5_1 p442 q442
        cases e442
        replace p442 := eq_true p442
        replace q442 := eq_true q442
        have p443 : 0 ≤ (x5_1 : Int) := of_decide_eq_true (by first | (with_reducible assumption) | assumption)
        have q443 : x5_1 < (l1.length : Int) := of_decide_eq_true (by first | (with_reducible assumption) | assumption)
        obtain ⟨ad443, e443, hx443_0⟩ := Kd.at_string HR1.out x5_1 p443 q443
        cases e443
        replace p443 := eq_true p443
        replace q443 := eq_true q443
        go_wp2
        repeat (go_quiet (fail); try go_wp2)
        go_ret
        exact ⟨by first | rfl | (simp; done) | (simp [*]; done), by repeat (first | exact Drawn0.refl _ | apply Drawn0.step)⟩
      ·rw [if_neg c6] at H
       exact absurd H (by simp)
     ·rw [if_neg c5] at H
      exact absurd H (by simp)
    ·rw [if_neg c4] at H
     have c4b0 : decide (x5_1 < (l0.length : Int)) = false := decide_eq_false c4
     clear c4
     obtain rfl := Option.some.inj H
     go_wp2
     repeat (go_quiet (fail); try go_wp2)
     go_ret
     exact ⟨by first | rfl | (simp; done) | (simp [*]; done), by repeat (first | exact Drawn0.refl _ | apply Drawn0.step)⟩
 ·rw [if_neg c3] at H
  have c3b0 : ((l0.length : Int) == (l1.length : Int)) = false := beq_eq_false_iff_ne.mpr c3
  have c3b1 : ((l0.length : Int) != (l1.length : Int)) = true := bne_iff_ne.mpr c3
  have c3b2 : (l0.length == l1.length) = false := by first | simpa using c3 | (simp at c3 ⊢; omega)
  obtain rfl := Option.some.inj H
  go_enter Tryd.func42, Tryd.ntmps42
  go_wp2
  repeat (go_quiet (fail); try go_wp2)
  go_ret
  exact ⟨by first | rfl | (simp; done) | (simp [*]; done), by repeat (first | exact Drawn0.refl _ | apply Drawn0.step)⟩
end Go.Proofs.YtiggjbclbdikmaaDoor.X
namespace Go.Proofs.YtiggjbclbdikmaaDoor.Sgp
set_option linter.unusedVariables false
set_option linter.unusedSimpArgs false
open Go.Proofs.YtiggjbclbdikmaaDoor.Vd (decU)
open Go.Proofs.YtiggjbclbdikmaaDoor.Ve (opn)
open Go.Proofs.YtiggjbclbdikmaaDoor.Ux (Bytes one1 dc rest1 full dec)
open Go.Proofs.YtiggjbclbdikmaaDoor.En (enc fixr enc_byte enc_len)
open Go.RowKit Go.Proofs.YtiggjbclbdikmaaDoorW.PrintWords Go.Proofs.YtiggjbclbdikmaaDoor.Ev0 Go.Proofs.YtiggjbclbdikmaaDoor.X Go.Proofs.YtiggjbclbdikmaaDoor.Oa Go.Proofs.YtiggjbclbdikmaaDoor.Ob Go.Proofs.YtiggjbclbdikmaaDoor.Vp0 Go.Proofs.YtiggjbclbdikmaaDoor.Sga Go.Proofs.YtiggjbclbdikmaaDoor.Sgb Go.Proofs.YtiggjbclbdikmaaDoor.Sgc Go.Proofs.YtiggjbclbdikmaaDoor.Sgd
theorem lenF_txt (l : List Int) : lenF (txt l) = (nrm l).length := by
  unfold lenF txt Ot.rns
  rw [Ot.bytes_str _ (enc_byte _), Bk.full_ful]
  rw [Bk.ful_enc, List.length_map]
theorem flat_flat (l : List Int) (hl : ∀ x ∈ l, I32 x) : flat (flat l) = flat l := flat_id _ (fun y hy => (flat_bot l hl y hy).1)
theorem txt_flat (l : List Int) (hl : ∀ x ∈ l, I32 x) : txt (flat l) = txt l := by
  unfold txt nrm
  rw [flat_flat l hl]
theorem flat_ne (l : List Int) (h : l ≠ []) : flat l ≠ [] := by
  cases l with
  | nil => exact absurd rfl h
  | cons x t =>
    rw [flat_cons]
    intro e
    exact Ve.decF_ne 4 x (List.append_eq_nil_iff.1 e).1
def cutR : List SP → List Int → Int → Int → List SG
  | [], rs, a, e => [⟨txt rs, a, e⟩]
  | p :: t, rs, a, e => if opn p.f0 = true then ⟨txt rs, a, e⟩ :: cutR t [p.f0] p.f1 (p.f1 + p.f2) else cutR t (rs ++ [p.f0]) a (p.f1 + p.f2)
def cutS : List SP → List SG
  | [] => []
  | p :: t => cutR t [p.f0] p.f1 (p.f1 + p.f2)
def goodS (lim : Int) : List SG → List SG × Bool
  | [] => ([], false)
  | s :: l => if lim < (lenF s.f0 : Int) then ([], true) else (s :: (goodS lim l).1, (goodS lim l).2)
theorem long_first (lim : Int) : ∀ (t : List SP) (rs : List Int) (a e : Int), lim < ((flat rs).length : Int) → goodS lim (cutR t rs a e) = ([], true)
  | [], rs, a, e, h => by
    rw [cutR, goodS, if_pos (by rw [lenF_txt, nrm_len]; exact h)]
  | p :: t, rs, a, e, h => by
    rw [cutR]
    split
    · rw [goodS, if_pos (by rw [lenF_txt, nrm_len]; exact h)]
    · refine long_first lim t _ _ _ ?_
      rw [flat_app, List.length_append]
      omega
theorem tk_cut (lim : Int) : ∀ (t : List SP) (rs : List Int) (a e : Int), rs ≠ [] → (∀ x ∈ rs, I32 x) → (∀ p ∈ t, fine p) → ((flat rs).length : Int) ≤ lim →
    goodS lim (cutR t rs a e) = (fin (tk lim t (flat rs) a e), (tk lim t (flat rs) a e).2.2.2.2)
  | [], rs, a, e, hne, hrs, _, hl => by
    have h1 : (flat rs).isEmpty = false := by
      cases h : flat rs with
      | nil => exact absurd h (flat_ne rs hne)
      | cons x t => rfl
    rw [cutR, goodS, if_neg (by rw [lenF_txt, nrm_len]; omega), goodS]
    simp [tk, fin, h1, txt_flat rs hrs]
  | p :: t, rs, a, e, hne, hrs, hf, hl => by
    have h1 : (flat rs).isEmpty = false := by
      cases h : flat rs with
      | nil => exact absurd h (flat_ne rs hne)
      | cons x t => rfl
    have hp := hf p (List.mem_cons_self ..)
    have ht := fun q hq => hf q (List.mem_cons_of_mem _ hq)
    have hfl : flushB (flat rs) p.f0 = opn p.f0 := by unfold flushB; rw [h1]; rfl
    have e1 : flat [p.f0] = decU p.f0 := by simp [flat]
    rw [cutR, tk, hfl, txt_flat rs hrs]
    by_cases ho : opn p.f0 = true
    · rw [if_pos ho, if_pos ho, goodS, if_neg (by rw [lenF_txt, nrm_len]; omega)]
      by_cases hlm : lim < ((decU p.f0).length : Int)
      · rw [if_pos hlm, long_first lim t [p.f0] _ _ (by rw [e1]; exact hlm)]
        rfl
      · rw [if_neg hlm]
        have ih := tk_cut lim t [p.f0] p.f1 (p.f1 + p.f2) (by simp) (by intro x hx; rw [List.mem_singleton.1 hx]; exact hp.1) ht (by rw [e1]; omega)
        rw [e1] at ih
        rw [ih]
        have := fin_cat [⟨txt rs, a, e⟩] (tk lim t (decU p.f0) p.f1 (p.f1 + p.f2))
        unfold catT at this
        simp only [List.singleton_append] at this
        rw [this]
    · rw [if_neg ho, if_neg ho]
      have e2 : flat (rs ++ [p.f0]) = flat rs ++ decU p.f0 := by rw [flat_app, e1]
      by_cases hlm : lim < ((flat rs ++ decU p.f0).length : Int)
      · rw [if_pos hlm, long_first lim t _ _ _ (by rw [e2]; exact hlm)]
        rfl
      · rw [if_neg hlm]
        have ih := tk_cut lim t (rs ++ [p.f0]) a (p.f1 + p.f2) (by simp) (by intro x hx; rcases List.mem_append.1 hx with h | h; (· exact hrs x h); (· rw [List.mem_singleton.1 h]; exact hp.1)) ht (by rw [e2]; omega)
        rw [e2] at ih
        exact ih
theorem tk_cutS (lim : Int) (ps : List SP) (hf : ∀ p ∈ ps, fine p) (h0 : ∀ p t, ps = p :: t → p.f1 = 0) :
    goodS lim (cutS ps) = (fin (tk lim ps [] 0 0), (tk lim ps [] 0 0).2.2.2.2) := by
  cases ps with
  | nil => rfl
  | cons p t =>
    have hp := hf p (List.mem_cons_self ..)
    have ht := fun q hq => hf q (List.mem_cons_of_mem _ hq)
    have hz := h0 p t rfl
    have e1 : flat [p.f0] = decU p.f0 := by simp [flat]
    rw [cutS, tk, show flushB [] p.f0 = false from rfl, if_neg (by decide), List.nil_append]
    by_cases hlm : lim < ((decU p.f0).length : Int)
    · rw [if_pos hlm, long_first lim t _ _ _ (by rw [e1]; exact hlm)]
      rfl
    · rw [if_neg hlm]
      have ih := tk_cut lim t [p.f0] p.f1 (p.f1 + p.f2) (by simp) (by intro x hx; rw [List.mem_singleton.1 hx]; exact hp.1) ht (by rw [e1]; omega)
      rw [e1] at ih
      rw [ih, hz]
theorem full_fine (b : List Int) (hB : Bytes b) (hl : b.length ≤ 100000000) : ∀ p ∈ full b, fine p := by
  have hdl := Ux.dc_len b 0
  intro p hp
  rcases List.mem_append.1 hp with h | h
  · exact dec_fine b.length b 0 hB (Int.le_refl _) (by omega) p h
  · exact rest_fine _ _ (by omega) (by omega) p h
theorem full_at0 (b : List Int) : ∀ p t, full b = p :: t → p.f1 = 0 := by
  intro p t h
  cases b with
  | nil => cases h
  | cons c r =>
    rw [Bk.full_ful, Bk.ful_cons] at h
    rw [← (List.cons.inj h).1]
theorem goodS_all (lim : Int) : ∀ l : List SG, (goodS lim l).2 = false → (goodS lim l).1 = l
  | [], _ => rfl
  | s :: l, h => by
    rw [goodS] at h ⊢
    split at h
    · cases h
    · rename_i hn
      rw [if_neg hn]
      exact congrArg (s :: ·) (goodS_all lim l h)
theorem texts_cut (b : List Int) (hB : Bytes b) (hl : b.length ≤ 100000000) : textsF b = (cutS (full b)).map (·.f0) := by
  have h := tk_cutS (3 * (b.length : Int) + 3) (full b) (full_fine b hB hl) (full_at0 b)
  have hn := tk_nobad (3 * (b.length : Int) + 3) (full b) [] 0 0 (full_fine b hB hl) (by have := Ud.full_len b; simp; omega)
  have h2 := goodS_all (3 * (b.length : Int) + 3) (cutS (full b)) (by rw [h]; exact hn)
  rw [h] at h2
  unfold textsF segs
  rw [← h2]
end Go.Proofs.YtiggjbclbdikmaaDoor.Sgp
