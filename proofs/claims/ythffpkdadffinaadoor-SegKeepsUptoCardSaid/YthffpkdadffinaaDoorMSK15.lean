/-
  Several texts of this claim in one: what its law's proof uses.
-/
import Derived.Test.YthffpkdadffinaaDoorMSK2
import Derived.Test.YthffpkdadffinaaDoorMSK7
import Derived.Test.YthffpkdadffinaaDoorMSK8
import Derived.Test.YthffpkdadffinaaDoorMSK11
import Derived.Test.YthffpkdadffinaaDoorMSK10
import Derived.Test.YthffpkdadffinaaDoorMSK13
namespace Go.Proofs.YthffpkdadffinaaDoor.X
open Go.RowKit Go.Proofs.YthffpkdadffinaaDoorW.PrintWords Go.Proofs.YthffpkdadffinaaDoorW.PrintLast Go.Proofs.YthffpkdadffinaaDoorW.PrintMore
attribute [local go_sem] max2_int min2_int max_two min_two max_three min_three max_four min_four   
set_option linter.unusedVariables false
set_option linter.unusedSimpArgs false
mutual
def tremaref04_cut.l0 : Nat → List (S103) → List (S67) → Int → Int → Option ((List (S67)))
 | 0, _, _, _, _ => none
 | k + 1, x0, x3, x4, x5 => if x5 ≤ (x0.length : Int) then (if x5 < (x0.length : Int) then (if 0 ≤ x5 then ((tremaref02_Opens.f k ((rd_T103 x0 x5).f0)).bind fun t292 => (tremaref04_cut.j1 k x0 x3 x4 x5 (!t292))) else (none)) else (tremaref04_cut.j1 k x0 x3 x4 x5 false)) else (some x3)
def tremaref04_cut.j1 : Nat → List (S103) → List (S67) → Int → Int → Bool → Option ((List (S67)))
 | 0, _, _, _, _, _ => none
 | k + 1, x0, x3, x4, x5, x26 => if x26 = true then (tremaref04_cut.l0 k x0 x3 x4 (wrap64 (x5 + 1))) else (tremaref04_cut.l1 k x0 x3 x4 x5 ([] : List Int) x4)
def tremaref04_cut.l1 : Nat → List (S103) → List (S67) → Int → Int → List Int → Int → Option ((List (S67)))
 | 0, _, _, _, _, _, _ => none
 | k + 1, x0, x3, x4, x5, x6, x7 => if x7 < x5 then (if 0 ≤ x7 then (if x7 < (x0.length : Int) then (if x6.length < 35184372088832 then (tremaref04_cut.l1 k x0 x3 x4 x5 (x6 ++ [(rd_T103 x0 x7).f0]) (wrap64 (x7 + 1))) else (none)) else (none)) else (none)) else ((tremaref03_Normal.f k x6).bind fun t297 => ((tremaref01_Encode.f k t297).bind fun t300 => (if 0 ≤ x4 then (if x4 < (x0.length : Int) then (if 0 ≤ (wrap64 (x5 - 1)) then (if (wrap64 (x5 - 1)) < (x0.length : Int) then (if x3.length < 4398046511104 then (tremaref04_cut.l0 k x0 (x3 ++ [(⟨strOfNums t300, (rd_T103 x0 x4).f1, wrap64 (((rd_T103 x0 (wrap64 (x5 - 1))).f1) + ((rd_T103 x0 (wrap64 (x5 - 1))).f2))⟩ : S67)]) x5 (wrap64 (x5 + 1))) else (none)) else (none)) else (none)) else (none)) else (none))))
end
def tremaref04_cut.f (k : Nat) (l0 : List (S103)) : Option ((List (S67))) := tremaref04_cut.l0 k l0 ([] : List (S67)) 0 1
theorem tremaref04_cut.mono_l : ∀ k, (∀ y0 y1 y2 y3, LeO (tremaref04_cut.l0 k y0 y1 y2 y3) (tremaref04_cut.l0 (k + 1) y0 y1 y2 y3)) ∧ (∀ y0 y1 y2 y3 y4, LeO (tremaref04_cut.j1 k y0 y1 y2 y3 y4) (tremaref04_cut.j1 (k + 1) y0 y1 y2 y3 y4)) ∧ (∀ y0 y1 y2 y3 y4 y5, LeO (tremaref04_cut.l1 k y0 y1 y2 y3 y4 y5) (tremaref04_cut.l1 (k + 1) y0 y1 y2 y3 y4 y5))
 | 0 => ⟨fun _ _ _ _ r h => by simp [tremaref04_cut.l0] at h, fun _ _ _ _ _ r h => by simp [tremaref04_cut.j1] at h, fun _ _ _ _ _ _ r h => by simp [tremaref04_cut.l1] at h⟩
 | k + 1 => by
  obtain ⟨ih0, ih1, ih2⟩ := tremaref04_cut.mono_l k
  refine ⟨?_, ?_, ?_⟩
  ·intro y0 y1 y2 y3
   unfold tremaref04_cut.l0
   repeat' first
   | (with_reducible exact ih0 _ _ _ _)
   | (with_reducible exact ih1 _ _ _ _ _)
   | (with_reducible exact ih2 _ _ _ _ _ _)
   | (with_reducible exact tremaref01_Encode.mono _ _)
   | (with_reducible exact tremaref02_Opens.mono _ _)
   | (with_reducible exact tremaref03_Normal.mono _ _)
   | (with_reducible exact LeO.refl _)
   | (with_reducible exact LeO.none _)
   | (with_reducible refine LeO.ite ?_ ?_)
   | (with_reducible refine LeO.bind ?_ (fun _ => ?_))
   | exact ih0 _ _ _ _
   | exact ih1 _ _ _ _ _
   | exact ih2 _ _ _ _ _ _
   | exact tremaref01_Encode.mono _ _
   | exact tremaref02_Opens.mono _ _
   | exact tremaref03_Normal.mono _ _
   | exact LeO.none _
   | refine LeO.ite ?_ ?_
   | refine LeO.bind ?_ (fun _ => ?_)
  ·intro y0 y1 y2 y3 y4
   unfold tremaref04_cut.j1
   repeat' first
   | (with_reducible exact ih0 _ _ _ _)
   | (with_reducible exact ih1 _ _ _ _ _)
   | (with_reducible exact ih2 _ _ _ _ _ _)
   | (with_reducible exact tremaref01_Encode.mono _ _)
   | (with_reducible exact tremaref02_Opens.mono _ _)
   | (with_reducible exact tremaref03_Normal.mono _ _)
   | (with_reducible exact LeO.refl _)
   | (with_reducible exact LeO.none _)
   | (with_reducible refine LeO.ite ?_ ?_)
   | (with_reducible refine LeO.bind ?_ (fun _ => ?_))
   | exact ih0 _ _ _ _
   | exact ih1 _ _ _ _ _
   | exact ih2 _ _ _ _ _ _
   | exact tremaref01_Encode.mono _ _
   | exact tremaref02_Opens.mono _ _
   | exact tremaref03_Normal.mono _ _
   | exact LeO.none _
   | refine LeO.ite ?_ ?_
   | refine LeO.bind ?_ (fun _ => ?_)
  ·intro y0 y1 y2 y3 y4 y5
   unfold tremaref04_cut.l1
   repeat' first
   | (with_reducible exact ih0 _ _ _ _)
   | (with_reducible exact ih1 _ _ _ _ _)
   | (with_reducible exact ih2 _ _ _ _ _ _)
   | (with_reducible exact tremaref01_Encode.mono _ _)
   | (with_reducible exact tremaref02_Opens.mono _ _)
   | (with_reducible exact tremaref03_Normal.mono _ _)
   | (with_reducible exact LeO.refl _)
   | (with_reducible exact LeO.none _)
   | (with_reducible refine LeO.ite ?_ ?_)
   | (with_reducible refine LeO.bind ?_ (fun _ => ?_))
   | exact ih0 _ _ _ _
   | exact ih1 _ _ _ _ _
   | exact ih2 _ _ _ _ _ _
   | exact tremaref01_Encode.mono _ _
   | exact tremaref02_Opens.mono _ _
   | exact tremaref03_Normal.mono _ _
   | exact LeO.none _
   | refine LeO.ite ?_ ?_
   | refine LeO.bind ?_ (fun _ => ?_)
theorem tremaref04_cut.mono : ∀ a0 k, LeO (tremaref04_cut.f k a0) (tremaref04_cut.f (k + 1) a0) := by
 intro a0 k
 obtain ⟨ih0, ih1, ih2⟩ := tremaref04_cut.mono_l k
 unfold tremaref04_cut.f
 repeat' first
   | (with_reducible exact ih0 _ _ _ _)
   | (with_reducible exact ih1 _ _ _ _ _)
   | (with_reducible exact ih2 _ _ _ _ _ _)
   | (with_reducible exact tremaref01_Encode.mono _ _)
   | (with_reducible exact tremaref02_Opens.mono _ _)
   | (with_reducible exact tremaref03_Normal.mono _ _)
   | (with_reducible exact LeO.refl _)
   | (with_reducible exact LeO.none _)
   | (with_reducible refine LeO.ite ?_ ?_)
   | (with_reducible refine LeO.bind ?_ (fun _ => ?_))
   | exact ih0 _ _ _ _
   | exact ih1 _ _ _ _ _
   | exact ih2 _ _ _ _ _ _
   | exact tremaref01_Encode.mono _ _
   | exact tremaref02_Opens.mono _ _
   | exact tremaref03_Normal.mono _ _
   | exact LeO.none _
   | refine LeO.ite ?_ ?_
   | refine LeO.bind ?_ (fun _ => ?_)
def tremaref04_cut.T12 : Bool × List (List Nat × List Nat) := (true, [([], []), ([], []), ([1], [1]), ([2, 2], [2]), ([3], [3]), ([], []), ([], []), ([5, 6], [5, 6]), ([7], [7]), ([8], [8]), ([], []), ([], []), ([11], [11]), ([10, 12], [10, 12]), ([13], [13]), ([14], [14]), ([], []), ([], []), ([17], [17]), ([16, 18], [16, 18]), ([19], [19]), ([20], [20]), ([15, 21], [15, 21]), ([4, 9, 22], [4, 9, 22]), ([23], [23]), ([0, 24, 3], [0, 24]), ([25, 25, 0, 1, 2, 3, 4, 5, 6, 7, 8, 9, 10, 11, 12, 13, 14, 15, 16, 17, 18, 19, 20, 21, 22, 23, 24, 25], [0, 25])])
def tremaref04_cut.B12 : List Nat := [0, 0, 2, 6, 14, 0, 0, 96, 224, 480, 0, 0, 2048, 7168, 15360, 31744, 0, 0, 131072, 458752, 983040, 2031616, 4193280, 8388606, 16777214, 33554431, 67108863]
theorem tremaref04_cut.tab12 : rtab .any (opsOf Tryd.f46 12) = tremaref04_cut.T12 := by kernel_rfl
theorem tremaref04_cut.bits12 : waitsOk tremaref04_cut.T12.2 tremaref04_cut.B12 = true := by kernel_rfl
set_option maxHeartbeats 8000000 in
set_option maxRecDepth 100000 in
theorem tremaref04_cut.calls (k : Nat) (A0 : Option Addr) (c0 : Nat) (l0 : List (S103)) (r : List (S67)) (w : World) (hr0 : Kd.C k103 w A0 l0.length l0) (hc0 : l0.length ≤ c0) (h : tremaref04_cut.f k l0 = some r) :
  Calls Tryd.prog 46 #[.slice A0 l0.length c0] w fun e w' => ∃ v0_ : Value, e = .returned (v0_) ∧ Kd.R k67 67 w' w.heap.size (fun _ => True) v0_ r ∧ Below w.heap.size w w' := by
 have hu67 := Tryd.underlying67
 have HR0 := Aside0.mk hr0
 have HC0 := Aside0.mk hc0
 clear hr0 hc0
 have HB := Aside0.mk (Below.refl w.heap.size w)
 have H : (tremaref04_cut.l0 k l0 ([] : List (S67)) 0 1) = some r := h
 clear h
 have H' := Aside0.mk H
 clear H
 go_enter Tryd.func46, Tryd.ntmps46
 go_wp2
 go_loopg [3, 4, 5] k (fun kq v3 v4 v5 w' => ∃ (x3_1 : List (S67)) (x4_1 : Int) (x5_1 : Int), v4 = .int .i64 x4_1 ∧ v5 = .int .i64 x5_1 ∧ Aside0 (tremaref04_cut.l0 kq l0 x3_1 x4_1 x5_1 = some r) ∧ Aside0 (kq ≤ k) ∧ Aside0 (Kd.R k67 67 w' w.heap.size (fun _ => True) v3 x3_1) ∧ Aside0 (Below w.heap.size w w'))
 case atStart => exact ⟨(([] : List (S67))), (0), (1), (by first | rfl | (simp; done) | (simp [*]; done)), (by first | rfl | (simp; done) | (simp [*]; done)), H', ⟨Nat.le_refl _⟩, ⟨by first | exact Kd.R_nil _ _ _ _ _ | exact Kd.N_nil _ _ _ _ _ | exact Kd.V_nil _ _ _ _ _ | exact Kd.Q_nil _ _ _ _ _ | exact Kd.S_nil _ _ _ _ _⟩, ⟨by repeat (first | (with_reducible first | exact HB.out | apply below_alloc | apply pw_below_drewN | apply below_drew1) | exact HB.out)⟩⟩
 case round =>
  clear H'
  obtain ⟨x3_1, x4_1, x5_1, rfl, rfl, HA, HK1, HO_3, HB⟩ := hrel
  cases gk with
  | zero => exact absurd HA.out (by simp [tremaref04_cut.l0])
  | succ k1 =>
   have H := HA.out
   clear HA
   simp only [tremaref04_cut.l0] at H
   by_cases c2 : x5_1 ≤ (l0.length : Int)
   ·rw [if_pos c2] at H
    have c2b0 : decide (x5_1 ≤ (l0.length : Int)) = true := decide_eq_true c2
    clear c2
    have HC3 := Aside0.mk H
    clear H
    go_upto_region 6 with (fail)
    go_cut [26] (fun v26 wc => ∃ (kq : Nat) (x26_2 : Bool), v26 = .bool x26_2 ∧ Aside0 (tremaref04_cut.j1 kq l0 x3_1 x4_1 x5_1 x26_2 = some r) ∧ Aside0 (kq ≤ k1) ∧ Aside0 (Kd.R k67 67 wc w.heap.size (fun _ => True) u3 x3_1) ∧ Aside0 (Below w.heap.size w wc))
    case first =>
     have H := HC3.out
     clear HC3
     by_cases c4 : x5_1 < (l0.length : Int)
     ·rw [if_pos c4] at H
      have c4b0 : decide (x5_1 < (l0.length : Int)) = true := decide_eq_true c4
      clear c4
      (first | rw [c4b0] | (simp only [i64_w, i32_w]; rw [c4b0]) | skip)
      by_cases c5 : 0 ≤ x5_1
      ·rw [if_pos c5] at H
       have c5b0 : decide (0 ≤ x5_1) = true := decide_eq_true c5
       clear c5
       replace H := Option.bind_eq_some_iff.mp H
       obtain ⟨t292, A60, H⟩ := H
       replace H : (tremaref04_cut.j1 k1 l0 x3_1 x4_1 x5_1 (!t292)) = some r := H
       have A6 := Aside0.mk A60
       clear A60
       have H' := Aside0.mk H
       clear H
       have p291 : 0 ≤ (x5_1 : Int) := of_decide_eq_true (by first | (with_reducible assumption) | assumption)
       have q291 : x5_1 < (l0.length : Int) := of_decide_eq_true (by first | (with_reducible assumption) | assumption)
       obtain ⟨ad291, e291, hx291_0, hx291_1, hx291_2⟩ := at_T103 HR0.out x5_1 p291 q291
       cases e291
       replace hx291_0 := (HB.out.cell (World.block_lt_of_cell? w _ hx291_0)).trans hx291_0
       replace hx291_1 := (HB.out.cell (World.block_lt_of_cell? w _ hx291_1)).trans hx291_1
       replace hx291_2 := (HB.out.cell (World.block_lt_of_cell? w _ hx291_2)).trans hx291_2
       replace p291 := eq_true p291
       replace q291 := eq_true q291
       go_wp2_with (first | (go_at_call 37; (with_reducible refine (tremaref02_Opens.calls k1 ((rd_T103 l0 x5_1).f0) t292 _ A6.out).mono ?_); rintro e w7 ⟨rfl, hb⟩; have n0_ := Aside0.mk (Kd.R_below (by (with_reducible repeat (first | apply Kd.R_alloc | apply Kd.R_drewN | apply Kd.R_drew)); exact HO_3.out) hb); have n1_ := Aside0.mk (below_step (by repeat (first | (with_reducible first | exact HB.out | apply below_alloc | apply pw_below_drewN | apply below_drew1) | exact HB.out)) hb); clear HO_3; clear HB; have HO_3 := n0_; have HB := n1_; clear n0_ n1_; (try clear hb); (try clear hb2); (try clear hk); (try clear hi)))
       go_meet
       case rel => exact ⟨_, (!t292), (by first | rfl | (simp; done) | (simp [*]; done)), H', ⟨by have := HK1.out; first | omega | exact Nat.le_refl _⟩, ⟨by (with_reducible repeat (first | apply Kd.R_alloc | apply Kd.R_drewN | apply Kd.R_drew)); exact HO_3.out⟩, ⟨by repeat (first | (with_reducible first | exact HB.out | apply below_alloc | apply pw_below_drewN | apply below_drew1) | exact HB.out)⟩⟩
      ·rw [if_neg c5] at H
       exact absurd H (by simp)
     ·rw [if_neg c4] at H
      have c4b0 : decide (x5_1 < (l0.length : Int)) = false := decide_eq_false c4
      clear c4
      (first | rw [c4b0] | (simp only [i64_w, i32_w]; rw [c4b0]) | skip)
      have H' := Aside0.mk H
      clear H
      go_wp2
      go_meet
      case rel => exact ⟨_, (false), (by first | rfl | (simp; done) | (simp [*]; done)), H', ⟨by have := HK1.out; first | omega | exact Nat.le_refl _⟩, ⟨by (with_reducible repeat (first | apply Kd.R_alloc | apply Kd.R_drewN | apply Kd.R_drew)); exact HO_3.out⟩, ⟨by repeat (first | (with_reducible first | exact HB.out | apply below_alloc | apply pw_below_drewN | apply below_drew1) | exact HB.out)⟩⟩
    case rest =>
     clear HC3
     try clear c2
     try clear c2b0
     try clear p2
     try clear q2
     try clear hx2
     try clear c4
     try clear c4b0
     try clear c5
     try clear c5b0
     try clear hx291_0
     try clear hx291_1
     try clear hx291_2
     try clear p291
     try clear q291
     obtain ⟨kq, x26_2, rfl, HA, HJ2, HO_3, HB⟩ := hcut
     cases kq with
     | zero => exact absurd HA.out (by simp [tremaref04_cut.j1])
     | succ kj2 =>
      have H := HA.out
      clear HA
      simp only [tremaref04_cut.j1] at H
      by_cases c8 : x26_2 = true
      ·subst c8
       have H1 : (tremaref04_cut.l0 kj2 l0 x3_1 x4_1 (wrap64 (x5_1 + 1))) = some r := by rw [if_pos rfl] at H; exact H
       clear H
       have H := H1
       clear H1
       have H' := Aside0.mk H
       clear H
       go_wp2
       go_roundg kj2
       case measure => have := HK1.out; have := HJ2.out; omega
       case rel => exact ⟨(x3_1), (x4_1), (wrap64 (x5_1 + 1)), (by first | rfl | (simp; done) | (simp [*]; done)), (by first | rfl | (simp; done) | (simp [*]; done)), H', ⟨by have := HK1.out; have := HJ2.out; omega⟩, ⟨by (with_reducible repeat (first | apply Kd.R_alloc | apply Kd.R_drewN | apply Kd.R_drew)); exact HO_3.out⟩, ⟨by repeat (first | (with_reducible first | exact HB.out | apply below_alloc | apply pw_below_drewN | apply below_drew1) | exact HB.out)⟩⟩
      ·replace c8 := Bool.eq_false_iff.mpr c8
       subst c8
       have H1 : (tremaref04_cut.l1 kj2 l0 x3_1 x4_1 x5_1 ([] : List Int) x4_1) = some r := by rw [if_neg (show ¬ (false = true) by decide)] at H; exact H
       clear H
       have H := H1
       clear H1
       have H' := Aside0.mk H
       clear H
       go_wp2
       go_loopg [6, 7] kj2 (fun kq v6 v7 w' => ∃ (x6_3 : List Int) (x7_3 : Int), v7 = .int .i64 x7_3 ∧ Aside0 (tremaref04_cut.l1 kq l0 x3_1 x4_1 x5_1 x6_3 x7_3 = some r) ∧ Aside0 (kq ≤ kj2) ∧ Aside0 (Kd.R k67 67 w' w.heap.size (fun _ => True) u3 x3_1) ∧ Aside0 (Kd.R (Kd.int .i32) 21 w' w.heap.size (fun _ => True) v6 x6_3) ∧ Aside0 (Below w.heap.size w w'))
       case atStart => exact ⟨(([] : List Int)), (x4_1), (by first | rfl | (simp; done) | (simp [*]; done)), H', ⟨Nat.le_refl _⟩, ⟨by (with_reducible repeat (first | apply Kd.R_alloc | apply Kd.R_drewN | apply Kd.R_drew)); exact HO_3.out⟩, ⟨by first | exact Kd.R_nil _ _ _ _ _ | exact Kd.N_nil _ _ _ _ _ | exact Kd.V_nil _ _ _ _ _ | exact Kd.Q_nil _ _ _ _ _ | exact Kd.S_nil _ _ _ _ _⟩, ⟨by repeat (first | (with_reducible first | exact HB.out | apply below_alloc | apply pw_below_drewN | apply below_drew1) | exact HB.out)⟩⟩
       case round =>
        clear H'
        try clear c2
        try clear c2b0
        try clear p2
        try clear q2
        try clear hx2
        try clear c4
        try clear c4b0
        try clear c5
        try clear c5b0
        try clear p6
        try clear c8
        try clear hx291_0
        try clear hx291_1
        try clear hx291_2
        try clear p2
        try clear p291
        try clear q2
        try clear q291
        obtain ⟨x6_3, x7_3, rfl, HA, HK3, HO_3, HO_6, HB⟩ := hrel
        cases gk with
        | zero => exact absurd HA.out (by simp [tremaref04_cut.l1])
        | succ k3 =>
         have H := HA.out
         clear HA
         simp only [tremaref04_cut.l1] at H
         by_cases c9 : x7_3 < x5_1
         ·rw [if_pos c9] at H
          have c9b0 : decide (x7_3 < x5_1) = true := decide_eq_true c9
          clear c9
          by_cases c10 : 0 ≤ x7_3
          ·rw [if_pos c10] at H
           have c10b0 : decide (0 ≤ x7_3) = true := decide_eq_true c10
           clear c10
           by_cases c11 : x7_3 < (l0.length : Int)
           ·rw [if_pos c11] at H
            have c11b0 : decide (x7_3 < (l0.length : Int)) = true := decide_eq_true c11
            clear c11
            by_cases c12 : x6_3.length < 35184372088832
            ·rw [if_pos c12] at H
             have LMc12 := Aside0.mk c12
             clear c12
             obtain ⟨y294, hy294⟩ : ∃ y_ : List Int, y_ = (x6_3 ++ [(rd_T103 l0 x7_3).f0]) := ⟨_, rfl⟩
             replace H : (tremaref04_cut.l1 k3 l0 x3_1 x4_1 x5_1 y294 (wrap64 (x7_3 + 1))) = some r := by first | (rw [hy294]; with_reducible exact H) | (have H2_ := (Option.bind_some _ _).symm.trans H; rw [hy294]; with_reducible exact H2_) | (have H2_ := (Option.bind_some _ _).symm.trans H; with_reducible exact H2_) | with_reducible exact H | (rw [hy294]; exact H) | exact H
             have Ny294 := Aside0.mk hy294
             clear hy294
             have H' := Aside0.mk H
             clear H
             have p293 : 0 ≤ (x7_3 : Int) := of_decide_eq_true (by first | (with_reducible assumption) | assumption)
             have q293 : x7_3 < (l0.length : Int) := of_decide_eq_true (by first | (with_reducible assumption) | assumption)
             obtain ⟨ad293, e293, hx293_0, hx293_1, hx293_2⟩ := at_T103 HR0.out x7_3 p293 q293
             cases e293
             replace hx293_0 := (HB.out.cell (World.block_lt_of_cell? w _ hx293_0)).trans hx293_0
             replace hx293_1 := (HB.out.cell (World.block_lt_of_cell? w _ hx293_1)).trans hx293_1
             replace hx293_2 := (HB.out.cell (World.block_lt_of_cell? w _ hx293_2)).trans hx293_2
             replace p293 := eq_true p293
             replace q293 := eq_true q293
             go_wp2_with (first | ((with_reducible refine gate_builtin (b := .append) (xs := #[.tmp 33, .tmp 39]) rfl ?_); at_builtin; refine Kd.R_append (Kd.int .i32) (w0 := w) w.heap.size rfl (.tmp 33) (.tmp 39) 42 21 (.int .i32 0) 4 rfl Tryd.underlying42 info21 rfl (by decide) (by omega) u6 x6_3 ((rd_T103 l0 x7_3).f0) [.int .i32 ((rd_T103 l0 x7_3).f0)] (fun _ => True) (fun _ => False) rfl rfl ?aP (fun _ hk => hk.elim) ?aF ?aO ?aB ?aS ?aL ?_; (case aP => exact rfl); (case aB => exact (by repeat (first | (with_reducible first | exact HB.out | apply below_alloc | apply pw_below_drewN | apply below_drew1) | exact HB.out))); (case aF => exact (fun _ _ => trivial)); (case aO => exact (by (with_reducible repeat (first | apply Kd.R_alloc | apply Kd.R_drewN | apply Kd.R_drew)); exact HO_6.out)); (case aS => exact (below_size (by repeat (first | (with_reducible first | exact HB.out | apply below_alloc | apply pw_below_drewN | apply below_drew1) | exact HB.out)))); (case aL => have := LMc12.out; omega); intro v295 w13 ho hb hg hat; rw [← Ny294.out] at ho; have n0_ := Aside0.mk (Kd.R_over' (by (with_reducible repeat (first | apply Kd.R_alloc | apply Kd.R_drewN | apply Kd.R_drew)); exact HO_3.out) (Kd.R_typed (by (with_reducible repeat (first | apply Kd.R_alloc | apply Kd.R_drewN | apply Kd.R_drew)); exact HO_6.out)) (by decide) hg); have n1_ := Aside0.mk (hb); have n2_ := Aside0.mk (ho); clear HO_3; clear HB; clear HO_6; have HO_3 := n0_; have HB := n1_; have HO296 := n2_; clear n0_ n1_ n2_; clear ho hb hg hat))
             go_roundg k3
             case measure => have := HK1.out; have := HJ2.out; have := HK3.out; omega
             case rel => exact ⟨(y294), (wrap64 (x7_3 + 1)), (by first | rfl | (simp; done) | (simp [*]; done)), H', ⟨by have := HK1.out; have := HJ2.out; have := HK3.out; omega⟩, ⟨by (with_reducible repeat (first | apply Kd.R_alloc | apply Kd.R_drewN | apply Kd.R_drew)); exact HO_3.out⟩, ⟨by (with_reducible repeat (first | apply Kd.R_alloc | apply Kd.R_drewN | apply Kd.R_drew)); exact HO296.out⟩, ⟨by repeat (first | (with_reducible first | exact HB.out | apply below_alloc | apply pw_below_drewN | apply below_drew1) | exact HB.out)⟩⟩
            ·rw [if_neg c12] at H
             exact absurd H (by simp)
           ·rw [if_neg c11] at H
            exact absurd H (by simp)
          ·rw [if_neg c10] at H
           exact absurd H (by simp)
         ·rw [if_neg c9] at H
          have c9b0 : decide (x7_3 < x5_1) = false := decide_eq_false c9
          clear c9
          replace H := Option.bind_eq_some_iff.mp H
          obtain ⟨t297, A140, H⟩ := H
          replace H : ((tremaref01_Encode.f k3 t297).bind fun t300 => (if 0 ≤ x4_1 then (if x4_1 < (l0.length : Int) then (if 0 ≤ (wrap64 (x5_1 - 1)) then (if (wrap64 (x5_1 - 1)) < (l0.length : Int) then (if x3_1.length < 4398046511104 then (tremaref04_cut.l0 k3 l0 (x3_1 ++ [(⟨strOfNums t300, (rd_T103 l0 x4_1).f1, wrap64 (((rd_T103 l0 (wrap64 (x5_1 - 1))).f1) + ((rd_T103 l0 (wrap64 (x5_1 - 1))).f2))⟩ : S67)]) x5_1 (wrap64 (x5_1 + 1))) else (none)) else (none)) else (none)) else (none)) else (none))) = some r := H
          have A14 := Aside0.mk A140
          clear A140
          replace H := Option.bind_eq_some_iff.mp H
          obtain ⟨t300, A150, H⟩ := H
          replace H : (if 0 ≤ x4_1 then (if x4_1 < (l0.length : Int) then (if 0 ≤ (wrap64 (x5_1 - 1)) then (if (wrap64 (x5_1 - 1)) < (l0.length : Int) then (if x3_1.length < 4398046511104 then (tremaref04_cut.l0 k3 l0 (x3_1 ++ [(⟨strOfNums t300, (rd_T103 l0 x4_1).f1, wrap64 (((rd_T103 l0 (wrap64 (x5_1 - 1))).f1) + ((rd_T103 l0 (wrap64 (x5_1 - 1))).f2))⟩ : S67)]) x5_1 (wrap64 (x5_1 + 1))) else (none)) else (none)) else (none)) else (none)) else (none)) = some r := H
          have A15 := Aside0.mk A150
          clear A150
          by_cases c16 : 0 ≤ x4_1
          ·rw [if_pos c16] at H
           have c16b0 : decide (0 ≤ x4_1) = true := decide_eq_true c16
           clear c16
           by_cases c17 : x4_1 < (l0.length : Int)
           ·rw [if_pos c17] at H
            have c17b0 : decide (x4_1 < (l0.length : Int)) = true := decide_eq_true c17
            clear c17
            obtain ⟨ji18, hji18⟩ : ∃ j_ : Int, (wrap64 (x5_1 - 1)) = j_ := ⟨_, rfl⟩
            replace H : (if 0 ≤ (ji18) then (if (ji18) < (l0.length : Int) then (if x3_1.length < 4398046511104 then (tremaref04_cut.l0 k3 l0 (x3_1 ++ [(⟨strOfNums t300, (rd_T103 l0 x4_1).f1, wrap64 (((rd_T103 l0 (ji18)).f1) + ((rd_T103 l0 (ji18)).f2))⟩ : S67)]) x5_1 (wrap64 (x5_1 + 1))) else (none)) else (none)) else (none)) = some r := by first | (rw [hji18] at H; exact H) | (simp only [hji18] at H ⊢; exact H)
            (try rw [hji18] at A14)
            (try rw [hji18] at A15)
            have hji18w : (IntKind.i64.wrap (x5_1 - 1)) = ji18 := (i64_w _).trans hji18
            by_cases c19 : 0 ≤ (ji18)
            ·rw [if_pos c19] at H
             have c19b0 : decide (0 ≤ (ji18)) = true := decide_eq_true c19
             clear c19
             by_cases c20 : (ji18) < (l0.length : Int)
             ·rw [if_pos c20] at H
              have c20b0 : decide ((ji18) < (l0.length : Int)) = true := decide_eq_true c20
              clear c20
              by_cases c21 : x3_1.length < 4398046511104
              ·rw [if_pos c21] at H
               have LMc21 := Aside0.mk c21
               clear c21
               obtain ⟨y306, hy306⟩ : ∃ y_ : List (S67), y_ = (x3_1 ++ [(⟨strOfNums t300, (rd_T103 l0 x4_1).f1, wrap64 (((rd_T103 l0 (ji18)).f1) + ((rd_T103 l0 (ji18)).f2))⟩ : S67)]) := ⟨_, rfl⟩
               replace H : (tremaref04_cut.l0 k3 l0 y306 x5_1 (wrap64 (x5_1 + 1))) = some r := by first | (rw [hy306]; with_reducible exact H) | (have H2_ := (Option.bind_some _ _).symm.trans H; rw [hy306]; with_reducible exact H2_) | (have H2_ := (Option.bind_some _ _).symm.trans H; with_reducible exact H2_) | with_reducible exact H | (rw [hy306]; exact H) | exact H
               have Ny306 := Aside0.mk hy306
               clear hy306
               have H' := Aside0.mk H
               clear H
               try go_wp2
               have n0_ := Aside0.mk (Kd.R_drew HO_3.out)
               have n1_ := Aside0.mk (Kd.R_drew HO_6.out)
               have n2_ := Aside0.mk (below_drew1 HB.out)
               clear HO_3
               clear HO_6
               clear HB
               have HO_3 := n0_
               have HO_6 := n1_
               have HB := n2_
               clear n0_ n1_ n2_
               have p303 : 0 ≤ (x4_1 : Int) := of_decide_eq_true (by first | (with_reducible assumption) | assumption)
               have q303 : x4_1 < (l0.length : Int) := of_decide_eq_true (by first | (with_reducible assumption) | assumption)
               obtain ⟨ad303, e303, hx303_0, hx303_1, hx303_2⟩ := at_T103 HR0.out x4_1 p303 q303
               have hw303_2 := hx303_2
               have hw303_1 := hx303_1
               have hw303_0 := hx303_0
               cases e303
               replace hx303_0 := (HB.out.cell (World.block_lt_of_cell? w _ hx303_0)).trans hx303_0
               replace hx303_1 := (HB.out.cell (World.block_lt_of_cell? w _ hx303_1)).trans hx303_1
               replace hx303_2 := (HB.out.cell (World.block_lt_of_cell? w _ hx303_2)).trans hx303_2
               replace p303 := eq_true p303
               replace q303 := eq_true q303
               have p304 : 0 ≤ ((ji18) : Int) := of_decide_eq_true (by first | (with_reducible assumption) | assumption)
               have q304 : (ji18) < (l0.length : Int) := of_decide_eq_true (by first | (with_reducible assumption) | assumption)
               obtain ⟨ad304, e304, hx304_0, hx304_1, hx304_2⟩ := at_T103 HR0.out (ji18) p304 q304
               have hw304_2 := hx304_2
               have hw304_1 := hx304_1
               have hw304_0 := hx304_0
               obtain rfl : ad303 = ad304 := (by injection e304)
               replace hx304_0 := (HB.out.cell (World.block_lt_of_cell? w _ hx304_0)).trans hx304_0
               replace hx304_1 := (HB.out.cell (World.block_lt_of_cell? w _ hx304_1)).trans hx304_1
               replace hx304_2 := (HB.out.cell (World.block_lt_of_cell? w _ hx304_2)).trans hx304_2
               replace p304 := eq_true p304
               replace q304 := eq_true q304
               have p305 : 0 ≤ ((ji18) : Int) := of_decide_eq_true (by first | (with_reducible assumption) | assumption)
               have q305 : (ji18) < (l0.length : Int) := of_decide_eq_true (by first | (with_reducible assumption) | assumption)
               obtain ⟨ad305, e305, hx305_0, hx305_1, hx305_2⟩ := at_T103 HR0.out (ji18) p305 q305
               have hw305_2 := hx305_2
               have hw305_1 := hx305_1
               have hw305_0 := hx305_0
               obtain rfl : ad303 = ad305 := (by injection e305)
               replace hx305_0 := (HB.out.cell (World.block_lt_of_cell? w _ hx305_0)).trans hx305_0
               replace hx305_1 := (HB.out.cell (World.block_lt_of_cell? w _ hx305_1)).trans hx305_1
               replace hx305_2 := (HB.out.cell (World.block_lt_of_cell? w _ hx305_2)).trans hx305_2
               replace p305 := eq_true p305
               replace q305 := eq_true q305
               obtain ⟨Ao23, co23, eo23⟩ := Kd.R_slice HO_6.out
               (first | subst eo23 | (injection eo23 with f1_ f2_ f3_; have f4_ := f1_.symm; have f5_ := f3_.symm; clear f1_ f2_ f3_; subst f4_; subst f5_))
               refine start_ (n := 27) (S := fun w' => w'.cell? (ad303.add ((x4_1).toNat * 3)) = some (.int .i32 ((rd_T103 l0 x4_1).f0)) ∧ w'.cell? ⟨(ad303.add ((x4_1).toNat * 3)).block, (ad303.add ((x4_1).toNat * 3)).off + 1, none⟩ = some (.int .i64 ((rd_T103 l0 x4_1).f1)) ∧ w'.cell? ⟨(ad303.add ((x4_1).toNat * 3)).block, (ad303.add ((x4_1).toNat * 3)).off + 2, none⟩ = some (.int .i64 ((rd_T103 l0 x4_1).f2)) ∧ w'.cell? (ad303.add (((ji18)).toNat * 3)) = some (.int .i32 ((rd_T103 l0 (ji18)).f0)) ∧ w'.cell? ⟨(ad303.add (((ji18)).toNat * 3)).block, (ad303.add (((ji18)).toNat * 3)).off + 1, none⟩ = some (.int .i64 ((rd_T103 l0 (ji18)).f1)) ∧ w'.cell? ⟨(ad303.add (((ji18)).toNat * 3)).block, (ad303.add (((ji18)).toNat * 3)).off + 2, none⟩ = some (.int .i64 ((rd_T103 l0 (ji18)).f2)) ∧ w'.cell? (ad303.add (((ji18)).toNat * 3)) = some (.int .i32 ((rd_T103 l0 (ji18)).f0)) ∧ w'.cell? ⟨(ad303.add (((ji18)).toNat * 3)).block, (ad303.add (((ji18)).toNat * 3)).off + 1, none⟩ = some (.int .i64 ((rd_T103 l0 (ji18)).f1)) ∧ w'.cell? ⟨(ad303.add (((ji18)).toNat * 3)).block, (ad303.add (((ji18)).toNat * 3)).off + 2, none⟩ = some (.int .i64 ((rd_T103 l0 (ji18)).f2))) (ds := []) #[false, false, false, false, false, false, false, false, false, false, false, false, false, false, false, false, false, false, false, false, false, false, false, false, false, false, false] (by kernel_rfl) rfl rfl ⟨((HB.out.cell (World.block_lt_of_cell? w _ hw303_0)).trans hw303_0), ((HB.out.cell (World.block_lt_of_cell? w _ hw303_1)).trans hw303_1), ((HB.out.cell (World.block_lt_of_cell? w _ hw303_2)).trans hw303_2), ((HB.out.cell (World.block_lt_of_cell? w _ hw304_0)).trans hw304_0), ((HB.out.cell (World.block_lt_of_cell? w _ hw304_1)).trans hw304_1), ((HB.out.cell (World.block_lt_of_cell? w _ hw304_2)).trans hw304_2), ((HB.out.cell (World.block_lt_of_cell? w _ hw305_0)).trans hw305_0), ((HB.out.cell (World.block_lt_of_cell? w _ hw305_1)).trans hw305_1), ((HB.out.cell (World.block_lt_of_cell? w _ hw305_2)).trans hw305_2)⟩ (fun hHeld => ?_); refine with_tabW tremaref04_cut.tab12 tremaref04_cut.bits12 (fun HT_ HW_ => ?_)
               generalize wr.drew = w22 at HO_3 HO_6 HB hx303_0 hx303_1 hx303_2 hx304_0 hx304_1 hx304_2 hx305_0 hx305_1 hx305_2 hHeld ⊢
               refine pure_ (i := 0) (N := some 41) (v := ?_) (a' := ?_) #[true, false, false, false, false, false, false, false, false, false, false, false, false, false, false, false, false, false, false, false, false, false, false, false, false, false, false] rfl rfl (any_of HT_.out (by kernel_rfl)) (fun _ _ _ h => h) (Or.inl ⟨by rfl, ?_⟩) ?_ ?_
               rotate_left
               ·intro w'
                go_simp
                with_reducible rfl
               rotate_left
               ·simp only [Act.put, List.setIfInBounds_toArray, List.set_cons_zero, List.set_cons_succ, i64_w, i32_w]
                rfl
               refine pure_ (i := 1) (N := some 42) (v := ?_) (a' := ?_) #[true, true, false, false, false, false, false, false, false, false, false, false, false, false, false, false, false, false, false, false, false, false, false, false, false, false, false] rfl rfl (any_of HT_.out (by kernel_rfl)) (fun _ _ _ h => h) (Or.inl ⟨by rfl, ?_⟩) ?_ ?_
               rotate_left
               ·intro w'
                go_simp
                with_reducible rfl
               rotate_left
               ·simp only [Act.put, List.setIfInBounds_toArray, List.set_cons_zero, List.set_cons_succ, i64_w, i32_w]
                rfl
               refine pure_ (i := 5) (N := some 46) (v := ?_) (a' := ?_) #[true, true, false, false, false, true, false, false, false, false, false, false, false, false, false, false, false, false, false, false, false, false, false, false, false, false, false] rfl rfl (any_of HT_.out (by kernel_rfl)) (fun _ _ _ h => h) (Or.inl ⟨by rfl, ?_⟩) ?_ ?_
               rotate_left
               ·intro w'
                go_simp
                with_reducible rfl
               rotate_left
               ·simp only [Act.put, List.setIfInBounds_toArray, List.set_cons_zero, List.set_cons_succ, i64_w, i32_w]
                rfl
               refine pure_ (i := 6) (N := some 47) (v := ?_) (a' := ?_) #[true, true, false, false, false, true, true, false, false, false, false, false, false, false, false, false, false, false, false, false, false, false, false, false, false, false, false] rfl rfl (any_of HT_.out (by kernel_rfl)) (fun _ _ _ h => h) (Or.inl ⟨by rfl, ?_⟩) ?_ ?_
               rotate_left
               ·intro w'
                go_simp
                with_reducible rfl
               rotate_left
               ·simp only [Act.put, List.setIfInBounds_toArray, List.set_cons_zero, List.set_cons_succ, i64_w, i32_w]
                rfl
               refine pure_ (i := 7) (N := some 48) (v := ?_) (a' := ?_) #[true, true, false, false, false, true, true, true, false, false, false, false, false, false, false, false, false, false, false, false, false, false, false, false, false, false, false] rfl rfl (any_of HT_.out (by kernel_rfl)) (fun _ _ _ h => h) (Or.inl ⟨by rfl, ?_⟩) ?_ ?_
               rotate_left
               ·intro w'
                go_simp
                with_reducible rfl
               rotate_left
               ·simp only [Act.put, List.setIfInBounds_toArray, List.set_cons_zero, List.set_cons_succ, i64_w, i32_w]
                rfl
               refine pure_ (i := 8) (N := some 49) (v := ?_) (a' := ?_) #[true, true, false, false, false, true, true, true, true, false, false, false, false, false, false, false, false, false, false, false, false, false, false, false, false, false, false] rfl rfl (any_of HT_.out (by kernel_rfl)) (fun _ _ _ h => h) (Or.inl ⟨by rfl, ?_⟩) ?_ ?_
               rotate_left
               ·intro w'
                go_simp
                with_reducible rfl
               rotate_left
               ·simp only [Act.put, List.setIfInBounds_toArray, List.set_cons_zero, List.set_cons_succ, i64_w, i32_w]
                rfl
               refine pure_ (i := 10) (N := some 51) (v := ?_) (a' := ?_) #[true, true, false, false, false, true, true, true, true, false, true, false, false, false, false, false, false, false, false, false, false, false, false, false, false, false, false] rfl rfl (any_of HT_.out (by kernel_rfl)) (fun _ _ _ h => h) (Or.inl ⟨by rfl, ?_⟩) ?_ ?_
               rotate_left
               ·intro w'
                go_simp
                with_reducible rfl
               rotate_left
               ·simp only [Act.put, List.setIfInBounds_toArray, List.set_cons_zero, List.set_cons_succ, i64_w, i32_w]
                rfl
               refine pure_ (i := 11) (N := some 52) (v := ?_) (a' := ?_) #[true, true, false, false, false, true, true, true, true, false, true, true, false, false, false, false, false, false, false, false, false, false, false, false, false, false, false] rfl rfl (any_of HT_.out (by kernel_rfl)) (fun _ _ _ h => h) (Or.inl ⟨by rfl, ?_⟩) ?_ ?_
               rotate_left
               ·intro w'
                go_simp
                with_reducible rfl
               rotate_left
               ·simp only [Act.put, List.setIfInBounds_toArray, List.set_cons_zero, List.set_cons_succ, i64_w, i32_w]
                rfl
               refine pure_ (i := 12) (N := some 53) (v := ?_) (a' := ?_) #[true, true, false, false, false, true, true, true, true, false, true, true, true, false, false, false, false, false, false, false, false, false, false, false, false, false, false] rfl rfl (any_of HT_.out (by kernel_rfl)) (fun _ _ _ h => h) (Or.inl ⟨by rfl, ?_⟩) ?_ ?_
               rotate_left
               ·intro w'
                go_simp
                with_reducible rfl
               rotate_left
               ·simp only [Act.put, List.setIfInBounds_toArray, List.set_cons_zero, List.set_cons_succ, i64_w, i32_w]
                rfl
               refine pure_ (i := 13) (N := some 54) (v := ?_) (a' := ?_) #[true, true, false, false, false, true, true, true, true, false, true, true, true, true, false, false, false, false, false, false, false, false, false, false, false, false, false] rfl rfl (any_of HT_.out (by kernel_rfl)) (fun _ _ _ h => h) (Or.inl ⟨by rfl, ?_⟩) ?_ ?_
               rotate_left
               ·intro w'
                go_simp
                with_reducible rfl
               rotate_left
               ·simp only [Act.put, List.setIfInBounds_toArray, List.set_cons_zero, List.set_cons_succ, i64_w, i32_w]
                rfl
               refine pure_ (i := 14) (N := some 55) (v := ?_) (a' := ?_) #[true, true, false, false, false, true, true, true, true, false, true, true, true, true, true, false, false, false, false, false, false, false, false, false, false, false, false] rfl rfl (any_of HT_.out (by kernel_rfl)) (fun _ _ _ h => h) (Or.inl ⟨by rfl, ?_⟩) ?_ ?_
               rotate_left
               ·intro w'
                go_simp
                with_reducible rfl
               rotate_left
               ·simp only [Act.put, List.setIfInBounds_toArray, List.set_cons_zero, List.set_cons_succ, i64_w, i32_w]
                rfl
               refine pure_ (i := 16) (N := some 57) (v := ?_) (a' := ?_) #[true, true, false, false, false, true, true, true, true, false, true, true, true, true, true, false, true, false, false, false, false, false, false, false, false, false, false] rfl rfl (any_of HT_.out (by kernel_rfl)) (fun _ _ _ h => h) (Or.inl ⟨by rfl, ?_⟩) ?_ ?_
               rotate_left
               ·intro w'
                go_simp
                with_reducible rfl
               rotate_left
               ·simp only [Act.put, List.setIfInBounds_toArray, List.set_cons_zero, List.set_cons_succ, i64_w, i32_w]
                rfl
               refine pure_ (i := 17) (N := some 58) (v := ?_) (a' := ?_) #[true, true, false, false, false, true, true, true, true, false, true, true, true, true, true, false, true, true, false, false, false, false, false, false, false, false, false] rfl rfl (any_of HT_.out (by kernel_rfl)) (fun _ _ _ h => h) (Or.inl ⟨by rfl, ?_⟩) ?_ ?_
               rotate_left
               ·intro w'
                go_simp
                with_reducible rfl
               rotate_left
               ·simp only [Act.put, List.setIfInBounds_toArray, List.set_cons_zero, List.set_cons_succ, i64_w, i32_w]
                rfl
               refine pure_ (i := 18) (N := some 59) (v := ?_) (a' := ?_) #[true, true, false, false, false, true, true, true, true, false, true, true, true, true, true, false, true, true, true, false, false, false, false, false, false, false, false] rfl rfl (any_of HT_.out (by kernel_rfl)) (fun _ _ _ h => h) (Or.inl ⟨by rfl, ?_⟩) ?_ ?_
               rotate_left
               ·intro w'
                go_simp
                with_reducible rfl
               rotate_left
               ·simp only [Act.put, List.setIfInBounds_toArray, List.set_cons_zero, List.set_cons_succ, i64_w, i32_w]
                rfl
               refine pure_ (i := 19) (N := some 60) (v := ?_) (a' := ?_) #[true, true, false, false, false, true, true, true, true, false, true, true, true, true, true, false, true, true, true, true, false, false, false, false, false, false, false] rfl rfl (any_of HT_.out (by kernel_rfl)) (fun _ _ _ h => h) (Or.inl ⟨by rfl, ?_⟩) ?_ ?_
               rotate_left
               ·intro w'
                go_simp
                with_reducible rfl
               rotate_left
               ·simp only [Act.put, List.setIfInBounds_toArray, List.set_cons_zero, List.set_cons_succ, i64_w, i32_w]
                rfl
               refine pure_ (i := 20) (N := some 61) (v := ?_) (a' := ?_) #[true, true, false, false, false, true, true, true, true, false, true, true, true, true, true, false, true, true, true, true, true, false, false, false, false, false, false] rfl rfl (any_of HT_.out (by kernel_rfl)) (fun _ _ _ h => h) (Or.inl ⟨by rfl, ?_⟩) ?_ ?_
               rotate_left
               ·intro w'
                go_simp
                with_reducible rfl
               rotate_left
               ·simp only [Act.put, List.setIfInBounds_toArray, List.set_cons_zero, List.set_cons_succ, i64_w, i32_w]
                rfl
               refine take_ (i := 9) (N := some 50) (v := ?_) (a' := ?_) #[true, true, false, false, false, true, true, true, true, true, true, true, true, true, true, false, true, true, true, true, true, false, false, false, false, false, false] rfl rfl (take_ofW HT_.out HW_.out (by kernel_rfl)) (fun _ _ _ h => h) (Or.inl ⟨by rfl, ?_⟩) hHeld ?_ ?_
               rotate_left
               ·rintro w' ⟨s0, s1, s2, s3, s4, s5, s6, s7, s8⟩
                go_simp
                with_reducible rfl
               rotate_left
               ·simp only [Act.put, List.setIfInBounds_toArray, List.set_cons_zero, List.set_cons_succ, i64_w, i32_w]
                rfl
               refine take_ (i := 15) (N := some 56) (v := ?_) (a' := ?_) #[true, true, false, false, false, true, true, true, true, true, true, true, true, true, true, true, true, true, true, true, true, false, false, false, false, false, false] rfl rfl (take_ofW HT_.out HW_.out (by kernel_rfl)) (fun _ _ _ h => h) (Or.inl ⟨by rfl, ?_⟩) hHeld ?_ ?_
               rotate_left
               ·rintro w' ⟨s0, s1, s2, s3, s4, s5, s6, s7, s8⟩
                go_simp
                with_reducible rfl
               rotate_left
               ·simp only [Act.put, List.setIfInBounds_toArray, List.set_cons_zero, List.set_cons_succ, i64_w, i32_w]
                rfl
               refine take_ (i := 21) (N := some 62) (v := ?_) (a' := ?_) #[true, true, false, false, false, true, true, true, true, true, true, true, true, true, true, true, true, true, true, true, true, true, false, false, false, false, false] rfl rfl (take_ofW HT_.out HW_.out (by kernel_rfl)) (fun _ _ _ h => h) (Or.inl ⟨by rfl, ?_⟩) hHeld ?_ ?_
               rotate_left
               ·rintro w' ⟨s0, s1, s2, s3, s4, s5, s6, s7, s8⟩
                go_simp
                with_reducible rfl
               rotate_left
               ·simp only [Act.put, List.setIfInBounds_toArray, List.set_cons_zero, List.set_cons_succ, i64_w, i32_w]
                rfl
               refine pure_ (i := 22) (N := some 63) (v := ?_) (a' := ?_) #[true, true, false, false, false, true, true, true, true, true, true, true, true, true, true, true, true, true, true, true, true, true, true, false, false, false, false] rfl rfl (any_of HT_.out (by kernel_rfl)) (fun _ _ _ h => h) (Or.inl ⟨by rfl, ?_⟩) ?_ ?_
               rotate_left
               ·intro w'
                go_simp
                with_reducible rfl
               rotate_left
               ·simp only [Act.put, List.setIfInBounds_toArray, List.set_cons_zero, List.set_cons_succ, i64_w, i32_w]
                rfl
               refine one_ (i := 2) (N := some 43) #[true, true, true, false, false, true, true, true, true, true, true, true, true, true, true, true, true, true, true, true, true, true, true, false, false, false, false] rfl rfl (one_of HT_.out (by kernel_rfl)) (by decide) (fun K hK => ?_)
               refine goes_ Tryd.func74 (by kernel_rfl) rfl #[.slice Ao23 x6_3.length co23] (by rfl) rfl rfl (by (try simp only [List.map_toArray, List.map_cons, List.map_nil]); first | done | rfl | (simp only [List.length_drop, List.length_take]; rfl)) ?_
               with_reducible refine (tremaref03_Normal.calls k3 _ _ x6_3 t297 _ ?side1 ?side2 A14.out).mono ?_
               (case side1 => repeat (first | exact (Kd.R_reads' HO_6.out).2.2 | (with_reducible refine Kd.C_alloc ?_ _) | (with_reducible refine Kd.C_drewN ?_ _) | (with_reducible refine Kd.C_drew ?_)))
               (case side2 => exact (Kd.R_reads' HO_6.out).2.1)
               rintro e w24 ⟨v298, rfl, ho0, hb⟩
               refine ⟨_, rfl, ?_⟩
               have n0_ := Aside0.mk (Kd.R_below (by (with_reducible repeat (first | apply Kd.R_alloc | apply Kd.R_drewN | apply Kd.R_drew)); exact HO_3.out) hb)
               have n1_ := Aside0.mk (Kd.R_elder' (by (with_reducible repeat (first | apply Kd.R_alloc | apply Kd.R_drewN | apply Kd.R_drew)); exact HO_6.out) (Kd.R_base ho0) hb)
               have n2_ := Aside0.mk (Kd.R_lower (Kd.R_new' ho0 (Kd.R_lt (by (with_reducible repeat (first | apply Kd.R_alloc | apply Kd.R_drewN | apply Kd.R_drew)); exact HO_6.out))) (below_size (by repeat (first | (with_reducible first | exact HB.out | apply below_alloc | apply pw_below_drewN | apply below_drew1) | exact HB.out))))
               have n3_ := Aside0.mk (below_step (by repeat (first | (with_reducible first | exact HB.out | apply below_alloc | apply pw_below_drewN | apply below_drew1) | exact HB.out)) hb)
               clear HO_3
               clear HO_6
               clear HB
               have HO_3 := n0_
               have HO_6 := n1_
               have HO299 := n2_
               have HB := n3_
               clear n0_ n1_ n2_ n3_
               (try clear hb)
               (try clear hb2)
               (try clear hk)
               (try clear hi)
               (try clear ho0)
               obtain ⟨Ao25, co25, eo25⟩ := Kd.R_slice HO299.out
               (first | subst eo25 | (injection eo25 with f1_ f2_ f3_; have f4_ := f1_.symm; have f5_ := f3_.symm; clear f1_ f2_ f3_; subst f4_; subst f5_))
               refine hK.out _ _ ⟨((HB.out.cell (World.block_lt_of_cell? w _ hw303_0)).trans hw303_0), ((HB.out.cell (World.block_lt_of_cell? w _ hw303_1)).trans hw303_1), ((HB.out.cell (World.block_lt_of_cell? w _ hw303_2)).trans hw303_2), ((HB.out.cell (World.block_lt_of_cell? w _ hw304_0)).trans hw304_0), ((HB.out.cell (World.block_lt_of_cell? w _ hw304_1)).trans hw304_1), ((HB.out.cell (World.block_lt_of_cell? w _ hw304_2)).trans hw304_2), ((HB.out.cell (World.block_lt_of_cell? w _ hw305_0)).trans hw305_0), ((HB.out.cell (World.block_lt_of_cell? w _ hw305_1)).trans hw305_1), ((HB.out.cell (World.block_lt_of_cell? w _ hw305_2)).trans hw305_2)⟩ (fun hHeld => ?_)
               clear hK K
               refine norm_ (a' := ?_) ?_ ?_
               rotate_left
               ·show Act.put _ (some 43) _ = _
                simp only [Act.put, List.setIfInBounds_toArray, List.set_cons_zero, List.set_cons_succ, i64_w, i32_w]
                rfl
               refine one_ (i := 3) (N := some 44) #[true, true, true, true, false, true, true, true, true, true, true, true, true, true, true, true, true, true, true, true, true, true, true, false, false, false, false] rfl rfl (one_of HT_.out (by kernel_rfl)) (by decide) (fun K hK => ?_)
               refine goes_ Tryd.func76 (by kernel_rfl) rfl #[.slice Ao25 t297.length co25] (by rfl) rfl rfl (by (try simp only [List.map_toArray, List.map_cons, List.map_nil]); first | done | rfl | (simp only [List.length_drop, List.length_take]; rfl)) ?_
               with_reducible refine (tremaref01_Encode.calls k3 _ _ t297 t300 _ ?side1 ?side2 A15.out).mono ?_
               (case side1 => repeat (first | exact (Kd.R_reads' HO299.out).2.2 | (with_reducible refine Kd.C_alloc ?_ _) | (with_reducible refine Kd.C_drewN ?_ _) | (with_reducible refine Kd.C_drew ?_)))
               (case side2 => exact (Kd.R_reads' HO299.out).2.1)
               rintro e w26 ⟨v301, rfl, ho0, hb⟩
               refine ⟨_, rfl, ?_⟩
               have n0_ := Aside0.mk (Kd.R_below (by (with_reducible repeat (first | apply Kd.R_alloc | apply Kd.R_drewN | apply Kd.R_drew)); exact HO_3.out) hb)
               have n1_ := Aside0.mk (Kd.R_below (by (with_reducible repeat (first | apply Kd.R_alloc | apply Kd.R_drewN | apply Kd.R_drew)); exact HO_6.out) hb)
               have n2_ := Aside0.mk (Kd.R_below (by (with_reducible repeat (first | apply Kd.R_alloc | apply Kd.R_drewN | apply Kd.R_drew)); exact HO299.out) hb)
               have n3_ := Aside0.mk (Kd.R_lower ho0 (below_size (by repeat (first | (with_reducible first | exact HB.out | apply below_alloc | apply pw_below_drewN | apply below_drew1) | exact HB.out))))
               have n4_ := Aside0.mk (below_step (by repeat (first | (with_reducible first | exact HB.out | apply below_alloc | apply pw_below_drewN | apply below_drew1) | exact HB.out)) hb)
               clear HO_3
               clear HO_6
               clear HO299
               clear HB
               have HO_3 := n0_
               have HO_6 := n1_
               have HO299 := n2_
               have HO302 := n3_
               have HB := n4_
               clear n0_ n1_ n2_ n3_ n4_
               (try clear hb)
               (try clear hb2)
               (try clear hk)
               (try clear hi)
               (try clear ho0)
               refine hK.out _ _ ⟨((HB.out.cell (World.block_lt_of_cell? w _ hw303_0)).trans hw303_0), ((HB.out.cell (World.block_lt_of_cell? w _ hw303_1)).trans hw303_1), ((HB.out.cell (World.block_lt_of_cell? w _ hw303_2)).trans hw303_2), ((HB.out.cell (World.block_lt_of_cell? w _ hw304_0)).trans hw304_0), ((HB.out.cell (World.block_lt_of_cell? w _ hw304_1)).trans hw304_1), ((HB.out.cell (World.block_lt_of_cell? w _ hw304_2)).trans hw304_2), ((HB.out.cell (World.block_lt_of_cell? w _ hw305_0)).trans hw305_0), ((HB.out.cell (World.block_lt_of_cell? w _ hw305_1)).trans hw305_1), ((HB.out.cell (World.block_lt_of_cell? w _ hw305_2)).trans hw305_2)⟩ (fun hHeld => ?_)
               clear hK K
               refine norm_ (a' := ?_) ?_ ?_
               rotate_left
               ·show Act.put _ (some 44) _ = _
                simp only [Act.put, List.setIfInBounds_toArray, List.set_cons_zero, List.set_cons_succ, i64_w, i32_w]
                rfl
               refine one_ (i := 4) (N := some 45) #[true, true, true, true, true, true, true, true, true, true, true, true, true, true, true, true, true, true, true, true, true, true, true, false, false, false, false] rfl rfl (one_of HT_.out (by kernel_rfl)) (by decide) (fun K hK => ?_)
               have hcv27 := own_string (P := Tryd.prog) Tryd.underlying23 Tryd.underlying5 Tryd.underlying9 (Kd.own_of_R HO302.out)
               refine value_ (w1 := ?_) (v := ?_) (by rfl) rfl ?_ ?_
               rotate_left 2
               ·go_simp
                constructor
                ·rfl
                ·rfl
               clear hcv27
               refine hK.out _ _ ⟨((HB.out.cell (World.block_lt_of_cell? w _ hw303_0)).trans hw303_0), ((HB.out.cell (World.block_lt_of_cell? w _ hw303_1)).trans hw303_1), ((HB.out.cell (World.block_lt_of_cell? w _ hw303_2)).trans hw303_2), ((HB.out.cell (World.block_lt_of_cell? w _ hw304_0)).trans hw304_0), ((HB.out.cell (World.block_lt_of_cell? w _ hw304_1)).trans hw304_1), ((HB.out.cell (World.block_lt_of_cell? w _ hw304_2)).trans hw304_2), ((HB.out.cell (World.block_lt_of_cell? w _ hw305_0)).trans hw305_0), ((HB.out.cell (World.block_lt_of_cell? w _ hw305_1)).trans hw305_1), ((HB.out.cell (World.block_lt_of_cell? w _ hw305_2)).trans hw305_2)⟩ (fun hHeld => ?_)
               clear hK K
               refine norm_ (a' := ?_) ?_ ?_
               rotate_left
               ·show Act.put _ (some 45) _ = _
                simp only [Act.put, List.setIfInBounds_toArray, List.set_cons_zero, List.set_cons_succ, i64_w, i32_w]
                rfl
               refine pure_ (i := 23) (N := some 64) (v := ?_) (a' := ?_) #[true, true, true, true, true, true, true, true, true, true, true, true, true, true, true, true, true, true, true, true, true, true, true, true, false, false, false] rfl rfl (any_of HT_.out (by kernel_rfl)) (fun _ _ _ h => h) (Or.inl ⟨by rfl, ?_⟩) ?_ ?_
               rotate_left
               ·intro w'
                go_simp
                with_reducible rfl
               rotate_left
               ·simp only [Act.put, List.setIfInBounds_toArray, List.set_cons_zero, List.set_cons_succ, i64_w, i32_w]
                rfl
               refine one_ (i := 24) (N := some 65) #[true, true, true, true, true, true, true, true, true, true, true, true, true, true, true, true, true, true, true, true, true, true, true, true, true, false, false] rfl rfl (one_of HT_.out (by kernel_rfl)) (by decide) (fun K hK => ?_)
               refine value_ (w1 := ?_) (v := ?_) (by rfl) rfl ?_ ?_
               rotate_left 2
               ·go_simp
                constructor
                ·rfl
                ·rfl
               refine hK.out _ _ ⟨(World.cell?_alloc_lt _ _ _ (World.block_lt_of_cell? _ _ (((HB.out.cell (World.block_lt_of_cell? w _ hw303_0)).trans hw303_0)))).trans (((HB.out.cell (World.block_lt_of_cell? w _ hw303_0)).trans hw303_0)), (World.cell?_alloc_lt _ _ _ (World.block_lt_of_cell? _ _ (((HB.out.cell (World.block_lt_of_cell? w _ hw303_1)).trans hw303_1)))).trans (((HB.out.cell (World.block_lt_of_cell? w _ hw303_1)).trans hw303_1)), (World.cell?_alloc_lt _ _ _ (World.block_lt_of_cell? _ _ (((HB.out.cell (World.block_lt_of_cell? w _ hw303_2)).trans hw303_2)))).trans (((HB.out.cell (World.block_lt_of_cell? w _ hw303_2)).trans hw303_2)), (World.cell?_alloc_lt _ _ _ (World.block_lt_of_cell? _ _ (((HB.out.cell (World.block_lt_of_cell? w _ hw304_0)).trans hw304_0)))).trans (((HB.out.cell (World.block_lt_of_cell? w _ hw304_0)).trans hw304_0)), (World.cell?_alloc_lt _ _ _ (World.block_lt_of_cell? _ _ (((HB.out.cell (World.block_lt_of_cell? w _ hw304_1)).trans hw304_1)))).trans (((HB.out.cell (World.block_lt_of_cell? w _ hw304_1)).trans hw304_1)), (World.cell?_alloc_lt _ _ _ (World.block_lt_of_cell? _ _ (((HB.out.cell (World.block_lt_of_cell? w _ hw304_2)).trans hw304_2)))).trans (((HB.out.cell (World.block_lt_of_cell? w _ hw304_2)).trans hw304_2)), (World.cell?_alloc_lt _ _ _ (World.block_lt_of_cell? _ _ (((HB.out.cell (World.block_lt_of_cell? w _ hw305_0)).trans hw305_0)))).trans (((HB.out.cell (World.block_lt_of_cell? w _ hw305_0)).trans hw305_0)), (World.cell?_alloc_lt _ _ _ (World.block_lt_of_cell? _ _ (((HB.out.cell (World.block_lt_of_cell? w _ hw305_1)).trans hw305_1)))).trans (((HB.out.cell (World.block_lt_of_cell? w _ hw305_1)).trans hw305_1)), (World.cell?_alloc_lt _ _ _ (World.block_lt_of_cell? _ _ (((HB.out.cell (World.block_lt_of_cell? w _ hw305_2)).trans hw305_2)))).trans (((HB.out.cell (World.block_lt_of_cell? w _ hw305_2)).trans hw305_2))⟩ (fun hHeld => ?_)
               clear hK K
               refine norm_ (a' := ?_) ?_ ?_
               rotate_left
               ·show Act.put _ (some 65) _ = _
                simp only [Act.put, List.setIfInBounds_toArray, List.set_cons_zero, List.set_cons_succ, i64_w, i32_w]
                rfl
               refine one_ (i := 25) (N := some 66) #[true, true, true, true, true, true, true, true, true, true, true, true, true, true, true, true, true, true, true, true, true, true, true, true, true, true, false] rfl rfl (one_of HT_.out (by kernel_rfl)) (by decide) (fun K hK => ?_)
               refine Kd.R_append_step k67 (w0 := w) w.heap.size (by rfl) (.tmp 41) (.tmp 65) 29 67 (.agg #[(.string ⟨#[]⟩), (.int .i64 0), (.int .i64 0)]) 32 rfl Tryd.underlying29 info67 rfl (by decide) (by omega) u3 x3_1 (⟨strOfNums t300, (rd_T103 l0 x4_1).f1, wrap64 (((rd_T103 l0 (ji18)).f1) + ((rd_T103 l0 (ji18)).f2))⟩ : S67) [.string (strOfNums t300), .int .i64 ((rd_T103 l0 x4_1).f1), .int .i64 (wrap64 (((rd_T103 l0 (ji18)).f1) + ((rd_T103 l0 (ji18)).f2)))] (fun _ => True) (fun _ => False) rfl rfl ?aP (fun _ hk => hk.elim) ?aF ?aO ?aB ?aS ?aL ?_
               (case aP => exact k67_mkM _ _ _ (⟨strOfNums t300, (rd_T103 l0 x4_1).f1, wrap64 (((rd_T103 l0 (ji18)).f1) + ((rd_T103 l0 (ji18)).f2))⟩ : S67))
               (case aB => exact (by repeat (first | (with_reducible first | exact HB.out | apply below_alloc | apply pw_below_drewN | apply below_drew1) | exact HB.out)))
               (case aF => exact (fun _ _ => trivial))
               (case aO => exact (by (with_reducible repeat (first | apply Kd.R_alloc | apply Kd.R_drewN | apply Kd.R_drew)); exact HO_3.out))
               (case aS => exact (below_size (by repeat (first | (with_reducible first | exact HB.out | apply below_alloc | apply pw_below_drewN | apply below_drew1) | exact HB.out))))
               (case aL => have := LMc21.out; omega)
               intro v307 w28 ho hb hg hat
               rw [← Ny306.out] at ho
               have n0_ := Aside0.mk (Kd.R_over' (by (with_reducible repeat (first | apply Kd.R_alloc | apply Kd.R_drewN | apply Kd.R_drew)); exact HO_6.out) (Kd.R_typed (by (with_reducible repeat (first | apply Kd.R_alloc | apply Kd.R_drewN | apply Kd.R_drew)); exact HO_3.out)) (by decide) hg)
               have n1_ := Aside0.mk (Kd.R_over' (by (with_reducible repeat (first | apply Kd.R_alloc | apply Kd.R_drewN | apply Kd.R_drew)); exact HO299.out) (Kd.R_typed (by (with_reducible repeat (first | apply Kd.R_alloc | apply Kd.R_drewN | apply Kd.R_drew)); exact HO_3.out)) (by decide) hg)
               have n2_ := Aside0.mk (Kd.R_over' (by (with_reducible repeat (first | apply Kd.R_alloc | apply Kd.R_drewN | apply Kd.R_drew)); exact HO302.out) (Kd.R_typed (by (with_reducible repeat (first | apply Kd.R_alloc | apply Kd.R_drewN | apply Kd.R_drew)); exact HO_3.out)) (by decide) hg)
               have n3_ := Aside0.mk (hb)
               have n4_ := Aside0.mk (ho)
               clear HO_6
               clear HO299
               clear HO302
               clear HB
               clear HO_3
               have HO_6 := n0_
               have HO299 := n1_
               have HO302 := n2_
               have HB := n3_
               have HO308 := n4_
               clear n0_ n1_ n2_ n3_ n4_
               clear ho hb hg hat
               refine hK.out _ _ ⟨((HB.out.cell (World.block_lt_of_cell? w _ hw303_0)).trans hw303_0), ((HB.out.cell (World.block_lt_of_cell? w _ hw303_1)).trans hw303_1), ((HB.out.cell (World.block_lt_of_cell? w _ hw303_2)).trans hw303_2), ((HB.out.cell (World.block_lt_of_cell? w _ hw304_0)).trans hw304_0), ((HB.out.cell (World.block_lt_of_cell? w _ hw304_1)).trans hw304_1), ((HB.out.cell (World.block_lt_of_cell? w _ hw304_2)).trans hw304_2), ((HB.out.cell (World.block_lt_of_cell? w _ hw305_0)).trans hw305_0), ((HB.out.cell (World.block_lt_of_cell? w _ hw305_1)).trans hw305_1), ((HB.out.cell (World.block_lt_of_cell? w _ hw305_2)).trans hw305_2)⟩ (fun hHeld => ?_)
               clear hK K
               refine norm_ (a' := ?_) ?_ ?_
               rotate_left
               ·show Act.put _ (some 66) _ = _
                simp only [Act.put, List.setIfInBounds_toArray, List.set_cons_zero, List.set_cons_succ, i64_w, i32_w]
                rfl
               refine pure_ (i := 26) (N := some 3) (v := ?_) (a' := ?_) #[true, true, true, true, true, true, true, true, true, true, true, true, true, true, true, true, true, true, true, true, true, true, true, true, true, true, true] rfl rfl (any_of HT_.out (by kernel_rfl)) (fun _ _ _ h => h) (Or.inl ⟨by rfl, ?_⟩) ?_ ?_
               rotate_left
               ·intro w'
                go_simp
                with_reducible rfl
               rotate_left
               ·simp only [Act.put, List.setIfInBounds_toArray, List.set_cons_zero, List.set_cons_succ, i64_w, i32_w]
                rfl
               refine done_ (done_of HT_.out (by kernel_rfl)) ?_
               try go_wp2
               go_roundg k3
               case measure => have := HK1.out; have := HJ2.out; have := HK3.out; omega
               case rel => exact ⟨(y306), (x5_1), (wrap64 (x5_1 + 1)), (by first | rfl | (simp; done) | (simp [*]; done)), (by first | rfl | (simp; done) | (simp [*]; done)), H', ⟨by have := HK1.out; have := HJ2.out; have := HK3.out; omega⟩, ⟨by (with_reducible repeat (first | apply Kd.R_alloc | apply Kd.R_drewN | apply Kd.R_drew)); exact HO308.out⟩, ⟨by repeat (first | (with_reducible first | exact HB.out | apply below_alloc | apply pw_below_drewN | apply below_drew1) | exact HB.out)⟩⟩
              ·rw [if_neg c21] at H
               exact absurd H (by simp)
             ·rw [if_neg c20] at H
              exact absurd H (by simp)
            ·rw [if_neg c19] at H
             exact absurd H (by simp)
           ·rw [if_neg c17] at H
            exact absurd H (by simp)
          ·rw [if_neg c16] at H
           exact absurd H (by simp)
   ·rw [if_neg c2] at H
    have c2b0 : decide (x5_1 ≤ (l0.length : Int)) = false := decide_eq_false c2
    clear c2
    obtain rfl := Option.some.inj H
    go_wp2
    go_ret
    exact ⟨_, by first | rfl | (simp [errW_none, errW_some] <;> rfl) | (simp [*, errW_none, errW_some] <;> rfl), by (with_reducible repeat (first | apply Kd.R_alloc | apply Kd.R_drewN | apply Kd.R_drew)); exact HO_3.out, by repeat (first | (with_reducible first | exact HB.out | apply below_alloc | apply pw_below_drewN | apply below_drew1) | exact HB.out)⟩
end Go.Proofs.YthffpkdadffinaaDoor.X
namespace Go.Proofs.YthffpkdadffinaaDoor.X
open Go.RowKit Go.Proofs.YthffpkdadffinaaDoorW.PrintWords Go.Proofs.YthffpkdadffinaaDoorW.PrintLast Go.Proofs.YthffpkdadffinaaDoorW.PrintMore
attribute [local go_sem] max2_int min2_int max_two min_two max_three min_three max_four min_four   
set_option linter.unusedVariables false
set_option linter.unusedSimpArgs false
def tremaref04_All.f (k : Nat) (l0 : List Int) : Option ((List (S67))) := (tremaref01_Decode.f k l0 false).bind fun t309 => ((tremaref04_cut.f k t309).bind fun t312 => (some t312))
theorem tremaref04_All.mono : ∀ a0 k, LeO (tremaref04_All.f k a0) (tremaref04_All.f (k + 1) a0) := by
 intro a0 k
 unfold tremaref04_All.f
 repeat' first
   | (with_reducible exact tremaref01_Decode.mono _ _ _)
   | (with_reducible exact tremaref04_cut.mono _ _)
   | (with_reducible exact LeO.refl _)
   | (with_reducible exact LeO.none _)
   | (with_reducible refine LeO.ite ?_ ?_)
   | (with_reducible refine LeO.bind ?_ (fun _ => ?_))
   | exact tremaref01_Decode.mono _ _ _
   | exact tremaref04_cut.mono _ _
   | exact LeO.none _
   | refine LeO.ite ?_ ?_
   | refine LeO.bind ?_ (fun _ => ?_)
set_option maxHeartbeats 8000000 in
set_option maxRecDepth 100000 in
theorem tremaref04_All.calls (k : Nat) (A0 : Option Addr) (c0 : Nat) (l0 : List Int) (r : List (S67)) (w : World) (hr0 : Kd.C (Kd.int .u8) w A0 l0.length l0) (hc0 : l0.length ≤ c0) (h : tremaref04_All.f k l0 = some r) :
  Calls Tryd.prog 52 #[.slice A0 l0.length c0] w fun e w' => ∃ v0_ : Value, e = .returned (v0_) ∧ Kd.R k67 67 w' w.heap.size (fun _ => True) v0_ r ∧ Below w.heap.size w w' := by
 have HR0 := Aside0.mk hr0
 have HC0 := Aside0.mk hc0
 clear hr0 hc0
 have HB := Aside0.mk (Below.refl w.heap.size w)
 have H : ((tremaref01_Decode.f k l0 false).bind fun t309 => ((tremaref04_cut.f k t309).bind fun t312 => (some t312))) = some r := h
 clear h
 replace H := Option.bind_eq_some_iff.mp H
 obtain ⟨t309, A20, H⟩ := H
 replace H : ((tremaref04_cut.f k t309).bind fun t312 => (some t312)) = some r := H
 have A2 := Aside0.mk A20
 clear A20
 replace H := Option.bind_eq_some_iff.mp H
 obtain ⟨t312, A30, H⟩ := H
 replace H : (some t312) = some r := H
 have A3 := Aside0.mk A30
 clear A30
 obtain rfl := Option.some.inj H
 go_enter Tryd.func52, Tryd.ntmps52
 go_wp2_with (first | ((with_reducible refine gate_callee (f := 47) rfl ?_); refine goesL_ (some 4) rfl rfl Tryd.func47 (by kernel_rfl) rfl #[.slice A0 l0.length c0, .bool false] rfl (by (try simp only [List.map_toArray, List.map_cons, List.map_nil]); first | done | rfl | (simp only [List.length_drop, List.length_take]; rfl)) ?_; (with_reducible refine (tremaref01_Decode.calls k _ _ l0 false t309 _ ?side1 ?side2 A2.out).mono ?_); (case side1 => repeat (first | exact HR0.out | (with_reducible refine Kd.C_alloc ?_ _) | (with_reducible refine Kd.C_drewN ?_ _) | (with_reducible refine Kd.C_drew ?_))); (case side2 => exact HC0.out); rintro e w4 ⟨v310, rfl, ho0, hb⟩; refine ⟨_, rfl, ?_⟩; have n0_ := Aside0.mk (Kd.R_lower ho0 (below_size (by repeat (first | (with_reducible first | exact HB.out | apply below_alloc | apply pw_below_drewN | apply below_drew1) | exact HB.out)))); have n1_ := Aside0.mk (below_step (by repeat (first | (with_reducible first | exact HB.out | apply below_alloc | apply pw_below_drewN | apply below_drew1) | exact HB.out)) hb); clear HB; have HO311 := n0_; have HB := n1_; clear n0_ n1_; (try clear hb); (try clear hb2); (try clear hk); (try clear hi); (try clear ho0); obtain ⟨Ao5, co5, eo5⟩ := Kd.R_slice HO311.out; subst eo5) | ((with_reducible refine gate_callee (f := 46) rfl ?_); refine goesL_ (some 5) rfl rfl Tryd.func46 (by kernel_rfl) rfl #[.slice Ao5 t309.length co5] rfl (by (try simp only [List.map_toArray, List.map_cons, List.map_nil]); first | done | rfl | (simp only [List.length_drop, List.length_take]; rfl)) ?_; (with_reducible refine (tremaref04_cut.calls k _ _ t309 t312 _ ?side1 ?side2 A3.out).mono ?_); (case side1 => repeat (first | exact (Kd.R_reads' HO311.out).2.2 | (with_reducible refine Kd.C_alloc ?_ _) | (with_reducible refine Kd.C_drewN ?_ _) | (with_reducible refine Kd.C_drew ?_))); (case side2 => exact (Kd.R_reads' HO311.out).2.1); rintro e w6 ⟨v313, rfl, ho0, hb⟩; refine ⟨_, rfl, ?_⟩; have n0_ := Aside0.mk (Kd.R_below (by (with_reducible repeat (first | apply Kd.R_alloc | apply Kd.R_drewN | apply Kd.R_drew)); exact HO311.out) hb); have n1_ := Aside0.mk (Kd.R_lower ho0 (below_size (by repeat (first | (with_reducible first | exact HB.out | apply below_alloc | apply pw_below_drewN | apply below_drew1) | exact HB.out)))); have n2_ := Aside0.mk (below_step (by repeat (first | (with_reducible first | exact HB.out | apply below_alloc | apply pw_below_drewN | apply below_drew1) | exact HB.out)) hb); clear HO311; clear HB; have HO311 := n0_; have HO314 := n1_; have HB := n2_; clear n0_ n1_ n2_; (try clear hb); (try clear hb2); (try clear hk); (try clear hi); (try clear ho0)))
 go_ret
 exact ⟨_, by first | rfl | (simp [errW_none, errW_some] <;> rfl) | (simp [*, errW_none, errW_some] <;> rfl), by (with_reducible repeat (first | apply Kd.R_alloc | apply Kd.R_drewN | apply Kd.R_drew)); exact HO314.out, by repeat (first | (with_reducible first | exact HB.out | apply below_alloc | apply pw_below_drewN | apply below_drew1) | exact HB.out)⟩
end Go.Proofs.YthffpkdadffinaaDoor.X
namespace Go.Proofs.YthffpkdadffinaaDoor.X
open Go.RowKit Go.Proofs.YthffpkdadffinaaDoorW.PrintWords Go.Proofs.YthffpkdadffinaaDoorW.PrintLast Go.Proofs.YthffpkdadffinaaDoorW.PrintMore
attribute [local go_sem] max2_int min2_int max_two min_two max_three min_three max_four min_four   
set_option linter.unusedVariables false
set_option linter.unusedSimpArgs false
def tremaref04_good.l0 : Nat → List (S67) → Int → Int → Option ((List (S67)) × Bool)
 | 0, _, _, _ => none
 | k + 1, x0, x1, x6 => if x6 < (x0.length : Int) then (if 0 ≤ x6 then ((tremaref04_Length.f ((rd_T67 x0 x6).f0) ((rd_T67 x0 x6).f1) ((rd_T67 x0 x6).f2)).bind fun t245 => (if t245 > x1 then (if x6 ≤ (x0.length : Int) then (some ((x0.take (x6 : Int).toNat), true)) else (none)) else (tremaref04_good.l0 k x0 x1 (wrap64 (x6 + 1))))) else (none)) else (some (x0, false))
def tremaref04_good.f (k : Nat) (l0 : List (S67)) (a1 : Int) : Option ((List (S67)) × Bool) := tremaref04_good.l0 k l0 a1 0
theorem tremaref04_good.mono_l : ∀ k, (∀ y0 y1 y2, LeO (tremaref04_good.l0 k y0 y1 y2) (tremaref04_good.l0 (k + 1) y0 y1 y2))
 | 0 => fun _ _ _ r h => by simp [tremaref04_good.l0] at h
 | k + 1 => by
  have ih0 := tremaref04_good.mono_l k
  ·intro y0 y1 y2
   unfold tremaref04_good.l0
   repeat' first
   | (with_reducible exact ih0 _ _ _)
   | (with_reducible exact LeO.refl _)
   | (with_reducible exact LeO.none _)
   | (with_reducible refine LeO.ite ?_ ?_)
   | (with_reducible refine LeO.bind ?_ (fun _ => ?_))
   | exact ih0 _ _ _
   | exact LeO.none _
   | refine LeO.ite ?_ ?_
   | refine LeO.bind ?_ (fun _ => ?_)
theorem tremaref04_good.mono : ∀ a0 a1 k, LeO (tremaref04_good.f k a0 a1) (tremaref04_good.f (k + 1) a0 a1) := by
 intro a0 a1 k
 have ih0 := tremaref04_good.mono_l k
 unfold tremaref04_good.f
 repeat' first
   | (with_reducible exact ih0 _ _ _)
   | (with_reducible exact LeO.refl _)
   | (with_reducible exact LeO.none _)
   | (with_reducible refine LeO.ite ?_ ?_)
   | (with_reducible refine LeO.bind ?_ (fun _ => ?_))
   | exact ih0 _ _ _
   | exact LeO.none _
   | refine LeO.ite ?_ ?_
   | refine LeO.bind ?_ (fun _ => ?_)
set_option maxHeartbeats 8000000 in
set_option maxRecDepth 100000 in
theorem tremaref04_good.calls (k : Nat) (P0_ : Nat → Prop) (u9000_ : Value) (l0 : List (S67)) (a1 : Int) (r1 : List (S67)) (r2 : Bool) (w0 w : World) (hB : Below w0.heap.size w0 w) (ho0 : Kd.R k67 67 w w0.heap.size P0_ u9000_ l0) (h : tremaref04_good.f k l0 a1 = some (r1, r2)) :
  Calls Tryd.prog 48 #[u9000_, .int .i64 a1] w fun e w' => ∃ v0_ : Value, e = .returned (.tuple #[v0_, .bool r2]) ∧ Kd.R k67 67 w' w0.heap.size (fun k_ => (P0_ k_ ∨ w.heap.size ≤ k_)) v0_ r1 ∧ Below w0.heap.size w0 w' ∧ Kept w w' (fun k_ => P0_ k_) := by
 have hu67 := Tryd.underlying67
 have HO0 := Aside0.mk (show Kd.R k67 67 w w0.heap.size (fun k_ => (P0_ k_ ∨ w.heap.size ≤ k_)) u9000_ l0 from Kd.R_mono ho0 (fun k_ hk => (.inl hk)))
 have HK := Aside0.mk (Kept.refl w (fun k_ => P0_ k_))
 have HW0 := Aside0.mk hB.size
 have HB := Aside0.mk hB
 clear hB
 have H : (tremaref04_good.l0 k l0 a1 0) = some (r1, r2) := h
 clear h
 have H' := Aside0.mk H
 clear H
 go_enter Tryd.func48, Tryd.ntmps48
 go_wp2
 go_loopg [6] k (fun kq v6 w' => ∃ (x6_1 : Int), v6 = .int .i64 x6_1 ∧ Aside0 (tremaref04_good.l0 kq l0 a1 x6_1 = some (r1, r2)) ∧ Aside0 (kq ≤ k) ∧ Aside0 (Kd.R k67 67 w' w0.heap.size (fun k_ => (P0_ k_ ∨ w.heap.size ≤ k_)) u9000_ l0) ∧ Aside0 (Kept w w' (fun k_ => P0_ k_)) ∧ Aside0 (Below w0.heap.size w0 w'))
 case atStart => exact ⟨(0), (by first | rfl | (simp; done) | (simp [*]; done)), H', ⟨Nat.le_refl _⟩, ⟨by (with_reducible repeat (first | apply Kd.R_alloc | apply Kd.R_drewN | apply Kd.R_drew)); exact HO0.out⟩, ⟨by repeat (first | (with_reducible first | exact HK.out | apply Kept.alloc | apply Kept.drewN | apply Kept.drew) | exact HK.out)⟩, ⟨by repeat (first | (with_reducible first | exact HB.out | apply below_alloc | apply pw_below_drewN | apply below_drew1) | exact HB.out)⟩⟩
 case round =>
  clear H'
  try clear p2
  obtain ⟨x6_1, rfl, HA, HK1, HO_0, HK, HB⟩ := hrel
  cases gk with
  | zero => exact absurd HA.out (by simp [tremaref04_good.l0])
  | succ k1 =>
   have H := HA.out
   clear HA
   simp only [tremaref04_good.l0] at H
   by_cases c3 : x6_1 < (l0.length : Int)
   ·rw [if_pos c3] at H
    have c3b0 : decide (x6_1 < (l0.length : Int)) = true := decide_eq_true c3
    clear c3
    by_cases c4 : 0 ≤ x6_1
    ·rw [if_pos c4] at H
     have c4b0 : decide (0 ≤ x6_1) = true := decide_eq_true c4
     clear c4
     replace H := Option.bind_eq_some_iff.mp H
     obtain ⟨t245, A50, H⟩ := H
     replace H : (if t245 > a1 then (if x6_1 ≤ (l0.length : Int) then (some ((l0.take (x6_1 : Int).toNat), true)) else (none)) else (tremaref04_good.l0 k1 l0 a1 (wrap64 (x6_1 + 1)))) = some (r1, r2) := H
     have A5 := Aside0.mk A50
     clear A50
     by_cases c6 : t245 > a1
     ·rw [if_pos c6] at H
      have c6b0 : decide (a1 < t245) = true := decide_eq_true c6
      clear c6
      by_cases c7 : x6_1 ≤ (l0.length : Int)
      ·rw [if_pos c7] at H
       have c7b0 := eq_true c7
       have c7b1 : decide (x6_1 ≤ (l0.length : Int)) = true := decide_eq_true c7
       clear c7
       obtain ⟨y246, hy246⟩ : ∃ y_ : List (S67), y_ = (l0.take (x6_1 : Int).toNat) := ⟨_, rfl⟩
       replace H : (some (y246, true)) = some (r1, r2) := by first | (rw [hy246]; with_reducible exact H) | (have H2_ := (Option.bind_some _ _).symm.trans H; rw [hy246]; with_reducible exact H2_) | (have H2_ := (Option.bind_some _ _).symm.trans H; with_reducible exact H2_) | with_reducible exact H | (rw [hy246]; exact H) | exact H
       have Ny246 := Aside0.mk hy246
       clear hy246
       simp only [Option.some.injEq, Prod.mk.injEq] at H
       obtain ⟨rfl, rfl⟩ := H
       obtain ⟨Ao8, co8, eo8⟩ := Kd.R_slice HO_0.out
       subst eo8
       have p244 : 0 ≤ (x6_1 : Int) := of_decide_eq_true (by first | (with_reducible assumption) | assumption)
       have q244 : x6_1 < (l0.length : Int) := of_decide_eq_true (by first | (with_reducible assumption) | assumption)
       obtain ⟨ad244, e244, hx244_0, hx244_1, hx244_2⟩ := at_T67 (Kd.R_reads' HO_0.out).2.2 x6_1 p244 q244
       cases e244
       replace p244 := eq_true p244
       replace q244 := eq_true q244
       go_wp2_with (first | ((with_reducible refine gate_callee (f := 49) rfl ?_); refine goesL_ (some 17) rfl rfl Tryd.func49 (by kernel_rfl) rfl #[.agg #[.string ((rd_T67 l0 x6_1).f0), .int .i64 ((rd_T67 l0 x6_1).f1), .int .i64 ((rd_T67 l0 x6_1).f2)]] rfl (by (try simp only [List.map_toArray, List.map_cons, List.map_nil]); first | done | rfl | (simp only [List.length_drop, List.length_take]; rfl)) ?_; (with_reducible refine (tremaref04_Length.calls ((rd_T67 l0 x6_1).f0) ((rd_T67 l0 x6_1).f1) ((rd_T67 l0 x6_1).f2) t245 _ A5.out).mono ?_); rintro e w9 ⟨rfl, hb⟩; refine ⟨_, rfl, ?_⟩; have n0_ := Aside0.mk (Kd.R_below (by (with_reducible repeat (first | apply Kd.R_alloc | apply Kd.R_drewN | apply Kd.R_drew)); exact HO_0.out) hb); have n1_ := Aside0.mk (Kept.below (S := (fun k_ => P0_ k_)) (by repeat (first | (with_reducible first | exact HK.out | apply Kept.alloc | apply Kept.drewN | apply Kept.drew) | exact HK.out)) hb); have n2_ := Aside0.mk (below_step (by repeat (first | (with_reducible first | exact HB.out | apply below_alloc | apply pw_below_drewN | apply below_drew1) | exact HB.out)) hb); clear HO_0; clear HK; clear HB; have HO_0 := n0_; have HK := n1_; have HB := n2_; clear n0_ n1_ n2_; (try clear hb); (try clear hb2); (try clear hk); (try clear hi); have q10 : (x6_1 : Int) ≤ ((l0.length : Int) : Int) := of_decide_eq_true (by first | (with_reducible assumption) | assumption); obtain ⟨i010, hi010, _, hsz10, _⟩ := info_parts info67; have hcut10 := cut_to (P := Tryd.prog) 29 67 .i64 Tryd.underlying29 hi010 (some ad244) l0.length co8 x6_1 (of_decide_eq_true (by first | (with_reducible assumption) | assumption)) q10 (Kd.R_reads' HO_0.out).2.1; have hr10 := Kd.R_take (m := (x6_1 : Int).toNat) HO_0.out (by omega); have hy10 : y246.length = (x6_1 : Int).toNat := (by rw [Ny246.out, List.length_take]; omega); rw [← Ny246.out] at hr10; rw [← hy10] at hr10 hcut10; clear hy10 hi010 hsz10 HO_0; have HO248 := Aside0.mk hr10; clear hr10; replace q10 := eq_true q10))
       go_ret2
       exact ⟨_, by first | rfl | (simp [errW_none, errW_some] <;> rfl) | (simp [*, errW_none, errW_some] <;> rfl), by (with_reducible repeat (first | apply Kd.R_alloc | apply Kd.R_drewN | apply Kd.R_drew)); exact HO248.out, by repeat (first | (with_reducible first | exact HB.out | apply below_alloc | apply pw_below_drewN | apply below_drew1) | exact HB.out), by repeat (first | (with_reducible first | exact HK.out | apply Kept.alloc | apply Kept.drewN | apply Kept.drew) | exact HK.out)⟩
      ·rw [if_neg c7] at H
       exact absurd H (by simp)
     ·rw [if_neg c6] at H
      have c6b0 : decide (a1 < t245) = false := decide_eq_false c6
      clear c6
      have H' := Aside0.mk H
      clear H
      obtain ⟨Ao11, co11, eo11⟩ := Kd.R_slice HO_0.out
      subst eo11
      have p244 : 0 ≤ (x6_1 : Int) := of_decide_eq_true (by first | (with_reducible assumption) | assumption)
      have q244 : x6_1 < (l0.length : Int) := of_decide_eq_true (by first | (with_reducible assumption) | assumption)
      obtain ⟨ad244, e244, hx244_0, hx244_1, hx244_2⟩ := at_T67 (Kd.R_reads' HO_0.out).2.2 x6_1 p244 q244
      cases e244
      replace p244 := eq_true p244
      replace q244 := eq_true q244
      go_wp2_with (first | ((with_reducible refine gate_callee (f := 49) rfl ?_); refine goesL_ (some 17) rfl rfl Tryd.func49 (by kernel_rfl) rfl #[.agg #[.string ((rd_T67 l0 x6_1).f0), .int .i64 ((rd_T67 l0 x6_1).f1), .int .i64 ((rd_T67 l0 x6_1).f2)]] rfl (by (try simp only [List.map_toArray, List.map_cons, List.map_nil]); first | done | rfl | (simp only [List.length_drop, List.length_take]; rfl)) ?_; (with_reducible refine (tremaref04_Length.calls ((rd_T67 l0 x6_1).f0) ((rd_T67 l0 x6_1).f1) ((rd_T67 l0 x6_1).f2) t245 _ A5.out).mono ?_); rintro e w12 ⟨rfl, hb⟩; refine ⟨_, rfl, ?_⟩; have n0_ := Aside0.mk (Kd.R_below (by (with_reducible repeat (first | apply Kd.R_alloc | apply Kd.R_drewN | apply Kd.R_drew)); exact HO_0.out) hb); have n1_ := Aside0.mk (Kept.below (S := (fun k_ => P0_ k_)) (by repeat (first | (with_reducible first | exact HK.out | apply Kept.alloc | apply Kept.drewN | apply Kept.drew) | exact HK.out)) hb); have n2_ := Aside0.mk (below_step (by repeat (first | (with_reducible first | exact HB.out | apply below_alloc | apply pw_below_drewN | apply below_drew1) | exact HB.out)) hb); clear HO_0; clear HK; clear HB; have HO_0 := n0_; have HK := n1_; have HB := n2_; clear n0_ n1_ n2_; (try clear hb); (try clear hb2); (try clear hk); (try clear hi)))
      go_roundg k1
      case measure => have := HK1.out; omega
      case rel => exact ⟨(wrap64 (x6_1 + 1)), (by first | rfl | (simp; done) | (simp [*]; done)), H', ⟨by have := HK1.out; omega⟩, ⟨by (with_reducible repeat (first | apply Kd.R_alloc | apply Kd.R_drewN | apply Kd.R_drew)); exact HO_0.out⟩, ⟨by repeat (first | (with_reducible first | exact HK.out | apply Kept.alloc | apply Kept.drewN | apply Kept.drew) | exact HK.out)⟩, ⟨by repeat (first | (with_reducible first | exact HB.out | apply below_alloc | apply pw_below_drewN | apply below_drew1) | exact HB.out)⟩⟩
    ·rw [if_neg c4] at H
     exact absurd H (by simp)
   ·rw [if_neg c3] at H
    have c3b0 : decide (x6_1 < (l0.length : Int)) = false := decide_eq_false c3
    clear c3
    simp only [Option.some.injEq, Prod.mk.injEq] at H
    obtain ⟨rfl, rfl⟩ := H
    obtain ⟨Ao13, co13, eo13⟩ := Kd.R_slice HO_0.out
    subst eo13
    go_wp2
    go_ret2
    exact ⟨_, by first | rfl | (simp [errW_none, errW_some] <;> rfl) | (simp [*, errW_none, errW_some] <;> rfl), by (with_reducible repeat (first | apply Kd.R_alloc | apply Kd.R_drewN | apply Kd.R_drew)); exact HO_0.out, by repeat (first | (with_reducible first | exact HB.out | apply below_alloc | apply pw_below_drewN | apply below_drew1) | exact HB.out), by repeat (first | (with_reducible first | exact HK.out | apply Kept.alloc | apply Kept.drewN | apply Kept.drew) | exact HK.out)⟩
end Go.Proofs.YthffpkdadffinaaDoor.X
