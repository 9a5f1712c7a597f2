/-
  Several texts of this claim in one: what its law's proof uses.
-/
import Derived.Test.YtiggjbclbdikmaaDoorMQ1
import Derived.Test.YtiggjbclbdikmaaDoorMQ3
import Derived.WalkSpells
import Derived.WalkLawsBesides
namespace Go.Proofs.YtiggjbclbdikmaaDoor.X
open Go.RowKit Go.Proofs.YtiggjbclbdikmaaDoorW.PrintWords Go.Proofs.YtiggjbclbdikmaaDoorW.PrintLast Go.Proofs.YtiggjbclbdikmaaDoorW.PrintMore
attribute [local go_sem] max2_int min2_int max_two min_two max_three min_three max_four min_four   
set_option linter.unusedVariables false
set_option linter.unusedSimpArgs false
mutual
def tremaref01_row.j0 : Nat → Int → Bool → Option (List Int × Bool)
 | 0, _, _ => none
 | k + 1, x0, x7 => if x7 = true then (some ((([128, 191] : List Int)), true)) else (if x0 = 224 then (some ((([160, 191, 128, 191] : List Int)), true)) else (if x0 = 237 then (some ((([128, 159, 128, 191] : List Int)), true)) else (if x0 ≥ 225 then (tremaref01_row.j1 k x0 (decide (x0 ≤ 239))) else (tremaref01_row.j1 k x0 false))))
def tremaref01_row.j1 : Nat → Int → Bool → Option (List Int × Bool)
 | 0, _, _ => none
 | k + 1, x0, x23 => if x23 = true then (some ((([128, 191, 128, 191] : List Int)), true)) else (if x0 = 240 then (some ((([144, 191, 128, 191, 128, 191] : List Int)), true)) else (if x0 ≥ 241 then (tremaref01_row.j2 k x0 (decide (x0 ≤ 243))) else (tremaref01_row.j2 k x0 false)))
def tremaref01_row.j2 : Nat → Int → Bool → Option (List Int × Bool)
 | 0, _, _ => none
 | k + 1, x0, x35 => if x35 = true then (some ((([128, 191, 128, 191, 128, 191] : List Int)), true)) else (if x0 = 244 then (some ((([128, 143, 128, 191, 128, 191] : List Int)), true)) else (some (([] : List Int), false)))
end
def tremaref01_row.f (k : Nat) (a0 : Int) : Option (List Int × Bool) := if a0 ≤ 127 then (some (([] : List Int), true)) else (if a0 ≥ 194 then (tremaref01_row.j0 k a0 (decide (a0 ≤ 223))) else (tremaref01_row.j0 k a0 false))
theorem tremaref01_row.mono_l : ∀ k, (∀ y0 y1, LeO (tremaref01_row.j0 k y0 y1) (tremaref01_row.j0 (k + 1) y0 y1)) ∧ (∀ y0 y1, LeO (tremaref01_row.j1 k y0 y1) (tremaref01_row.j1 (k + 1) y0 y1)) ∧ (∀ y0 y1, LeO (tremaref01_row.j2 k y0 y1) (tremaref01_row.j2 (k + 1) y0 y1))
 | 0 => ⟨fun _ _ r h => by simp [tremaref01_row.j0] at h, fun _ _ r h => by simp [tremaref01_row.j1] at h, fun _ _ r h => by simp [tremaref01_row.j2] at h⟩
 | k + 1 => by
  obtain ⟨ih0, ih1, ih2⟩ := tremaref01_row.mono_l k
  refine ⟨?_, ?_, ?_⟩
  ·intro y0 y1
   unfold tremaref01_row.j0
   repeat' first
   | (with_reducible exact ih0 _ _)
   | (with_reducible exact ih1 _ _)
   | (with_reducible exact ih2 _ _)
   | (with_reducible exact LeO.refl _)
   | (with_reducible exact LeO.none _)
   | (with_reducible refine LeO.ite ?_ ?_)
   | (with_reducible refine LeO.bind ?_ (fun _ => ?_))
   | exact ih0 _ _
   | exact ih1 _ _
   | exact ih2 _ _
   | exact LeO.none _
   | refine LeO.ite ?_ ?_
   | refine LeO.bind ?_ (fun _ => ?_)
  ·intro y0 y1
   unfold tremaref01_row.j1
   repeat' first
   | (with_reducible exact ih0 _ _)
   | (with_reducible exact ih1 _ _)
   | (with_reducible exact ih2 _ _)
   | (with_reducible exact LeO.refl _)
   | (with_reducible exact LeO.none _)
   | (with_reducible refine LeO.ite ?_ ?_)
   | (with_reducible refine LeO.bind ?_ (fun _ => ?_))
   | exact ih0 _ _
   | exact ih1 _ _
   | exact ih2 _ _
   | exact LeO.none _
   | refine LeO.ite ?_ ?_
   | refine LeO.bind ?_ (fun _ => ?_)
  ·intro y0 y1
   unfold tremaref01_row.j2
   repeat' first
   | (with_reducible exact ih0 _ _)
   | (with_reducible exact ih1 _ _)
   | (with_reducible exact ih2 _ _)
   | (with_reducible exact LeO.refl _)
   | (with_reducible exact LeO.none _)
   | (with_reducible refine LeO.ite ?_ ?_)
   | (with_reducible refine LeO.bind ?_ (fun _ => ?_))
   | exact ih0 _ _
   | exact ih1 _ _
   | exact ih2 _ _
   | exact LeO.none _
   | refine LeO.ite ?_ ?_
   | refine LeO.bind ?_ (fun _ => ?_)
theorem tremaref01_row.mono : ∀ a0 k, LeO (tremaref01_row.f k a0) (tremaref01_row.f (k + 1) a0) := by
 intro a0 k
 obtain ⟨ih0, ih1, ih2⟩ := tremaref01_row.mono_l k
 unfold tremaref01_row.f
 repeat' first
   | (with_reducible exact ih0 _ _)
   | (with_reducible exact ih1 _ _)
   | (with_reducible exact ih2 _ _)
   | (with_reducible exact LeO.refl _)
   | (with_reducible exact LeO.none _)
   | (with_reducible refine LeO.ite ?_ ?_)
   | (with_reducible refine LeO.bind ?_ (fun _ => ?_))
   | exact ih0 _ _
   | exact ih1 _ _
   | exact ih2 _ _
   | exact LeO.none _
   | refine LeO.ite ?_ ?_
   | refine LeO.bind ?_ (fun _ => ?_)
set_option maxHeartbeats 8000000 in
set_option maxRecDepth 100000 in
theorem tremaref01_row.calls (k : Nat) (a0 : Int) (r1 : List Int) (r2 : Bool) (w : World) (h : tremaref01_row.f k a0 = some (r1, r2)) :
  Calls Tryd.prog 93 #[.int .u8 a0] w fun e w' => ∃ v0_ : Value, e = .returned (.tuple #[v0_, .bool r2]) ∧ Kd.R (Kd.int .u8) 5 w' w.heap.size (fun _ => True) v0_ r1 ∧ Below w.heap.size w w' := by
 have HB := Aside0.mk (Below.refl w.heap.size w)
 have H : (if a0 ≤ 127 then (some (([] : List Int), true)) else (if a0 ≥ 194 then (tremaref01_row.j0 k a0 (decide (a0 ≤ 223))) else (tremaref01_row.j0 k a0 false))) = some (r1, r2) := h
 clear h
 by_cases c2 : a0 ≤ 127
 ·rw [if_pos c2] at H
  have c2b0 : decide (a0 ≤ 127) = true := decide_eq_true c2
  clear c2
  simp only [Option.some.injEq, Prod.mk.injEq] at H
  obtain ⟨rfl, rfl⟩ := H
  go_enter Tryd.func93, Tryd.ntmps93
  go_wp2
  go_ret2
  exact ⟨_, by first | rfl | (simp [errW_none, errW_some] <;> rfl) | (simp [*, errW_none, errW_some] <;> rfl), by first | exact Kd.R_nil _ _ _ _ _ | exact Kd.N_nil _ _ _ _ _ | exact Kd.V_nil _ _ _ _ _ | exact Kd.Q_nil _ _ _ _ _ | exact Kd.S_nil _ _ _ _ _, by repeat (first | (with_reducible first | exact HB.out | apply below_alloc | apply pw_below_drewN | apply below_drew1) | exact HB.out)⟩
 ·rw [if_neg c2] at H
  have c2b0 : decide (a0 ≤ 127) = false := decide_eq_false c2
  clear c2
  have HC3 := Aside0.mk H
  clear H
  go_enter Tryd.func93, Tryd.ntmps93
  go_upto_region 3 with (fail)
  go_cut [7] (fun v7 wc => ∃ (kq : Nat) (x7_2 : Bool), v7 = .bool x7_2 ∧ Aside0 (tremaref01_row.j0 kq a0 x7_2 = some (r1, r2)) ∧ Aside0 (kq ≤ k) ∧ Aside0 (Below w.heap.size w wc))
  case first =>
   have H := HC3.out
   clear HC3
   by_cases c4 : a0 ≥ 194
   ·rw [if_pos c4] at H
    have c4b0 : decide (194 ≤ a0) = true := decide_eq_true c4
    clear c4
    (first | rw [c4b0] | (simp only [i64_w, i32_w]; rw [c4b0]) | skip)
    have H' := Aside0.mk H
    clear H
    go_wp2
    go_meet
    case rel => exact ⟨_, (decide (a0 ≤ 223)), (by first | rfl | (simp; done) | (simp [*]; done)), H', ⟨by first | omega | exact Nat.le_refl _⟩, ⟨by repeat (first | (with_reducible first | exact HB.out | apply below_alloc | apply pw_below_drewN | apply below_drew1) | exact HB.out)⟩⟩
   ·rw [if_neg c4] at H
    have c4b0 : decide (194 ≤ a0) = false := decide_eq_false c4
    clear c4
    (first | rw [c4b0] | (simp only [i64_w, i32_w]; rw [c4b0]) | skip)
    have H' := Aside0.mk H
    clear H
    go_wp2
    go_meet
    case rel => exact ⟨_, (false), (by first | rfl | (simp; done) | (simp [*]; done)), H', ⟨by first | omega | exact Nat.le_refl _⟩, ⟨by repeat (first | (with_reducible first | exact HB.out | apply below_alloc | apply pw_below_drewN | apply below_drew1) | exact HB.out)⟩⟩
  case rest =>
   clear HC3
   try clear c2
   try clear c2b0
   try clear p2
   try clear c4
   try clear c4b0
   obtain ⟨kq, x7_2, rfl, HA, HJ2, HB⟩ := hcut
   cases kq with
   | zero => exact absurd HA.out (by simp [tremaref01_row.j0])
   | succ kj2 =>
    have H := HA.out
    clear HA
    simp only [tremaref01_row.j0] at H
    by_cases c5 : x7_2 = true
    ·subst c5
     have H1 : (some ((([128, 191] : List Int)), true)) = some (r1, r2) := by rw [if_pos rfl] at H; exact H
     clear H
     have H := H1
     clear H1
     obtain ⟨y234, hy234⟩ : ∃ y_ : List Int, y_ = (([128, 191] : List Int)) := ⟨_, rfl⟩
     replace H : (some (y234, true)) = some (r1, r2) := by first | (rw [hy234]; with_reducible exact H) | (have H2_ := (Option.bind_some _ _).symm.trans H; rw [hy234]; with_reducible exact H2_) | (have H2_ := (Option.bind_some _ _).symm.trans H; with_reducible exact H2_) | with_reducible exact H | (rw [hy234]; exact H) | exact H
     have Ny234 := Aside0.mk hy234
     clear hy234
     simp only [Option.some.injEq, Prod.mk.injEq] at H
     obtain ⟨rfl, rfl⟩ := H
     go_wp2_with (first | ((with_reducible refine gate_dst (N := 14) rfl ?_); refine Kd.R_lit (Kd.int .u8) _ 5 ?hg (N := 14) ?hd (xs := ([128, 191] : List Int)) (inner := [.int .u8 128, .int .u8 191]) (ok := fun _ => True) (okp := fun _ => True) ?hr ?hp (fun _ hk => hk) trivial (Below.refl _ _) (Nat.le_refl _) (by simp) ?_; (case hd => rfl); (case hg => rfl); (case hr => first | (go_simp; done) | (go_simp; rfl)); (case hp => exact (Reps.one (show Kd.M (Kd.int .u8) _ _ _ 128 [.int .u8 128] from rfl) (Reps.one (show Kd.M (Kd.int .u8) _ _ _ 191 [.int .u8 191] from rfl) (Reps.none _ _)))); intro v235 w6 ho7 hb hg_ hnew_; clear hg_ hnew_; (first | rw [← Ny234.out] at ho7 | (simp only [Int.reduceToNat] at ho7; rw [← Ny234.out] at ho7)); have n0_ := Aside0.mk (Kd.R_lower ho7 (below_size (by repeat (first | (with_reducible first | exact HB.out | apply below_alloc | apply pw_below_drewN | apply below_drew1) | exact HB.out)))); have n1_ := Aside0.mk (below_step (by repeat (first | (with_reducible first | exact HB.out | apply below_alloc | apply pw_below_drewN | apply below_drew1) | exact HB.out)) hb); clear HB; have HO236 := n0_; have HB := n1_; clear n0_ n1_; clear hb ho7))
     go_ret2
     exact ⟨_, by first | rfl | (simp [errW_none, errW_some] <;> rfl) | (simp [*, errW_none, errW_some] <;> rfl), by (with_reducible repeat (first | apply Kd.R_alloc | apply Kd.R_drewN | apply Kd.R_drew)); exact HO236.out, by repeat (first | (with_reducible first | exact HB.out | apply below_alloc | apply pw_below_drewN | apply below_drew1) | exact HB.out)⟩
    ·replace c5 := Bool.eq_false_iff.mpr c5
     subst c5
     have H1 : (if a0 = 224 then (some ((([160, 191, 128, 191] : List Int)), true)) else (if a0 = 237 then (some ((([128, 159, 128, 191] : List Int)), true)) else (if a0 ≥ 225 then (tremaref01_row.j1 kj2 a0 (decide (a0 ≤ 239))) else (tremaref01_row.j1 kj2 a0 false)))) = some (r1, r2) := by rw [if_neg (show ¬ (false = true) by decide)] at H; exact H
     clear H
     have H := H1
     clear H1
     by_cases c8 : a0 = 224
     ·rw [if_pos c8] at H
      have c8b0 : (a0 == 224) = true := beq_iff_eq.mpr c8
      have c8b1 : (a0 != 224) = false := bne_eq_false_iff_eq.mpr c8
      clear c8
      obtain ⟨y237, hy237⟩ : ∃ y_ : List Int, y_ = (([160, 191, 128, 191] : List Int)) := ⟨_, rfl⟩
      replace H : (some (y237, true)) = some (r1, r2) := by first | (rw [hy237]; with_reducible exact H) | (have H2_ := (Option.bind_some _ _).symm.trans H; rw [hy237]; with_reducible exact H2_) | (have H2_ := (Option.bind_some _ _).symm.trans H; with_reducible exact H2_) | with_reducible exact H | (rw [hy237]; exact H) | exact H
      have Ny237 := Aside0.mk hy237
      clear hy237
      simp only [Option.some.injEq, Prod.mk.injEq] at H
      obtain ⟨rfl, rfl⟩ := H
      go_wp2_with (first | ((with_reducible refine gate_dst (N := 18) rfl ?_); refine Kd.R_lit (Kd.int .u8) _ 5 ?hg (N := 18) ?hd (xs := ([160, 191, 128, 191] : List Int)) (inner := [.int .u8 160, .int .u8 191, .int .u8 128, .int .u8 191]) (ok := fun _ => True) (okp := fun _ => True) ?hr ?hp (fun _ hk => hk) trivial (Below.refl _ _) (Nat.le_refl _) (by simp) ?_; (case hd => rfl); (case hg => rfl); (case hr => first | (go_simp; done) | (go_simp; rfl)); (case hp => exact (Reps.one (show Kd.M (Kd.int .u8) _ _ _ 160 [.int .u8 160] from rfl) (Reps.one (show Kd.M (Kd.int .u8) _ _ _ 191 [.int .u8 191] from rfl) (Reps.one (show Kd.M (Kd.int .u8) _ _ _ 128 [.int .u8 128] from rfl) (Reps.one (show Kd.M (Kd.int .u8) _ _ _ 191 [.int .u8 191] from rfl) (Reps.none _ _)))))); intro v238 w9 ho10 hb hg_ hnew_; clear hg_ hnew_; (first | rw [← Ny237.out] at ho10 | (simp only [Int.reduceToNat] at ho10; rw [← Ny237.out] at ho10)); have n0_ := Aside0.mk (Kd.R_lower ho10 (below_size (by repeat (first | (with_reducible first | exact HB.out | apply below_alloc | apply pw_below_drewN | apply below_drew1) | exact HB.out)))); have n1_ := Aside0.mk (below_step (by repeat (first | (with_reducible first | exact HB.out | apply below_alloc | apply pw_below_drewN | apply below_drew1) | exact HB.out)) hb); clear HB; have HO239 := n0_; have HB := n1_; clear n0_ n1_; clear hb ho10))
      go_ret2
      exact ⟨_, by first | rfl | (simp [errW_none, errW_some] <;> rfl) | (simp [*, errW_none, errW_some] <;> rfl), by (with_reducible repeat (first | apply Kd.R_alloc | apply Kd.R_drewN | apply Kd.R_drew)); exact HO239.out, by repeat (first | (with_reducible first | exact HB.out | apply below_alloc | apply pw_below_drewN | apply below_drew1) | exact HB.out)⟩
     ·rw [if_neg c8] at H
      have c8b0 : (a0 == 224) = false := beq_eq_false_iff_ne.mpr c8
      have c8b1 : (a0 != 224) = true := bne_iff_ne.mpr c8
      by_cases c11 : a0 = 237
      ·rw [if_pos c11] at H
       have c11b0 : (a0 == 237) = true := beq_iff_eq.mpr c11
       have c11b1 : (a0 != 237) = false := bne_eq_false_iff_eq.mpr c11
       clear c11
       obtain ⟨y240, hy240⟩ : ∃ y_ : List Int, y_ = (([128, 159, 128, 191] : List Int)) := ⟨_, rfl⟩
       replace H : (some (y240, true)) = some (r1, r2) := by first | (rw [hy240]; with_reducible exact H) | (have H2_ := (Option.bind_some _ _).symm.trans H; rw [hy240]; with_reducible exact H2_) | (have H2_ := (Option.bind_some _ _).symm.trans H; with_reducible exact H2_) | with_reducible exact H | (rw [hy240]; exact H) | exact H
       have Ny240 := Aside0.mk hy240
       clear hy240
       simp only [Option.some.injEq, Prod.mk.injEq] at H
       obtain ⟨rfl, rfl⟩ := H
       go_wp2_with (first | ((with_reducible refine gate_dst (N := 22) rfl ?_); refine Kd.R_lit (Kd.int .u8) _ 5 ?hg (N := 22) ?hd (xs := ([128, 159, 128, 191] : List Int)) (inner := [.int .u8 128, .int .u8 159, .int .u8 128, .int .u8 191]) (ok := fun _ => True) (okp := fun _ => True) ?hr ?hp (fun _ hk => hk) trivial (Below.refl _ _) (Nat.le_refl _) (by simp) ?_; (case hd => rfl); (case hg => rfl); (case hr => first | (go_simp; done) | (go_simp; rfl)); (case hp => exact (Reps.one (show Kd.M (Kd.int .u8) _ _ _ 128 [.int .u8 128] from rfl) (Reps.one (show Kd.M (Kd.int .u8) _ _ _ 159 [.int .u8 159] from rfl) (Reps.one (show Kd.M (Kd.int .u8) _ _ _ 128 [.int .u8 128] from rfl) (Reps.one (show Kd.M (Kd.int .u8) _ _ _ 191 [.int .u8 191] from rfl) (Reps.none _ _)))))); intro v241 w12 ho13 hb hg_ hnew_; clear hg_ hnew_; (first | rw [← Ny240.out] at ho13 | (simp only [Int.reduceToNat] at ho13; rw [← Ny240.out] at ho13)); have n0_ := Aside0.mk (Kd.R_lower ho13 (below_size (by repeat (first | (with_reducible first | exact HB.out | apply below_alloc | apply pw_below_drewN | apply below_drew1) | exact HB.out)))); have n1_ := Aside0.mk (below_step (by repeat (first | (with_reducible first | exact HB.out | apply below_alloc | apply pw_below_drewN | apply below_drew1) | exact HB.out)) hb); clear HB; have HO242 := n0_; have HB := n1_; clear n0_ n1_; clear hb ho13))
       go_ret2
       exact ⟨_, by first | rfl | (simp [errW_none, errW_some] <;> rfl) | (simp [*, errW_none, errW_some] <;> rfl), by (with_reducible repeat (first | apply Kd.R_alloc | apply Kd.R_drewN | apply Kd.R_drew)); exact HO242.out, by repeat (first | (with_reducible first | exact HB.out | apply below_alloc | apply pw_below_drewN | apply below_drew1) | exact HB.out)⟩
      ·rw [if_neg c11] at H
       have c11b0 : (a0 == 237) = false := beq_eq_false_iff_ne.mpr c11
       have c11b1 : (a0 != 237) = true := bne_iff_ne.mpr c11
       have HC14 := Aside0.mk H
       clear H
       go_upto_region 9 with (fail)
       go_cut [23] (fun v23 wc => ∃ (kq : Nat) (x23_13 : Bool), v23 = .bool x23_13 ∧ Aside0 (tremaref01_row.j1 kq a0 x23_13 = some (r1, r2)) ∧ Aside0 (kq ≤ kj2) ∧ Aside0 (Below w.heap.size w wc))
       case first =>
        have H := HC14.out
        clear HC14
        by_cases c15 : a0 ≥ 225
        ·rw [if_pos c15] at H
         have c15b0 : decide (225 ≤ a0) = true := decide_eq_true c15
         clear c15
         (first | rw [c15b0] | (simp only [i64_w, i32_w]; rw [c15b0]) | skip)
         have H' := Aside0.mk H
         clear H
         go_wp2
         go_meet
         case rel => exact ⟨_, (decide (a0 ≤ 239)), (by first | rfl | (simp; done) | (simp [*]; done)), H', ⟨by have := HJ2.out; first | omega | exact Nat.le_refl _⟩, ⟨by repeat (first | (with_reducible first | exact HB.out | apply below_alloc | apply pw_below_drewN | apply below_drew1) | exact HB.out)⟩⟩
        ·rw [if_neg c15] at H
         have c15b0 : decide (225 ≤ a0) = false := decide_eq_false c15
         clear c15
         (first | rw [c15b0] | (simp only [i64_w, i32_w]; rw [c15b0]) | skip)
         have H' := Aside0.mk H
         clear H
         go_wp2
         go_meet
         case rel => exact ⟨_, (false), (by first | rfl | (simp; done) | (simp [*]; done)), H', ⟨by have := HJ2.out; first | omega | exact Nat.le_refl _⟩, ⟨by repeat (first | (with_reducible first | exact HB.out | apply below_alloc | apply pw_below_drewN | apply below_drew1) | exact HB.out)⟩⟩
       case rest =>
        clear HC14
        try clear c1
        try clear c2
        try clear c2b0
        try clear p2
        try clear c4
        try clear c4b0
        try clear c5
        try clear c8
        try clear c8b0
        try clear c8b1
        try clear c9
        try clear c11
        try clear c11b0
        try clear c11b1
        try clear c15
        try clear c15b0
        try clear p2
        obtain ⟨kq, x23_13, rfl, HA, HJ13, HB⟩ := hcut
        cases kq with
        | zero => exact absurd HA.out (by simp [tremaref01_row.j1])
        | succ kj13 =>
         have H := HA.out
         clear HA
         simp only [tremaref01_row.j1] at H
         by_cases c16 : x23_13 = true
         ·subst c16
          have H1 : (some ((([128, 191, 128, 191] : List Int)), true)) = some (r1, r2) := by rw [if_pos rfl] at H; exact H
          clear H
          have H := H1
          clear H1
          obtain ⟨y243, hy243⟩ : ∃ y_ : List Int, y_ = (([128, 191, 128, 191] : List Int)) := ⟨_, rfl⟩
          replace H : (some (y243, true)) = some (r1, r2) := by first | (rw [hy243]; with_reducible exact H) | (have H2_ := (Option.bind_some _ _).symm.trans H; rw [hy243]; with_reducible exact H2_) | (have H2_ := (Option.bind_some _ _).symm.trans H; with_reducible exact H2_) | with_reducible exact H | (rw [hy243]; exact H) | exact H
          have Ny243 := Aside0.mk hy243
          clear hy243
          simp only [Option.some.injEq, Prod.mk.injEq] at H
          obtain ⟨rfl, rfl⟩ := H
          go_wp2_with (first | ((with_reducible refine gate_dst (N := 30) rfl ?_); refine Kd.R_lit (Kd.int .u8) _ 5 ?hg (N := 30) ?hd (xs := ([128, 191, 128, 191] : List Int)) (inner := [.int .u8 128, .int .u8 191, .int .u8 128, .int .u8 191]) (ok := fun _ => True) (okp := fun _ => True) ?hr ?hp (fun _ hk => hk) trivial (Below.refl _ _) (Nat.le_refl _) (by simp) ?_; (case hd => rfl); (case hg => rfl); (case hr => first | (go_simp; done) | (go_simp; rfl)); (case hp => exact (Reps.one (show Kd.M (Kd.int .u8) _ _ _ 128 [.int .u8 128] from rfl) (Reps.one (show Kd.M (Kd.int .u8) _ _ _ 191 [.int .u8 191] from rfl) (Reps.one (show Kd.M (Kd.int .u8) _ _ _ 128 [.int .u8 128] from rfl) (Reps.one (show Kd.M (Kd.int .u8) _ _ _ 191 [.int .u8 191] from rfl) (Reps.none _ _)))))); intro v244 w17 ho18 hb hg_ hnew_; clear hg_ hnew_; (first | rw [← Ny243.out] at ho18 | (simp only [Int.reduceToNat] at ho18; rw [← Ny243.out] at ho18)); have n0_ := Aside0.mk (Kd.R_lower ho18 (below_size (by repeat (first | (with_reducible first | exact HB.out | apply below_alloc | apply pw_below_drewN | apply below_drew1) | exact HB.out)))); have n1_ := Aside0.mk (below_step (by repeat (first | (with_reducible first | exact HB.out | apply below_alloc | apply pw_below_drewN | apply below_drew1) | exact HB.out)) hb); clear HB; have HO245 := n0_; have HB := n1_; clear n0_ n1_; clear hb ho18))
          go_ret2
          exact ⟨_, by first | rfl | (simp [errW_none, errW_some] <;> rfl) | (simp [*, errW_none, errW_some] <;> rfl), by (with_reducible repeat (first | apply Kd.R_alloc | apply Kd.R_drewN | apply Kd.R_drew)); exact HO245.out, by repeat (first | (with_reducible first | exact HB.out | apply below_alloc | apply pw_below_drewN | apply below_drew1) | exact HB.out)⟩
         ·replace c16 := Bool.eq_false_iff.mpr c16
          subst c16
          have H1 : (if a0 = 240 then (some ((([144, 191, 128, 191, 128, 191] : List Int)), true)) else (if a0 ≥ 241 then (tremaref01_row.j2 kj13 a0 (decide (a0 ≤ 243))) else (tremaref01_row.j2 kj13 a0 false))) = some (r1, r2) := by rw [if_neg (show ¬ (false = true) by decide)] at H; exact H
          clear H
          have H := H1
          clear H1
          by_cases c19 : a0 = 240
          ·rw [if_pos c19] at H
           have c19b0 : (a0 == 240) = true := beq_iff_eq.mpr c19
           have c19b1 : (a0 != 240) = false := bne_eq_false_iff_eq.mpr c19
           clear c19
           obtain ⟨y246, hy246⟩ : ∃ y_ : List Int, y_ = (([144, 191, 128, 191, 128, 191] : List Int)) := ⟨_, rfl⟩
           replace H : (some (y246, true)) = some (r1, r2) := by first | (rw [hy246]; with_reducible exact H) | (have H2_ := (Option.bind_some _ _).symm.trans H; rw [hy246]; with_reducible exact H2_) | (have H2_ := (Option.bind_some _ _).symm.trans H; with_reducible exact H2_) | with_reducible exact H | (rw [hy246]; exact H) | exact H
           have Ny246 := Aside0.mk hy246
           clear hy246
           simp only [Option.some.injEq, Prod.mk.injEq] at H
           obtain ⟨rfl, rfl⟩ := H
           go_wp2_with (first | ((with_reducible refine gate_dst (N := 34) rfl ?_); refine Kd.R_lit (Kd.int .u8) _ 5 ?hg (N := 34) ?hd (xs := ([144, 191, 128, 191, 128, 191] : List Int)) (inner := [.int .u8 144, .int .u8 191, .int .u8 128, .int .u8 191, .int .u8 128, .int .u8 191]) (ok := fun _ => True) (okp := fun _ => True) ?hr ?hp (fun _ hk => hk) trivial (Below.refl _ _) (Nat.le_refl _) (by simp) ?_; (case hd => rfl); (case hg => rfl); (case hr => first | (go_simp; done) | (go_simp; rfl)); (case hp => exact (Reps.one (show Kd.M (Kd.int .u8) _ _ _ 144 [.int .u8 144] from rfl) (Reps.one (show Kd.M (Kd.int .u8) _ _ _ 191 [.int .u8 191] from rfl) (Reps.one (show Kd.M (Kd.int .u8) _ _ _ 128 [.int .u8 128] from rfl) (Reps.one (show Kd.M (Kd.int .u8) _ _ _ 191 [.int .u8 191] from rfl) (Reps.one (show Kd.M (Kd.int .u8) _ _ _ 128 [.int .u8 128] from rfl) (Reps.one (show Kd.M (Kd.int .u8) _ _ _ 191 [.int .u8 191] from rfl) (Reps.none _ _)))))))); intro v247 w20 ho21 hb hg_ hnew_; clear hg_ hnew_; (first | rw [← Ny246.out] at ho21 | (simp only [Int.reduceToNat] at ho21; rw [← Ny246.out] at ho21)); have n0_ := Aside0.mk (Kd.R_lower ho21 (below_size (by repeat (first | (with_reducible first | exact HB.out | apply below_alloc | apply pw_below_drewN | apply below_drew1) | exact HB.out)))); have n1_ := Aside0.mk (below_step (by repeat (first | (with_reducible first | exact HB.out | apply below_alloc | apply pw_below_drewN | apply below_drew1) | exact HB.out)) hb); clear HB; have HO248 := n0_; have HB := n1_; clear n0_ n1_; clear hb ho21))
           go_ret2
           exact ⟨_, by first | rfl | (simp [errW_none, errW_some] <;> rfl) | (simp [*, errW_none, errW_some] <;> rfl), by (with_reducible repeat (first | apply Kd.R_alloc | apply Kd.R_drewN | apply Kd.R_drew)); exact HO248.out, by repeat (first | (with_reducible first | exact HB.out | apply below_alloc | apply pw_below_drewN | apply below_drew1) | exact HB.out)⟩
          ·rw [if_neg c19] at H
           have c19b0 : (a0 == 240) = false := beq_eq_false_iff_ne.mpr c19
           have c19b1 : (a0 != 240) = true := bne_iff_ne.mpr c19
           have HC22 := Aside0.mk H
           clear H
           go_upto_region 13 with (fail)
           go_cut [35] (fun v35 wc => ∃ (kq : Nat) (x35_21 : Bool), v35 = .bool x35_21 ∧ Aside0 (tremaref01_row.j2 kq a0 x35_21 = some (r1, r2)) ∧ Aside0 (kq ≤ kj13) ∧ Aside0 (Below w.heap.size w wc))
           case first =>
            have H := HC22.out
            clear HC22
            by_cases c23 : a0 ≥ 241
            ·rw [if_pos c23] at H
             have c23b0 : decide (241 ≤ a0) = true := decide_eq_true c23
             clear c23
             (first | rw [c23b0] | (simp only [i64_w, i32_w]; rw [c23b0]) | skip)
             have H' := Aside0.mk H
             clear H
             go_wp2
             go_meet
             case rel => exact ⟨_, (decide (a0 ≤ 243)), (by first | rfl | (simp; done) | (simp [*]; done)), H', ⟨by have := HJ2.out; have := HJ13.out; first | omega | exact Nat.le_refl _⟩, ⟨by repeat (first | (with_reducible first | exact HB.out | apply below_alloc | apply pw_below_drewN | apply below_drew1) | exact HB.out)⟩⟩
            ·rw [if_neg c23] at H
             have c23b0 : decide (241 ≤ a0) = false := decide_eq_false c23
             clear c23
             (first | rw [c23b0] | (simp only [i64_w, i32_w]; rw [c23b0]) | skip)
             have H' := Aside0.mk H
             clear H
             go_wp2
             go_meet
             case rel => exact ⟨_, (false), (by first | rfl | (simp; done) | (simp [*]; done)), H', ⟨by have := HJ2.out; have := HJ13.out; first | omega | exact Nat.le_refl _⟩, ⟨by repeat (first | (with_reducible first | exact HB.out | apply below_alloc | apply pw_below_drewN | apply below_drew1) | exact HB.out)⟩⟩
           case rest =>
            clear HC22
            try clear c1
            try clear c2
            try clear c2b0
            try clear p2
            try clear c4
            try clear c4b0
            try clear c5
            try clear c8
            try clear c8b0
            try clear c8b1
            try clear c9
            try clear c11
            try clear c11b0
            try clear c11b1
            try clear c15
            try clear c15b0
            try clear c16
            try clear c19
            try clear c19b0
            try clear c19b1
            try clear c23
            try clear c23b0
            try clear p2
            obtain ⟨kq, x35_21, rfl, HA, HJ21, HB⟩ := hcut
            cases kq with
            | zero => exact absurd HA.out (by simp [tremaref01_row.j2])
            | succ kj21 =>
             have H := HA.out
             clear HA
             simp only [tremaref01_row.j2] at H
             by_cases c24 : x35_21 = true
             ·subst c24
              have H1 : (some ((([128, 191, 128, 191, 128, 191] : List Int)), true)) = some (r1, r2) := by rw [if_pos rfl] at H; exact H
              clear H
              have H := H1
              clear H1
              obtain ⟨y249, hy249⟩ : ∃ y_ : List Int, y_ = (([128, 191, 128, 191, 128, 191] : List Int)) := ⟨_, rfl⟩
              replace H : (some (y249, true)) = some (r1, r2) := by first | (rw [hy249]; with_reducible exact H) | (have H2_ := (Option.bind_some _ _).symm.trans H; rw [hy249]; with_reducible exact H2_) | (have H2_ := (Option.bind_some _ _).symm.trans H; with_reducible exact H2_) | with_reducible exact H | (rw [hy249]; exact H) | exact H
              have Ny249 := Aside0.mk hy249
              clear hy249
              simp only [Option.some.injEq, Prod.mk.injEq] at H
              obtain ⟨rfl, rfl⟩ := H
              go_wp2_with (first | ((with_reducible refine gate_dst (N := 42) rfl ?_); refine Kd.R_lit (Kd.int .u8) _ 5 ?hg (N := 42) ?hd (xs := ([128, 191, 128, 191, 128, 191] : List Int)) (inner := [.int .u8 128, .int .u8 191, .int .u8 128, .int .u8 191, .int .u8 128, .int .u8 191]) (ok := fun _ => True) (okp := fun _ => True) ?hr ?hp (fun _ hk => hk) trivial (Below.refl _ _) (Nat.le_refl _) (by simp) ?_; (case hd => rfl); (case hg => rfl); (case hr => first | (go_simp; done) | (go_simp; rfl)); (case hp => exact (Reps.one (show Kd.M (Kd.int .u8) _ _ _ 128 [.int .u8 128] from rfl) (Reps.one (show Kd.M (Kd.int .u8) _ _ _ 191 [.int .u8 191] from rfl) (Reps.one (show Kd.M (Kd.int .u8) _ _ _ 128 [.int .u8 128] from rfl) (Reps.one (show Kd.M (Kd.int .u8) _ _ _ 191 [.int .u8 191] from rfl) (Reps.one (show Kd.M (Kd.int .u8) _ _ _ 128 [.int .u8 128] from rfl) (Reps.one (show Kd.M (Kd.int .u8) _ _ _ 191 [.int .u8 191] from rfl) (Reps.none _ _)))))))); intro v250 w25 ho26 hb hg_ hnew_; clear hg_ hnew_; (first | rw [← Ny249.out] at ho26 | (simp only [Int.reduceToNat] at ho26; rw [← Ny249.out] at ho26)); have n0_ := Aside0.mk (Kd.R_lower ho26 (below_size (by repeat (first | (with_reducible first | exact HB.out | apply below_alloc | apply pw_below_drewN | apply below_drew1) | exact HB.out)))); have n1_ := Aside0.mk (below_step (by repeat (first | (with_reducible first | exact HB.out | apply below_alloc | apply pw_below_drewN | apply below_drew1) | exact HB.out)) hb); clear HB; have HO251 := n0_; have HB := n1_; clear n0_ n1_; clear hb ho26))
              go_ret2
              exact ⟨_, by first | rfl | (simp [errW_none, errW_some] <;> rfl) | (simp [*, errW_none, errW_some] <;> rfl), by (with_reducible repeat (first | apply Kd.R_alloc | apply Kd.R_drewN | apply Kd.R_drew)); exact HO251.out, by repeat (first | (with_reducible first | exact HB.out | apply below_alloc | apply pw_below_drewN | apply below_drew1) | exact HB.out)⟩
             ·replace c24 := Bool.eq_false_iff.mpr c24
              subst c24
              have H1 : (if a0 = 244 then (some ((([128, 143, 128, 191, 128, 191] : List Int)), true)) else (some (([] : List Int), false))) = some (r1, r2) := by rw [if_neg (show ¬ (false = true) by decide)] at H; exact H
              clear H
              have H := H1
              clear H1
              by_cases c27 : a0 = 244
              ·rw [if_pos c27] at H
               have c27b0 : (a0 == 244) = true := beq_iff_eq.mpr c27
               have c27b1 : (a0 != 244) = false := bne_eq_false_iff_eq.mpr c27
               clear c27
               obtain ⟨y252, hy252⟩ : ∃ y_ : List Int, y_ = (([128, 143, 128, 191, 128, 191] : List Int)) := ⟨_, rfl⟩
               replace H : (some (y252, true)) = some (r1, r2) := by first | (rw [hy252]; with_reducible exact H) | (have H2_ := (Option.bind_some _ _).symm.trans H; rw [hy252]; with_reducible exact H2_) | (have H2_ := (Option.bind_some _ _).symm.trans H; with_reducible exact H2_) | with_reducible exact H | (rw [hy252]; exact H) | exact H
               have Ny252 := Aside0.mk hy252
               clear hy252
               simp only [Option.some.injEq, Prod.mk.injEq] at H
               obtain ⟨rfl, rfl⟩ := H
               go_wp2_with (first | ((with_reducible refine gate_dst (N := 46) rfl ?_); refine Kd.R_lit (Kd.int .u8) _ 5 ?hg (N := 46) ?hd (xs := ([128, 143, 128, 191, 128, 191] : List Int)) (inner := [.int .u8 128, .int .u8 143, .int .u8 128, .int .u8 191, .int .u8 128, .int .u8 191]) (ok := fun _ => True) (okp := fun _ => True) ?hr ?hp (fun _ hk => hk) trivial (Below.refl _ _) (Nat.le_refl _) (by simp) ?_; (case hd => rfl); (case hg => rfl); (case hr => first | (go_simp; done) | (go_simp; rfl)); (case hp => exact (Reps.one (show Kd.M (Kd.int .u8) _ _ _ 128 [.int .u8 128] from rfl) (Reps.one (show Kd.M (Kd.int .u8) _ _ _ 143 [.int .u8 143] from rfl) (Reps.one (show Kd.M (Kd.int .u8) _ _ _ 128 [.int .u8 128] from rfl) (Reps.one (show Kd.M (Kd.int .u8) _ _ _ 191 [.int .u8 191] from rfl) (Reps.one (show Kd.M (Kd.int .u8) _ _ _ 128 [.int .u8 128] from rfl) (Reps.one (show Kd.M (Kd.int .u8) _ _ _ 191 [.int .u8 191] from rfl) (Reps.none _ _)))))))); intro v253 w28 ho29 hb hg_ hnew_; clear hg_ hnew_; (first | rw [← Ny252.out] at ho29 | (simp only [Int.reduceToNat] at ho29; rw [← Ny252.out] at ho29)); have n0_ := Aside0.mk (Kd.R_lower ho29 (below_size (by repeat (first | (with_reducible first | exact HB.out | apply below_alloc | apply pw_below_drewN | apply below_drew1) | exact HB.out)))); have n1_ := Aside0.mk (below_step (by repeat (first | (with_reducible first | exact HB.out | apply below_alloc | apply pw_below_drewN | apply below_drew1) | exact HB.out)) hb); clear HB; have HO254 := n0_; have HB := n1_; clear n0_ n1_; clear hb ho29))
               go_ret2
               exact ⟨_, by first | rfl | (simp [errW_none, errW_some] <;> rfl) | (simp [*, errW_none, errW_some] <;> rfl), by (with_reducible repeat (first | apply Kd.R_alloc | apply Kd.R_drewN | apply Kd.R_drew)); exact HO254.out, by repeat (first | (with_reducible first | exact HB.out | apply below_alloc | apply pw_below_drewN | apply below_drew1) | exact HB.out)⟩
              ·rw [if_neg c27] at H
               have c27b0 : (a0 == 244) = false := beq_eq_false_iff_ne.mpr c27
               have c27b1 : (a0 != 244) = true := bne_iff_ne.mpr c27
               simp only [Option.some.injEq, Prod.mk.injEq] at H
               obtain ⟨rfl, rfl⟩ := H
               go_wp2
               go_ret2
               exact ⟨_, by first | rfl | (simp [errW_none, errW_some] <;> rfl) | (simp [*, errW_none, errW_some] <;> rfl), by first | exact Kd.R_nil _ _ _ _ _ | exact Kd.N_nil _ _ _ _ _ | exact Kd.V_nil _ _ _ _ _ | exact Kd.Q_nil _ _ _ _ _ | exact Kd.S_nil _ _ _ _ _, by repeat (first | (with_reducible first | exact HB.out | apply below_alloc | apply pw_below_drewN | apply below_drew1) | exact HB.out)⟩
end Go.Proofs.YtiggjbclbdikmaaDoor.X
namespace Go.Proofs.YtiggjbclbdikmaaDoor.X
open Go.RowKit Go.Proofs.YtiggjbclbdikmaaDoorW.PrintWords Go.Proofs.YtiggjbclbdikmaaDoorW.PrintLast Go.Proofs.YtiggjbclbdikmaaDoorW.PrintMore
attribute [local go_sem] max2_int min2_int max_two min_two max_three min_three max_four min_four   
set_option linter.unusedVariables false
set_option linter.unusedSimpArgs false
mutual
def tremaref01_At.j1 : Nat → List Int → Int → List Int → Int → Option (Int × Int × Bool)
 | 0, _, _, _, _ => none
 | k + 1, x0, x1, x7, x9 => if x9 ≤ (wrap64 ((x7.length : Int) / 2)) then (some (65533, x9, ((wrap64 (x1 + x9)) == (x0.length : Int)))) else (if x9 = 1 then (if 0 ≤ x1 then (if x1 < (x0.length : Int) then (some (wrap32 (rd x0 x1), 1, false)) else (none)) else (none)) else (if 0 ≤ x1 then (if x1 < (x0.length : Int) then (if 0 ≤ (wrap64 (7 - x9)) then (if (shl .i32 1 (wrap64 (7 - x9))) = 0 then (none) else (tremaref01_At.l1 k x0 x1 x9 (Int.tmod (wrap32 (rd x0 x1)) (shl .i32 1 (wrap64 (7 - x9)))) 1)) else (none)) else (none)) else (none)))
def tremaref01_At.l1 : Nat → List Int → Int → Int → Int → Int → Option (Int × Int × Bool)
 | 0, _, _, _, _, _ => none
 | k + 1, x0, x1, x9, x10, x11 => if x11 < x9 then (if 0 ≤ (wrap64 (x1 + x11)) then (if (wrap64 (x1 + x11)) < (x0.length : Int) then (tremaref01_At.l1 k x0 x1 x9 (wrap32 ((wrap32 (x10 * 64)) + (Int.tmod (wrap32 (rd x0 (wrap64 (x1 + x11)))) 64))) (wrap64 (x11 + 1))) else (none)) else (none)) else (some (x10, x9, false))
def tremaref01_At.l0 : Nat → List Int → Int → List Int → Int → Option (Int × Int × Bool)
 | 0, _, _, _, _ => none
 | k + 1, x0, x1, x7, x9 => if x9 ≤ (wrap64 ((x7.length : Int) / 2)) then (if (wrap64 (x1 + x9)) < (x0.length : Int) then (if 0 ≤ (wrap64 (x1 + x9)) then (if 0 ≤ (wrap64 ((wrap64 (2 * x9)) - 2)) then (if (wrap64 ((wrap64 (2 * x9)) - 2)) < (x7.length : Int) then (if (rd x0 (wrap64 (x1 + x9))) ≥ (rd x7 (wrap64 ((wrap64 (2 * x9)) - 2))) then (if 0 ≤ (wrap64 ((wrap64 (2 * x9)) - 1)) then (if (wrap64 ((wrap64 (2 * x9)) - 1)) < (x7.length : Int) then (if (rd x0 (wrap64 (x1 + x9))) ≤ (rd x7 (wrap64 ((wrap64 (2 * x9)) - 1))) then (tremaref01_At.l0 k x0 x1 x7 (wrap64 (x9 + 1))) else (tremaref01_At.j1 k x0 x1 x7 x9)) else (none)) else (none)) else (tremaref01_At.j1 k x0 x1 x7 x9)) else (none)) else (none)) else (none)) else (tremaref01_At.j1 k x0 x1 x7 x9)) else (tremaref01_At.j1 k x0 x1 x7 x9)
end
def tremaref01_At.f (k : Nat) (l0 : List Int) (a1 : Int) : Option (Int × Int × Bool) := if 0 ≤ a1 then (if a1 < (l0.length : Int) then ((tremaref01_row.f k (rd l0 a1)).bind fun bt256 => (if bt256.2 = true then (tremaref01_At.l0 k l0 a1 bt256.1 1) else (some (65533, 1, false)))) else (none)) else (none)
theorem tremaref01_At.mono_l : ∀ k, (∀ y0 y1 y2 y3, LeO (tremaref01_At.j1 k y0 y1 y2 y3) (tremaref01_At.j1 (k + 1) y0 y1 y2 y3)) ∧ (∀ y0 y1 y2 y3 y4, LeO (tremaref01_At.l1 k y0 y1 y2 y3 y4) (tremaref01_At.l1 (k + 1) y0 y1 y2 y3 y4)) ∧ (∀ y0 y1 y2 y3, LeO (tremaref01_At.l0 k y0 y1 y2 y3) (tremaref01_At.l0 (k + 1) y0 y1 y2 y3))
 | 0 => ⟨fun _ _ _ _ r h => by simp [tremaref01_At.j1] at h, fun _ _ _ _ _ r h => by simp [tremaref01_At.l1] at h, fun _ _ _ _ r h => by simp [tremaref01_At.l0] at h⟩
 | k + 1 => by
  obtain ⟨ih0, ih1, ih2⟩ := tremaref01_At.mono_l k
  refine ⟨?_, ?_, ?_⟩
  ·intro y0 y1 y2 y3
   unfold tremaref01_At.j1
   repeat' first
   | (with_reducible exact ih0 _ _ _ _)
   | (with_reducible exact ih1 _ _ _ _ _)
   | (with_reducible exact ih2 _ _ _ _)
   | (with_reducible exact tremaref01_row.mono _ _)
   | (with_reducible exact LeO.refl _)
   | (with_reducible exact LeO.none _)
   | (with_reducible refine LeO.ite ?_ ?_)
   | (with_reducible refine LeO.bind ?_ (fun _ => ?_))
   | exact ih0 _ _ _ _
   | exact ih1 _ _ _ _ _
   | exact ih2 _ _ _ _
   | exact tremaref01_row.mono _ _
   | exact LeO.none _
   | refine LeO.ite ?_ ?_
   | refine LeO.bind ?_ (fun _ => ?_)
  ·intro y0 y1 y2 y3 y4
   unfold tremaref01_At.l1
   repeat' first
   | (with_reducible exact ih0 _ _ _ _)
   | (with_reducible exact ih1 _ _ _ _ _)
   | (with_reducible exact ih2 _ _ _ _)
   | (with_reducible exact tremaref01_row.mono _ _)
   | (with_reducible exact LeO.refl _)
   | (with_reducible exact LeO.none _)
   | (with_reducible refine LeO.ite ?_ ?_)
   | (with_reducible refine LeO.bind ?_ (fun _ => ?_))
   | exact ih0 _ _ _ _
   | exact ih1 _ _ _ _ _
   | exact ih2 _ _ _ _
   | exact tremaref01_row.mono _ _
   | exact LeO.none _
   | refine LeO.ite ?_ ?_
   | refine LeO.bind ?_ (fun _ => ?_)
  ·intro y0 y1 y2 y3
   unfold tremaref01_At.l0
   repeat' first
   | (with_reducible exact ih0 _ _ _ _)
   | (with_reducible exact ih1 _ _ _ _ _)
   | (with_reducible exact ih2 _ _ _ _)
   | (with_reducible exact tremaref01_row.mono _ _)
   | (with_reducible exact LeO.refl _)
   | (with_reducible exact LeO.none _)
   | (with_reducible refine LeO.ite ?_ ?_)
   | (with_reducible refine LeO.bind ?_ (fun _ => ?_))
   | exact ih0 _ _ _ _
   | exact ih1 _ _ _ _ _
   | exact ih2 _ _ _ _
   | exact tremaref01_row.mono _ _
   | exact LeO.none _
   | refine LeO.ite ?_ ?_
   | refine LeO.bind ?_ (fun _ => ?_)
theorem tremaref01_At.mono : ∀ a0 a1 k, LeO (tremaref01_At.f k a0 a1) (tremaref01_At.f (k + 1) a0 a1) := by
 intro a0 a1 k
 obtain ⟨ih0, ih1, ih2⟩ := tremaref01_At.mono_l k
 unfold tremaref01_At.f
 repeat' first
   | (with_reducible exact ih0 _ _ _ _)
   | (with_reducible exact ih1 _ _ _ _ _)
   | (with_reducible exact ih2 _ _ _ _)
   | (with_reducible exact tremaref01_row.mono _ _)
   | (with_reducible exact LeO.refl _)
   | (with_reducible exact LeO.none _)
   | (with_reducible refine LeO.ite ?_ ?_)
   | (with_reducible refine LeO.bind ?_ (fun _ => ?_))
   | exact ih0 _ _ _ _
   | exact ih1 _ _ _ _ _
   | exact ih2 _ _ _ _
   | exact tremaref01_row.mono _ _
   | exact LeO.none _
   | refine LeO.ite ?_ ?_
   | refine LeO.bind ?_ (fun _ => ?_)
set_option maxHeartbeats 8000000 in
set_option maxRecDepth 100000 in
theorem tremaref01_At.calls (k : Nat) (A0 : Option Addr) (c0 : Nat) (l0 : List Int) (a1 : Int) (r1 : Int) (r2 : Int) (r3 : Bool) (w : World) (hr0 : Kd.C (Kd.int .u8) w A0 l0.length l0) (hc0 : l0.length ≤ c0) (h : tremaref01_At.f k l0 a1 = some (r1, r2, r3)) :
  Calls Tryd.prog 81 #[.slice A0 l0.length c0, .int .i64 a1] w fun e w' => e = .returned (.tuple #[.int .i32 r1, .int .i64 r2, .bool r3]) ∧ Below w.heap.size w w' := by
 have HR0 := Aside0.mk hr0
 have HC0 := Aside0.mk hc0
 clear hr0 hc0
 have HB := Aside0.mk (Below.refl w.heap.size w)
 have H : (if 0 ≤ a1 then (if a1 < (l0.length : Int) then ((tremaref01_row.f k (rd l0 a1)).bind fun bt256 => (if bt256.2 = true then (tremaref01_At.l0 k l0 a1 bt256.1 1) else (some (65533, 1, false)))) else (none)) else (none)) = some (r1, r2, r3) := h
 clear h
 by_cases c3 : 0 ≤ a1
 ·rw [if_pos c3] at H
  have c3b0 : decide (0 ≤ a1) = true := decide_eq_true c3
  clear c3
  by_cases c4 : a1 < (l0.length : Int)
  ·rw [if_pos c4] at H
   have c4b0 : decide (a1 < (l0.length : Int)) = true := decide_eq_true c4
   clear c4
   replace H := Option.bind_eq_some_iff.mp H
   obtain ⟨⟨t256, t257⟩, A50, H⟩ := H
   replace H : (if t257 = true then (tremaref01_At.l0 k l0 a1 t256 1) else (some (65533, 1, false))) = some (r1, r2, r3) := H
   have A5 := Aside0.mk A50
   clear A50
   by_cases c6 : t257 = true
   ·subst c6
    have H1 : (tremaref01_At.l0 k l0 a1 t256 1) = some (r1, r2, r3) := by rw [if_pos rfl] at H; exact H
    clear H
    have H := H1
    clear H1
    have HC7 := Aside0.mk H
    clear H
    have p255 : 0 ≤ (a1 : Int) := of_decide_eq_true (by first | (with_reducible assumption) | assumption)
    have q255 : a1 < (l0.length : Int) := of_decide_eq_true (by first | (with_reducible assumption) | assumption)
    obtain ⟨ad255, e255, hx255_0⟩ := Kd.at_int HR0.out a1 p255 q255
    cases e255
    replace p255 := eq_true p255
    replace q255 := eq_true q255
    go_enter Tryd.func81, Tryd.ntmps81
    go_upto_block 0 with (first | (go_at_call 93; (with_reducible refine (tremaref01_row.calls k (rd l0 a1) t256 true _ A5.out).mono ?_); rintro e w8 ⟨v258, rfl, ho0, hb⟩; have n0_ := Aside0.mk (Kd.R_lower ho0 (below_size (by repeat (first | (with_reducible first | exact HB.out | apply below_alloc | apply pw_below_drewN | apply below_drew1) | exact HB.out)))); have n1_ := Aside0.mk (below_step (by repeat (first | (with_reducible first | exact HB.out | apply below_alloc | apply pw_below_drewN | apply below_drew1) | exact HB.out)) hb); clear HB; have HO259 := n0_; have HB := n1_; clear n0_ n1_; (try clear hb); (try clear hb2); (try clear hk); (try clear hi); (try clear ho0)))
    repeat (go_quiet (first | (go_at_call 93; (with_reducible refine (tremaref01_row.calls k (rd l0 a1) t256 true _ A5.out).mono ?_); rintro e w8 ⟨v258, rfl, ho0, hb⟩; have n0_ := Aside0.mk (Kd.R_lower ho0 (below_size (by repeat (first | (with_reducible first | exact HB.out | apply below_alloc | apply pw_below_drewN | apply below_drew1) | exact HB.out)))); have n1_ := Aside0.mk (below_step (by repeat (first | (with_reducible first | exact HB.out | apply below_alloc | apply pw_below_drewN | apply below_drew1) | exact HB.out)) hb); clear HB; have HO259 := n0_; have HB := n1_; clear n0_ n1_; (try clear hb); (try clear hb2); (try clear hk); (try clear hi); (try clear ho0))); go_upto_block 0 with (first | (go_at_call 93; (with_reducible refine (tremaref01_row.calls k (rd l0 a1) t256 true _ A5.out).mono ?_); rintro e w8 ⟨v258, rfl, ho0, hb⟩; have n0_ := Aside0.mk (Kd.R_lower ho0 (below_size (by repeat (first | (with_reducible first | exact HB.out | apply below_alloc | apply pw_below_drewN | apply below_drew1) | exact HB.out)))); have n1_ := Aside0.mk (below_step (by repeat (first | (with_reducible first | exact HB.out | apply below_alloc | apply pw_below_drewN | apply below_drew1) | exact HB.out)) hb); clear HB; have HO259 := n0_; have HB := n1_; clear n0_ n1_; (try clear hb); (try clear hb2); (try clear hk); (try clear hi); (try clear ho0))))
    (try simp only [Act.put, List.setIfInBounds_toArray, List.set_cons_zero, List.set_cons_succ])
    go_cut [9] (fun v9 wc => ∃ (kq : Nat) (x9_6 : Int), v9 = .int .i64 x9_6 ∧ Aside0 (tremaref01_At.j1 kq l0 a1 t256 x9_6 = some (r1, r2, r3)) ∧ Aside0 (kq ≤ k) ∧ Aside0 (Kd.R (Kd.int .u8) 5 wc w.heap.size (fun _ => True) v258 t256) ∧ Aside0 (Below w.heap.size w wc))
    case first =>
     have H := HC7.out
     clear HC7
     have H' := Aside0.mk H
     clear H
     go_wp2
     repeat (go_quiet (fail); try go_wp2)
     go_loopg [9] k (fun kq v9 w' => ∃ (x9_1 : Int), v9 = .int .i64 x9_1 ∧ Aside0 (tremaref01_At.l0 kq l0 a1 t256 x9_1 = some (r1, r2, r3)) ∧ Aside0 (kq ≤ k) ∧ Aside0 (Kd.R (Kd.int .u8) 5 w' w.heap.size (fun _ => True) v258 t256) ∧ Aside0 (Below w.heap.size w w'))
     case atStart => exact ⟨(1), (by first | rfl | (simp; done) | (simp [*]; done)), H', ⟨Nat.le_refl _⟩, ⟨by (with_reducible repeat (first | apply Kd.R_alloc | apply Kd.R_drewN | apply Kd.R_drew)); exact HO259.out⟩, ⟨by repeat (first | (with_reducible first | exact HB.out | apply below_alloc | apply pw_below_drewN | apply below_drew1) | exact HB.out)⟩⟩
     case round =>
      clear H'
      try clear p2
      try clear q2
      try clear hx2
      try clear c3
      try clear c3b0
      try clear c4
      try clear c4b0
      try clear c6
      try clear c8
      try clear hx255_0
      try clear p255
      try clear q255
      obtain ⟨x9_1, rfl, HA, HK1, HO_7, HB⟩ := hrel
      cases gk with
      | zero => exact absurd HA.out (by simp [tremaref01_At.l0])
      | succ k1 =>
       have H := HA.out
       clear HA
       simp only [tremaref01_At.l0] at H
       by_cases c9 : x9_1 ≤ (wrap64 ((t256.length : Int) / 2))
       ·rw [if_pos c9] at H
        have c9b0 : decide (x9_1 ≤ (wrap64 ((t256.length : Int) / 2))) = true := decide_eq_true c9
        clear c9
        (first | rw [c9b0] | (simp only [i64_w, i32_w]; rw [c9b0]) | skip)
        by_cases c10 : (wrap64 (a1 + x9_1)) < (l0.length : Int)
        ·rw [if_pos c10] at H
         have c10b0 : decide ((wrap64 (a1 + x9_1)) < (l0.length : Int)) = true := decide_eq_true c10
         clear c10
         obtain ⟨ji11, hji11⟩ : ∃ j_ : Int, (wrap64 (a1 + x9_1)) = j_ := ⟨_, rfl⟩
         replace H : (if 0 ≤ (ji11) then (if 0 ≤ (wrap64 ((wrap64 (2 * x9_1)) - 2)) then (if (wrap64 ((wrap64 (2 * x9_1)) - 2)) < (t256.length : Int) then (if (rd l0 (ji11)) ≥ (rd t256 (wrap64 ((wrap64 (2 * x9_1)) - 2))) then (if 0 ≤ (wrap64 ((wrap64 (2 * x9_1)) - 1)) then (if (wrap64 ((wrap64 (2 * x9_1)) - 1)) < (t256.length : Int) then (if (rd l0 (ji11)) ≤ (rd t256 (wrap64 ((wrap64 (2 * x9_1)) - 1))) then (tremaref01_At.l0 k1 l0 a1 t256 (wrap64 (x9_1 + 1))) else (tremaref01_At.j1 k1 l0 a1 t256 x9_1)) else (none)) else (none)) else (tremaref01_At.j1 k1 l0 a1 t256 x9_1)) else (none)) else (none)) else (none)) = some (r1, r2, r3) := by first | (rw [hji11] at H; exact H) | (simp only [hji11] at H ⊢; exact H)
         (try rw [hji11] at c10b0)
         have hji11w : (IntKind.i64.wrap (a1 + x9_1)) = ji11 := (i64_w _).trans hji11
         by_cases c12 : 0 ≤ (ji11)
         ·rw [if_pos c12] at H
          have c12b0 : decide (0 ≤ (ji11)) = true := decide_eq_true c12
          clear c12
          obtain ⟨ji13, hji13⟩ : ∃ j_ : Int, (wrap64 ((wrap64 (2 * x9_1)) - 2)) = j_ := ⟨_, rfl⟩
          replace H : (if 0 ≤ (ji13) then (if (ji13) < (t256.length : Int) then (if (rd l0 (ji11)) ≥ (rd t256 (ji13)) then (if 0 ≤ (wrap64 ((wrap64 (2 * x9_1)) - 1)) then (if (wrap64 ((wrap64 (2 * x9_1)) - 1)) < (t256.length : Int) then (if (rd l0 (ji11)) ≤ (rd t256 (wrap64 ((wrap64 (2 * x9_1)) - 1))) then (tremaref01_At.l0 k1 l0 a1 t256 (wrap64 (x9_1 + 1))) else (tremaref01_At.j1 k1 l0 a1 t256 x9_1)) else (none)) else (none)) else (tremaref01_At.j1 k1 l0 a1 t256 x9_1)) else (none)) else (none)) = some (r1, r2, r3) := by first | (rw [hji13] at H; exact H) | (simp only [hji13] at H ⊢; exact H)
          have hji13w : (IntKind.i64.wrap ((wrap64 (2 * x9_1)) - 2)) = ji13 := (i64_w _).trans hji13
          by_cases c14 : 0 ≤ (ji13)
          ·rw [if_pos c14] at H
           have c14b0 : decide (0 ≤ (ji13)) = true := decide_eq_true c14
           clear c14
           by_cases c15 : (ji13) < (t256.length : Int)
           ·rw [if_pos c15] at H
            have c15b0 : decide ((ji13) < (t256.length : Int)) = true := decide_eq_true c15
            clear c15
            by_cases c16 : (rd l0 (ji11)) ≥ (rd t256 (ji13))
            ·rw [if_pos c16] at H
             have c16b0 : decide ((rd t256 (ji13)) ≤ (rd l0 (ji11))) = true := decide_eq_true c16
             clear c16
             obtain ⟨ji17, hji17⟩ : ∃ j_ : Int, (wrap64 ((wrap64 (2 * x9_1)) - 1)) = j_ := ⟨_, rfl⟩
             replace H : (if 0 ≤ (ji17) then (if (ji17) < (t256.length : Int) then (if (rd l0 (ji11)) ≤ (rd t256 (ji17)) then (tremaref01_At.l0 k1 l0 a1 t256 (wrap64 (x9_1 + 1))) else (tremaref01_At.j1 k1 l0 a1 t256 x9_1)) else (none)) else (none)) = some (r1, r2, r3) := by first | (rw [hji17] at H; exact H) | (simp only [hji17] at H ⊢; exact H)
             have hji17w : (IntKind.i64.wrap ((wrap64 (2 * x9_1)) - 1)) = ji17 := (i64_w _).trans hji17
             by_cases c18 : 0 ≤ (ji17)
             ·rw [if_pos c18] at H
              have c18b0 : decide (0 ≤ (ji17)) = true := decide_eq_true c18
              clear c18
              by_cases c19 : (ji17) < (t256.length : Int)
              ·rw [if_pos c19] at H
               have c19b0 : decide ((ji17) < (t256.length : Int)) = true := decide_eq_true c19
               clear c19
               by_cases c20 : (rd l0 (ji11)) ≤ (rd t256 (ji17))
               ·rw [if_pos c20] at H
                have c20b0 : decide ((rd l0 (ji11)) ≤ (rd t256 (ji17))) = true := decide_eq_true c20
                clear c20
                have H' := Aside0.mk H
                clear H
                obtain ⟨Ao21, co21, eo21⟩ := Kd.R_slice HO_7.out
                subst eo21
                have p260 : 0 ≤ ((ji11) : Int) := of_decide_eq_true (by first | (with_reducible assumption) | assumption)
                have q260 : (ji11) < (l0.length : Int) := of_decide_eq_true (by first | (with_reducible assumption) | assumption)
                obtain ⟨ad260, e260, hx260_0⟩ := Kd.at_int HR0.out (ji11) p260 q260
                obtain rfl : ad255 = ad260 := (by injection e260)
                replace hx260_0 := (HB.out.cell (World.block_lt_of_cell? w _ hx260_0)).trans hx260_0
                replace p260 := eq_true p260
                replace q260 := eq_true q260
                have p261 : 0 ≤ ((ji13) : Int) := of_decide_eq_true (by first | (with_reducible assumption) | assumption)
                have q261 : (ji13) < (t256.length : Int) := of_decide_eq_true (by first | (with_reducible assumption) | assumption)
                obtain ⟨ad261, e261, hx261_0⟩ := Kd.at_int (Kd.R_reads' HO_7.out).2.2 (ji13) p261 q261
                cases e261
                replace p261 := eq_true p261
                replace q261 := eq_true q261
                have p262 : 0 ≤ ((ji11) : Int) := of_decide_eq_true (by first | (with_reducible assumption) | assumption)
                have q262 : (ji11) < (l0.length : Int) := of_decide_eq_true (by first | (with_reducible assumption) | assumption)
                obtain ⟨ad262, e262, hx262_0⟩ := Kd.at_int HR0.out (ji11) p262 q262
                obtain rfl : ad255 = ad262 := (by injection e262)
                replace hx262_0 := (HB.out.cell (World.block_lt_of_cell? w _ hx262_0)).trans hx262_0
                replace p262 := eq_true p262
                replace q262 := eq_true q262
                have p263 : 0 ≤ ((ji17) : Int) := of_decide_eq_true (by first | (with_reducible assumption) | assumption)
                have q263 : (ji17) < (t256.length : Int) := of_decide_eq_true (by first | (with_reducible assumption) | assumption)
                obtain ⟨ad263, e263, hx263_0⟩ := Kd.at_int (Kd.R_reads' HO_7.out).2.2 (ji17) p263 q263
                obtain rfl : ad261 = ad263 := (by injection e263)
                replace p263 := eq_true p263
                replace q263 := eq_true q263
                go_wp2
                repeat (go_quiet (fail); try go_wp2)
                go_roundg k1
                case measure => have := HK1.out; omega
                case rel => exact ⟨(wrap64 (x9_1 + 1)), (by first | rfl | (simp; done) | (simp [*]; done)), H', ⟨by have := HK1.out; omega⟩, ⟨by (with_reducible repeat (first | apply Kd.R_alloc | apply Kd.R_drewN | apply Kd.R_drew)); exact HO_7.out⟩, ⟨by repeat (first | (with_reducible first | exact HB.out | apply below_alloc | apply pw_below_drewN | apply below_drew1) | exact HB.out)⟩⟩
               ·rw [if_neg c20] at H
                have c20b0 : decide ((rd l0 (ji11)) ≤ (rd t256 (ji17))) = false := decide_eq_false c20
                clear c20
                have H' := Aside0.mk H
                clear H
                obtain ⟨Ao22, co22, eo22⟩ := Kd.R_slice HO_7.out
                subst eo22
                have p260 : 0 ≤ ((ji11) : Int) := of_decide_eq_true (by first | (with_reducible assumption) | assumption)
                have q260 : (ji11) < (l0.length : Int) := of_decide_eq_true (by first | (with_reducible assumption) | assumption)
                obtain ⟨ad260, e260, hx260_0⟩ := Kd.at_int HR0.out (ji11) p260 q260
                obtain rfl : ad255 = ad260 := (by injection e260)
                replace hx260_0 := (HB.out.cell (World.block_lt_of_cell? w _ hx260_0)).trans hx260_0
                replace p260 := eq_true p260
                replace q260 := eq_true q260
                have p261 : 0 ≤ ((ji13) : Int) := of_decide_eq_true (by first | (with_reducible assumption) | assumption)
                have q261 : (ji13) < (t256.length : Int) := of_decide_eq_true (by first | (with_reducible assumption) | assumption)
                obtain ⟨ad261, e261, hx261_0⟩ := Kd.at_int (Kd.R_reads' HO_7.out).2.2 (ji13) p261 q261
                cases e261
                replace p261 := eq_true p261
                replace q261 := eq_true q261
                have p262 : 0 ≤ ((ji11) : Int) := of_decide_eq_true (by first | (with_reducible assumption) | assumption)
                have q262 : (ji11) < (l0.length : Int) := of_decide_eq_true (by first | (with_reducible assumption) | assumption)
                obtain ⟨ad262, e262, hx262_0⟩ := Kd.at_int HR0.out (ji11) p262 q262
                obtain rfl : ad255 = ad262 := (by injection e262)
                replace hx262_0 := (HB.out.cell (World.block_lt_of_cell? w _ hx262_0)).trans hx262_0
                replace p262 := eq_true p262
                replace q262 := eq_true q262
                have p263 : 0 ≤ ((ji17) : Int) := of_decide_eq_true (by first | (with_reducible assumption) | assumption)
                have q263 : (ji17) < (t256.length : Int) := of_decide_eq_true (by first | (with_reducible assumption) | assumption)
                obtain ⟨ad263, e263, hx263_0⟩ := Kd.at_int (Kd.R_reads' HO_7.out).2.2 (ji17) p263 q263
                obtain rfl : ad261 = ad263 := (by injection e263)
                replace p263 := eq_true p263
                replace q263 := eq_true q263
                go_wp2
                repeat (go_quiet (fail); try go_wp2)
                go_meet
                case rel => exact ⟨_, (x9_1), (by first | rfl | (simp; done) | (simp [*]; done)), H', ⟨by have := HK1.out; first | omega | exact Nat.le_refl _⟩, ⟨by (with_reducible repeat (first | apply Kd.R_alloc | apply Kd.R_drewN | apply Kd.R_drew)); exact HO_7.out⟩, ⟨by repeat (first | (with_reducible first | exact HB.out | apply below_alloc | apply pw_below_drewN | apply below_drew1) | exact HB.out)⟩⟩
              ·rw [if_neg c19] at H
               exact absurd H (by simp)
             ·rw [if_neg c18] at H
              exact absurd H (by simp)
            ·rw [if_neg c16] at H
             have c16b0 : decide ((rd t256 (ji13)) ≤ (rd l0 (ji11))) = false := decide_eq_false c16
             clear c16
             have H' := Aside0.mk H
             clear H
             obtain ⟨Ao23, co23, eo23⟩ := Kd.R_slice HO_7.out
             subst eo23
             have p260 : 0 ≤ ((ji11) : Int) := of_decide_eq_true (by first | (with_reducible assumption) | assumption)
             have q260 : (ji11) < (l0.length : Int) := of_decide_eq_true (by first | (with_reducible assumption) | assumption)
             obtain ⟨ad260, e260, hx260_0⟩ := Kd.at_int HR0.out (ji11) p260 q260
             obtain rfl : ad255 = ad260 := (by injection e260)
             replace hx260_0 := (HB.out.cell (World.block_lt_of_cell? w _ hx260_0)).trans hx260_0
             replace p260 := eq_true p260
             replace q260 := eq_true q260
             have p261 : 0 ≤ ((ji13) : Int) := of_decide_eq_true (by first | (with_reducible assumption) | assumption)
             have q261 : (ji13) < (t256.length : Int) := of_decide_eq_true (by first | (with_reducible assumption) | assumption)
             obtain ⟨ad261, e261, hx261_0⟩ := Kd.at_int (Kd.R_reads' HO_7.out).2.2 (ji13) p261 q261
             cases e261
             replace p261 := eq_true p261
             replace q261 := eq_true q261
             go_wp2
             repeat (go_quiet (fail); try go_wp2)
             go_meet
             case rel => exact ⟨_, (x9_1), (by first | rfl | (simp; done) | (simp [*]; done)), H', ⟨by have := HK1.out; first | omega | exact Nat.le_refl _⟩, ⟨by (with_reducible repeat (first | apply Kd.R_alloc | apply Kd.R_drewN | apply Kd.R_drew)); exact HO_7.out⟩, ⟨by repeat (first | (with_reducible first | exact HB.out | apply below_alloc | apply pw_below_drewN | apply below_drew1) | exact HB.out)⟩⟩
           ·rw [if_neg c15] at H
            exact absurd H (by simp)
          ·rw [if_neg c14] at H
           exact absurd H (by simp)
         ·rw [if_neg c12] at H
          exact absurd H (by simp)
        ·rw [if_neg c10] at H
         have c10b0 : decide ((wrap64 (a1 + x9_1)) < (l0.length : Int)) = false := decide_eq_false c10
         clear c10
         have H' := Aside0.mk H
         clear H
         obtain ⟨Ao24, co24, eo24⟩ := Kd.R_slice HO_7.out
         subst eo24
         go_wp2
         repeat (go_quiet (fail); try go_wp2)
         go_meet
         case rel => exact ⟨_, (x9_1), (by first | rfl | (simp; done) | (simp [*]; done)), H', ⟨by have := HK1.out; first | omega | exact Nat.le_refl _⟩, ⟨by (with_reducible repeat (first | apply Kd.R_alloc | apply Kd.R_drewN | apply Kd.R_drew)); exact HO_7.out⟩, ⟨by repeat (first | (with_reducible first | exact HB.out | apply below_alloc | apply pw_below_drewN | apply below_drew1) | exact HB.out)⟩⟩
       ·rw [if_neg c9] at H
        have c9b0 : decide (x9_1 ≤ (wrap64 ((t256.length : Int) / 2))) = false := decide_eq_false c9
        clear c9
        (first | rw [c9b0] | (simp only [i64_w, i32_w]; rw [c9b0]) | skip)
        have H' := Aside0.mk H
        clear H
        obtain ⟨Ao25, co25, eo25⟩ := Kd.R_slice HO_7.out
        subst eo25
        go_wp2
        repeat (go_quiet (fail); try go_wp2)
        go_meet
        case rel => exact ⟨_, (x9_1), (by first | rfl | (simp; done) | (simp [*]; done)), H', ⟨by have := HK1.out; first | omega | exact Nat.le_refl _⟩, ⟨by (with_reducible repeat (first | apply Kd.R_alloc | apply Kd.R_drewN | apply Kd.R_drew)); exact HO_7.out⟩, ⟨by repeat (first | (with_reducible first | exact HB.out | apply below_alloc | apply pw_below_drewN | apply below_drew1) | exact HB.out)⟩⟩
    case rest =>
     clear HC7
     try clear c1
     try clear c2
     try clear p2
     try clear q2
     try clear hx2
     try clear c3
     try clear c3b0
     try clear c4
     try clear c4b0
     try clear c6
     try clear p6
     try clear c8
     try clear c9
     try clear c9b0
     try clear c10
     try clear c10b0
     try clear c12
     try clear c12b0
     try clear c14
     try clear c14b0
     try clear c15
     try clear c15b0
     try clear c16
     try clear c16b0
     try clear c18
     try clear c18b0
     try clear c19
     try clear c19b0
     try clear c20
     try clear c20b0
     try clear p25
     try clear q25
     try clear hx25
     try clear hx255_0
     try clear hx260_0
     try clear hx261_0
     try clear hx262_0
     try clear hx263_0
     try clear p2
     try clear p255
     try clear p260
     try clear p261
     try clear p262
     try clear p263
     try clear q2
     try clear q255
     try clear q260
     try clear q261
     try clear q262
     try clear q263
     obtain ⟨kq, x9_6, rfl, HA, HJ6, HO_7, HB⟩ := hcut
     cases kq with
     | zero => exact absurd HA.out (by simp [tremaref01_At.j1])
     | succ kj6 =>
      have H := HA.out
      clear HA
      simp only [tremaref01_At.j1] at H
      by_cases c26 : x9_6 ≤ (wrap64 ((t256.length : Int) / 2))
      ·rw [if_pos c26] at H
       have c26b0 : decide (x9_6 ≤ (wrap64 ((t256.length : Int) / 2))) = true := decide_eq_true c26
       clear c26
       simp only [Option.some.injEq, Prod.mk.injEq] at H
       obtain ⟨rfl, rfl, rfl⟩ := H
       obtain ⟨Ao27, co27, eo27⟩ := Kd.R_slice HO_7.out
       subst eo27
       go_wp2
       repeat (go_quiet (fail); try go_wp2)
       go_ret3
       exact ⟨by first | rfl | (simp [errW_none, errW_some] <;> rfl) | (simp [*, errW_none, errW_some] <;> rfl), by repeat (first | (with_reducible first | exact HB.out | apply below_alloc | apply pw_below_drewN | apply below_drew1) | exact HB.out)⟩
      ·rw [if_neg c26] at H
       have c26b0 : decide (x9_6 ≤ (wrap64 ((t256.length : Int) / 2))) = false := decide_eq_false c26
       clear c26
       by_cases c28 : x9_6 = 1
       ·rw [if_pos c28] at H
        have c28b0 : (x9_6 == 1) = true := beq_iff_eq.mpr c28
        have c28b1 : (x9_6 != 1) = false := bne_eq_false_iff_eq.mpr c28
        clear c28
        by_cases c29 : 0 ≤ a1
        ·rw [if_pos c29] at H
         have c29b0 : decide (0 ≤ a1) = true := decide_eq_true c29
         clear c29
         by_cases c30 : a1 < (l0.length : Int)
         ·rw [if_pos c30] at H
          have c30b0 : decide (a1 < (l0.length : Int)) = true := decide_eq_true c30
          clear c30
          simp only [Option.some.injEq, Prod.mk.injEq] at H
          obtain ⟨rfl, rfl, rfl⟩ := H
          obtain ⟨Ao31, co31, eo31⟩ := Kd.R_slice HO_7.out
          subst eo31
          have p264 : 0 ≤ (a1 : Int) := of_decide_eq_true (by first | (with_reducible assumption) | assumption)
          have q264 : a1 < (l0.length : Int) := of_decide_eq_true (by first | (with_reducible assumption) | assumption)
          obtain ⟨ad264, e264, hx264_0⟩ := Kd.at_int HR0.out a1 p264 q264
          obtain rfl : ad255 = ad264 := (by injection e264)
          replace hx264_0 := (HB.out.cell (World.block_lt_of_cell? w _ hx264_0)).trans hx264_0
          replace p264 := eq_true p264
          replace q264 := eq_true q264
          go_wp2
          repeat (go_quiet (fail); try go_wp2)
          go_ret3
          exact ⟨by first | rfl | (simp [errW_none, errW_some] <;> rfl) | (simp [*, errW_none, errW_some] <;> rfl), by repeat (first | (with_reducible first | exact HB.out | apply below_alloc | apply pw_below_drewN | apply below_drew1) | exact HB.out)⟩
         ·rw [if_neg c30] at H
          exact absurd H (by simp)
        ·rw [if_neg c29] at H
         exact absurd H (by simp)
       ·rw [if_neg c28] at H
        have c28b0 : (x9_6 == 1) = false := beq_eq_false_iff_ne.mpr c28
        have c28b1 : (x9_6 != 1) = true := bne_iff_ne.mpr c28
        by_cases c32 : 0 ≤ a1
        ·rw [if_pos c32] at H
         have c32b0 : decide (0 ≤ a1) = true := decide_eq_true c32
         clear c32
         by_cases c33 : a1 < (l0.length : Int)
         ·rw [if_pos c33] at H
          have c33b0 : decide (a1 < (l0.length : Int)) = true := decide_eq_true c33
          clear c33
          obtain ⟨ji34, hji34⟩ : ∃ j_ : Int, (wrap64 (7 - x9_6)) = j_ := ⟨_, rfl⟩
          replace H : (if 0 ≤ (ji34) then (if (shl .i32 1 (ji34)) = 0 then (none) else (tremaref01_At.l1 kj6 l0 a1 x9_6 (Int.tmod (wrap32 (rd l0 a1)) (shl .i32 1 (ji34))) 1)) else (none)) = some (r1, r2, r3) := by first | (rw [hji34] at H; exact H) | (simp only [hji34] at H ⊢; exact H)
          have hji34w : (IntKind.i64.wrap (7 - x9_6)) = ji34 := (i64_w _).trans hji34
          by_cases c35 : 0 ≤ (ji34)
          ·rw [if_pos c35] at H
           have c35b0 := eq_true c35
           have c35b1 : decide (0 ≤ (ji34)) = true := decide_eq_true c35
           clear c35
           obtain ⟨ji36, hji36⟩ : ∃ j_ : Int, (shl .i32 1 (ji34)) = j_ := ⟨_, rfl⟩
           replace H : (if (ji36) = 0 then (none) else (tremaref01_At.l1 kj6 l0 a1 x9_6 (Int.tmod (wrap32 (rd l0 a1)) (ji36)) 1)) = some (r1, r2, r3) := by first | (rw [hji36] at H; exact H) | (simp only [hji36] at H ⊢; exact H)
           have hji36_ : (IntKind.i32.wrap (1 * 2 ^ min (ji34).toNat 32)) = ji36 := hji36
           have hji36z : (ji34) ≤ 32 → (IntKind.i32.wrap (1 * 2 ^ (ji34).toNat)) = ji36 := shl_small hji36
           have hji36u : (IntKind.i32.wrap (2 ^ min (ji34).toNat 32)) = ji36 := by have h_ := hji36_; rw [Int.one_mul] at h_; exact h_
           have hji36v : (ji34) ≤ 32 → (IntKind.i32.wrap (2 ^ (ji34).toNat)) = ji36 := fun hle_ => by have h_ := hji36z hle_; rw [Int.one_mul] at h_; exact h_
           have hji36y : (wrap32 (1 * 2 ^ min (ji34).toNat 32)) = ji36 := (i32_w _).symm.trans hji36_
           have hji36x : (ji34) ≤ 32 → (wrap32 (1 * 2 ^ (ji34).toNat)) = ji36 := fun h_ => (i32_w _).symm.trans (hji36z h_)
           by_cases c37 : (ji36) = 0
           ·rw [if_pos c37] at H
            exact absurd H (by simp)
           ·rw [if_neg c37] at H
            have c37b0 : ((ji36) == 0) = false := beq_eq_false_iff_ne.mpr c37
            have c37b1 : ((ji36) != 0) = true := bne_iff_ne.mpr c37
            have H' := Aside0.mk H
            clear H
            obtain ⟨Ao38, co38, eo38⟩ := Kd.R_slice HO_7.out
            subst eo38
            have p265 : 0 ≤ (a1 : Int) := of_decide_eq_true (by first | (with_reducible assumption) | assumption)
            have q265 : a1 < (l0.length : Int) := of_decide_eq_true (by first | (with_reducible assumption) | assumption)
            obtain ⟨ad265, e265, hx265_0⟩ := Kd.at_int HR0.out a1 p265 q265
            obtain rfl : ad255 = ad265 := (by injection e265)
            replace hx265_0 := (HB.out.cell (World.block_lt_of_cell? w _ hx265_0)).trans hx265_0
            replace p265 := eq_true p265
            replace q265 := eq_true q265
            go_wp2
            repeat (go_quiet (fail); try go_wp2)
            go_loopg [10, 11] kj6 (fun kq v10 v11 w' => ∃ (x10_2 : Int) (x11_2 : Int), v10 = .int .i32 x10_2 ∧ v11 = .int .i64 x11_2 ∧ Aside0 (tremaref01_At.l1 kq l0 a1 x9_6 x10_2 x11_2 = some (r1, r2, r3)) ∧ Aside0 (kq ≤ kj6) ∧ Aside0 (Below w.heap.size w w'))
            case atStart => exact ⟨(Int.tmod (wrap32 (rd l0 a1)) (ji36)), (1), (by first | rfl | (simp; done) | (simp only [← hji36] <;> (first | rfl | simp)) | (simp [*]; done)), (by first | rfl | (simp; done) | (simp [*]; done)), H', ⟨Nat.le_refl _⟩, ⟨by repeat (first | (with_reducible first | exact HB.out | apply below_alloc | apply pw_below_drewN | apply below_drew1) | exact HB.out)⟩⟩
            case round =>
             clear H'
             try clear c1
             try clear c2
             try clear p2
             try clear q2
             try clear hx2
             try clear c3
             try clear c3b0
             try clear p3
             try clear c4
             try clear c4b0
             try clear c6
             try clear p6
             try clear c8
             try clear c9
             try clear c9b0
             try clear c10
             try clear c10b0
             try clear c12
             try clear c12b0
             try clear c14
             try clear c14b0
             try clear c15
             try clear c15b0
             try clear c16
             try clear c16b0
             try clear c18
             try clear c18b0
             try clear c19
             try clear c19b0
             try clear c20
             try clear c20b0
             try clear p25
             try clear q25
             try clear hx25
             try clear c26
             try clear c26b0
             try clear p26
             try clear q26
             try clear hx26
             try clear c28
             try clear c28b0
             try clear c28b1
             try clear c29
             try clear c29b0
             try clear c30
             try clear c30b0
             try clear c32
             try clear c32b0
             try clear p32
             try clear c33
             try clear c33b0
             try clear c35
             try clear c35b0
             try clear c35b1
             try clear c37
             try clear c37b0
             try clear c37b1
             try clear hx255_0
             try clear hx260_0
             try clear hx261_0
             try clear hx262_0
             try clear hx263_0
             try clear hx264_0
             try clear hx265_0
             try clear p2
             try clear p25
             try clear p255
             try clear p260
             try clear p261
             try clear p262
             try clear p263
             try clear p264
             try clear p265
             try clear p6
             try clear q2
             try clear q25
             try clear q255
             try clear q260
             try clear q261
             try clear q262
             try clear q263
             try clear q264
             try clear q265
             obtain ⟨x10_2, x11_2, rfl, rfl, HA, HK2, HB⟩ := hrel
             cases gk with
             | zero => exact absurd HA.out (by simp [tremaref01_At.l1])
             | succ k2 =>
              have H := HA.out
              clear HA
              simp only [tremaref01_At.l1] at H
              by_cases c39 : x11_2 < x9_6
              ·rw [if_pos c39] at H
               have c39b0 : decide (x11_2 < x9_6) = true := decide_eq_true c39
               clear c39
               obtain ⟨ji40, hji40⟩ : ∃ j_ : Int, (wrap64 (a1 + x11_2)) = j_ := ⟨_, rfl⟩
               replace H : (if 0 ≤ (ji40) then (if (ji40) < (l0.length : Int) then (tremaref01_At.l1 k2 l0 a1 x9_6 (wrap32 ((wrap32 (x10_2 * 64)) + (Int.tmod (wrap32 (rd l0 (ji40))) 64))) (wrap64 (x11_2 + 1))) else (none)) else (none)) = some (r1, r2, r3) := by first | (rw [hji40] at H; exact H) | (simp only [hji40] at H ⊢; exact H)
               have hji40w : (IntKind.i64.wrap (a1 + x11_2)) = ji40 := (i64_w _).trans hji40
               by_cases c41 : 0 ≤ (ji40)
               ·rw [if_pos c41] at H
                have c41b0 : decide (0 ≤ (ji40)) = true := decide_eq_true c41
                clear c41
                by_cases c42 : (ji40) < (l0.length : Int)
                ·rw [if_pos c42] at H
                 have c42b0 : decide ((ji40) < (l0.length : Int)) = true := decide_eq_true c42
                 clear c42
                 have H' := Aside0.mk H
                 clear H
                 have p266 : 0 ≤ ((ji40) : Int) := of_decide_eq_true (by first | (with_reducible assumption) | assumption)
                 have q266 : (ji40) < (l0.length : Int) := of_decide_eq_true (by first | (with_reducible assumption) | assumption)
                 obtain ⟨ad266, e266, hx266_0⟩ := Kd.at_int HR0.out (ji40) p266 q266
                 obtain rfl : ad255 = ad266 := (by injection e266)
                 replace hx266_0 := (HB.out.cell (World.block_lt_of_cell? w _ hx266_0)).trans hx266_0
                 replace p266 := eq_true p266
                 replace q266 := eq_true q266
                 go_wp2
                 repeat (go_quiet (fail); try go_wp2)
                 go_roundg k2
                 case measure => have := HJ6.out; have := HK2.out; omega
                 case rel => exact ⟨(wrap32 ((wrap32 (x10_2 * 64)) + (Int.tmod (wrap32 (rd l0 (ji40))) 64))), (wrap64 (x11_2 + 1)), (by first | rfl | (simp; done) | (simp only [← hji40] <;> (first | rfl | simp)) | (simp [*]; done)), (by first | rfl | (simp; done) | (simp [*]; done)), H', ⟨by have := HJ6.out; have := HK2.out; omega⟩, ⟨by repeat (first | (with_reducible first | exact HB.out | apply below_alloc | apply pw_below_drewN | apply below_drew1) | exact HB.out)⟩⟩
                ·rw [if_neg c42] at H
                 exact absurd H (by simp)
               ·rw [if_neg c41] at H
                exact absurd H (by simp)
              ·rw [if_neg c39] at H
               have c39b0 : decide (x11_2 < x9_6) = false := decide_eq_false c39
               clear c39
               simp only [Option.some.injEq, Prod.mk.injEq] at H
               obtain ⟨rfl, rfl, rfl⟩ := H
               go_wp2
               repeat (go_quiet (fail); try go_wp2)
               go_ret3
               exact ⟨by first | rfl | (simp [errW_none, errW_some] <;> rfl) | (simp only [← hji34, ← hji36]; first | rfl | (simp [errW_none, errW_some] <;> rfl)) | (simp [*, errW_none, errW_some] <;> rfl), by repeat (first | (with_reducible first | exact HB.out | apply below_alloc | apply pw_below_drewN | apply below_drew1) | exact HB.out)⟩
          ·rw [if_neg c35] at H
           exact absurd H (by simp)
         ·rw [if_neg c33] at H
          exact absurd H (by simp)
        ·rw [if_neg c32] at H
         exact absurd H (by simp)
   ·replace c6 := Bool.eq_false_iff.mpr c6
    subst c6
    have H1 : (some (65533, 1, false)) = some (r1, r2, r3) := by rw [if_neg (show ¬ (false = true) by decide)] at H; exact H
    clear H
    have H := H1
    clear H1
    simp only [Option.some.injEq, Prod.mk.injEq] at H
    obtain ⟨rfl, rfl, rfl⟩ := H
    have p255 : 0 ≤ (a1 : Int) := of_decide_eq_true (by first | (with_reducible assumption) | assumption)
    have q255 : a1 < (l0.length : Int) := of_decide_eq_true (by first | (with_reducible assumption) | assumption)
    obtain ⟨ad255, e255, hx255_0⟩ := Kd.at_int HR0.out a1 p255 q255
    cases e255
    replace p255 := eq_true p255
    replace q255 := eq_true q255
    go_enter Tryd.func81, Tryd.ntmps81
    go_wp2_with (first | (go_at_call 93; (with_reducible refine (tremaref01_row.calls k (rd l0 a1) t256 false _ A5.out).mono ?_); rintro e w43 ⟨v258, rfl, ho0, hb⟩; have n0_ := Aside0.mk (Kd.R_lower ho0 (below_size (by repeat (first | (with_reducible first | exact HB.out | apply below_alloc | apply pw_below_drewN | apply below_drew1) | exact HB.out)))); have n1_ := Aside0.mk (below_step (by repeat (first | (with_reducible first | exact HB.out | apply below_alloc | apply pw_below_drewN | apply below_drew1) | exact HB.out)) hb); clear HB; have HO259 := n0_; have HB := n1_; clear n0_ n1_; (try clear hb); (try clear hb2); (try clear hk); (try clear hi); (try clear ho0)))
    repeat (go_quiet (first | (go_at_call 93; (with_reducible refine (tremaref01_row.calls k (rd l0 a1) t256 false _ A5.out).mono ?_); rintro e w43 ⟨v258, rfl, ho0, hb⟩; have n0_ := Aside0.mk (Kd.R_lower ho0 (below_size (by repeat (first | (with_reducible first | exact HB.out | apply below_alloc | apply pw_below_drewN | apply below_drew1) | exact HB.out)))); have n1_ := Aside0.mk (below_step (by repeat (first | (with_reducible first | exact HB.out | apply below_alloc | apply pw_below_drewN | apply below_drew1) | exact HB.out)) hb); clear HB; have HO259 := n0_; have HB := n1_; clear n0_ n1_; (try clear hb); (try clear hb2); (try clear hk); (try clear hi); (try clear ho0))); try go_wp2_with (first | (go_at_call 93; (with_reducible refine (tremaref01_row.calls k (rd l0 a1) t256 false _ A5.out).mono ?_); rintro e w43 ⟨v258, rfl, ho0, hb⟩; have n0_ := Aside0.mk (Kd.R_lower ho0 (below_size (by repeat (first | (with_reducible first | exact HB.out | apply below_alloc | apply pw_below_drewN | apply below_drew1) | exact HB.out)))); have n1_ := Aside0.mk (below_step (by repeat (first | (with_reducible first | exact HB.out | apply below_alloc | apply pw_below_drewN | apply below_drew1) | exact HB.out)) hb); clear HB; have HO259 := n0_; have HB := n1_; clear n0_ n1_; (try clear hb); (try clear hb2); (try clear hk); (try clear hi); (try clear ho0))))
    go_ret3
    exact ⟨by first | rfl | (simp [errW_none, errW_some] <;> rfl) | (simp [*, errW_none, errW_some] <;> rfl), by repeat (first | (with_reducible first | exact HB.out | apply below_alloc | apply pw_below_drewN | apply below_drew1) | exact HB.out)⟩
  ·rw [if_neg c4] at H
   exact absurd H (by simp)
 ·rw [if_neg c3] at H
  exact absurd H (by simp)
end Go.Proofs.YtiggjbclbdikmaaDoor.X
namespace Go.Proofs.YtiggjbclbdikmaaDoor.X
open Go.RowKit Go.Proofs.YtiggjbclbdikmaaDoorW.PrintWords Go.Proofs.YtiggjbclbdikmaaDoorW.PrintLast Go.Proofs.YtiggjbclbdikmaaDoorW.PrintMore
attribute [local go_sem] max2_int min2_int max_two min_two max_three min_three max_four min_four   
set_option linter.unusedVariables false
set_option linter.unusedSimpArgs false
def tremaref01_Decode.l0 : Nat → List Int → Bool → List (S75) → Int → Option ((List (S75)))
 | 0, _, _, _, _ => none
 | k + 1, x0, x1, x5, x6 => if x6 < (x0.length : Int) then ((tremaref01_At.f k x0 x6).bind fun bt267 => (if x1 = true then (if bt267.2.2 = true then (some x5) else (if x5.length < 5864062014805 then (tremaref01_Decode.l0 k x0 x1 (x5 ++ [(⟨bt267.1, x6, bt267.2.1⟩ : S75)]) (wrap64 (x6 + bt267.2.1))) else (none))) else (if x5.length < 5864062014805 then (tremaref01_Decode.l0 k x0 x1 (x5 ++ [(⟨bt267.1, x6, bt267.2.1⟩ : S75)]) (wrap64 (x6 + bt267.2.1))) else (none)))) else (some x5)
def tremaref01_Decode.f (k : Nat) (l0 : List Int) (a1 : Bool) : Option ((List (S75))) := tremaref01_Decode.l0 k l0 a1 ([] : List (S75)) 0
theorem tremaref01_Decode.mono_l : ∀ k, (∀ y0 y1 y2 y3, LeO (tremaref01_Decode.l0 k y0 y1 y2 y3) (tremaref01_Decode.l0 (k + 1) y0 y1 y2 y3))
 | 0 => fun _ _ _ _ r h => by simp [tremaref01_Decode.l0] at h
 | k + 1 => by
  have ih0 := tremaref01_Decode.mono_l k
  ·intro y0 y1 y2 y3
   unfold tremaref01_Decode.l0
   repeat' first
   | (with_reducible exact ih0 _ _ _ _)
   | (with_reducible exact tremaref01_At.mono _ _ _)
   | (with_reducible exact LeO.refl _)
   | (with_reducible exact LeO.none _)
   | (with_reducible refine LeO.ite ?_ ?_)
   | (with_reducible refine LeO.bind ?_ (fun _ => ?_))
   | exact ih0 _ _ _ _
   | exact tremaref01_At.mono _ _ _
   | exact LeO.none _
   | refine LeO.ite ?_ ?_
   | refine LeO.bind ?_ (fun _ => ?_)
theorem tremaref01_Decode.mono : ∀ a0 a1 k, LeO (tremaref01_Decode.f k a0 a1) (tremaref01_Decode.f (k + 1) a0 a1) := by
 intro a0 a1 k
 have ih0 := tremaref01_Decode.mono_l k
 unfold tremaref01_Decode.f
 repeat' first
   | (with_reducible exact ih0 _ _ _ _)
   | (with_reducible exact tremaref01_At.mono _ _ _)
   | (with_reducible exact LeO.refl _)
   | (with_reducible exact LeO.none _)
   | (with_reducible refine LeO.ite ?_ ?_)
   | (with_reducible refine LeO.bind ?_ (fun _ => ?_))
   | exact ih0 _ _ _ _
   | exact tremaref01_At.mono _ _ _
   | exact LeO.none _
   | refine LeO.ite ?_ ?_
   | refine LeO.bind ?_ (fun _ => ?_)
set_option maxHeartbeats 8000000 in
set_option maxRecDepth 100000 in
theorem tremaref01_Decode.calls (k : Nat) (A0 : Option Addr) (c0 : Nat) (l0 : List Int) (a1 : Bool) (r : List (S75)) (w : World) (hr0 : Kd.C (Kd.int .u8) w A0 l0.length l0) (hc0 : l0.length ≤ c0) (h : tremaref01_Decode.f k l0 a1 = some r) :
  Calls Tryd.prog 59 #[.slice A0 l0.length c0, .bool a1] w fun e w' => ∃ v0_ : Value, e = .returned (v0_) ∧ Kd.R k75 75 w' w.heap.size (fun _ => True) v0_ r ∧ Below w.heap.size w w' := by
 have hu75 := Tryd.underlying75
 have HR0 := Aside0.mk hr0
 have HC0 := Aside0.mk hc0
 clear hr0 hc0
 have HB := Aside0.mk (Below.refl w.heap.size w)
 have H : (tremaref01_Decode.l0 k l0 a1 ([] : List (S75)) 0) = some r := h
 clear h
 have H' := Aside0.mk H
 clear H
 go_enter Tryd.func59, Tryd.ntmps59
 go_wp2
 go_loopg [5, 6] k (fun kq v5 v6 w' => ∃ (x5_1 : List (S75)) (x6_1 : Int), v6 = .int .i64 x6_1 ∧ Aside0 (tremaref01_Decode.l0 kq l0 a1 x5_1 x6_1 = some r) ∧ Aside0 (kq ≤ k) ∧ Aside0 (Kd.R k75 75 w' w.heap.size (fun _ => True) v5 x5_1) ∧ Aside0 (Below w.heap.size w w'))
 case atStart => exact ⟨(([] : List (S75))), (0), (by first | rfl | (simp; done) | (simp [*]; done)), H', ⟨Nat.le_refl _⟩, ⟨by first | exact Kd.R_nil _ _ _ _ _ | exact Kd.N_nil _ _ _ _ _ | exact Kd.V_nil _ _ _ _ _ | exact Kd.Q_nil _ _ _ _ _ | exact Kd.S_nil _ _ _ _ _⟩, ⟨by repeat (first | (with_reducible first | exact HB.out | apply below_alloc | apply pw_below_drewN | apply below_drew1) | exact HB.out)⟩⟩
 case round =>
  clear H'
  try clear p2
  obtain ⟨x5_1, x6_1, rfl, HA, HK1, HO_5, HB⟩ := hrel
  cases gk with
  | zero => exact absurd HA.out (by simp [tremaref01_Decode.l0])
  | succ k1 =>
   have H := HA.out
   clear HA
   simp only [tremaref01_Decode.l0] at H
   by_cases c3 : x6_1 < (l0.length : Int)
   ·rw [if_pos c3] at H
    have c3b0 : decide (x6_1 < (l0.length : Int)) = true := decide_eq_true c3
    clear c3
    replace H := Option.bind_eq_some_iff.mp H
    obtain ⟨⟨t267, t268, t269⟩, A40, H⟩ := H
    replace H : (if a1 = true then (if t269 = true then (some x5_1) else (if x5_1.length < 5864062014805 then (tremaref01_Decode.l0 k1 l0 a1 (x5_1 ++ [(⟨t267, x6_1, t268⟩ : S75)]) (wrap64 (x6_1 + t268))) else (none))) else (if x5_1.length < 5864062014805 then (tremaref01_Decode.l0 k1 l0 a1 (x5_1 ++ [(⟨t267, x6_1, t268⟩ : S75)]) (wrap64 (x6_1 + t268))) else (none))) = some r := H
    have A4 := Aside0.mk A40
    clear A40
    by_cases c5 : a1 = true
    ·subst c5
     have H1 : (if t269 = true then (some x5_1) else (if x5_1.length < 5864062014805 then (tremaref01_Decode.l0 k1 l0 true (x5_1 ++ [(⟨t267, x6_1, t268⟩ : S75)]) (wrap64 (x6_1 + t268))) else (none))) = some r := by rw [if_pos rfl] at H; exact H
     clear H
     have H := H1
     clear H1
     by_cases c6 : t269 = true
     ·subst c6
      have H1 : (some x5_1) = some r := by rw [if_pos rfl] at H; exact H
      clear H
      have H := H1
      clear H1
      obtain rfl := Option.some.inj H
      go_wp2_with (first | ((with_reducible refine gate_callee (f := 81) rfl ?_); refine goesL_ (some 17) rfl rfl Tryd.func81 (by kernel_rfl) rfl #[.slice A0 l0.length c0, .int .i64 x6_1] rfl (by (try simp only [List.map_toArray, List.map_cons, List.map_nil]); first | done | rfl | (simp only [List.length_drop, List.length_take]; rfl)) ?_; (with_reducible refine (tremaref01_At.calls k1 _ _ l0 x6_1 t267 t268 true _ ?side1 ?side2 A4.out).mono ?_); (case side1 => repeat (first | exact (Kd.C_below HR0.out HB.out) | (with_reducible refine Kd.C_alloc ?_ _) | (with_reducible refine Kd.C_drewN ?_ _) | (with_reducible refine Kd.C_drew ?_))); (case side2 => exact HC0.out); rintro e w7 ⟨rfl, hb⟩; refine ⟨_, rfl, ?_⟩; have n0_ := Aside0.mk (Kd.R_below (by (with_reducible repeat (first | apply Kd.R_alloc | apply Kd.R_drewN | apply Kd.R_drew)); exact HO_5.out) hb); have n1_ := Aside0.mk (below_step (by repeat (first | (with_reducible first | exact HB.out | apply below_alloc | apply pw_below_drewN | apply below_drew1) | exact HB.out)) hb); clear HO_5; clear HB; have HO_5 := n0_; have HB := n1_; clear n0_ n1_; (try clear hb); (try clear hb2); (try clear hk); (try clear hi)))
      go_ret
      exact ⟨_, by first | rfl | (simp [errW_none, errW_some] <;> rfl) | (simp [*, errW_none, errW_some] <;> rfl), by (with_reducible repeat (first | apply Kd.R_alloc | apply Kd.R_drewN | apply Kd.R_drew)); exact HO_5.out, by repeat (first | (with_reducible first | exact HB.out | apply below_alloc | apply pw_below_drewN | apply below_drew1) | exact HB.out)⟩
     ·replace c6 := Bool.eq_false_iff.mpr c6
      subst c6
      have H1 : (if x5_1.length < 5864062014805 then (tremaref01_Decode.l0 k1 l0 true (x5_1 ++ [(⟨t267, x6_1, t268⟩ : S75)]) (wrap64 (x6_1 + t268))) else (none)) = some r := by rw [if_neg (show ¬ (false = true) by decide)] at H; exact H
      clear H
      have H := H1
      clear H1
      by_cases c8 : x5_1.length < 5864062014805
      ·rw [if_pos c8] at H
       have LMc8 := Aside0.mk c8
       clear c8
       obtain ⟨y270, hy270⟩ : ∃ y_ : List (S75), y_ = (x5_1 ++ [(⟨t267, x6_1, t268⟩ : S75)]) := ⟨_, rfl⟩
       replace H : (tremaref01_Decode.l0 k1 l0 true y270 (wrap64 (x6_1 + t268))) = some r := by first | (rw [hy270]; with_reducible exact H) | (have H2_ := (Option.bind_some _ _).symm.trans H; rw [hy270]; with_reducible exact H2_) | (have H2_ := (Option.bind_some _ _).symm.trans H; with_reducible exact H2_) | with_reducible exact H | (rw [hy270]; exact H) | exact H
       have Ny270 := Aside0.mk hy270
       clear hy270
       have H' := Aside0.mk H
       clear H
       go_wp2_with (first | ((with_reducible refine gate_callee (f := 81) rfl ?_); refine goesL_ (some 17) rfl rfl Tryd.func81 (by kernel_rfl) rfl #[.slice A0 l0.length c0, .int .i64 x6_1] rfl (by (try simp only [List.map_toArray, List.map_cons, List.map_nil]); first | done | rfl | (simp only [List.length_drop, List.length_take]; rfl)) ?_; (with_reducible refine (tremaref01_At.calls k1 _ _ l0 x6_1 t267 t268 false _ ?side1 ?side2 A4.out).mono ?_); (case side1 => repeat (first | exact (Kd.C_below HR0.out HB.out) | (with_reducible refine Kd.C_alloc ?_ _) | (with_reducible refine Kd.C_drewN ?_ _) | (with_reducible refine Kd.C_drew ?_))); (case side2 => exact HC0.out); rintro e w9 ⟨rfl, hb⟩; refine ⟨_, rfl, ?_⟩; have n0_ := Aside0.mk (Kd.R_below (by (with_reducible repeat (first | apply Kd.R_alloc | apply Kd.R_drewN | apply Kd.R_drew)); exact HO_5.out) hb); have n1_ := Aside0.mk (below_step (by repeat (first | (with_reducible first | exact HB.out | apply below_alloc | apply pw_below_drewN | apply below_drew1) | exact HB.out)) hb); clear HO_5; clear HB; have HO_5 := n0_; have HB := n1_; clear n0_ n1_; (try clear hb); (try clear hb2); (try clear hk); (try clear hi)) | ((with_reducible refine gate_builtin (b := .append) (xs := #[.tmp 26, .tmp 31]) rfl ?_); at_builtin; refine Kd.R_append k75 (w0 := w) w.heap.size rfl (.tmp 26) (.tmp 31) 72 75 (.agg #[(.int .i32 0), (.int .i64 0), (.int .i64 0)]) 24 rfl Tryd.underlying72 info75 rfl (by decide) (by omega) u5 x5_1 (⟨t267, x6_1, t268⟩ : S75) [.int .i32 t267, .int .i64 x6_1, .int .i64 t268] (fun _ => True) (fun _ => False) rfl rfl ?aP (fun _ hk => hk.elim) ?aF ?aO ?aB ?aS ?aL ?_; (case aP => exact k75_mkM _ _ _ (⟨t267, x6_1, t268⟩ : S75)); (case aB => exact (by repeat (first | (with_reducible first | exact HB.out | apply below_alloc | apply pw_below_drewN | apply below_drew1) | exact HB.out))); (case aF => exact (fun _ _ => trivial)); (case aO => exact (by (with_reducible repeat (first | apply Kd.R_alloc | apply Kd.R_drewN | apply Kd.R_drew)); exact HO_5.out)); (case aS => exact (below_size (by repeat (first | (with_reducible first | exact HB.out | apply below_alloc | apply pw_below_drewN | apply below_drew1) | exact HB.out)))); (case aL => have := LMc8.out; omega); intro v271 w10 ho hb hg hat; rw [← Ny270.out] at ho; have n0_ := Aside0.mk (hb); have n1_ := Aside0.mk (ho); clear HB; clear HO_5; have HB := n0_; have HO272 := n1_; clear n0_ n1_; clear ho hb hg hat))
       go_roundg k1
       case measure => have := HK1.out; omega
       case rel => exact ⟨(y270), (wrap64 (x6_1 + t268)), (by first | rfl | (simp; done) | (simp [*]; done)), H', ⟨by have := HK1.out; omega⟩, ⟨by (with_reducible repeat (first | apply Kd.R_alloc | apply Kd.R_drewN | apply Kd.R_drew)); exact HO272.out⟩, ⟨by repeat (first | (with_reducible first | exact HB.out | apply below_alloc | apply pw_below_drewN | apply below_drew1) | exact HB.out)⟩⟩
      ·rw [if_neg c8] at H
       exact absurd H (by simp)
    ·replace c5 := Bool.eq_false_iff.mpr c5
     subst c5
     have H1 : (if x5_1.length < 5864062014805 then (tremaref01_Decode.l0 k1 l0 false (x5_1 ++ [(⟨t267, x6_1, t268⟩ : S75)]) (wrap64 (x6_1 + t268))) else (none)) = some r := by rw [if_neg (show ¬ (false = true) by decide)] at H; exact H
     clear H
     have H := H1
     clear H1
     by_cases c11 : x5_1.length < 5864062014805
     ·rw [if_pos c11] at H
      have LMc11 := Aside0.mk c11
      clear c11
      obtain ⟨y273, hy273⟩ : ∃ y_ : List (S75), y_ = (x5_1 ++ [(⟨t267, x6_1, t268⟩ : S75)]) := ⟨_, rfl⟩
      replace H : (tremaref01_Decode.l0 k1 l0 false y273 (wrap64 (x6_1 + t268))) = some r := by first | (rw [hy273]; with_reducible exact H) | (have H2_ := (Option.bind_some _ _).symm.trans H; rw [hy273]; with_reducible exact H2_) | (have H2_ := (Option.bind_some _ _).symm.trans H; with_reducible exact H2_) | with_reducible exact H | (rw [hy273]; exact H) | exact H
      have Ny273 := Aside0.mk hy273
      clear hy273
      have H' := Aside0.mk H
      clear H
      go_wp2_with (first | ((with_reducible refine gate_callee (f := 81) rfl ?_); refine goesL_ (some 17) rfl rfl Tryd.func81 (by kernel_rfl) rfl #[.slice A0 l0.length c0, .int .i64 x6_1] rfl (by (try simp only [List.map_toArray, List.map_cons, List.map_nil]); first | done | rfl | (simp only [List.length_drop, List.length_take]; rfl)) ?_; (with_reducible refine (tremaref01_At.calls k1 _ _ l0 x6_1 t267 t268 t269 _ ?side1 ?side2 A4.out).mono ?_); (case side1 => repeat (first | exact (Kd.C_below HR0.out HB.out) | (with_reducible refine Kd.C_alloc ?_ _) | (with_reducible refine Kd.C_drewN ?_ _) | (with_reducible refine Kd.C_drew ?_))); (case side2 => exact HC0.out); rintro e w12 ⟨rfl, hb⟩; refine ⟨_, rfl, ?_⟩; have n0_ := Aside0.mk (Kd.R_below (by (with_reducible repeat (first | apply Kd.R_alloc | apply Kd.R_drewN | apply Kd.R_drew)); exact HO_5.out) hb); have n1_ := Aside0.mk (below_step (by repeat (first | (with_reducible first | exact HB.out | apply below_alloc | apply pw_below_drewN | apply below_drew1) | exact HB.out)) hb); clear HO_5; clear HB; have HO_5 := n0_; have HB := n1_; clear n0_ n1_; (try clear hb); (try clear hb2); (try clear hk); (try clear hi)) | ((with_reducible refine gate_builtin (b := .append) (xs := #[.tmp 26, .tmp 31]) rfl ?_); at_builtin; refine Kd.R_append k75 (w0 := w) w.heap.size rfl (.tmp 26) (.tmp 31) 72 75 (.agg #[(.int .i32 0), (.int .i64 0), (.int .i64 0)]) 24 rfl Tryd.underlying72 info75 rfl (by decide) (by omega) u5 x5_1 (⟨t267, x6_1, t268⟩ : S75) [.int .i32 t267, .int .i64 x6_1, .int .i64 t268] (fun _ => True) (fun _ => False) rfl rfl ?aP (fun _ hk => hk.elim) ?aF ?aO ?aB ?aS ?aL ?_; (case aP => exact k75_mkM _ _ _ (⟨t267, x6_1, t268⟩ : S75)); (case aB => exact (by repeat (first | (with_reducible first | exact HB.out | apply below_alloc | apply pw_below_drewN | apply below_drew1) | exact HB.out))); (case aF => exact (fun _ _ => trivial)); (case aO => exact (by (with_reducible repeat (first | apply Kd.R_alloc | apply Kd.R_drewN | apply Kd.R_drew)); exact HO_5.out)); (case aS => exact (below_size (by repeat (first | (with_reducible first | exact HB.out | apply below_alloc | apply pw_below_drewN | apply below_drew1) | exact HB.out)))); (case aL => have := LMc11.out; omega); intro v274 w13 ho hb hg hat; rw [← Ny273.out] at ho; have n0_ := Aside0.mk (hb); have n1_ := Aside0.mk (ho); clear HB; clear HO_5; have HB := n0_; have HO275 := n1_; clear n0_ n1_; clear ho hb hg hat))
      go_roundg k1
      case measure => have := HK1.out; omega
      case rel => exact ⟨(y273), (wrap64 (x6_1 + t268)), (by first | rfl | (simp; done) | (simp [*]; done)), H', ⟨by have := HK1.out; omega⟩, ⟨by (with_reducible repeat (first | apply Kd.R_alloc | apply Kd.R_drewN | apply Kd.R_drew)); exact HO275.out⟩, ⟨by repeat (first | (with_reducible first | exact HB.out | apply below_alloc | apply pw_below_drewN | apply below_drew1) | exact HB.out)⟩⟩
     ·rw [if_neg c11] at H
      exact absurd H (by simp)
   ·rw [if_neg c3] at H
    have c3b0 : decide (x6_1 < (l0.length : Int)) = false := decide_eq_false c3
    clear c3
    obtain rfl := Option.some.inj H
    go_wp2
    go_ret
    exact ⟨_, by first | rfl | (simp [errW_none, errW_some] <;> rfl) | (simp [*, errW_none, errW_some] <;> rfl), by (with_reducible repeat (first | apply Kd.R_alloc | apply Kd.R_drewN | apply Kd.R_drew)); exact HO_5.out, by repeat (first | (with_reducible first | exact HB.out | apply below_alloc | apply pw_below_drewN | apply below_drew1) | exact HB.out)⟩
end Go.Proofs.YtiggjbclbdikmaaDoor.X
namespace Go.Proofs.YtiggjbclbdikmaaDoor.Ux
set_option linter.unusedVariables false
set_option linter.unusedSimpArgs false
open Go.RowKit Go.Proofs.YtiggjbclbdikmaaDoorW.PrintWords Go.Proofs.YtiggjbclbdikmaaDoor.Hp Go.Proofs.YtiggjbclbdikmaaDoor.X
def bnd (c : Int) : Option (List (Int × Int)) :=
  if c < 128 then some []
  else if c < 194 ∨ 244 < c then none
  else if c < 224 then some [(128, 191)]
  else if c < 240 then some [(if c = 224 then 160 else 128, if c = 237 then 159 else 191), (128, 191)]
  else some [(if c = 240 then 144 else 128, if c = 244 then 143 else 191), (128, 191), (128, 191)]
def st (c : Int) : Int := if c < 128 then c else if c < 224 then c % 32 else if c < 240 then c % 16 else c % 8
def cont : List (Int × Int) → List Int → Int → Int → Int × Int × Bool
  | [], _, r, i => (r, i, false)
  | _ :: _, [], _, i => (65533, i, true)
  | (lo, hi) :: bs, x :: t, r, i => if x < lo ∨ hi < x then (65533, i, false) else cont bs t (r * 64 + x % 64) (i + 1)
def one1 (c : Int) (t : List Int) : Int × Int × Bool :=
  match bnd c with
  | none => (65533, 1, false)
  | some bs => cont bs t (st c) 1
def Bytes (l : List Int) : Prop := ∀ x, x ∈ l → 0 ≤ x ∧ x ≤ 255
theorem cont_width : ∀ (bs : List (Int × Int)) (t : List Int) (r i : Int), i ≤ (cont bs t r i).2.1 ∧ (cont bs t r i).2.1 ≤ i + bs.length ∧ (cont bs t r i).2.1 ≤ i + t.length
  | [], t, r, i => by simp [cont]; omega
  | b :: bs, [], r, i => by simp [cont]; omega
  | (lo, hi) :: bs, x :: t, r, i => by
    simp only [cont]
    split
    · simp; omega
    · have := cont_width bs t (r * 64 + x % 64) (i + 1)
      simp only [List.length_cons]
      omega
theorem bnd_len {c : Int} {bs : List (Int × Int)} (h : bnd c = some bs) : bs.length ≤ 3 := by
  unfold bnd at h
  split at h
  · cases h; decide
  · split at h
    · cases h
    · split at h
      · cases h; simp
      · split at h
        · cases h; simp
        · cases h; simp
theorem one1_width (c : Int) (t : List Int) : 1 ≤ (one1 c t).2.1 ∧ (one1 c t).2.1 ≤ 4 ∧ (one1 c t).2.1 ≤ 1 + t.length := by
  unfold one1
  cases h : bnd c with
  | none => simp; omega
  | some bs =>
    have h1 := cont_width bs t (st c) 1
    have h2 := bnd_len h
    simp only
    omega
theorem rd_at (l : List Int) (i : Nat) (h : i < l.length) : rd l (i : Int) = l[i] := by simp [rd, List.getD_eq_getElem?_getD, h]
theorem step_r (r x : Int) (h0 : 0 ≤ r) (hr : (r + 1) * 64 ≤ 2097152) (hx : 0 ≤ x ∧ x ≤ 255) : bits .or .i32 (wrap32 (r * 64)) (wrap32 (bits .and .u8 x 63)) = r * 64 + x % 64 := by
  have ea : wrap32 (r * 64) = r * 64 := by unfold wrap32; omega
  have eb : wrap32 (bits .and .u8 x 63) = x % 64 := by rw [u8_and63 x hx.1 (by omega)]; unfold wrap32; omega
  rw [ea, eb]
  exact i32_or6 (r * 64) (x % 64) (by omega) (by omega) (by omega) (by omega) (by omega)
theorem step_p {r x : Int} {p : Nat} (h0 : 0 ≤ r) (hp : 1 ≤ p) (hr : (r + 1) * (64 * p : Nat) ≤ 2097152) : (r + 1) * 64 ≤ 2097152 ∧ (r * 64 + x % 64 + 1) * (p : Int) ≤ 2097152 := by
  have e : ((64 * p : Nat) : Int) = 64 * (p : Int) := by push_cast; rfl
  rw [e, ← Int.mul_assoc] at hr
  have h1 : (r + 1) * 64 * 1 ≤ (r + 1) * 64 * (p : Int) := Int.mul_le_mul_of_nonneg_left (by omega) (by omega)
  have h2 : (r * 64 + x % 64 + 1) * (p : Int) ≤ (r + 1) * 64 * (p : Int) := Int.mul_le_mul_of_nonneg_right (by omega) (by omega)
  exact ⟨by omega, Int.le_trans h2 hr⟩
theorem loop_cont (l : List Int) (hb : Bytes l) (hl : l.length ≤ 140737488355328) : ∀ (bs : List (Int × Int)) (k i : Nat) (r lo hi : Int), (∀ b, b ∈ bs.tail → b = (128, 191)) → (∀ b, bs.head? = some b → b = (lo, hi)) → bs.length < k → 0 ≤ r → (r + 1) * (64 ^ bs.length : Nat) ≤ 2097152 → i ≤ l.length →
    utf_one.l0 k l r ((i : Int) + bs.length) lo hi i = some (cont bs (l.drop i) r i)
  | [], k, i, r, lo, hi, _, _, hk, _, _, _ => by
    obtain ⟨k, rfl⟩ : ∃ m, k = m + 1 := ⟨k - 1, by omega⟩
    simp only [utf_one.l0, List.length_nil]
    rw [if_neg (by omega)]
    simp [cont]
  | (lo', hi') :: bs, k, i, r, lo, hi, ht, hh, hk, h0, hr, hi1 => by
    obtain ⟨k, rfl⟩ : ∃ m, k = m + 1 := ⟨k - 1, by omega⟩
    have e := hh _ rfl
    injection e with e1 e2
    subst e1
    subst e2
    simp only [List.length_cons] at hk hr ⊢
    simp only [utf_one.l0]
    rw [if_pos (by omega)]
    by_cases he : i = l.length
    · rw [if_pos (by omega), List.drop_eq_nil_of_le (by omega)]
      simp [cont]
    · have hlt : i < l.length := by omega
      rw [if_neg (by omega), if_pos (by omega), if_pos (by omega), rd_at l i hlt, List.drop_eq_getElem_cons hlt]
      have hx := hb l[i] (List.getElem_mem hlt)
      obtain ⟨x, hxe⟩ : ∃ x, x = l[i] := ⟨_, rfl⟩
      rw [← hxe] at hx ⊢
      simp only [cont]
      by_cases h1 : x < lo'
      · rw [if_pos h1, if_pos (.inl h1)]
      · rw [if_neg h1]
        by_cases h2 : x > hi'
        · rw [if_pos h2, if_pos (.inr h2)]
        · rw [if_neg h2, if_neg (by omega)]
          have hp := step_p (x := x) h0 (Nat.one_le_pow bs.length 64 (by omega)) (by rw [Nat.pow_succ, Nat.mul_comm] at hr; exact hr)
          have ew : wrap64 ((i : Int) + 1) = ((i + 1 : Nat) : Int) := by clear hr hp; unfold wrap64; omega
          have ei : ((i : Int) + ((bs.length + 1 : Nat) : Int)) = (((i + 1 : Nat) : Int) + (bs.length : Int)) := by clear hr hp; omega
          rw [step_r r x h0 hp.1 hx, ew, ei]
          have h0' : 0 ≤ r * 64 + x % 64 := by clear hr hp; omega
          have ih := loop_cont l hb hl bs k (i + 1) (r * 64 + x % 64) 128 191 (fun b hb => ht b (List.mem_of_mem_tail hb)) (fun b hb2 => ht b (List.mem_of_mem_head? hb2)) (by clear hr hp; omega) h0' hp.2 (by clear hr hp; omega)
          rw [ih]
          push_cast
          rfl
theorem lead_some (c : Int) (h : 0 ≤ c ∧ c ≤ 255) : ∃ lo hi, utf_lead.f 8 c = some ((match bnd c with | none => 0 | some bs => (bs.length : Int) + 1), (match bnd c with | none => 0 | some _ => st c), lo, hi) ∧ ∀ b, (bnd c).bind List.head? = some b → b = (lo, hi) := by
  unfold utf_lead.f bnd st
  by_cases h1 : c < 128
  · simp only [if_pos h1]
    refine ⟨128, 191, ?_, by simp⟩
    have : wrap32 c = c := by unfold wrap32; omega
    simp [this]
  · simp only [if_neg h1]
    by_cases h2 : c < 194
    · simp only [if_pos h2, if_pos (show c < 194 ∨ 244 < c from .inl h2), utf_lead.j0, if_true]
      exact ⟨_, _, rfl, by simp⟩
    · simp only [if_neg h2]
      by_cases h3 : c > 244
      · simp only [if_pos (show c < 194 ∨ 244 < c from .inr h3), decide_eq_true h3, utf_lead.j0, if_true]
        exact ⟨_, _, rfl, by simp⟩
      · simp only [if_neg (show ¬ (c < 194 ∨ 244 < c) by omega), decide_eq_false h3, utf_lead.j0, Bool.false_eq_true, if_false]
        have e31 : wrap32 (bits .and .u8 c 31) = c % 32 := by rw [u8_and31 c h.1 (by omega)]; unfold wrap32; omega
        have e15 : wrap32 (bits .and .u8 c 15) = c % 16 := by rw [u8_and15 c h.1 (by omega)]; unfold wrap32; omega
        have e7 : wrap32 (bits .and .u8 c 7) = c % 8 := by rw [u8_and7 c h.1 (by omega)]; unfold wrap32; omega
        rw [e31, e15, e7]
        by_cases h4 : c < 224
        · simp only [if_pos h4]
          exact ⟨_, _, rfl, by simp⟩
        · simp only [if_neg h4]
          by_cases h5 : c < 240
          · simp only [if_pos h5]
            by_cases h6 : c = 224
            · simp only [if_pos h6]
              exact ⟨_, _, rfl, by subst h6; simp⟩
            · simp only [if_neg h6]
              by_cases h7 : c = 237
              · simp only [if_pos h7]
                exact ⟨_, _, rfl, by subst h7; simp⟩
              · simp only [if_neg h7]
                exact ⟨_, _, rfl, by simp⟩
          · simp only [if_neg h5]
            by_cases h6 : c = 240
            · simp only [if_pos h6]
              exact ⟨_, _, rfl, by subst h6; simp⟩
            · simp only [if_neg h6]
              by_cases h7 : c = 244
              · simp only [if_pos h7]
                exact ⟨_, _, rfl, by subst h7; simp⟩
              · simp only [if_neg h7]
                exact ⟨_, _, rfl, by simp⟩
theorem bnd_tail {c : Int} {bs : List (Int × Int)} (h : bnd c = some bs) : ∀ b, b ∈ bs.tail → b = (128, 191) := by
  unfold bnd at h
  split at h
  · cases h; simp
  · split at h
    · cases h
    · split at h
      · cases h; simp
      · split at h
        · cases h; simp
        · cases h; simp
theorem st_bound {c : Int} {bs : List (Int × Int)} (hc : 0 ≤ c ∧ c ≤ 255) (h : bnd c = some bs) : 0 ≤ st c ∧ (st c + 1) * (64 ^ bs.length : Nat) ≤ 2097152 := by
  unfold bnd at h
  unfold st
  split at h
  · rename_i h1; cases h; rw [if_pos h1]; simp; omega
  · rename_i h1
    rw [if_neg h1]
    split at h
    · cases h
    · split at h
      · rename_i h2; cases h; rw [if_pos h2]; simp; omega
      · rename_i h2
        rw [if_neg h2]
        split at h
        · rename_i h3; cases h; rw [if_pos h3]; simp; omega
        · rename_i h3; cases h; rw [if_neg h3]; simp; omega
theorem one_pure (c : Int) (t : List Int) (hb : Bytes (c :: t)) (hl : (c :: t).length ≤ 140737488355328) : utf_one.f 8 (c :: t) = some (one1 c t) := by
  have hc := hb c List.mem_cons_self
  obtain ⟨lo, hi, hlead, hhead⟩ := lead_some c hc
  unfold utf_one.f
  rw [if_pos (by simp), show rd (c :: t) 0 = c from rfl, hlead]
  simp only [Option.bind_some, one1]
  cases h : bnd c with
  | none => simp
  | some bs =>
    simp only
    rw [if_neg (by omega)]
    have := loop_cont (c :: t) hb hl bs 8 1 (st c) lo hi (bnd_tail h) (fun b hb2 => hhead b (by rw [h]; exact hb2)) (by have := bnd_len h; omega) (st_bound hc h).1 (st_bound hc h).2 (by simp)
    rw [show (bs.length : Int) + 1 = ((1 : Nat) : Int) + bs.length by omega]
    simpa using this
end Go.Proofs.YtiggjbclbdikmaaDoor.Ux
namespace Go.Proofs.YtiggjbclbdikmaaDoor.Ux
set_option linter.unusedVariables false
set_option linter.unusedSimpArgs false
open Go.RowKit Go.Proofs.YtiggjbclbdikmaaDoorW.PrintWords Go.Proofs.YtiggjbclbdikmaaDoor.Hp Go.Proofs.YtiggjbclbdikmaaDoor.X
def flat : List (Int × Int) → List Int
  | [] => []
  | (a, b) :: l => a :: b :: flat l
theorem flat_len : ∀ bs, (flat bs).length = 2 * bs.length
  | [] => rfl
  | (a, b) :: l => by simp [flat, flat_len l]; omega
theorem flat_get : ∀ (bs : List (Int × Int)) (j : Nat) (h : j < bs.length), (flat bs).getD (2 * j) 0 = bs[j].1 ∧ (flat bs).getD (2 * j + 1) 0 = bs[j].2
  | (a, b) :: l, 0, _ => by simp [flat]
  | (a, b) :: l, j + 1, h => by
    have := flat_get l j (by simpa using h)
    rw [show 2 * (j + 1) = 2 * j + 2 by omega, show 2 * j + 2 + 1 = 2 * j + 1 + 2 by omega]
    simpa [flat, List.getD_eq_getElem?_getD] using this
theorem row_some (c : Int) (h : 0 ≤ c ∧ c ≤ 255) : tremaref01_row.f 8 c = some (match bnd c with | none => ([], false) | some bs => (flat bs, true)) := by
  unfold tremaref01_row.f bnd
  by_cases h1 : c < 128
  · rw [if_pos (by omega), if_pos h1]; rfl
  · rw [if_neg (by omega), if_neg h1]
    by_cases h2 : c ≥ 194
    · rw [if_pos h2]
      by_cases h3 : c < 224
      · rw [if_neg (by omega), if_pos h3, decide_eq_true (show c ≤ 223 by omega)]
        simp [tremaref01_row.j0, flat]
      · rw [decide_eq_false (show ¬ c ≤ 223 by omega)]
        simp only [tremaref01_row.j0, Bool.false_eq_true, if_false]
        by_cases h4 : c = 224
        · subst h4; rfl
        · rw [if_neg h4]
          by_cases h5 : c = 237
          · subst h5; rfl
          · rw [if_neg h5, if_pos (by omega)]
            by_cases h6 : c < 240
            · rw [decide_eq_true (show c ≤ 239 by omega), if_neg (by omega), if_neg h3, if_pos h6]
              simp [tremaref01_row.j1, flat, h4, h5]
            · rw [decide_eq_false (show ¬ c ≤ 239 by omega)]
              simp only [tremaref01_row.j1, Bool.false_eq_true, if_false]
              by_cases h7 : c = 240
              · subst h7; rfl
              · rw [if_neg h7, if_pos (by omega)]
                by_cases h8 : c ≤ 243
                · rw [decide_eq_true h8, if_neg (by omega), if_neg h3, if_neg h6]
                  simp [tremaref01_row.j2, flat, h7, show ¬ c = 244 by omega]
                · rw [decide_eq_false h8]
                  simp only [tremaref01_row.j2, Bool.false_eq_true, if_false]
                  by_cases h9 : c = 244
                  · subst h9; rfl
                  · rw [if_neg h9, if_pos (by omega)]
    · rw [if_neg h2, if_pos (by omega)]
      simp only [tremaref01_row.j0, Bool.false_eq_true, if_false]
      rw [if_neg (by omega), if_neg (by omega), if_neg (by omega)]
      simp only [tremaref01_row.j1, Bool.false_eq_true, if_false]
      rw [if_neg (by omega), if_neg (by omega)]
      simp only [tremaref01_row.j2, Bool.false_eq_true, if_false]
      rw [if_neg (by omega)]
def mt : List (Int × Int) → List Int → Nat
  | [], _ => 0
  | _ :: _, [] => 0
  | (lo, hi) :: bs, x :: t => if x < lo ∨ hi < x then 0 else mt bs t + 1
def fold (r : Int) (l : List Int) : Int := l.foldl (fun r x => r * 64 + x % 64) r
theorem mt_le : ∀ (bs : List (Int × Int)) (t : List Int), mt bs t ≤ bs.length ∧ mt bs t ≤ t.length
  | [], t => by simp [mt]
  | _ :: _, [] => by simp [mt]
  | (lo, hi) :: bs, x :: t => by
    have := mt_le bs t
    simp only [mt]
    split <;> simp <;> omega
theorem cont_mt : ∀ (bs : List (Int × Int)) (t : List Int) (r i : Int), cont bs t r i = if mt bs t = bs.length then (fold r (t.take bs.length), i + bs.length, false) else (65533, i + mt bs t, decide (mt bs t = t.length))
  | [], t, r, i => by simp [cont, mt, fold]
  | b :: bs, [], r, i => by simp [cont, mt]
  | (lo, hi) :: bs, x :: t, r, i => by
    simp only [cont, mt]
    split
    · simp
    · rw [cont_mt bs t]
      simp only [List.length_cons, Nat.add_right_cancel_iff]
      split
      · simp only [List.take_succ_cons, fold, List.foldl_cons]
        congr 2
        push_cast; omega
      · congr 2
        · push_cast; omega
theorem step_r2 (r x : Int) (h0 : 0 ≤ r) (hr : (r + 1) * 64 ≤ 2097152) (hx : 0 ≤ x ∧ x ≤ 255) : wrap32 ((wrap32 (r * 64)) + (Int.tmod (wrap32 x) 64)) = r * 64 + x % 64 := by
  have e1 : wrap32 (r * 64) = r * 64 := by unfold wrap32; omega
  have e2 : wrap32 x = x := by unfold wrap32; omega
  rw [e1, e2, Int.tmod_eq_emod_of_nonneg hx.1]
  unfold wrap32
  omega
theorem l1_step (l : List Int) (hl : l.length ≤ 140737488355328) (at_ n j k : Nat) (r : Int) (h1 : j < n) (hlt : at_ + j < l.length) (x : Int) (hxe : x = l[at_ + j]) (hx : 0 ≤ x ∧ x ≤ 255) (h0 : 0 ≤ r) (hr : (r + 1) * 64 ≤ 2097152) :
    tremaref01_At.l1 (k + 1) l at_ (n : Int) r j = tremaref01_At.l1 k l at_ (n : Int) (r * 64 + x % 64) ((j + 1 : Nat) : Int) := by
  have ea : wrap64 ((at_ : Int) + j) = ((at_ + j : Nat) : Int) := by unfold wrap64; omega
  have ew : wrap64 ((j : Int) + 1) = ((j + 1 : Nat) : Int) := by unfold wrap64; omega
  simp only [tremaref01_At.l1]
  rw [if_pos (by omega), ea, if_pos (by omega), if_pos (by omega), rd_at l _ hlt, ew, ← hxe, step_r2 r x h0 hr hx]
theorem fold_cons (r x : Int) (t : List Int) : fold r (x :: t) = fold (r * 64 + x % 64) t := rfl
theorem l1_pure (l : List Int) (hb : Bytes l) (hl : l.length ≤ 140737488355328) (at_ : Nat) (n : Nat) (hn : n ≤ 8) (han : at_ + n ≤ l.length) : ∀ (d j k : Nat) (r : Int), n - j = d → j ≤ n → d < k → 0 ≤ r → (r + 1) * (64 ^ d : Nat) ≤ 2097152 →
    tremaref01_At.l1 k l at_ (n : Int) r j = some (fold r ((l.drop (at_ + j)).take d), (n : Int), false) := by
  intro d
  induction d with
  | zero =>
    intro j k r hd hj hk _ _
    obtain ⟨k, rfl⟩ : ∃ m, k = m + 1 := ⟨k - 1, by omega⟩
    simp only [tremaref01_At.l1]
    rw [if_neg (by omega)]
    simp [fold]
  | succ d ih =>
    intro j k r hd hj hk h0 hr
    obtain ⟨k, rfl⟩ : ∃ m, k = m + 1 := ⟨k - 1, by clear hr; omega⟩
    have hlt : at_ + j < l.length := by clear hr; omega
    have hx := hb l[at_ + j] (List.getElem_mem hlt)
    have hp := step_p (x := l[at_ + j]) h0 (Nat.one_le_pow d 64 (by decide)) (by rw [Nat.pow_succ, Nat.mul_comm] at hr; exact hr)
    clear hr
    have h5 : 0 ≤ r * 64 + l[at_ + j] % 64 := by clear hp ih; omega
    rw [l1_step l hl at_ n j k r (by clear hp ih; omega) hlt _ rfl hx h0 hp.1, ih (j + 1) k _ (by clear hp ih; omega) (by clear hp ih; omega) (by clear hp ih; omega) h5 hp.2, List.drop_eq_getElem_cons hlt, List.take_succ_cons, fold_cons]
    rfl
def fin (l : List Int) (at_ : Nat) (c : Int) (bs : List (Int × Int)) (m : Nat) : Int × Int × Bool :=
  if m < bs.length then (65533, 1 + (m : Int), decide (at_ + 1 + m = l.length)) else (fold (st c) ((l.drop (at_ + 1)).take m), 1 + (m : Int), false)
theorem j1_pure (l : List Int) (hb : Bytes l) (hl : l.length ≤ 140737488355328) (at_ : Nat) (hat : at_ < l.length) (bs : List (Int × Int)) (hbs : bnd l[at_] = some bs) (m k : Nat) (hm : m ≤ bs.length) (hm2 : at_ + 1 + m ≤ l.length) (hk : m + 3 < k) :
    tremaref01_At.j1 k l at_ (flat bs) (1 + (m : Int)) = some (fin l at_ l[at_] bs m) := by
  obtain ⟨k, rfl⟩ : ∃ q, k = q + 1 := ⟨k - 1, by omega⟩
  have hc := hb l[at_] (List.getElem_mem hat)
  have hs := st_bound hc hbs
  have h3 := bnd_len hbs
  have ef : wrap64 (((flat bs).length : Int) / 2) = bs.length := by rw [flat_len]; unfold wrap64; omega
  simp only [tremaref01_At.j1]
  rw [ef]
  unfold fin
  by_cases h1 : m < bs.length
  · rw [if_pos (by omega), if_pos h1]
    have ea : wrap64 ((at_ : Int) + (1 + m)) = ((at_ + 1 + m : Nat) : Int) := by unfold wrap64; omega
    rw [ea]
    congr 3
    rw [Bool.eq_iff_iff]
    simp only [beq_iff_eq, decide_eq_true_eq]
    omega
  · obtain rfl : m = bs.length := by omega
    rw [if_neg (by omega), if_neg h1]
    have hw : wrap32 l[at_] = l[at_] := by clear hs; unfold wrap32; omega
    by_cases h0 : bs.length = 0
    · rw [if_pos (by omega), if_pos (by omega), if_pos (by omega), rd_at l at_ hat, hw, h0]
      have : st l[at_] = l[at_] := by
        unfold bnd at hbs
        unfold st
        split at hbs
        · rename_i h; rw [if_pos h]
        · split at hbs
          · cases hbs
          · split at hbs
            · cases hbs; simp at h0
            · split at hbs
              · cases hbs; simp at h0
              · cases hbs; simp at h0
      simp [fold, this]
    · rw [if_neg (by omega), if_pos (by omega), if_pos (by omega)]
      have e7 : wrap64 (7 - (1 + (bs.length : Int))) = 6 - bs.length := by clear hs; unfold wrap64; omega
      rw [e7, if_pos (by omega), rd_at l at_ hat, hw]
      have hsh : (shl .i32 1 (6 - (bs.length : Int))) ≠ 0 ∧ Int.tmod l[at_] (shl .i32 1 (6 - (bs.length : Int))) = st l[at_] := by
        unfold bnd at hbs
        unfold st
        split at hbs
        · cases hbs; simp at h0
        · rename_i g1
          rw [if_neg g1]
          split at hbs
          · cases hbs
          · split at hbs
            · rename_i g3; cases hbs
              rw [if_pos g3]
              exact ⟨by decide, by rw [show shl .i32 1 (6 - (([(128, 191)] : List (Int × Int)).length : Int)) = 32 by decide, Int.tmod_eq_emod_of_nonneg hc.1]⟩
            · rename_i g3
              rw [if_neg g3]
              split at hbs
              · rename_i g4; cases hbs
                rw [if_pos g4]
                simp only [List.length_cons, List.length_nil]
                exact ⟨by decide, by rw [show shl .i32 1 (6 - ((0 + 1 + 1 : Nat) : Int)) = 16 by decide, Int.tmod_eq_emod_of_nonneg hc.1]⟩
              · rename_i g4; cases hbs
                rw [if_neg g4]
                simp only [List.length_cons, List.length_nil]
                exact ⟨by decide, by rw [show shl .i32 1 (6 - ((0 + 1 + 1 + 1 : Nat) : Int)) = 8 by decide, Int.tmod_eq_emod_of_nonneg hc.1]⟩
      rw [if_neg hsh.1, hsh.2]
      have := l1_pure l hb hl at_ (1 + bs.length) (by clear hs; omega) (by clear hs; omega) bs.length 1 k (st l[at_]) (by clear hs; omega) (by clear hs; omega) (by clear hs; omega) hs.1 hs.2
      rw [show ((1 : Int) + (bs.length : Int)) = ((1 + bs.length : Nat) : Int) by push_cast; rfl]
      exact this
theorem ef_len {bs : List (Int × Int)} (h3 : bs.length ≤ 3) : wrap64 (((flat bs).length : Int) / 2) = bs.length := by
  rw [flat_len]; unfold wrap64; omega
theorem rd_flat {bs : List (Int × Int)} {j : Nat} (hj : j < bs.length) : rd (flat bs) ((2 * j : Nat) : Int) = bs[j].1 ∧ rd (flat bs) ((2 * j + 1 : Nat) : Int) = bs[j].2 := by
  have hg := flat_get bs j hj
  simp only [rd, Int.toNat_natCast]
  exact hg
theorem l0_stop (l : List Int) (at_ k : Nat) (bs : List (Int × Int)) (h3 : bs.length ≤ 3) : tremaref01_At.l0 (k + 1) l at_ (flat bs) (1 + (bs.length : Int)) = tremaref01_At.j1 k l at_ (flat bs) (1 + (bs.length : Int)) := by
  simp only [tremaref01_At.l0]
  rw [ef_len h3, if_neg (by omega)]
theorem l0_end (l : List Int) (hl : l.length ≤ 140737488355328) (at_ k j : Nat) (bs : List (Int × Int)) (h3 : bs.length ≤ 3) (hj : j < bs.length) (he : at_ + 1 + j = l.length) : tremaref01_At.l0 (k + 1) l at_ (flat bs) (1 + (j : Int)) = tremaref01_At.j1 k l at_ (flat bs) (1 + (j : Int)) := by
  have ea : wrap64 ((at_ : Int) + (1 + j)) = ((at_ + 1 + j : Nat) : Int) := by unfold wrap64; omega
  simp only [tremaref01_At.l0]
  rw [ef_len h3, if_pos (by omega), ea, if_neg (by omega)]
theorem l0_step (l : List Int) (hl : l.length ≤ 140737488355328) (at_ k j : Nat) (bs : List (Int × Int)) (h3 : bs.length ≤ 3) (hj : j < bs.length) (he : at_ + 1 + j < l.length) :
    tremaref01_At.l0 (k + 1) l at_ (flat bs) (1 + (j : Int)) = if l[at_ + 1 + j] < bs[j].1 ∨ bs[j].2 < l[at_ + 1 + j] then tremaref01_At.j1 k l at_ (flat bs) (1 + (j : Int)) else tremaref01_At.l0 k l at_ (flat bs) (1 + ((j + 1 : Nat) : Int)) := by
  have ea : wrap64 ((at_ : Int) + (1 + j)) = ((at_ + 1 + j : Nat) : Int) := by unfold wrap64; omega
  have e2 : wrap64 ((wrap64 (2 * (1 + (j : Int)))) - 2) = ((2 * j : Nat) : Int) := by unfold wrap64; omega
  have e3 : wrap64 ((wrap64 (2 * (1 + (j : Int)))) - 1) = ((2 * j + 1 : Nat) : Int) := by unfold wrap64; omega
  have ew : wrap64 ((1 + (j : Int)) + 1) = 1 + ((j + 1 : Nat) : Int) := by unfold wrap64; omega
  have hf := flat_len bs
  simp only [tremaref01_At.l0]
  rw [ef_len h3, if_pos (by omega), ea, e2, e3, ew, if_pos (by omega), if_pos (by omega), if_pos (by omega), if_pos (by omega), rd_at l _ he, (rd_flat hj).1, (rd_flat hj).2]
  by_cases h1 : l[at_ + 1 + j] ≥ bs[j].1
  · rw [if_pos h1, if_pos (by omega), if_pos (by omega)]
    by_cases h2 : l[at_ + 1 + j] ≤ bs[j].2
    · rw [if_pos h2, if_neg (by omega)]
    · rw [if_neg h2, if_pos (by omega)]
  · rw [if_neg h1, if_pos (by omega)]
theorem l0_pure (l : List Int) (hb : Bytes l) (hl : l.length ≤ 140737488355328) (at_ : Nat) (hat : at_ < l.length) (bs : List (Int × Int)) (hbs : bnd l[at_] = some bs) : ∀ (d j k : Nat), bs.length - j = d → j ≤ bs.length → at_ + 1 + j ≤ l.length → bs.length + d + 6 < k →
    tremaref01_At.l0 k l at_ (flat bs) (1 + (j : Int)) = some (fin l at_ l[at_] bs (j + mt (bs.drop j) (l.drop (at_ + 1 + j)))) := by
  have h3 := bnd_len hbs
  intro d
  induction d with
  | zero =>
    intro j k hd hj hj2 hk
    obtain ⟨k, rfl⟩ : ∃ q, k = q + 1 := ⟨k - 1, by omega⟩
    obtain rfl : j = bs.length := by omega
    rw [l0_stop l at_ k bs h3, j1_pure l hb hl at_ hat bs hbs bs.length k (Nat.le_refl _) hj2 (by omega), List.drop_length]
    rfl
  | succ d ih =>
    intro j k hd hj hj2 hk
    obtain ⟨k, rfl⟩ : ∃ q, k = q + 1 := ⟨k - 1, by omega⟩
    have hjl : j < bs.length := by omega
    have hj1 := j1_pure l hb hl at_ hat bs hbs j k hj hj2 (by omega)
    by_cases he : at_ + 1 + j < l.length
    · have em : mt (bs.drop j) (l.drop (at_ + 1 + j)) = if l[at_ + 1 + j] < bs[j].1 ∨ bs[j].2 < l[at_ + 1 + j] then 0 else mt (bs.drop (j + 1)) (l.drop (at_ + 1 + (j + 1))) + 1 := by
        rw [List.drop_eq_getElem_cons hjl, List.drop_eq_getElem_cons he]
        rfl
      rw [l0_step l hl at_ k j bs h3 hjl he, em]
      by_cases hc : l[at_ + 1 + j] < bs[j].1 ∨ bs[j].2 < l[at_ + 1 + j]
      · rw [if_pos hc, if_pos hc, hj1]
        rfl
      · rw [if_neg hc, if_neg hc, ih (j + 1) k (by omega) (by omega) (by omega) (by omega)]
        rw [show j + 1 + mt (bs.drop (j + 1)) (l.drop (at_ + 1 + (j + 1))) = j + (mt (bs.drop (j + 1)) (l.drop (at_ + 1 + (j + 1))) + 1) from by omega]
    · rw [l0_end l hl at_ k j bs h3 hjl (by omega), hj1, List.drop_eq_nil_of_le (i := at_ + 1 + j) (by omega), List.drop_eq_getElem_cons hjl]
      rfl
theorem at_pure (l : List Int) (hb : Bytes l) (hl : l.length ≤ 140737488355328) (at_ : Nat) (hat : at_ < l.length) : tremaref01_At.f 20 l at_ = some (one1 l[at_] (l.drop (at_ + 1))) := by
  have hc := hb l[at_] (List.getElem_mem hat)
  have hrow : tremaref01_row.f 20 l[at_] = some (match bnd l[at_] with | none => ([], false) | some bs => (flat bs, true)) :=
    at_rounds (fun k => tremaref01_row.mono l[at_] k) (by omega) (row_some l[at_] hc)
  unfold tremaref01_At.f
  rw [if_pos (by omega), if_pos (by omega), rd_at l at_ hat, hrow]
  simp only [Option.bind_some, one1]
  cases h : bnd l[at_] with
  | none => simp
  | some bs =>
    have h3 := bnd_len h
    have := l0_pure l hb hl at_ hat bs h bs.length 0 20 rfl (Nat.zero_le _) (by omega) (by omega)
    have hm := mt_le bs (l.drop (at_ + 1))
    rw [Nat.zero_add, Nat.add_zero, List.drop_zero] at this
    simp only [if_true]
    rw [show (1 : Int) = 1 + ((0 : Nat) : Int) from rfl, this, cont_mt]
    unfold fin
    by_cases h4 : mt bs (l.drop (at_ + 1)) = bs.length
    · rw [if_neg (by omega), if_pos h4, h4]; rfl
    · have hlt : mt bs (l.drop (at_ + 1)) < bs.length := by omega
      rw [if_pos hlt, if_neg h4]
      have e : decide (at_ + 1 + mt bs (l.drop (at_ + 1)) = l.length) = decide (mt bs (l.drop (at_ + 1)) = (l.drop (at_ + 1)).length) := by
        rw [Bool.eq_iff_iff]
        simp only [decide_eq_true_eq, List.length_drop]
        omega
      rw [e]
      rfl
end Go.Proofs.YtiggjbclbdikmaaDoor.Ux
namespace Go.Proofs.YtiggjbclbdikmaaDoor.Ux
set_option linter.unusedVariables false
set_option linter.unusedSimpArgs false
open Go.RowKit Go.Proofs.YtiggjbclbdikmaaDoorW.PrintWords Go.Proofs.YtiggjbclbdikmaaDoor.Hp Go.Proofs.YtiggjbclbdikmaaDoor.X
def dec : Nat → List Int → Int → List S75 × List Int × Int
  | 0, b, p => ([], b, p)
  | _ + 1, [], p => ([], [], p)
  | k + 1, c :: t, p =>
    if (one1 c t).2.2 = true then ([], c :: t, p)
    else ((⟨(one1 c t).1, p, (one1 c t).2.1⟩ : S75) :: (dec k ((c :: t).drop (one1 c t).2.1.toNat) (p + (one1 c t).2.1)).1, (dec k ((c :: t).drop (one1 c t).2.1.toNat) (p + (one1 c t).2.1)).2)
def dc (b : List Int) (p : Int) : List S75 × List Int × Int := dec b.length b p
def rest1 (b : List Int) (p : Int) : List S75 := if b = [] then [] else [⟨65533, p, b.length⟩]
def full (b : List Int) : List S75 := (dc b 0).1 ++ rest1 (dc b 0).2.1 (dc b 0).2.2
theorem drop_lt (c : Int) (t : List Int) : ((c :: t).drop (one1 c t).2.1.toNat).length ≤ t.length := by
  have := one1_width c t
  rw [List.length_drop, List.length_cons]
  omega
theorem dec_more : ∀ (k : Nat) (b : List Int) (p : Int), b.length ≤ k → dec k b p = dc b p
  | 0, [], p, _ => rfl
  | 0, c :: t, p, h => by simp at h
  | k + 1, [], p, _ => rfl
  | k + 1, c :: t, p, h => by
    have hd := drop_lt c t
    have h' : t.length ≤ k := by simpa using h
    unfold dc
    rw [List.length_cons]
    simp only [dec]
    rw [dec_more k _ _ (by omega), dec_more t.length _ _ hd]
theorem dc_nil (p : Int) : dc [] p = ([], [], p) := rfl
theorem dc_cons (c : Int) (t : List Int) (p : Int) : dc (c :: t) p = if (one1 c t).2.2 = true then ([], c :: t, p) else ((⟨(one1 c t).1, p, (one1 c t).2.1⟩ : S75) :: (dc ((c :: t).drop (one1 c t).2.1.toNat) (p + (one1 c t).2.1)).1, (dc ((c :: t).drop (one1 c t).2.1.toNat) (p + (one1 c t).2.1)).2) := by
  rw [dc, List.length_cons]
  simp only [dec]
  rw [dec_more t.length _ _ (drop_lt c t)]
theorem dc_ind {P : List Int → Int → Prop} (h0 : ∀ p, P [] p) (h1 : ∀ c t p, (one1 c t).2.2 = true → P (c :: t) p) (h2 : ∀ c t p, (one1 c t).2.2 = false → P ((c :: t).drop (one1 c t).2.1.toNat) (p + (one1 c t).2.1) → P (c :: t) p) : ∀ b p, P b p := by
  intro b
  induction hn : b.length using Nat.strongRecOn generalizing b with
  | _ n ih =>
    intro p
    cases b with
    | nil => exact h0 p
    | cons c t =>
      cases hm : (one1 c t).2.2 with
      | true => exact h1 c t p hm
      | false =>
        have hd := drop_lt c t
        exact h2 c t p hm (ih _ (by rw [← hn, List.length_cons]; omega) _ rfl _)
theorem dc_len (b : List Int) (p : Int) : (dc b p).2.2 + (dc b p).2.1.length = p + b.length ∧ (dc b p).1.length + (dc b p).2.1.length ≤ b.length ∧ (dc b p).2.1.length ≤ b.length := by
  refine dc_ind (P := fun b p => (dc b p).2.2 + (dc b p).2.1.length = p + b.length ∧ (dc b p).1.length + (dc b p).2.1.length ≤ b.length ∧ (dc b p).2.1.length ≤ b.length) ?_ ?_ ?_ b p
  · intro p; simp [dc_nil]
  · intro c t p h; rw [dc_cons, if_pos h]; simp
  · intro c t p h ih
    have hw := one1_width c t
    rw [dc_cons, if_neg (by simp [h])]
    simp only [List.length_drop, List.length_cons] at ih ⊢
    omega
theorem cont_more : ∀ (bs : List (Int × Int)) (t : List Int) (r i : Int), (cont bs t r i).2.2 = true → (cont bs t r i).1 = 65533 ∧ (cont bs t r i).2.1 = i + t.length ∧ t.length < bs.length
  | [], t, r, i, h => by simp [cont] at h
  | b :: bs, [], r, i, h => by simp [cont]
  | (lo, hi) :: bs, x :: t, r, i, h => by
    simp only [cont] at h ⊢
    split
    · rename_i hc; rw [if_pos hc] at h; simp at h
    · rename_i hc
      rw [if_neg hc] at h
      have := cont_more bs t _ _ h
      simp only [List.length_cons]
      refine ⟨this.1, by rw [this.2.1]; push_cast; omega, by omega⟩
theorem one1_more (c : Int) (t : List Int) (h : (one1 c t).2.2 = true) : (one1 c t).1 = 65533 ∧ (one1 c t).2.1 = 1 + t.length ∧ t.length < 3 := by
  unfold one1 at h ⊢
  cases hb : bnd c with
  | none => rw [hb] at h; simp at h
  | some bs =>
    rw [hb] at h
    have h1 := cont_more bs t _ _ h
    have h2 := bnd_len hb
    exact ⟨h1.1, h1.2.1, by omega⟩
theorem dc_rest (b : List Int) (p : Int) : (dc b p).2.1.length ≤ 3 ∧ (dc (dc b p).2.1 (dc b p).2.2) = ([], (dc b p).2.1, (dc b p).2.2) := by
  refine dc_ind (P := fun b p => (dc b p).2.1.length ≤ 3 ∧ (dc (dc b p).2.1 (dc b p).2.2) = ([], (dc b p).2.1, (dc b p).2.2)) ?_ ?_ ?_ b p
  · intro p; simp [dc_nil]
  · intro c t p h
    have h3 := one1_more c t h
    rw [dc_cons, if_pos h]
    simp only [List.length_cons]
    exact ⟨by omega, by rw [dc_cons, if_pos h]⟩
  · intro c t p h ih
    rw [dc_cons, if_neg (by simp [h])]
    exact ih
theorem bytes_drop {l : List Int} (h : Bytes l) (n : Nat) : Bytes (l.drop n) := fun x hx => h x (List.mem_of_mem_drop hx)
theorem ref_dec (l : List Int) (hb : Bytes l) (hl : l.length ≤ 1000000000) (op : Bool) : ∀ (d i k : Nat) (acc : List S75), l.length - i = d → i ≤ l.length → d + 30 < k → acc.length ≤ i →
    tremaref01_Decode.l0 k l op acc i = some (acc ++ (dc (l.drop i) i).1 ++ (if op = true then [] else rest1 (dc (l.drop i) i).2.1 (dc (l.drop i) i).2.2)) := by
  intro d
  induction d using Nat.strongRecOn with
  | _ d ih =>
    intro i k acc hd hi hk ha
    obtain ⟨k, rfl⟩ : ∃ q, k = q + 1 := ⟨k - 1, by omega⟩
    simp only [tremaref01_Decode.l0]
    by_cases he : i = l.length
    · rw [if_neg (by omega), List.drop_eq_nil_of_le (by omega)]
      simp [dc_nil, rest1]
    · have hlt : i < l.length := by omega
      have hat := at_rounds (fun k => tremaref01_At.mono l i k) (show 20 ≤ k by omega) (at_pure l hb (by omega) i hlt)
      have hw := one1_width l[i] (l.drop (i + 1))
      rw [if_pos (by omega), hat, List.drop_eq_getElem_cons hlt, dc_cons]
      simp only [Option.bind_some]
      have hlen : (l.drop (i + 1)).length = l.length - i - 1 := by rw [List.length_drop]; omega
      cases hm : (one1 l[i] (l.drop (i + 1))).2.2 with
      | true =>
        have h3 := one1_more _ _ hm
        simp only [if_true]
        cases op with
        | true => simp
        | false =>
          simp only [Bool.false_eq_true, if_false]
          rw [if_pos (by omega)]
          have ew : wrap64 ((i : Int) + (one1 l[i] (l.drop (i + 1))).2.1) = ((l.length : Nat) : Int) := by rw [h3.2.1]; unfold wrap64; omega
          rw [ew, ih 0 (by omega) l.length k _ (by omega) (Nat.le_refl _) (by omega) (by simp; omega), List.drop_length]
          simp only [dc_nil, rest1, if_true, List.append_nil, h3.1, h3.2.1]
          rw [if_neg (by simp), List.length_cons, show ((1 : Int) + ((l.drop (i + 1)).length : Int)) = (((l.drop (i + 1)).length + 1 : Nat) : Int) by push_cast; omega]
          simp
          exact hlt
      | false =>
        have ew : wrap64 ((i : Int) + (one1 l[i] (l.drop (i + 1))).2.1) = ((i + (one1 l[i] (l.drop (i + 1))).2.1.toNat : Nat) : Int) := by unfold wrap64; omega
        have ed : (l[i] :: l.drop (i + 1)).drop (one1 l[i] (l.drop (i + 1))).2.1.toNat = l.drop (i + (one1 l[i] (l.drop (i + 1))).2.1.toNat) := by
          rw [← List.drop_eq_getElem_cons hlt, List.drop_drop]
        have ep : ((i + (one1 l[i] (l.drop (i + 1))).2.1.toNat : Nat) : Int) = (i : Int) + (one1 l[i] (l.drop (i + 1))).2.1 := by omega
        have h5 := ih (l.length - (i + (one1 l[i] (l.drop (i + 1))).2.1.toNat)) (by omega) (i + (one1 l[i] (l.drop (i + 1))).2.1.toNat) k (acc ++ [(⟨(one1 l[i] (l.drop (i + 1))).1, i, (one1 l[i] (l.drop (i + 1))).2.1⟩ : S75)]) rfl (by omega) (by omega) (by simp; omega)
        simp only [Bool.false_eq_true, if_false, ite_self]
        rw [if_pos (by omega), ew, h5, ed, ep]
        simp
theorem Ref_dec (l : List Int) (hb : Bytes l) (hl : l.length ≤ 1000000000) (op : Bool) : tremaref01_Decode.f (l.length + 31) l op = some ((dc l 0).1 ++ (if op = true then [] else rest1 (dc l 0).2.1 (dc l 0).2.2)) := by
  have := ref_dec l hb hl op l.length 0 (l.length + 31) [] (by omega) (by omega) (by omega) (by simp)
  simpa [tremaref01_Decode.f] using this
end Go.Proofs.YtiggjbclbdikmaaDoor.Ux
namespace Go.Proofs.YtiggjbclbdikmaaDoor.Ud
set_option linter.unusedVariables false
set_option linter.unusedSimpArgs false
open Go.RowKit Go.Proofs.YtiggjbclbdikmaaDoorW.PrintWords Go.Proofs.YtiggjbclbdikmaaDoor.Hp Go.Proofs.YtiggjbclbdikmaaDoor.X Go.Proofs.YtiggjbclbdikmaaDoor.Ux
abbrev TD : Nat := 104
abbrev TP : Nat := 75
theorem info_8 : (Tryd.prog.info? 5).map (fun i => (i.zero, i.size, i.bytes)) = some (some (.int .u8 0), 1, 1) := by kernel_rfl
theorem info_P : (Tryd.prog.info? 75).map (fun i => (i.zero, i.size, i.bytes)) = some (some (.agg #[.int .i32 0, .int .i64 0, .int .i64 0]), 3, 24) := by kernel_rfl
def IsDec (g base : Nat) (kept : List Int) (at_ : Int) (closed : Bool) (ok : Nat → Prop) (w : World) : Prop :=
  ∃ kv, w.heap[g]? = some (.cells #[kv, .int .i64 at_, .bool closed] TD (0, 0)) ∧ base ≤ g ∧ ok g ∧ w.ownsRow base 5 1 kv kept.length (nums .u8 kept) ∧ ∀ b, kv.ownBlock = some b → ok b ∧ b ≠ g
section
variable {g base : Nat} {kept : List Int} {at_ : Int} {closed : Bool} {ok ok' : Nat → Prop} {w w1 : World}
theorem IsDec.mono (h : IsDec g base kept at_ closed ok w) (hok : ∀ k, ok k → ok' k) : IsDec g base kept at_ closed ok' w := by
  obtain ⟨kv, h1, h2, h3, h4, h5⟩ := h
  exact ⟨kv, h1, h2, hok _ h3, h4, fun b hb => ⟨hok _ (h5 b hb).1, (h5 b hb).2⟩⟩
theorem IsDec.bound (h : IsDec g base kept at_ closed ok w) : IsDec g base kept at_ closed (fun k => ok k ∧ k < w.heap.size) w := by
  obtain ⟨kv, h1, h2, h3, h4, h5⟩ := h
  exact ⟨kv, h1, h2, ⟨h3, blk_lt h1⟩, h4, fun b hb => ⟨⟨(h5 b hb).1, own_lt h4 b hb⟩, (h5 b hb).2⟩⟩
theorem IsDec.step (h : IsDec g base kept at_ closed ok w) (hm : ∀ k, ok k → k < w.heap.size → w1.heap[k]? = w.heap[k]?) : IsDec g base kept at_ closed ok w1 := by
  obtain ⟨kv, h1, h2, h3, h4, h5⟩ := h
  exact ⟨kv, (hm g h3 (blk_lt h1)).trans h1, h2, h3, own_move h4 (fun b hb => hm b (h5 b hb).1 (own_lt h4 b hb)), h5⟩
theorem IsDec.below (h : IsDec g base kept at_ closed ok w) (hb : Below w.heap.size w w1) : IsDec g base kept at_ closed ok w1 := h.step (fun k _ hlt => hb.block k hlt)
theorem IsDec.chg {S : Nat → Prop} (h : IsDec g base kept at_ closed ok w) (hc : Chg S w w1) (hd : ∀ k, k < w.heap.size → ok k → ¬ S k) : IsDec g base kept at_ closed ok w1 :=
  (h.bound.step (fun k hk hlt => hc.keep k hlt (hd k hk.2 hk.1))).mono (fun _ hk => hk.1)
theorem IsDec.lt (h : IsDec g base kept at_ closed ok w) : g < w.heap.size ∧ base ≤ g ∧ ok g := by
  obtain ⟨kv, h1, h2, h3, _⟩ := h
  exact ⟨blk_lt h1, h2, h3⟩
end
def NewPost (w : World) (e : Ending) (w' : World) : Prop := ∃ g, e = .returned (.pointer (some ⟨g, 0, none⟩)) ∧ w.heap.size ≤ g ∧ IsDec g w.heap.size [] 0 false (fun b => b = g) w' ∧ Below w.heap.size w w'
set_option maxHeartbeats 1000000 in
theorem New (w : World) : Calls Tryd.prog 66 #[] w (NewPost w) := by
  have hfin : NewPost w (.returned (.pointer (some ⟨w.heap.size, 0, none⟩))) (w.alloc (.cells #[.slice none 0 0, .int .i64 0, .bool false] TD)) :=
    ⟨w.heap.size, rfl, Nat.le_refl _, ⟨.slice none 0 0, heap_alloc_new w _, Nat.le_refl _, rfl, own_nil _ _ _ _, by simp [Value.ownBlock]⟩, below_alloc (Below.refl _ _) _⟩
  go_enter Tryd.func66, Tryd.ntmps66
  go_wp2
  go_ret
  exact hfin
def ClosePost (w : World) (g base : Nat) (kept : List Int) (at_ : Int) (ok : Nat → Prop) (e : Ending) (w' : World) : Prop :=
  ∃ lv, e = .returned lv ∧ Kd.R k75 TP w' w.heap.size (fun _ => True) lv (rest1 kept at_) ∧ IsDec g base [] at_ true (fun b => b = g) w' ∧ Chg (fun b => b = g) w w'
set_option maxHeartbeats 2000000 in
theorem Close (w : World) (g base : Nat) (kept : List Int) (at_ : Int) (ok : Nat → Prop) (h : IsDec g base kept at_ false ok w) :
    Calls Tryd.prog 72 #[.pointer (some ⟨g, 0, none⟩)] w (ClosePost w g base kept at_ ok) := by
  obtain ⟨kv, h1, h2, h3, h4, h5⟩ := h
  have c0 : w.cell? ⟨g, 0, none⟩ = some kv := by simp [World.cell?, h1]
  have c1 : w.cell? ⟨g, 1, none⟩ = some (.int .i64 at_) := by simp [World.cell?, h1]
  have c2 : w.cell? ⟨g, 2, none⟩ = some (.bool false) := by simp [World.cell?, h1]
  have f0 : w.frozen? ⟨g, 0, none⟩ = false := by simp [World.frozen?, h1]
  have f2 : w.frozen? ⟨g, 2, none⟩ = false := by simp [World.frozen?, h1]
  obtain ⟨A, c, rfl, hr⟩ := own_reads h4
  have hm := hr.2.1
  have hl := blk_lt h1
  obtain ⟨W, hW⟩ : ∃ W, W = (w.setCell ⟨g, 2, none⟩ (.bool true)).setCell ⟨g, 0, none⟩ (.slice none 0 0) := ⟨_, rfl⟩
  have hWg : W.heap[g]? = some (.cells #[.slice none 0 0, .int .i64 at_, .bool true] TD (0, 0)) := by
    have := blk_set (blk_set h1 2 (.bool true)) 0 (.slice none 0 0)
    rw [hW]; simpa using this
  have hch : Chg (fun b => b = g) w W := by rw [hW]; exact ((Chg.refl (fun b => b = g) w).setCell (p := ⟨g, 2, none⟩) (.inl rfl) _).setCell (p := ⟨g, 0, none⟩) (.inl rfl) _
  have hdec : IsDec g base [] at_ true (fun b => b = g) W := ⟨_, hWg, h2, rfl, own_nil _ _ _ _, by simp [Value.ownBlock]⟩
  have hsz : W.heap.size = w.heap.size := by rw [hW]; simp [World.setCell]
  by_cases h0 : kept.length = 0
  · have hk : kept = [] := List.eq_nil_of_length_eq_zero h0
    have hfin : ClosePost w g base kept at_ ok (.returned (.slice none 0 0)) W := ⟨_, rfl, by rw [hk]; exact Kd.R_nil _ _ _ _ _, hdec, hch⟩
    rw [hW] at hfin
    subst hk
    clear h1 h2 h3 h4 h5 hr hW hWg hch hdec hsz h0
    go_enter Tryd.func72, Tryd.ntmps72
    go_wp2
    go_ret
    exact hfin
  · have hb : ((kept.length : Int) == 0) = false := by simpa using h0
    have hfin : ClosePost w g base kept at_ ok (.returned (.slice (some ⟨w.heap.size, 0, none⟩) 1 1)) (W.alloc (.cells #[.int .i32 65533, .int .i64 at_, .int .i64 kept.length] TP)) := by
      refine ⟨_, rfl, ?_, hdec.below (below_alloc (Below.refl _ _) _), hch.alloc _⟩
      have e : rest1 kept at_ = [(⟨65533, at_, kept.length⟩ : S75)] := by unfold rest1; rw [if_neg (fun hk => h0 (by rw [hk]; rfl))]
      rw [e]
      refine ⟨fun _ _ => trivial, [.int .i32 65533, .int .i64 at_, .int .i64 kept.length], ⟨rfl, .inr ⟨w.heap.size, 1, #[.int .i32 65533, .int .i64 at_, .int .i64 kept.length], rfl, Nat.le_refl _, ?_, Nat.le_refl _, by simp [maxLen], rfl, rfl⟩⟩, ?_⟩
      · rw [← hsz]; exact heap_alloc_new W _
      · refine ⟨rfl, fun j p hj => ?_⟩
        match j, hj with
        | 0, hj => cases hj; exact k75_mkM _ _ _ _
        | j + 1, hj => simp at hj
    rw [hW] at hfin
    clear h1 h2 h3 h4 h5 hr hW hWg hch hdec hsz h0
    go_enter Tryd.func72, Tryd.ntmps72
    go_wp2
    go_ret
    exact hfin
end Go.Proofs.YtiggjbclbdikmaaDoor.Ud
namespace Go.Proofs.YtiggjbclbdikmaaDoor.Ud
set_option linter.unusedVariables false
set_option linter.unusedSimpArgs false
open Go.RowKit Go.Proofs.YtiggjbclbdikmaaDoorW.PrintWords Go.Proofs.YtiggjbclbdikmaaDoor.Hp Go.Proofs.YtiggjbclbdikmaaDoor.X Go.Proofs.YtiggjbclbdikmaaDoor.Ux
def sliceLen : Value → Nat
  | .slice _ n _ => n
  | _ => 0
def WritePost (w : World) (g base : Nat) (all : List Int) (at_ : Int) (ok : Nat → Prop) (e : Ending) (w' : World) : Prop :=
  ∃ lv M, e = .returned lv ∧ w.heap.size ≤ M ∧ Kd.R k75 TP w' w.heap.size (fun b => b < M) lv (dc all at_).1 ∧ IsDec g base (dc all at_).2.1 (dc all at_).2.2 false (fun b => b = g ∨ M ≤ b) w' ∧ Chg ok w w'
def Inv (W1 : World) (g : Nat) (kv : Value) (all : List Int) (at0 : Int) (av lv : Value) (rest : List Int) (wr : World) : Prop :=
  ∃ (pts : List S75) (at_ : Int) (A : Option Addr) (c : Nat), av = .slice A rest.length c ∧ rest.length ≤ c ∧ Kd.C (Kd.int .u8) wr A rest.length rest ∧ (∀ ad, A = some ad → ad.block < W1.heap.size ∧ ad.block ≠ g) ∧
    Kd.R k75 TP wr W1.heap.size (fun _ => True) lv pts ∧ wr.heap[g]? = some (.cells #[kv, .int .i64 at_, .bool false] TD (0, 0)) ∧
    dc all at0 = (pts ++ (dc rest at_).1, (dc rest at_).2) ∧ Chg (fun b => b = g) W1 wr ∧ at_ + rest.length = at0 + all.length ∧ pts.length + rest.length ≤ all.length
theorem Inv.chg {W1 : World} {g : Nat} {kv : Value} {all : List Int} {at0 : Int} {av lv : Value} {rest : List Int} {wr : World} (h : Inv W1 g kv all at0 av lv rest wr) : Chg (fun b => b = g) W1 wr := by
  obtain ⟨_, _, _, _, _, _, _, _, _, _, _, h, _⟩ := h; exact h
theorem Inv.fin {w W1 wr wq : World} {g base : Nat} {ok : Nat → Prop} {kv av lv : Value} {all rest : List Int} {at0 : Int} (h : Inv W1 g kv all at0 av lv rest wr) (hstop : ∀ p, dc rest p = ([], rest, p)) (hq : Drawn0 wr wq)
    (hW : Chg ok w W1) (hbase : base ≤ g) (hok : ok g) (hbw : base ≤ w.heap.size) (hgw : g < w.heap.size) : ∀ (v1 : Value) (w1 : World), w1.ownsRow wq.heap.size 5 1 v1 rest.length (nums .u8 rest) → Below wq.heap.size wq w1 → WritePost w g base all at0 ok (.returned lv) (w1.setCell ⟨g, 0, none⟩ v1) := by
  intro v1 w1 hown hb
  obtain ⟨pts, at_, A, c, rfl, hc, hC, hA, hR, hg, hd, hch, _, _⟩ := h
  have hs1 := hq.below.size
  have hs2 := hch.size
  have hs3 := hW.size
  have hs4 := hb.size
  have e : dc all at0 = (pts, rest, at_) := by rw [hd, hstop]; simp
  have hbq := hq.below
  have hRq : Kd.R k75 TP w1 W1.heap.size (fun b => b < wq.heap.size) lv pts := by
    have h1 := Kd.R_below hR hbq
    exact Kd.R_below (Kd.R_mono (Kd.R_bound h1) (fun b hb => hb.2.2.1)) hb
  have hgq : wq.heap[g]? = some (.cells #[kv, .int .i64 at_, .bool false] TD (0, 0)) := (hbq.block g (by omega)).trans hg
  have hg1 : w1.heap[g]? = some (.cells #[kv, .int .i64 at_, .bool false] TD (0, 0)) := (hb.block g (by omega)).trans hgq
  have hRg : Kd.R k75 TP w1 W1.heap.size (fun b => b < wq.heap.size ∧ b ≠ g) lv pts := Kd.R_mono (Kd.R_bound hRq) (fun b hb => ⟨hb.1, by have := hb.2.1; omega⟩)
  refine ⟨lv, wq.heap.size, rfl, by omega, ?_, ?_, ?_⟩
  · rw [e]
    exact Kd.R_lower (Kd.R_mono (Kd.R_far (p := ⟨g, 0, none⟩) hRg (fun b hb => hb.2) v1) (fun b hb => hb.1)) hs3
  · rw [e]
    refine ⟨v1, ?_, hbase, .inl rfl, ?_, ?_⟩
    · have := blk_set hg1 0 v1
      simpa using this
    · exact own_setCell (own_weaken hown (by omega)) (fun he => by have := own_base hown g he.symm; omega) v1
    · intro b hb2
      have := own_base hown b hb2
      exact ⟨.inr this, by omega⟩
  · exact ((((hW.trans hch (fun i hi hs => by subst hs; exact hok)).then_below hbq).then_below hb)).setCell (p := ⟨g, 0, none⟩) (.inl hok) v1
theorem chg_below {S : Nat → Prop} {w w1 w2 : World} (h : Chg S w w1) (k : Below w.heap.size w1 w2) : Chg S w w2 :=
  ⟨k.os.trans h.os, k.tape.trans h.tape, k.output.trans h.output, Nat.le_trans h.size k.size, fun i hi hn => (k.block i hi).trans (h.keep i hi hn)⟩
theorem Inv.next {W1 wr wq w2 : World} {g : Nat} {kv lv2 : Value} {all : List Int} {at0 : Int} {pts : List S75} {at_ : Int} {A : Option Addr} {c : Nat} {rest : List Int} {x : Int} {t : List Int} {r : Int} {m : Nat} (hx : rest = x :: t) (ho : one1 x t = (r, (m : Int), false))
    (hc : rest.length ≤ c) (hC : Kd.C (Kd.int .u8) wr A rest.length rest) (hA : ∀ ad, A = some ad → ad.block < W1.heap.size ∧ ad.block ≠ g) (hg : wr.heap[g]? = some (.cells #[kv, .int .i64 at_, .bool false] TD (0, 0)))
    (hd : dc all at0 = (pts ++ (dc rest at_).1, (dc rest at_).2)) (hch : Chg (fun b => b = g) W1 wr) (hs : at_ + rest.length = at0 + all.length) (hp : pts.length + rest.length ≤ all.length) (hgl : g < W1.heap.size)
    (hq : Drawn0 wr wq) (hR : Kd.R k75 TP w2 W1.heap.size (fun _ => True) lv2 (pts ++ [(⟨r, at_, m⟩ : S75)])) (hb : Below W1.heap.size wq w2) (A2 : Option Addr) (hA2 : A2 = if c = m then A else A.map (·.add (m * 1))) :
    Inv W1 g kv all at0 (.slice A2 (rest.length - m) (c - m)) lv2 (rest.drop m) (w2.setCell ⟨g, 1, none⟩ (.int .i64 (at_ + m))) := by
  have hw := one1_width x t
  rw [ho] at hw
  simp only at hw
  have hl : rest.length = t.length + 1 := by rw [hx]; rfl
  have hm : m ≤ rest.length := by omega
  have hs1 := hq.below.size
  have hs2 := hch.size
  have hgq : wq.heap[g]? = some (.cells #[kv, .int .i64 at_, .bool false] TD (0, 0)) := (hq.below.block g (by omega)).trans hg
  have hg2 := (hb.block g hgl).trans hgq
  have hread := ((rdint hC).below hq.below).drop_ m hm hc
  refine ⟨pts ++ [(⟨r, at_, m⟩ : S75)], at_ + m, A2, c - m, by rw [List.length_drop], by rw [List.length_drop]; omega, ?_, ?_, ?_, ?_, ?_, ?_, ?_, ?_⟩
  · rw [List.length_drop]
    have h1 : ReadsInt wq .u8 A2 (rest.length - m) (rest.drop m) := by
      rw [hA2]
      simpa using hread
    refine rdC ⟨h1.1, h1.2.1, fun hp => ?_⟩
    obtain ⟨ad, he, hcell⟩ := h1.2.2 hp
    refine ⟨ad, he, fun j hj => ?_⟩
    have hbk : ad.block < W1.heap.size ∧ ad.block ≠ g := by
      rw [hA2] at he
      split at he
      · exact hA ad he
      · cases A with
        | none => simp at he
        | some a0 =>
          simp only [Option.map_some, Option.some.injEq] at he
          have := hA a0 rfl
          rw [← he]
          unfold Addr.add
          split <;> exact this
    have hab : (ad.add j).block = ad.block := by unfold Addr.add; split <;> rfl
    have h2 : (w2.setCell ⟨g, 1, none⟩ (.int .i64 (at_ + m))).heap[(ad.add j).block]? = wq.heap[(ad.add j).block]? := by
      rw [hab]
      exact (Below.heap_setCell _ _ _ _ hbk.2).trans (hb.block _ hbk.1)
    rw [← hcell j hj]
    exact World.cell?_of_block h2
  · intro ad he
    rw [hA2] at he
    split at he
    · exact hA ad he
    · cases A with
      | none => simp at he
      | some a0 =>
        simp only [Option.map_some, Option.some.injEq] at he
        have := hA a0 rfl
        rw [← he]
        unfold Addr.add
        split <;> exact this
  · exact Kd.R_mono (Kd.R_far (p := ⟨g, 1, none⟩) (Kd.R_mono (ok' := fun b => b ≠ g) (Kd.R_bound hR) (fun b hb => by have := hb.2.1; omega)) (fun b hb => hb) _) (fun _ _ => trivial)
  · have := blk_set hg2 1 (.int .i64 (at_ + m))
    simpa using this
  · rw [hd, hx, dc_cons, ho]
    simp
  · exact (chg_below (hch.then_drawn hq) hb).setCell (p := ⟨g, 1, none⟩) (.inl rfl) _
  · rw [List.length_drop]; omega
  · rw [List.length_drop, List.length_append, List.length_singleton]; omega
set_option maxRecDepth 100000 in
set_option maxHeartbeats 4000000 in
theorem Write (w : World) (g base : Nat) (kept : List Int) (at0 : Int) (ok : Nat → Prop) (A : Option Addr) (n c : Nat) (bs : List Int) (h : IsDec g base kept at0 false ok w) (hb : ReadsInt w .u8 A n bs) 
    (hB : Bytes (kept ++ bs)) (hlen : kept.length + n ≤ 1000000000) (hat : 0 ≤ at0 ∧ at0 ≤ 4000000000000000) :
    Calls Tryd.prog 70 #[.pointer (some ⟨g, 0, none⟩), .slice A n c] w (WritePost w g base (kept ++ bs) at0 ok) := by
  obtain ⟨kv, h1, h2, h3, h4, h5⟩ := h
  have c0 : w.cell? ⟨g, 0, none⟩ = some kv := by simp [World.cell?, h1]
  have c2 : w.cell? ⟨g, 2, none⟩ = some (.bool false) := by simp [World.cell?, h1]
  have hl := blk_lt h1
  have hbn := hb.1
  have H1 := Aside0.mk h1
  have H4 := Aside0.mk h4
  have H5 := Aside0.mk h5
  have HBY := Aside0.mk hB
  have HRB := Aside0.mk hb
  have HBN := Aside0.mk hbn
  obtain ⟨hat0, hat1⟩ := hat
  clear h1 h4 h5 hB hb hbn
  go_enter Tryd.func70, Tryd.ntmps70
  go_wp2_with (at_builtin; go_must (refine print_append_row (w0 := w) base rfl (.tmp 21) (.tmp 22) 27 5 .u8 1 rfl Tryd.underlying27 info_8 (by decide) kv kept bs A n c rfl rfl H4.out HRB.out (Below.refl _ _) (by omega) (by omega) ?hh))
  case hh =>
    intro v1 W1 hown0 hb1 hg1 hat1
    obtain ⟨L, hL⟩ : ∃ L, L = (kept ++ bs).length := ⟨_, rfl⟩
    have hown : W1.ownsRow base 5 1 v1 L (nums .u8 (kept ++ bs)) := by rw [hL, List.length_append]; exact hown0
    clear hown0
    obtain ⟨A1, c1, rfl, hr1⟩ := own_reads hown
    have hn1 : (A1 = none → False) ∨ True := .inr trivial
    have hW : Chg ok w W1 := (Chg.refl ok w).grown hg1 (fun b hb => .inl (H5.out b hb).1)
    have hgW : W1.heap[g]? = some (.cells #[kv, .int .i64 at0, .bool false] TD (0, 0)) := (hg1.block g hl (fun he => (H5.out g he.symm).2 rfl)).trans H1.out
    have hcap : L ≤ c1 := by
      rcases hown.2 with ⟨he, hn⟩ | ⟨go, cap, cur, he, _, _, h7, _⟩
      · injection he; omega
      · injection he; omega
    have hA1 : ∀ ad, A1 = some ad → ad.block < W1.heap.size ∧ ad.block ≠ g := by
      intro ad he
      have hob : (Value.slice A1 L c1).ownBlock = some ad.block := by rw [he]; rfl
      refine ⟨own_lt hown _ hob, fun hbg => ?_⟩
      rcases hat1 with h7 | ⟨b, h7, h8⟩
      · rw [hob] at h7; exact (H5.out _ h7.symm).2 hbg
      · rw [hob] at h7; injection h7 with h7; omega
    have hsl : base ≤ w.heap.size := by omega
    have hall : (kept ++ bs).length ≤ 1000000000 := by rw [List.length_append, HBN.out]; exact hlen
    have hinv : Inv W1 g kv (kept ++ bs) at0 (.slice A1 (kept ++ bs).length c1) (.slice none 0 0) (kept ++ bs) W1 :=
      ⟨[], at0, A1, c1, rfl, by rw [← hL]; exact hcap, by rw [← hL]; exact rdC hr1, hA1, Kd.R_nil _ _ _ _ _, hgW, by simp, Chg.refl _ _, rfl, by simp⟩
    have hgl : g < W1.heap.size := blk_lt hgW
    have HINV := Aside0.mk hinv
    have HWW := Aside0.mk hW
    have HBY2 := Aside0.mk (show Bytes (kept ++ bs) from HBY.out)
    obtain ⟨all, hall2⟩ : ∃ all, all = kept ++ bs := ⟨_, rfl⟩
    rw [← hall2] at HINV HBY2 hall
    have HALL := Aside0.mk hall2
    have hrb : ∀ rest : List Int, (∃ k, rest = all.drop k) → Bytes rest := fun rest ⟨k, he⟩ => by rw [he]; exact bytes_drop HBY2.out k
    have hll : L = all.length := by rw [hall2, hL]
    have HLL := Aside0.mk hll
    clear hinv hW hcap hA1 hr1 hown hb1 hg1 hat1 hgW hall2 hn1 hll hL
    have HBR := Aside0.mk hrb
    clear hrb
    go_wp2_with fail
    go_loopw [5, 6] (fun av lv wr => ∃ (rest : List Int), Aside0 (Inv W1 g kv all at0 av lv rest wr) ∧ Aside0 (∃ k, rest = all.drop k)) (fun av _ _ => sliceLen av)
    case atStart => exact ⟨all, by rw [HLL.out]; exact HINV, ⟨0, by simp⟩⟩
    case round =>
      obtain ⟨rest, HI, HK⟩ := hrel
      have HBRE := Aside0.mk (HBR.out rest HK.out)
      obtain ⟨pts, at_, A, c, rfl, hc, hC, hA, hR, hg, hd, hch, hs, hp⟩ := HI.out
      have hfinI := HI.out
      have hm := Kd.C_max hC
      have hs1 := hch.size
      cases hrest : rest with
      | nil =>
        rw [hrest] at hfinI hC
        obtain ⟨wq, hwq⟩ : ∃ wq, wq = wr := ⟨_, rfl⟩
        have HC := Aside0.mk (show Kd.C (Kd.int .u8) wr A ([] : List Int).length [] from hC)
        have HG := Aside0.mk (And.intro hg (show g < wr.heap.size by omega))
        have HEND := Aside0.mk (Inv.fin hfinI (fun p => rfl) (Drawn0.refl wr) HWW.out h2 h3 (by omega) hl)
        clear hfinI hC hg hd hch hs hp hA hR hrest hc HI hwq
        go_wp2_with (at_builtin; go_must (refine print_append_row (w0 := wr) (wr).heap.size rfl (.const (.slice none 0 0)) (.tmp 56) 27 5 .u8 1 rfl Tryd.underlying27 info_8 (by decide) (.slice none 0 0) [] ([] : List Int) A (([] : List Int)).length c rfl rfl (own_nil _ _ _ _) (rdint HC.out) (Below.refl _ _) (Nat.le_refl _) (by first | (simp; done) | (simp; omega)) ?hh))
        case hh =>
          intro v1 w1 hown hb1 hg1 hat1
          have hc1 : w1.cell? ⟨g, 0, none⟩ = some kv := by
            have : w1.heap[g]? = (wr).heap[g]? := hb1.block g HG.out.2
            simp [World.cell?, this, HG.out.1]
          have hf1 : w1.frozen? ⟨g, 0, none⟩ = false := by
            have : w1.heap[g]? = (wr).heap[g]? := hb1.block g HG.out.2
            simp [World.frozen?, this, HG.out.1]
          have hfin : WritePost w g base all at0 ok (.returned u6) (w1.setCell ⟨g, 0, none⟩ v1) := HEND.out v1 w1 (by simpa using hown) hb1
          rw [HALL.out] at hfin
          have HFIN := Aside0.mk hfin
          obtain ⟨A1, c1, rfl⟩ := own_slice hown
          clear hfin hown hb1 hg1 hat1
          go_wp2
          go_ret
          exact HFIN.out
      | cons x t =>
        have hlr : rest.length ≤ all.length := by omega
        have hpos : 0 < rest.length := by rw [hrest]; simp
        have hdp : decide (0 < rest.length) = true := by simpa using hpos
        have hbr := HBRE.out
        have hone : utf_one.f 8 rest = some (one1 x t) := by rw [hrest] at hbr ⊢; exact one_pure x t hbr (by rw [← hrest]; omega)
        obtain ⟨r, nn, more, he⟩ : ∃ r nn more, one1 x t = (r, nn, more) := ⟨_, _, _, rfl⟩
        rw [he] at hone
        have hcall := utf_one.calls 8 A c rest r nn more wr hC hc hone
        have HCALL := Aside0.mk hcall
        have hw := one1_width x t
        rw [he] at hw
        obtain ⟨hw1, hw2, hw3⟩ := hw
        simp only at hw1 hw2 hw3
        have hge : g < wr.heap.size := by omega
        rw [← hrest]
        cases more with
        | true =>
          have hstop : ∀ p, dc rest p = ([], rest, p) := fun p => by rw [hrest, dc_cons, he]; rfl
          have HST := Aside0.mk hstop
          have HFI := Aside0.mk hfinI
          have HCC := Aside0.mk hC
          have HGG := Aside0.mk hg
          clear hfinI hC hg hd hch hs hp hA hR hrest HI hone hcall hbr hstop he
          go_wp2_with (first | (go_at_call 88; have t0 := HCALL.out; refine t0.mono ?_; rintro e wq ⟨rfl, hq⟩; have HQ := Aside0.mk hq; have HC := Aside0.mk (Kd.C_below HCC.out HQ.out.below); have HG := Aside0.mk (And.intro (HQ.out.below.block g hge |>.trans HGG.out) (Nat.lt_of_lt_of_le hge HQ.out.below.size)); have HEND := Aside0.mk (Inv.fin HFI.out HST.out HQ.out HWW.out h2 h3 (by omega) hl); clear hq t0 HCALL) | (at_builtin; go_must (refine print_append_row (w0 := wq) wq.heap.size rfl (.const (.slice none 0 0)) (.tmp 56) 27 5 .u8 1 rfl Tryd.underlying27 info_8 (by decide) (.slice none 0 0) [] rest A rest.length c rfl rfl (own_nil _ _ _ _) (rdint HC.out) (Below.refl _ _) (Nat.le_refl _) (by simp; omega) ?hh)))
          case hh =>
            intro v1 w1 hown hb1 hg1 hat1
            have hc1 : w1.cell? ⟨g, 0, none⟩ = some kv := by
              have : w1.heap[g]? = (wq).heap[g]? := hb1.block g HG.out.2
              simp [World.cell?, this, HG.out.1]
            have hf1 : w1.frozen? ⟨g, 0, none⟩ = false := by
              have : w1.heap[g]? = (wq).heap[g]? := hb1.block g HG.out.2
              simp [World.frozen?, this, HG.out.1]
            have hfin : WritePost w g base all at0 ok (.returned u6) (w1.setCell ⟨g, 0, none⟩ v1) := HEND.out v1 w1 (by simpa using hown) hb1
            rw [HALL.out] at hfin
            have HFIN := Aside0.mk hfin
            obtain ⟨A1, c1, rfl⟩ := own_slice hown
            clear hfin hown hb1 hg1 hat1
            go_wp2
            go_ret
            exact HFIN.out
        | false =>
          obtain ⟨m, rfl⟩ : ∃ m : Nat, nn = m := ⟨nn.toNat, by omega⟩
          obtain ⟨i8, hi8, hz8⟩ := Option.map_eq_some_iff.1 info_8
          simp only [Prod.mk.injEq] at hz8
          obtain ⟨A2, hA2⟩ : ∃ A2, A2 = (if c = m then A else A.map (·.add (m * 1))) := ⟨_, rfl⟩
          have hlt1 : rest.length = t.length + 1 := by rw [hrest]; rfl
          have hcut : ∀ W : World, (Instr.slice 27 (.slice A rest.length c) (some (.int .i64 (m : Int))) none none).run Tryd.prog W = .ok (.slice A2 (rest.length - m) (c - m)) W := by
            intro W
            have := cut_from (P := Tryd.prog) 27 5 .i64 Tryd.underlying27 hi8 1 hz8.2.1 A rest.length c (m : Int) (by omega) (by omega) W
            rw [hA2]
            simpa using this
          have hat_0 : 0 ≤ at_ := by omega
          have hat_1 : at_ ≤ 5000000000000000 := by omega
          obtain ⟨k0, hk0⟩ := HK.out
          have HDR := Aside0.mk (show ∃ k, rest.drop m = all.drop k from ⟨k0 + m, by rw [hk0, List.drop_drop]⟩)
          have HNX := Aside0.mk (fun (wq w2 : World) (lv2 : Value) (hq : Drawn0 wr wq) (hR2 : Kd.R k75 TP w2 W1.heap.size (fun _ => True) lv2 (pts ++ [(⟨r, at_, m⟩ : S75)])) (hb2 : Below W1.heap.size wq w2) =>
            Inv.next hrest he hc hC hA hg hd hch hs hp hgl hq hR2 hb2 A2 hA2)
          have HRR := Aside0.mk hR
          have HGG := Aside0.mk hg
          have hpl : pts.length ≤ 1000000000 := by omega
          have hmr : m ≤ rest.length := by omega
          clear hlt1 hfinI hC hg hd hch hs hp hA hR hrest HI hone hcall hbr he hi8 hz8 hA2 hk0 hm
          go_wp2_with (first | (go_at_call 88; go_must (have t0 := HCALL.out; refine t0.mono ?_; rintro e wq ⟨rfl, hq⟩; have HQ := Aside0.mk hq; have hgq := HQ.out.below.block g hge |>.trans HGG.out; have hc1 : wq.cell? ⟨g, 1, none⟩ = some (.int .i64 at_) := (by simp [World.cell?, hgq]); have HG := Aside0.mk hgq; have HS := Aside0.mk (HQ.out.below.size); clear hq t0 HCALL hgq)) | (at_builtin; go_must (refine Kd.R_append k75 (w0 := wq) W1.heap.size rfl (.tmp 34) (.tmp 42) 72 TP (.agg #[.int .i32 0, .int .i64 0, .int .i64 0]) 24 rfl Tryd.underlying72 info_P rfl (by decide) (by decide) u6 pts (⟨r, at_, m⟩ : S75) [.int .i32 r, .int .i64 at_, .int .i64 m] (fun _ => True) (fun _ => False) rfl rfl (k75_mkM _ _ _ _) (fun _ h => h.elim) (fun _ _ => trivial) (Kd.R_below HRR.out HQ.out.below) (Below.refl _ _) (Nat.le_trans hs1 HS.out) (by omega) ?hh)))
          case hh =>
            intro v1 w2 hR2 hb2 hg2 hat2
            have hgw := (hb2.block g hgl).trans HG.out
            have hd1 : w2.cell? ⟨g, 1, none⟩ = some (.int .i64 at_) := by simp [World.cell?, hgw]
            have hf1 : w2.frozen? ⟨g, 1, none⟩ = false := by simp [World.frozen?, hgw]
            have HI2 := Aside0.mk (HNX.out wq w2 v1 HQ.out hR2 hb2)
            clear hR2 hb2 hg2 hat2 hgw HNX
            go_wp2
            go_roundw
            case rel => exact ⟨rest.drop m, HI2, HDR⟩
            case measure => simp [sliceLen]; omega
end Go.Proofs.YtiggjbclbdikmaaDoor.Ud
namespace Go.Proofs.YtiggjbclbdikmaaDoor.Ud
set_option linter.unusedVariables false
set_option linter.unusedSimpArgs false
open Go.RowKit Go.Proofs.YtiggjbclbdikmaaDoorW.PrintWords Go.Proofs.YtiggjbclbdikmaaDoor.Hp Go.Proofs.YtiggjbclbdikmaaDoor.X Go.Proofs.YtiggjbclbdikmaaDoor.Ux
theorem k72_KM {w w' : World} {base : Nat} {ok : Nat → Prop} (x : S75) (cs : List Value) (h : k75.K w x cs) : k75.M w' base ok x cs := by
  obtain rfl := k75_open h
  exact k75_mkM _ _ _ _
theorem full_len (b : List Int) : (full b).length ≤ b.length := by
  have := dc_len b 0
  unfold full rest1
  rw [List.length_append]
  split
  · simp; omega
  · rename_i h
    have : (dc b 0).2.1.length ≠ 0 := fun e => h (List.eq_nil_of_length_eq_zero e)
    simp; omega
def DecPost (w : World) (bs : List Int) (e : Ending) (w' : World) : Prop := ∃ A c, e = .returned (.slice A (full bs).length c) ∧ (full bs).length ≤ c ∧ Kd.R k75 TP w' w.heap.size (fun _ => True) (.slice A (full bs).length c) (full bs) ∧ Below w.heap.size w w'
set_option maxRecDepth 100000 in
set_option maxHeartbeats 2000000 in
theorem Decode (w : World) (A : Option Addr) (n c : Nat) (bs : List Int) (hb : ReadsInt w .u8 A n bs) (hB : Bytes bs) (hlen : n ≤ 1000000000) :
    Calls Tryd.prog 58 #[.slice A n c] w (DecPost w bs) := by
  have hbn := hb.1
  have HB := Aside0.mk hb
  have HBY := Aside0.mk hB
  have HBN := Aside0.mk hbn
  clear hb hB hbn
  go_enter Tryd.func58, Tryd.ntmps58
  go_wp2_with (first | (go_at_call 66; refine (New w).mono ?_; rintro e w1 ⟨g, rfl, p0, p1, p2⟩; have P0 := Aside0.mk p0; have P1 := Aside0.mk p1; have P2 := Aside0.mk p2; clear p0 p1 p2) | (go_at_call 70; go_must (refine (Write w1 g w.heap.size [] 0 _ A n c bs P1.out (HB.out.below P2.out) HBY.out (by simp; omega) (by omega)).mono ?_; rintro e w2 ⟨lv, M, rfl, q1, q2, q3, q4⟩; have Q1 := Aside0.mk q1; have Q2 := Aside0.mk q2; have Q3 := Aside0.mk q3; have Q4 := Aside0.mk q4; clear q1 q2 q3 q4)) | (go_at_call 72; go_must (refine (Close w2 g w.heap.size _ _ _ Q3.out).mono ?_; rintro e w3 ⟨lv2, rfl, r1, r2, r3⟩; obtain ⟨A2, c2, rfl, hc2, hC2⟩ := Kd.R_reads r1; have R1 := Aside0.mk hC2; have R3 := Aside0.mk r3; clear r1 r2 r3 hC2)) | (at_builtin; go_must (refine Kd.R_append_rows k75 (Rr := k75.K w3) (w0 := w3) w.heap.size rfl (.tmp 7) (.tmp 9) 72 TP (.agg #[.int .i32 0, .int .i64 0, .int .i64 0]) 24 rfl Tryd.underlying72 info_P rfl (by decide) (by decide) lv (dc bs 0).1 (rest1 (dc bs 0).2.1 (dc bs 0).2.2) A2 _ c2 (fun _ => True) (fun _ => False) rfl rfl ?ho R1.out (fun x cs h => k72_KM x cs h) (fun _ h => h.elim) (fun _ _ => trivial) (Below.refl _ _) ?hb ?hl ?hh)))
  case ho =>
    have hg := P1.out.lt.1
    have h1 := Kd.R_bound Q2.out
    exact Kd.R_mono (Kd.R_lower (R_chg h1 R3.out (fun k hk he => by have := hk.2.1; omega)) P2.out.size) (fun _ _ => trivial)
  case hb => have h1 := P2.out.size; have h2 := Q4.out.size; have h3 := R3.out.size; omega
  case hl =>
    have h1 := dc_len bs 0
    have h2 := dc_rest bs 0
    have h3 : (rest1 (dc bs 0).2.1 (dc bs 0).2.2).length ≤ 1 := by unfold rest1; split <;> simp
    have h4 := HBN.out
    omega
  case hh =>
    intro v1 w4 hR hb4 hg4 hat4
    have hfull : (dc bs 0).1 ++ rest1 (dc bs 0).2.1 (dc bs 0).2.2 = full bs := rfl
    rw [hfull] at hR
    obtain ⟨A5, c5, rfl, hc5, hC5⟩ := Kd.R_reads hR
    have HR := Aside0.mk hR
    have HB4 := Aside0.mk hb4
    clear hR hb4 hg4 hat4 hC5 hfull
    have hL := HR.out
    obtain ⟨L, hLL⟩ : ∃ L, L = (full bs).length := ⟨_, rfl⟩
    rw [← hLL]
    have HLL := Aside0.mk hLL
    clear hLL hL
    go_wp2
    go_ret
    have e := HLL.out
    subst e
    refine ⟨A5, c5, rfl, hc5, HR.out, ?_⟩
    have b2 : Below w.heap.size w w2 := Q4.out.below_of P2.out (fun b hb => by rw [hb]; exact P0.out)
    have b3 : Below w.heap.size w w3 := R3.out.below_of b2 (fun b hb => by rw [hb]; exact P0.out)
    exact b3.trans HB4.out
end Go.Proofs.YtiggjbclbdikmaaDoor.Ud
namespace Go.Proofs.YtiggjbclbdikmaaDoor.X
set_option linter.unusedVariables false
set_option linter.unusedSimpArgs false
open Go.RowKit Go.Proofs.YtiggjbclbdikmaaDoorW.PrintWords Go.Proofs.YtiggjbclbdikmaaDoorW.PrintLast Go.Proofs.YtiggjbclbdikmaaDoorW.PrintMore Go.Proofs.YtiggjbclbdikmaaDoor.Ux Go.Proofs.YtiggjbclbdikmaaDoor.Ud
def runesOf (s : ByteArray) : List Int := (full (bytesOf s)).map (·.f0)
def norm_Runes.f (a0 : ByteArray) : Option (List Int) := if a0.size ≤ 1000000000 then some (runesOf a0) else none
theorem bytesOf_Bytes (s : ByteArray) : Bytes (bytesOf s) := fun x hx => by
  unfold bytesOf at hx
  obtain ⟨b, _, rfl⟩ := List.mem_map.1 hx
  have := b.toNat_lt
  omega
set_option maxHeartbeats 8000000 in
set_option maxRecDepth 100000 in
theorem norm_Runes.calls (a0 : ByteArray) (r : List Int) (w : World) (h : norm_Runes.f a0 = some r) :
    Calls Tryd.prog 27 #[.string a0] w fun e w' => ∃ v0_ : Value, e = .returned (v0_) ∧ Kd.R (Kd.int .i32) 21 w' w.heap.size (fun _ => True) v0_ r ∧ Below w.heap.size w w' := by
  unfold norm_Runes.f at h
  split at h
  case isFalse => exact absurd h (by simp)
  case isTrue hl =>
    have h := Option.some.inj h
    have HR := Aside0.mk h.symm
    have hl2 : a0.size ≤ 9223372036854775807 := by omega
    have HL := Aside0.mk hl
    have HL2 := Aside0.mk hl2
    clear h hl hl2
    have kb := fun W => print_bytes (P := Tryd.prog) 9 27 5 Tryd.underlying9 Tryd.underlying27 Tryd.underlying5 a0 W
    have HB := Aside0.mk (Below.refl w.heap.size w)
    go_enter Tryd.func27, Tryd.ntmps27
    go_wp2_with (first | (go_at_call 58; go_must (refine (Decode (Lib.bytesWorld w 5 a0) _ _ _ (bytesOf a0) (bytes_reads w 5 a0 HL2.out) (bytesOf_Bytes a0) HL.out).mono ?_; rintro e w1 ⟨A, c, rfl, p0, p1, p2⟩; have HC := Aside0.mk p0; have HO := Aside0.mk (Kd.R_lower p1 (bytes_below (Below.refl w.heap.size w) (Nat.le_refl _) 5 a0).size); have HB1 := Aside0.mk ((bytes_below (Below.refl w.heap.size w) (Nat.le_refl _) 5 a0).trans (p2.mono (bytes_below (Below.refl w.heap.size w) (Nat.le_refl _) 5 a0).size)); clear p0 p1 p2)))
    have hlen : (full (bytesOf a0)).length ≤ 1000000000 := Nat.le_trans (full_len _) (by rw [bytesOf_length]; exact HL.out)
    have HLN := Aside0.mk hlen
    obtain ⟨ps, hps⟩ : ∃ ps, ps = full (bytesOf a0) := ⟨_, rfl⟩
    rw [← hps] at HC HO HLN ⊢
    have HR2 := Aside0.mk (show r = ps.map (·.f0) by rw [HR.out, hps]; rfl)
    clear hps HR hlen
    go_loopw [3, 10] (fun v3 v10 w' => ∃ (i : Nat) (xs : List Int), v10 = .int .i64 i ∧ i ≤ ps.length ∧ Aside0 (xs = (ps.take i).map (·.f0)) ∧ Aside0 (Kd.R (Kd.int .i32) 21 w' w.heap.size (fun _ => True) v3 xs) ∧ Aside0 (Kd.R k75 75 w' w.heap.size (fun _ => True) (.slice A ps.length c) ps) ∧ Aside0 (Below w.heap.size w w')) (fun _ v10 _ => ps.length - (intOf v10).toNat)
    case atStart => exact ⟨0, [], rfl, Nat.zero_le _, ⟨by simp⟩, ⟨Kd.R_nil _ _ _ _ _⟩, HO, HB1⟩
    case round =>
      clear HO HB1
      obtain ⟨i, xs, rfl, hi, HX, HO_3, HO_4, HB1⟩ := hrel
      by_cases hlt : i < ps.length
      · have hd : decide ((i : Int) < (ps.length : Int)) = true := decide_eq_true (by omega)
        have hd2 : decide (i < ps.length) = true := decide_eq_true hlt
        obtain ⟨ad, rfl, h1, h2, h3⟩ := at_T75 (Kd.R_reads' HO_4.out).2.2 (i : Int) (by omega) (by omega)
        have hrd : rd_T75 ps (i : Int) = ps[i] := by unfold rd_T75; simp [List.getD_eq_getElem?_getD, List.getElem?_eq_getElem hlt]
        rw [hrd] at h1 h2 h3
        simp only [Int.toNat_natCast] at h1 h2 h3
        have hpl := HLN.out
        have hn0 : (0 : Int) ≤ (i : Int) := by omega
        have hn1 : (i : Int) < (ps.length : Int) := by omega
        obtain ⟨y, hy⟩ : ∃ y : List Int, y = xs ++ [ps[i].f0] := ⟨_, rfl⟩
        have HY := Aside0.mk hy
        have LM := Aside0.mk (show xs.length < 35184372088832 by have := HLN.out; rw [HX.out, List.length_map, List.length_take]; omega)
        have HXl := Aside0.mk (show y = (ps.take (i + 1)).map (·.f0) by rw [hy, HX.out, List.take_succ_eq_append_getElem hlt, List.map_append]; rfl)
        clear hy hrd
        go_wp2_with (first | (at_builtin; go_must (refine Kd.R_append (Kd.int .i32) (w0 := w) w.heap.size rfl (.tmp 14) (.tmp 17) 22 21 (.int .i32 0) 4 rfl Tryd.underlying22 info21 rfl (by decide) (by omega) u3 xs (ps[i].f0) [.int .i32 (ps[i].f0)] (fun _ => True) (fun _ => False) rfl (congrArg (fun k => Value.slice (some ⟨k, 0, none⟩) 1 1) (Array.size_push _).symm) ?aP (fun _ hk => hk.elim) ?aF ?aO ?aB ?aS ?aL ?_; (case aP => exact rfl); (case aB => exact (by repeat (first | (with_reducible first | exact HB1.out | apply below_alloc | apply pw_below_drewN | apply below_drew1) | exact HB1.out))); (case aF => exact (fun _ _ => trivial)); (case aO => exact (by (with_reducible repeat (first | apply Kd.R_alloc | apply Kd.R_drewN | apply Kd.R_drew)); exact HO_3.out)); (case aS => exact (below_size (by repeat (first | (with_reducible first | exact HB1.out | apply below_alloc | apply pw_below_drewN | apply below_drew1) | exact HB1.out)))); (case aL => have := LM.out; omega); intro v287 w8 ho hb hg hat; rw [← HY.out] at ho; have n0_ := Aside0.mk (Kd.R_over' (by (with_reducible repeat (first | apply Kd.R_alloc | apply Kd.R_drewN | apply Kd.R_drew)); exact HO_4.out) (Kd.R_typed (by (with_reducible repeat (first | apply Kd.R_alloc | apply Kd.R_drewN | apply Kd.R_drew)); exact HO_3.out)) (by decide) hg); have n1_ := Aside0.mk (hb); have n2_ := Aside0.mk (ho); clear HO_4; clear HB1; clear HO_3; have HO_4 := n0_; have HB1 := n1_; have HO288 := n2_; clear n0_ n1_ n2_; clear ho hb hg hat)))
        go_roundw
        case rel => exact ⟨i + 1, y, by first | go_num | (rw [show wrap64 ((i : Int) + 1) = ((i + 1 : Nat) : Int) by rw [wrap64_in] <;> omega]), by omega, HXl, HO288, HO_4, HB1⟩
        case measure => simp [intOf] <;> omega
      · have hd : decide ((i : Int) < (ps.length : Int)) = false := decide_eq_false (by omega)
        have hd2 : decide (i < ps.length) = false := decide_eq_false hlt
        go_wp2
        go_ret
        refine ⟨_, rfl, ?_, HB1.out⟩
        have h := HX.out
        rw [show i = ps.length by omega, List.take_length] at h
        rw [HR2.out, ← h]
        exact HO_3.out
end Go.Proofs.YtiggjbclbdikmaaDoor.X
namespace Go.Proofs.YtiggjbclbdikmaaDoor.X
open Go.RowKit Go.Proofs.YtiggjbclbdikmaaDoorW.PrintWords Go.Proofs.YtiggjbclbdikmaaDoorW.PrintLast Go.Proofs.YtiggjbclbdikmaaDoorW.PrintMore
attribute [local go_sem] max2_int min2_int max_two min_two max_three min_three max_four min_four   
set_option linter.unusedVariables false
set_option linter.unusedSimpArgs false
def tremaref01_Valid.f (a0 : Int) : Option (Bool) := if a0 ≥ 0 then (if a0 < 1114112 then (if a0 ≥ 55296 then (some (!(decide (a0 < 57344)))) else (some (!false))) else (some false)) else (some false)
set_option maxHeartbeats 8000000 in
set_option maxRecDepth 100000 in
theorem tremaref01_Valid.calls (a0 : Int) (r : Bool) (w : World) (h : tremaref01_Valid.f a0 = some r) :
  Calls Tryd.prog 92 #[.int .i32 a0] w fun e w' => e = .returned (.bool r) ∧ Drawn0 w w' := by
 have H : (if a0 ≥ 0 then (if a0 < 1114112 then (if a0 ≥ 55296 then (some (!(decide (a0 < 57344)))) else (some (!false))) else (some false)) else (some false)) = some r := h
 clear h
 by_cases c2 : a0 ≥ 0
 ·rw [if_pos c2] at H
  have c2b0 : decide (0 ≤ a0) = true := decide_eq_true c2
  clear c2
  by_cases c3 : a0 < 1114112
  ·rw [if_pos c3] at H
   have c3b0 : decide (a0 < 1114112) = true := decide_eq_true c3
   clear c3
   by_cases c4 : a0 ≥ 55296
   ·rw [if_pos c4] at H
    have c4b0 : decide (55296 ≤ a0) = true := decide_eq_true c4
    clear c4
    obtain rfl := Option.some.inj H
    go_enter Tryd.func92, Tryd.ntmps92
    go_wp2
    go_ret
    exact ⟨by first | rfl | (simp; done) | (simp [*]; done), by repeat (first | exact Drawn0.refl _ | apply Drawn0.step)⟩
   ·rw [if_neg c4] at H
    have c4b0 : decide (55296 ≤ a0) = false := decide_eq_false c4
    clear c4
    obtain rfl := Option.some.inj H
    go_enter Tryd.func92, Tryd.ntmps92
    go_wp2
    go_ret
    exact ⟨by first | rfl | (simp; done) | (simp [*]; done), by repeat (first | exact Drawn0.refl _ | apply Drawn0.step)⟩
  ·rw [if_neg c3] at H
   have c3b0 : decide (a0 < 1114112) = false := decide_eq_false c3
   clear c3
   obtain rfl := Option.some.inj H
   go_enter Tryd.func92, Tryd.ntmps92
   go_wp2
   go_ret
   exact ⟨by first | rfl | (simp; done) | (simp [*]; done), by repeat (first | exact Drawn0.refl _ | apply Drawn0.step)⟩
 ·rw [if_neg c2] at H
  have c2b0 : decide (0 ≤ a0) = false := decide_eq_false c2
  clear c2
  obtain rfl := Option.some.inj H
  go_enter Tryd.func92, Tryd.ntmps92
  go_wp2
  go_ret
  exact ⟨by first | rfl | (simp; done) | (simp [*]; done), by repeat (first | exact Drawn0.refl _ | apply Drawn0.step)⟩
end Go.Proofs.YtiggjbclbdikmaaDoor.X
namespace Go.Proofs.YtiggjbclbdikmaaDoor.X
open Go.RowKit Go.Proofs.YtiggjbclbdikmaaDoorW.PrintWords Go.Proofs.YtiggjbclbdikmaaDoorW.PrintLast Go.Proofs.YtiggjbclbdikmaaDoorW.PrintMore
attribute [local go_sem] max2_int min2_int max_two min_two max_three min_three max_four min_four   
set_option linter.unusedVariables false
set_option linter.unusedSimpArgs false
def tremaref01_Put.j0 : Nat → List Int → Int → Option (List Int)
 | 0, _, _ => none
 | k + 1, x0, x1 => if x1 < 128 then (if x0.length < 140737488355328 then (some (x0 ++ [(x1) % 256])) else (none)) else (if x1 < 2048 then ((some (([(wrap32 (192 + (wrap32 (Int.tdiv x1 64)))) % 256, (wrap32 (128 + (Int.tmod x1 64))) % 256] : List Int) : List Int)).bind fun y287 => (if x0.length + y287.length < 140737488355328 then (some (x0 ++ y287)) else (none))) else (if x1 < 65536 then ((some (([(wrap32 (224 + (wrap32 (Int.tdiv x1 4096)))) % 256, (wrap32 (128 + (Int.tmod (wrap32 (Int.tdiv x1 64)) 64))) % 256, (wrap32 (128 + (Int.tmod x1 64))) % 256] : List Int) : List Int)).bind fun y293 => (if x0.length + y293.length < 140737488355328 then (some (x0 ++ y293)) else (none))) else ((some (([(wrap32 (240 + (wrap32 (Int.tdiv x1 262144)))) % 256, (wrap32 (128 + (Int.tmod (wrap32 (Int.tdiv x1 4096)) 64))) % 256, (wrap32 (128 + (Int.tmod (wrap32 (Int.tdiv x1 64)) 64))) % 256, (wrap32 (128 + (Int.tmod x1 64))) % 256] : List Int) : List Int)).bind fun y299 => (if x0.length + y299.length < 140737488355328 then (some (x0 ++ y299)) else (none)))))
def tremaref01_Put.f (k : Nat) (l0 : List Int) (a1 : Int) : Option (List Int) := (tremaref01_Valid.f a1).bind fun t283 => (if t283 = true then (tremaref01_Put.j0 k l0 a1) else (tremaref01_Put.j0 k l0 65533))
theorem tremaref01_Put.mono_l : ∀ k, (∀ y0 y1, LeO (tremaref01_Put.j0 k y0 y1) (tremaref01_Put.j0 (k + 1) y0 y1))
 | 0 => fun _ _ r h => by simp [tremaref01_Put.j0] at h
 | k + 1 => by
  have ih0 := tremaref01_Put.mono_l k
  ·intro y0 y1
   unfold tremaref01_Put.j0
   repeat' first
   | (with_reducible exact ih0 _ _)
   | (with_reducible exact LeO.refl _)
   | (with_reducible exact LeO.none _)
   | (with_reducible refine LeO.ite ?_ ?_)
   | (with_reducible refine LeO.bind ?_ (fun _ => ?_))
   | exact ih0 _ _
   | exact LeO.none _
   | refine LeO.ite ?_ ?_
   | refine LeO.bind ?_ (fun _ => ?_)
theorem tremaref01_Put.mono : ∀ a0 a1 k, LeO (tremaref01_Put.f k a0 a1) (tremaref01_Put.f (k + 1) a0 a1) := by
 intro a0 a1 k
 have ih0 := tremaref01_Put.mono_l k
 unfold tremaref01_Put.f
 repeat' first
   | (with_reducible exact ih0 _ _)
   | (with_reducible exact LeO.refl _)
   | (with_reducible exact LeO.none _)
   | (with_reducible refine LeO.ite ?_ ?_)
   | (with_reducible refine LeO.bind ?_ (fun _ => ?_))
   | exact ih0 _ _
   | exact LeO.none _
   | refine LeO.ite ?_ ?_
   | refine LeO.bind ?_ (fun _ => ?_)
set_option maxHeartbeats 8000000 in
set_option maxRecDepth 100000 in
theorem tremaref01_Put.calls (k : Nat) (P0_ : Nat → Prop) (u9000_ : Value) (l0 : List Int) (a1 : Int) (r : List Int) (w0 w : World) (hB : Below w0.heap.size w0 w) (ho0 : Kd.R (Kd.int .u8) 5 w w0.heap.size P0_ u9000_ l0) (h : tremaref01_Put.f k l0 a1 = some r) :
  Calls Tryd.prog 80 #[u9000_, .int .i32 a1] w fun e w' => ∃ v0_ : Value, e = .returned (v0_) ∧ Kd.R (Kd.int .u8) 5 w' w0.heap.size (fun k_ => (P0_ k_ ∨ w.heap.size ≤ k_)) v0_ r ∧ Below w0.heap.size w0 w' ∧ Kept w w' (fun k_ => P0_ k_) := by
 have HO0 := Aside0.mk (show Kd.R (Kd.int .u8) 5 w w0.heap.size (fun k_ => (P0_ k_ ∨ w.heap.size ≤ k_)) u9000_ l0 from Kd.R_mono ho0 (fun k_ hk => (.inl hk)))
 have HK := Aside0.mk (Kept.refl w (fun k_ => P0_ k_))
 have HW0 := Aside0.mk hB.size
 have HB := Aside0.mk hB
 clear hB
 have H : ((tremaref01_Valid.f a1).bind fun t283 => (if t283 = true then (tremaref01_Put.j0 k l0 a1) else (tremaref01_Put.j0 k l0 65533))) = some r := h
 clear h
 replace H := Option.bind_eq_some_iff.mp H
 obtain ⟨t283, A30, H⟩ := H
 replace H : (if t283 = true then (tremaref01_Put.j0 k l0 a1) else (tremaref01_Put.j0 k l0 65533)) = some r := H
 have A3 := Aside0.mk A30
 clear A30
 have HC4 := Aside0.mk H
 clear H
 go_enter Tryd.func80, Tryd.ntmps80
 go_upto_if 7 with (first | ((with_reducible refine gate_callee (f := 92) rfl ?_); refine goesL_ (some 6) rfl rfl Tryd.func92 (by kernel_rfl) rfl #[.int .i32 a1] rfl (by (try simp only [List.map_toArray, List.map_cons, List.map_nil]); first | done | rfl | (simp only [List.length_drop, List.length_take]; rfl)) ?_; (with_reducible refine (tremaref01_Valid.calls a1 t283 _ A3.out).mono ?_); rintro e w' ⟨rfl, ⟨nd, rfl⟩⟩; refine ⟨_, rfl, ?_⟩))
 (try simp only [Act.put, List.setIfInBounds_toArray, List.set_cons_zero, List.set_cons_succ])
 go_cut [1] (fun v1 wc => ∃ (kq : Nat) (x1_3 : Int), v1 = .int .i32 x1_3 ∧ Aside0 (tremaref01_Put.j0 kq l0 x1_3 = some r) ∧ Aside0 (kq ≤ k) ∧ Aside0 (Kd.R (Kd.int .u8) 5 wc w0.heap.size (fun k_ => (P0_ k_ ∨ w.heap.size ≤ k_)) u9000_ l0) ∧ Aside0 (Kept w wc (fun k_ => P0_ k_)) ∧ Aside0 (Below w0.heap.size w0 wc))
 case first =>
  have H := HC4.out
  clear HC4
  by_cases c5 : t283 = true
  ·subst c5
   have H1 : (tremaref01_Put.j0 k l0 a1) = some r := by rw [if_pos rfl] at H; exact H
   clear H
   have H := H1
   clear H1
   have H' := Aside0.mk H
   clear H
   go_wp2
   go_meet
   case rel => exact ⟨_, (a1), (by first | rfl | (simp; done) | (simp [*]; done)), H', ⟨by first | omega | exact Nat.le_refl _⟩, ⟨by (with_reducible repeat (first | apply Kd.R_alloc | apply Kd.R_drewN | apply Kd.R_drew)); exact HO0.out⟩, ⟨by repeat (first | (with_reducible first | exact HK.out | apply Kept.alloc | apply Kept.drewN | apply Kept.drew) | exact HK.out)⟩, ⟨by repeat (first | (with_reducible first | exact HB.out | apply below_alloc | apply pw_below_drewN | apply below_drew1) | exact HB.out)⟩⟩
  ·replace c5 := Bool.eq_false_iff.mpr c5
   subst c5
   have H1 : (tremaref01_Put.j0 k l0 65533) = some r := by rw [if_neg (show ¬ (false = true) by decide)] at H; exact H
   clear H
   have H := H1
   clear H1
   have H' := Aside0.mk H
   clear H
   go_wp2
   go_meet
   case rel => exact ⟨_, (65533), (by first | rfl | (simp; done) | (simp [*]; done)), H', ⟨by first | omega | exact Nat.le_refl _⟩, ⟨by (with_reducible repeat (first | apply Kd.R_alloc | apply Kd.R_drewN | apply Kd.R_drew)); exact HO0.out⟩, ⟨by repeat (first | (with_reducible first | exact HK.out | apply Kept.alloc | apply Kept.drewN | apply Kept.drew) | exact HK.out)⟩, ⟨by repeat (first | (with_reducible first | exact HB.out | apply below_alloc | apply pw_below_drewN | apply below_drew1) | exact HB.out)⟩⟩
 case rest =>
  clear HC4
  try clear p2
  try clear c5
  obtain ⟨kq, x1_3, rfl, HA, HJ3, HO_0, HK, HB⟩ := hcut
  cases kq with
  | zero => exact absurd HA.out (by simp [tremaref01_Put.j0])
  | succ kj3 =>
   have H := HA.out
   clear HA
   simp only [tremaref01_Put.j0] at H
   by_cases c6 : x1_3 < 128
   ·rw [if_pos c6] at H
    have c6b0 : decide (x1_3 < 128) = true := decide_eq_true c6
    clear c6
    by_cases c7 : l0.length < 140737488355328
    ·rw [if_pos c7] at H
     have LMc7 := Aside0.mk c7
     clear c7
     obtain ⟨y284, hy284⟩ : ∃ y_ : List Int, y_ = (l0 ++ [(x1_3) % 256]) := ⟨_, rfl⟩
     replace H : (some y284) = some r := by first | (rw [hy284]; with_reducible exact H) | (have H2_ := (Option.bind_some _ _).symm.trans H; rw [hy284]; with_reducible exact H2_) | (have H2_ := (Option.bind_some _ _).symm.trans H; with_reducible exact H2_) | with_reducible exact H | (rw [hy284]; exact H) | exact H
     have Ny284 := Aside0.mk hy284
     clear hy284
     obtain rfl := Option.some.inj H
     go_wp2_with (first | ((with_reducible refine gate_builtin (b := .append) (xs := #[.tmp 10, .tmp 13]) rfl ?_); at_builtin; refine Kd.R_append (Kd.int .u8) (w0 := w0) w0.heap.size rfl (.tmp 10) (.tmp 13) 27 5 (.int .u8 0) 1 rfl Tryd.underlying27 info5 rfl (by decide) (by omega) u9000_ l0 ((x1_3) % 256) [.int .u8 ((x1_3) % 256)] (fun k_ => (P0_ k_ ∨ w.heap.size ≤ k_)) (fun _ => False) rfl rfl ?aP (fun _ hk => hk.elim) ?aF ?aO ?aB ?aS ?aL ?_; (case aP => exact rfl); (case aB => exact (by repeat (first | (with_reducible first | exact HB.out | apply below_alloc | apply pw_below_drewN | apply below_drew1) | exact HB.out))); (case aF => exact (fun k_ hk => (.inr (Nat.le_trans (by first | exact HK.out.1 | exact (show Kept w _ (fun k_ => P0_ k_) from by repeat (first | (with_reducible first | exact HK.out | apply Kept.alloc | apply Kept.drewN | apply Kept.drew) | exact HK.out)).1) hk)))); (case aO => exact (by (with_reducible repeat (first | apply Kd.R_alloc | apply Kd.R_drewN | apply Kd.R_drew)); exact HO_0.out)); (case aS => exact (below_size (by repeat (first | (with_reducible first | exact HB.out | apply below_alloc | apply pw_below_drewN | apply below_drew1) | exact HB.out)))); (case aL => have := LMc7.out; omega); intro v285 w8 ho hb hg hat; rw [← Ny284.out] at ho; have n0_ := Aside0.mk (hb); have n1_ := Aside0.mk (Kept.of_grown (S := (fun k_ => P0_ k_)) hg (by repeat (first | (with_reducible first | exact HK.out | apply Kept.alloc | apply Kept.drewN | apply Kept.drew) | exact HK.out)) (fun k_ e_ => (HO_0.out.1 k_ e_))); have n2_ := Aside0.mk (ho); clear HB; clear HK; clear HO_0; have HB := n0_; have HK := n1_; have HO286 := n2_; clear n0_ n1_ n2_; clear ho hb hg hat))
     go_ret
     exact ⟨_, by first | rfl | (simp [errW_none, errW_some] <;> rfl) | (simp [*, errW_none, errW_some] <;> rfl), by (with_reducible repeat (first | apply Kd.R_alloc | apply Kd.R_drewN | apply Kd.R_drew)); exact HO286.out, by repeat (first | (with_reducible first | exact HB.out | apply below_alloc | apply pw_below_drewN | apply below_drew1) | exact HB.out), by repeat (first | (with_reducible first | exact HK.out | apply Kept.alloc | apply Kept.drewN | apply Kept.drew) | exact HK.out)⟩
    ·rw [if_neg c7] at H
     exact absurd H (by simp)
   ·rw [if_neg c6] at H
    have c6b0 : decide (x1_3 < 128) = false := decide_eq_false c6
    clear c6
    by_cases c9 : x1_3 < 2048
    ·rw [if_pos c9] at H
     have c9b0 : decide (x1_3 < 2048) = true := decide_eq_true c9
     clear c9
     obtain ⟨y287, hy287⟩ : ∃ y_ : List Int, y_ = (([(wrap32 (192 + (wrap32 (Int.tdiv x1_3 64)))) % 256, (wrap32 (128 + (Int.tmod x1_3 64))) % 256] : List Int)) := ⟨_, rfl⟩
     replace H : (if l0.length + y287.length < 140737488355328 then (some (l0 ++ y287)) else (none)) = some r := by first | (rw [hy287]; with_reducible exact H) | (have H2_ := (Option.bind_some _ _).symm.trans H; rw [hy287]; with_reducible exact H2_) | (have H2_ := (Option.bind_some _ _).symm.trans H; with_reducible exact H2_) | with_reducible exact H | (rw [hy287]; exact H) | exact H
     have Ny287 := Aside0.mk hy287
     clear hy287
     by_cases c10 : l0.length + y287.length < 140737488355328
     ·rw [if_pos c10] at H
      have LMc10 := Aside0.mk c10
      clear c10
      obtain ⟨y290, hy290⟩ : ∃ y_ : List Int, y_ = (l0 ++ y287) := ⟨_, rfl⟩
      replace H : (some y290) = some r := by first | (rw [hy290]; with_reducible exact H) | (have H2_ := (Option.bind_some _ _).symm.trans H; rw [hy290]; with_reducible exact H2_) | (have H2_ := (Option.bind_some _ _).symm.trans H; with_reducible exact H2_) | with_reducible exact H | (rw [hy290]; exact H) | exact H
      have Ny290 := Aside0.mk hy290
      clear hy290
      obtain rfl := Option.some.inj H
      go_wp2_with (first | ((with_reducible refine gate_dst (N := 26) rfl ?_); refine Kd.R_lit (Kd.int .u8) _ 5 ?hg (N := 26) ?hd (xs := ([(wrap32 (192 + (wrap32 (Int.tdiv x1_3 64)))) % 256, (wrap32 (128 + (Int.tmod x1_3 64))) % 256] : List Int)) (inner := [.int .u8 ((wrap32 (192 + (wrap32 (Int.tdiv x1_3 64)))) % 256), .int .u8 ((wrap32 (128 + (Int.tmod x1_3 64))) % 256)]) (ok := fun _ => True) (okp := fun _ => True) ?hr ?hp (fun _ hk => hk) trivial (Below.refl _ _) (Nat.le_refl _) (by simp) ?_; (case hd => rfl); (case hg => rfl); (case hr => first | (go_simp; done) | (go_simp; rfl)); (case hp => exact (Reps.one (show Kd.M (Kd.int .u8) _ _ _ ((wrap32 (192 + (wrap32 (Int.tdiv x1_3 64)))) % 256) [.int .u8 ((wrap32 (192 + (wrap32 (Int.tdiv x1_3 64)))) % 256)] from rfl) (Reps.one (show Kd.M (Kd.int .u8) _ _ _ ((wrap32 (128 + (Int.tmod x1_3 64))) % 256) [.int .u8 ((wrap32 (128 + (Int.tmod x1_3 64))) % 256)] from rfl) (Reps.none _ _)))); intro v288 w11 ho12 hb hg_ hnew_; clear hg_ hnew_; (first | rw [← Ny287.out] at ho12 | (simp only [Int.reduceToNat] at ho12; rw [← Ny287.out] at ho12)); have n0_ := Aside0.mk (Kd.R_elder' (by (with_reducible repeat (first | apply Kd.R_alloc | apply Kd.R_drewN | apply Kd.R_drew)); exact HO_0.out) (Kd.R_base ho12) hb); have n1_ := Aside0.mk (Kd.R_lower (Kd.R_new' (Kd.R_newM (M := fun k_ => (P0_ k_ ∨ w.heap.size ≤ k_)) ho12 (by first | exact HK.out.1 | exact (show Kept w _ (fun k_ => P0_ k_) from by repeat (first | (with_reducible first | exact HK.out | apply Kept.alloc | apply Kept.drewN | apply Kept.drew) | exact HK.out)).1) (fun k_ h_ => .inr h_)) (Kd.R_lt (by (with_reducible repeat (first | apply Kd.R_alloc | apply Kd.R_drewN | apply Kd.R_drew)); exact HO_0.out))) (below_size (by repeat (first | (with_reducible first | exact HB.out | apply below_alloc | apply pw_below_drewN | apply below_drew1) | exact HB.out)))); have n2_ := Aside0.mk (Kept.below (S := (fun k_ => P0_ k_)) (by repeat (first | (with_reducible first | exact HK.out | apply Kept.alloc | apply Kept.drewN | apply Kept.drew) | exact HK.out)) hb); have n3_ := Aside0.mk (below_step (by repeat (first | (with_reducible first | exact HB.out | apply below_alloc | apply pw_below_drewN | apply below_drew1) | exact HB.out)) hb); clear HO_0; clear HK; clear HB; have HO_0 := n0_; have HO289 := n1_; have HK := n2_; have HB := n3_; clear n0_ n1_ n2_ n3_; clear hb ho12; obtain ⟨Ao14, co14, eo14⟩ := Kd.R_slice HO289.out; subst eo14) | ((with_reducible refine gate_builtin (b := .append) (xs := #[.tmp 17, .tmp 26]) rfl ?_); at_builtin; refine Kd.R_append_rows (Kd.int .u8) (w0 := w0) w0.heap.size rfl (.tmp 17) (.tmp 26) 27 5 (.int .u8 0) 1 rfl Tryd.underlying27 info5 rfl (by decide) (by omega) u9000_ l0 y287 _ _ _ (fun k_ => (P0_ k_ ∨ w.heap.size ≤ k_) ∧ some k_ ≠ (.slice Ao14 y287.length co14 : Value).ownBlock) (fun _ => False) rfl rfl ?aO ?aR (fun _ _ h => h) (fun _ h => h.elim) ?aF ?aB ?aS ?aL ?_; (case aR => repeat (first | exact (Kd.R_reads' HO289.out).2.2 | (with_reducible refine Kd.C_alloc ?_ _) | (with_reducible refine Kd.C_drewN ?_ _) | (with_reducible refine Kd.C_drew ?_))); (case aB => exact (by repeat (first | (with_reducible first | exact HB.out | apply below_alloc | apply pw_below_drewN | apply below_drew1) | exact HB.out))); (case aF => exact (fun k_ hk => ⟨(.inr (Nat.le_trans (by first | exact HK.out.1 | exact (show Kept w _ (fun k_ => P0_ k_) from by repeat (first | (with_reducible first | exact HK.out | apply Kept.alloc | apply Kept.drewN | apply Kept.drew) | exact HK.out)).1) hk)), Kd.fresh' (Kd.R_lt (by (with_reducible repeat (first | apply Kd.R_alloc | apply Kd.R_drewN | apply Kd.R_drew)); exact HO289.out)) k_ hk⟩)); (case aO => exact (by (with_reducible repeat (first | apply Kd.R_alloc | apply Kd.R_drewN | apply Kd.R_drew)); exact HO_0.out)); (case aS => exact (below_size (by repeat (first | (with_reducible first | exact HB.out | apply below_alloc | apply pw_below_drewN | apply below_drew1) | exact HB.out)))); (case aL => have := LMc10.out; omega); intro v291 w13 ho hb hg hat; rw [← Ny290.out] at ho; have n0_ := Aside0.mk (Kd.R_after (ok := (fun k_ => (P0_ k_ ∨ w.heap.size ≤ k_))) (by (with_reducible repeat (first | apply Kd.R_alloc | apply Kd.R_drewN | apply Kd.R_drew)); exact Kd.R_mono HO289.out (fun _ hk => ⟨hk.1.1, hk.2⟩)) hg hat); have n1_ := Aside0.mk (hb); have n2_ := Aside0.mk (Kept.of_grown (S := (fun k_ => P0_ k_)) hg (by repeat (first | (with_reducible first | exact HK.out | apply Kept.alloc | apply Kept.drewN | apply Kept.drew) | exact HK.out)) (fun k_ e_ => (HO_0.out.1 k_ e_).1)); have n3_ := Aside0.mk (ho); clear HO289; clear HB; clear HK; clear HO_0; have HO289 := n0_; have HB := n1_; have HK := n2_; have HO292 := n3_; clear n0_ n1_ n2_ n3_; clear ho hb hg hat))
      go_ret
      exact ⟨_, by first | rfl | (simp [errW_none, errW_some] <;> rfl) | (simp [*, errW_none, errW_some] <;> rfl), by (with_reducible repeat (first | apply Kd.R_alloc | apply Kd.R_drewN | apply Kd.R_drew)); exact Kd.R_mono HO292.out (fun _ hk => hk.1), by repeat (first | (with_reducible first | exact HB.out | apply below_alloc | apply pw_below_drewN | apply below_drew1) | exact HB.out), by repeat (first | (with_reducible first | exact HK.out | apply Kept.alloc | apply Kept.drewN | apply Kept.drew) | exact HK.out)⟩
     ·rw [if_neg c10] at H
      exact absurd H (by simp)
    ·rw [if_neg c9] at H
     have c9b0 : decide (x1_3 < 2048) = false := decide_eq_false c9
     clear c9
     by_cases c15 : x1_3 < 65536
     ·rw [if_pos c15] at H
      have c15b0 : decide (x1_3 < 65536) = true := decide_eq_true c15
      clear c15
      obtain ⟨y293, hy293⟩ : ∃ y_ : List Int, y_ = (([(wrap32 (224 + (wrap32 (Int.tdiv x1_3 4096)))) % 256, (wrap32 (128 + (Int.tmod (wrap32 (Int.tdiv x1_3 64)) 64))) % 256, (wrap32 (128 + (Int.tmod x1_3 64))) % 256] : List Int)) := ⟨_, rfl⟩
      replace H : (if l0.length + y293.length < 140737488355328 then (some (l0 ++ y293)) else (none)) = some r := by first | (rw [hy293]; with_reducible exact H) | (have H2_ := (Option.bind_some _ _).symm.trans H; rw [hy293]; with_reducible exact H2_) | (have H2_ := (Option.bind_some _ _).symm.trans H; with_reducible exact H2_) | with_reducible exact H | (rw [hy293]; exact H) | exact H
      have Ny293 := Aside0.mk hy293
      clear hy293
      by_cases c16 : l0.length + y293.length < 140737488355328
      ·rw [if_pos c16] at H
       have LMc16 := Aside0.mk c16
       clear c16
       obtain ⟨y296, hy296⟩ : ∃ y_ : List Int, y_ = (l0 ++ y293) := ⟨_, rfl⟩
       replace H : (some y296) = some r := by first | (rw [hy296]; with_reducible exact H) | (have H2_ := (Option.bind_some _ _).symm.trans H; rw [hy296]; with_reducible exact H2_) | (have H2_ := (Option.bind_some _ _).symm.trans H; with_reducible exact H2_) | with_reducible exact H | (rw [hy296]; exact H) | exact H
       have Ny296 := Aside0.mk hy296
       clear hy296
       obtain rfl := Option.some.inj H
       go_wp2_with (first | ((with_reducible refine gate_dst (N := 44) rfl ?_); refine Kd.R_lit (Kd.int .u8) _ 5 ?hg (N := 44) ?hd (xs := ([(wrap32 (224 + (wrap32 (Int.tdiv x1_3 4096)))) % 256, (wrap32 (128 + (Int.tmod (wrap32 (Int.tdiv x1_3 64)) 64))) % 256, (wrap32 (128 + (Int.tmod x1_3 64))) % 256] : List Int)) (inner := [.int .u8 ((wrap32 (224 + (wrap32 (Int.tdiv x1_3 4096)))) % 256), .int .u8 ((wrap32 (128 + (Int.tmod (wrap32 (Int.tdiv x1_3 64)) 64))) % 256), .int .u8 ((wrap32 (128 + (Int.tmod x1_3 64))) % 256)]) (ok := fun _ => True) (okp := fun _ => True) ?hr ?hp (fun _ hk => hk) trivial (Below.refl _ _) (Nat.le_refl _) (by simp) ?_; (case hd => rfl); (case hg => rfl); (case hr => first | (go_simp; done) | (go_simp; rfl)); (case hp => exact (Reps.one (show Kd.M (Kd.int .u8) _ _ _ ((wrap32 (224 + (wrap32 (Int.tdiv x1_3 4096)))) % 256) [.int .u8 ((wrap32 (224 + (wrap32 (Int.tdiv x1_3 4096)))) % 256)] from rfl) (Reps.one (show Kd.M (Kd.int .u8) _ _ _ ((wrap32 (128 + (Int.tmod (wrap32 (Int.tdiv x1_3 64)) 64))) % 256) [.int .u8 ((wrap32 (128 + (Int.tmod (wrap32 (Int.tdiv x1_3 64)) 64))) % 256)] from rfl) (Reps.one (show Kd.M (Kd.int .u8) _ _ _ ((wrap32 (128 + (Int.tmod x1_3 64))) % 256) [.int .u8 ((wrap32 (128 + (Int.tmod x1_3 64))) % 256)] from rfl) (Reps.none _ _))))); intro v294 w17 ho18 hb hg_ hnew_; clear hg_ hnew_; (first | rw [← Ny293.out] at ho18 | (simp only [Int.reduceToNat] at ho18; rw [← Ny293.out] at ho18)); have n0_ := Aside0.mk (Kd.R_elder' (by (with_reducible repeat (first | apply Kd.R_alloc | apply Kd.R_drewN | apply Kd.R_drew)); exact HO_0.out) (Kd.R_base ho18) hb); have n1_ := Aside0.mk (Kd.R_lower (Kd.R_new' (Kd.R_newM (M := fun k_ => (P0_ k_ ∨ w.heap.size ≤ k_)) ho18 (by first | exact HK.out.1 | exact (show Kept w _ (fun k_ => P0_ k_) from by repeat (first | (with_reducible first | exact HK.out | apply Kept.alloc | apply Kept.drewN | apply Kept.drew) | exact HK.out)).1) (fun k_ h_ => .inr h_)) (Kd.R_lt (by (with_reducible repeat (first | apply Kd.R_alloc | apply Kd.R_drewN | apply Kd.R_drew)); exact HO_0.out))) (below_size (by repeat (first | (with_reducible first | exact HB.out | apply below_alloc | apply pw_below_drewN | apply below_drew1) | exact HB.out)))); have n2_ := Aside0.mk (Kept.below (S := (fun k_ => P0_ k_)) (by repeat (first | (with_reducible first | exact HK.out | apply Kept.alloc | apply Kept.drewN | apply Kept.drew) | exact HK.out)) hb); have n3_ := Aside0.mk (below_step (by repeat (first | (with_reducible first | exact HB.out | apply below_alloc | apply pw_below_drewN | apply below_drew1) | exact HB.out)) hb); clear HO_0; clear HK; clear HB; have HO_0 := n0_; have HO295 := n1_; have HK := n2_; have HB := n3_; clear n0_ n1_ n2_ n3_; clear hb ho18; obtain ⟨Ao20, co20, eo20⟩ := Kd.R_slice HO295.out; subst eo20) | ((with_reducible refine gate_builtin (b := .append) (xs := #[.tmp 30, .tmp 44]) rfl ?_); at_builtin; refine Kd.R_append_rows (Kd.int .u8) (w0 := w0) w0.heap.size rfl (.tmp 30) (.tmp 44) 27 5 (.int .u8 0) 1 rfl Tryd.underlying27 info5 rfl (by decide) (by omega) u9000_ l0 y293 _ _ _ (fun k_ => (P0_ k_ ∨ w.heap.size ≤ k_) ∧ some k_ ≠ (.slice Ao20 y293.length co20 : Value).ownBlock) (fun _ => False) rfl rfl ?aO ?aR (fun _ _ h => h) (fun _ h => h.elim) ?aF ?aB ?aS ?aL ?_; (case aR => repeat (first | exact (Kd.R_reads' HO295.out).2.2 | (with_reducible refine Kd.C_alloc ?_ _) | (with_reducible refine Kd.C_drewN ?_ _) | (with_reducible refine Kd.C_drew ?_))); (case aB => exact (by repeat (first | (with_reducible first | exact HB.out | apply below_alloc | apply pw_below_drewN | apply below_drew1) | exact HB.out))); (case aF => exact (fun k_ hk => ⟨(.inr (Nat.le_trans (by first | exact HK.out.1 | exact (show Kept w _ (fun k_ => P0_ k_) from by repeat (first | (with_reducible first | exact HK.out | apply Kept.alloc | apply Kept.drewN | apply Kept.drew) | exact HK.out)).1) hk)), Kd.fresh' (Kd.R_lt (by (with_reducible repeat (first | apply Kd.R_alloc | apply Kd.R_drewN | apply Kd.R_drew)); exact HO295.out)) k_ hk⟩)); (case aO => exact (by (with_reducible repeat (first | apply Kd.R_alloc | apply Kd.R_drewN | apply Kd.R_drew)); exact HO_0.out)); (case aS => exact (below_size (by repeat (first | (with_reducible first | exact HB.out | apply below_alloc | apply pw_below_drewN | apply below_drew1) | exact HB.out)))); (case aL => have := LMc16.out; omega); intro v297 w19 ho hb hg hat; rw [← Ny296.out] at ho; have n0_ := Aside0.mk (Kd.R_after (ok := (fun k_ => (P0_ k_ ∨ w.heap.size ≤ k_))) (by (with_reducible repeat (first | apply Kd.R_alloc | apply Kd.R_drewN | apply Kd.R_drew)); exact Kd.R_mono HO295.out (fun _ hk => ⟨hk.1.1, hk.2⟩)) hg hat); have n1_ := Aside0.mk (hb); have n2_ := Aside0.mk (Kept.of_grown (S := (fun k_ => P0_ k_)) hg (by repeat (first | (with_reducible first | exact HK.out | apply Kept.alloc | apply Kept.drewN | apply Kept.drew) | exact HK.out)) (fun k_ e_ => (HO_0.out.1 k_ e_).1)); have n3_ := Aside0.mk (ho); clear HO295; clear HB; clear HK; clear HO_0; have HO295 := n0_; have HB := n1_; have HK := n2_; have HO298 := n3_; clear n0_ n1_ n2_ n3_; clear ho hb hg hat))
       go_ret
       exact ⟨_, by first | rfl | (simp [errW_none, errW_some] <;> rfl) | (simp [*, errW_none, errW_some] <;> rfl), by (with_reducible repeat (first | apply Kd.R_alloc | apply Kd.R_drewN | apply Kd.R_drew)); exact Kd.R_mono HO298.out (fun _ hk => hk.1), by repeat (first | (with_reducible first | exact HB.out | apply below_alloc | apply pw_below_drewN | apply below_drew1) | exact HB.out), by repeat (first | (with_reducible first | exact HK.out | apply Kept.alloc | apply Kept.drewN | apply Kept.drew) | exact HK.out)⟩
      ·rw [if_neg c16] at H
       exact absurd H (by simp)
     ·rw [if_neg c15] at H
      have c15b0 : decide (x1_3 < 65536) = false := decide_eq_false c15
      clear c15
      obtain ⟨y299, hy299⟩ : ∃ y_ : List Int, y_ = (([(wrap32 (240 + (wrap32 (Int.tdiv x1_3 262144)))) % 256, (wrap32 (128 + (Int.tmod (wrap32 (Int.tdiv x1_3 4096)) 64))) % 256, (wrap32 (128 + (Int.tmod (wrap32 (Int.tdiv x1_3 64)) 64))) % 256, (wrap32 (128 + (Int.tmod x1_3 64))) % 256] : List Int)) := ⟨_, rfl⟩
      replace H : (if l0.length + y299.length < 140737488355328 then (some (l0 ++ y299)) else (none)) = some r := by first | (rw [hy299]; with_reducible exact H) | (have H2_ := (Option.bind_some _ _).symm.trans H; rw [hy299]; with_reducible exact H2_) | (have H2_ := (Option.bind_some _ _).symm.trans H; with_reducible exact H2_) | with_reducible exact H | (rw [hy299]; exact H) | exact H
      have Ny299 := Aside0.mk hy299
      clear hy299
      by_cases c21 : l0.length + y299.length < 140737488355328
      ·rw [if_pos c21] at H
       have LMc21 := Aside0.mk c21
       clear c21
       obtain ⟨y302, hy302⟩ : ∃ y_ : List Int, y_ = (l0 ++ y299) := ⟨_, rfl⟩
       replace H : (some y302) = some r := by first | (rw [hy302]; with_reducible exact H) | (have H2_ := (Option.bind_some _ _).symm.trans H; rw [hy302]; with_reducible exact H2_) | (have H2_ := (Option.bind_some _ _).symm.trans H; with_reducible exact H2_) | with_reducible exact H | (rw [hy302]; exact H) | exact H
       have Ny302 := Aside0.mk hy302
       clear hy302
       obtain rfl := Option.some.inj H
       go_wp2_with (first | ((with_reducible refine gate_dst (N := 65) rfl ?_); refine Kd.R_lit (Kd.int .u8) _ 5 ?hg (N := 65) ?hd (xs := ([(wrap32 (240 + (wrap32 (Int.tdiv x1_3 262144)))) % 256, (wrap32 (128 + (Int.tmod (wrap32 (Int.tdiv x1_3 4096)) 64))) % 256, (wrap32 (128 + (Int.tmod (wrap32 (Int.tdiv x1_3 64)) 64))) % 256, (wrap32 (128 + (Int.tmod x1_3 64))) % 256] : List Int)) (inner := [.int .u8 ((wrap32 (240 + (wrap32 (Int.tdiv x1_3 262144)))) % 256), .int .u8 ((wrap32 (128 + (Int.tmod (wrap32 (Int.tdiv x1_3 4096)) 64))) % 256), .int .u8 ((wrap32 (128 + (Int.tmod (wrap32 (Int.tdiv x1_3 64)) 64))) % 256), .int .u8 ((wrap32 (128 + (Int.tmod x1_3 64))) % 256)]) (ok := fun _ => True) (okp := fun _ => True) ?hr ?hp (fun _ hk => hk) trivial (Below.refl _ _) (Nat.le_refl _) (by simp) ?_; (case hd => rfl); (case hg => rfl); (case hr => first | (go_simp; done) | (go_simp; rfl)); (case hp => exact (Reps.one (show Kd.M (Kd.int .u8) _ _ _ ((wrap32 (240 + (wrap32 (Int.tdiv x1_3 262144)))) % 256) [.int .u8 ((wrap32 (240 + (wrap32 (Int.tdiv x1_3 262144)))) % 256)] from rfl) (Reps.one (show Kd.M (Kd.int .u8) _ _ _ ((wrap32 (128 + (Int.tmod (wrap32 (Int.tdiv x1_3 4096)) 64))) % 256) [.int .u8 ((wrap32 (128 + (Int.tmod (wrap32 (Int.tdiv x1_3 4096)) 64))) % 256)] from rfl) (Reps.one (show Kd.M (Kd.int .u8) _ _ _ ((wrap32 (128 + (Int.tmod (wrap32 (Int.tdiv x1_3 64)) 64))) % 256) [.int .u8 ((wrap32 (128 + (Int.tmod (wrap32 (Int.tdiv x1_3 64)) 64))) % 256)] from rfl) (Reps.one (show Kd.M (Kd.int .u8) _ _ _ ((wrap32 (128 + (Int.tmod x1_3 64))) % 256) [.int .u8 ((wrap32 (128 + (Int.tmod x1_3 64))) % 256)] from rfl) (Reps.none _ _)))))); intro v300 w22 ho23 hb hg_ hnew_; clear hg_ hnew_; (first | rw [← Ny299.out] at ho23 | (simp only [Int.reduceToNat] at ho23; rw [← Ny299.out] at ho23)); have n0_ := Aside0.mk (Kd.R_elder' (by (with_reducible repeat (first | apply Kd.R_alloc | apply Kd.R_drewN | apply Kd.R_drew)); exact HO_0.out) (Kd.R_base ho23) hb); have n1_ := Aside0.mk (Kd.R_lower (Kd.R_new' (Kd.R_newM (M := fun k_ => (P0_ k_ ∨ w.heap.size ≤ k_)) ho23 (by first | exact HK.out.1 | exact (show Kept w _ (fun k_ => P0_ k_) from by repeat (first | (with_reducible first | exact HK.out | apply Kept.alloc | apply Kept.drewN | apply Kept.drew) | exact HK.out)).1) (fun k_ h_ => .inr h_)) (Kd.R_lt (by (with_reducible repeat (first | apply Kd.R_alloc | apply Kd.R_drewN | apply Kd.R_drew)); exact HO_0.out))) (below_size (by repeat (first | (with_reducible first | exact HB.out | apply below_alloc | apply pw_below_drewN | apply below_drew1) | exact HB.out)))); have n2_ := Aside0.mk (Kept.below (S := (fun k_ => P0_ k_)) (by repeat (first | (with_reducible first | exact HK.out | apply Kept.alloc | apply Kept.drewN | apply Kept.drew) | exact HK.out)) hb); have n3_ := Aside0.mk (below_step (by repeat (first | (with_reducible first | exact HB.out | apply below_alloc | apply pw_below_drewN | apply below_drew1) | exact HB.out)) hb); clear HO_0; clear HK; clear HB; have HO_0 := n0_; have HO301 := n1_; have HK := n2_; have HB := n3_; clear n0_ n1_ n2_ n3_; clear hb ho23; obtain ⟨Ao25, co25, eo25⟩ := Kd.R_slice HO301.out; subst eo25) | ((with_reducible refine gate_builtin (b := .append) (xs := #[.tmp 46, .tmp 65]) rfl ?_); at_builtin; refine Kd.R_append_rows (Kd.int .u8) (w0 := w0) w0.heap.size rfl (.tmp 46) (.tmp 65) 27 5 (.int .u8 0) 1 rfl Tryd.underlying27 info5 rfl (by decide) (by omega) u9000_ l0 y299 _ _ _ (fun k_ => (P0_ k_ ∨ w.heap.size ≤ k_) ∧ some k_ ≠ (.slice Ao25 y299.length co25 : Value).ownBlock) (fun _ => False) rfl rfl ?aO ?aR (fun _ _ h => h) (fun _ h => h.elim) ?aF ?aB ?aS ?aL ?_; (case aR => repeat (first | exact (Kd.R_reads' HO301.out).2.2 | (with_reducible refine Kd.C_alloc ?_ _) | (with_reducible refine Kd.C_drewN ?_ _) | (with_reducible refine Kd.C_drew ?_))); (case aB => exact (by repeat (first | (with_reducible first | exact HB.out | apply below_alloc | apply pw_below_drewN | apply below_drew1) | exact HB.out))); (case aF => exact (fun k_ hk => ⟨(.inr (Nat.le_trans (by first | exact HK.out.1 | exact (show Kept w _ (fun k_ => P0_ k_) from by repeat (first | (with_reducible first | exact HK.out | apply Kept.alloc | apply Kept.drewN | apply Kept.drew) | exact HK.out)).1) hk)), Kd.fresh' (Kd.R_lt (by (with_reducible repeat (first | apply Kd.R_alloc | apply Kd.R_drewN | apply Kd.R_drew)); exact HO301.out)) k_ hk⟩)); (case aO => exact (by (with_reducible repeat (first | apply Kd.R_alloc | apply Kd.R_drewN | apply Kd.R_drew)); exact HO_0.out)); (case aS => exact (below_size (by repeat (first | (with_reducible first | exact HB.out | apply below_alloc | apply pw_below_drewN | apply below_drew1) | exact HB.out)))); (case aL => have := LMc21.out; omega); intro v303 w24 ho hb hg hat; rw [← Ny302.out] at ho; have n0_ := Aside0.mk (Kd.R_after (ok := (fun k_ => (P0_ k_ ∨ w.heap.size ≤ k_))) (by (with_reducible repeat (first | apply Kd.R_alloc | apply Kd.R_drewN | apply Kd.R_drew)); exact Kd.R_mono HO301.out (fun _ hk => ⟨hk.1.1, hk.2⟩)) hg hat); have n1_ := Aside0.mk (hb); have n2_ := Aside0.mk (Kept.of_grown (S := (fun k_ => P0_ k_)) hg (by repeat (first | (with_reducible first | exact HK.out | apply Kept.alloc | apply Kept.drewN | apply Kept.drew) | exact HK.out)) (fun k_ e_ => (HO_0.out.1 k_ e_).1)); have n3_ := Aside0.mk (ho); clear HO301; clear HB; clear HK; clear HO_0; have HO301 := n0_; have HB := n1_; have HK := n2_; have HO304 := n3_; clear n0_ n1_ n2_ n3_; clear ho hb hg hat))
       go_ret
       exact ⟨_, by first | rfl | (simp [errW_none, errW_some] <;> rfl) | (simp [*, errW_none, errW_some] <;> rfl), by (with_reducible repeat (first | apply Kd.R_alloc | apply Kd.R_drewN | apply Kd.R_drew)); exact Kd.R_mono HO304.out (fun _ hk => hk.1), by repeat (first | (with_reducible first | exact HB.out | apply below_alloc | apply pw_below_drewN | apply below_drew1) | exact HB.out), by repeat (first | (with_reducible first | exact HK.out | apply Kept.alloc | apply Kept.drewN | apply Kept.drew) | exact HK.out)⟩
      ·rw [if_neg c21] at H
       exact absurd H (by simp)
end Go.Proofs.YtiggjbclbdikmaaDoor.X
