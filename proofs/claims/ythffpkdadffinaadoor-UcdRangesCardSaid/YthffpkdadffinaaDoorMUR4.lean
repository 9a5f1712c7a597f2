/-
  Several texts of this claim in one: what its law's proof uses.
-/
import Derived.Test.YthffpkdadffinaaDoorMUR2
import Derived.Test.YthffpkdadffinaaDoorMUR3
namespace Go.Proofs.YthffpkdadffinaaDoor.X
open Go.RowKit Go.Proofs.YthffpkdadffinaaDoorW.PrintWords Go.Proofs.YthffpkdadffinaaDoorW.PrintLast Go.Proofs.YthffpkdadffinaaDoorW.PrintMore
attribute [local go_sem] max2_int min2_int max_two min_two max_three min_three max_four min_four   
set_option linter.unusedVariables false
set_option linter.unusedSimpArgs false
mutual
def tremaref02_Ranges.j0 : Nat → Int → List (S46) → Bool → Option ((List (S46)))
 | 0, _, _, _ => none
 | k + 1, x0, x3, x12 => if x12 = true then (some ([] : List (S46))) else (tremaref02_Ranges.l0 k x0 x3 false 0)
def tremaref02_Ranges.l0 : Nat → Int → List (S46) → Bool → Int → Option ((List (S46)))
 | 0, _, _, _, _ => none
 | k + 1, x0, x3, x4, x5 => if x5 ≤ 1114112 then (if x5 < 1114112 then ((tremaref02_Category.f k x5).bind fun t588 => (tremaref02_Ranges.j2 k x0 x3 x4 x5 (t588 == x0))) else (tremaref02_Ranges.j2 k x0 x3 x4 x5 false)) else (some x3)
def tremaref02_Ranges.j2 : Nat → Int → List (S46) → Bool → Int → Bool → Option ((List (S46)))
 | 0, _, _, _, _, _ => none
 | k + 1, x0, x3, x4, x5, x6 => if x6 = true then (tremaref02_Ranges.j3 k x0 x3 x4 x5 x6 (!x4)) else (tremaref02_Ranges.j3 k x0 x3 x4 x5 x6 false)
def tremaref02_Ranges.j3 : Nat → Int → List (S46) → Bool → Int → Bool → Bool → Option ((List (S46)))
 | 0, _, _, _, _, _, _ => none
 | k + 1, x0, x3, x4, x5, x6, x27 => if x27 = true then (if x3.length < 17592186044416 then ((some (x3 ++ [(⟨x5, 0⟩ : S46)] : List (S46))).bind fun y589 => (if x6 = true then ((tremaref02_next.f k x5).bind fun t592 => (tremaref02_Ranges.l0 k x0 y589 x6 t592)) else (if x4 = true then (if 0 ≤ (wrap64 ((y589.length : Int) - 1)) then (if (wrap64 ((y589.length : Int) - 1)) < (y589.length : Int) then ((tremaref02_next.f k x5).bind fun t594 => (tremaref02_Ranges.l0 k x0 (y589.set ((wrap64 ((y589.length : Int) - 1)) : Int).toNat (⟨(rd_T46 y589 (wrap64 ((y589.length : Int) - 1))).f0, wrap32 (x5 - 1)⟩ : S46)) x6 t594)) else (none)) else (none)) else ((tremaref02_next.f k x5).bind fun t595 => (tremaref02_Ranges.l0 k x0 y589 x6 t595))))) else (none)) else (if x6 = true then ((tremaref02_next.f k x5).bind fun t596 => (tremaref02_Ranges.l0 k x0 x3 x6 t596)) else (if x4 = true then (if 0 ≤ (wrap64 ((x3.length : Int) - 1)) then (if (wrap64 ((x3.length : Int) - 1)) < (x3.length : Int) then ((tremaref02_next.f k x5).bind fun t598 => (tremaref02_Ranges.l0 k x0 (x3.set ((wrap64 ((x3.length : Int) - 1)) : Int).toNat (⟨(rd_T46 x3 (wrap64 ((x3.length : Int) - 1))).f0, wrap32 (x5 - 1)⟩ : S46)) x6 t598)) else (none)) else (none)) else ((tremaref02_next.f k x5).bind fun t599 => (tremaref02_Ranges.l0 k x0 x3 x6 t599))))
end
def tremaref02_Ranges.f (k : Nat) (a0 : Int) : Option ((List (S46))) := if a0 < 1 then (tremaref02_Ranges.j0 k a0 ([] : List (S46)) true) else (tremaref02_Ranges.j0 k a0 ([] : List (S46)) (decide (a0 > 7)))
theorem tremaref02_Ranges.mono_l : ∀ k, (∀ y0 y1 y2, LeO (tremaref02_Ranges.j0 k y0 y1 y2) (tremaref02_Ranges.j0 (k + 1) y0 y1 y2)) ∧ (∀ y0 y1 y2 y3, LeO (tremaref02_Ranges.l0 k y0 y1 y2 y3) (tremaref02_Ranges.l0 (k + 1) y0 y1 y2 y3)) ∧ (∀ y0 y1 y2 y3 y4, LeO (tremaref02_Ranges.j2 k y0 y1 y2 y3 y4) (tremaref02_Ranges.j2 (k + 1) y0 y1 y2 y3 y4)) ∧ (∀ y0 y1 y2 y3 y4 y5, LeO (tremaref02_Ranges.j3 k y0 y1 y2 y3 y4 y5) (tremaref02_Ranges.j3 (k + 1) y0 y1 y2 y3 y4 y5))
 | 0 => ⟨fun _ _ _ r h => by simp [tremaref02_Ranges.j0] at h, fun _ _ _ _ r h => by simp [tremaref02_Ranges.l0] at h, fun _ _ _ _ _ r h => by simp [tremaref02_Ranges.j2] at h, fun _ _ _ _ _ _ r h => by simp [tremaref02_Ranges.j3] at h⟩
 | k + 1 => by
  obtain ⟨ih0, ih1, ih2, ih3⟩ := tremaref02_Ranges.mono_l k
  refine ⟨?_, ?_, ?_, ?_⟩
  ·intro y0 y1 y2
   unfold tremaref02_Ranges.j0
   repeat' first
   | (with_reducible exact ih0 _ _ _)
   | (with_reducible exact ih1 _ _ _ _)
   | (with_reducible exact ih2 _ _ _ _ _)
   | (with_reducible exact ih3 _ _ _ _ _ _)
   | (with_reducible exact tremaref02_Category.mono _ _)
   | (with_reducible exact tremaref02_next.mono _ _)
   | (with_reducible exact LeO.refl _)
   | (with_reducible exact LeO.none _)
   | (with_reducible refine LeO.ite ?_ ?_)
   | (with_reducible refine LeO.bind ?_ (fun _ => ?_))
   | exact ih0 _ _ _
   | exact ih1 _ _ _ _
   | exact ih2 _ _ _ _ _
   | exact ih3 _ _ _ _ _ _
   | exact tremaref02_Category.mono _ _
   | exact tremaref02_next.mono _ _
   | exact LeO.none _
   | refine LeO.ite ?_ ?_
   | refine LeO.bind ?_ (fun _ => ?_)
  ·intro y0 y1 y2 y3
   unfold tremaref02_Ranges.l0
   repeat' first
   | (with_reducible exact ih0 _ _ _)
   | (with_reducible exact ih1 _ _ _ _)
   | (with_reducible exact ih2 _ _ _ _ _)
   | (with_reducible exact ih3 _ _ _ _ _ _)
   | (with_reducible exact tremaref02_Category.mono _ _)
   | (with_reducible exact tremaref02_next.mono _ _)
   | (with_reducible exact LeO.refl _)
   | (with_reducible exact LeO.none _)
   | (with_reducible refine LeO.ite ?_ ?_)
   | (with_reducible refine LeO.bind ?_ (fun _ => ?_))
   | exact ih0 _ _ _
   | exact ih1 _ _ _ _
   | exact ih2 _ _ _ _ _
   | exact ih3 _ _ _ _ _ _
   | exact tremaref02_Category.mono _ _
   | exact tremaref02_next.mono _ _
   | exact LeO.none _
   | refine LeO.ite ?_ ?_
   | refine LeO.bind ?_ (fun _ => ?_)
  ·intro y0 y1 y2 y3 y4
   unfold tremaref02_Ranges.j2
   repeat' first
   | (with_reducible exact ih0 _ _ _)
   | (with_reducible exact ih1 _ _ _ _)
   | (with_reducible exact ih2 _ _ _ _ _)
   | (with_reducible exact ih3 _ _ _ _ _ _)
   | (with_reducible exact tremaref02_Category.mono _ _)
   | (with_reducible exact tremaref02_next.mono _ _)
   | (with_reducible exact LeO.refl _)
   | (with_reducible exact LeO.none _)
   | (with_reducible refine LeO.ite ?_ ?_)
   | (with_reducible refine LeO.bind ?_ (fun _ => ?_))
   | exact ih0 _ _ _
   | exact ih1 _ _ _ _
   | exact ih2 _ _ _ _ _
   | exact ih3 _ _ _ _ _ _
   | exact tremaref02_Category.mono _ _
   | exact tremaref02_next.mono _ _
   | exact LeO.none _
   | refine LeO.ite ?_ ?_
   | refine LeO.bind ?_ (fun _ => ?_)
  ·intro y0 y1 y2 y3 y4 y5
   unfold tremaref02_Ranges.j3
   repeat' first
   | (with_reducible exact ih0 _ _ _)
   | (with_reducible exact ih1 _ _ _ _)
   | (with_reducible exact ih2 _ _ _ _ _)
   | (with_reducible exact ih3 _ _ _ _ _ _)
   | (with_reducible exact tremaref02_Category.mono _ _)
   | (with_reducible exact tremaref02_next.mono _ _)
   | (with_reducible exact LeO.refl _)
   | (with_reducible exact LeO.none _)
   | (with_reducible refine LeO.ite ?_ ?_)
   | (with_reducible refine LeO.bind ?_ (fun _ => ?_))
   | exact ih0 _ _ _
   | exact ih1 _ _ _ _
   | exact ih2 _ _ _ _ _
   | exact ih3 _ _ _ _ _ _
   | exact tremaref02_Category.mono _ _
   | exact tremaref02_next.mono _ _
   | exact LeO.none _
   | refine LeO.ite ?_ ?_
   | refine LeO.bind ?_ (fun _ => ?_)
theorem tremaref02_Ranges.mono : ∀ a0 k, LeO (tremaref02_Ranges.f k a0) (tremaref02_Ranges.f (k + 1) a0) := by
 intro a0 k
 obtain ⟨ih0, ih1, ih2, ih3⟩ := tremaref02_Ranges.mono_l k
 unfold tremaref02_Ranges.f
 repeat' first
   | (with_reducible exact ih0 _ _ _)
   | (with_reducible exact ih1 _ _ _ _)
   | (with_reducible exact ih2 _ _ _ _ _)
   | (with_reducible exact ih3 _ _ _ _ _ _)
   | (with_reducible exact tremaref02_Category.mono _ _)
   | (with_reducible exact tremaref02_next.mono _ _)
   | (with_reducible exact LeO.refl _)
   | (with_reducible exact LeO.none _)
   | (with_reducible refine LeO.ite ?_ ?_)
   | (with_reducible refine LeO.bind ?_ (fun _ => ?_))
   | exact ih0 _ _ _
   | exact ih1 _ _ _ _
   | exact ih2 _ _ _ _ _
   | exact ih3 _ _ _ _ _ _
   | exact tremaref02_Category.mono _ _
   | exact tremaref02_next.mono _ _
   | exact LeO.none _
   | refine LeO.ite ?_ ?_
   | refine LeO.bind ?_ (fun _ => ?_)
set_option maxHeartbeats 8000000 in
set_option maxRecDepth 100000 in
theorem tremaref02_Ranges.calls (k : Nat) (a0 : Int) (r : List (S46)) (w : World) (h : tremaref02_Ranges.f k a0 = some r) :
  Calls Tryd.prog 24 #[.int .i64 a0] w fun e w' => ∃ v0_ : Value, e = .returned (v0_) ∧ Kd.R k46 46 w' w.heap.size (fun _ => True) v0_ r ∧ Below w.heap.size w w' := by
 have hu46 := Tryd.underlying46
 have HB := Aside0.mk (Below.refl w.heap.size w)
 have H : (if a0 < 1 then (tremaref02_Ranges.j0 k a0 ([] : List (S46)) true) else (tremaref02_Ranges.j0 k a0 ([] : List (S46)) (decide (a0 > 7)))) = some r := h
 clear h
 have HC2 := Aside0.mk H
 clear H
 go_enter Tryd.func24, Tryd.ntmps24
 go_upto_region 2 with (fail)
 go_cut [12] (fun v12 wc => ∃ (kq : Nat) (x12_1 : Bool), v12 = .bool x12_1 ∧ Aside0 (tremaref02_Ranges.j0 kq a0 ([] : List (S46)) x12_1 = some r) ∧ Aside0 (kq ≤ k) ∧ Aside0 (Kd.R k46 46 wc w.heap.size (fun _ => True) (.slice none 0 0) ([] : List (S46))) ∧ Aside0 (Below w.heap.size w wc))
 case first =>
  have H := HC2.out
  clear HC2
  by_cases c3 : a0 < 1
  ·rw [if_pos c3] at H
   have c3b0 : decide (a0 < 1) = true := decide_eq_true c3
   clear c3
   (first | rw [c3b0] | (simp only [i64_w, i32_w]; rw [c3b0]) | skip)
   have H' := Aside0.mk H
   clear H
   go_wp2
   go_meet
   case rel => exact ⟨_, (true), (by first | rfl | (simp; done) | (simp [*]; done)), H', ⟨by first | omega | exact Nat.le_refl _⟩, ⟨by first | exact Kd.R_nil _ _ _ _ _ | exact Kd.N_nil _ _ _ _ _ | exact Kd.V_nil _ _ _ _ _ | exact Kd.Q_nil _ _ _ _ _ | exact Kd.S_nil _ _ _ _ _⟩, ⟨by repeat (first | (with_reducible first | exact HB.out | apply below_alloc | apply pw_below_drewN | apply below_drew1) | exact HB.out)⟩⟩
  ·rw [if_neg c3] at H
   have c3b0 : decide (a0 < 1) = false := decide_eq_false c3
   clear c3
   (first | rw [c3b0] | (simp only [i64_w, i32_w]; rw [c3b0]) | skip)
   have H' := Aside0.mk H
   clear H
   go_wp2
   go_meet
   case rel => exact ⟨_, (decide (a0 > 7)), (by first | rfl | (simp; done) | (simp [*]; done)), H', ⟨by first | omega | exact Nat.le_refl _⟩, ⟨by first | exact Kd.R_nil _ _ _ _ _ | exact Kd.N_nil _ _ _ _ _ | exact Kd.V_nil _ _ _ _ _ | exact Kd.Q_nil _ _ _ _ _ | exact Kd.S_nil _ _ _ _ _⟩, ⟨by repeat (first | (with_reducible first | exact HB.out | apply below_alloc | apply pw_below_drewN | apply below_drew1) | exact HB.out)⟩⟩
 case rest =>
  clear HC2
  try clear c2
  try clear p2
  try clear c3
  try clear c3b0
  obtain ⟨kq, x12_1, rfl, HA, HJ1, HO_3, HB⟩ := hcut
  cases kq with
  | zero => exact absurd HA.out (by simp [tremaref02_Ranges.j0])
  | succ kj1 =>
   have H := HA.out
   clear HA
   simp only [tremaref02_Ranges.j0] at H
   by_cases c4 : x12_1 = true
   ·subst c4
    have H1 : (some ([] : List (S46))) = some r := by rw [if_pos rfl] at H; exact H
    clear H
    have H := H1
    clear H1
    obtain rfl := Option.some.inj H
    go_wp2
    go_ret
    exact ⟨_, by first | rfl | (simp [errW_none, errW_some] <;> rfl) | (simp [*, errW_none, errW_some] <;> rfl), by first | exact Kd.R_nil _ _ _ _ _ | exact Kd.N_nil _ _ _ _ _ | exact Kd.V_nil _ _ _ _ _ | exact Kd.Q_nil _ _ _ _ _ | exact Kd.S_nil _ _ _ _ _, by repeat (first | (with_reducible first | exact HB.out | apply below_alloc | apply pw_below_drewN | apply below_drew1) | exact HB.out)⟩
   ·replace c4 := Bool.eq_false_iff.mpr c4
    subst c4
    have H1 : (tremaref02_Ranges.l0 kj1 a0 ([] : List (S46)) false 0) = some r := by rw [if_neg (show ¬ (false = true) by decide)] at H; exact H
    clear H
    have H := H1
    clear H1
    have H' := Aside0.mk H
    clear H
    go_wp2
    go_loopg [3, 4, 5] kj1 (fun kq v3 v4 v5 w' => ∃ (x3_2 : List (S46)) (x4_2 : Bool) (x5_2 : Int), v4 = .bool x4_2 ∧ v5 = .int .i32 x5_2 ∧ Aside0 (tremaref02_Ranges.l0 kq a0 x3_2 x4_2 x5_2 = some r) ∧ Aside0 (kq ≤ kj1) ∧ Aside0 (Kd.R k46 46 w' w.heap.size (fun _ => True) v3 x3_2) ∧ Aside0 (Below w.heap.size w w'))
    case atStart => exact ⟨(([] : List (S46))), (false), (0), (by first | rfl | (simp; done) | (simp [*]; done)), (by first | rfl | (simp; done) | (simp [*]; done)), H', ⟨Nat.le_refl _⟩, ⟨by (with_reducible repeat (first | apply Kd.R_alloc | apply Kd.R_drewN | apply Kd.R_drew)); exact HO_3.out⟩, ⟨by repeat (first | (with_reducible first | exact HB.out | apply below_alloc | apply pw_below_drewN | apply below_drew1) | exact HB.out)⟩⟩
    case round =>
     clear H'
     try clear c2
     try clear p2
     try clear c3
     try clear c3b0
     try clear c4
     try clear p2
     obtain ⟨x3_2, x4_2, x5_2, rfl, rfl, HA, HK2, HO_3, HB⟩ := hrel
     cases gk with
     | zero => exact absurd HA.out (by simp [tremaref02_Ranges.l0])
     | succ k2 =>
      have H := HA.out
      clear HA
      simp only [tremaref02_Ranges.l0] at H
      by_cases c5 : x5_2 ≤ 1114112
      ·rw [if_pos c5] at H
       have c5b0 : decide (x5_2 ≤ 1114112) = true := decide_eq_true c5
       clear c5
       have HC6 := Aside0.mk H
       clear H
       go_upto_region 7 with (fail)
       go_cut [6] (fun v6 wc => ∃ (kq : Nat) (x6_5 : Bool), v6 = .bool x6_5 ∧ Aside0 (tremaref02_Ranges.j2 kq a0 x3_2 x4_2 x5_2 x6_5 = some r) ∧ Aside0 (kq ≤ k2) ∧ Aside0 (Kd.R k46 46 wc w.heap.size (fun _ => True) u3 x3_2) ∧ Aside0 (Below w.heap.size w wc))
       case first =>
        have H := HC6.out
        clear HC6
        by_cases c7 : x5_2 < 1114112
        ·rw [if_pos c7] at H
         have c7b0 : decide (x5_2 < 1114112) = true := decide_eq_true c7
         clear c7
         (first | rw [c7b0] | (simp only [i64_w, i32_w]; rw [c7b0]) | skip)
         replace H := Option.bind_eq_some_iff.mp H
         obtain ⟨t588, A80, H⟩ := H
         replace H : (tremaref02_Ranges.j2 k2 a0 x3_2 x4_2 x5_2 (t588 == a0)) = some r := H
         have A8 := Aside0.mk A80
         clear A80
         have H' := Aside0.mk H
         clear H
         go_wp2_with (first | (go_at_call 65; (with_reducible refine (tremaref02_Category.calls k2 x5_2 t588 _ A8.out).mono ?_); rintro e w' ⟨rfl, ⟨nd, rfl⟩⟩))
         go_meet
         case rel => exact ⟨_, ((t588 == a0)), (by first | rfl | (simp; done) | (simp [*]; done)), H', ⟨by have := HJ1.out; have := HK2.out; first | omega | exact Nat.le_refl _⟩, ⟨by (with_reducible repeat (first | apply Kd.R_alloc | apply Kd.R_drewN | apply Kd.R_drew)); exact HO_3.out⟩, ⟨by repeat (first | (with_reducible first | exact HB.out | apply below_alloc | apply pw_below_drewN | apply below_drew1) | exact HB.out)⟩⟩
        ·rw [if_neg c7] at H
         have c7b0 : decide (x5_2 < 1114112) = false := decide_eq_false c7
         clear c7
         (first | rw [c7b0] | (simp only [i64_w, i32_w]; rw [c7b0]) | skip)
         have H' := Aside0.mk H
         clear H
         go_wp2
         go_meet
         case rel => exact ⟨_, (false), (by first | rfl | (simp; done) | (simp [*]; done)), H', ⟨by have := HJ1.out; have := HK2.out; first | omega | exact Nat.le_refl _⟩, ⟨by (with_reducible repeat (first | apply Kd.R_alloc | apply Kd.R_drewN | apply Kd.R_drew)); exact HO_3.out⟩, ⟨by repeat (first | (with_reducible first | exact HB.out | apply below_alloc | apply pw_below_drewN | apply below_drew1) | exact HB.out)⟩⟩
       case rest =>
        clear HC6
        try clear c2
        try clear p2
        try clear c3
        try clear c3b0
        try clear c4
        try clear c5
        try clear c5b0
        try clear c7
        try clear c7b0
        try clear p2
        obtain ⟨kq, x6_5, rfl, HA, HJ5, HO_3, HB⟩ := hcut
        cases kq with
        | zero => exact absurd HA.out (by simp [tremaref02_Ranges.j2])
        | succ kj5 =>
         have H := HA.out
         clear HA
         simp only [tremaref02_Ranges.j2] at H
         have HC9 := Aside0.mk H
         clear H
         go_upto_region 8 with (fail)
         go_cut [27] (fun v27 wc => ∃ (kq : Nat) (x27_8 : Bool), v27 = .bool x27_8 ∧ Aside0 (tremaref02_Ranges.j3 kq a0 x3_2 x4_2 x5_2 x6_5 x27_8 = some r) ∧ Aside0 (kq ≤ kj5) ∧ Aside0 (Kd.R k46 46 wc w.heap.size (fun _ => True) u3 x3_2) ∧ Aside0 (Below w.heap.size w wc))
         case first =>
          have H := HC9.out
          clear HC9
          by_cases c10 : x6_5 = true
          ·subst c10
           have H1 : (tremaref02_Ranges.j3 kj5 a0 x3_2 x4_2 x5_2 true (!x4_2)) = some r := by rw [if_pos rfl] at H; exact H
           clear H
           have H := H1
           clear H1
           have H' := Aside0.mk H
           clear H
           go_wp2
           go_meet
           case rel => exact ⟨_, (!x4_2), (by first | rfl | (simp; done) | (simp [*]; done)), H', ⟨by have := HJ1.out; have := HK2.out; have := HJ5.out; first | omega | exact Nat.le_refl _⟩, ⟨by (with_reducible repeat (first | apply Kd.R_alloc | apply Kd.R_drewN | apply Kd.R_drew)); exact HO_3.out⟩, ⟨by repeat (first | (with_reducible first | exact HB.out | apply below_alloc | apply pw_below_drewN | apply below_drew1) | exact HB.out)⟩⟩
          ·replace c10 := Bool.eq_false_iff.mpr c10
           subst c10
           have H1 : (tremaref02_Ranges.j3 kj5 a0 x3_2 x4_2 x5_2 false false) = some r := by rw [if_neg (show ¬ (false = true) by decide)] at H; exact H
           clear H
           have H := H1
           clear H1
           have H' := Aside0.mk H
           clear H
           go_wp2
           go_meet
           case rel => exact ⟨_, (false), (by first | rfl | (simp; done) | (simp [*]; done)), H', ⟨by have := HJ1.out; have := HK2.out; have := HJ5.out; first | omega | exact Nat.le_refl _⟩, ⟨by (with_reducible repeat (first | apply Kd.R_alloc | apply Kd.R_drewN | apply Kd.R_drew)); exact HO_3.out⟩, ⟨by repeat (first | (with_reducible first | exact HB.out | apply below_alloc | apply pw_below_drewN | apply below_drew1) | exact HB.out)⟩⟩
         case rest =>
          clear HC9
          try clear c1
          try clear c2
          try clear p2
          try clear c3
          try clear c3b0
          try clear c4
          try clear c5
          try clear c5b0
          try clear c7
          try clear c7b0
          try clear c10
          try clear p2
          obtain ⟨kq, x27_8, rfl, HA, HJ8, HO_3, HB⟩ := hcut
          cases kq with
          | zero => exact absurd HA.out (by simp [tremaref02_Ranges.j3])
          | succ kj8 =>
           have H := HA.out
           clear HA
           simp only [tremaref02_Ranges.j3] at H
           by_cases c11 : x27_8 = true
           ·subst c11
            have H1 : (if x3_2.length < 17592186044416 then ((some (x3_2 ++ [(⟨x5_2, 0⟩ : S46)] : List (S46))).bind fun y589 => (if x6_5 = true then ((tremaref02_next.f kj8 x5_2).bind fun t592 => (tremaref02_Ranges.l0 kj8 a0 y589 x6_5 t592)) else (if x4_2 = true then (if 0 ≤ (wrap64 ((y589.length : Int) - 1)) then (if (wrap64 ((y589.length : Int) - 1)) < (y589.length : Int) then ((tremaref02_next.f kj8 x5_2).bind fun t594 => (tremaref02_Ranges.l0 kj8 a0 (y589.set ((wrap64 ((y589.length : Int) - 1)) : Int).toNat (⟨(rd_T46 y589 (wrap64 ((y589.length : Int) - 1))).f0, wrap32 (x5_2 - 1)⟩ : S46)) x6_5 t594)) else (none)) else (none)) else ((tremaref02_next.f kj8 x5_2).bind fun t595 => (tremaref02_Ranges.l0 kj8 a0 y589 x6_5 t595))))) else (none)) = some r := by rw [if_pos rfl] at H; exact H
            clear H
            have H := H1
            clear H1
            by_cases c12 : x3_2.length < 17592186044416
            ·rw [if_pos c12] at H
             have LMc12 := Aside0.mk c12
             clear c12
             obtain ⟨y589, hy589⟩ : ∃ y_ : List (S46), y_ = (x3_2 ++ [(⟨x5_2, 0⟩ : S46)]) := ⟨_, rfl⟩
             replace H : (if x6_5 = true then ((tremaref02_next.f kj8 x5_2).bind fun t592 => (tremaref02_Ranges.l0 kj8 a0 y589 x6_5 t592)) else (if x4_2 = true then (if 0 ≤ (wrap64 ((y589.length : Int) - 1)) then (if (wrap64 ((y589.length : Int) - 1)) < (y589.length : Int) then ((tremaref02_next.f kj8 x5_2).bind fun t594 => (tremaref02_Ranges.l0 kj8 a0 (y589.set ((wrap64 ((y589.length : Int) - 1)) : Int).toNat (⟨(rd_T46 y589 (wrap64 ((y589.length : Int) - 1))).f0, wrap32 (x5_2 - 1)⟩ : S46)) x6_5 t594)) else (none)) else (none)) else ((tremaref02_next.f kj8 x5_2).bind fun t595 => (tremaref02_Ranges.l0 kj8 a0 y589 x6_5 t595)))) = some r := by first | (rw [hy589]; with_reducible exact H) | (have H2_ := (Option.bind_some _ _).symm.trans H; rw [hy589]; with_reducible exact H2_) | (have H2_ := (Option.bind_some _ _).symm.trans H; with_reducible exact H2_) | with_reducible exact H | (rw [hy589]; exact H) | exact H
             have Ny589 := Aside0.mk hy589
             clear hy589
             by_cases c13 : x6_5 = true
             ·subst c13
              have H1 : ((tremaref02_next.f kj8 x5_2).bind fun t592 => (tremaref02_Ranges.l0 kj8 a0 y589 true t592)) = some r := by rw [if_pos rfl] at H; exact H
              clear H
              have H := H1
              clear H1
              replace H := Option.bind_eq_some_iff.mp H
              obtain ⟨t592, A140, H⟩ := H
              replace H : (tremaref02_Ranges.l0 kj8 a0 y589 true t592) = some r := H
              have A14 := Aside0.mk A140
              clear A140
              have H' := Aside0.mk H
              clear H
              go_wp2_with (first | ((with_reducible refine gate_builtin (b := .append) (xs := #[.tmp 28, .tmp 31]) rfl ?_); at_builtin; refine Kd.R_append k46 (w0 := w) w.heap.size rfl (.tmp 28) (.tmp 31) 43 46 (.agg #[(.int .i32 0), (.int .i32 0)]) 8 rfl Tryd.underlying43 info46 rfl (by decide) (by omega) u3 x3_2 (⟨x5_2, 0⟩ : S46) [.int .i32 x5_2, .int .i32 0] (fun _ => True) (fun _ => False) rfl rfl ?aP (fun _ hk => hk.elim) ?aF ?aO ?aB ?aS ?aL ?_; (case aP => exact k46_mkM _ _ _ (⟨x5_2, 0⟩ : S46)); (case aB => exact (by repeat (first | (with_reducible first | exact HB.out | apply below_alloc | apply pw_below_drewN | apply below_drew1) | exact HB.out))); (case aF => exact (fun _ _ => trivial)); (case aO => exact (by (with_reducible repeat (first | apply Kd.R_alloc | apply Kd.R_drewN | apply Kd.R_drew)); exact HO_3.out)); (case aS => exact (below_size (by repeat (first | (with_reducible first | exact HB.out | apply below_alloc | apply pw_below_drewN | apply below_drew1) | exact HB.out)))); (case aL => have := LMc12.out; omega); intro v590 w15 ho hb hg hat; rw [← Ny589.out] at ho; have n0_ := Aside0.mk (hb); have n1_ := Aside0.mk (ho); clear HB; clear HO_3; have HB := n0_; have HO591 := n1_; clear n0_ n1_; clear ho hb hg hat) | ((with_reducible refine gate_callee (f := 66) rfl ?_); refine goesL_ (some 48) rfl rfl Tryd.func66 (by kernel_rfl) rfl #[.int .i32 x5_2] rfl (by (try simp only [List.map_toArray, List.map_cons, List.map_nil]); first | done | rfl | (simp only [List.length_drop, List.length_take]; rfl)) ?_; (with_reducible refine (tremaref02_next.calls kj8 x5_2 t592 _ A14.out).mono ?_); rintro e w16 ⟨rfl, hb⟩; refine ⟨_, rfl, ?_⟩; have n0_ := Aside0.mk (Kd.R_below (by (with_reducible repeat (first | apply Kd.R_alloc | apply Kd.R_drewN | apply Kd.R_drew)); exact HO591.out) hb); have n1_ := Aside0.mk (below_step (by repeat (first | (with_reducible first | exact HB.out | apply below_alloc | apply pw_below_drewN | apply below_drew1) | exact HB.out)) hb); clear HO591; clear HB; have HO591 := n0_; have HB := n1_; clear n0_ n1_; (try clear hb); (try clear hb2); (try clear hk); (try clear hi)))
              go_roundg kj8
              case measure => have := HJ1.out; have := HK2.out; have := HJ5.out; have := HJ8.out; omega
              case rel => exact ⟨(y589), (true), (t592), (by first | rfl | (simp; done) | (simp [*]; done)), (by first | rfl | (simp; done) | (simp [*]; done)), H', ⟨by have := HJ1.out; have := HK2.out; have := HJ5.out; have := HJ8.out; omega⟩, ⟨by (with_reducible repeat (first | apply Kd.R_alloc | apply Kd.R_drewN | apply Kd.R_drew)); exact HO591.out⟩, ⟨by repeat (first | (with_reducible first | exact HB.out | apply below_alloc | apply pw_below_drewN | apply below_drew1) | exact HB.out)⟩⟩
             ·replace c13 := Bool.eq_false_iff.mpr c13
              subst c13
              have H1 : (if x4_2 = true then (if 0 ≤ (wrap64 ((y589.length : Int) - 1)) then (if (wrap64 ((y589.length : Int) - 1)) < (y589.length : Int) then ((tremaref02_next.f kj8 x5_2).bind fun t594 => (tremaref02_Ranges.l0 kj8 a0 (y589.set ((wrap64 ((y589.length : Int) - 1)) : Int).toNat (⟨(rd_T46 y589 (wrap64 ((y589.length : Int) - 1))).f0, wrap32 (x5_2 - 1)⟩ : S46)) false t594)) else (none)) else (none)) else ((tremaref02_next.f kj8 x5_2).bind fun t595 => (tremaref02_Ranges.l0 kj8 a0 y589 false t595))) = some r := by rw [if_neg (show ¬ (false = true) by decide)] at H; exact H
              clear H
              have H := H1
              clear H1
              by_cases c17 : x4_2 = true
              ·subst c17
               have H1 : (if 0 ≤ (wrap64 ((y589.length : Int) - 1)) then (if (wrap64 ((y589.length : Int) - 1)) < (y589.length : Int) then ((tremaref02_next.f kj8 x5_2).bind fun t594 => (tremaref02_Ranges.l0 kj8 a0 (y589.set ((wrap64 ((y589.length : Int) - 1)) : Int).toNat (⟨(rd_T46 y589 (wrap64 ((y589.length : Int) - 1))).f0, wrap32 (x5_2 - 1)⟩ : S46)) false t594)) else (none)) else (none)) = some r := by rw [if_pos rfl] at H; exact H
               clear H
               have H := H1
               clear H1
               obtain ⟨ji18, hji18⟩ : ∃ j_ : Int, (wrap64 ((y589.length : Int) - 1)) = j_ := ⟨_, rfl⟩
               replace H : (if 0 ≤ (ji18) then (if (ji18) < (y589.length : Int) then ((tremaref02_next.f kj8 x5_2).bind fun t594 => (tremaref02_Ranges.l0 kj8 a0 (y589.set ((ji18) : Int).toNat (⟨(rd_T46 y589 (ji18)).f0, wrap32 (x5_2 - 1)⟩ : S46)) false t594)) else (none)) else (none)) = some r := by first | (rw [hji18] at H; exact H) | (simp only [hji18] at H ⊢; exact H)
               have hji18w : (IntKind.i64.wrap ((y589.length : Int) - 1)) = ji18 := (i64_w _).trans hji18
               by_cases c19 : 0 ≤ (ji18)
               ·rw [if_pos c19] at H
                have c19b0 : decide (0 ≤ (ji18)) = true := decide_eq_true c19
                clear c19
                by_cases c20 : (ji18) < (y589.length : Int)
                ·rw [if_pos c20] at H
                 have c20b0 : decide ((ji18) < (y589.length : Int)) = true := decide_eq_true c20
                 clear c20
                 obtain ⟨y593, hy593⟩ : ∃ y_ : List (S46), y_ = (y589.set ((ji18) : Int).toNat (⟨(rd_T46 y589 (ji18)).f0, wrap32 (x5_2 - 1)⟩ : S46)) := ⟨_, rfl⟩
                 replace H : ((tremaref02_next.f kj8 x5_2).bind fun t594 => (tremaref02_Ranges.l0 kj8 a0 y593 false t594)) = some r := by first | (rw [hy593]; with_reducible exact H) | (have H2_ := (Option.bind_some _ _).symm.trans H; rw [hy593]; with_reducible exact H2_) | (have H2_ := (Option.bind_some _ _).symm.trans H; with_reducible exact H2_) | with_reducible exact H | (rw [hy593]; exact H) | exact H
                 have Ny593 := Aside0.mk hy593
                 clear hy593
                 replace H := Option.bind_eq_some_iff.mp H
                 obtain ⟨t594, A220, H⟩ := H
                 replace H : (tremaref02_Ranges.l0 kj8 a0 y593 false t594) = some r := H
                 have A22 := Aside0.mk A220
                 clear A220
                 have H' := Aside0.mk H
                 clear H
                 go_wp2_with (first | ((with_reducible refine gate_builtin (b := .append) (xs := #[.tmp 28, .tmp 31]) rfl ?_); at_builtin; refine Kd.R_append k46 (w0 := w) w.heap.size rfl (.tmp 28) (.tmp 31) 43 46 (.agg #[(.int .i32 0), (.int .i32 0)]) 8 rfl Tryd.underlying43 info46 rfl (by decide) (by omega) u3 x3_2 (⟨x5_2, 0⟩ : S46) [.int .i32 x5_2, .int .i32 0] (fun _ => True) (fun _ => False) rfl rfl ?aP (fun _ hk => hk.elim) ?aF ?aO ?aB ?aS ?aL ?_; (case aP => exact k46_mkM _ _ _ (⟨x5_2, 0⟩ : S46)); (case aB => exact (by repeat (first | (with_reducible first | exact HB.out | apply below_alloc | apply pw_below_drewN | apply below_drew1) | exact HB.out))); (case aF => exact (fun _ _ => trivial)); (case aO => exact (by (with_reducible repeat (first | apply Kd.R_alloc | apply Kd.R_drewN | apply Kd.R_drew)); exact HO_3.out)); (case aS => exact (below_size (by repeat (first | (with_reducible first | exact HB.out | apply below_alloc | apply pw_below_drewN | apply below_drew1) | exact HB.out)))); (case aL => have := LMc12.out; omega); intro v590 w23 ho hb hg hat; rw [← Ny589.out] at ho; have n0_ := Aside0.mk (hb); have n1_ := Aside0.mk (ho); clear HB; clear HO_3; have HB := n0_; have HO591 := n1_; clear n0_ n1_; clear ho hb hg hat; obtain ⟨Ao24, co24, eo24⟩ := Kd.R_slice HO591.out; subst eo24; have p21 : 0 ≤ ((ji18) : Int) := of_decide_eq_true (by first | (with_reducible assumption) | assumption); have q21 : ((ji18) : Int) < ((y589.length : Int) : Int) := of_decide_eq_true (by first | (with_reducible assumption) | assumption); obtain ⟨go21, co21, eo21, gb21, gl21, cl21, HG21⟩ := Kd.R_form HO591.out (by omega); (first | cases eo21 | (injection eo21 with ea_ en_ ec_; (first | subst ea_ | (injection ea_ with ea_; subst ea_)); subst ec_; clear en_)); have GB21 := Aside0.mk gb21; have GG21 := Aside0.mk HG21; clear gb21 gl21 HG21; obtain ⟨ce21, hcl21, hM21, hcc21, hfr21⟩ := Kd.R_elem HO591.out z46 ((ji18) : Int) p21 q21; obtain rfl := k46_openM hM21; have hx21_0 : w23.cell? ⟨go21, ((ji18) : Int).toNat * 2, none⟩ = some (.int .i32 ((rd_T46 y589 (ji18)).f0)) := hcc21 0 _ rfl; have hx21_1 : w23.cell? ⟨go21, ((ji18) : Int).toNat * 2 + 1, none⟩ = some (.int .i32 ((rd_T46 y589 (ji18)).f1)) := hcc21 1 _ rfl; have hf21_0 : w23.frozen? ⟨go21, ((ji18) : Int).toNat * 2, none⟩ = false := hfr21 0; have hf21_1 : w23.frozen? ⟨go21, ((ji18) : Int).toNat * 2 + 1, none⟩ = false := hfr21 1; clear hcl21 hcc21 hfr21 hM21; replace p21 := eq_true p21; replace q21 := eq_true q21; have HX25 := Aside0.mk (show Kd.R k46 46 w23 w.heap.size (fun _ => True) (.slice (some ⟨go21, 0, none⟩) y589.length co24) y589 from (by (with_reducible repeat (first | apply Kd.R_alloc | apply Kd.R_drewN | apply Kd.R_drew)); exact HO591.out)); obtain ⟨ce25, hcl25, hM25, hcc25, hfr25⟩ := Kd.R_elem HX25.out z46 ((ji18) : Int) (of_decide_eq_true (by first | (with_reducible assumption) | assumption)) (by have h_ : ((ji18) : Int) < ((y589.length : Int) : Int) := of_decide_eq_true (by first | (with_reducible assumption) | assumption); first | exact h_ | (have e_ := (Kd.R_reads' HO591.out).1; omega) | simpa using h_); obtain rfl := k46_openM hM25; have HP25 := Kd.R_seg HX25.out ((ji18) : Int) (of_decide_eq_true (by first | (with_reducible assumption) | assumption)) (by have h_ : ((ji18) : Int) < ((y589.length : Int) : Int) := of_decide_eq_true (by first | (with_reducible assumption) | assumption); first | exact h_ | (have e_ := (Kd.R_reads' HO591.out).1; omega) | simpa using h_) (seg := [.int .i32 (wrap32 (x5_2 - 1))]) (j := 1) hcl25 hcc25 (show 2 ≤ 2 from by decide) (x' := (⟨(rd_T46 y589 (ji18)).f0, wrap32 (x5_2 - 1)⟩ : S46)) (k46_mkM _ _ _ (⟨(rd_T46 y589 (ji18)).f0, wrap32 (x5_2 - 1)⟩ : S46) ) (fun _ hk => hk); have hx25_1 := hcc25 1 _ rfl; (try simp only [show (k46).sz = 2 from rfl, Nat.mul_one, Nat.add_zero] at hx25_1); have hf25_1 := hfr25 1; (try simp only [show (k46).sz = 2 from rfl, Nat.mul_one, Nat.add_zero] at hf25_1); clear hcl25 hcc25 hfr25 hM25) | ((with_reducible refine gate_store (t := 21) (p := 45) rfl ?_); refine store_event (t := 21) (p := 45) (v := ?vo_w26) (w1 := (w23.setCell ⟨go21, ((ji18) : Int).toNat * 2 + 1, none⟩ (.int .i32 (wrap32 (x5_2 - 1))))) ?hg ?ho ?hn ?hr ?_; (case ho => rfl); (case hg => rfl); (case hn => rfl); (case hr => first | (go_simp; done) | (go_simp; rfl)); intro w26 hw; have hg : w23.grownBy w26 (some go21) := (by rw [hw]; exact HP25.2); have hp_ : Kd.R k46 46 w26 w.heap.size (fun _ => True) (.slice (some ⟨go21, 0, none⟩) y589.length co24) y593 := (by rw [hw, Ny593.out]; exact HP25.1); clear HP25; have n0_ := Aside0.mk (hp_); have n1_ := Aside0.mk ((by rw [hw]; exact below_set (HB.out) GB21.out : Below w.heap.size w w26)); clear HO591; clear HB; have HO591 := n0_; have HB := n1_; clear n0_ n1_; clear hg hw hp_) | ((with_reducible refine gate_callee (f := 66) rfl ?_); refine goesL_ (some 48) rfl rfl Tryd.func66 (by kernel_rfl) rfl #[.int .i32 x5_2] rfl (by (try simp only [List.map_toArray, List.map_cons, List.map_nil]); first | done | rfl | (simp only [List.length_drop, List.length_take]; rfl)) ?_; (with_reducible refine (tremaref02_next.calls kj8 x5_2 t594 _ A22.out).mono ?_); rintro e w27 ⟨rfl, hb⟩; refine ⟨_, rfl, ?_⟩; have n0_ := Aside0.mk (Kd.R_below (by (with_reducible repeat (first | apply Kd.R_alloc | apply Kd.R_drewN | apply Kd.R_drew)); exact HO591.out) hb); have n1_ := Aside0.mk (below_step (by repeat (first | (with_reducible first | exact HB.out | apply below_alloc | apply pw_below_drewN | apply below_drew1) | exact HB.out)) hb); clear HO591; clear HB; have HO591 := n0_; have HB := n1_; clear n0_ n1_; (try clear hb); (try clear hb2); (try clear hk); (try clear hi)))
                 go_roundg kj8
                 case measure => have := HJ1.out; have := HK2.out; have := HJ5.out; have := HJ8.out; omega
                 case rel => exact ⟨(y593), (false), (t594), (by first | rfl | (simp; done) | (simp [*]; done)), (by first | rfl | (simp; done) | (simp [*]; done)), H', ⟨by have := HJ1.out; have := HK2.out; have := HJ5.out; have := HJ8.out; omega⟩, ⟨by (with_reducible repeat (first | apply Kd.R_alloc | apply Kd.R_drewN | apply Kd.R_drew)); exact HO591.out⟩, ⟨by repeat (first | (with_reducible first | exact HB.out | apply below_alloc | apply pw_below_drewN | apply below_drew1) | exact HB.out)⟩⟩
                ·rw [if_neg c20] at H
                 exact absurd H (by simp)
               ·rw [if_neg c19] at H
                exact absurd H (by simp)
              ·replace c17 := Bool.eq_false_iff.mpr c17
               subst c17
               have H1 : ((tremaref02_next.f kj8 x5_2).bind fun t595 => (tremaref02_Ranges.l0 kj8 a0 y589 false t595)) = some r := by rw [if_neg (show ¬ (false = true) by decide)] at H; exact H
               clear H
               have H := H1
               clear H1
               replace H := Option.bind_eq_some_iff.mp H
               obtain ⟨t595, A280, H⟩ := H
               replace H : (tremaref02_Ranges.l0 kj8 a0 y589 false t595) = some r := H
               have A28 := Aside0.mk A280
               clear A280
               have H' := Aside0.mk H
               clear H
               go_wp2_with (first | ((with_reducible refine gate_builtin (b := .append) (xs := #[.tmp 28, .tmp 31]) rfl ?_); at_builtin; refine Kd.R_append k46 (w0 := w) w.heap.size rfl (.tmp 28) (.tmp 31) 43 46 (.agg #[(.int .i32 0), (.int .i32 0)]) 8 rfl Tryd.underlying43 info46 rfl (by decide) (by omega) u3 x3_2 (⟨x5_2, 0⟩ : S46) [.int .i32 x5_2, .int .i32 0] (fun _ => True) (fun _ => False) rfl rfl ?aP (fun _ hk => hk.elim) ?aF ?aO ?aB ?aS ?aL ?_; (case aP => exact k46_mkM _ _ _ (⟨x5_2, 0⟩ : S46)); (case aB => exact (by repeat (first | (with_reducible first | exact HB.out | apply below_alloc | apply pw_below_drewN | apply below_drew1) | exact HB.out))); (case aF => exact (fun _ _ => trivial)); (case aO => exact (by (with_reducible repeat (first | apply Kd.R_alloc | apply Kd.R_drewN | apply Kd.R_drew)); exact HO_3.out)); (case aS => exact (below_size (by repeat (first | (with_reducible first | exact HB.out | apply below_alloc | apply pw_below_drewN | apply below_drew1) | exact HB.out)))); (case aL => have := LMc12.out; omega); intro v590 w29 ho hb hg hat; rw [← Ny589.out] at ho; have n0_ := Aside0.mk (hb); have n1_ := Aside0.mk (ho); clear HB; clear HO_3; have HB := n0_; have HO591 := n1_; clear n0_ n1_; clear ho hb hg hat) | ((with_reducible refine gate_callee (f := 66) rfl ?_); refine goesL_ (some 48) rfl rfl Tryd.func66 (by kernel_rfl) rfl #[.int .i32 x5_2] rfl (by (try simp only [List.map_toArray, List.map_cons, List.map_nil]); first | done | rfl | (simp only [List.length_drop, List.length_take]; rfl)) ?_; (with_reducible refine (tremaref02_next.calls kj8 x5_2 t595 _ A28.out).mono ?_); rintro e w30 ⟨rfl, hb⟩; refine ⟨_, rfl, ?_⟩; have n0_ := Aside0.mk (Kd.R_below (by (with_reducible repeat (first | apply Kd.R_alloc | apply Kd.R_drewN | apply Kd.R_drew)); exact HO591.out) hb); have n1_ := Aside0.mk (below_step (by repeat (first | (with_reducible first | exact HB.out | apply below_alloc | apply pw_below_drewN | apply below_drew1) | exact HB.out)) hb); clear HO591; clear HB; have HO591 := n0_; have HB := n1_; clear n0_ n1_; (try clear hb); (try clear hb2); (try clear hk); (try clear hi)))
               go_roundg kj8
               case measure => have := HJ1.out; have := HK2.out; have := HJ5.out; have := HJ8.out; omega
               case rel => exact ⟨(y589), (false), (t595), (by first | rfl | (simp; done) | (simp [*]; done)), (by first | rfl | (simp; done) | (simp [*]; done)), H', ⟨by have := HJ1.out; have := HK2.out; have := HJ5.out; have := HJ8.out; omega⟩, ⟨by (with_reducible repeat (first | apply Kd.R_alloc | apply Kd.R_drewN | apply Kd.R_drew)); exact HO591.out⟩, ⟨by repeat (first | (with_reducible first | exact HB.out | apply below_alloc | apply pw_below_drewN | apply below_drew1) | exact HB.out)⟩⟩
            ·rw [if_neg c12] at H
             exact absurd H (by simp)
           ·replace c11 := Bool.eq_false_iff.mpr c11
            subst c11
            have H1 : (if x6_5 = true then ((tremaref02_next.f kj8 x5_2).bind fun t596 => (tremaref02_Ranges.l0 kj8 a0 x3_2 x6_5 t596)) else (if x4_2 = true then (if 0 ≤ (wrap64 ((x3_2.length : Int) - 1)) then (if (wrap64 ((x3_2.length : Int) - 1)) < (x3_2.length : Int) then ((tremaref02_next.f kj8 x5_2).bind fun t598 => (tremaref02_Ranges.l0 kj8 a0 (x3_2.set ((wrap64 ((x3_2.length : Int) - 1)) : Int).toNat (⟨(rd_T46 x3_2 (wrap64 ((x3_2.length : Int) - 1))).f0, wrap32 (x5_2 - 1)⟩ : S46)) x6_5 t598)) else (none)) else (none)) else ((tremaref02_next.f kj8 x5_2).bind fun t599 => (tremaref02_Ranges.l0 kj8 a0 x3_2 x6_5 t599)))) = some r := by rw [if_neg (show ¬ (false = true) by decide)] at H; exact H
            clear H
            have H := H1
            clear H1
            by_cases c31 : x6_5 = true
            ·subst c31
             have H1 : ((tremaref02_next.f kj8 x5_2).bind fun t596 => (tremaref02_Ranges.l0 kj8 a0 x3_2 true t596)) = some r := by rw [if_pos rfl] at H; exact H
             clear H
             have H := H1
             clear H1
             replace H := Option.bind_eq_some_iff.mp H
             obtain ⟨t596, A320, H⟩ := H
             replace H : (tremaref02_Ranges.l0 kj8 a0 x3_2 true t596) = some r := H
             have A32 := Aside0.mk A320
             clear A320
             have H' := Aside0.mk H
             clear H
             go_wp2_with (first | ((with_reducible refine gate_callee (f := 66) rfl ?_); refine goesL_ (some 48) rfl rfl Tryd.func66 (by kernel_rfl) rfl #[.int .i32 x5_2] rfl (by (try simp only [List.map_toArray, List.map_cons, List.map_nil]); first | done | rfl | (simp only [List.length_drop, List.length_take]; rfl)) ?_; (with_reducible refine (tremaref02_next.calls kj8 x5_2 t596 _ A32.out).mono ?_); rintro e w33 ⟨rfl, hb⟩; refine ⟨_, rfl, ?_⟩; have n0_ := Aside0.mk (Kd.R_below (by (with_reducible repeat (first | apply Kd.R_alloc | apply Kd.R_drewN | apply Kd.R_drew)); exact HO_3.out) hb); have n1_ := Aside0.mk (below_step (by repeat (first | (with_reducible first | exact HB.out | apply below_alloc | apply pw_below_drewN | apply below_drew1) | exact HB.out)) hb); clear HO_3; clear HB; have HO_3 := n0_; have HB := n1_; clear n0_ n1_; (try clear hb); (try clear hb2); (try clear hk); (try clear hi)))
             go_roundg kj8
             case measure => have := HJ1.out; have := HK2.out; have := HJ5.out; have := HJ8.out; omega
             case rel => exact ⟨(x3_2), (true), (t596), (by first | rfl | (simp; done) | (simp [*]; done)), (by first | rfl | (simp; done) | (simp [*]; done)), H', ⟨by have := HJ1.out; have := HK2.out; have := HJ5.out; have := HJ8.out; omega⟩, ⟨by (with_reducible repeat (first | apply Kd.R_alloc | apply Kd.R_drewN | apply Kd.R_drew)); exact HO_3.out⟩, ⟨by repeat (first | (with_reducible first | exact HB.out | apply below_alloc | apply pw_below_drewN | apply below_drew1) | exact HB.out)⟩⟩
            ·replace c31 := Bool.eq_false_iff.mpr c31
             subst c31
             have H1 : (if x4_2 = true then (if 0 ≤ (wrap64 ((x3_2.length : Int) - 1)) then (if (wrap64 ((x3_2.length : Int) - 1)) < (x3_2.length : Int) then ((tremaref02_next.f kj8 x5_2).bind fun t598 => (tremaref02_Ranges.l0 kj8 a0 (x3_2.set ((wrap64 ((x3_2.length : Int) - 1)) : Int).toNat (⟨(rd_T46 x3_2 (wrap64 ((x3_2.length : Int) - 1))).f0, wrap32 (x5_2 - 1)⟩ : S46)) false t598)) else (none)) else (none)) else ((tremaref02_next.f kj8 x5_2).bind fun t599 => (tremaref02_Ranges.l0 kj8 a0 x3_2 false t599))) = some r := by rw [if_neg (show ¬ (false = true) by decide)] at H; exact H
             clear H
             have H := H1
             clear H1
             by_cases c34 : x4_2 = true
             ·subst c34
              have H1 : (if 0 ≤ (wrap64 ((x3_2.length : Int) - 1)) then (if (wrap64 ((x3_2.length : Int) - 1)) < (x3_2.length : Int) then ((tremaref02_next.f kj8 x5_2).bind fun t598 => (tremaref02_Ranges.l0 kj8 a0 (x3_2.set ((wrap64 ((x3_2.length : Int) - 1)) : Int).toNat (⟨(rd_T46 x3_2 (wrap64 ((x3_2.length : Int) - 1))).f0, wrap32 (x5_2 - 1)⟩ : S46)) false t598)) else (none)) else (none)) = some r := by rw [if_pos rfl] at H; exact H
              clear H
              have H := H1
              clear H1
              obtain ⟨ji35, hji35⟩ : ∃ j_ : Int, (wrap64 ((x3_2.length : Int) - 1)) = j_ := ⟨_, rfl⟩
              replace H : (if 0 ≤ (ji35) then (if (ji35) < (x3_2.length : Int) then ((tremaref02_next.f kj8 x5_2).bind fun t598 => (tremaref02_Ranges.l0 kj8 a0 (x3_2.set ((ji35) : Int).toNat (⟨(rd_T46 x3_2 (ji35)).f0, wrap32 (x5_2 - 1)⟩ : S46)) false t598)) else (none)) else (none)) = some r := by first | (rw [hji35] at H; exact H) | (simp only [hji35] at H ⊢; exact H)
              have hji35w : (IntKind.i64.wrap ((x3_2.length : Int) - 1)) = ji35 := (i64_w _).trans hji35
              by_cases c36 : 0 ≤ (ji35)
              ·rw [if_pos c36] at H
               have c36b0 : decide (0 ≤ (ji35)) = true := decide_eq_true c36
               clear c36
               by_cases c37 : (ji35) < (x3_2.length : Int)
               ·rw [if_pos c37] at H
                have c37b0 : decide ((ji35) < (x3_2.length : Int)) = true := decide_eq_true c37
                clear c37
                obtain ⟨y597, hy597⟩ : ∃ y_ : List (S46), y_ = (x3_2.set ((ji35) : Int).toNat (⟨(rd_T46 x3_2 (ji35)).f0, wrap32 (x5_2 - 1)⟩ : S46)) := ⟨_, rfl⟩
                replace H : ((tremaref02_next.f kj8 x5_2).bind fun t598 => (tremaref02_Ranges.l0 kj8 a0 y597 false t598)) = some r := by first | (rw [hy597]; with_reducible exact H) | (have H2_ := (Option.bind_some _ _).symm.trans H; rw [hy597]; with_reducible exact H2_) | (have H2_ := (Option.bind_some _ _).symm.trans H; with_reducible exact H2_) | with_reducible exact H | (rw [hy597]; exact H) | exact H
                have Ny597 := Aside0.mk hy597
                clear hy597
                replace H := Option.bind_eq_some_iff.mp H
                obtain ⟨t598, A390, H⟩ := H
                replace H : (tremaref02_Ranges.l0 kj8 a0 y597 false t598) = some r := H
                have A39 := Aside0.mk A390
                clear A390
                have H' := Aside0.mk H
                clear H
                obtain ⟨Ao40, co40, eo40⟩ := Kd.R_slice HO_3.out
                subst eo40
                have p38 : 0 ≤ ((ji35) : Int) := of_decide_eq_true (by first | (with_reducible assumption) | assumption)
                have q38 : ((ji35) : Int) < ((x3_2.length : Int) : Int) := of_decide_eq_true (by first | (with_reducible assumption) | assumption)
                obtain ⟨go38, co38, eo38, gb38, gl38, cl38, HG38⟩ := Kd.R_form HO_3.out (by omega)
                (first | cases eo38 | (injection eo38 with ea_ en_ ec_; (first | subst ea_ | (injection ea_ with ea_; subst ea_)); subst ec_; clear en_))
                have GB38 := Aside0.mk gb38
                have GG38 := Aside0.mk HG38
                clear gb38 gl38 HG38
                obtain ⟨ce38, hcl38, hM38, hcc38, hfr38⟩ := Kd.R_elem HO_3.out z46 ((ji35) : Int) p38 q38
                obtain rfl := k46_openM hM38
                have hx38_0 : wc.cell? ⟨go38, ((ji35) : Int).toNat * 2, none⟩ = some (.int .i32 ((rd_T46 x3_2 (ji35)).f0)) := hcc38 0 _ rfl
                have hx38_1 : wc.cell? ⟨go38, ((ji35) : Int).toNat * 2 + 1, none⟩ = some (.int .i32 ((rd_T46 x3_2 (ji35)).f1)) := hcc38 1 _ rfl
                have hf38_0 : wc.frozen? ⟨go38, ((ji35) : Int).toNat * 2, none⟩ = false := hfr38 0
                have hf38_1 : wc.frozen? ⟨go38, ((ji35) : Int).toNat * 2 + 1, none⟩ = false := hfr38 1
                clear hcl38 hcc38 hfr38 hM38
                replace p38 := eq_true p38
                replace q38 := eq_true q38
                have HX41 := Aside0.mk (show Kd.R k46 46 wc w.heap.size (fun _ => True) (.slice (some ⟨go38, 0, none⟩) x3_2.length co40) x3_2 from (by (with_reducible repeat (first | apply Kd.R_alloc | apply Kd.R_drewN | apply Kd.R_drew)); exact HO_3.out))
                obtain ⟨ce41, hcl41, hM41, hcc41, hfr41⟩ := Kd.R_elem HX41.out z46 ((ji35) : Int) (of_decide_eq_true (by first | (with_reducible assumption) | assumption)) (by have h_ : ((ji35) : Int) < ((x3_2.length : Int) : Int) := of_decide_eq_true (by first | (with_reducible assumption) | assumption); first | exact h_ | (have e_ := (Kd.R_reads' HO_3.out).1; omega) | simpa using h_)
                obtain rfl := k46_openM hM41
                have HP41 := Kd.R_seg HX41.out ((ji35) : Int) (of_decide_eq_true (by first | (with_reducible assumption) | assumption)) (by have h_ : ((ji35) : Int) < ((x3_2.length : Int) : Int) := of_decide_eq_true (by first | (with_reducible assumption) | assumption); first | exact h_ | (have e_ := (Kd.R_reads' HO_3.out).1; omega) | simpa using h_) (seg := [.int .i32 (wrap32 (x5_2 - 1))]) (j := 1) hcl41 hcc41 (show 2 ≤ 2 from by decide) (x' := (⟨(rd_T46 x3_2 (ji35)).f0, wrap32 (x5_2 - 1)⟩ : S46)) (k46_mkM _ _ _ (⟨(rd_T46 x3_2 (ji35)).f0, wrap32 (x5_2 - 1)⟩ : S46) ) (fun _ hk => hk)
                have hx41_1 := hcc41 1 _ rfl
                (try simp only [show (k46).sz = 2 from rfl, Nat.mul_one, Nat.add_zero] at hx41_1)
                have hf41_1 := hfr41 1
                (try simp only [show (k46).sz = 2 from rfl, Nat.mul_one, Nat.add_zero] at hf41_1)
                clear hcl41 hcc41 hfr41 hM41
                go_wp2_with (first | ((with_reducible refine gate_store (t := 21) (p := 45) rfl ?_); refine store_event (t := 21) (p := 45) (v := ?vo_w42) (w1 := (wc.setCell ⟨go38, ((ji35) : Int).toNat * 2 + 1, none⟩ (.int .i32 (wrap32 (x5_2 - 1))))) ?hg ?ho ?hn ?hr ?_; (case ho => rfl); (case hg => rfl); (case hn => rfl); (case hr => first | (go_simp; done) | (go_simp; rfl)); intro w42 hw; have hg : wc.grownBy w42 (some go38) := (by rw [hw]; exact HP41.2); have hp_ : Kd.R k46 46 w42 w.heap.size (fun _ => True) (.slice (some ⟨go38, 0, none⟩) x3_2.length co40) y597 := (by rw [hw, Ny597.out]; exact HP41.1); clear HP41; have n0_ := Aside0.mk (hp_); have n1_ := Aside0.mk ((by rw [hw]; exact below_set (HB.out) GB38.out : Below w.heap.size w w42)); clear HO_3; clear HB; have HO_3 := n0_; have HB := n1_; clear n0_ n1_; clear hg hw hp_) | ((with_reducible refine gate_callee (f := 66) rfl ?_); refine goesL_ (some 48) rfl rfl Tryd.func66 (by kernel_rfl) rfl #[.int .i32 x5_2] rfl (by (try simp only [List.map_toArray, List.map_cons, List.map_nil]); first | done | rfl | (simp only [List.length_drop, List.length_take]; rfl)) ?_; (with_reducible refine (tremaref02_next.calls kj8 x5_2 t598 _ A39.out).mono ?_); rintro e w43 ⟨rfl, hb⟩; refine ⟨_, rfl, ?_⟩; have n0_ := Aside0.mk (Kd.R_below (by (with_reducible repeat (first | apply Kd.R_alloc | apply Kd.R_drewN | apply Kd.R_drew)); exact HO_3.out) hb); have n1_ := Aside0.mk (below_step (by repeat (first | (with_reducible first | exact HB.out | apply below_alloc | apply pw_below_drewN | apply below_drew1) | exact HB.out)) hb); clear HO_3; clear HB; have HO_3 := n0_; have HB := n1_; clear n0_ n1_; (try clear hb); (try clear hb2); (try clear hk); (try clear hi)))
                go_roundg kj8
                case measure => have := HJ1.out; have := HK2.out; have := HJ5.out; have := HJ8.out; omega
                case rel => exact ⟨(y597), (false), (t598), (by first | rfl | (simp; done) | (simp [*]; done)), (by first | rfl | (simp; done) | (simp [*]; done)), H', ⟨by have := HJ1.out; have := HK2.out; have := HJ5.out; have := HJ8.out; omega⟩, ⟨by (with_reducible repeat (first | apply Kd.R_alloc | apply Kd.R_drewN | apply Kd.R_drew)); exact HO_3.out⟩, ⟨by repeat (first | (with_reducible first | exact HB.out | apply below_alloc | apply pw_below_drewN | apply below_drew1) | exact HB.out)⟩⟩
               ·rw [if_neg c37] at H
                exact absurd H (by simp)
              ·rw [if_neg c36] at H
               exact absurd H (by simp)
             ·replace c34 := Bool.eq_false_iff.mpr c34
              subst c34
              have H1 : ((tremaref02_next.f kj8 x5_2).bind fun t599 => (tremaref02_Ranges.l0 kj8 a0 x3_2 false t599)) = some r := by rw [if_neg (show ¬ (false = true) by decide)] at H; exact H
              clear H
              have H := H1
              clear H1
              replace H := Option.bind_eq_some_iff.mp H
              obtain ⟨t599, A440, H⟩ := H
              replace H : (tremaref02_Ranges.l0 kj8 a0 x3_2 false t599) = some r := H
              have A44 := Aside0.mk A440
              clear A440
              have H' := Aside0.mk H
              clear H
              go_wp2_with (first | ((with_reducible refine gate_callee (f := 66) rfl ?_); refine goesL_ (some 48) rfl rfl Tryd.func66 (by kernel_rfl) rfl #[.int .i32 x5_2] rfl (by (try simp only [List.map_toArray, List.map_cons, List.map_nil]); first | done | rfl | (simp only [List.length_drop, List.length_take]; rfl)) ?_; (with_reducible refine (tremaref02_next.calls kj8 x5_2 t599 _ A44.out).mono ?_); rintro e w45 ⟨rfl, hb⟩; refine ⟨_, rfl, ?_⟩; have n0_ := Aside0.mk (Kd.R_below (by (with_reducible repeat (first | apply Kd.R_alloc | apply Kd.R_drewN | apply Kd.R_drew)); exact HO_3.out) hb); have n1_ := Aside0.mk (below_step (by repeat (first | (with_reducible first | exact HB.out | apply below_alloc | apply pw_below_drewN | apply below_drew1) | exact HB.out)) hb); clear HO_3; clear HB; have HO_3 := n0_; have HB := n1_; clear n0_ n1_; (try clear hb); (try clear hb2); (try clear hk); (try clear hi)))
              go_roundg kj8
              case measure => have := HJ1.out; have := HK2.out; have := HJ5.out; have := HJ8.out; omega
              case rel => exact ⟨(x3_2), (false), (t599), (by first | rfl | (simp; done) | (simp [*]; done)), (by first | rfl | (simp; done) | (simp [*]; done)), H', ⟨by have := HJ1.out; have := HK2.out; have := HJ5.out; have := HJ8.out; omega⟩, ⟨by (with_reducible repeat (first | apply Kd.R_alloc | apply Kd.R_drewN | apply Kd.R_drew)); exact HO_3.out⟩, ⟨by repeat (first | (with_reducible first | exact HB.out | apply below_alloc | apply pw_below_drewN | apply below_drew1) | exact HB.out)⟩⟩
      ·rw [if_neg c5] at H
       have c5b0 : decide (x5_2 ≤ 1114112) = false := decide_eq_false c5
       clear c5
       obtain rfl := Option.some.inj H
       go_wp2
       go_ret
       exact ⟨_, by first | rfl | (simp [errW_none, errW_some] <;> rfl) | (simp [*, errW_none, errW_some] <;> rfl), by (with_reducible repeat (first | apply Kd.R_alloc | apply Kd.R_drewN | apply Kd.R_drew)); exact HO_3.out, by repeat (first | (with_reducible first | exact HB.out | apply below_alloc | apply pw_below_drewN | apply below_drew1) | exact HB.out)⟩
end Go.Proofs.YthffpkdadffinaaDoor.X
namespace Go.Proofs.YthffpkdadffinaaDoor.Vkr
set_option linter.unusedVariables false
set_option linter.unusedSimpArgs false
open Go.RowKit Go.Proofs.YthffpkdadffinaaDoorW.PrintWords Go.Proofs.YthffpkdadffinaaDoor.Ev0 Go.Proofs.YthffpkdadffinaaDoor.X Go.Proofs.YthffpkdadffinaaDoor.Vb Go.Proofs.YthffpkdadffinaaDoor.Vk0
theorem rr1 : tremaref02_Ranges.f 8000 1 = some (rgs 1) := by kernel_rfl
theorem rr2 : tremaref02_Ranges.f 8000 2 = some (rgs 2) := by kernel_rfl
theorem rr3 : tremaref02_Ranges.f 8000 3 = some (rgs 3) := by kernel_rfl
theorem rr4 : tremaref02_Ranges.f 8000 4 = some (rgs 4) := by kernel_rfl
theorem rr5 : tremaref02_Ranges.f 8000 5 = some (rgs 5) := by kernel_rfl
theorem rr6 : tremaref02_Ranges.f 8000 6 = some (rgs 6) := by kernel_rfl
theorem rr7 : tremaref02_Ranges.f 8000 7 = some (rgs 7) := by kernel_rfl
end Go.Proofs.YthffpkdadffinaaDoor.Vkr
