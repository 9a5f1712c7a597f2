/-
  Several texts of this claim in one: what its law's proof uses.
-/
import Derived.Test.YtiggjbclbdikmaaDoorMU1
import Derived.Test.YtiggjbclbdikmaaDoorMU3
import Derived.Test.YtiggjbclbdikmaaDoorMU2
import Derived.Laws.RangeString
namespace Go.Proofs.YtiggjbclbdikmaaDoor.X
open Go.RowKit Go.Proofs.YtiggjbclbdikmaaDoorW.PrintWords Go.Proofs.YtiggjbclbdikmaaDoorW.PrintLast Go.Proofs.YtiggjbclbdikmaaDoorW.PrintMore
attribute [local go_sem] max2_int min2_int max_two min_two max_three min_three max_four min_four   
set_option linter.unusedVariables false
set_option linter.unusedSimpArgs false
mutual
def tremaref02_Class.j1 : Nat → Int → Bool → Option (Int)
 | 0, _, _ => none
 | k + 1, x0, x3 => if x3 = true then (some 230) else ((tremaref02_in.f x0 789 789).bind fun t110 => (if t110 = true then (tremaref02_Class.j2 k x0 t110) else ((tremaref02_in.f x0 794 794).bind fun t111 => (tremaref02_Class.j2 k x0 t111))))
def tremaref02_Class.j2 : Nat → Int → Bool → Option (Int)
 | 0, _, _ => none
 | k + 1, x0, x20 => if x20 = true then (some 232) else ((tremaref02_in.f x0 790 793).bind fun t112 => (if t112 = true then (tremaref02_Class.j4 k x0 t112) else ((tremaref02_in.f x0 796 800).bind fun t113 => (if t113 = true then (tremaref02_Class.j4 k x0 t113) else ((tremaref02_in.f x0 803 806).bind fun t114 => (if t114 = true then (tremaref02_Class.j4 k x0 t114) else ((tremaref02_in.f x0 809 819).bind fun t115 => (if t115 = true then (tremaref02_Class.j3 k x0 true) else ((tremaref02_in.f x0 825 828).bind fun t116 => (tremaref02_Class.j3 k x0 t116))))))))))
def tremaref02_Class.j4 : Nat → Int → Bool → Option (Int)
 | 0, _, _ => none
 | k + 1, x0, x25 => if x25 = true then (some 220) else ((tremaref02_in.f x0 795 795).bind fun t120 => (if t120 = true then (some 216) else ((tremaref02_in.f x0 801 802).bind fun t121 => (if t121 = true then (tremaref02_Class.j5 k x0 t121) else ((tremaref02_in.f x0 807 808).bind fun t122 => (tremaref02_Class.j5 k x0 t122))))))
def tremaref02_Class.j5 : Nat → Int → Bool → Option (Int)
 | 0, _, _ => none
 | k + 1, x0, x47 => if x47 = true then (some 202) else ((tremaref02_in.f x0 820 824).bind fun t123 => (if t123 = true then (some 1) else ((tremaref02_in.f x0 837 837).bind fun t124 => (if t124 = true then (some 240) else ((tremaref02_in.f x0 12441 12442).bind fun t125 => (if t125 = true then (some 8) else (some 0)))))))
def tremaref02_Class.j3 : Nat → Int → Bool → Option (Int)
 | 0, _, _ => none
 | k + 1, x0, x25 => if x25 = true then (tremaref02_Class.j4 k x0 x25) else ((tremaref02_in.f x0 839 841).bind fun t117 => (if t117 = true then (tremaref02_Class.j4 k x0 t117) else ((tremaref02_in.f x0 845 846).bind fun t118 => (if t118 = true then (tremaref02_Class.j4 k x0 t118) else ((tremaref02_in.f x0 851 854).bind fun t119 => (tremaref02_Class.j4 k x0 t119))))))
def tremaref02_Class.j0 : Nat → Int → Bool → Option (Int)
 | 0, _, _ => none
 | k + 1, x0, x3 => if x3 = true then (tremaref02_Class.j1 k x0 x3) else ((tremaref02_in.f x0 855 855).bind fun t108 => (if t108 = true then (tremaref02_Class.j1 k x0 t108) else ((tremaref02_in.f x0 8400 8401).bind fun t109 => (tremaref02_Class.j1 k x0 t109))))
end
def tremaref02_Class.f (k : Nat) (a0 : Int) : Option (Int) := (tremaref02_in.f a0 768 788).bind fun t103 => (if t103 = true then (tremaref02_Class.j1 k a0 t103) else ((tremaref02_in.f a0 829 836).bind fun t104 => (if t104 = true then (tremaref02_Class.j1 k a0 t104) else ((tremaref02_in.f a0 838 838).bind fun t105 => (if t105 = true then (tremaref02_Class.j1 k a0 t105) else ((tremaref02_in.f a0 842 844).bind fun t106 => (if t106 = true then (tremaref02_Class.j0 k a0 true) else ((tremaref02_in.f a0 848 850).bind fun t107 => (tremaref02_Class.j0 k a0 t107)))))))))
theorem tremaref02_Class.mono_l : ∀ k, (∀ y0 y1, LeO (tremaref02_Class.j1 k y0 y1) (tremaref02_Class.j1 (k + 1) y0 y1)) ∧ (∀ y0 y1, LeO (tremaref02_Class.j2 k y0 y1) (tremaref02_Class.j2 (k + 1) y0 y1)) ∧ (∀ y0 y1, LeO (tremaref02_Class.j4 k y0 y1) (tremaref02_Class.j4 (k + 1) y0 y1)) ∧ (∀ y0 y1, LeO (tremaref02_Class.j5 k y0 y1) (tremaref02_Class.j5 (k + 1) y0 y1)) ∧ (∀ y0 y1, LeO (tremaref02_Class.j3 k y0 y1) (tremaref02_Class.j3 (k + 1) y0 y1)) ∧ (∀ y0 y1, LeO (tremaref02_Class.j0 k y0 y1) (tremaref02_Class.j0 (k + 1) y0 y1))
 | 0 => ⟨fun _ _ r h => by simp [tremaref02_Class.j1] at h, fun _ _ r h => by simp [tremaref02_Class.j2] at h, fun _ _ r h => by simp [tremaref02_Class.j4] at h, fun _ _ r h => by simp [tremaref02_Class.j5] at h, fun _ _ r h => by simp [tremaref02_Class.j3] at h, fun _ _ r h => by simp [tremaref02_Class.j0] at h⟩
 | k + 1 => by
  obtain ⟨ih0, ih1, ih2, ih3, ih4, ih5⟩ := tremaref02_Class.mono_l k
  refine ⟨?_, ?_, ?_, ?_, ?_, ?_⟩
  ·intro y0 y1
   unfold tremaref02_Class.j1
   repeat' first
   | (with_reducible exact ih0 _ _)
   | (with_reducible exact ih1 _ _)
   | (with_reducible exact ih2 _ _)
   | (with_reducible exact ih3 _ _)
   | (with_reducible exact ih4 _ _)
   | (with_reducible exact ih5 _ _)
   | (with_reducible exact LeO.refl _)
   | (with_reducible exact LeO.none _)
   | (with_reducible refine LeO.ite ?_ ?_)
   | (with_reducible refine LeO.bind ?_ (fun _ => ?_))
   | exact ih0 _ _
   | exact ih1 _ _
   | exact ih2 _ _
   | exact ih3 _ _
   | exact ih4 _ _
   | exact ih5 _ _
   | exact LeO.none _
   | refine LeO.ite ?_ ?_
   | refine LeO.bind ?_ (fun _ => ?_)
  ·intro y0 y1
   unfold tremaref02_Class.j2
   repeat' first
   | (with_reducible exact ih0 _ _)
   | (with_reducible exact ih1 _ _)
   | (with_reducible exact ih2 _ _)
   | (with_reducible exact ih3 _ _)
   | (with_reducible exact ih4 _ _)
   | (with_reducible exact ih5 _ _)
   | (with_reducible exact LeO.refl _)
   | (with_reducible exact LeO.none _)
   | (with_reducible refine LeO.ite ?_ ?_)
   | (with_reducible refine LeO.bind ?_ (fun _ => ?_))
   | exact ih0 _ _
   | exact ih1 _ _
   | exact ih2 _ _
   | exact ih3 _ _
   | exact ih4 _ _
   | exact ih5 _ _
   | exact LeO.none _
   | refine LeO.ite ?_ ?_
   | refine LeO.bind ?_ (fun _ => ?_)
  ·intro y0 y1
   unfold tremaref02_Class.j4
   repeat' first
   | (with_reducible exact ih0 _ _)
   | (with_reducible exact ih1 _ _)
   | (with_reducible exact ih2 _ _)
   | (with_reducible exact ih3 _ _)
   | (with_reducible exact ih4 _ _)
   | (with_reducible exact ih5 _ _)
   | (with_reducible exact LeO.refl _)
   | (with_reducible exact LeO.none _)
   | (with_reducible refine LeO.ite ?_ ?_)
   | (with_reducible refine LeO.bind ?_ (fun _ => ?_))
   | exact ih0 _ _
   | exact ih1 _ _
   | exact ih2 _ _
   | exact ih3 _ _
   | exact ih4 _ _
   | exact ih5 _ _
   | exact LeO.none _
   | refine LeO.ite ?_ ?_
   | refine LeO.bind ?_ (fun _ => ?_)
  ·intro y0 y1
   unfold tremaref02_Class.j5
   repeat' first
   | (with_reducible exact ih0 _ _)
   | (with_reducible exact ih1 _ _)
   | (with_reducible exact ih2 _ _)
   | (with_reducible exact ih3 _ _)
   | (with_reducible exact ih4 _ _)
   | (with_reducible exact ih5 _ _)
   | (with_reducible exact LeO.refl _)
   | (with_reducible exact LeO.none _)
   | (with_reducible refine LeO.ite ?_ ?_)
   | (with_reducible refine LeO.bind ?_ (fun _ => ?_))
   | exact ih0 _ _
   | exact ih1 _ _
   | exact ih2 _ _
   | exact ih3 _ _
   | exact ih4 _ _
   | exact ih5 _ _
   | exact LeO.none _
   | refine LeO.ite ?_ ?_
   | refine LeO.bind ?_ (fun _ => ?_)
  ·intro y0 y1
   unfold tremaref02_Class.j3
   repeat' first
   | (with_reducible exact ih0 _ _)
   | (with_reducible exact ih1 _ _)
   | (with_reducible exact ih2 _ _)
   | (with_reducible exact ih3 _ _)
   | (with_reducible exact ih4 _ _)
   | (with_reducible exact ih5 _ _)
   | (with_reducible exact LeO.refl _)
   | (with_reducible exact LeO.none _)
   | (with_reducible refine LeO.ite ?_ ?_)
   | (with_reducible refine LeO.bind ?_ (fun _ => ?_))
   | exact ih0 _ _
   | exact ih1 _ _
   | exact ih2 _ _
   | exact ih3 _ _
   | exact ih4 _ _
   | exact ih5 _ _
   | exact LeO.none _
   | refine LeO.ite ?_ ?_
   | refine LeO.bind ?_ (fun _ => ?_)
  ·intro y0 y1
   unfold tremaref02_Class.j0
   repeat' first
   | (with_reducible exact ih0 _ _)
   | (with_reducible exact ih1 _ _)
   | (with_reducible exact ih2 _ _)
   | (with_reducible exact ih3 _ _)
   | (with_reducible exact ih4 _ _)
   | (with_reducible exact ih5 _ _)
   | (with_reducible exact LeO.refl _)
   | (with_reducible exact LeO.none _)
   | (with_reducible refine LeO.ite ?_ ?_)
   | (with_reducible refine LeO.bind ?_ (fun _ => ?_))
   | exact ih0 _ _
   | exact ih1 _ _
   | exact ih2 _ _
   | exact ih3 _ _
   | exact ih4 _ _
   | exact ih5 _ _
   | exact LeO.none _
   | refine LeO.ite ?_ ?_
   | refine LeO.bind ?_ (fun _ => ?_)
theorem tremaref02_Class.mono : ∀ a0 k, LeO (tremaref02_Class.f k a0) (tremaref02_Class.f (k + 1) a0) := by
 intro a0 k
 obtain ⟨ih0, ih1, ih2, ih3, ih4, ih5⟩ := tremaref02_Class.mono_l k
 unfold tremaref02_Class.f
 repeat' first
   | (with_reducible exact ih0 _ _)
   | (with_reducible exact ih1 _ _)
   | (with_reducible exact ih2 _ _)
   | (with_reducible exact ih3 _ _)
   | (with_reducible exact ih4 _ _)
   | (with_reducible exact ih5 _ _)
   | (with_reducible exact LeO.refl _)
   | (with_reducible exact LeO.none _)
   | (with_reducible refine LeO.ite ?_ ?_)
   | (with_reducible refine LeO.bind ?_ (fun _ => ?_))
   | exact ih0 _ _
   | exact ih1 _ _
   | exact ih2 _ _
   | exact ih3 _ _
   | exact ih4 _ _
   | exact ih5 _ _
   | exact LeO.none _
   | refine LeO.ite ?_ ?_
   | refine LeO.bind ?_ (fun _ => ?_)
set_option maxHeartbeats 8000000 in
set_option maxRecDepth 100000 in
theorem tremaref02_Class.calls (k : Nat) (a0 : Int) (r : Int) (w : World) (h : tremaref02_Class.f k a0 = some r) :
  Calls Tryd.prog 29 #[.int .i32 a0] w fun e w' => e = .returned (.int .i64 r) ∧ Drawn0 w w' := by
 have H : ((tremaref02_in.f a0 768 788).bind fun t103 => (if t103 = true then (tremaref02_Class.j1 k a0 t103) else ((tremaref02_in.f a0 829 836).bind fun t104 => (if t104 = true then (tremaref02_Class.j1 k a0 t104) else ((tremaref02_in.f a0 838 838).bind fun t105 => (if t105 = true then (tremaref02_Class.j1 k a0 t105) else ((tremaref02_in.f a0 842 844).bind fun t106 => (if t106 = true then (tremaref02_Class.j0 k a0 true) else ((tremaref02_in.f a0 848 850).bind fun t107 => (tremaref02_Class.j0 k a0 t107)))))))))) = some r := h
 clear h
 replace H := Option.bind_eq_some_iff.mp H
 obtain ⟨t103, A20, H⟩ := H
 replace H : (if t103 = true then (tremaref02_Class.j1 k a0 t103) else ((tremaref02_in.f a0 829 836).bind fun t104 => (if t104 = true then (tremaref02_Class.j1 k a0 t104) else ((tremaref02_in.f a0 838 838).bind fun t105 => (if t105 = true then (tremaref02_Class.j1 k a0 t105) else ((tremaref02_in.f a0 842 844).bind fun t106 => (if t106 = true then (tremaref02_Class.j0 k a0 true) else ((tremaref02_in.f a0 848 850).bind fun t107 => (tremaref02_Class.j0 k a0 t107))))))))) = some r := H
 have A2 := Aside0.mk A20
 clear A20
 have HC3 := Aside0.mk H
 clear H
 go_enter Tryd.func29, Tryd.ntmps29
 go_upto_if 3 with (first | ((with_reducible refine gate_callee (f := 60) rfl ?_); refine goesL_ (some 5) rfl rfl Tryd.func60 (by kernel_rfl) rfl #[.int .i32 a0, .int .i32 768, .int .i32 788] rfl (by (try simp only [List.map_toArray, List.map_cons, List.map_nil]); first | done | rfl | (simp only [List.length_drop, List.length_take]; rfl)) ?_; (with_reducible refine (tremaref02_in.calls a0 768 788 t103 _ A2.out).mono ?_); rintro e w' ⟨rfl, ⟨nd, rfl⟩⟩; refine ⟨_, rfl, ?_⟩))
 (try simp only [Act.put, List.setIfInBounds_toArray, List.set_cons_zero, List.set_cons_succ])
 go_cut [3] (fun v3 wc => ∃ (kq : Nat) (x3_2 : Bool), v3 = .bool x3_2 ∧ Aside0 (tremaref02_Class.j1 kq a0 x3_2 = some r) ∧ Aside0 (kq ≤ k) ∧ Drawn0 w wc)
 case first =>
  have H := HC3.out
  clear HC3
  by_cases c4 : t103 = true
  ·subst c4
   have H1 : (tremaref02_Class.j1 k a0 true) = some r := by rw [if_pos rfl] at H; exact H
   clear H
   have H := H1
   clear H1
   have H' := Aside0.mk H
   clear H
   go_wp2
   go_meet
   case rel => exact ⟨_, (true), (by first | rfl | (simp; done) | (simp [*]; done)), H', ⟨by first | omega | exact Nat.le_refl _⟩, by repeat (first | exact Drawn0.refl _ | apply Drawn0.step)⟩
  ·replace c4 := Bool.eq_false_iff.mpr c4
   subst c4
   have H1 : ((tremaref02_in.f a0 829 836).bind fun t104 => (if t104 = true then (tremaref02_Class.j1 k a0 t104) else ((tremaref02_in.f a0 838 838).bind fun t105 => (if t105 = true then (tremaref02_Class.j1 k a0 t105) else ((tremaref02_in.f a0 842 844).bind fun t106 => (if t106 = true then (tremaref02_Class.j0 k a0 true) else ((tremaref02_in.f a0 848 850).bind fun t107 => (tremaref02_Class.j0 k a0 t107)))))))) = some r := by rw [if_neg (show ¬ (false = true) by decide)] at H; exact H
   clear H
   have H := H1
   clear H1
   replace H := Option.bind_eq_some_iff.mp H
   obtain ⟨t104, A50, H⟩ := H
   replace H : (if t104 = true then (tremaref02_Class.j1 k a0 t104) else ((tremaref02_in.f a0 838 838).bind fun t105 => (if t105 = true then (tremaref02_Class.j1 k a0 t105) else ((tremaref02_in.f a0 842 844).bind fun t106 => (if t106 = true then (tremaref02_Class.j0 k a0 true) else ((tremaref02_in.f a0 848 850).bind fun t107 => (tremaref02_Class.j0 k a0 t107))))))) = some r := H
   have A5 := Aside0.mk A50
   clear A50
   by_cases c6 : t104 = true
   ·subst c6
    have H1 : (tremaref02_Class.j1 k a0 true) = some r := by rw [if_pos rfl] at H; exact H
    clear H
    have H := H1
    clear H1
    have H' := Aside0.mk H
    clear H
    go_wp2_with (first | ((with_reducible refine gate_callee (f := 60) rfl ?_); refine goesL_ (some 7) rfl rfl Tryd.func60 (by kernel_rfl) rfl #[.int .i32 a0, .int .i32 829, .int .i32 836] rfl (by (try simp only [List.map_toArray, List.map_cons, List.map_nil]); first | done | rfl | (simp only [List.length_drop, List.length_take]; rfl)) ?_; (with_reducible refine (tremaref02_in.calls a0 829 836 true _ A5.out).mono ?_); rintro e w' ⟨rfl, ⟨nd, rfl⟩⟩; refine ⟨_, rfl, ?_⟩))
    go_meet
    case rel => exact ⟨_, (true), (by first | rfl | (simp; done) | (simp [*]; done)), H', ⟨by first | omega | exact Nat.le_refl _⟩, by repeat (first | exact Drawn0.refl _ | apply Drawn0.step)⟩
   ·replace c6 := Bool.eq_false_iff.mpr c6
    subst c6
    have H1 : ((tremaref02_in.f a0 838 838).bind fun t105 => (if t105 = true then (tremaref02_Class.j1 k a0 t105) else ((tremaref02_in.f a0 842 844).bind fun t106 => (if t106 = true then (tremaref02_Class.j0 k a0 true) else ((tremaref02_in.f a0 848 850).bind fun t107 => (tremaref02_Class.j0 k a0 t107)))))) = some r := by rw [if_neg (show ¬ (false = true) by decide)] at H; exact H
    clear H
    have H := H1
    clear H1
    replace H := Option.bind_eq_some_iff.mp H
    obtain ⟨t105, A70, H⟩ := H
    replace H : (if t105 = true then (tremaref02_Class.j1 k a0 t105) else ((tremaref02_in.f a0 842 844).bind fun t106 => (if t106 = true then (tremaref02_Class.j0 k a0 true) else ((tremaref02_in.f a0 848 850).bind fun t107 => (tremaref02_Class.j0 k a0 t107))))) = some r := H
    have A7 := Aside0.mk A70
    clear A70
    by_cases c8 : t105 = true
    ·subst c8
     have H1 : (tremaref02_Class.j1 k a0 true) = some r := by rw [if_pos rfl] at H; exact H
     clear H
     have H := H1
     clear H1
     have H' := Aside0.mk H
     clear H
     go_wp2_with (first | ((with_reducible refine gate_callee (f := 60) rfl ?_); refine goesL_ (some 7) rfl rfl Tryd.func60 (by kernel_rfl) rfl #[.int .i32 a0, .int .i32 829, .int .i32 836] rfl (by (try simp only [List.map_toArray, List.map_cons, List.map_nil]); first | done | rfl | (simp only [List.length_drop, List.length_take]; rfl)) ?_; (with_reducible refine (tremaref02_in.calls a0 829 836 false _ A5.out).mono ?_); rintro e w' ⟨rfl, ⟨nd, rfl⟩⟩; refine ⟨_, rfl, ?_⟩) | ((with_reducible refine gate_callee (f := 60) rfl ?_); refine goesL_ (some 9) rfl rfl Tryd.func60 (by kernel_rfl) rfl #[.int .i32 a0, .int .i32 838, .int .i32 838] rfl (by (try simp only [List.map_toArray, List.map_cons, List.map_nil]); first | done | rfl | (simp only [List.length_drop, List.length_take]; rfl)) ?_; (with_reducible refine (tremaref02_in.calls a0 838 838 true _ A7.out).mono ?_); rintro e w' ⟨rfl, ⟨nd, rfl⟩⟩; refine ⟨_, rfl, ?_⟩))
     go_meet
     case rel => exact ⟨_, (true), (by first | rfl | (simp; done) | (simp [*]; done)), H', ⟨by first | omega | exact Nat.le_refl _⟩, by repeat (first | exact Drawn0.refl _ | apply Drawn0.step)⟩
    ·replace c8 := Bool.eq_false_iff.mpr c8
     subst c8
     have H1 : ((tremaref02_in.f a0 842 844).bind fun t106 => (if t106 = true then (tremaref02_Class.j0 k a0 true) else ((tremaref02_in.f a0 848 850).bind fun t107 => (tremaref02_Class.j0 k a0 t107)))) = some r := by rw [if_neg (show ¬ (false = true) by decide)] at H; exact H
     clear H
     have H := H1
     clear H1
     have HC9 := Aside0.mk H
     clear H
     go_upto_region 4 with (first | ((with_reducible refine gate_callee (f := 60) rfl ?_); refine goesL_ (some 7) rfl rfl Tryd.func60 (by kernel_rfl) rfl #[.int .i32 a0, .int .i32 829, .int .i32 836] rfl (by (try simp only [List.map_toArray, List.map_cons, List.map_nil]); first | done | rfl | (simp only [List.length_drop, List.length_take]; rfl)) ?_; (with_reducible refine (tremaref02_in.calls a0 829 836 false _ A5.out).mono ?_); rintro e w' ⟨rfl, ⟨nd, rfl⟩⟩; refine ⟨_, rfl, ?_⟩) | ((with_reducible refine gate_callee (f := 60) rfl ?_); refine goesL_ (some 9) rfl rfl Tryd.func60 (by kernel_rfl) rfl #[.int .i32 a0, .int .i32 838, .int .i32 838] rfl (by (try simp only [List.map_toArray, List.map_cons, List.map_nil]); first | done | rfl | (simp only [List.length_drop, List.length_take]; rfl)) ?_; (with_reducible refine (tremaref02_in.calls a0 838 838 false _ A7.out).mono ?_); rintro e w' ⟨rfl, ⟨nd, rfl⟩⟩; refine ⟨_, rfl, ?_⟩))
     (try simp only [Act.put, List.setIfInBounds_toArray, List.set_cons_zero, List.set_cons_succ])
     go_cut [3] (fun v3 wc => ∃ (kq : Nat) (x3_8 : Bool), v3 = .bool x3_8 ∧ Aside0 (tremaref02_Class.j0 kq a0 x3_8 = some r) ∧ Aside0 (kq ≤ k) ∧ Drawn0 w wc)
     case first =>
      have H := HC9.out
      clear HC9
      replace H := Option.bind_eq_some_iff.mp H
      obtain ⟨t106, A100, H⟩ := H
      replace H : (if t106 = true then (tremaref02_Class.j0 k a0 true) else ((tremaref02_in.f a0 848 850).bind fun t107 => (tremaref02_Class.j0 k a0 t107))) = some r := H
      have A10 := Aside0.mk A100
      clear A100
      by_cases c11 : t106 = true
      ·subst c11
       have H1 : (tremaref02_Class.j0 k a0 true) = some r := by rw [if_pos rfl] at H; exact H
       clear H
       have H := H1
       clear H1
       have H' := Aside0.mk H
       clear H
       go_wp2_with (first | ((with_reducible refine gate_callee (f := 60) rfl ?_); refine goesL_ (some 11) rfl rfl Tryd.func60 (by kernel_rfl) rfl #[.int .i32 a0, .int .i32 842, .int .i32 844] rfl (by (try simp only [List.map_toArray, List.map_cons, List.map_nil]); first | done | rfl | (simp only [List.length_drop, List.length_take]; rfl)) ?_; (with_reducible refine (tremaref02_in.calls a0 842 844 true _ A10.out).mono ?_); rintro e w' ⟨rfl, ⟨nd, rfl⟩⟩; refine ⟨_, rfl, ?_⟩))
       go_meet
       case rel => exact ⟨_, (true), (by first | rfl | (simp; done) | (simp [*]; done)), H', ⟨by first | omega | exact Nat.le_refl _⟩, by repeat (first | exact Drawn0.refl _ | apply Drawn0.step)⟩
      ·replace c11 := Bool.eq_false_iff.mpr c11
       subst c11
       have H1 : ((tremaref02_in.f a0 848 850).bind fun t107 => (tremaref02_Class.j0 k a0 t107)) = some r := by rw [if_neg (show ¬ (false = true) by decide)] at H; exact H
       clear H
       have H := H1
       clear H1
       replace H := Option.bind_eq_some_iff.mp H
       obtain ⟨t107, A120, H⟩ := H
       replace H : (tremaref02_Class.j0 k a0 t107) = some r := H
       have A12 := Aside0.mk A120
       clear A120
       have H' := Aside0.mk H
       clear H
       go_wp2_with (first | ((with_reducible refine gate_callee (f := 60) rfl ?_); refine goesL_ (some 11) rfl rfl Tryd.func60 (by kernel_rfl) rfl #[.int .i32 a0, .int .i32 842, .int .i32 844] rfl (by (try simp only [List.map_toArray, List.map_cons, List.map_nil]); first | done | rfl | (simp only [List.length_drop, List.length_take]; rfl)) ?_; (with_reducible refine (tremaref02_in.calls a0 842 844 false _ A10.out).mono ?_); rintro e w' ⟨rfl, ⟨nd, rfl⟩⟩; refine ⟨_, rfl, ?_⟩) | (go_at_call 60; (with_reducible refine (tremaref02_in.calls a0 848 850 t107 _ A12.out).mono ?_); rintro e w' ⟨rfl, ⟨nd, rfl⟩⟩))
       go_meet
       case rel => exact ⟨_, (t107), (by first | rfl | (simp; done) | (simp [*]; done)), H', ⟨by first | omega | exact Nat.le_refl _⟩, by repeat (first | exact Drawn0.refl _ | apply Drawn0.step)⟩
     case rest =>
      clear HC9
      try clear c1
      try clear c2
      try clear p2
      try clear c4
      try clear c6
      try clear c8
      try clear c11
      obtain ⟨kq, x3_8, rfl, HA, HJ8, ⟨mc8, rfl⟩⟩ := hcut
      cases kq with
      | zero => exact absurd HA.out (by simp [tremaref02_Class.j0])
      | succ kj8 =>
       have H := HA.out
       clear HA
       simp only [tremaref02_Class.j0] at H
       by_cases c13 : x3_8 = true
       ·subst c13
        have H1 : (tremaref02_Class.j1 kj8 a0 true) = some r := by rw [if_pos rfl] at H; exact H
        clear H
        have H := H1
        clear H1
        have H' := Aside0.mk H
        clear H
        go_wp2
        go_meet
        case rel => exact ⟨_, (true), (by first | rfl | (simp; done) | (simp [*]; done)), H', ⟨by have := HJ8.out; first | omega | exact Nat.le_refl _⟩, by repeat (first | exact Drawn0.refl _ | apply Drawn0.step)⟩
       ·replace c13 := Bool.eq_false_iff.mpr c13
        subst c13
        have H1 : ((tremaref02_in.f a0 855 855).bind fun t108 => (if t108 = true then (tremaref02_Class.j1 kj8 a0 t108) else ((tremaref02_in.f a0 8400 8401).bind fun t109 => (tremaref02_Class.j1 kj8 a0 t109)))) = some r := by rw [if_neg (show ¬ (false = true) by decide)] at H; exact H
        clear H
        have H := H1
        clear H1
        replace H := Option.bind_eq_some_iff.mp H
        obtain ⟨t108, A140, H⟩ := H
        replace H : (if t108 = true then (tremaref02_Class.j1 kj8 a0 t108) else ((tremaref02_in.f a0 8400 8401).bind fun t109 => (tremaref02_Class.j1 kj8 a0 t109))) = some r := H
        have A14 := Aside0.mk A140
        clear A140
        by_cases c15 : t108 = true
        ·subst c15
         have H1 : (tremaref02_Class.j1 kj8 a0 true) = some r := by rw [if_pos rfl] at H; exact H
         clear H
         have H := H1
         clear H1
         have H' := Aside0.mk H
         clear H
         go_wp2_with (first | ((with_reducible refine gate_callee (f := 60) rfl ?_); refine goesL_ (some 17) rfl rfl Tryd.func60 (by kernel_rfl) rfl #[.int .i32 a0, .int .i32 855, .int .i32 855] rfl (by (try simp only [List.map_toArray, List.map_cons, List.map_nil]); first | done | rfl | (simp only [List.length_drop, List.length_take]; rfl)) ?_; (with_reducible refine (tremaref02_in.calls a0 855 855 true _ A14.out).mono ?_); rintro e w' ⟨rfl, ⟨nd, rfl⟩⟩; refine ⟨_, rfl, ?_⟩))
         go_meet
         case rel => exact ⟨_, (true), (by first | rfl | (simp; done) | (simp [*]; done)), H', ⟨by have := HJ8.out; first | omega | exact Nat.le_refl _⟩, by repeat (first | exact Drawn0.refl _ | apply Drawn0.step)⟩
        ·replace c15 := Bool.eq_false_iff.mpr c15
         subst c15
         have H1 : ((tremaref02_in.f a0 8400 8401).bind fun t109 => (tremaref02_Class.j1 kj8 a0 t109)) = some r := by rw [if_neg (show ¬ (false = true) by decide)] at H; exact H
         clear H
         have H := H1
         clear H1
         replace H := Option.bind_eq_some_iff.mp H
         obtain ⟨t109, A160, H⟩ := H
         replace H : (tremaref02_Class.j1 kj8 a0 t109) = some r := H
         have A16 := Aside0.mk A160
         clear A160
         have H' := Aside0.mk H
         clear H
         go_wp2_with (first | ((with_reducible refine gate_callee (f := 60) rfl ?_); refine goesL_ (some 17) rfl rfl Tryd.func60 (by kernel_rfl) rfl #[.int .i32 a0, .int .i32 855, .int .i32 855] rfl (by (try simp only [List.map_toArray, List.map_cons, List.map_nil]); first | done | rfl | (simp only [List.length_drop, List.length_take]; rfl)) ?_; (with_reducible refine (tremaref02_in.calls a0 855 855 false _ A14.out).mono ?_); rintro e w' ⟨rfl, ⟨nd, rfl⟩⟩; refine ⟨_, rfl, ?_⟩) | ((with_reducible refine gate_callee (f := 60) rfl ?_); refine goesL_ (some 19) rfl rfl Tryd.func60 (by kernel_rfl) rfl #[.int .i32 a0, .int .i32 8400, .int .i32 8401] rfl (by (try simp only [List.map_toArray, List.map_cons, List.map_nil]); first | done | rfl | (simp only [List.length_drop, List.length_take]; rfl)) ?_; (with_reducible refine (tremaref02_in.calls a0 8400 8401 t109 _ A16.out).mono ?_); rintro e w' ⟨rfl, ⟨nd, rfl⟩⟩; refine ⟨_, rfl, ?_⟩))
         go_meet
         case rel => exact ⟨_, (t109), (by first | rfl | (simp; done) | (simp [*]; done)), H', ⟨by have := HJ8.out; first | omega | exact Nat.le_refl _⟩, by repeat (first | exact Drawn0.refl _ | apply Drawn0.step)⟩
 case rest =>
  clear HC3
  try clear c1
  try clear c2
  try clear p2
  try clear c4
  try clear c6
  try clear c8
  try clear c11
  try clear c13
  try clear c15
  try clear p2
  obtain ⟨kq, x3_2, rfl, HA, HJ2, ⟨mc2, rfl⟩⟩ := hcut
  cases kq with
  | zero => exact absurd HA.out (by simp [tremaref02_Class.j1])
  | succ kj2 =>
   have H := HA.out
   clear HA
   simp only [tremaref02_Class.j1] at H
   by_cases c17 : x3_2 = true
   ·subst c17
    have H1 : (some 230) = some r := by rw [if_pos rfl] at H; exact H
    clear H
    have H := H1
    clear H1
    obtain rfl := Option.some.inj H
    go_wp2
    go_ret
    exact ⟨by first | rfl | (simp; done) | (simp [*]; done), by repeat (first | exact Drawn0.refl _ | apply Drawn0.step)⟩
   ·replace c17 := Bool.eq_false_iff.mpr c17
    subst c17
    have H1 : ((tremaref02_in.f a0 789 789).bind fun t110 => (if t110 = true then (tremaref02_Class.j2 kj2 a0 t110) else ((tremaref02_in.f a0 794 794).bind fun t111 => (tremaref02_Class.j2 kj2 a0 t111)))) = some r := by rw [if_neg (show ¬ (false = true) by decide)] at H; exact H
    clear H
    have H := H1
    clear H1
    replace H := Option.bind_eq_some_iff.mp H
    obtain ⟨t110, A180, H⟩ := H
    replace H : (if t110 = true then (tremaref02_Class.j2 kj2 a0 t110) else ((tremaref02_in.f a0 794 794).bind fun t111 => (tremaref02_Class.j2 kj2 a0 t111))) = some r := H
    have A18 := Aside0.mk A180
    clear A180
    have HC19 := Aside0.mk H
    clear H
    go_upto_if 20 with (first | ((with_reducible refine gate_callee (f := 60) rfl ?_); refine goesL_ (some 22) rfl rfl Tryd.func60 (by kernel_rfl) rfl #[.int .i32 a0, .int .i32 789, .int .i32 789] rfl (by (try simp only [List.map_toArray, List.map_cons, List.map_nil]); first | done | rfl | (simp only [List.length_drop, List.length_take]; rfl)) ?_; (with_reducible refine (tremaref02_in.calls a0 789 789 t110 _ A18.out).mono ?_); rintro e w' ⟨rfl, ⟨nd, rfl⟩⟩; refine ⟨_, rfl, ?_⟩))
    (try simp only [Act.put, List.setIfInBounds_toArray, List.set_cons_zero, List.set_cons_succ])
    go_cut [20] (fun v20 wc => ∃ (kq : Nat) (x20_18 : Bool), v20 = .bool x20_18 ∧ Aside0 (tremaref02_Class.j2 kq a0 x20_18 = some r) ∧ Aside0 (kq ≤ kj2) ∧ Drawn0 w wc)
    case first =>
     have H := HC19.out
     clear HC19
     by_cases c20 : t110 = true
     ·subst c20
      have H1 : (tremaref02_Class.j2 kj2 a0 true) = some r := by rw [if_pos rfl] at H; exact H
      clear H
      have H := H1
      clear H1
      have H' := Aside0.mk H
      clear H
      go_wp2
      go_meet
      case rel => exact ⟨_, (true), (by first | rfl | (simp; done) | (simp [*]; done)), H', ⟨by have := HJ2.out; first | omega | exact Nat.le_refl _⟩, by repeat (first | exact Drawn0.refl _ | apply Drawn0.step)⟩
     ·replace c20 := Bool.eq_false_iff.mpr c20
      subst c20
      have H1 : ((tremaref02_in.f a0 794 794).bind fun t111 => (tremaref02_Class.j2 kj2 a0 t111)) = some r := by rw [if_neg (show ¬ (false = true) by decide)] at H; exact H
      clear H
      have H := H1
      clear H1
      replace H := Option.bind_eq_some_iff.mp H
      obtain ⟨t111, A210, H⟩ := H
      replace H : (tremaref02_Class.j2 kj2 a0 t111) = some r := H
      have A21 := Aside0.mk A210
      clear A210
      have H' := Aside0.mk H
      clear H
      go_wp2_with (first | ((with_reducible refine gate_callee (f := 60) rfl ?_); refine goesL_ (some 24) rfl rfl Tryd.func60 (by kernel_rfl) rfl #[.int .i32 a0, .int .i32 794, .int .i32 794] rfl (by (try simp only [List.map_toArray, List.map_cons, List.map_nil]); first | done | rfl | (simp only [List.length_drop, List.length_take]; rfl)) ?_; (with_reducible refine (tremaref02_in.calls a0 794 794 t111 _ A21.out).mono ?_); rintro e w' ⟨rfl, ⟨nd, rfl⟩⟩; refine ⟨_, rfl, ?_⟩))
      go_meet
      case rel => exact ⟨_, (t111), (by first | rfl | (simp; done) | (simp [*]; done)), H', ⟨by have := HJ2.out; first | omega | exact Nat.le_refl _⟩, by repeat (first | exact Drawn0.refl _ | apply Drawn0.step)⟩
    case rest =>
     clear HC19
     try clear c1
     try clear c2
     try clear p2
     try clear c4
     try clear c6
     try clear c8
     try clear c11
     try clear c13
     try clear c15
     try clear c17
     try clear c20
     try clear p2
     obtain ⟨kq, x20_18, rfl, HA, HJ18, ⟨mc18, rfl⟩⟩ := hcut
     cases kq with
     | zero => exact absurd HA.out (by simp [tremaref02_Class.j2])
     | succ kj18 =>
      have H := HA.out
      clear HA
      simp only [tremaref02_Class.j2] at H
      by_cases c22 : x20_18 = true
      ·subst c22
       have H1 : (some 232) = some r := by rw [if_pos rfl] at H; exact H
       clear H
       have H := H1
       clear H1
       obtain rfl := Option.some.inj H
       go_wp2
       go_ret
       exact ⟨by first | rfl | (simp; done) | (simp [*]; done), by repeat (first | exact Drawn0.refl _ | apply Drawn0.step)⟩
      ·replace c22 := Bool.eq_false_iff.mpr c22
       subst c22
       have H1 : ((tremaref02_in.f a0 790 793).bind fun t112 => (if t112 = true then (tremaref02_Class.j4 kj18 a0 t112) else ((tremaref02_in.f a0 796 800).bind fun t113 => (if t113 = true then (tremaref02_Class.j4 kj18 a0 t113) else ((tremaref02_in.f a0 803 806).bind fun t114 => (if t114 = true then (tremaref02_Class.j4 kj18 a0 t114) else ((tremaref02_in.f a0 809 819).bind fun t115 => (if t115 = true then (tremaref02_Class.j3 kj18 a0 true) else ((tremaref02_in.f a0 825 828).bind fun t116 => (tremaref02_Class.j3 kj18 a0 t116)))))))))) = some r := by rw [if_neg (show ¬ (false = true) by decide)] at H; exact H
       clear H
       have H := H1
       clear H1
       replace H := Option.bind_eq_some_iff.mp H
       obtain ⟨t112, A230, H⟩ := H
       replace H : (if t112 = true then (tremaref02_Class.j4 kj18 a0 t112) else ((tremaref02_in.f a0 796 800).bind fun t113 => (if t113 = true then (tremaref02_Class.j4 kj18 a0 t113) else ((tremaref02_in.f a0 803 806).bind fun t114 => (if t114 = true then (tremaref02_Class.j4 kj18 a0 t114) else ((tremaref02_in.f a0 809 819).bind fun t115 => (if t115 = true then (tremaref02_Class.j3 kj18 a0 true) else ((tremaref02_in.f a0 825 828).bind fun t116 => (tremaref02_Class.j3 kj18 a0 t116))))))))) = some r := H
       have A23 := Aside0.mk A230
       clear A230
       have HC24 := Aside0.mk H
       clear H
       go_upto_if 25 with (first | ((with_reducible refine gate_callee (f := 60) rfl ?_); refine goesL_ (some 27) rfl rfl Tryd.func60 (by kernel_rfl) rfl #[.int .i32 a0, .int .i32 790, .int .i32 793] rfl (by (try simp only [List.map_toArray, List.map_cons, List.map_nil]); first | done | rfl | (simp only [List.length_drop, List.length_take]; rfl)) ?_; (with_reducible refine (tremaref02_in.calls a0 790 793 t112 _ A23.out).mono ?_); rintro e w' ⟨rfl, ⟨nd, rfl⟩⟩; refine ⟨_, rfl, ?_⟩))
       (try simp only [Act.put, List.setIfInBounds_toArray, List.set_cons_zero, List.set_cons_succ])
       go_cut [25] (fun v25 wc => ∃ (kq : Nat) (x25_23 : Bool), v25 = .bool x25_23 ∧ Aside0 (tremaref02_Class.j4 kq a0 x25_23 = some r) ∧ Aside0 (kq ≤ kj18) ∧ Drawn0 w wc)
       case first =>
        have H := HC24.out
        clear HC24
        by_cases c25 : t112 = true
        ·subst c25
         have H1 : (tremaref02_Class.j4 kj18 a0 true) = some r := by rw [if_pos rfl] at H; exact H
         clear H
         have H := H1
         clear H1
         have H' := Aside0.mk H
         clear H
         go_wp2
         go_meet
         case rel => exact ⟨_, (true), (by first | rfl | (simp; done) | (simp [*]; done)), H', ⟨by have := HJ2.out; have := HJ18.out; first | omega | exact Nat.le_refl _⟩, by repeat (first | exact Drawn0.refl _ | apply Drawn0.step)⟩
        ·replace c25 := Bool.eq_false_iff.mpr c25
         subst c25
         have H1 : ((tremaref02_in.f a0 796 800).bind fun t113 => (if t113 = true then (tremaref02_Class.j4 kj18 a0 t113) else ((tremaref02_in.f a0 803 806).bind fun t114 => (if t114 = true then (tremaref02_Class.j4 kj18 a0 t114) else ((tremaref02_in.f a0 809 819).bind fun t115 => (if t115 = true then (tremaref02_Class.j3 kj18 a0 true) else ((tremaref02_in.f a0 825 828).bind fun t116 => (tremaref02_Class.j3 kj18 a0 t116)))))))) = some r := by rw [if_neg (show ¬ (false = true) by decide)] at H; exact H
         clear H
         have H := H1
         clear H1
         replace H := Option.bind_eq_some_iff.mp H
         obtain ⟨t113, A260, H⟩ := H
         replace H : (if t113 = true then (tremaref02_Class.j4 kj18 a0 t113) else ((tremaref02_in.f a0 803 806).bind fun t114 => (if t114 = true then (tremaref02_Class.j4 kj18 a0 t114) else ((tremaref02_in.f a0 809 819).bind fun t115 => (if t115 = true then (tremaref02_Class.j3 kj18 a0 true) else ((tremaref02_in.f a0 825 828).bind fun t116 => (tremaref02_Class.j3 kj18 a0 t116))))))) = some r := H
         have A26 := Aside0.mk A260
         clear A260
         by_cases c27 : t113 = true
         ·subst c27
          have H1 : (tremaref02_Class.j4 kj18 a0 true) = some r := by rw [if_pos rfl] at H; exact H
          clear H
          have H := H1
          clear H1
          have H' := Aside0.mk H
          clear H
          go_wp2_with (first | ((with_reducible refine gate_callee (f := 60) rfl ?_); refine goesL_ (some 29) rfl rfl Tryd.func60 (by kernel_rfl) rfl #[.int .i32 a0, .int .i32 796, .int .i32 800] rfl (by (try simp only [List.map_toArray, List.map_cons, List.map_nil]); first | done | rfl | (simp only [List.length_drop, List.length_take]; rfl)) ?_; (with_reducible refine (tremaref02_in.calls a0 796 800 true _ A26.out).mono ?_); rintro e w' ⟨rfl, ⟨nd, rfl⟩⟩; refine ⟨_, rfl, ?_⟩))
          go_meet
          case rel => exact ⟨_, (true), (by first | rfl | (simp; done) | (simp [*]; done)), H', ⟨by have := HJ2.out; have := HJ18.out; first | omega | exact Nat.le_refl _⟩, by repeat (first | exact Drawn0.refl _ | apply Drawn0.step)⟩
         ·replace c27 := Bool.eq_false_iff.mpr c27
          subst c27
          have H1 : ((tremaref02_in.f a0 803 806).bind fun t114 => (if t114 = true then (tremaref02_Class.j4 kj18 a0 t114) else ((tremaref02_in.f a0 809 819).bind fun t115 => (if t115 = true then (tremaref02_Class.j3 kj18 a0 true) else ((tremaref02_in.f a0 825 828).bind fun t116 => (tremaref02_Class.j3 kj18 a0 t116)))))) = some r := by rw [if_neg (show ¬ (false = true) by decide)] at H; exact H
          clear H
          have H := H1
          clear H1
          replace H := Option.bind_eq_some_iff.mp H
          obtain ⟨t114, A280, H⟩ := H
          replace H : (if t114 = true then (tremaref02_Class.j4 kj18 a0 t114) else ((tremaref02_in.f a0 809 819).bind fun t115 => (if t115 = true then (tremaref02_Class.j3 kj18 a0 true) else ((tremaref02_in.f a0 825 828).bind fun t116 => (tremaref02_Class.j3 kj18 a0 t116))))) = some r := H
          have A28 := Aside0.mk A280
          clear A280
          by_cases c29 : t114 = true
          ·subst c29
           have H1 : (tremaref02_Class.j4 kj18 a0 true) = some r := by rw [if_pos rfl] at H; exact H
           clear H
           have H := H1
           clear H1
           have H' := Aside0.mk H
           clear H
           go_wp2_with (first | ((with_reducible refine gate_callee (f := 60) rfl ?_); refine goesL_ (some 29) rfl rfl Tryd.func60 (by kernel_rfl) rfl #[.int .i32 a0, .int .i32 796, .int .i32 800] rfl (by (try simp only [List.map_toArray, List.map_cons, List.map_nil]); first | done | rfl | (simp only [List.length_drop, List.length_take]; rfl)) ?_; (with_reducible refine (tremaref02_in.calls a0 796 800 false _ A26.out).mono ?_); rintro e w' ⟨rfl, ⟨nd, rfl⟩⟩; refine ⟨_, rfl, ?_⟩) | ((with_reducible refine gate_callee (f := 60) rfl ?_); refine goesL_ (some 31) rfl rfl Tryd.func60 (by kernel_rfl) rfl #[.int .i32 a0, .int .i32 803, .int .i32 806] rfl (by (try simp only [List.map_toArray, List.map_cons, List.map_nil]); first | done | rfl | (simp only [List.length_drop, List.length_take]; rfl)) ?_; (with_reducible refine (tremaref02_in.calls a0 803 806 true _ A28.out).mono ?_); rintro e w' ⟨rfl, ⟨nd, rfl⟩⟩; refine ⟨_, rfl, ?_⟩))
           go_meet
           case rel => exact ⟨_, (true), (by first | rfl | (simp; done) | (simp [*]; done)), H', ⟨by have := HJ2.out; have := HJ18.out; first | omega | exact Nat.le_refl _⟩, by repeat (first | exact Drawn0.refl _ | apply Drawn0.step)⟩
          ·replace c29 := Bool.eq_false_iff.mpr c29
           subst c29
           have H1 : ((tremaref02_in.f a0 809 819).bind fun t115 => (if t115 = true then (tremaref02_Class.j3 kj18 a0 true) else ((tremaref02_in.f a0 825 828).bind fun t116 => (tremaref02_Class.j3 kj18 a0 t116)))) = some r := by rw [if_neg (show ¬ (false = true) by decide)] at H; exact H
           clear H
           have H := H1
           clear H1
           have HC30 := Aside0.mk H
           clear H
           go_upto_region 14 with (first | ((with_reducible refine gate_callee (f := 60) rfl ?_); refine goesL_ (some 29) rfl rfl Tryd.func60 (by kernel_rfl) rfl #[.int .i32 a0, .int .i32 796, .int .i32 800] rfl (by (try simp only [List.map_toArray, List.map_cons, List.map_nil]); first | done | rfl | (simp only [List.length_drop, List.length_take]; rfl)) ?_; (with_reducible refine (tremaref02_in.calls a0 796 800 false _ A26.out).mono ?_); rintro e w' ⟨rfl, ⟨nd, rfl⟩⟩; refine ⟨_, rfl, ?_⟩) | ((with_reducible refine gate_callee (f := 60) rfl ?_); refine goesL_ (some 31) rfl rfl Tryd.func60 (by kernel_rfl) rfl #[.int .i32 a0, .int .i32 803, .int .i32 806] rfl (by (try simp only [List.map_toArray, List.map_cons, List.map_nil]); first | done | rfl | (simp only [List.length_drop, List.length_take]; rfl)) ?_; (with_reducible refine (tremaref02_in.calls a0 803 806 false _ A28.out).mono ?_); rintro e w' ⟨rfl, ⟨nd, rfl⟩⟩; refine ⟨_, rfl, ?_⟩))
           (try simp only [Act.put, List.setIfInBounds_toArray, List.set_cons_zero, List.set_cons_succ])
           go_cut [25] (fun v25 wc => ∃ (kq : Nat) (x25_29 : Bool), v25 = .bool x25_29 ∧ Aside0 (tremaref02_Class.j3 kq a0 x25_29 = some r) ∧ Aside0 (kq ≤ kj18) ∧ Drawn0 w wc)
           case first =>
            have H := HC30.out
            clear HC30
            replace H := Option.bind_eq_some_iff.mp H
            obtain ⟨t115, A310, H⟩ := H
            replace H : (if t115 = true then (tremaref02_Class.j3 kj18 a0 true) else ((tremaref02_in.f a0 825 828).bind fun t116 => (tremaref02_Class.j3 kj18 a0 t116))) = some r := H
            have A31 := Aside0.mk A310
            clear A310
            by_cases c32 : t115 = true
            ·subst c32
             have H1 : (tremaref02_Class.j3 kj18 a0 true) = some r := by rw [if_pos rfl] at H; exact H
             clear H
             have H := H1
             clear H1
             have H' := Aside0.mk H
             clear H
             go_wp2_with (first | ((with_reducible refine gate_callee (f := 60) rfl ?_); refine goesL_ (some 33) rfl rfl Tryd.func60 (by kernel_rfl) rfl #[.int .i32 a0, .int .i32 809, .int .i32 819] rfl (by (try simp only [List.map_toArray, List.map_cons, List.map_nil]); first | done | rfl | (simp only [List.length_drop, List.length_take]; rfl)) ?_; (with_reducible refine (tremaref02_in.calls a0 809 819 true _ A31.out).mono ?_); rintro e w' ⟨rfl, ⟨nd, rfl⟩⟩; refine ⟨_, rfl, ?_⟩))
             go_meet
             case rel => exact ⟨_, (true), (by first | rfl | (simp; done) | (simp [*]; done)), H', ⟨by have := HJ2.out; have := HJ18.out; first | omega | exact Nat.le_refl _⟩, by repeat (first | exact Drawn0.refl _ | apply Drawn0.step)⟩
            ·replace c32 := Bool.eq_false_iff.mpr c32
             subst c32
             have H1 : ((tremaref02_in.f a0 825 828).bind fun t116 => (tremaref02_Class.j3 kj18 a0 t116)) = some r := by rw [if_neg (show ¬ (false = true) by decide)] at H; exact H
             clear H
             have H := H1
             clear H1
             replace H := Option.bind_eq_some_iff.mp H
             obtain ⟨t116, A330, H⟩ := H
             replace H : (tremaref02_Class.j3 kj18 a0 t116) = some r := H
             have A33 := Aside0.mk A330
             clear A330
             have H' := Aside0.mk H
             clear H
             go_wp2_with (first | ((with_reducible refine gate_callee (f := 60) rfl ?_); refine goesL_ (some 33) rfl rfl Tryd.func60 (by kernel_rfl) rfl #[.int .i32 a0, .int .i32 809, .int .i32 819] rfl (by (try simp only [List.map_toArray, List.map_cons, List.map_nil]); first | done | rfl | (simp only [List.length_drop, List.length_take]; rfl)) ?_; (with_reducible refine (tremaref02_in.calls a0 809 819 false _ A31.out).mono ?_); rintro e w' ⟨rfl, ⟨nd, rfl⟩⟩; refine ⟨_, rfl, ?_⟩) | (go_at_call 60; (with_reducible refine (tremaref02_in.calls a0 825 828 t116 _ A33.out).mono ?_); rintro e w' ⟨rfl, ⟨nd, rfl⟩⟩))
             go_meet
             case rel => exact ⟨_, (t116), (by first | rfl | (simp; done) | (simp [*]; done)), H', ⟨by have := HJ2.out; have := HJ18.out; first | omega | exact Nat.le_refl _⟩, by repeat (first | exact Drawn0.refl _ | apply Drawn0.step)⟩
           case rest =>
            clear HC30
            try clear c1
            try clear c2
            try clear p2
            try clear c3
            try clear c4
            try clear c6
            try clear c8
            try clear c11
            try clear c13
            try clear c15
            try clear c17
            try clear c18
            try clear c20
            try clear c22
            try clear c25
            try clear c27
            try clear c29
            try clear c32
            try clear p2
            obtain ⟨kq, x25_29, rfl, HA, HJ29, ⟨mc29, rfl⟩⟩ := hcut
            cases kq with
            | zero => exact absurd HA.out (by simp [tremaref02_Class.j3])
            | succ kj29 =>
             have H := HA.out
             clear HA
             simp only [tremaref02_Class.j3] at H
             by_cases c34 : x25_29 = true
             ·subst c34
              have H1 : (tremaref02_Class.j4 kj29 a0 true) = some r := by rw [if_pos rfl] at H; exact H
              clear H
              have H := H1
              clear H1
              have H' := Aside0.mk H
              clear H
              go_wp2
              go_meet
              case rel => exact ⟨_, (true), (by first | rfl | (simp; done) | (simp [*]; done)), H', ⟨by have := HJ2.out; have := HJ18.out; have := HJ29.out; first | omega | exact Nat.le_refl _⟩, by repeat (first | exact Drawn0.refl _ | apply Drawn0.step)⟩
             ·replace c34 := Bool.eq_false_iff.mpr c34
              subst c34
              have H1 : ((tremaref02_in.f a0 839 841).bind fun t117 => (if t117 = true then (tremaref02_Class.j4 kj29 a0 t117) else ((tremaref02_in.f a0 845 846).bind fun t118 => (if t118 = true then (tremaref02_Class.j4 kj29 a0 t118) else ((tremaref02_in.f a0 851 854).bind fun t119 => (tremaref02_Class.j4 kj29 a0 t119)))))) = some r := by rw [if_neg (show ¬ (false = true) by decide)] at H; exact H
              clear H
              have H := H1
              clear H1
              replace H := Option.bind_eq_some_iff.mp H
              obtain ⟨t117, A350, H⟩ := H
              replace H : (if t117 = true then (tremaref02_Class.j4 kj29 a0 t117) else ((tremaref02_in.f a0 845 846).bind fun t118 => (if t118 = true then (tremaref02_Class.j4 kj29 a0 t118) else ((tremaref02_in.f a0 851 854).bind fun t119 => (tremaref02_Class.j4 kj29 a0 t119))))) = some r := H
              have A35 := Aside0.mk A350
              clear A350
              by_cases c36 : t117 = true
              ·subst c36
               have H1 : (tremaref02_Class.j4 kj29 a0 true) = some r := by rw [if_pos rfl] at H; exact H
               clear H
               have H := H1
               clear H1
               have H' := Aside0.mk H
               clear H
               go_wp2_with (first | ((with_reducible refine gate_callee (f := 60) rfl ?_); refine goesL_ (some 39) rfl rfl Tryd.func60 (by kernel_rfl) rfl #[.int .i32 a0, .int .i32 839, .int .i32 841] rfl (by (try simp only [List.map_toArray, List.map_cons, List.map_nil]); first | done | rfl | (simp only [List.length_drop, List.length_take]; rfl)) ?_; (with_reducible refine (tremaref02_in.calls a0 839 841 true _ A35.out).mono ?_); rintro e w' ⟨rfl, ⟨nd, rfl⟩⟩; refine ⟨_, rfl, ?_⟩))
               go_meet
               case rel => exact ⟨_, (true), (by first | rfl | (simp; done) | (simp [*]; done)), H', ⟨by have := HJ2.out; have := HJ18.out; have := HJ29.out; first | omega | exact Nat.le_refl _⟩, by repeat (first | exact Drawn0.refl _ | apply Drawn0.step)⟩
              ·replace c36 := Bool.eq_false_iff.mpr c36
               subst c36
               have H1 : ((tremaref02_in.f a0 845 846).bind fun t118 => (if t118 = true then (tremaref02_Class.j4 kj29 a0 t118) else ((tremaref02_in.f a0 851 854).bind fun t119 => (tremaref02_Class.j4 kj29 a0 t119)))) = some r := by rw [if_neg (show ¬ (false = true) by decide)] at H; exact H
               clear H
               have H := H1
               clear H1
               replace H := Option.bind_eq_some_iff.mp H
               obtain ⟨t118, A370, H⟩ := H
               replace H : (if t118 = true then (tremaref02_Class.j4 kj29 a0 t118) else ((tremaref02_in.f a0 851 854).bind fun t119 => (tremaref02_Class.j4 kj29 a0 t119))) = some r := H
               have A37 := Aside0.mk A370
               clear A370
               by_cases c38 : t118 = true
               ·subst c38
                have H1 : (tremaref02_Class.j4 kj29 a0 true) = some r := by rw [if_pos rfl] at H; exact H
                clear H
                have H := H1
                clear H1
                have H' := Aside0.mk H
                clear H
                go_wp2_with (first | ((with_reducible refine gate_callee (f := 60) rfl ?_); refine goesL_ (some 39) rfl rfl Tryd.func60 (by kernel_rfl) rfl #[.int .i32 a0, .int .i32 839, .int .i32 841] rfl (by (try simp only [List.map_toArray, List.map_cons, List.map_nil]); first | done | rfl | (simp only [List.length_drop, List.length_take]; rfl)) ?_; (with_reducible refine (tremaref02_in.calls a0 839 841 false _ A35.out).mono ?_); rintro e w' ⟨rfl, ⟨nd, rfl⟩⟩; refine ⟨_, rfl, ?_⟩) | ((with_reducible refine gate_callee (f := 60) rfl ?_); refine goesL_ (some 41) rfl rfl Tryd.func60 (by kernel_rfl) rfl #[.int .i32 a0, .int .i32 845, .int .i32 846] rfl (by (try simp only [List.map_toArray, List.map_cons, List.map_nil]); first | done | rfl | (simp only [List.length_drop, List.length_take]; rfl)) ?_; (with_reducible refine (tremaref02_in.calls a0 845 846 true _ A37.out).mono ?_); rintro e w' ⟨rfl, ⟨nd, rfl⟩⟩; refine ⟨_, rfl, ?_⟩))
                go_meet
                case rel => exact ⟨_, (true), (by first | rfl | (simp; done) | (simp [*]; done)), H', ⟨by have := HJ2.out; have := HJ18.out; have := HJ29.out; first | omega | exact Nat.le_refl _⟩, by repeat (first | exact Drawn0.refl _ | apply Drawn0.step)⟩
               ·replace c38 := Bool.eq_false_iff.mpr c38
                subst c38
                have H1 : ((tremaref02_in.f a0 851 854).bind fun t119 => (tremaref02_Class.j4 kj29 a0 t119)) = some r := by rw [if_neg (show ¬ (false = true) by decide)] at H; exact H
                clear H
                have H := H1
                clear H1
                replace H := Option.bind_eq_some_iff.mp H
                obtain ⟨t119, A390, H⟩ := H
                replace H : (tremaref02_Class.j4 kj29 a0 t119) = some r := H
                have A39 := Aside0.mk A390
                clear A390
                have H' := Aside0.mk H
                clear H
                go_wp2_with (first | ((with_reducible refine gate_callee (f := 60) rfl ?_); refine goesL_ (some 39) rfl rfl Tryd.func60 (by kernel_rfl) rfl #[.int .i32 a0, .int .i32 839, .int .i32 841] rfl (by (try simp only [List.map_toArray, List.map_cons, List.map_nil]); first | done | rfl | (simp only [List.length_drop, List.length_take]; rfl)) ?_; (with_reducible refine (tremaref02_in.calls a0 839 841 false _ A35.out).mono ?_); rintro e w' ⟨rfl, ⟨nd, rfl⟩⟩; refine ⟨_, rfl, ?_⟩) | ((with_reducible refine gate_callee (f := 60) rfl ?_); refine goesL_ (some 41) rfl rfl Tryd.func60 (by kernel_rfl) rfl #[.int .i32 a0, .int .i32 845, .int .i32 846] rfl (by (try simp only [List.map_toArray, List.map_cons, List.map_nil]); first | done | rfl | (simp only [List.length_drop, List.length_take]; rfl)) ?_; (with_reducible refine (tremaref02_in.calls a0 845 846 false _ A37.out).mono ?_); rintro e w' ⟨rfl, ⟨nd, rfl⟩⟩; refine ⟨_, rfl, ?_⟩) | ((with_reducible refine gate_callee (f := 60) rfl ?_); refine goesL_ (some 43) rfl rfl Tryd.func60 (by kernel_rfl) rfl #[.int .i32 a0, .int .i32 851, .int .i32 854] rfl (by (try simp only [List.map_toArray, List.map_cons, List.map_nil]); first | done | rfl | (simp only [List.length_drop, List.length_take]; rfl)) ?_; (with_reducible refine (tremaref02_in.calls a0 851 854 t119 _ A39.out).mono ?_); rintro e w' ⟨rfl, ⟨nd, rfl⟩⟩; refine ⟨_, rfl, ?_⟩))
                go_meet
                case rel => exact ⟨_, (t119), (by first | rfl | (simp; done) | (simp [*]; done)), H', ⟨by have := HJ2.out; have := HJ18.out; have := HJ29.out; first | omega | exact Nat.le_refl _⟩, by repeat (first | exact Drawn0.refl _ | apply Drawn0.step)⟩
       case rest =>
        clear HC24
        try clear c1
        try clear c2
        try clear p2
        try clear c3
        try clear c4
        try clear c6
        try clear c8
        try clear c11
        try clear c13
        try clear c15
        try clear c17
        try clear c18
        try clear c20
        try clear c22
        try clear c25
        try clear c27
        try clear c29
        try clear c32
        try clear c34
        try clear c36
        try clear c38
        try clear p2
        obtain ⟨kq, x25_23, rfl, HA, HJ23, ⟨mc23, rfl⟩⟩ := hcut
        cases kq with
        | zero => exact absurd HA.out (by simp [tremaref02_Class.j4])
        | succ kj23 =>
         have H := HA.out
         clear HA
         simp only [tremaref02_Class.j4] at H
         by_cases c40 : x25_23 = true
         ·subst c40
          have H1 : (some 220) = some r := by rw [if_pos rfl] at H; exact H
          clear H
          have H := H1
          clear H1
          obtain rfl := Option.some.inj H
          go_wp2
          go_ret
          exact ⟨by first | rfl | (simp; done) | (simp [*]; done), by repeat (first | exact Drawn0.refl _ | apply Drawn0.step)⟩
         ·replace c40 := Bool.eq_false_iff.mpr c40
          subst c40
          have H1 : ((tremaref02_in.f a0 795 795).bind fun t120 => (if t120 = true then (some 216) else ((tremaref02_in.f a0 801 802).bind fun t121 => (if t121 = true then (tremaref02_Class.j5 kj23 a0 t121) else ((tremaref02_in.f a0 807 808).bind fun t122 => (tremaref02_Class.j5 kj23 a0 t122)))))) = some r := by rw [if_neg (show ¬ (false = true) by decide)] at H; exact H
          clear H
          have H := H1
          clear H1
          replace H := Option.bind_eq_some_iff.mp H
          obtain ⟨t120, A410, H⟩ := H
          replace H : (if t120 = true then (some 216) else ((tremaref02_in.f a0 801 802).bind fun t121 => (if t121 = true then (tremaref02_Class.j5 kj23 a0 t121) else ((tremaref02_in.f a0 807 808).bind fun t122 => (tremaref02_Class.j5 kj23 a0 t122))))) = some r := H
          have A41 := Aside0.mk A410
          clear A410
          by_cases c42 : t120 = true
          ·subst c42
           have H1 : (some 216) = some r := by rw [if_pos rfl] at H; exact H
           clear H
           have H := H1
           clear H1
           obtain rfl := Option.some.inj H
           go_wp2_with (first | ((with_reducible refine gate_callee (f := 60) rfl ?_); refine goesL_ (some 46) rfl rfl Tryd.func60 (by kernel_rfl) rfl #[.int .i32 a0, .int .i32 795, .int .i32 795] rfl (by (try simp only [List.map_toArray, List.map_cons, List.map_nil]); first | done | rfl | (simp only [List.length_drop, List.length_take]; rfl)) ?_; (with_reducible refine (tremaref02_in.calls a0 795 795 true _ A41.out).mono ?_); rintro e w' ⟨rfl, ⟨nd, rfl⟩⟩; refine ⟨_, rfl, ?_⟩))
           go_ret
           exact ⟨by first | rfl | (simp; done) | (simp [*]; done), by repeat (first | exact Drawn0.refl _ | apply Drawn0.step)⟩
          ·replace c42 := Bool.eq_false_iff.mpr c42
           subst c42
           have H1 : ((tremaref02_in.f a0 801 802).bind fun t121 => (if t121 = true then (tremaref02_Class.j5 kj23 a0 t121) else ((tremaref02_in.f a0 807 808).bind fun t122 => (tremaref02_Class.j5 kj23 a0 t122)))) = some r := by rw [if_neg (show ¬ (false = true) by decide)] at H; exact H
           clear H
           have H := H1
           clear H1
           replace H := Option.bind_eq_some_iff.mp H
           obtain ⟨t121, A430, H⟩ := H
           replace H : (if t121 = true then (tremaref02_Class.j5 kj23 a0 t121) else ((tremaref02_in.f a0 807 808).bind fun t122 => (tremaref02_Class.j5 kj23 a0 t122))) = some r := H
           have A43 := Aside0.mk A430
           clear A430
           have HC44 := Aside0.mk H
           clear H
           go_upto_if 47 with (first | ((with_reducible refine gate_callee (f := 60) rfl ?_); refine goesL_ (some 46) rfl rfl Tryd.func60 (by kernel_rfl) rfl #[.int .i32 a0, .int .i32 795, .int .i32 795] rfl (by (try simp only [List.map_toArray, List.map_cons, List.map_nil]); first | done | rfl | (simp only [List.length_drop, List.length_take]; rfl)) ?_; (with_reducible refine (tremaref02_in.calls a0 795 795 false _ A41.out).mono ?_); rintro e w' ⟨rfl, ⟨nd, rfl⟩⟩; refine ⟨_, rfl, ?_⟩) | ((with_reducible refine gate_callee (f := 60) rfl ?_); refine goesL_ (some 49) rfl rfl Tryd.func60 (by kernel_rfl) rfl #[.int .i32 a0, .int .i32 801, .int .i32 802] rfl (by (try simp only [List.map_toArray, List.map_cons, List.map_nil]); first | done | rfl | (simp only [List.length_drop, List.length_take]; rfl)) ?_; (with_reducible refine (tremaref02_in.calls a0 801 802 t121 _ A43.out).mono ?_); rintro e w' ⟨rfl, ⟨nd, rfl⟩⟩; refine ⟨_, rfl, ?_⟩))
           (try simp only [Act.put, List.setIfInBounds_toArray, List.set_cons_zero, List.set_cons_succ])
           go_cut [47] (fun v47 wc => ∃ (kq : Nat) (x47_43 : Bool), v47 = .bool x47_43 ∧ Aside0 (tremaref02_Class.j5 kq a0 x47_43 = some r) ∧ Aside0 (kq ≤ kj23) ∧ Drawn0 w wc)
           case first =>
            have H := HC44.out
            clear HC44
            by_cases c45 : t121 = true
            ·subst c45
             have H1 : (tremaref02_Class.j5 kj23 a0 true) = some r := by rw [if_pos rfl] at H; exact H
             clear H
             have H := H1
             clear H1
             have H' := Aside0.mk H
             clear H
             go_wp2
             go_meet
             case rel => exact ⟨_, (true), (by first | rfl | (simp; done) | (simp [*]; done)), H', ⟨by have := HJ2.out; have := HJ18.out; have := HJ23.out; first | omega | exact Nat.le_refl _⟩, by repeat (first | exact Drawn0.refl _ | apply Drawn0.step)⟩
            ·replace c45 := Bool.eq_false_iff.mpr c45
             subst c45
             have H1 : ((tremaref02_in.f a0 807 808).bind fun t122 => (tremaref02_Class.j5 kj23 a0 t122)) = some r := by rw [if_neg (show ¬ (false = true) by decide)] at H; exact H
             clear H
             have H := H1
             clear H1
             replace H := Option.bind_eq_some_iff.mp H
             obtain ⟨t122, A460, H⟩ := H
             replace H : (tremaref02_Class.j5 kj23 a0 t122) = some r := H
             have A46 := Aside0.mk A460
             clear A460
             have H' := Aside0.mk H
             clear H
             go_wp2_with (first | ((with_reducible refine gate_callee (f := 60) rfl ?_); refine goesL_ (some 51) rfl rfl Tryd.func60 (by kernel_rfl) rfl #[.int .i32 a0, .int .i32 807, .int .i32 808] rfl (by (try simp only [List.map_toArray, List.map_cons, List.map_nil]); first | done | rfl | (simp only [List.length_drop, List.length_take]; rfl)) ?_; (with_reducible refine (tremaref02_in.calls a0 807 808 t122 _ A46.out).mono ?_); rintro e w' ⟨rfl, ⟨nd, rfl⟩⟩; refine ⟨_, rfl, ?_⟩))
             go_meet
             case rel => exact ⟨_, (t122), (by first | rfl | (simp; done) | (simp [*]; done)), H', ⟨by have := HJ2.out; have := HJ18.out; have := HJ23.out; first | omega | exact Nat.le_refl _⟩, by repeat (first | exact Drawn0.refl _ | apply Drawn0.step)⟩
           case rest =>
            clear HC44
            try clear c1
            try clear c2
            try clear p2
            try clear c3
            try clear c4
            try clear c6
            try clear c8
            try clear c11
            try clear c13
            try clear c15
            try clear c17
            try clear c18
            try clear c20
            try clear c22
            try clear c23
            try clear c25
            try clear c27
            try clear c29
            try clear c32
            try clear c34
            try clear c36
            try clear c38
            try clear c40
            try clear c42
            try clear c45
            try clear p2
            obtain ⟨kq, x47_43, rfl, HA, HJ43, ⟨mc43, rfl⟩⟩ := hcut
            cases kq with
            | zero => exact absurd HA.out (by simp [tremaref02_Class.j5])
            | succ kj43 =>
             have H := HA.out
             clear HA
             simp only [tremaref02_Class.j5] at H
             by_cases c47 : x47_43 = true
             ·subst c47
              have H1 : (some 202) = some r := by rw [if_pos rfl] at H; exact H
              clear H
              have H := H1
              clear H1
              obtain rfl := Option.some.inj H
              go_wp2
              go_ret
              exact ⟨by first | rfl | (simp; done) | (simp [*]; done), by repeat (first | exact Drawn0.refl _ | apply Drawn0.step)⟩
             ·replace c47 := Bool.eq_false_iff.mpr c47
              subst c47
              have H1 : ((tremaref02_in.f a0 820 824).bind fun t123 => (if t123 = true then (some 1) else ((tremaref02_in.f a0 837 837).bind fun t124 => (if t124 = true then (some 240) else ((tremaref02_in.f a0 12441 12442).bind fun t125 => (if t125 = true then (some 8) else (some 0))))))) = some r := by rw [if_neg (show ¬ (false = true) by decide)] at H; exact H
              clear H
              have H := H1
              clear H1
              replace H := Option.bind_eq_some_iff.mp H
              obtain ⟨t123, A480, H⟩ := H
              replace H : (if t123 = true then (some 1) else ((tremaref02_in.f a0 837 837).bind fun t124 => (if t124 = true then (some 240) else ((tremaref02_in.f a0 12441 12442).bind fun t125 => (if t125 = true then (some 8) else (some 0)))))) = some r := H
              have A48 := Aside0.mk A480
              clear A480
              by_cases c49 : t123 = true
              ·subst c49
               have H1 : (some 1) = some r := by rw [if_pos rfl] at H; exact H
               clear H
               have H := H1
               clear H1
               obtain rfl := Option.some.inj H
               go_wp2_with (first | ((with_reducible refine gate_callee (f := 60) rfl ?_); refine goesL_ (some 54) rfl rfl Tryd.func60 (by kernel_rfl) rfl #[.int .i32 a0, .int .i32 820, .int .i32 824] rfl (by (try simp only [List.map_toArray, List.map_cons, List.map_nil]); first | done | rfl | (simp only [List.length_drop, List.length_take]; rfl)) ?_; (with_reducible refine (tremaref02_in.calls a0 820 824 true _ A48.out).mono ?_); rintro e w' ⟨rfl, ⟨nd, rfl⟩⟩; refine ⟨_, rfl, ?_⟩))
               go_ret
               exact ⟨by first | rfl | (simp; done) | (simp [*]; done), by repeat (first | exact Drawn0.refl _ | apply Drawn0.step)⟩
              ·replace c49 := Bool.eq_false_iff.mpr c49
               subst c49
               have H1 : ((tremaref02_in.f a0 837 837).bind fun t124 => (if t124 = true then (some 240) else ((tremaref02_in.f a0 12441 12442).bind fun t125 => (if t125 = true then (some 8) else (some 0))))) = some r := by rw [if_neg (show ¬ (false = true) by decide)] at H; exact H
               clear H
               have H := H1
               clear H1
               replace H := Option.bind_eq_some_iff.mp H
               obtain ⟨t124, A500, H⟩ := H
               replace H : (if t124 = true then (some 240) else ((tremaref02_in.f a0 12441 12442).bind fun t125 => (if t125 = true then (some 8) else (some 0)))) = some r := H
               have A50 := Aside0.mk A500
               clear A500
               by_cases c51 : t124 = true
               ·subst c51
                have H1 : (some 240) = some r := by rw [if_pos rfl] at H; exact H
                clear H
                have H := H1
                clear H1
                obtain rfl := Option.some.inj H
                go_wp2_with (first | ((with_reducible refine gate_callee (f := 60) rfl ?_); refine goesL_ (some 54) rfl rfl Tryd.func60 (by kernel_rfl) rfl #[.int .i32 a0, .int .i32 820, .int .i32 824] rfl (by (try simp only [List.map_toArray, List.map_cons, List.map_nil]); first | done | rfl | (simp only [List.length_drop, List.length_take]; rfl)) ?_; (with_reducible refine (tremaref02_in.calls a0 820 824 false _ A48.out).mono ?_); rintro e w' ⟨rfl, ⟨nd, rfl⟩⟩; refine ⟨_, rfl, ?_⟩) | ((with_reducible refine gate_callee (f := 60) rfl ?_); refine goesL_ (some 57) rfl rfl Tryd.func60 (by kernel_rfl) rfl #[.int .i32 a0, .int .i32 837, .int .i32 837] rfl (by (try simp only [List.map_toArray, List.map_cons, List.map_nil]); first | done | rfl | (simp only [List.length_drop, List.length_take]; rfl)) ?_; (with_reducible refine (tremaref02_in.calls a0 837 837 true _ A50.out).mono ?_); rintro e w' ⟨rfl, ⟨nd, rfl⟩⟩; refine ⟨_, rfl, ?_⟩))
                go_ret
                exact ⟨by first | rfl | (simp; done) | (simp [*]; done), by repeat (first | exact Drawn0.refl _ | apply Drawn0.step)⟩
               ·replace c51 := Bool.eq_false_iff.mpr c51
                subst c51
                have H1 : ((tremaref02_in.f a0 12441 12442).bind fun t125 => (if t125 = true then (some 8) else (some 0))) = some r := by rw [if_neg (show ¬ (false = true) by decide)] at H; exact H
                clear H
                have H := H1
                clear H1
                replace H := Option.bind_eq_some_iff.mp H
                obtain ⟨t125, A520, H⟩ := H
                replace H : (if t125 = true then (some 8) else (some 0)) = some r := H
                have A52 := Aside0.mk A520
                clear A520
                by_cases c53 : t125 = true
                ·subst c53
                 have H1 : (some 8) = some r := by rw [if_pos rfl] at H; exact H
                 clear H
                 have H := H1
                 clear H1
                 obtain rfl := Option.some.inj H
                 go_wp2_with (first | ((with_reducible refine gate_callee (f := 60) rfl ?_); refine goesL_ (some 54) rfl rfl Tryd.func60 (by kernel_rfl) rfl #[.int .i32 a0, .int .i32 820, .int .i32 824] rfl (by (try simp only [List.map_toArray, List.map_cons, List.map_nil]); first | done | rfl | (simp only [List.length_drop, List.length_take]; rfl)) ?_; (with_reducible refine (tremaref02_in.calls a0 820 824 false _ A48.out).mono ?_); rintro e w' ⟨rfl, ⟨nd, rfl⟩⟩; refine ⟨_, rfl, ?_⟩) | ((with_reducible refine gate_callee (f := 60) rfl ?_); refine goesL_ (some 57) rfl rfl Tryd.func60 (by kernel_rfl) rfl #[.int .i32 a0, .int .i32 837, .int .i32 837] rfl (by (try simp only [List.map_toArray, List.map_cons, List.map_nil]); first | done | rfl | (simp only [List.length_drop, List.length_take]; rfl)) ?_; (with_reducible refine (tremaref02_in.calls a0 837 837 false _ A50.out).mono ?_); rintro e w' ⟨rfl, ⟨nd, rfl⟩⟩; refine ⟨_, rfl, ?_⟩) | ((with_reducible refine gate_callee (f := 60) rfl ?_); refine goesL_ (some 60) rfl rfl Tryd.func60 (by kernel_rfl) rfl #[.int .i32 a0, .int .i32 12441, .int .i32 12442] rfl (by (try simp only [List.map_toArray, List.map_cons, List.map_nil]); first | done | rfl | (simp only [List.length_drop, List.length_take]; rfl)) ?_; (with_reducible refine (tremaref02_in.calls a0 12441 12442 true _ A52.out).mono ?_); rintro e w' ⟨rfl, ⟨nd, rfl⟩⟩; refine ⟨_, rfl, ?_⟩))
                 go_ret
                 exact ⟨by first | rfl | (simp; done) | (simp [*]; done), by repeat (first | exact Drawn0.refl _ | apply Drawn0.step)⟩
                ·replace c53 := Bool.eq_false_iff.mpr c53
                 subst c53
                 have H1 : (some 0) = some r := by rw [if_neg (show ¬ (false = true) by decide)] at H; exact H
                 clear H
                 have H := H1
                 clear H1
                 obtain rfl := Option.some.inj H
                 go_wp2_with (first | ((with_reducible refine gate_callee (f := 60) rfl ?_); refine goesL_ (some 54) rfl rfl Tryd.func60 (by kernel_rfl) rfl #[.int .i32 a0, .int .i32 820, .int .i32 824] rfl (by (try simp only [List.map_toArray, List.map_cons, List.map_nil]); first | done | rfl | (simp only [List.length_drop, List.length_take]; rfl)) ?_; (with_reducible refine (tremaref02_in.calls a0 820 824 false _ A48.out).mono ?_); rintro e w' ⟨rfl, ⟨nd, rfl⟩⟩; refine ⟨_, rfl, ?_⟩) | ((with_reducible refine gate_callee (f := 60) rfl ?_); refine goesL_ (some 57) rfl rfl Tryd.func60 (by kernel_rfl) rfl #[.int .i32 a0, .int .i32 837, .int .i32 837] rfl (by (try simp only [List.map_toArray, List.map_cons, List.map_nil]); first | done | rfl | (simp only [List.length_drop, List.length_take]; rfl)) ?_; (with_reducible refine (tremaref02_in.calls a0 837 837 false _ A50.out).mono ?_); rintro e w' ⟨rfl, ⟨nd, rfl⟩⟩; refine ⟨_, rfl, ?_⟩) | ((with_reducible refine gate_callee (f := 60) rfl ?_); refine goesL_ (some 60) rfl rfl Tryd.func60 (by kernel_rfl) rfl #[.int .i32 a0, .int .i32 12441, .int .i32 12442] rfl (by (try simp only [List.map_toArray, List.map_cons, List.map_nil]); first | done | rfl | (simp only [List.length_drop, List.length_take]; rfl)) ?_; (with_reducible refine (tremaref02_in.calls a0 12441 12442 false _ A52.out).mono ?_); rintro e w' ⟨rfl, ⟨nd, rfl⟩⟩; refine ⟨_, rfl, ?_⟩))
                 go_ret
                 exact ⟨by first | rfl | (simp; done) | (simp [*]; done), by repeat (first | exact Drawn0.refl _ | apply Drawn0.step)⟩
end Go.Proofs.YtiggjbclbdikmaaDoor.X
namespace Go.Proofs.YtiggjbclbdikmaaDoor.X
open Go.RowKit Go.Proofs.YtiggjbclbdikmaaDoorW.PrintWords Go.Proofs.YtiggjbclbdikmaaDoorW.PrintLast Go.Proofs.YtiggjbclbdikmaaDoorW.PrintMore
attribute [local go_sem] max2_int min2_int max_two min_two max_three min_three max_four min_four   
set_option linter.unusedVariables false
set_option linter.unusedSimpArgs false
def tremaref02_Trailing.f (a0 : Int) : Option (Bool) := (tremaref02_in.f a0 4449 4469).bind fun t354 => (if t354 = true then (some true) else ((tremaref02_in.f a0 4520 4546).bind fun t355 => (some t355)))
set_option maxHeartbeats 8000000 in
set_option maxRecDepth 100000 in
theorem tremaref02_Trailing.calls (a0 : Int) (r : Bool) (w : World) (h : tremaref02_Trailing.f a0 = some r) :
  Calls Tryd.prog 63 #[.int .i32 a0] w fun e w' => e = .returned (.bool r) ∧ Drawn0 w w' := by
 have H : ((tremaref02_in.f a0 4449 4469).bind fun t354 => (if t354 = true then (some true) else ((tremaref02_in.f a0 4520 4546).bind fun t355 => (some t355)))) = some r := h
 clear h
 replace H := Option.bind_eq_some_iff.mp H
 obtain ⟨t354, A20, H⟩ := H
 replace H : (if t354 = true then (some true) else ((tremaref02_in.f a0 4520 4546).bind fun t355 => (some t355))) = some r := H
 have A2 := Aside0.mk A20
 clear A20
 by_cases c3 : t354 = true
 ·subst c3
  have H1 : (some true) = some r := by rw [if_pos rfl] at H; exact H
  clear H
  have H := H1
  clear H1
  obtain rfl := Option.some.inj H
  go_enter Tryd.func63, Tryd.ntmps63
  go_wp2_with (first | ((with_reducible refine gate_callee (f := 60) rfl ?_); refine goesL_ (some 4) rfl rfl Tryd.func60 (by kernel_rfl) rfl #[.int .i32 a0, .int .i32 4449, .int .i32 4469] rfl (by (try simp only [List.map_toArray, List.map_cons, List.map_nil]); first | done | rfl | (simp only [List.length_drop, List.length_take]; rfl)) ?_; (with_reducible refine (tremaref02_in.calls a0 4449 4469 true _ A2.out).mono ?_); rintro e w' ⟨rfl, ⟨nd, rfl⟩⟩; refine ⟨_, rfl, ?_⟩))
  go_ret
  exact ⟨by first | rfl | (simp; done) | (simp [*]; done), by repeat (first | exact Drawn0.refl _ | apply Drawn0.step)⟩
 ·replace c3 := Bool.eq_false_iff.mpr c3
  subst c3
  have H1 : ((tremaref02_in.f a0 4520 4546).bind fun t355 => (some t355)) = some r := by rw [if_neg (show ¬ (false = true) by decide)] at H; exact H
  clear H
  have H := H1
  clear H1
  replace H := Option.bind_eq_some_iff.mp H
  obtain ⟨t355, A40, H⟩ := H
  replace H : (some t355) = some r := H
  have A4 := Aside0.mk A40
  clear A40
  obtain rfl := Option.some.inj H
  go_enter Tryd.func63, Tryd.ntmps63
  go_wp2_with (first | ((with_reducible refine gate_callee (f := 60) rfl ?_); refine goesL_ (some 4) rfl rfl Tryd.func60 (by kernel_rfl) rfl #[.int .i32 a0, .int .i32 4449, .int .i32 4469] rfl (by (try simp only [List.map_toArray, List.map_cons, List.map_nil]); first | done | rfl | (simp only [List.length_drop, List.length_take]; rfl)) ?_; (with_reducible refine (tremaref02_in.calls a0 4449 4469 false _ A2.out).mono ?_); rintro e w' ⟨rfl, ⟨nd, rfl⟩⟩; refine ⟨_, rfl, ?_⟩) | (go_at_call 60; (with_reducible refine (tremaref02_in.calls a0 4520 4546 t355 _ A4.out).mono ?_); rintro e w' ⟨rfl, ⟨nd, rfl⟩⟩))
  go_ret
  exact ⟨by first | rfl | (simp; done) | (simp [*]; done), by repeat (first | exact Drawn0.refl _ | apply Drawn0.step)⟩
end Go.Proofs.YtiggjbclbdikmaaDoor.X
namespace Go.Proofs.YtiggjbclbdikmaaDoor.Vr
set_option linter.unusedVariables false
set_option linter.unusedSimpArgs false
open Go.RowKit Go.Proofs.YtiggjbclbdikmaaDoorW.PrintWords Go.Proofs.YtiggjbclbdikmaaDoor.Ev0 Go.Proofs.YtiggjbclbdikmaaDoor.X Go.Proofs.YtiggjbclbdikmaaDoor.Va Go.Proofs.YtiggjbclbdikmaaDoor.Vc Go.Proofs.YtiggjbclbdikmaaDoor.Vd Go.Proofs.YtiggjbclbdikmaaDoor.Ve Go.Proofs.YtiggjbclbdikmaaDoor.Vp0
theorem rep0 (m r : Int) : ∀ B : List Int, (∀ b ∈ B, m < b) → ∃ x, x ∈ m :: B ∧ (∀ b ∈ B, (b ≤ r ↔ b ≤ x)) ∧ (x = m ∨ x ≤ r)
  | [], _ => ⟨m, List.mem_cons_self .., by simp, .inl rfl⟩
  | b :: B, h => by
    obtain ⟨x, h1, h2, h3⟩ := rep0 m r B (fun c hc => h c (List.mem_cons_of_mem _ hc))
    have hb := h b (List.mem_cons_self ..)
    by_cases c1 : b ≤ r
    · by_cases c2 : x < b
      · refine ⟨b, by simp, fun c hc => ?_, .inr c1⟩
        rcases List.mem_cons.1 hc with rfl | hc
        · exact ⟨fun _ => Int.le_refl _, fun _ => c1⟩
        · have := h2 c hc
          omega
      · refine ⟨x, ?_, fun c hc => ?_, h3⟩
        · rcases List.mem_cons.1 h1 with rfl | h1 <;> simp [*]
        · rcases List.mem_cons.1 hc with rfl | hc
          · omega
          · exact h2 c hc
    · refine ⟨x, ?_, fun c hc => ?_, h3⟩
      · rcases List.mem_cons.1 h1 with rfl | h1 <;> simp [*]
      · rcases List.mem_cons.1 hc with rfl | hc
        · omega
        · exact h2 c hc
theorem rep (B : List Int) (r : Int) (h : ∀ b ∈ B, -1 < b) : ∃ x, x ∈ -1 :: B ∧ ∀ b ∈ B, (b ≤ r ↔ b ≤ x) := by
  obtain ⟨x, h1, h2, -⟩ := rep0 (-1) r B h
  exact ⟨x, h1, h2⟩
theorem in_of {r x lo hi : Int} (h1 : lo ≤ r ↔ lo ≤ x) (h2 : hi + 1 ≤ r ↔ hi + 1 ≤ x) : tremaref02_in.f r lo hi = tremaref02_in.f x lo hi := by
  unfold tremaref02_in.f
  by_cases c : lo ≤ r
  · rw [if_pos c, if_pos (h1.1 c)]
    congr 1
    rw [decide_eq_decide]
    omega
  · rw [if_neg c, if_neg (fun h => c (h1.2 h))]
def clsB : List Int := [768, 789, 790, 794, 795, 796, 801, 803, 807, 809, 820, 825, 829, 837, 838, 839, 842, 845, 847, 848, 851, 855, 856, 8400, 8402, 12441, 12443]
theorem clsF_of {r x : Int} (hx : ∀ b ∈ clsB, (b ≤ r ↔ b ≤ x)) : ∀ l : List (Int × Int × Int), (∀ p ∈ l, p.1 ∈ clsB ∧ p.2.1 + 1 ∈ clsB) → clsF r l = clsF x l
  | [], _ => rfl
  | p :: t, h => by
    have h1 := h p (List.mem_cons_self ..)
    have a1 := hx _ h1.1
    have a2 := hx _ h1.2
    rw [clsF, clsF, clsF_of hx t (fun q hq => h q (List.mem_cons_of_mem _ hq))]
    by_cases c : p.1 ≤ r ∧ r ≤ p.2.1
    · rw [if_pos c, if_pos (by omega)]
    · rw [if_neg c, if_neg (by omega)]
theorem clsB_at : ∀ x ∈ -1 :: clsB, tremaref02_Class.f 30 x = some (cls x) := by decide +kernel
theorem refcls (r : Int) : tremaref02_Class.f 30 r = some (cls r) := by
  obtain ⟨x, hx1, hx⟩ := rep clsB r (by decide)
  have hc : cls r = cls x := clsF_of hx clsT (by decide)
  have e0 := in_of (lo := 789) (hi := 789) (hx _ (by decide : (789 : Int) ∈ clsB)) (hx _ (by decide : (790 : Int) ∈ clsB))
  have e1 := in_of (lo := 794) (hi := 794) (hx _ (by decide : (794 : Int) ∈ clsB)) (hx _ (by decide : (795 : Int) ∈ clsB))
  have e2 := in_of (lo := 790) (hi := 793) (hx _ (by decide : (790 : Int) ∈ clsB)) (hx _ (by decide : (794 : Int) ∈ clsB))
  have e3 := in_of (lo := 796) (hi := 800) (hx _ (by decide : (796 : Int) ∈ clsB)) (hx _ (by decide : (801 : Int) ∈ clsB))
  have e4 := in_of (lo := 803) (hi := 806) (hx _ (by decide : (803 : Int) ∈ clsB)) (hx _ (by decide : (807 : Int) ∈ clsB))
  have e5 := in_of (lo := 809) (hi := 819) (hx _ (by decide : (809 : Int) ∈ clsB)) (hx _ (by decide : (820 : Int) ∈ clsB))
  have e6 := in_of (lo := 825) (hi := 828) (hx _ (by decide : (825 : Int) ∈ clsB)) (hx _ (by decide : (829 : Int) ∈ clsB))
  have e7 := in_of (lo := 795) (hi := 795) (hx _ (by decide : (795 : Int) ∈ clsB)) (hx _ (by decide : (796 : Int) ∈ clsB))
  have e8 := in_of (lo := 801) (hi := 802) (hx _ (by decide : (801 : Int) ∈ clsB)) (hx _ (by decide : (803 : Int) ∈ clsB))
  have e9 := in_of (lo := 807) (hi := 808) (hx _ (by decide : (807 : Int) ∈ clsB)) (hx _ (by decide : (809 : Int) ∈ clsB))
  have e10 := in_of (lo := 820) (hi := 824) (hx _ (by decide : (820 : Int) ∈ clsB)) (hx _ (by decide : (825 : Int) ∈ clsB))
  have e11 := in_of (lo := 837) (hi := 837) (hx _ (by decide : (837 : Int) ∈ clsB)) (hx _ (by decide : (838 : Int) ∈ clsB))
  have e12 := in_of (lo := 12441) (hi := 12442) (hx _ (by decide : (12441 : Int) ∈ clsB)) (hx _ (by decide : (12443 : Int) ∈ clsB))
  have e13 := in_of (lo := 839) (hi := 841) (hx _ (by decide : (839 : Int) ∈ clsB)) (hx _ (by decide : (842 : Int) ∈ clsB))
  have e14 := in_of (lo := 845) (hi := 846) (hx _ (by decide : (845 : Int) ∈ clsB)) (hx _ (by decide : (847 : Int) ∈ clsB))
  have e15 := in_of (lo := 851) (hi := 854) (hx _ (by decide : (851 : Int) ∈ clsB)) (hx _ (by decide : (855 : Int) ∈ clsB))
  have e16 := in_of (lo := 855) (hi := 855) (hx _ (by decide : (855 : Int) ∈ clsB)) (hx _ (by decide : (856 : Int) ∈ clsB))
  have e17 := in_of (lo := 8400) (hi := 8401) (hx _ (by decide : (8400 : Int) ∈ clsB)) (hx _ (by decide : (8402 : Int) ∈ clsB))
  have e18 := in_of (lo := 768) (hi := 788) (hx _ (by decide : (768 : Int) ∈ clsB)) (hx _ (by decide : (789 : Int) ∈ clsB))
  have e19 := in_of (lo := 829) (hi := 836) (hx _ (by decide : (829 : Int) ∈ clsB)) (hx _ (by decide : (837 : Int) ∈ clsB))
  have e20 := in_of (lo := 838) (hi := 838) (hx _ (by decide : (838 : Int) ∈ clsB)) (hx _ (by decide : (839 : Int) ∈ clsB))
  have e21 := in_of (lo := 842) (hi := 844) (hx _ (by decide : (842 : Int) ∈ clsB)) (hx _ (by decide : (845 : Int) ∈ clsB))
  have e22 := in_of (lo := 848) (hi := 850) (hx _ (by decide : (848 : Int) ∈ clsB)) (hx _ (by decide : (851 : Int) ∈ clsB))
  rw [hc, ← clsB_at x hx1]
  simp only [tremaref02_Class.f, tremaref02_Class.j0, tremaref02_Class.j1, tremaref02_Class.j2, tremaref02_Class.j3, tremaref02_Class.j4, tremaref02_Class.j5, e0, e1, e2, e3, e4, e5, e6, e7, e8, e9, e10, e11, e12, e13, e14, e15, e16, e17, e18, e19, e20, e21, e22]
theorem clsEv (r : Int) : Ev (fun k => tremaref02_Class.f k r) (cls r) := Ev.of (tremaref02_Class.mono r) (refcls r)
end Go.Proofs.YtiggjbclbdikmaaDoor.Vr
namespace Go.Proofs.YtiggjbclbdikmaaDoor.X
open Go.RowKit Go.Proofs.YtiggjbclbdikmaaDoorW.PrintWords Go.Proofs.YtiggjbclbdikmaaDoorW.PrintLast Go.Proofs.YtiggjbclbdikmaaDoorW.PrintMore
attribute [local go_sem] max2_int min2_int max_two min_two max_three min_three max_four min_four   
set_option linter.unusedVariables false
set_option linter.unusedSimpArgs false
def tremaref02_few.f (a0 : Int) : Option (Int × Int × Int) := if a0 = 469 then (some (220, 772, 2)) else (if a0 = 470 then (some (252, 772, 2)) else (if a0 = 832 then (some (768, 0, 1)) else (if a0 = 833 then (some (769, 0, 1)) else (if a0 = 835 then (some (787, 0, 1)) else (if a0 = 836 then (some (776, 769, 2)) else (if a0 = 902 then (some (913, 769, 2)) else (if a0 = 912 then (some (970, 769, 2)) else (if a0 = 940 then (some (945, 769, 2)) else (if a0 = 943 then (some (953, 769, 2)) else (if a0 = 970 then (some (953, 776, 2)) else (if a0 = 972 then (some (959, 769, 2)) else (if a0 = 7691 then (some (100, 775, 2)) else (if a0 = 7693 then (some (100, 803, 2)) else (if a0 = 7777 then (some (115, 775, 2)) else (if a0 = 7779 then (some (115, 803, 2)) else (if a0 = 7785 then (some (7779, 775, 2)) else (if a0 = 7841 then (some (97, 803, 2)) else (if a0 = 7844 then (some (194, 769, 2)) else (if a0 = 7845 then (some (226, 769, 2)) else (if a0 = 7863 then (some (7841, 774, 2)) else (if a0 = 7865 then (some (101, 803, 2)) else (if a0 = 7879 then (some (7865, 770, 2)) else (if a0 = 8049 then (some (940, 0, 1)) else (if a0 = 8115 then (some (945, 837, 2)) else (if a0 = 8486 then (some (937, 0, 1)) else (if a0 = 8490 then (some (75, 0, 1)) else (if a0 = 8491 then (some (197, 0, 1)) else (if a0 = 8800 then (some (61, 824, 2)) else (if a0 = 12364 then (some (12363, 12441, 2)) else (if a0 = 12497 then (some (12495, 12442, 2)) else (some (0, 0, 0))))))))))))))))))))))))))))))))
set_option maxHeartbeats 8000000 in
set_option maxRecDepth 100000 in
theorem tremaref02_few.calls (a0 : Int) (r1 : Int) (r2 : Int) (r3 : Int) (w : World) (h : tremaref02_few.f a0 = some (r1, r2, r3)) :
  Calls Tryd.prog 86 #[.int .i32 a0] w fun e w' => e = .returned (.tuple #[.int .i32 r1, .int .i32 r2, .int .i64 r3]) ∧ Drawn0 w w' := by
 have H : (if a0 = 469 then (some (220, 772, 2)) else (if a0 = 470 then (some (252, 772, 2)) else (if a0 = 832 then (some (768, 0, 1)) else (if a0 = 833 then (some (769, 0, 1)) else (if a0 = 835 then (some (787, 0, 1)) else (if a0 = 836 then (some (776, 769, 2)) else (if a0 = 902 then (some (913, 769, 2)) else (if a0 = 912 then (some (970, 769, 2)) else (if a0 = 940 then (some (945, 769, 2)) else (if a0 = 943 then (some (953, 769, 2)) else (if a0 = 970 then (some (953, 776, 2)) else (if a0 = 972 then (some (959, 769, 2)) else (if a0 = 7691 then (some (100, 775, 2)) else (if a0 = 7693 then (some (100, 803, 2)) else (if a0 = 7777 then (some (115, 775, 2)) else (if a0 = 7779 then (some (115, 803, 2)) else (if a0 = 7785 then (some (7779, 775, 2)) else (if a0 = 7841 then (some (97, 803, 2)) else (if a0 = 7844 then (some (194, 769, 2)) else (if a0 = 7845 then (some (226, 769, 2)) else (if a0 = 7863 then (some (7841, 774, 2)) else (if a0 = 7865 then (some (101, 803, 2)) else (if a0 = 7879 then (some (7865, 770, 2)) else (if a0 = 8049 then (some (940, 0, 1)) else (if a0 = 8115 then (some (945, 837, 2)) else (if a0 = 8486 then (some (937, 0, 1)) else (if a0 = 8490 then (some (75, 0, 1)) else (if a0 = 8491 then (some (197, 0, 1)) else (if a0 = 8800 then (some (61, 824, 2)) else (if a0 = 12364 then (some (12363, 12441, 2)) else (if a0 = 12497 then (some (12495, 12442, 2)) else (some (0, 0, 0))))))))))))))))))))))))))))))))) = some (r1, r2, r3) := h
 clear h
 by_cases c2 : a0 = 469
 ·rw [if_pos c2] at H
  have c2b0 : (a0 == 469) = true := beq_iff_eq.mpr c2
  have c2b1 : (a0 != 469) = false := bne_eq_false_iff_eq.mpr c2
  clear c2
  simp only [Option.some.injEq, Prod.mk.injEq] at H
  obtain ⟨rfl, rfl, rfl⟩ := H
  go_enter Tryd.func86, Tryd.ntmps86
  go_wp2
  go_ret3
  exact ⟨by first | rfl | (simp; done) | (simp [*]; done), by repeat (first | exact Drawn0.refl _ | apply Drawn0.step)⟩
 ·rw [if_neg c2] at H
  have c2b0 : (a0 == 469) = false := beq_eq_false_iff_ne.mpr c2
  have c2b1 : (a0 != 469) = true := bne_iff_ne.mpr c2
  by_cases c3 : a0 = 470
  ·rw [if_pos c3] at H
   have c3b0 : (a0 == 470) = true := beq_iff_eq.mpr c3
   have c3b1 : (a0 != 470) = false := bne_eq_false_iff_eq.mpr c3
   clear c3
   simp only [Option.some.injEq, Prod.mk.injEq] at H
   obtain ⟨rfl, rfl, rfl⟩ := H
   go_enter Tryd.func86, Tryd.ntmps86
   go_wp2
   go_ret3
   exact ⟨by first | rfl | (simp; done) | (simp [*]; done), by repeat (first | exact Drawn0.refl _ | apply Drawn0.step)⟩
  ·rw [if_neg c3] at H
   have c3b0 : (a0 == 470) = false := beq_eq_false_iff_ne.mpr c3
   have c3b1 : (a0 != 470) = true := bne_iff_ne.mpr c3
   by_cases c4 : a0 = 832
   ·rw [if_pos c4] at H
    have c4b0 : (a0 == 832) = true := beq_iff_eq.mpr c4
    have c4b1 : (a0 != 832) = false := bne_eq_false_iff_eq.mpr c4
    clear c4
    simp only [Option.some.injEq, Prod.mk.injEq] at H
    obtain ⟨rfl, rfl, rfl⟩ := H
    go_enter Tryd.func86, Tryd.ntmps86
    go_wp2
    go_ret3
    exact ⟨by first | rfl | (simp; done) | (simp [*]; done), by repeat (first | exact Drawn0.refl _ | apply Drawn0.step)⟩
   ·rw [if_neg c4] at H
    have c4b0 : (a0 == 832) = false := beq_eq_false_iff_ne.mpr c4
    have c4b1 : (a0 != 832) = true := bne_iff_ne.mpr c4
    by_cases c5 : a0 = 833
    ·rw [if_pos c5] at H
     have c5b0 : (a0 == 833) = true := beq_iff_eq.mpr c5
     have c5b1 : (a0 != 833) = false := bne_eq_false_iff_eq.mpr c5
     clear c5
     simp only [Option.some.injEq, Prod.mk.injEq] at H
     obtain ⟨rfl, rfl, rfl⟩ := H
     go_enter Tryd.func86, Tryd.ntmps86
     go_wp2
     go_ret3
     exact ⟨by first | rfl | (simp; done) | (simp [*]; done), by repeat (first | exact Drawn0.refl _ | apply Drawn0.step)⟩
    ·rw [if_neg c5] at H
     have c5b0 : (a0 == 833) = false := beq_eq_false_iff_ne.mpr c5
     have c5b1 : (a0 != 833) = true := bne_iff_ne.mpr c5
     by_cases c6 : a0 = 835
     ·rw [if_pos c6] at H
      have c6b0 : (a0 == 835) = true := beq_iff_eq.mpr c6
      have c6b1 : (a0 != 835) = false := bne_eq_false_iff_eq.mpr c6
      clear c6
      simp only [Option.some.injEq, Prod.mk.injEq] at H
      obtain ⟨rfl, rfl, rfl⟩ := H
      go_enter Tryd.func86, Tryd.ntmps86
      go_wp2
      go_ret3
      exact ⟨by first | rfl | (simp; done) | (simp [*]; done), by repeat (first | exact Drawn0.refl _ | apply Drawn0.step)⟩
     ·rw [if_neg c6] at H
      have c6b0 : (a0 == 835) = false := beq_eq_false_iff_ne.mpr c6
      have c6b1 : (a0 != 835) = true := bne_iff_ne.mpr c6
      by_cases c7 : a0 = 836
      ·rw [if_pos c7] at H
       have c7b0 : (a0 == 836) = true := beq_iff_eq.mpr c7
       have c7b1 : (a0 != 836) = false := bne_eq_false_iff_eq.mpr c7
       clear c7
       simp only [Option.some.injEq, Prod.mk.injEq] at H
       obtain ⟨rfl, rfl, rfl⟩ := H
       go_enter Tryd.func86, Tryd.ntmps86
       go_wp2
       go_ret3
       exact ⟨by first | rfl | (simp; done) | (simp [*]; done), by repeat (first | exact Drawn0.refl _ | apply Drawn0.step)⟩
      ·rw [if_neg c7] at H
       have c7b0 : (a0 == 836) = false := beq_eq_false_iff_ne.mpr c7
       have c7b1 : (a0 != 836) = true := bne_iff_ne.mpr c7
       by_cases c8 : a0 = 902
       ·rw [if_pos c8] at H
        have c8b0 : (a0 == 902) = true := beq_iff_eq.mpr c8
        have c8b1 : (a0 != 902) = false := bne_eq_false_iff_eq.mpr c8
        clear c8
        simp only [Option.some.injEq, Prod.mk.injEq] at H
        obtain ⟨rfl, rfl, rfl⟩ := H
        go_enter Tryd.func86, Tryd.ntmps86
        go_wp2
        go_ret3
        exact ⟨by first | rfl | (simp; done) | (simp [*]; done), by repeat (first | exact Drawn0.refl _ | apply Drawn0.step)⟩
       ·rw [if_neg c8] at H
        have c8b0 : (a0 == 902) = false := beq_eq_false_iff_ne.mpr c8
        have c8b1 : (a0 != 902) = true := bne_iff_ne.mpr c8
        by_cases c9 : a0 = 912
        ·rw [if_pos c9] at H
         have c9b0 : (a0 == 912) = true := beq_iff_eq.mpr c9
         have c9b1 : (a0 != 912) = false := bne_eq_false_iff_eq.mpr c9
         clear c9
         simp only [Option.some.injEq, Prod.mk.injEq] at H
         obtain ⟨rfl, rfl, rfl⟩ := H
         go_enter Tryd.func86, Tryd.ntmps86
         go_wp2
         go_ret3
         exact ⟨by first | rfl | (simp; done) | (simp [*]; done), by repeat (first | exact Drawn0.refl _ | apply Drawn0.step)⟩
        ·rw [if_neg c9] at H
         have c9b0 : (a0 == 912) = false := beq_eq_false_iff_ne.mpr c9
         have c9b1 : (a0 != 912) = true := bne_iff_ne.mpr c9
         by_cases c10 : a0 = 940
         ·rw [if_pos c10] at H
          have c10b0 : (a0 == 940) = true := beq_iff_eq.mpr c10
          have c10b1 : (a0 != 940) = false := bne_eq_false_iff_eq.mpr c10
          clear c10
          simp only [Option.some.injEq, Prod.mk.injEq] at H
          obtain ⟨rfl, rfl, rfl⟩ := H
          go_enter Tryd.func86, Tryd.ntmps86
          go_wp2
          go_ret3
          exact ⟨by first | rfl | (simp; done) | (simp [*]; done), by repeat (first | exact Drawn0.refl _ | apply Drawn0.step)⟩
         ·rw [if_neg c10] at H
          have c10b0 : (a0 == 940) = false := beq_eq_false_iff_ne.mpr c10
          have c10b1 : (a0 != 940) = true := bne_iff_ne.mpr c10
          by_cases c11 : a0 = 943
          ·rw [if_pos c11] at H
           have c11b0 : (a0 == 943) = true := beq_iff_eq.mpr c11
           have c11b1 : (a0 != 943) = false := bne_eq_false_iff_eq.mpr c11
           clear c11
           simp only [Option.some.injEq, Prod.mk.injEq] at H
           obtain ⟨rfl, rfl, rfl⟩ := H
           go_enter Tryd.func86, Tryd.ntmps86
           go_wp2
           go_ret3
           exact ⟨by first | rfl | (simp; done) | (simp [*]; done), by repeat (first | exact Drawn0.refl _ | apply Drawn0.step)⟩
          ·rw [if_neg c11] at H
           have c11b0 : (a0 == 943) = false := beq_eq_false_iff_ne.mpr c11
           have c11b1 : (a0 != 943) = true := bne_iff_ne.mpr c11
           by_cases c12 : a0 = 970
           ·rw [if_pos c12] at H
            have c12b0 : (a0 == 970) = true := beq_iff_eq.mpr c12
            have c12b1 : (a0 != 970) = false := bne_eq_false_iff_eq.mpr c12
            clear c12
            simp only [Option.some.injEq, Prod.mk.injEq] at H
            obtain ⟨rfl, rfl, rfl⟩ := H
            go_enter Tryd.func86, Tryd.ntmps86
            go_wp2
            go_ret3
            exact ⟨by first | rfl | (simp; done) | (simp [*]; done), by repeat (first | exact Drawn0.refl _ | apply Drawn0.step)⟩
           ·rw [if_neg c12] at H
            have c12b0 : (a0 == 970) = false := beq_eq_false_iff_ne.mpr c12
            have c12b1 : (a0 != 970) = true := bne_iff_ne.mpr c12
            by_cases c13 : a0 = 972
            ·rw [if_pos c13] at H
             have c13b0 : (a0 == 972) = true := beq_iff_eq.mpr c13
             have c13b1 : (a0 != 972) = false := bne_eq_false_iff_eq.mpr c13
             clear c13
             simp only [Option.some.injEq, Prod.mk.injEq] at H
             obtain ⟨rfl, rfl, rfl⟩ := H
             go_enter Tryd.func86, Tryd.ntmps86
             go_wp2
             go_ret3
             exact ⟨by first | rfl | (simp; done) | (simp [*]; done), by repeat (first | exact Drawn0.refl _ | apply Drawn0.step)⟩
            ·rw [if_neg c13] at H
             have c13b0 : (a0 == 972) = false := beq_eq_false_iff_ne.mpr c13
             have c13b1 : (a0 != 972) = true := bne_iff_ne.mpr c13
             by_cases c14 : a0 = 7691
             ·rw [if_pos c14] at H
              have c14b0 : (a0 == 7691) = true := beq_iff_eq.mpr c14
              have c14b1 : (a0 != 7691) = false := bne_eq_false_iff_eq.mpr c14
              clear c14
              simp only [Option.some.injEq, Prod.mk.injEq] at H
              obtain ⟨rfl, rfl, rfl⟩ := H
              go_enter Tryd.func86, Tryd.ntmps86
              go_wp2
              go_ret3
              exact ⟨by first | rfl | (simp; done) | (simp [*]; done), by repeat (first | exact Drawn0.refl _ | apply Drawn0.step)⟩
             ·rw [if_neg c14] at H
              have c14b0 : (a0 == 7691) = false := beq_eq_false_iff_ne.mpr c14
              have c14b1 : (a0 != 7691) = true := bne_iff_ne.mpr c14
              by_cases c15 : a0 = 7693
              ·rw [if_pos c15] at H
               have c15b0 : (a0 == 7693) = true := beq_iff_eq.mpr c15
               have c15b1 : (a0 != 7693) = false := bne_eq_false_iff_eq.mpr c15
               clear c15
               simp only [Option.some.injEq, Prod.mk.injEq] at H
               obtain ⟨rfl, rfl, rfl⟩ := H
               go_enter Tryd.func86, Tryd.ntmps86
               go_wp2
               go_ret3
               exact ⟨by first | rfl | (simp; done) | (simp [*]; done), by repeat (first | exact Drawn0.refl _ | apply Drawn0.step)⟩
              ·rw [if_neg c15] at H
               have c15b0 : (a0 == 7693) = false := beq_eq_false_iff_ne.mpr c15
               have c15b1 : (a0 != 7693) = true := bne_iff_ne.mpr c15
               by_cases c16 : a0 = 7777
               ·rw [if_pos c16] at H
                have c16b0 : (a0 == 7777) = true := beq_iff_eq.mpr c16
                have c16b1 : (a0 != 7777) = false := bne_eq_false_iff_eq.mpr c16
                clear c16
                simp only [Option.some.injEq, Prod.mk.injEq] at H
                obtain ⟨rfl, rfl, rfl⟩ := H
                go_enter Tryd.func86, Tryd.ntmps86
                go_wp2
                go_ret3
                exact ⟨by first | rfl | (simp; done) | (simp [*]; done), by repeat (first | exact Drawn0.refl _ | apply Drawn0.step)⟩
               ·rw [if_neg c16] at H
                have c16b0 : (a0 == 7777) = false := beq_eq_false_iff_ne.mpr c16
                have c16b1 : (a0 != 7777) = true := bne_iff_ne.mpr c16
                by_cases c17 : a0 = 7779
                ·rw [if_pos c17] at H
                 have c17b0 : (a0 == 7779) = true := beq_iff_eq.mpr c17
                 have c17b1 : (a0 != 7779) = false := bne_eq_false_iff_eq.mpr c17
                 clear c17
                 simp only [Option.some.injEq, Prod.mk.injEq] at H
                 obtain ⟨rfl, rfl, rfl⟩ := H
                 go_enter Tryd.func86, Tryd.ntmps86
                 go_wp2
                 go_ret3
                 exact ⟨by first | rfl | (simp; done) | (simp [*]; done), by repeat (first | exact Drawn0.refl _ | apply Drawn0.step)⟩
                ·rw [if_neg c17] at H
                 have c17b0 : (a0 == 7779) = false := beq_eq_false_iff_ne.mpr c17
                 have c17b1 : (a0 != 7779) = true := bne_iff_ne.mpr c17
                 by_cases c18 : a0 = 7785
                 ·rw [if_pos c18] at H
                  have c18b0 : (a0 == 7785) = true := beq_iff_eq.mpr c18
                  have c18b1 : (a0 != 7785) = false := bne_eq_false_iff_eq.mpr c18
                  clear c18
                  simp only [Option.some.injEq, Prod.mk.injEq] at H
                  obtain ⟨rfl, rfl, rfl⟩ := H
                  go_enter Tryd.func86, Tryd.ntmps86
                  go_wp2
                  go_ret3
                  exact ⟨by first | rfl | (simp; done) | (simp [*]; done), by repeat (first | exact Drawn0.refl _ | apply Drawn0.step)⟩
                 ·rw [if_neg c18] at H
                  have c18b0 : (a0 == 7785) = false := beq_eq_false_iff_ne.mpr c18
                  have c18b1 : (a0 != 7785) = true := bne_iff_ne.mpr c18
                  by_cases c19 : a0 = 7841
                  ·rw [if_pos c19] at H
                   have c19b0 : (a0 == 7841) = true := beq_iff_eq.mpr c19
                   have c19b1 : (a0 != 7841) = false := bne_eq_false_iff_eq.mpr c19
                   clear c19
                   simp only [Option.some.injEq, Prod.mk.injEq] at H
                   obtain ⟨rfl, rfl, rfl⟩ := H
                   go_enter Tryd.func86, Tryd.ntmps86
                   go_wp2
                   go_ret3
                   exact ⟨by first | rfl | (simp; done) | (simp [*]; done), by repeat (first | exact Drawn0.refl _ | apply Drawn0.step)⟩
                  ·rw [if_neg c19] at H
                   have c19b0 : (a0 == 7841) = false := beq_eq_false_iff_ne.mpr c19
                   have c19b1 : (a0 != 7841) = true := bne_iff_ne.mpr c19
                   by_cases c20 : a0 = 7844
                   ·rw [if_pos c20] at H
                    have c20b0 : (a0 == 7844) = true := beq_iff_eq.mpr c20
                    have c20b1 : (a0 != 7844) = false := bne_eq_false_iff_eq.mpr c20
                    clear c20
                    simp only [Option.some.injEq, Prod.mk.injEq] at H
                    obtain ⟨rfl, rfl, rfl⟩ := H
                    go_enter Tryd.func86, Tryd.ntmps86
                    go_wp2
                    go_ret3
                    exact ⟨by first | rfl | (simp; done) | (simp [*]; done), by repeat (first | exact Drawn0.refl _ | apply Drawn0.step)⟩
                   ·rw [if_neg c20] at H
                    have c20b0 : (a0 == 7844) = false := beq_eq_false_iff_ne.mpr c20
                    have c20b1 : (a0 != 7844) = true := bne_iff_ne.mpr c20
                    by_cases c21 : a0 = 7845
                    ·rw [if_pos c21] at H
                     have c21b0 : (a0 == 7845) = true := beq_iff_eq.mpr c21
                     have c21b1 : (a0 != 7845) = false := bne_eq_false_iff_eq.mpr c21
                     clear c21
                     simp only [Option.some.injEq, Prod.mk.injEq] at H
                     obtain ⟨rfl, rfl, rfl⟩ := H
                     go_enter Tryd.func86, Tryd.ntmps86
                     go_wp2
                     go_ret3
                     exact ⟨by first | rfl | (simp; done) | (simp [*]; done), by repeat (first | exact Drawn0.refl _ | apply Drawn0.step)⟩
                    ·rw [if_neg c21] at H
                     have c21b0 : (a0 == 7845) = false := beq_eq_false_iff_ne.mpr c21
                     have c21b1 : (a0 != 7845) = true := bne_iff_ne.mpr c21
                     by_cases c22 : a0 = 7863
                     ·rw [if_pos c22] at H
                      have c22b0 : (a0 == 7863) = true := beq_iff_eq.mpr c22
                      have c22b1 : (a0 != 7863) = false := bne_eq_false_iff_eq.mpr c22
                      clear c22
                      simp only [Option.some.injEq, Prod.mk.injEq] at H
                      obtain ⟨rfl, rfl, rfl⟩ := H
                      go_enter Tryd.func86, Tryd.ntmps86
                      go_wp2
                      go_ret3
                      exact ⟨by first | rfl | (simp; done) | (simp [*]; done), by repeat (first | exact Drawn0.refl _ | apply Drawn0.step)⟩
                     ·rw [if_neg c22] at H
                      have c22b0 : (a0 == 7863) = false := beq_eq_false_iff_ne.mpr c22
                      have c22b1 : (a0 != 7863) = true := bne_iff_ne.mpr c22
                      by_cases c23 : a0 = 7865
                      ·rw [if_pos c23] at H
                       have c23b0 : (a0 == 7865) = true := beq_iff_eq.mpr c23
                       have c23b1 : (a0 != 7865) = false := bne_eq_false_iff_eq.mpr c23
                       clear c23
                       simp only [Option.some.injEq, Prod.mk.injEq] at H
                       obtain ⟨rfl, rfl, rfl⟩ := H
                       go_enter Tryd.func86, Tryd.ntmps86
                       go_wp2
                       go_ret3
                       exact ⟨by first | rfl | (simp; done) | (simp [*]; done), by repeat (first | exact Drawn0.refl _ | apply Drawn0.step)⟩
                      ·rw [if_neg c23] at H
                       have c23b0 : (a0 == 7865) = false := beq_eq_false_iff_ne.mpr c23
                       have c23b1 : (a0 != 7865) = true := bne_iff_ne.mpr c23
                       by_cases c24 : a0 = 7879
                       ·rw [if_pos c24] at H
                        have c24b0 : (a0 == 7879) = true := beq_iff_eq.mpr c24
                        have c24b1 : (a0 != 7879) = false := bne_eq_false_iff_eq.mpr c24
                        clear c24
                        simp only [Option.some.injEq, Prod.mk.injEq] at H
                        obtain ⟨rfl, rfl, rfl⟩ := H
                        go_enter Tryd.func86, Tryd.ntmps86
                        go_wp2
                        go_ret3
                        exact ⟨by first | rfl | (simp; done) | (simp [*]; done), by repeat (first | exact Drawn0.refl _ | apply Drawn0.step)⟩
                       ·rw [if_neg c24] at H
                        have c24b0 : (a0 == 7879) = false := beq_eq_false_iff_ne.mpr c24
                        have c24b1 : (a0 != 7879) = true := bne_iff_ne.mpr c24
                        by_cases c25 : a0 = 8049
                        ·rw [if_pos c25] at H
                         have c25b0 : (a0 == 8049) = true := beq_iff_eq.mpr c25
                         have c25b1 : (a0 != 8049) = false := bne_eq_false_iff_eq.mpr c25
                         clear c25
                         simp only [Option.some.injEq, Prod.mk.injEq] at H
                         obtain ⟨rfl, rfl, rfl⟩ := H
                         go_enter Tryd.func86, Tryd.ntmps86
                         go_wp2
                         go_ret3
                         exact ⟨by first | rfl | (simp; done) | (simp [*]; done), by repeat (first | exact Drawn0.refl _ | apply Drawn0.step)⟩
                        ·rw [if_neg c25] at H
                         have c25b0 : (a0 == 8049) = false := beq_eq_false_iff_ne.mpr c25
                         have c25b1 : (a0 != 8049) = true := bne_iff_ne.mpr c25
                         by_cases c26 : a0 = 8115
                         ·rw [if_pos c26] at H
                          have c26b0 : (a0 == 8115) = true := beq_iff_eq.mpr c26
                          have c26b1 : (a0 != 8115) = false := bne_eq_false_iff_eq.mpr c26
                          clear c26
                          simp only [Option.some.injEq, Prod.mk.injEq] at H
                          obtain ⟨rfl, rfl, rfl⟩ := H
                          go_enter Tryd.func86, Tryd.ntmps86
                          go_wp2
                          go_ret3
                          exact ⟨by first | rfl | (simp; done) | (simp [*]; done), by repeat (first | exact Drawn0.refl _ | apply Drawn0.step)⟩
                         ·rw [if_neg c26] at H
                          have c26b0 : (a0 == 8115) = false := beq_eq_false_iff_ne.mpr c26
                          have c26b1 : (a0 != 8115) = true := bne_iff_ne.mpr c26
                          by_cases c27 : a0 = 8486
                          ·rw [if_pos c27] at H
                           have c27b0 : (a0 == 8486) = true := beq_iff_eq.mpr c27
                           have c27b1 : (a0 != 8486) = false := bne_eq_false_iff_eq.mpr c27
                           clear c27
                           simp only [Option.some.injEq, Prod.mk.injEq] at H
                           obtain ⟨rfl, rfl, rfl⟩ := H
                           go_enter Tryd.func86, Tryd.ntmps86
                           go_wp2
                           go_ret3
                           exact ⟨by first | rfl | (simp; done) | (simp [*]; done), by repeat (first | exact Drawn0.refl _ | apply Drawn0.step)⟩
                          ·rw [if_neg c27] at H
                           have c27b0 : (a0 == 8486) = false := beq_eq_false_iff_ne.mpr c27
                           have c27b1 : (a0 != 8486) = true := bne_iff_ne.mpr c27
                           by_cases c28 : a0 = 8490
                           ·rw [if_pos c28] at H
                            have c28b0 : (a0 == 8490) = true := beq_iff_eq.mpr c28
                            have c28b1 : (a0 != 8490) = false := bne_eq_false_iff_eq.mpr c28
                            clear c28
                            simp only [Option.some.injEq, Prod.mk.injEq] at H
                            obtain ⟨rfl, rfl, rfl⟩ := H
                            go_enter Tryd.func86, Tryd.ntmps86
                            go_wp2
                            go_ret3
                            exact ⟨by first | rfl | (simp; done) | (simp [*]; done), by repeat (first | exact Drawn0.refl _ | apply Drawn0.step)⟩
                           ·rw [if_neg c28] at H
                            have c28b0 : (a0 == 8490) = false := beq_eq_false_iff_ne.mpr c28
                            have c28b1 : (a0 != 8490) = true := bne_iff_ne.mpr c28
                            by_cases c29 : a0 = 8491
                            ·rw [if_pos c29] at H
                             have c29b0 : (a0 == 8491) = true := beq_iff_eq.mpr c29
                             have c29b1 : (a0 != 8491) = false := bne_eq_false_iff_eq.mpr c29
                             clear c29
                             simp only [Option.some.injEq, Prod.mk.injEq] at H
                             obtain ⟨rfl, rfl, rfl⟩ := H
                             go_enter Tryd.func86, Tryd.ntmps86
                             go_wp2
                             go_ret3
                             exact ⟨by first | rfl | (simp; done) | (simp [*]; done), by repeat (first | exact Drawn0.refl _ | apply Drawn0.step)⟩
                            ·rw [if_neg c29] at H
                             have c29b0 : (a0 == 8491) = false := beq_eq_false_iff_ne.mpr c29
                             have c29b1 : (a0 != 8491) = true := bne_iff_ne.mpr c29
                             by_cases c30 : a0 = 8800
                             ·rw [if_pos c30] at H
                              have c30b0 : (a0 == 8800) = true := beq_iff_eq.mpr c30
                              have c30b1 : (a0 != 8800) = false := bne_eq_false_iff_eq.mpr c30
                              clear c30
                              simp only [Option.some.injEq, Prod.mk.injEq] at H
                              obtain ⟨rfl, rfl, rfl⟩ := H
                              go_enter Tryd.func86, Tryd.ntmps86
                              go_wp2
                              go_ret3
                              exact ⟨by first | rfl | (simp; done) | (simp [*]; done), by repeat (first | exact Drawn0.refl _ | apply Drawn0.step)⟩
                             ·rw [if_neg c30] at H
                              have c30b0 : (a0 == 8800) = false := beq_eq_false_iff_ne.mpr c30
                              have c30b1 : (a0 != 8800) = true := bne_iff_ne.mpr c30
                              by_cases c31 : a0 = 12364
                              ·rw [if_pos c31] at H
                               have c31b0 : (a0 == 12364) = true := beq_iff_eq.mpr c31
                               have c31b1 : (a0 != 12364) = false := bne_eq_false_iff_eq.mpr c31
                               clear c31
                               simp only [Option.some.injEq, Prod.mk.injEq] at H
                               obtain ⟨rfl, rfl, rfl⟩ := H
                               go_enter Tryd.func86, Tryd.ntmps86
                               go_wp2
                               go_ret3
                               exact ⟨by first | rfl | (simp; done) | (simp [*]; done), by repeat (first | exact Drawn0.refl _ | apply Drawn0.step)⟩
                              ·rw [if_neg c31] at H
                               have c31b0 : (a0 == 12364) = false := beq_eq_false_iff_ne.mpr c31
                               have c31b1 : (a0 != 12364) = true := bne_iff_ne.mpr c31
                               by_cases c32 : a0 = 12497
                               ·rw [if_pos c32] at H
                                have c32b0 : (a0 == 12497) = true := beq_iff_eq.mpr c32
                                have c32b1 : (a0 != 12497) = false := bne_eq_false_iff_eq.mpr c32
                                clear c32
                                simp only [Option.some.injEq, Prod.mk.injEq] at H
                                obtain ⟨rfl, rfl, rfl⟩ := H
                                go_enter Tryd.func86, Tryd.ntmps86
                                go_wp2
                                go_ret3
                                exact ⟨by first | rfl | (simp; done) | (simp [*]; done), by repeat (first | exact Drawn0.refl _ | apply Drawn0.step)⟩
                               ·rw [if_neg c32] at H
                                have c32b0 : (a0 == 12497) = false := beq_eq_false_iff_ne.mpr c32
                                have c32b1 : (a0 != 12497) = true := bne_iff_ne.mpr c32
                                simp only [Option.some.injEq, Prod.mk.injEq] at H
                                obtain ⟨rfl, rfl, rfl⟩ := H
                                go_enter Tryd.func86, Tryd.ntmps86
                                go_wp2
                                go_ret3
                                exact ⟨by first | rfl | (simp; done) | (simp [*]; done), by repeat (first | exact Drawn0.refl _ | apply Drawn0.step)⟩
end Go.Proofs.YtiggjbclbdikmaaDoor.X
namespace Go.Proofs.YtiggjbclbdikmaaDoor.Vi
set_option linter.unusedVariables false
set_option linter.unusedSimpArgs false
open Go.RowKit Go.Proofs.YtiggjbclbdikmaaDoorW.PrintWords Go.Proofs.YtiggjbclbdikmaaDoor.Hp Go.Proofs.YtiggjbclbdikmaaDoor.Va Go.Proofs.YtiggjbclbdikmaaDoor.Vc Go.Proofs.YtiggjbclbdikmaaDoor.Vd Go.Proofs.YtiggjbclbdikmaaDoor.X
def Spells (s : ByteArray) : Nat → List (Nat × Nat) → Bool
  | pos, [] => decide (¬ pos < s.size)
  | pos, (r, n) :: t => decide (pos < s.size) && (Utf8.decode s pos == (r, n)) && decide (0 < n) && Spells s (pos + n) t
theorem run_next_at {P : Program} (w : World) (s : ByteArray) (pos : Nat) (ty : TypeId) (h : pos < s.size) {r n : Nat} (hd : Utf8.decode s pos = (r, n)) :
    (Instr.next (.pointer (some ⟨w.heap.size, 0, none⟩)) true ty).run P (w.iter s pos) = .ok (.tuple #[.bool true, .int .i64 pos, .int .i32 r]) (w.iter s (pos + n)) := by
  simp only [Instr.next, getObj, setObj, Sem.run_bind, Sem.run, World.iter_heap, Result.andThen, h, if_true, hd, World.iter_set]
  simp [goInt, Sem.run, World.iter_heap, World.iter_set]
theorem it_below (w : World) (s : ByteArray) (pos : Nat) : Below w.heap.size w (w.iter s pos) := below_alloc (Below.refl _ _) _
theorem it_pos (w : World) (s : ByteArray) (pos : Nat) : (w.iter s pos).iterPos w.heap.size = pos := by simp [World.iterPos, World.iter_heap]
def nthF (at_ : Int) : Int → List (Nat × Nat) → Int
  | _, [] => 0
  | i, (r, _) :: t => if i = at_ then (r : Int) else nthF at_ (i + 1) t
def fndF (r : Int) : Int → Int → List (Nat × Nat) → Int
  | _, p, [] => p
  | i, p, (c, _) :: t => fndF r (i + 1) (if (c : Int) = r then i else p) t
set_option maxRecDepth 100000 in
set_option maxHeartbeats 1000000 in
theorem NthP (w : World) (s : ByteArray) (l : List (Nat × Nat)) (hs : Spells s 0 l = true) (hl : l.length ≤ 1000000) (a : Int) :
    Calls Tryd.prog 83 #[.string s, .int .i64 a] w fun e w' => e = .returned (.int .i32 (nthF a 0 l)) ∧ Below w.heap.size w w' := by
  have HS := Aside0.mk hs
  clear hs
  go_enter Tryd.func83, Tryd.ntmps83
  go_wp2
  go_loopw [5, 7] (fun iv rv wr => ∃ (i pos : Nat) (rest : List (Nat × Nat)), iv = .int .i64 i ∧ wr = w.iter s pos ∧ Aside0 (Spells s pos rest = true) ∧ Aside0 (nthF a 0 l = nthF a i rest) ∧ Aside0 (i + rest.length = l.length)) (fun _ _ wr => s.size - wr.iterPos w.heap.size)
  case atStart => exact ⟨0, 0, l, rfl, rfl, HS, ⟨rfl⟩, ⟨by omega⟩⟩
  case round =>
    obtain ⟨i, pos, rest, rfl, rfl, HR, HE, HL⟩ := hrel
    cases rest with
    | nil =>
      have hp := HR.out
      simp only [Spells, decide_eq_true_eq] at hp
      have hnx := fun ty => run_next_end (P := Tryd.prog) w s pos ty hp
      have HE1 := Aside0.mk (show nthF a 0 l = 0 from HE.out)
      have NB := Aside0.mk (it_below w s pos)
      clear hp HR HE
      go_wp2
      go_ret
      exact ⟨by rw [HE1.out]; rfl, NB.out⟩
    | cons p t =>
      obtain ⟨r, n⟩ := p
      have hp := HR.out
      simp only [Spells, Bool.and_eq_true, decide_eq_true_eq, beq_iff_eq] at hp
      obtain ⟨⟨⟨hp1, hp2⟩, hp3⟩, hp4⟩ := hp
      have hnx := fun ty => run_next_at (P := Tryd.prog) w s pos ty hp1 hp2
      have HP4 := Aside0.mk hp4
      have HP1 := Aside0.mk hp1
      have NB := Aside0.mk (it_below w s (pos + n))
      have MU := Aside0.mk (it_pos w s pos)
      have MU1 := Aside0.mk (it_pos w s (pos + n))
      have he := HE.out
      rw [nthF] at he
      have hll := HL.out
      rw [List.length_cons] at hll
      clear hp1 hp2 hp4 HR HE
      by_cases hi : (i : Int) = a
      · rw [if_pos hi] at he
        have HE1 := Aside0.mk he
        have hd : ((i : Int) == a) = true := beq_iff_eq.2 hi
        clear he hll hi
        go_wp2
        go_ret
        exact ⟨by rw [HE1.out]; rfl, NB.out⟩
      · rw [if_neg hi] at he
        have HE1 := Aside0.mk he
        have hd : ((i : Int) == a) = false := beq_eq_false_iff_ne.2 hi
        have HLL := Aside0.mk hll
        have hi5 : (i : Int) ≤ 1000000 := by omega
        clear he hll hi
        go_wp2
        go_roundw
        case rel => exact ⟨i + 1, pos + n, t, by go_num, rfl, HP4, ⟨by rw [HE1.out]; push_cast; rfl⟩, ⟨by have := HLL.out; omega⟩⟩
        case measure => rw [MU.out, MU1.out]; have := HP1.out; omega
def cmpL : List (Nat × Nat) := [(192, 2), (193, 2), (194, 2), (195, 2), (196, 2), (197, 2), (199, 2), (200, 2), (201, 2), (202, 2), (203, 2), (204, 2), (205, 2), (206, 2), (207, 2), (209, 2), (210, 2), (211, 2), (212, 2), (213, 2), (214, 2), (217, 2), (218, 2), (219, 2), (220, 2), (221, 2), (224, 2), (225, 2), (226, 2), (227, 2), (228, 2), (229, 2), (231, 2), (232, 2), (233, 2), (234, 2), (235, 2), (236, 2), (237, 2), (238, 2), (239, 2), (241, 2), (242, 2), (243, 2), (244, 2), (245, 2), (246, 2), (249, 2), (250, 2), (251, 2), (252, 2), (253, 2), (255, 2), (256, 2), (257, 2), (258, 2), (259, 2), (260, 2), (261, 2), (262, 2), (263, 2), (264, 2), (265, 2), (266, 2), (267, 2), (268, 2), (269, 2), (270, 2), (271, 2), (274, 2), (275, 2), (276, 2), (277, 2), (278, 2), (279, 2), (280, 2), (281, 2), (282, 2), (283, 2), (284, 2), (285, 2), (286, 2), (287, 2), (288, 2), (289, 2), (290, 2), (291, 2), (292, 2), (293, 2), (296, 2), (297, 2), (298, 2), (299, 2), (300, 2), (301, 2), (302, 2), (303, 2), (304, 2), (308, 2), (309, 2), (310, 2), (311, 2), (313, 2), (314, 2), (315, 2), (316, 2), (317, 2), (318, 2), (323, 2), (324, 2), (325, 2), (326, 2), (327, 2), (328, 2), (332, 2), (333, 2), (334, 2), (335, 2), (336, 2), (337, 2), (340, 2), (341, 2), (342, 2), (343, 2), (344, 2), (345, 2), (346, 2), (347, 2), (348, 2), (349, 2), (350, 2), (351, 2), (352, 2), (353, 2), (354, 2), (355, 2), (356, 2), (357, 2), (360, 2), (361, 2), (362, 2), (363, 2), (364, 2), (365, 2), (366, 2), (367, 2), (368, 2), (369, 2), (370, 2), (371, 2), (372, 2), (373, 2), (374, 2), (375, 2), (376, 2), (377, 2), (378, 2), (379, 2), (380, 2), (381, 2), (382, 2)]
def letL : List (Nat × Nat) := [(65, 1), (65, 1), (65, 1), (65, 1), (65, 1), (65, 1), (67, 1), (69, 1), (69, 1), (69, 1), (69, 1), (73, 1), (73, 1), (73, 1), (73, 1), (78, 1), (79, 1), (79, 1), (79, 1), (79, 1), (79, 1), (85, 1), (85, 1), (85, 1), (85, 1), (89, 1), (97, 1), (97, 1), (97, 1), (97, 1), (97, 1), (97, 1), (99, 1), (101, 1), (101, 1), (101, 1), (101, 1), (105, 1), (105, 1), (105, 1), (105, 1), (110, 1), (111, 1), (111, 1), (111, 1), (111, 1), (111, 1), (117, 1), (117, 1), (117, 1), (117, 1), (121, 1), (121, 1), (65, 1), (97, 1), (65, 1), (97, 1), (65, 1), (97, 1), (67, 1), (99, 1), (67, 1), (99, 1), (67, 1), (99, 1), (67, 1), (99, 1), (68, 1), (100, 1), (69, 1), (101, 1), (69, 1), (101, 1), (69, 1), (101, 1), (69, 1), (101, 1), (69, 1), (101, 1), (71, 1), (103, 1), (71, 1), (103, 1), (71, 1), (103, 1), (71, 1), (103, 1), (72, 1), (104, 1), (73, 1), (105, 1), (73, 1), (105, 1), (73, 1), (105, 1), (73, 1), (105, 1), (73, 1), (74, 1), (106, 1), (75, 1), (107, 1), (76, 1), (108, 1), (76, 1), (108, 1), (76, 1), (108, 1), (78, 1), (110, 1), (78, 1), (110, 1), (78, 1), (110, 1), (79, 1), (111, 1), (79, 1), (111, 1), (79, 1), (111, 1), (82, 1), (114, 1), (82, 1), (114, 1), (82, 1), (114, 1), (83, 1), (115, 1), (83, 1), (115, 1), (83, 1), (115, 1), (83, 1), (115, 1), (84, 1), (116, 1), (84, 1), (116, 1), (85, 1), (117, 1), (85, 1), (117, 1), (85, 1), (117, 1), (85, 1), (117, 1), (85, 1), (117, 1), (85, 1), (117, 1), (87, 1), (119, 1), (89, 1), (121, 1), (89, 1), (90, 1), (122, 1), (90, 1), (122, 1), (90, 1), (122, 1)]
def mrkL : List (Nat × Nat) := [(768, 2), (769, 2), (770, 2), (771, 2), (776, 2), (778, 2), (807, 2), (768, 2), (769, 2), (770, 2), (776, 2), (768, 2), (769, 2), (770, 2), (776, 2), (771, 2), (768, 2), (769, 2), (770, 2), (771, 2), (776, 2), (768, 2), (769, 2), (770, 2), (776, 2), (769, 2), (768, 2), (769, 2), (770, 2), (771, 2), (776, 2), (778, 2), (807, 2), (768, 2), (769, 2), (770, 2), (776, 2), (768, 2), (769, 2), (770, 2), (776, 2), (771, 2), (768, 2), (769, 2), (770, 2), (771, 2), (776, 2), (768, 2), (769, 2), (770, 2), (776, 2), (769, 2), (776, 2), (772, 2), (772, 2), (774, 2), (774, 2), (808, 2), (808, 2), (769, 2), (769, 2), (770, 2), (770, 2), (775, 2), (775, 2), (780, 2), (780, 2), (780, 2), (780, 2), (772, 2), (772, 2), (774, 2), (774, 2), (775, 2), (775, 2), (808, 2), (808, 2), (780, 2), (780, 2), (770, 2), (770, 2), (774, 2), (774, 2), (775, 2), (775, 2), (807, 2), (807, 2), (770, 2), (770, 2), (771, 2), (771, 2), (772, 2), (772, 2), (774, 2), (774, 2), (808, 2), (808, 2), (775, 2), (770, 2), (770, 2), (807, 2), (807, 2), (769, 2), (769, 2), (807, 2), (807, 2), (780, 2), (780, 2), (769, 2), (769, 2), (807, 2), (807, 2), (780, 2), (780, 2), (772, 2), (772, 2), (774, 2), (774, 2), (779, 2), (779, 2), (769, 2), (769, 2), (807, 2), (807, 2), (780, 2), (780, 2), (769, 2), (769, 2), (770, 2), (770, 2), (807, 2), (807, 2), (780, 2), (780, 2), (807, 2), (807, 2), (780, 2), (780, 2), (771, 2), (771, 2), (772, 2), (772, 2), (774, 2), (774, 2), (778, 2), (778, 2), (779, 2), (779, 2), (808, 2), (808, 2), (770, 2), (770, 2), (770, 2), (770, 2), (776, 2), (769, 2), (769, 2), (775, 2), (775, 2), (780, 2), (780, 2)]
abbrev cmpS : ByteArray := ⟨#[195, 128, 195, 129, 195, 130, 195, 131, 195, 132, 195, 133, 195, 135, 195, 136, 195, 137, 195, 138, 195, 139, 195, 140, 195, 141, 195, 142, 195, 143, 195, 145, 195, 146, 195, 147, 195, 148, 195, 149, 195, 150, 195, 153, 195, 154, 195, 155, 195, 156, 195, 157, 195, 160, 195, 161, 195, 162, 195, 163, 195, 164, 195, 165, 195, 167, 195, 168, 195, 169, 195, 170, 195, 171, 195, 172, 195, 173, 195, 174, 195, 175, 195, 177, 195, 178, 195, 179, 195, 180, 195, 181, 195, 182, 195, 185, 195, 186, 195, 187, 195, 188, 195, 189, 195, 191, 196, 128, 196, 129, 196, 130, 196, 131, 196, 132, 196, 133, 196, 134, 196, 135, 196, 136, 196, 137, 196, 138, 196, 139, 196, 140, 196, 141, 196, 142, 196, 143, 196, 146, 196, 147, 196, 148, 196, 149, 196, 150, 196, 151, 196, 152, 196, 153, 196, 154, 196, 155, 196, 156, 196, 157, 196, 158, 196, 159, 196, 160, 196, 161, 196, 162, 196, 163, 196, 164, 196, 165, 196, 168, 196, 169, 196, 170, 196, 171, 196, 172, 196, 173, 196, 174, 196, 175, 196, 176, 196, 180, 196, 181, 196, 182, 196, 183, 196, 185, 196, 186, 196, 187, 196, 188, 196, 189, 196, 190, 197, 131, 197, 132, 197, 133, 197, 134, 197, 135, 197, 136, 197, 140, 197, 141, 197, 142, 197, 143, 197, 144, 197, 145, 197, 148, 197, 149, 197, 150, 197, 151, 197, 152, 197, 153, 197, 154, 197, 155, 197, 156, 197, 157, 197, 158, 197, 159, 197, 160, 197, 161, 197, 162, 197, 163, 197, 164, 197, 165, 197, 168, 197, 169, 197, 170, 197, 171, 197, 172, 197, 173, 197, 174, 197, 175, 197, 176, 197, 177, 197, 178, 197, 179, 197, 180, 197, 181, 197, 182, 197, 183, 197, 184, 197, 185, 197, 186, 197, 187, 197, 188, 197, 189, 197, 190]⟩
abbrev letS : ByteArray := ⟨#[65, 65, 65, 65, 65, 65, 67, 69, 69, 69, 69, 73, 73, 73, 73, 78, 79, 79, 79, 79, 79, 85, 85, 85, 85, 89, 97, 97, 97, 97, 97, 97, 99, 101, 101, 101, 101, 105, 105, 105, 105, 110, 111, 111, 111, 111, 111, 117, 117, 117, 117, 121, 121, 65, 97, 65, 97, 65, 97, 67, 99, 67, 99, 67, 99, 67, 99, 68, 100, 69, 101, 69, 101, 69, 101, 69, 101, 69, 101, 71, 103, 71, 103, 71, 103, 71, 103, 72, 104, 73, 105, 73, 105, 73, 105, 73, 105, 73, 74, 106, 75, 107, 76, 108, 76, 108, 76, 108, 78, 110, 78, 110, 78, 110, 79, 111, 79, 111, 79, 111, 82, 114, 82, 114, 82, 114, 83, 115, 83, 115, 83, 115, 83, 115, 84, 116, 84, 116, 85, 117, 85, 117, 85, 117, 85, 117, 85, 117, 85, 117, 87, 119, 89, 121, 89, 90, 122, 90, 122, 90, 122]⟩
abbrev mrkS : ByteArray := ⟨#[204, 128, 204, 129, 204, 130, 204, 131, 204, 136, 204, 138, 204, 167, 204, 128, 204, 129, 204, 130, 204, 136, 204, 128, 204, 129, 204, 130, 204, 136, 204, 131, 204, 128, 204, 129, 204, 130, 204, 131, 204, 136, 204, 128, 204, 129, 204, 130, 204, 136, 204, 129, 204, 128, 204, 129, 204, 130, 204, 131, 204, 136, 204, 138, 204, 167, 204, 128, 204, 129, 204, 130, 204, 136, 204, 128, 204, 129, 204, 130, 204, 136, 204, 131, 204, 128, 204, 129, 204, 130, 204, 131, 204, 136, 204, 128, 204, 129, 204, 130, 204, 136, 204, 129, 204, 136, 204, 132, 204, 132, 204, 134, 204, 134, 204, 168, 204, 168, 204, 129, 204, 129, 204, 130, 204, 130, 204, 135, 204, 135, 204, 140, 204, 140, 204, 140, 204, 140, 204, 132, 204, 132, 204, 134, 204, 134, 204, 135, 204, 135, 204, 168, 204, 168, 204, 140, 204, 140, 204, 130, 204, 130, 204, 134, 204, 134, 204, 135, 204, 135, 204, 167, 204, 167, 204, 130, 204, 130, 204, 131, 204, 131, 204, 132, 204, 132, 204, 134, 204, 134, 204, 168, 204, 168, 204, 135, 204, 130, 204, 130, 204, 167, 204, 167, 204, 129, 204, 129, 204, 167, 204, 167, 204, 140, 204, 140, 204, 129, 204, 129, 204, 167, 204, 167, 204, 140, 204, 140, 204, 132, 204, 132, 204, 134, 204, 134, 204, 139, 204, 139, 204, 129, 204, 129, 204, 167, 204, 167, 204, 140, 204, 140, 204, 129, 204, 129, 204, 130, 204, 130, 204, 167, 204, 167, 204, 140, 204, 140, 204, 167, 204, 167, 204, 140, 204, 140, 204, 131, 204, 131, 204, 132, 204, 132, 204, 134, 204, 134, 204, 138, 204, 138, 204, 139, 204, 139, 204, 168, 204, 168, 204, 130, 204, 130, 204, 130, 204, 130, 204, 136, 204, 129, 204, 129, 204, 135, 204, 135, 204, 140, 204, 140]⟩
theorem cmp_spells : Spells cmpS 0 cmpL = true := by decide +kernel
theorem let_spells : Spells letS 0 letL = true := by decide +kernel
theorem mrk_spells : Spells mrkS 0 mrkL = true := by decide +kernel
set_option maxRecDepth 100000 in
theorem CmpP (w : World) : Calls Tryd.prog 82 #[] w fun e w' => e = .returned (.string cmpS) ∧ w = w' := by
  go_enter Tryd.func82, Tryd.ntmps82
  go_wp2
  go_ret
  exact ⟨rfl, rfl⟩
set_option maxRecDepth 100000 in
theorem LetP (w : World) : Calls Tryd.prog 84 #[] w fun e w' => e = .returned (.string letS) ∧ w = w' := by
  go_enter Tryd.func84, Tryd.ntmps84
  go_wp2
  go_ret
  exact ⟨rfl, rfl⟩
set_option maxRecDepth 100000 in
theorem MrkP (w : World) : Calls Tryd.prog 85 #[] w fun e w' => e = .returned (.string mrkS) ∧ w = w' := by
  go_enter Tryd.func85, Tryd.ntmps85
  go_wp2
  go_ret
  exact ⟨rfl, rfl⟩
def fewU (r : Int) : Int × Int × Int := (tremaref02_few.f r).getD (0, 0, 0)
theorem ite_ex {c : Prop} [Decidable c] {α : Type} {a b : Option α} (h1 : ∃ x, a = some x) (h2 : ∃ x, b = some x) : ∃ x, (if c then a else b) = some x := by
  by_cases h : c
  · rw [if_pos h]; exact h1
  · rw [if_neg h]; exact h2
theorem few_ex (r : Int) : ∃ x, tremaref02_few.f r = some x := by
  unfold tremaref02_few.f
  repeat' (first | exact ⟨_, rfl⟩ | refine ite_ex ?_ ?_)
theorem few_some (r : Int) : tremaref02_few.f r = some (fewU r) := by
  obtain ⟨x, h⟩ := few_ex r
  unfold fewU
  rw [h]
  rfl
def refU (r : Int) : Int × Int × Int := if 0 ≤ fndF r 0 (-1) cmpL then (nthF (fndF r 0 (-1) cmpL) 0 letL, nthF (fndF r 0 (-1) cmpL) 0 mrkL, 2) else fewU r
theorem in_eq (r lo hi : Int) : tremaref02_in.f r lo hi = some (decide (lo ≤ r ∧ r ≤ hi)) := by
  unfold tremaref02_in.f
  by_cases c : lo ≤ r
  · rw [if_pos c]; congr 1; rw [decide_eq_decide]; omega
  · rw [if_neg c]; congr 1; symm; rw [decide_eq_false_iff_not]; omega
theorem InP (w : World) (r lo hi : Int) (b : Bool) (hb : decide (lo ≤ r ∧ r ≤ hi) = b) : Calls Tryd.prog 60 #[.int .i32 r, .int .i32 lo, .int .i32 hi] w fun e w' => e = .returned (.bool b) ∧ Below w.heap.size w w' := by
  subst hb
  exact (tremaref02_in.calls r lo hi _ w (in_eq r lo hi)).mono fun _ _ h => ⟨h.1, h.2.below⟩
theorem FewP (w : World) (r a b c : Int) (h : fewU r = (a, b, c)) : Calls Tryd.prog 86 #[.int .i32 r] w fun e w' => e = .returned (.tuple #[.int .i32 a, .int .i32 b, .int .i64 c]) ∧ Below w.heap.size w w' :=
  (tremaref02_few.calls r a b c w (by rw [few_some, h])).mono fun _ _ h => ⟨h.1, h.2.below⟩
set_option maxRecDepth 100000 in
set_option maxHeartbeats 1000000 in
theorem RefSyl (w : World) (s : Nat) (hs : s ≤ 11171) : Calls Tryd.prog 64 #[.int .i32 (44032 + (s : Int))] w fun e w' => e = .returned (.tuple #[.int .i32 (pairU (44032 + (s : Int))).1, .int .i32 (pairU (44032 + (s : Int))).2.1, .int .i64 (pairU (44032 + (s : Int))).2.2]) ∧ Below w.heap.size w w' := by
  have HI := Aside0.mk (InP w (44032 + (s : Int)) 44032 55203 true (decide_eq_true (by omega)))
  have t1 : (s : Int).tdiv 588 = ((s / 588 : Nat) : Int) := by rw [Int.tdiv_eq_ediv_of_nonneg (by omega)]; omega
  have t2 : (s : Int).tdiv 28 = ((s / 28 : Nat) : Int) := by rw [Int.tdiv_eq_ediv_of_nonneg (by omega)]; omega
  have t3 : ((s / 28 : Nat) : Int).tmod 21 = ((s / 28 % 21 : Nat) : Int) := by rw [Int.tmod_eq_emod_of_nonneg (by omega)]; omega
  have t4 : (s : Int).tmod 28 = ((s % 28 : Nat) : Int) := by rw [Int.tmod_eq_emod_of_nonneg (by omega)]; omega
  have e1 : 44032 + (s : Int) - 44032 = (s : Int) := by omega
  have hP := syl_pair s hs
  have b1 : s / 588 ≤ 18 := by omega
  have b2 : s / 28 % 21 ≤ 20 := by omega
  have b3 : s % 28 ≤ 27 := by omega
  have q1 : s % 588 / 28 = s / 28 % 21 := by omega
  have q2 : 44032 + (s : Int) - ((s % 28 : Nat) : Int) = 44032 + (((s / 588 : Nat) : Int) * 21 + ((s / 28 % 21 : Nat) : Int)) * 28 := by omega
  have q3 : s / 28 ≤ 1000 := by omega
  rw [q1, q2] at hP
  obtain ⟨x1, hx1⟩ : ∃ x, x = s % 28 := ⟨_, rfl⟩
  obtain ⟨x2, hx2⟩ : ∃ x, x = s / 28 % 21 := ⟨_, rfl⟩
  obtain ⟨x3, hx3⟩ : ∃ x, x = s / 588 := ⟨_, rfl⟩
  obtain ⟨x4, hx4⟩ : ∃ x, x = s / 28 := ⟨_, rfl⟩
  rw [← hx1] at t4 b3 hP
  rw [← hx2] at t3 b2 hP
  rw [← hx3] at t1 b1 hP
  rw [← hx4] at t2 t3 q3
  have HP := Aside0.mk hP
  clear hP hx1 hx2 hx3 hx4 q1 q2
  by_cases h : x1 = 0
  · subst h
    go_enter Tryd.func64, Tryd.ntmps64
    go_wp2_with (first | (go_at_call 60; go_must (refine HI.out.mono ?_; rintro e w1 ⟨rfl, p1⟩; have B1 := Aside0.mk p1; clear p1)))
    go_ret3
    exact ⟨by rw [HP.out]; rfl, B1.out⟩
  · have h0 : ((x1 : Int) == 0) = false := by simp; omega
    go_enter Tryd.func64, Tryd.ntmps64
    go_wp2_with (first | (go_at_call 60; go_must (refine HI.out.mono ?_; rintro e w1 ⟨rfl, p1⟩; have B1 := Aside0.mk p1; clear p1)))
    go_ret3
    exact ⟨by rw [HP.out, if_neg h]; rfl, B1.out⟩
set_option maxRecDepth 100000 in
set_option maxHeartbeats 1000000 in
theorem RefTab (w : World) (r : Int) (hr : -2147483648 ≤ r ∧ r ≤ 2147483647) (h : ¬ (44032 ≤ r ∧ r ≤ 55203)) : Calls Tryd.prog 64 #[.int .i32 r] w fun e w' => e = .returned (.tuple #[.int .i32 (refU r).1, .int .i32 (refU r).2.1, .int .i64 (refU r).2.2]) ∧ Below w.heap.size w w' := by
  have HI := Aside0.mk (InP w r 44032 55203 false (decide_eq_false h))
  have HU := Aside0.mk (show refU r = if 0 ≤ fndF r 0 (-1) cmpL then (nthF (fndF r 0 (-1) cmpL) 0 letL, nthF (fndF r 0 (-1) cmpL) 0 mrkL, 2) else fewU r from rfl)
  have HC := Aside0.mk cmp_spells
  have HLn := Aside0.mk (show cmpL.length ≤ 1000 by decide)
  have HCm := Aside0.mk CmpP
  have HLe := Aside0.mk LetP
  have HMr := Aside0.mk MrkP
  have HNl := Aside0.mk (fun W a => NthP W letS letL let_spells (by decide) a)
  have HNm := Aside0.mk (fun W a => NthP W mrkS mrkL mrk_spells (by decide) a)
  obtain ⟨cs, hcs⟩ : ∃ x, x = cmpS := ⟨_, rfl⟩
  obtain ⟨ls, hls⟩ : ∃ x, x = letS := ⟨_, rfl⟩
  obtain ⟨ms, hms⟩ : ∃ x, x = mrkS := ⟨_, rfl⟩
  obtain ⟨cl, hcl⟩ : ∃ x, x = cmpL := ⟨_, rfl⟩
  rw [← hcs] at HC HCm
  rw [← hls] at HLe HNl
  rw [← hms] at HMr HNm
  rw [← hcl] at HC HU HLn
  clear hcs hls hms hcl h
  go_enter Tryd.func64, Tryd.ntmps64
  go_wp2_with (first | (go_at_call 60; go_must (refine HI.out.mono ?_; rintro e w1 ⟨rfl, p1⟩; have B1 := Aside0.mk p1; clear p1)) | (go_at_call 82; go_must (refine (HCm.out _).mono ?_; rintro e w2 ⟨rfl, rfl⟩)))
  go_loopw [9, 10, 12] (fun av iv rv wr => ∃ (p : Int) (i pos : Nat) (rest : List (Nat × Nat)), -1 ≤ p ∧ p ≤ 1000 ∧ av = .int .i64 p ∧ iv = .int .i64 i ∧ wr = w1.iter cs pos ∧ Aside0 (Spells cs pos rest = true) ∧ Aside0 (fndF r 0 (-1) cl = fndF r i p rest) ∧ Aside0 (i + rest.length = cl.length)) (fun _ _ _ wr => cs.size - wr.iterPos w1.heap.size)
  case atStart => exact ⟨-1, 0, 0, cl, by decide, by decide, rfl, rfl, rfl, HC, ⟨rfl⟩, ⟨by omega⟩⟩
  case round =>
    obtain ⟨p, i, pos, rest, hp0, hp9, rfl, rfl, rfl, HR, HE, HL⟩ := hrel
    cases rest with
    | nil =>
      have hp := HR.out
      simp only [Spells, decide_eq_true_eq] at hp
      have hnx := fun ty => run_next_end (P := Tryd.prog) w1 cs pos ty hp
      have he := HE.out
      rw [fndF] at he
      have hu := HU.out
      rw [he] at hu
      have NB := Aside0.mk (below_then B1.out B1.out.size (it_below w1 cs pos))
      clear hp HR HE he
      by_cases h0 : 0 ≤ p
      · rw [if_pos h0] at hu
        have HU1 := Aside0.mk hu
        have hd : decide (0 ≤ p) = true := decide_eq_true h0
        clear hu h0
        go_wp2_with (first | (go_at_call 84; go_must (refine (HLe.out _).mono ?_; rintro e w2 ⟨rfl, rfl⟩)) | (go_at_call 85; go_must (refine (HMr.out _).mono ?_; rintro e w2 ⟨rfl, rfl⟩)) | (go_at_call 83; (with_reducible refine (HNl.out _ p).mono ?_); rintro e w3 ⟨rfl, p3⟩; have B3 := Aside0.mk (below_then NB.out NB.out.size p3); clear p3 HNl) | (go_at_call 83; (with_reducible refine (HNm.out _ p).mono ?_); rintro e w4 ⟨rfl, p3⟩; have B4 := Aside0.mk (below_then B3.out B3.out.size p3); clear p3))
        go_ret3
        exact ⟨by rw [HU1.out]; rfl, B4.out⟩
      · rw [if_neg h0] at hu
        obtain ⟨⟨a, b, c⟩, hf⟩ : ∃ x, x = fewU r := ⟨_, rfl⟩
        rw [← hf] at hu
        have HU1 := Aside0.mk hu
        have HF := Aside0.mk (fun W => FewP W r a b c hf.symm)
        have hd : decide (0 ≤ p) = false := decide_eq_false h0
        clear hu h0 hf
        go_wp2_with (first | (go_at_call 86; go_must (refine (HF.out _).mono ?_; rintro e w3 ⟨rfl, p3⟩; have B3 := Aside0.mk (below_then NB.out NB.out.size p3); clear p3)))
        go_ret3
        exact ⟨by rw [HU1.out]; rfl, B3.out⟩
    | cons q t =>
      obtain ⟨c, n⟩ := q
      have hp := HR.out
      simp only [Spells, Bool.and_eq_true, decide_eq_true_eq, beq_iff_eq] at hp
      obtain ⟨⟨⟨hp1, hp2⟩, hp3⟩, hp4⟩ := hp
      have hnx := fun ty => run_next_at (P := Tryd.prog) w1 cs pos ty hp1 hp2
      have HP4 := Aside0.mk hp4
      have HP1 := Aside0.mk hp1
      have NB := Aside0.mk (it_below w1 cs (pos + n))
      have MU := Aside0.mk (it_pos w1 cs pos)
      have MU1 := Aside0.mk (it_pos w1 cs (pos + n))
      have he := HE.out
      rw [fndF] at he
      have hll := HL.out
      rw [List.length_cons] at hll
      have hln := HLn.out
      have hi5 : (i : Int) ≤ 1000 := by omega
      clear hp1 hp2 hp4 HR HE hln
      by_cases hc : (c : Int) = r
      · rw [if_pos hc] at he
        have HE1 := Aside0.mk he
        have hd : ((c : Int) == r) = true := beq_iff_eq.2 hc
        have HLL := Aside0.mk hll
        clear he hll hc
        go_wp2
        go_roundw
        case rel => exact ⟨i, i + 1, pos + n, t, by omega, by omega, rfl, by go_num, rfl, HP4, ⟨by rw [HE1.out]; push_cast; rfl⟩, ⟨by have := HLL.out; omega⟩⟩
        case measure => rw [MU.out, MU1.out]; have := HP1.out; omega
      · rw [if_neg hc] at he
        have HE1 := Aside0.mk he
        have hd : ((c : Int) == r) = false := beq_eq_false_iff_ne.2 hc
        have HLL := Aside0.mk hll
        clear he hll hc
        go_wp2
        go_roundw
        case rel => exact ⟨p, i + 1, pos + n, t, by omega, by omega, rfl, by go_num, rfl, HP4, ⟨by rw [HE1.out]; push_cast; rfl⟩, ⟨by have := HLL.out; omega⟩⟩
        case measure => rw [MU.out, MU1.out]; have := HP1.out; omega
theorem ref_keys : ∀ r ∈ keys, refU r = pairU r := by decide +kernel
theorem cmp_keys : ∀ p ∈ cmpL, (p.1 : Int) ∈ keys := by decide +kernel
theorem few_keys : ∀ k ∈ prsT.map (·.1), k ∈ keys := fun k hk => List.mem_append_right _ hk
theorem fnd_none (r : Int) : ∀ (l : List (Nat × Nat)) (i p : Int), (∀ q ∈ l, (q.1 : Int) ≠ r) → fndF r i p l = p
  | [], _, _, _ => rfl
  | (c, n) :: t, i, p, h => by
    rw [fndF, if_neg (h (c, n) (List.mem_cons_self ..)), fnd_none r t _ _ (fun q hq => h q (List.mem_cons_of_mem _ hq))]
theorem few_none (r : Int) (h : r ∉ prsT.map (·.1)) : fewU r = (0, 0, 0) := by
  have e : ∀ k : Int, k ∈ prsT.map (·.1) → (r = k) = False := fun k hk => by simp; intro e; exact h (e ▸ hk)
  unfold fewU tremaref02_few.f
  simp [prsT] at h
  simp [h]
theorem ref_pair (r : Int) (h : ¬ (44032 ≤ r ∧ r ≤ 55203)) : refU r = pairU r := by
  by_cases hk : r ∈ keys
  · exact ref_keys r hk
  · rw [pair_zero r h hk]
    have h1 : fndF r 0 (-1) cmpL = -1 := fnd_none r _ _ _ (fun q hq e => hk (e ▸ cmp_keys q hq))
    unfold refU
    rw [h1, if_neg (by decide)]
    exact few_none r (fun hm => hk (few_keys r hm))
theorem RefPairP (w : World) (r : Int) (hr : -2147483648 ≤ r ∧ r ≤ 2147483647) : Calls Tryd.prog 64 #[.int .i32 r] w fun e w' => e = .returned (.tuple #[.int .i32 (pairU r).1, .int .i32 (pairU r).2.1, .int .i64 (pairU r).2.2]) ∧ Below w.heap.size w w' := by
  by_cases h : 44032 ≤ r ∧ r ≤ 55203
  · have := RefSyl w (r - 44032).toNat (by omega)
    rw [show 44032 + ((r - 44032).toNat : Int) = r by omega] at this
    exact this
  · have := RefTab w r hr h
    rw [ref_pair r h] at this
    exact this
end Go.Proofs.YtiggjbclbdikmaaDoor.Vi
namespace Go.Proofs.YtiggjbclbdikmaaDoor.X
open Go.RowKit Go.Proofs.YtiggjbclbdikmaaDoorW.PrintWords
def tremaref02_Pair.f (a0 : Int) : Option (Int × Int × Int) := if -2147483648 ≤ a0 ∧ a0 ≤ 2147483647 then some (Vc.pairU a0) else none
theorem tremaref02_Pair.calls (a0 : Int) (r1 r2 r3 : Int) (w : World) (h : tremaref02_Pair.f a0 = some (r1, r2, r3)) : Calls Tryd.prog 64 #[.int .i32 a0] w fun e w' => e = .returned (.tuple #[.int .i32 r1, .int .i32 r2, .int .i64 r3]) ∧ Below w.heap.size w w' := by
  unfold tremaref02_Pair.f at h
  split at h
  · rename_i hr
    have e := Option.some.inj h
    have := Vi.RefPairP w a0 hr
    rw [e] at this
    exact this
  · cases h
end Go.Proofs.YtiggjbclbdikmaaDoor.X
namespace Go.Proofs.YtiggjbclbdikmaaDoor.X
open Go.RowKit Go.Proofs.YtiggjbclbdikmaaDoorW.PrintWords Go.Proofs.YtiggjbclbdikmaaDoorW.PrintLast Go.Proofs.YtiggjbclbdikmaaDoorW.PrintMore
attribute [local go_sem] max2_int min2_int max_two min_two max_three min_three max_four min_four   
set_option linter.unusedVariables false
set_option linter.unusedSimpArgs false
mutual
def tremaref02_Decompose.l0 : Nat → List Int → Option (List Int)
 | 0, _ => none
 | k + 1, x3 => tremaref02_Decompose.l1 k x3 (-1) 0 0 0 0
def tremaref02_Decompose.l1 : Nat → List Int → Int → Int → Int → Int → Int → Option (List Int)
 | 0, _, _, _, _, _, _ => none
 | k + 1, x3, x4, x5, x6, x7, x8 => if x8 < (x3.length : Int) then (tremaref02_Decompose.j2 k x3 x4 x5 x6 x7 x8 (decide (x4 < 0))) else (tremaref02_Decompose.j2 k x3 x4 x5 x6 x7 x8 false)
def tremaref02_Decompose.j2 : Nat → List Int → Int → Int → Int → Int → Int → Bool → Option (List Int)
 | 0, _, _, _, _, _, _, _ => none
 | k + 1, x3, x4, x5, x6, x7, x8, x23 => if x23 = true then (if 0 ≤ x8 then (if x8 < (x3.length : Int) then ((tremaref02_Pair.f (rd x3 x8)).bind fun bt130 => (if bt130.2.2 > 0 then (tremaref02_Decompose.l1 k x3 x8 bt130.1 bt130.2.1 bt130.2.2 (wrap64 (x8 + 1))) else (tremaref02_Decompose.l1 k x3 x4 x5 x6 x7 (wrap64 (x8 + 1))))) else (none)) else (none)) else (if x4 < 0 then (some x3) else (tremaref02_Decompose.l2 k x3 x4 x5 x6 x7 ([] : List Int) 0))
def tremaref02_Decompose.l2 : Nat → List Int → Int → Int → Int → Int → List Int → Int → Option (List Int)
 | 0, _, _, _, _, _, _, _ => none
 | k + 1, x3, x4, x5, x6, x7, x12, x13 => if x13 < (x3.length : Int) then (if x13 = x4 then (if x7 = 1 then (if x12.length < 35184372088832 then (tremaref02_Decompose.l2 k x3 x4 x5 x6 x7 (x12 ++ [x5]) (wrap64 (x13 + 1))) else (none)) else ((some (([x5, x6] : List Int) : List Int)).bind fun y136 => (if x12.length + y136.length < 35184372088832 then (tremaref02_Decompose.l2 k x3 x4 x5 x6 x7 (x12 ++ y136) (wrap64 (x13 + 1))) else (none)))) else (if 0 ≤ x13 then (if x12.length < 35184372088832 then (tremaref02_Decompose.l2 k x3 x4 x5 x6 x7 (x12 ++ [rd x3 x13]) (wrap64 (x13 + 1))) else (none)) else (none))) else (tremaref02_Decompose.l0 k x12)
end
def tremaref02_Decompose.f (k : Nat) (a0 : Int) : Option (List Int) := tremaref02_Decompose.l0 k (([a0] : List Int))
theorem tremaref02_Decompose.mono_l : ∀ k, (∀ y0, LeO (tremaref02_Decompose.l0 k y0) (tremaref02_Decompose.l0 (k + 1) y0)) ∧ (∀ y0 y1 y2 y3 y4 y5, LeO (tremaref02_Decompose.l1 k y0 y1 y2 y3 y4 y5) (tremaref02_Decompose.l1 (k + 1) y0 y1 y2 y3 y4 y5)) ∧ (∀ y0 y1 y2 y3 y4 y5 y6, LeO (tremaref02_Decompose.j2 k y0 y1 y2 y3 y4 y5 y6) (tremaref02_Decompose.j2 (k + 1) y0 y1 y2 y3 y4 y5 y6)) ∧ (∀ y0 y1 y2 y3 y4 y5 y6, LeO (tremaref02_Decompose.l2 k y0 y1 y2 y3 y4 y5 y6) (tremaref02_Decompose.l2 (k + 1) y0 y1 y2 y3 y4 y5 y6))
 | 0 => ⟨fun _ r h => by simp [tremaref02_Decompose.l0] at h, fun _ _ _ _ _ _ r h => by simp [tremaref02_Decompose.l1] at h, fun _ _ _ _ _ _ _ r h => by simp [tremaref02_Decompose.j2] at h, fun _ _ _ _ _ _ _ r h => by simp [tremaref02_Decompose.l2] at h⟩
 | k + 1 => by
  obtain ⟨ih0, ih1, ih2, ih3⟩ := tremaref02_Decompose.mono_l k
  refine ⟨?_, ?_, ?_, ?_⟩
  ·intro y0
   unfold tremaref02_Decompose.l0
   repeat' first
   | (with_reducible exact ih0 _)
   | (with_reducible exact ih1 _ _ _ _ _ _)
   | (with_reducible exact ih2 _ _ _ _ _ _ _)
   | (with_reducible exact ih3 _ _ _ _ _ _ _)
   | (with_reducible exact LeO.refl _)
   | (with_reducible exact LeO.none _)
   | (with_reducible refine LeO.ite ?_ ?_)
   | (with_reducible refine LeO.bind ?_ (fun _ => ?_))
   | exact ih0 _
   | exact ih1 _ _ _ _ _ _
   | exact ih2 _ _ _ _ _ _ _
   | exact ih3 _ _ _ _ _ _ _
   | exact LeO.none _
   | refine LeO.ite ?_ ?_
   | refine LeO.bind ?_ (fun _ => ?_)
  ·intro y0 y1 y2 y3 y4 y5
   unfold tremaref02_Decompose.l1
   repeat' first
   | (with_reducible exact ih0 _)
   | (with_reducible exact ih1 _ _ _ _ _ _)
   | (with_reducible exact ih2 _ _ _ _ _ _ _)
   | (with_reducible exact ih3 _ _ _ _ _ _ _)
   | (with_reducible exact LeO.refl _)
   | (with_reducible exact LeO.none _)
   | (with_reducible refine LeO.ite ?_ ?_)
   | (with_reducible refine LeO.bind ?_ (fun _ => ?_))
   | exact ih0 _
   | exact ih1 _ _ _ _ _ _
   | exact ih2 _ _ _ _ _ _ _
   | exact ih3 _ _ _ _ _ _ _
   | exact LeO.none _
   | refine LeO.ite ?_ ?_
   | refine LeO.bind ?_ (fun _ => ?_)
  ·intro y0 y1 y2 y3 y4 y5 y6
   unfold tremaref02_Decompose.j2
   repeat' first
   | (with_reducible exact ih0 _)
   | (with_reducible exact ih1 _ _ _ _ _ _)
   | (with_reducible exact ih2 _ _ _ _ _ _ _)
   | (with_reducible exact ih3 _ _ _ _ _ _ _)
   | (with_reducible exact LeO.refl _)
   | (with_reducible exact LeO.none _)
   | (with_reducible refine LeO.ite ?_ ?_)
   | (with_reducible refine LeO.bind ?_ (fun _ => ?_))
   | exact ih0 _
   | exact ih1 _ _ _ _ _ _
   | exact ih2 _ _ _ _ _ _ _
   | exact ih3 _ _ _ _ _ _ _
   | exact LeO.none _
   | refine LeO.ite ?_ ?_
   | refine LeO.bind ?_ (fun _ => ?_)
  ·intro y0 y1 y2 y3 y4 y5 y6
   unfold tremaref02_Decompose.l2
   repeat' first
   | (with_reducible exact ih0 _)
   | (with_reducible exact ih1 _ _ _ _ _ _)
   | (with_reducible exact ih2 _ _ _ _ _ _ _)
   | (with_reducible exact ih3 _ _ _ _ _ _ _)
   | (with_reducible exact LeO.refl _)
   | (with_reducible exact LeO.none _)
   | (with_reducible refine LeO.ite ?_ ?_)
   | (with_reducible refine LeO.bind ?_ (fun _ => ?_))
   | exact ih0 _
   | exact ih1 _ _ _ _ _ _
   | exact ih2 _ _ _ _ _ _ _
   | exact ih3 _ _ _ _ _ _ _
   | exact LeO.none _
   | refine LeO.ite ?_ ?_
   | refine LeO.bind ?_ (fun _ => ?_)
theorem tremaref02_Decompose.mono : ∀ a0 k, LeO (tremaref02_Decompose.f k a0) (tremaref02_Decompose.f (k + 1) a0) := by
 intro a0 k
 obtain ⟨ih0, ih1, ih2, ih3⟩ := tremaref02_Decompose.mono_l k
 unfold tremaref02_Decompose.f
 repeat' first
   | (with_reducible exact ih0 _)
   | (with_reducible exact ih1 _ _ _ _ _ _)
   | (with_reducible exact ih2 _ _ _ _ _ _ _)
   | (with_reducible exact ih3 _ _ _ _ _ _ _)
   | (with_reducible exact LeO.refl _)
   | (with_reducible exact LeO.none _)
   | (with_reducible refine LeO.ite ?_ ?_)
   | (with_reducible refine LeO.bind ?_ (fun _ => ?_))
   | exact ih0 _
   | exact ih1 _ _ _ _ _ _
   | exact ih2 _ _ _ _ _ _ _
   | exact ih3 _ _ _ _ _ _ _
   | exact LeO.none _
   | refine LeO.ite ?_ ?_
   | refine LeO.bind ?_ (fun _ => ?_)
set_option maxHeartbeats 8000000 in
set_option maxRecDepth 100000 in
theorem tremaref02_Decompose.calls (k : Nat) (a0 : Int) (r : List Int) (w : World) (h : tremaref02_Decompose.f k a0 = some r) :
  Calls Tryd.prog 36 #[.int .i32 a0] w fun e w' => ∃ v0_ : Value, e = .returned (v0_) ∧ Kd.R (Kd.int .i32) 21 w' w.heap.size (fun _ => True) v0_ r ∧ Below w.heap.size w w' := by
 have HB := Aside0.mk (Below.refl w.heap.size w)
 have H : (tremaref02_Decompose.l0 k (([a0] : List Int))) = some r := h
 clear h
 obtain ⟨y126, hy126⟩ : ∃ y_ : List Int, y_ = (([a0] : List Int)) := ⟨_, rfl⟩
 replace H : (tremaref02_Decompose.l0 k y126) = some r := by first | (rw [hy126]; with_reducible exact H) | (have H2_ := (Option.bind_some _ _).symm.trans H; rw [hy126]; with_reducible exact H2_) | (have H2_ := (Option.bind_some _ _).symm.trans H; with_reducible exact H2_) | with_reducible exact H | (rw [hy126]; exact H) | exact H
 have Ny126 := Aside0.mk hy126
 clear hy126
 have H' := Aside0.mk H
 clear H
 go_enter Tryd.func36, Tryd.ntmps36
 go_wp2_with (first | ((with_reducible refine gate_dst (N := 15) rfl ?_); refine Kd.R_lit (Kd.int .i32) _ 21 ?hg (N := 15) ?hd (xs := ([a0] : List Int)) (inner := [.int .i32 a0]) (ok := fun _ => True) (okp := fun _ => True) ?hr ?hp (fun _ hk => hk) trivial (Below.refl _ _) (Nat.le_refl _) (by simp) ?_; (case hd => rfl); (case hg => rfl); (case hr => first | (go_simp; done) | (go_simp; rfl)); (case hp => exact (Reps.one (show Kd.M (Kd.int .i32) _ _ _ a0 [.int .i32 a0] from rfl) (Reps.none _ _))); intro v127 w2 ho3 hb hg_ hnew_; clear hg_ hnew_; (first | rw [← Ny126.out] at ho3 | (simp only [Int.reduceToNat] at ho3; rw [← Ny126.out] at ho3)); have n0_ := Aside0.mk (Kd.R_lower ho3 (below_size (by repeat (first | (with_reducible first | exact HB.out | apply below_alloc | apply pw_below_drewN | apply below_drew1) | exact HB.out)))); have n1_ := Aside0.mk (below_step (by repeat (first | (with_reducible first | exact HB.out | apply below_alloc | apply pw_below_drewN | apply below_drew1) | exact HB.out)) hb); clear HB; have HO128 := n0_; have HB := n1_; clear n0_ n1_; clear hb ho3))
 go_loopg [3] k (fun kq v3 w' => ∃ (x3_1 : List Int), Aside0 (tremaref02_Decompose.l0 kq x3_1 = some r) ∧ Aside0 (kq ≤ k) ∧ Aside0 (Kd.R (Kd.int .i32) 21 w' w.heap.size (fun _ => True) v3 x3_1) ∧ Aside0 (Below w.heap.size w w'))
 case atStart => exact ⟨(y126), H', ⟨Nat.le_refl _⟩, ⟨by (with_reducible repeat (first | apply Kd.R_alloc | apply Kd.R_drewN | apply Kd.R_drew)); exact HO128.out⟩, ⟨by repeat (first | (with_reducible first | exact HB.out | apply below_alloc | apply pw_below_drewN | apply below_drew1) | exact HB.out)⟩⟩
 case round =>
  clear H'
  try clear p2
  try clear c3
  obtain ⟨x3_1, HA, HK1, HO_3, HB⟩ := hrel
  cases gk with
  | zero => exact absurd HA.out (by simp [tremaref02_Decompose.l0])
  | succ k1 =>
   have H := HA.out
   clear HA
   simp only [tremaref02_Decompose.l0] at H
   have H' := Aside0.mk H
   clear H
   go_wp2
   go_loopg [4, 5, 6, 7, 8] k1 (fun kq v4 v5 v6 v7 v8 w' => ∃ (x4_2 : Int) (x5_2 : Int) (x6_2 : Int) (x7_2 : Int) (x8_2 : Int), v4 = .int .i64 x4_2 ∧ v5 = .int .i32 x5_2 ∧ v6 = .int .i32 x6_2 ∧ v7 = .int .i64 x7_2 ∧ v8 = .int .i64 x8_2 ∧ Aside0 (tremaref02_Decompose.l1 kq x3_1 x4_2 x5_2 x6_2 x7_2 x8_2 = some r) ∧ Aside0 (kq ≤ k1) ∧ Aside0 (Kd.R (Kd.int .i32) 21 w' w.heap.size (fun _ => True) u3 x3_1) ∧ Aside0 (Below w.heap.size w w'))
   case atStart => exact ⟨((-1)), (0), (0), (0), (0), (by first | rfl | (simp; done) | (simp [*]; done)), (by first | rfl | (simp; done) | (simp [*]; done)), (by first | rfl | (simp; done) | (simp [*]; done)), (by first | rfl | (simp; done) | (simp [*]; done)), (by first | rfl | (simp; done) | (simp [*]; done)), H', ⟨Nat.le_refl _⟩, ⟨by (with_reducible repeat (first | apply Kd.R_alloc | apply Kd.R_drewN | apply Kd.R_drew)); exact HO_3.out⟩, ⟨by repeat (first | (with_reducible first | exact HB.out | apply below_alloc | apply pw_below_drewN | apply below_drew1) | exact HB.out)⟩⟩
   case round =>
    clear H'
    try clear p2
    try clear c3
    try clear p2
    obtain ⟨x4_2, x5_2, x6_2, x7_2, x8_2, rfl, rfl, rfl, rfl, rfl, HA, HK2, HO_3, HB⟩ := hrel
    cases gk with
    | zero => exact absurd HA.out (by simp [tremaref02_Decompose.l1])
    | succ k2 =>
     have H := HA.out
     clear HA
     simp only [tremaref02_Decompose.l1] at H
     have HC4 := Aside0.mk H
     clear H
     go_upto_region 4 with (fail)
     go_cut [23] (fun v23 wc => ∃ (kq : Nat) (x23_3 : Bool), v23 = .bool x23_3 ∧ Aside0 (tremaref02_Decompose.j2 kq x3_1 x4_2 x5_2 x6_2 x7_2 x8_2 x23_3 = some r) ∧ Aside0 (kq ≤ k2) ∧ Aside0 (Kd.R (Kd.int .i32) 21 wc w.heap.size (fun _ => True) u3 x3_1) ∧ Aside0 (Below w.heap.size w wc))
     case first =>
      have H := HC4.out
      clear HC4
      by_cases c5 : x8_2 < (x3_1.length : Int)
      ·rw [if_pos c5] at H
       have c5b0 : decide (x8_2 < (x3_1.length : Int)) = true := decide_eq_true c5
       clear c5
       (first | rw [c5b0] | (simp only [i64_w, i32_w]; rw [c5b0]) | skip)
       have H' := Aside0.mk H
       clear H
       obtain ⟨Ao6, co6, eo6⟩ := Kd.R_slice HO_3.out
       subst eo6
       go_wp2
       go_meet
       case rel => exact ⟨_, (decide (x4_2 < 0)), (by first | rfl | (simp; done) | (simp [*]; done)), H', ⟨by have := HK1.out; have := HK2.out; first | omega | exact Nat.le_refl _⟩, ⟨by (with_reducible repeat (first | apply Kd.R_alloc | apply Kd.R_drewN | apply Kd.R_drew)); exact HO_3.out⟩, ⟨by repeat (first | (with_reducible first | exact HB.out | apply below_alloc | apply pw_below_drewN | apply below_drew1) | exact HB.out)⟩⟩
      ·rw [if_neg c5] at H
       have c5b0 : decide (x8_2 < (x3_1.length : Int)) = false := decide_eq_false c5
       clear c5
       (first | rw [c5b0] | (simp only [i64_w, i32_w]; rw [c5b0]) | skip)
       have H' := Aside0.mk H
       clear H
       obtain ⟨Ao7, co7, eo7⟩ := Kd.R_slice HO_3.out
       subst eo7
       go_wp2
       go_meet
       case rel => exact ⟨_, (false), (by first | rfl | (simp; done) | (simp [*]; done)), H', ⟨by have := HK1.out; have := HK2.out; first | omega | exact Nat.le_refl _⟩, ⟨by (with_reducible repeat (first | apply Kd.R_alloc | apply Kd.R_drewN | apply Kd.R_drew)); exact HO_3.out⟩, ⟨by repeat (first | (with_reducible first | exact HB.out | apply below_alloc | apply pw_below_drewN | apply below_drew1) | exact HB.out)⟩⟩
     case rest =>
      clear HC4
      try clear p2
      try clear c3
      try clear c5
      try clear c5b0
      try clear p2
      obtain ⟨kq, x23_3, rfl, HA, HJ3, HO_3, HB⟩ := hcut
      cases kq with
      | zero => exact absurd HA.out (by simp [tremaref02_Decompose.j2])
      | succ kj3 =>
       have H := HA.out
       clear HA
       simp only [tremaref02_Decompose.j2] at H
       by_cases c8 : x23_3 = true
       ·subst c8
        have H1 : (if 0 ≤ x8_2 then (if x8_2 < (x3_1.length : Int) then ((tremaref02_Pair.f (rd x3_1 x8_2)).bind fun bt130 => (if bt130.2.2 > 0 then (tremaref02_Decompose.l1 kj3 x3_1 x8_2 bt130.1 bt130.2.1 bt130.2.2 (wrap64 (x8_2 + 1))) else (tremaref02_Decompose.l1 kj3 x3_1 x4_2 x5_2 x6_2 x7_2 (wrap64 (x8_2 + 1))))) else (none)) else (none)) = some r := by rw [if_pos rfl] at H; exact H
        clear H
        have H := H1
        clear H1
        by_cases c9 : 0 ≤ x8_2
        ·rw [if_pos c9] at H
         have c9b0 : decide (0 ≤ x8_2) = true := decide_eq_true c9
         clear c9
         by_cases c10 : x8_2 < (x3_1.length : Int)
         ·rw [if_pos c10] at H
          have c10b0 : decide (x8_2 < (x3_1.length : Int)) = true := decide_eq_true c10
          clear c10
          replace H := Option.bind_eq_some_iff.mp H
          obtain ⟨⟨t130, t131, t132⟩, A110, H⟩ := H
          replace H : (if t132 > 0 then (tremaref02_Decompose.l1 kj3 x3_1 x8_2 t130 t131 t132 (wrap64 (x8_2 + 1))) else (tremaref02_Decompose.l1 kj3 x3_1 x4_2 x5_2 x6_2 x7_2 (wrap64 (x8_2 + 1)))) = some r := H
          have A11 := Aside0.mk A110
          clear A110
          by_cases c12 : t132 > 0
          ·rw [if_pos c12] at H
           have c12b0 : decide (0 < t132) = true := decide_eq_true c12
           clear c12
           have H' := Aside0.mk H
           clear H
           obtain ⟨Ao13, co13, eo13⟩ := Kd.R_slice HO_3.out
           subst eo13
           have p129 : 0 ≤ (x8_2 : Int) := of_decide_eq_true (by first | (with_reducible assumption) | assumption)
           have q129 : x8_2 < (x3_1.length : Int) := of_decide_eq_true (by first | (with_reducible assumption) | assumption)
           obtain ⟨ad129, e129, hx129_0⟩ := Kd.at_int (Kd.R_reads' HO_3.out).2.2 x8_2 p129 q129
           cases e129
           replace p129 := eq_true p129
           replace q129 := eq_true q129
           go_wp2_with (first | ((with_reducible refine gate_callee (f := 64) rfl ?_); refine goesL_ (some 31) rfl rfl Tryd.func64 (by kernel_rfl) rfl #[.int .i32 (rd x3_1 x8_2)] rfl (by (try simp only [List.map_toArray, List.map_cons, List.map_nil]); first | done | rfl | (simp only [List.length_drop, List.length_take]; rfl)) ?_; (with_reducible refine (tremaref02_Pair.calls (rd x3_1 x8_2) t130 t131 t132 _ A11.out).mono ?_); rintro e w14 ⟨rfl, hb⟩; refine ⟨_, rfl, ?_⟩; have n0_ := Aside0.mk (Kd.R_below (by (with_reducible repeat (first | apply Kd.R_alloc | apply Kd.R_drewN | apply Kd.R_drew)); exact HO_3.out) hb); have n1_ := Aside0.mk (below_step (by repeat (first | (with_reducible first | exact HB.out | apply below_alloc | apply pw_below_drewN | apply below_drew1) | exact HB.out)) hb); clear HO_3; clear HB; have HO_3 := n0_; have HB := n1_; clear n0_ n1_; (try clear hb); (try clear hb2); (try clear hk); (try clear hi)))
           go_roundg kj3
           case measure => have := HK1.out; have := HK2.out; have := HJ3.out; omega
           case rel => exact ⟨(x8_2), (t130), (t131), (t132), (wrap64 (x8_2 + 1)), (by first | rfl | (simp; done) | (simp [*]; done)), (by first | rfl | (simp; done) | (simp [*]; done)), (by first | rfl | (simp; done) | (simp [*]; done)), (by first | rfl | (simp; done) | (simp [*]; done)), (by first | rfl | (simp; done) | (simp [*]; done)), H', ⟨by have := HK1.out; have := HK2.out; have := HJ3.out; omega⟩, ⟨by (with_reducible repeat (first | apply Kd.R_alloc | apply Kd.R_drewN | apply Kd.R_drew)); exact HO_3.out⟩, ⟨by repeat (first | (with_reducible first | exact HB.out | apply below_alloc | apply pw_below_drewN | apply below_drew1) | exact HB.out)⟩⟩
          ·rw [if_neg c12] at H
           have c12b0 : decide (0 < t132) = false := decide_eq_false c12
           clear c12
           have H' := Aside0.mk H
           clear H
           obtain ⟨Ao15, co15, eo15⟩ := Kd.R_slice HO_3.out
           subst eo15
           have p129 : 0 ≤ (x8_2 : Int) := of_decide_eq_true (by first | (with_reducible assumption) | assumption)
           have q129 : x8_2 < (x3_1.length : Int) := of_decide_eq_true (by first | (with_reducible assumption) | assumption)
           obtain ⟨ad129, e129, hx129_0⟩ := Kd.at_int (Kd.R_reads' HO_3.out).2.2 x8_2 p129 q129
           cases e129
           replace p129 := eq_true p129
           replace q129 := eq_true q129
           go_wp2_with (first | ((with_reducible refine gate_callee (f := 64) rfl ?_); refine goesL_ (some 31) rfl rfl Tryd.func64 (by kernel_rfl) rfl #[.int .i32 (rd x3_1 x8_2)] rfl (by (try simp only [List.map_toArray, List.map_cons, List.map_nil]); first | done | rfl | (simp only [List.length_drop, List.length_take]; rfl)) ?_; (with_reducible refine (tremaref02_Pair.calls (rd x3_1 x8_2) t130 t131 t132 _ A11.out).mono ?_); rintro e w16 ⟨rfl, hb⟩; refine ⟨_, rfl, ?_⟩; have n0_ := Aside0.mk (Kd.R_below (by (with_reducible repeat (first | apply Kd.R_alloc | apply Kd.R_drewN | apply Kd.R_drew)); exact HO_3.out) hb); have n1_ := Aside0.mk (below_step (by repeat (first | (with_reducible first | exact HB.out | apply below_alloc | apply pw_below_drewN | apply below_drew1) | exact HB.out)) hb); clear HO_3; clear HB; have HO_3 := n0_; have HB := n1_; clear n0_ n1_; (try clear hb); (try clear hb2); (try clear hk); (try clear hi)))
           go_roundg kj3
           case measure => have := HK1.out; have := HK2.out; have := HJ3.out; omega
           case rel => exact ⟨(x4_2), (x5_2), (x6_2), (x7_2), (wrap64 (x8_2 + 1)), (by first | rfl | (simp; done) | (simp [*]; done)), (by first | rfl | (simp; done) | (simp [*]; done)), (by first | rfl | (simp; done) | (simp [*]; done)), (by first | rfl | (simp; done) | (simp [*]; done)), (by first | rfl | (simp; done) | (simp [*]; done)), H', ⟨by have := HK1.out; have := HK2.out; have := HJ3.out; omega⟩, ⟨by (with_reducible repeat (first | apply Kd.R_alloc | apply Kd.R_drewN | apply Kd.R_drew)); exact HO_3.out⟩, ⟨by repeat (first | (with_reducible first | exact HB.out | apply below_alloc | apply pw_below_drewN | apply below_drew1) | exact HB.out)⟩⟩
         ·rw [if_neg c10] at H
          exact absurd H (by simp)
        ·rw [if_neg c9] at H
         exact absurd H (by simp)
       ·replace c8 := Bool.eq_false_iff.mpr c8
        subst c8
        have H1 : (if x4_2 < 0 then (some x3_1) else (tremaref02_Decompose.l2 kj3 x3_1 x4_2 x5_2 x6_2 x7_2 ([] : List Int) 0)) = some r := by rw [if_neg (show ¬ (false = true) by decide)] at H; exact H
        clear H
        have H := H1
        clear H1
        by_cases c17 : x4_2 < 0
        ·rw [if_pos c17] at H
         have c17b0 : decide (x4_2 < 0) = true := decide_eq_true c17
         clear c17
         obtain rfl := Option.some.inj H
         go_wp2
         go_ret
         exact ⟨_, by first | rfl | (simp [errW_none, errW_some] <;> rfl) | (simp [*, errW_none, errW_some] <;> rfl), by (with_reducible repeat (first | apply Kd.R_alloc | apply Kd.R_drewN | apply Kd.R_drew)); exact HO_3.out, by repeat (first | (with_reducible first | exact HB.out | apply below_alloc | apply pw_below_drewN | apply below_drew1) | exact HB.out)⟩
        ·rw [if_neg c17] at H
         have c17b0 : decide (x4_2 < 0) = false := decide_eq_false c17
         clear c17
         have H' := Aside0.mk H
         clear H
         go_wp2
         go_loopg [12, 13] kj3 (fun kq v12 v13 w' => ∃ (x12_4 : List Int) (x13_4 : Int), v13 = .int .i64 x13_4 ∧ Aside0 (tremaref02_Decompose.l2 kq x3_1 x4_2 x5_2 x6_2 x7_2 x12_4 x13_4 = some r) ∧ Aside0 (kq ≤ kj3) ∧ Aside0 (Kd.R (Kd.int .i32) 21 w' w.heap.size (fun k_ => some k_ ≠ (v12 : Value).ownBlock) u3 x3_1) ∧ Aside0 (Kd.R (Kd.int .i32) 21 w' w.heap.size (fun k_ => some k_ ≠ (u3 : Value).ownBlock) v12 x12_4) ∧ Aside0 (Below w.heap.size w w'))
         case atStart => exact ⟨(([] : List Int)), (0), (by first | rfl | (simp; done) | (simp [*]; done)), H', ⟨Nat.le_refl _⟩, ⟨by (with_reducible repeat (first | apply Kd.R_alloc | apply Kd.R_drewN | apply Kd.R_drew)); exact Kd.R_mono HO_3.out (fun _ hk => (by simp [Value.ownBlock]))⟩, ⟨by first | exact Kd.R_nil _ _ _ _ _ | exact Kd.N_nil _ _ _ _ _ | exact Kd.V_nil _ _ _ _ _ | exact Kd.Q_nil _ _ _ _ _ | exact Kd.S_nil _ _ _ _ _⟩, ⟨by repeat (first | (with_reducible first | exact HB.out | apply below_alloc | apply pw_below_drewN | apply below_drew1) | exact HB.out)⟩⟩
         case round =>
          clear H'
          try clear c1
          try clear p1
          try clear q1
          try clear hx1
          try clear p2
          try clear c3
          try clear c5
          try clear c5b0
          try clear c6
          try clear p6
          try clear c8
          try clear c9
          try clear c9b0
          try clear c10
          try clear c10b0
          try clear c12
          try clear c12b0
          try clear p12
          try clear q12
          try clear hx12
          try clear c17
          try clear c17b0
          try clear hx129_0
          try clear p129
          try clear p2
          try clear q129
          obtain ⟨x12_4, x13_4, rfl, HA, HK4, HO_3, HO_12, HB⟩ := hrel
          cases gk with
          | zero => exact absurd HA.out (by simp [tremaref02_Decompose.l2])
          | succ k4 =>
           have H := HA.out
           clear HA
           simp only [tremaref02_Decompose.l2] at H
           by_cases c18 : x13_4 < (x3_1.length : Int)
           ·rw [if_pos c18] at H
            have c18b0 : decide (x13_4 < (x3_1.length : Int)) = true := decide_eq_true c18
            clear c18
            by_cases c19 : x13_4 = x4_2
            ·rw [if_pos c19] at H
             have c19b0 : (x13_4 == x4_2) = true := beq_iff_eq.mpr c19
             have c19b1 : (x13_4 != x4_2) = false := bne_eq_false_iff_eq.mpr c19
             clear c19
             by_cases c20 : x7_2 = 1
             ·rw [if_pos c20] at H
              have c20b0 : (x7_2 == 1) = true := beq_iff_eq.mpr c20
              have c20b1 : (x7_2 != 1) = false := bne_eq_false_iff_eq.mpr c20
              clear c20
              by_cases c21 : x12_4.length < 35184372088832
              ·rw [if_pos c21] at H
               have LMc21 := Aside0.mk c21
               clear c21
               obtain ⟨y133, hy133⟩ : ∃ y_ : List Int, y_ = (x12_4 ++ [x5_2]) := ⟨_, rfl⟩
               replace H : (tremaref02_Decompose.l2 k4 x3_1 x4_2 x5_2 x6_2 x7_2 y133 (wrap64 (x13_4 + 1))) = some r := by first | (rw [hy133]; with_reducible exact H) | (have H2_ := (Option.bind_some _ _).symm.trans H; rw [hy133]; with_reducible exact H2_) | (have H2_ := (Option.bind_some _ _).symm.trans H; with_reducible exact H2_) | with_reducible exact H | (rw [hy133]; exact H) | exact H
               have Ny133 := Aside0.mk hy133
               clear hy133
               have H' := Aside0.mk H
               clear H
               obtain ⟨Ao22, co22, eo22⟩ := Kd.R_slice HO_3.out
               subst eo22
               go_wp2_with (first | ((with_reducible refine gate_builtin (b := .append) (xs := #[.tmp 62, .tmp 64]) rfl ?_); at_builtin; refine Kd.R_append (Kd.int .i32) (w0 := w) w.heap.size rfl (.tmp 62) (.tmp 64) 22 21 (.int .i32 0) 4 rfl Tryd.underlying22 info21 rfl (by decide) (by omega) u12 x12_4 x5_2 [.int .i32 x5_2] (fun k_ => some k_ ≠ (.slice Ao22 x3_1.length co22 : Value).ownBlock) (fun _ => False) rfl rfl ?aP (fun _ hk => hk.elim) ?aF ?aO ?aB ?aS ?aL ?_; (case aP => exact rfl); (case aB => exact (by repeat (first | (with_reducible first | exact HB.out | apply below_alloc | apply pw_below_drewN | apply below_drew1) | exact HB.out))); (case aF => exact (fun k_ hk => Kd.fresh' (Kd.R_lt (by (with_reducible repeat (first | apply Kd.R_alloc | apply Kd.R_drewN | apply Kd.R_drew)); exact HO_3.out)) k_ hk)); (case aO => exact (by (with_reducible repeat (first | apply Kd.R_alloc | apply Kd.R_drewN | apply Kd.R_drew)); exact HO_12.out)); (case aS => exact (below_size (by repeat (first | (with_reducible first | exact HB.out | apply below_alloc | apply pw_below_drewN | apply below_drew1) | exact HB.out)))); (case aL => have := LMc21.out; omega); intro v134 w23 ho hb hg hat; rw [← Ny133.out] at ho; have n0_ := Aside0.mk (Kd.R_after (ok := (fun _ => True)) (by (with_reducible repeat (first | apply Kd.R_alloc | apply Kd.R_drewN | apply Kd.R_drew)); exact Kd.R_mono HO_3.out (fun _ hk => ⟨trivial, hk⟩)) hg hat); have n1_ := Aside0.mk (hb); have n2_ := Aside0.mk (ho); clear HO_3; clear HB; clear HO_12; have HO_3 := n0_; have HB := n1_; have HO135 := n2_; clear n0_ n1_ n2_; clear ho hb hg hat))
               go_roundg k4
               case measure => have := HK1.out; have := HK2.out; have := HJ3.out; have := HK4.out; omega
               case rel => exact ⟨(y133), (wrap64 (x13_4 + 1)), (by first | rfl | (simp; done) | (simp [*]; done)), H', ⟨by have := HK1.out; have := HK2.out; have := HJ3.out; have := HK4.out; omega⟩, ⟨by (with_reducible repeat (first | apply Kd.R_alloc | apply Kd.R_drewN | apply Kd.R_drew)); exact Kd.R_mono HO_3.out (fun _ hk => hk.2)⟩, ⟨by (with_reducible repeat (first | apply Kd.R_alloc | apply Kd.R_drewN | apply Kd.R_drew)); exact HO135.out⟩, ⟨by repeat (first | (with_reducible first | exact HB.out | apply below_alloc | apply pw_below_drewN | apply below_drew1) | exact HB.out)⟩⟩
              ·rw [if_neg c21] at H
               exact absurd H (by simp)
             ·rw [if_neg c20] at H
              have c20b0 : (x7_2 == 1) = false := beq_eq_false_iff_ne.mpr c20
              have c20b1 : (x7_2 != 1) = true := bne_iff_ne.mpr c20
              obtain ⟨y136, hy136⟩ : ∃ y_ : List Int, y_ = (([x5_2, x6_2] : List Int)) := ⟨_, rfl⟩
              replace H : (if x12_4.length + y136.length < 35184372088832 then (tremaref02_Decompose.l2 k4 x3_1 x4_2 x5_2 x6_2 x7_2 (x12_4 ++ y136) (wrap64 (x13_4 + 1))) else (none)) = some r := by first | (rw [hy136]; with_reducible exact H) | (have H2_ := (Option.bind_some _ _).symm.trans H; rw [hy136]; with_reducible exact H2_) | (have H2_ := (Option.bind_some _ _).symm.trans H; with_reducible exact H2_) | with_reducible exact H | (rw [hy136]; exact H) | exact H
              have Ny136 := Aside0.mk hy136
              clear hy136
              by_cases c24 : x12_4.length + y136.length < 35184372088832
              ·rw [if_pos c24] at H
               have LMc24 := Aside0.mk c24
               clear c24
               obtain ⟨y139, hy139⟩ : ∃ y_ : List Int, y_ = (x12_4 ++ y136) := ⟨_, rfl⟩
               replace H : (tremaref02_Decompose.l2 k4 x3_1 x4_2 x5_2 x6_2 x7_2 y139 (wrap64 (x13_4 + 1))) = some r := by first | (rw [hy139]; with_reducible exact H) | (have H2_ := (Option.bind_some _ _).symm.trans H; rw [hy139]; with_reducible exact H2_) | (have H2_ := (Option.bind_some _ _).symm.trans H; with_reducible exact H2_) | with_reducible exact H | (rw [hy139]; exact H) | exact H
               have Ny139 := Aside0.mk hy139
               clear hy139
               have H' := Aside0.mk H
               clear H
               obtain ⟨Ao25, co25, eo25⟩ := Kd.R_slice HO_3.out
               subst eo25
               go_wp2_with (first | ((with_reducible refine gate_dst (N := 69) rfl ?_); refine Kd.R_lit (Kd.int .i32) _ 21 ?hg (N := 69) ?hd (xs := ([x5_2, x6_2] : List Int)) (inner := [.int .i32 x5_2, .int .i32 x6_2]) (ok := fun _ => True) (okp := fun _ => True) ?hr ?hp (fun _ hk => hk) trivial (Below.refl _ _) (Nat.le_refl _) (by simp) ?_; (case hd => rfl); (case hg => rfl); (case hr => first | (go_simp; done) | (go_simp; rfl)); (case hp => exact (Reps.one (show Kd.M (Kd.int .i32) _ _ _ x5_2 [.int .i32 x5_2] from rfl) (Reps.one (show Kd.M (Kd.int .i32) _ _ _ x6_2 [.int .i32 x6_2] from rfl) (Reps.none _ _)))); intro v137 w26 ho27 hb hg_ hnew_; clear hg_ hnew_; (first | rw [← Ny136.out] at ho27 | (simp only [Int.reduceToNat] at ho27; rw [← Ny136.out] at ho27)); have n0_ := Aside0.mk (Kd.R_elder' (by (with_reducible repeat (first | apply Kd.R_alloc | apply Kd.R_drewN | apply Kd.R_drew)); exact HO_3.out) (Kd.R_base ho27) hb); have n1_ := Aside0.mk (Kd.R_elder' (by (with_reducible repeat (first | apply Kd.R_alloc | apply Kd.R_drewN | apply Kd.R_drew)); exact HO_12.out) (Kd.R_base ho27) hb); have n2_ := Aside0.mk (Kd.R_lower (Kd.R_new' (Kd.R_new' ho27 (Kd.R_lt (by (with_reducible repeat (first | apply Kd.R_alloc | apply Kd.R_drewN | apply Kd.R_drew)); exact HO_3.out))) (Kd.R_lt (by (with_reducible repeat (first | apply Kd.R_alloc | apply Kd.R_drewN | apply Kd.R_drew)); exact HO_12.out))) (below_size (by repeat (first | (with_reducible first | exact HB.out | apply below_alloc | apply pw_below_drewN | apply below_drew1) | exact HB.out)))); have n3_ := Aside0.mk (below_step (by repeat (first | (with_reducible first | exact HB.out | apply below_alloc | apply pw_below_drewN | apply below_drew1) | exact HB.out)) hb); clear HO_3; clear HO_12; clear HB; have HO_3 := n0_; have HO_12 := n1_; have HO138 := n2_; have HB := n3_; clear n0_ n1_ n2_ n3_; clear hb ho27; obtain ⟨Ao29, co29, eo29⟩ := Kd.R_slice HO138.out; subst eo29) | ((with_reducible refine gate_builtin (b := .append) (xs := #[.tmp 66, .tmp 69]) rfl ?_); at_builtin; refine Kd.R_append_rows (Kd.int .i32) (w0 := w) w.heap.size rfl (.tmp 66) (.tmp 69) 22 21 (.int .i32 0) 4 rfl Tryd.underlying22 info21 rfl (by decide) (by omega) u12 x12_4 y136 _ _ _ (fun k_ => some k_ ≠ (.slice Ao25 x3_1.length co25 : Value).ownBlock ∧ some k_ ≠ (.slice Ao29 y136.length co29 : Value).ownBlock) (fun _ => False) rfl rfl ?aO ?aR (fun _ _ h => h) (fun _ h => h.elim) ?aF ?aB ?aS ?aL ?_; (case aR => repeat (first | exact (Kd.R_reads' HO138.out).2.2 | (with_reducible refine Kd.C_alloc ?_ _) | (with_reducible refine Kd.C_drewN ?_ _) | (with_reducible refine Kd.C_drew ?_))); (case aB => exact (by repeat (first | (with_reducible first | exact HB.out | apply below_alloc | apply pw_below_drewN | apply below_drew1) | exact HB.out))); (case aF => exact (fun k_ hk => ⟨Kd.fresh' (Kd.R_lt (by (with_reducible repeat (first | apply Kd.R_alloc | apply Kd.R_drewN | apply Kd.R_drew)); exact HO_3.out)) k_ hk, Kd.fresh' (Kd.R_lt (by (with_reducible repeat (first | apply Kd.R_alloc | apply Kd.R_drewN | apply Kd.R_drew)); exact HO138.out)) k_ hk⟩)); (case aO => exact (by (with_reducible repeat (first | apply Kd.R_alloc | apply Kd.R_drewN | apply Kd.R_drew)); exact HO_12.out)); (case aS => exact (below_size (by repeat (first | (with_reducible first | exact HB.out | apply below_alloc | apply pw_below_drewN | apply below_drew1) | exact HB.out)))); (case aL => have := LMc24.out; omega); intro v140 w28 ho hb hg hat; rw [← Ny139.out] at ho; have n0_ := Aside0.mk (Kd.R_after (ok := (fun k_ => some k_ ≠ (.slice Ao29 y136.length co29 : Value).ownBlock)) (by (with_reducible repeat (first | apply Kd.R_alloc | apply Kd.R_drewN | apply Kd.R_drew)); exact Kd.R_mono HO_3.out (fun _ hk => ⟨hk.2, hk.1⟩)) hg hat); have n1_ := Aside0.mk (Kd.R_after (ok := (fun k_ => some k_ ≠ (.slice Ao25 x3_1.length co25 : Value).ownBlock)) (by (with_reducible repeat (first | apply Kd.R_alloc | apply Kd.R_drewN | apply Kd.R_drew)); exact Kd.R_mono HO138.out (fun _ hk => ⟨hk.1.2, hk.2⟩)) hg hat); have n2_ := Aside0.mk (hb); have n3_ := Aside0.mk (ho); clear HO_3; clear HO138; clear HB; clear HO_12; have HO_3 := n0_; have HO138 := n1_; have HB := n2_; have HO141 := n3_; clear n0_ n1_ n2_ n3_; clear ho hb hg hat))
               go_roundg k4
               case measure => have := HK1.out; have := HK2.out; have := HJ3.out; have := HK4.out; omega
               case rel => exact ⟨(y139), (wrap64 (x13_4 + 1)), (by first | rfl | (simp; done) | (simp [*]; done)), H', ⟨by have := HK1.out; have := HK2.out; have := HJ3.out; have := HK4.out; omega⟩, ⟨by (with_reducible repeat (first | apply Kd.R_alloc | apply Kd.R_drewN | apply Kd.R_drew)); exact Kd.R_mono HO_3.out (fun _ hk => hk.2)⟩, ⟨by (with_reducible repeat (first | apply Kd.R_alloc | apply Kd.R_drewN | apply Kd.R_drew)); exact Kd.R_mono HO141.out (fun _ hk => hk.1)⟩, ⟨by repeat (first | (with_reducible first | exact HB.out | apply below_alloc | apply pw_below_drewN | apply below_drew1) | exact HB.out)⟩⟩
              ·rw [if_neg c24] at H
               exact absurd H (by simp)
            ·rw [if_neg c19] at H
             have c19b0 : (x13_4 == x4_2) = false := beq_eq_false_iff_ne.mpr c19
             have c19b1 : (x13_4 != x4_2) = true := bne_iff_ne.mpr c19
             by_cases c30 : 0 ≤ x13_4
             ·rw [if_pos c30] at H
              have c30b0 : decide (0 ≤ x13_4) = true := decide_eq_true c30
              clear c30
              by_cases c31 : x12_4.length < 35184372088832
              ·rw [if_pos c31] at H
               have LMc31 := Aside0.mk c31
               clear c31
               obtain ⟨y143, hy143⟩ : ∃ y_ : List Int, y_ = (x12_4 ++ [rd x3_1 x13_4]) := ⟨_, rfl⟩
               replace H : (tremaref02_Decompose.l2 k4 x3_1 x4_2 x5_2 x6_2 x7_2 y143 (wrap64 (x13_4 + 1))) = some r := by first | (rw [hy143]; with_reducible exact H) | (have H2_ := (Option.bind_some _ _).symm.trans H; rw [hy143]; with_reducible exact H2_) | (have H2_ := (Option.bind_some _ _).symm.trans H; with_reducible exact H2_) | with_reducible exact H | (rw [hy143]; exact H) | exact H
               have Ny143 := Aside0.mk hy143
               clear hy143
               have H' := Aside0.mk H
               clear H
               obtain ⟨Ao32, co32, eo32⟩ := Kd.R_slice HO_3.out
               subst eo32
               have p142 : 0 ≤ (x13_4 : Int) := of_decide_eq_true (by first | (with_reducible assumption) | assumption)
               have q142 : x13_4 < (x3_1.length : Int) := of_decide_eq_true (by first | (with_reducible assumption) | assumption)
               obtain ⟨ad142, e142, hx142_0⟩ := Kd.at_int (Kd.R_reads' HO_3.out).2.2 x13_4 p142 q142
               cases e142
               replace p142 := eq_true p142
               replace q142 := eq_true q142
               go_wp2_with (first | ((with_reducible refine gate_builtin (b := .append) (xs := #[.tmp 53, .tmp 58]) rfl ?_); at_builtin; refine Kd.R_append (Kd.int .i32) (w0 := w) w.heap.size rfl (.tmp 53) (.tmp 58) 22 21 (.int .i32 0) 4 rfl Tryd.underlying22 info21 rfl (by decide) (by omega) u12 x12_4 (rd x3_1 x13_4) [.int .i32 (rd x3_1 x13_4)] (fun k_ => some k_ ≠ (.slice (some ad142) x3_1.length co32 : Value).ownBlock) (fun _ => False) rfl rfl ?aP (fun _ hk => hk.elim) ?aF ?aO ?aB ?aS ?aL ?_; (case aP => exact rfl); (case aB => exact (by repeat (first | (with_reducible first | exact HB.out | apply below_alloc | apply pw_below_drewN | apply below_drew1) | exact HB.out))); (case aF => exact (fun k_ hk => Kd.fresh' (Kd.R_lt (by (with_reducible repeat (first | apply Kd.R_alloc | apply Kd.R_drewN | apply Kd.R_drew)); exact HO_3.out)) k_ hk)); (case aO => exact (by (with_reducible repeat (first | apply Kd.R_alloc | apply Kd.R_drewN | apply Kd.R_drew)); exact HO_12.out)); (case aS => exact (below_size (by repeat (first | (with_reducible first | exact HB.out | apply below_alloc | apply pw_below_drewN | apply below_drew1) | exact HB.out)))); (case aL => have := LMc31.out; omega); intro v144 w33 ho hb hg hat; rw [← Ny143.out] at ho; have n0_ := Aside0.mk (Kd.R_after (ok := (fun _ => True)) (by (with_reducible repeat (first | apply Kd.R_alloc | apply Kd.R_drewN | apply Kd.R_drew)); exact Kd.R_mono HO_3.out (fun _ hk => ⟨trivial, hk⟩)) hg hat); have n1_ := Aside0.mk (hb); have n2_ := Aside0.mk (ho); clear HO_3; clear HB; clear HO_12; have HO_3 := n0_; have HB := n1_; have HO145 := n2_; clear n0_ n1_ n2_; clear ho hb hg hat))
               go_roundg k4
               case measure => have := HK1.out; have := HK2.out; have := HJ3.out; have := HK4.out; omega
               case rel => exact ⟨(y143), (wrap64 (x13_4 + 1)), (by first | rfl | (simp; done) | (simp [*]; done)), H', ⟨by have := HK1.out; have := HK2.out; have := HJ3.out; have := HK4.out; omega⟩, ⟨by (with_reducible repeat (first | apply Kd.R_alloc | apply Kd.R_drewN | apply Kd.R_drew)); exact Kd.R_mono HO_3.out (fun _ hk => hk.2)⟩, ⟨by (with_reducible repeat (first | apply Kd.R_alloc | apply Kd.R_drewN | apply Kd.R_drew)); exact HO145.out⟩, ⟨by repeat (first | (with_reducible first | exact HB.out | apply below_alloc | apply pw_below_drewN | apply below_drew1) | exact HB.out)⟩⟩
              ·rw [if_neg c31] at H
               exact absurd H (by simp)
             ·rw [if_neg c30] at H
              exact absurd H (by simp)
           ·rw [if_neg c18] at H
            have c18b0 : decide (x13_4 < (x3_1.length : Int)) = false := decide_eq_false c18
            clear c18
            have H' := Aside0.mk H
            clear H
            obtain ⟨Ao34, co34, eo34⟩ := Kd.R_slice HO_3.out
            subst eo34
            go_wp2
            go_roundg k4
            case measure => have := HK1.out; have := HK2.out; have := HJ3.out; have := HK4.out; omega
            case rel => exact ⟨(x12_4), H', ⟨by have := HK1.out; have := HK2.out; have := HJ3.out; have := HK4.out; omega⟩, ⟨by (with_reducible repeat (first | apply Kd.R_alloc | apply Kd.R_drewN | apply Kd.R_drew)); exact Kd.R_mono HO_12.out (fun _ hk => trivial)⟩, ⟨by repeat (first | (with_reducible first | exact HB.out | apply below_alloc | apply pw_below_drewN | apply below_drew1) | exact HB.out)⟩⟩
end Go.Proofs.YtiggjbclbdikmaaDoor.X
namespace Go.Proofs.YtiggjbclbdikmaaDoor.X
open Go.RowKit Go.Proofs.YtiggjbclbdikmaaDoorW.PrintWords Go.Proofs.YtiggjbclbdikmaaDoorW.PrintLast Go.Proofs.YtiggjbclbdikmaaDoorW.PrintMore
attribute [local go_sem] max2_int min2_int max_two min_two max_three min_three max_four min_four   
set_option linter.unusedVariables false
set_option linter.unusedSimpArgs false
def tremaref02_Opens.f (k : Nat) (a0 : Int) : Option (Bool) := (tremaref02_Decompose.f k a0).bind fun t356 => (if 0 < (t356.length : Int) then ((tremaref02_Class.f k (rd t356 0)).bind fun t360 => (if t360 = 0 then ((tremaref02_Trailing.f (rd t356 0)).bind fun t362 => (some (!t362))) else (some false))) else (none))
theorem tremaref02_Opens.mono : ∀ a0 k, LeO (tremaref02_Opens.f k a0) (tremaref02_Opens.f (k + 1) a0) := by
 intro a0 k
 unfold tremaref02_Opens.f
 repeat' first
   | (with_reducible exact tremaref02_Class.mono _ _)
   | (with_reducible exact tremaref02_Decompose.mono _ _)
   | (with_reducible exact LeO.refl _)
   | (with_reducible exact LeO.none _)
   | (with_reducible refine LeO.ite ?_ ?_)
   | (with_reducible refine LeO.bind ?_ (fun _ => ?_))
   | exact tremaref02_Class.mono _ _
   | exact tremaref02_Decompose.mono _ _
   | exact LeO.none _
   | refine LeO.ite ?_ ?_
   | refine LeO.bind ?_ (fun _ => ?_)
set_option maxHeartbeats 8000000 in
set_option maxRecDepth 100000 in
theorem tremaref02_Opens.calls (k : Nat) (a0 : Int) (r : Bool) (w : World) (h : tremaref02_Opens.f k a0 = some r) :
  Calls Tryd.prog 35 #[.int .i32 a0] w fun e w' => e = .returned (.bool r) ∧ Below w.heap.size w w' := by
 have HB := Aside0.mk (Below.refl w.heap.size w)
 have H : ((tremaref02_Decompose.f k a0).bind fun t356 => (if 0 < (t356.length : Int) then ((tremaref02_Class.f k (rd t356 0)).bind fun t360 => (if t360 = 0 then ((tremaref02_Trailing.f (rd t356 0)).bind fun t362 => (some (!t362))) else (some false))) else (none))) = some r := h
 clear h
 replace H := Option.bind_eq_some_iff.mp H
 obtain ⟨t356, A20, H⟩ := H
 replace H : (if 0 < (t356.length : Int) then ((tremaref02_Class.f k (rd t356 0)).bind fun t360 => (if t360 = 0 then ((tremaref02_Trailing.f (rd t356 0)).bind fun t362 => (some (!t362))) else (some false))) else (none)) = some r := H
 have A2 := Aside0.mk A20
 clear A20
 by_cases c3 : 0 < (t356.length : Int)
 ·rw [if_pos c3] at H
  have c3b0 : decide (0 < (t356.length : Int)) = true := decide_eq_true c3
  have c3b1 : decide (0 < t356.length) = true := decide_eq_true (by omega)
  clear c3
  replace H := Option.bind_eq_some_iff.mp H
  obtain ⟨t360, A40, H⟩ := H
  replace H : (if t360 = 0 then ((tremaref02_Trailing.f (rd t356 0)).bind fun t362 => (some (!t362))) else (some false)) = some r := H
  have A4 := Aside0.mk A40
  clear A40
  by_cases c5 : t360 = 0
  ·rw [if_pos c5] at H
   have c5b0 : (t360 == 0) = true := beq_iff_eq.mpr c5
   have c5b1 : (t360 != 0) = false := bne_eq_false_iff_eq.mpr c5
   clear c5
   replace H := Option.bind_eq_some_iff.mp H
   obtain ⟨t362, A60, H⟩ := H
   replace H : (some (!t362)) = some r := H
   have A6 := Aside0.mk A60
   clear A60
   obtain rfl := Option.some.inj H
   go_enter Tryd.func35, Tryd.ntmps35
   go_wp2_with (first | ((with_reducible refine gate_callee (f := 36) rfl ?_); refine goesL_ (some 5) rfl rfl Tryd.func36 (by kernel_rfl) rfl #[.int .i32 a0] rfl (by (try simp only [List.map_toArray, List.map_cons, List.map_nil]); first | done | rfl | (simp only [List.length_drop, List.length_take]; rfl)) ?_; (with_reducible refine (tremaref02_Decompose.calls k a0 t356 _ A2.out).mono ?_); rintro e w7 ⟨v357, rfl, ho0, hb⟩; refine ⟨_, rfl, ?_⟩; have n0_ := Aside0.mk (Kd.R_lower ho0 (below_size (by repeat (first | (with_reducible first | exact HB.out | apply below_alloc | apply pw_below_drewN | apply below_drew1) | exact HB.out)))); have n1_ := Aside0.mk (below_step (by repeat (first | (with_reducible first | exact HB.out | apply below_alloc | apply pw_below_drewN | apply below_drew1) | exact HB.out)) hb); clear HB; have HO358 := n0_; have HB := n1_; clear n0_ n1_; (try clear hb); (try clear hb2); (try clear hk); (try clear hi); (try clear ho0); obtain ⟨Ao8, co8, eo8⟩ := Kd.R_slice HO358.out; subst eo8; have p359 : 0 ≤ (0 : Int) := (by omega); have q359 : 0 < (t356.length : Int) := of_decide_eq_true (by first | (with_reducible assumption) | assumption); obtain ⟨ad359, e359, hx359_0⟩ := Kd.at_int (Kd.R_reads' HO358.out).2.2 0 p359 q359; cases e359; have qi359 : (0 < t356.length) = True := eq_true (by omega); (try rw [show ((0 : Int)).toNat = 0 from rfl] at hx359_0); (try rw [Addr.add_zero'] at hx359_0); replace p359 := eq_true p359; replace q359 := eq_true q359) | ((with_reducible refine gate_callee (f := 29) rfl ?_); refine goesL_ (some 9) rfl rfl Tryd.func29 (by kernel_rfl) rfl #[.int .i32 (rd t356 0)] rfl (by (try simp only [List.map_toArray, List.map_cons, List.map_nil]); first | done | rfl | (simp only [List.length_drop, List.length_take]; rfl)) ?_; (with_reducible refine (tremaref02_Class.calls k (rd t356 0) t360 _ A4.out).mono ?_); rintro e w' ⟨rfl, ⟨nd, rfl⟩⟩; refine ⟨_, rfl, ?_⟩; have p361 : 0 ≤ (0 : Int) := (by omega); have q361 : 0 < (t356.length : Int) := of_decide_eq_true (by first | (with_reducible assumption) | assumption); obtain ⟨ad361, e361, hx361_0⟩ := Kd.at_int (Kd.R_reads' HO358.out).2.2 0 p361 q361; obtain rfl : ad359 = ad361 := (by injection e361); have qi361 : (0 < t356.length) = True := eq_true (by omega); (try rw [show ((0 : Int)).toNat = 0 from rfl] at hx361_0); (try rw [Addr.add_zero'] at hx361_0); replace p361 := eq_true p361; replace q361 := eq_true q361) | (go_at_call 63; (with_reducible refine (tremaref02_Trailing.calls (rd t356 0) t362 _ A6.out).mono ?_); rintro e w' ⟨rfl, ⟨nd, rfl⟩⟩))
   go_ret
   exact ⟨by first | rfl | (simp [errW_none, errW_some] <;> rfl) | (simp [*, errW_none, errW_some] <;> rfl), by repeat (first | (with_reducible first | exact HB.out | apply below_alloc | apply pw_below_drewN | apply below_drew1) | exact HB.out)⟩
  ·rw [if_neg c5] at H
   have c5b0 : (t360 == 0) = false := beq_eq_false_iff_ne.mpr c5
   have c5b1 : (t360 != 0) = true := bne_iff_ne.mpr c5
   obtain rfl := Option.some.inj H
   go_enter Tryd.func35, Tryd.ntmps35
   go_wp2_with (first | ((with_reducible refine gate_callee (f := 36) rfl ?_); refine goesL_ (some 5) rfl rfl Tryd.func36 (by kernel_rfl) rfl #[.int .i32 a0] rfl (by (try simp only [List.map_toArray, List.map_cons, List.map_nil]); first | done | rfl | (simp only [List.length_drop, List.length_take]; rfl)) ?_; (with_reducible refine (tremaref02_Decompose.calls k a0 t356 _ A2.out).mono ?_); rintro e w9 ⟨v357, rfl, ho0, hb⟩; refine ⟨_, rfl, ?_⟩; have n0_ := Aside0.mk (Kd.R_lower ho0 (below_size (by repeat (first | (with_reducible first | exact HB.out | apply below_alloc | apply pw_below_drewN | apply below_drew1) | exact HB.out)))); have n1_ := Aside0.mk (below_step (by repeat (first | (with_reducible first | exact HB.out | apply below_alloc | apply pw_below_drewN | apply below_drew1) | exact HB.out)) hb); clear HB; have HO358 := n0_; have HB := n1_; clear n0_ n1_; (try clear hb); (try clear hb2); (try clear hk); (try clear hi); (try clear ho0); obtain ⟨Ao10, co10, eo10⟩ := Kd.R_slice HO358.out; subst eo10; have p359 : 0 ≤ (0 : Int) := (by omega); have q359 : 0 < (t356.length : Int) := of_decide_eq_true (by first | (with_reducible assumption) | assumption); obtain ⟨ad359, e359, hx359_0⟩ := Kd.at_int (Kd.R_reads' HO358.out).2.2 0 p359 q359; cases e359; have qi359 : (0 < t356.length) = True := eq_true (by omega); (try rw [show ((0 : Int)).toNat = 0 from rfl] at hx359_0); (try rw [Addr.add_zero'] at hx359_0); replace p359 := eq_true p359; replace q359 := eq_true q359) | ((with_reducible refine gate_callee (f := 29) rfl ?_); refine goesL_ (some 9) rfl rfl Tryd.func29 (by kernel_rfl) rfl #[.int .i32 (rd t356 0)] rfl (by (try simp only [List.map_toArray, List.map_cons, List.map_nil]); first | done | rfl | (simp only [List.length_drop, List.length_take]; rfl)) ?_; (with_reducible refine (tremaref02_Class.calls k (rd t356 0) t360 _ A4.out).mono ?_); rintro e w' ⟨rfl, ⟨nd, rfl⟩⟩; refine ⟨_, rfl, ?_⟩))
   go_ret
   exact ⟨by first | rfl | (simp [errW_none, errW_some] <;> rfl) | (simp [*, errW_none, errW_some] <;> rfl), by repeat (first | (with_reducible first | exact HB.out | apply below_alloc | apply pw_below_drewN | apply below_drew1) | exact HB.out)⟩
 ·rw [if_neg c3] at H
  exact absurd H (by simp)
end Go.Proofs.YtiggjbclbdikmaaDoor.X
namespace Go.Proofs.YtiggjbclbdikmaaDoor.Vu
set_option linter.unusedVariables false
set_option linter.unusedSimpArgs false
open Go.RowKit Go.Proofs.YtiggjbclbdikmaaDoorW.PrintWords Go.Proofs.YtiggjbclbdikmaaDoor.Ev0 Go.Proofs.YtiggjbclbdikmaaDoor.X Go.Proofs.YtiggjbclbdikmaaDoor.Va Go.Proofs.YtiggjbclbdikmaaDoor.Vc Go.Proofs.YtiggjbclbdikmaaDoor.Vd Go.Proofs.YtiggjbclbdikmaaDoor.Ve Go.Proofs.YtiggjbclbdikmaaDoor.Vp0 Go.Proofs.YtiggjbclbdikmaaDoor.Vr
def parts (x : Int) : List Int := if (pairU x).2.2 = 1 then [(pairU x).1] else [(pairU x).1, (pairU x).2.1]
theorem getLt {l : List Int} {i : Nat} (h : i < l.length) : (i : Int) < (l.length : Int) := by omega
theorem scan {l : List Int} {R : List Int} (hr : ∀ y ∈ l, I32 y) (hl : l.length ≤ 1000) (m : Nat) (hm : m ≤ l.length) (hz : ∀ i (h : i < m), (pairU (l[i]'(by omega))).2.2 = 0)
    (h : Ev (fun k => tremaref02_Decompose.l1 k l (-1) 0 0 0 (m : Int)) R) : Ev (fun k => tremaref02_Decompose.l0 k l) R := by
  refine Ev.step (fun k => tremaref02_Decompose.l0.eq_2 ..) ?_
  refine ev_range (n := m) (F := fun k i => tremaref02_Decompose.l1 k l (-1) 0 0 0 i) h (fun i hi ih => ?_) 0 (Nat.zero_le _)
  have hil : i < l.length := by omega
  have hy := hr _ (List.getElem_mem hil)
  unfold I32 at hy
  have hw := w64 (i := i) (by omega)
  have hzi := hz i hi
  refine Ev.step (fun k => tremaref02_Decompose.l1.eq_2 ..) ?_
  simp only [if_pos (getLt hil), show decide ((-1 : Int) < 0) = true from rfl]
  refine Ev.step (fun k => tremaref02_Decompose.j2.eq_2 ..) ?_
  simp only [if_true, if_pos (show (0 : Int) ≤ (i : Int) by omega), if_pos (getLt hil), rd_nat hil, tremaref02_Pair.f, if_pos hy, Option.bind_some, hzi, if_neg (show ¬ (0 : Int) > 0 by decide), hw]
  exact ih
theorem done {l : List Int} (hr : ∀ y ∈ l, I32 y) (hl : l.length ≤ 1000) (hz : ∀ y ∈ l, (pairU y).2.2 = 0) : Ev (fun k => tremaref02_Decompose.l0 k l) l := by
  refine scan hr hl l.length (Nat.le_refl _) (fun i h => hz _ (List.getElem_mem h)) ?_
  refine Ev.step (fun k => tremaref02_Decompose.l1.eq_2 ..) ?_
  simp only [if_neg (Int.lt_irrefl _)]
  refine Ev.step (fun k => tremaref02_Decompose.j2.eq_2 ..) ?_
  simp only [if_neg Bool.false_ne_true, if_pos (show (-1 : Int) < 0 by decide)]
  exact Ev.now _
def accU (p q : List Int) (x : Int) (i : Nat) : List Int := if i ≤ p.length then p.take i else p ++ parts x ++ q.take (i - p.length - 1)
theorem one {p q : List Int} {x : Int} {R : List Int} (hr : ∀ y ∈ p ++ [x] ++ q, I32 y) (hl : p.length + q.length ≤ 900) (hz : ∀ y ∈ p, (pairU y).2.2 = 0) (hx : (pairU x).2.2 = 1 ∨ (pairU x).2.2 = 2)
    (h : Ev (fun k => tremaref02_Decompose.l0 k (p ++ parts x ++ q)) R) : Ev (fun k => tremaref02_Decompose.l0 k (p ++ [x] ++ q)) R := by
  obtain ⟨l, hll⟩ : ∃ l, l = p ++ [x] ++ q := ⟨_, rfl⟩
  have hlen : l.length = p.length + 1 + q.length := by rw [hll]; simp; omega
  have hxx := hr x (by simp)
  unfold I32 at hxx
  have hpl : p.length < l.length := by omega
  have hpx : l[p.length]'hpl = x := by subst hll; simp
  have hpi : ∀ i (h : i < p.length), l[i]'(by omega) = p[i] := fun i h => by subst hll; simp [List.getElem_append, h]
  have hqi : ∀ i (h : i < q.length), l[p.length + 1 + i]'(by omega) = q[i] := fun i h => by
    subst hll
    rw [List.getElem_append_right (by simp)]
    congr 1
    simp
  rw [← hll] at hr ⊢
  clear hll
  refine scan hr (by omega) p.length (by omega) (fun i h => by rw [hpi i h]; exact hz _ (List.getElem_mem h)) ?_
  have hw := w64 (i := p.length) (by omega)
  refine Ev.step (fun k => tremaref02_Decompose.l1.eq_2 ..) ?_
  simp only [if_pos (getLt hpl), show decide ((-1 : Int) < 0) = true from rfl]
  refine Ev.step (fun k => tremaref02_Decompose.j2.eq_2 ..) ?_
  simp only [if_true, if_pos (show (0 : Int) ≤ (p.length : Int) by omega), if_pos (getLt hpl), rd_nat hpl, hpx, tremaref02_Pair.f, if_pos hxx, Option.bind_some, if_pos (show (pairU x).2.2 > 0 by omega), hw]
  have key : Ev (fun k => tremaref02_Decompose.j2 k l (p.length : Int) (pairU x).1 (pairU x).2.1 (pairU x).2.2 ((p.length + 1 : Nat) : Int) false) R := by
    refine Ev.step (fun k => tremaref02_Decompose.j2.eq_2 ..) ?_
    simp only [if_neg Bool.false_ne_true, if_neg (show ¬ (p.length : Int) < 0 by omega)]
    have start : accU p q x (0 : Int).toNat = [] := by simp [accU]
    have hacc : ∀ i, (accU p q x i).length ≤ 1000 := fun i => by
      unfold accU parts
      split
      · rw [List.length_take]; omega
      · split <;> simp <;> omega
    have loop := ev_range (n := l.length) (r := R) (F := fun k i => tremaref02_Decompose.l2 k l (p.length : Int) (pairU x).1 (pairU x).2.1 (pairU x).2.2 (accU p q x i.toNat) i) ?_ ?_ 0 (Nat.zero_le _)
    · have := loop
      simp only [Int.natCast_zero, start] at this
      exact this
    · refine Ev.step (fun k => tremaref02_Decompose.l2.eq_2 ..) ?_
      simp only [if_neg (Int.lt_irrefl _), Int.toNat_natCast]
      have he : accU p q x l.length = p ++ parts x ++ q := by
        unfold accU
        rw [if_neg (by omega), hlen, show p.length + 1 + q.length - p.length - 1 = q.length by omega, List.take_length]
      rw [he]
      exact h
    · intro i hi ih
      have hwi := w64 (i := i) (by omega)
      simp only [Int.toNat_natCast] at ih ⊢
      have ha := hacc i
      refine Ev.step (fun k => tremaref02_Decompose.l2.eq_2 ..) ?_
      simp only [if_pos (getLt hi), hwi]
      by_cases e : i = p.length
      · have ea : accU p q x (i + 1) = accU p q x i ++ parts x := by
          subst e
          unfold accU
          rw [if_neg (by omega), if_pos (Nat.le_refl _)]
          simp
        rw [ea] at ih
        simp only [if_pos (show (i : Int) = (p.length : Int) by omega)]
        rcases hx with h1 | h2
        · have hp : parts x = [(pairU x).1] := by unfold parts; rw [if_pos h1]
          rw [hp] at ih
          simp only [if_pos h1, if_pos (show (accU p q x i).length < 35184372088832 by omega)]
          exact ih
        · have hp : parts x = [(pairU x).1, (pairU x).2.1] := by unfold parts; rw [if_neg (by omega)]
          rw [hp] at ih
          simp only [if_neg (show ¬ (pairU x).2.2 = 1 by omega), Option.bind_some, if_pos (show (accU p q x i).length + ([(pairU x).1, (pairU x).2.1] : List Int).length < 35184372088832 by simp; omega)]
          exact ih
      · have ea : accU p q x (i + 1) = accU p q x i ++ [l[i]] := by
          unfold accU
          by_cases e2 : i < p.length
          · rw [if_pos (by omega), if_pos (by omega), hpi i e2, List.take_succ_eq_append_getElem e2]
          · obtain ⟨j, rfl⟩ : ∃ j, i = p.length + 1 + j := ⟨i - p.length - 1, by omega⟩
            have hj : j < q.length := by omega
            rw [if_neg (by omega), if_neg (by omega), hqi j hj, show p.length + 1 + j + 1 - p.length - 1 = j + 1 by omega, show p.length + 1 + j - p.length - 1 = j by omega, List.take_succ_eq_append_getElem hj]
            simp
        rw [ea] at ih
        simp only [if_neg (show ¬ (i : Int) = (p.length : Int) by omega), if_pos (show (0 : Int) ≤ (i : Int) by omega), if_pos (show (accU p q x i).length < 35184372088832 by omega), rd_nat hi]
        exact ih
  refine Ev.step (fun k => tremaref02_Decompose.l1.eq_2 ..) ?_
  by_cases hc : ((p.length + 1 : Nat) : Int) < (l.length : Int)
  · simp only [if_pos hc, decide_eq_false (show ¬ (p.length : Int) < 0 by omega)]
    exact key
  · simp only [if_neg hc]
    exact key
theorem decF_zeroes : ∀ (k : Nat) (x : Int), okF k x = true → (∀ y ∈ decF k x, (pairU y).2.2 = 0) ∧ (I32 x → ∀ y ∈ decF k x, I32 y)
  | 0, x, h => absurd h (by simp [okF])
  | k + 1, x, h => by
    have hp := pair_range x
    have ia : I32 (pairU x).1 := by unfold I32; omega
    have ib : I32 (pairU x).2.1 := by unfold I32; omega
    rw [okF] at h
    rw [decF]
    by_cases h0 : (pairU x).2.2 = 0
    · rw [if_pos h0]
      exact ⟨fun y hy => by simp at hy; subst hy; exact h0, fun hx y hy => by simp at hy; subst hy; exact hx⟩
    · rw [if_neg h0] at h ⊢
      by_cases h1 : (pairU x).2.2 = 1
      · rw [if_pos h1] at h ⊢
        have i1 := decF_zeroes k _ h
        exact ⟨i1.1, fun _ => i1.2 ia⟩
      · rw [if_neg h1, Bool.and_eq_true] at h
        rw [if_neg h1]
        have i1 := decF_zeroes k _ h.1
        have i2 := decF_zeroes k _ h.2
        refine ⟨fun y hy => ?_, fun _ y hy => ?_⟩
        · rcases List.mem_append.1 hy with hy | hy
          · exact i1.1 y hy
          · exact i2.1 y hy
        · rcases List.mem_append.1 hy with hy | hy
          · exact i1.2 ia y hy
          · exact i2.2 ib y hy
theorem expand : ∀ (k : Nat) (x : Int) (p q R : List Int), okF k x = true → (∀ y ∈ p ++ [x] ++ q, I32 y) → p.length + 2 ^ k + q.length ≤ 900 → (∀ y ∈ p, (pairU y).2.2 = 0) →
    Ev (fun n => tremaref02_Decompose.l0 n (p ++ decF k x ++ q)) R → Ev (fun n => tremaref02_Decompose.l0 n (p ++ [x] ++ q)) R
  | 0, x, p, q, R, h, _, _, _, _ => absurd h (by simp [okF])
  | k + 1, x, p, q, R, h, hr, hl, hz, hE => by
    have hp := pair_range x
    have ia : I32 (pairU x).1 := by unfold I32; omega
    have ib : I32 (pairU x).2.1 := by unfold I32; omega
    have hpow : 0 < 2 ^ k := Nat.two_pow_pos k
    rw [Nat.pow_succ] at hl
    have hrp : ∀ y ∈ p, I32 y := fun y hy => hr y (by simp [hy])
    have hrq : ∀ y ∈ q, I32 y := fun y hy => hr y (by simp [hy])
    rw [okF] at h
    rw [decF] at hE
    by_cases h0 : (pairU x).2.2 = 0
    · rw [if_pos h0] at hE
      exact hE
    · rw [if_neg h0] at h hE
      by_cases h1 : (pairU x).2.2 = 1
      · rw [if_pos h1] at h hE
        refine one hr (by omega) hz (.inl h1) ?_
        have hpa : parts x = [(pairU x).1] := by unfold parts; rw [if_pos h1]
        rw [hpa]
        exact expand k _ p q R h (fun y hy => by simp at hy; rcases hy with hy | rfl | hy; exact hrp y hy; exact ia; exact hrq y hy) (by omega) hz hE
      · rw [if_neg h1] at h hE
        rw [Bool.and_eq_true] at h
        refine one hr (by omega) hz (.inr (by omega)) ?_
        have hpa : parts x = [(pairU x).1, (pairU x).2.1] := by unfold parts; rw [if_neg h1]
        rw [hpa, show p ++ [(pairU x).1, (pairU x).2.1] ++ q = p ++ [(pairU x).1] ++ ((pairU x).2.1 :: q) by simp]
        refine expand k _ p _ R h.1 (fun y hy => by simp at hy; rcases hy with hy | rfl | rfl | hy; exact hrp y hy; exact ia; exact ib; exact hrq y hy) (by simp; omega) hz ?_
        rw [show p ++ decF k (pairU x).1 ++ ((pairU x).2.1 :: q) = (p ++ decF k (pairU x).1) ++ [(pairU x).2.1] ++ q by simp]
        have i1 := decF_zeroes k _ h.1
        have hlen := decF_len k (pairU x).1
        refine expand k _ _ q R h.2 (fun y hy => ?_) (by rw [List.length_append]; omega) (fun y hy => ?_) (by simpa using hE)
        · simp at hy
          rcases hy with hy | hy | rfl | hy
          · exact hrp y hy
          · exact i1.2 ia y hy
          · exact ib
          · exact hrq y hy
        · rcases List.mem_append.1 hy with hy | hy
          · exact hz y hy
          · exact i1.1 y hy
theorem refdec (r : Int) (hr : I32 r) : Ev (fun k => tremaref02_Decompose.f k r) (decU r) := by
  unfold tremaref02_Decompose.f
  have hz := decF_zeroes 4 r (okAll r)
  have hlen : (decU r).length ≤ 2 ^ 4 := decF_len 4 r
  refine expand 4 r [] [] _ (okAll r) (fun y hy => by simp at hy; subst hy; exact hr) (by decide) (by simp) ?_
  rw [List.nil_append, List.append_nil]
  exact done (hz.2 hr) (by have h2 : (decF 4 r).length ≤ 2 ^ 4 := decF_len 4 r; omega) hz.1
end Go.Proofs.YtiggjbclbdikmaaDoor.Vu
namespace Go.Proofs.YtiggjbclbdikmaaDoor.Oa
set_option linter.unusedVariables false
set_option linter.unusedSimpArgs false
open Go.Proofs.YtiggjbclbdikmaaDoor.Vd (decU)
open Go.Proofs.YtiggjbclbdikmaaDoor.Fr (sure sure_of sure_spec)
open Go.RowKit Go.Proofs.YtiggjbclbdikmaaDoorW.PrintWords Go.Proofs.YtiggjbclbdikmaaDoor.Ev0 Go.Proofs.YtiggjbclbdikmaaDoor.X Go.Proofs.YtiggjbclbdikmaaDoor.Va Go.Proofs.YtiggjbclbdikmaaDoor.Vc Go.Proofs.YtiggjbclbdikmaaDoor.Ve Go.Proofs.YtiggjbclbdikmaaDoor.Vp0 Go.Proofs.YtiggjbclbdikmaaDoor.Vr Go.Proofs.YtiggjbclbdikmaaDoor.Vu Go.Proofs.YtiggjbclbdikmaaDoor.Na
def flat (l : List Int) : List Int := l.flatMap decU
def nrm (l : List Int) : List Int := ordL (flat l)
theorem flat_cons (x : Int) (l : List Int) : flat (x :: l) = decU x ++ flat l := List.flatMap_cons ..
theorem flat_app (a b : List Int) : flat (a ++ b) = flat a ++ flat b := List.flatMap_append ..
theorem dec_len3 (x : Int) (hx : I32 x) : (decU x).length ≤ 3 := (bottom x hx).hi
theorem flat_len (l : List Int) (hl : ∀ x ∈ l, I32 x) : (flat l).length ≤ 3 * l.length := by
  induction l with
  | nil => simp [flat]
  | cons x t ih =>
    have := ih (fun y hy => hl y (List.mem_cons_of_mem _ hy))
    have := dec_len3 x (hl x (List.mem_cons_self ..))
    rw [flat_cons, List.length_append, List.length_cons]
    omega
def Rd : List Int → Prop
  | [] => True
  | [_] => True
  | y :: x :: t => (cls y = 0 ∨ cls x ≤ cls y) ∧ Rd (x :: t)
theorem Rd.tail {x : Int} {t : List Int} (h : Rd (x :: t)) : Rd t := by
  cases t with
  | nil => trivial
  | cons y t => exact h.2
theorem ordR_snoc (l : List Int) (x : Int) : ordR (l ++ [x]) = ins x (ordR l) := by unfold ordR; rw [List.foldl_append]; rfl
theorem nrm_len (l : List Int) : (nrm l).length = (flat l).length := ordL_len _
theorem normEv (l : List Int) (hwf : ∀ x ∈ l, I32 x) (hl : l.length ≤ 100000000) : Ev (fun k => norm_Normal.f k l) (nrm l) := by
  unfold norm_Normal.f
  have key := ev_range (n := l.length) (F := fun k i => norm_Normal.l0 k (flat (l.take i.toNat)) l (l.length : Int) i) (r := nrm l) ?_ ?_ 0 (Nat.zero_le _)
  · exact key
  · refine Ev.step (fun k => norm_Normal.l0.eq_2 ..) ?_
    have := flat_len l hwf
    simp only [if_neg (Int.lt_irrefl _), Int.toNat_natCast, List.take_length, norm_ordered.f, if_pos (show (flat l).length ≤ 1000000000000000 by omega), Option.bind_some]
    exact Ev.now _
  · intro i hi ih
    have hw := w64 (i := i) (by omega)
    have hx32 := hwf l[i] (List.getElem_mem hi)
    have hx := hx32
    unfold I32 at hx32
    have e : flat (l.take (i + 1)) = flat (l.take i) ++ decU l[i] := by
      rw [List.take_succ_eq_append_getElem hi, flat_app]
      simp [flat]
    have h1 := flat_len (l.take i) (fun x hx => hwf x (List.mem_of_mem_take hx))
    have h2 := dec_len3 l[i] hx
    rw [List.length_take] at h1
    refine Ev.step (fun k => norm_Normal.l0.eq_2 ..) ?_
    simp only [Int.toNat_natCast] at ih ⊢
    simp only [if_pos (getLt hi), if_pos (show (0 : Int) ≤ (i : Int) by omega), rd_nat hi, ucd_Decompose.f, if_pos hx32, Option.bind_some, if_pos (show (flat (l.take i)).length + (decU l[i]).length < 35184372088832 by omega), hw, ← e]
    exact ih
end Go.Proofs.YtiggjbclbdikmaaDoor.Oa
